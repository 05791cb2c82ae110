/- Part 14. -/
import Derived.Test.YtopmcbahdgfleaaGreatPart06
import Derived.Test.YtopmcbahdgfleaaGreatProg
import Derived.Test.YtopmcbahdgfleaaGreatPart09
import Derived.KernelRfl
import Derived.WalkKit
import Derived.Lib.Walk
import Derived.BigCall
import Derived.BigGuard
set_option linter.unusedVariables false
set_option linter.unusedSimpArgs false
namespace Go.Px
open Go.Proofs
set_option maxRecDepth 100000
theorem mix : Tryz.prog.follows .mixedOrders = true := by kernel_rfl
theorem nl : Vd Tryz.prog 95 Ke := vt mix dC PE [] g0 rfl (fun _ _ => rfl) fun O x => by kernel_rfl
theorem UD : Vd Tryz.prog 162 CR := vt mix UU T8 [] g0 rfl (fun _ _ => rfl) fun O x => by kernel_rfl
theorem gJ : Vd Tryz.prog 96 FP := vt mix UP Ik [(162, CR)] (gs UD g0) rfl (fun _ _ => rfl) fun O x => by kernel_rfl
theorem iT : Vd Tryz.prog 97 Gz := vt mix WY Jr [(162, CR)] (gs UD g0) rfl (fun _ _ => rfl) fun O x => by kernel_rfl
theorem Cb : Vd Tryz.prog 52 AS := vt mix YK K3 [(95, Ke), (96, FP), (97, Gz)] (gs nl (gs gJ (gs iT g0))) rfl (fun _ _ => rfl) fun O x => by kernel_rfl
theorem W2 : Vd Tryz.prog 196 Ct := fun N h =>
 Pc mix (T := 22) (e := 122) (b := 24) Tryz.func196 Tryz.underlying22 (by kernel_rfl) (by decide) (fun O l => by kernel_rfl) (fun O l => by kernel_rfl) h
theorem YN : Vd Tryz.prog 141 C1 := vt mix YP LC [(196, Ct)] (gs W2 g0) rfl (fun _ _ => rfl) fun O x => by kernel_rfl
theorem np : Vd Tryz.prog 81 PT := vt mix cc Pa [(52, AS), (141, C1)] (gs Cb (gs YN g0)) rfl (fun _ _ => rfl) fun O x => by kernel_rfl
theorem Dz : Vd Tryz.prog 53 Ag := vt mix RE RI [] g0 rfl (fun _ _ => rfl) fun O x => by kernel_rfl
theorem bQ : Vd Tryz.prog 54 D8 := vt mix Q3 GD [(53, Ag)] (gs Dz g0) rfl (fun _ _ => rfl) fun O x => by kernel_rfl
theorem Zz : Vd Tryz.prog 163 DT := vt mix QD Fe [] g0 rfl (fun _ _ => rfl) fun O x => by kernel_rfl
theorem Gx : Vd Tryz.prog 98 Al := vt mix L4 Dk [(163, DT)] (gs Zz g0) rfl (fun _ _ => rfl) fun O x => by kernel_rfl
theorem Y2 : Vd Tryz.prog 55 DB := vt mix OQ E4 [(53, Ag), (98, Al)] (gs Dz (gs Gx g0)) rfl (fun _ _ => rfl) fun O x => by kernel_rfl
theorem Y5 : Vd Tryz.prog 100 DC := vt mix OZ E3 [(53, Ag)] (gs Dz g0) rfl (fun _ _ => rfl) fun O x => by kernel_rfl
theorem bO : Vd Tryz.prog 56 D2 := vt mix RJ GE [(100, DC)] (gs Y5 g0) rfl (fun _ _ => rfl) fun O x => by kernel_rfl
theorem N8 : Vd Tryz.prog 16 BB := vt mix Ts IX [(52, AS), (53, Ag), (54, D8), (55, DB), (56, D2)] (gs Cb (gs Dz (gs bQ (gs Y2 (gs bO g0))))) rfl (fun _ _ => rfl) fun O x => by kernel_rfl
theorem eS : Vd Tryz.prog 165 Cg := vt mix TU Lt [] g0 rfl (fun _ _ => rfl) fun O x => by kernel_rfl
theorem WI : Vd Tryz.prog 103 Bv := vt mix V6 EO [(165, Cg)] (gs eS g0) rfl (fun _ _ => rfl) fun O x => by kernel_rfl
theorem NG : Vd Tryz.prog 61 BA := vt mix UM Dn [(103, Bv)] (gs WI g0) rfl (fun _ _ => rfl) fun O x => by kernel_rfl
theorem YB : Vd Tryz.prog 62 Cc := vt mix Yc FD [] g0 rfl (fun _ _ => rfl) fun O x => by kernel_rfl
theorem dr : Vd Tryz.prog 18 DG := vt mix Su He [(16, BB), (61, BA), (62, Cc)] (gs N8 (gs NG (gs YB g0))) rfl (fun _ _ => rfl) fun O x => by kernel_rfl
theorem Di : Vd Tryz.prog 77 AU := fun N h =>
 Pc mix (T := 27) (e := 97) (b := 1) Tryz.func77 Tryz.underlying27 (by kernel_rfl) (by decide) (fun O l => by kernel_rfl) (fun O l => by kernel_rfl) h
theorem Fh : Vd Tryz.prog 78 Ae := fun N h =>
 Pc mix (T := 28) (e := 3) (b := 8) Tryz.func78 Tryz.underlying28 (by kernel_rfl) (by decide) (fun O l => by kernel_rfl) (fun O l => by kernel_rfl) h
theorem E2 : Vd Tryz.prog 79 Aa := fun N h =>
 Pc mix (T := 29) (e := 4) (b := 1) Tryz.func79 Tryz.underlying29 (by kernel_rfl) (by decide) (fun O l => by kernel_rfl) (fun O l => by kernel_rfl) h
theorem CO : Vd Tryz.prog 30 AP := vt mix UO Ij [(77, AU), (78, Ae), (79, Aa)] (gs Di (gs Fh (gs E2 g0))) rfl (fun _ _ => rfl) fun O x => by kernel_rfl
theorem iS : Vd Tryz.prog 104 GR := vt mix V0 KE [] g0 rfl (fun _ _ => rfl) fun O x => by kernel_rfl
theorem fQ : Vd Tryz.prog 105 Fx := vt mix UI Ng [] g0 rfl (fun _ _ => rfl) fun O x => by kernel_rfl
open Go.RowKit Go.Lib in
set_option maxHeartbeats 1000000 in
theorem Rq (s : ByteArray) (c : Int) (w : World) : Calls Tryz.prog 210 #[.string s, .int .u8 c] w fun e w' => e = .returned (.int .i64 (Lib.indexByte s.data.toList c.toNat.toUInt8)) ∧ w' = w := by
 go_enter Tryz.func210, Tryz.ntmps210
 go_wp2
 rw [run_callFunc_extern Tryz.func226 (by kernel_rfl) (by kernel_rfl) (by kernel_rfl) (e := Extern.BytealgIndexByte.indexByte) (by kernel_rfl), Lib.run_indexByteString]
 simp only [Result.andThen]
 rw [Oper.upon_value]
 go_wp2
 go_ret
 exact ⟨rfl, rfl⟩
theorem TX : Vd Tryz.prog 210 CH := fun N h =>
 nI Tryz.func210 (T9 := 9) (T5 := 5) (T3 := 3) rfl rfl Tryz.underlying9 Tryz.underlying5 Tryz.underlying3 (by kernel_rfl) Rq h
theorem Yw : Vd Tryz.prog 166 DD := vt mix OU Ez [(210, CH)] (gs TX g0) rfl (fun _ _ => rfl) fun O x => by kernel_rfl
theorem j9 : Vd Tryz.prog 167 FC := vt mix YL YU [] g0 rfl (fun _ _ => rfl) fun O x => by kernel_rfl
theorem lR : Vd Tryz.prog 106 Ja := vt mix aS MZ [(166, DD), (167, FC)] (gs Yw (gs j9 g0)) rfl (fun _ _ => rfl) fun O x => by kernel_rfl
theorem ZF : Vd Tryz.prog 168 DR := vt mix QU I2 [] g0 rfl (fun _ _ => rfl) fun O x => by kernel_rfl
theorem dQ : Vd Tryz.prog 107 EY := vt mix SP Hh [(168, DR)] (gs ZF g0) rfl (fun _ _ => rfl) fun O x => by kernel_rfl
theorem Yn : Vd Tryz.prog 65 C3 := vt mix YV Hm [(104, GR), (105, Fx), (106, Ja), (107, EY)] (gs iS (gs fQ (gs lR (gs dQ g0)))) rfl (fun _ _ => rfl) fun O x => by kernel_rfl
theorem bZ : Vd Tryz.prog 109 D3 := vt mix RL KO [] g0 rfl (fun _ _ => rfl) fun O x => by kernel_rfl
theorem gQ : Vd Tryz.prog 66 Fg := vt mix UR Ib [(109, D3)] (gs bZ g0) rfl (fun _ _ => rfl) fun O x => by kernel_rfl
theorem Ge : Vd Tryz.prog 170 Au := vt mix ac Nw [(77, AU), (78, Ae), (79, Aa)] (gs Di (gs Fh (gs E2 g0))) rfl (fun _ _ => rfl) fun O x => by kernel_rfl
theorem GL : Vd Tryz.prog 171 As := vt mix WM Jy [] g0 rfl (fun _ _ => rfl) fun O x => by kernel_rfl
theorem jv : Vd Tryz.prog 110 Hk := vt mix Yj LA [(103, Bv), (170, Au), (171, As)] (gs WI (gs Ge (gs GL g0))) rfl (fun _ _ => rfl) fun O x => by kernel_rfl
theorem VX : Vd Tryz.prog 172 CZ := vt mix cK Pj [(77, AU), (78, Ae), (79, Aa)] (gs Di (gs Fh (gs E2 g0))) rfl (fun _ _ => rfl) fun O x => by kernel_rfl
theorem Qw : Vd Tryz.prog 211 Bl := vt mix YC K6 [] g0 rfl (fun _ _ => rfl) fun O x => by kernel_rfl
theorem mC : Vd Tryz.prog 212 Jd := vt mix ZK Nq [(52, AS), (211, Bl)] (gs Cb (gs Qw g0)) rfl (fun _ _ => rfl) fun O x => by kernel_rfl
theorem mz : Vd Tryz.prog 173 Kl := vt mix cR PU [(52, AS), (98, Al), (211, Bl), (212, Jd)] (gs Cb (gs Gx (gs Qw (gs mC g0)))) rfl (fun _ _ => rfl) fun O x => by kernel_rfl
theorem lU : Vd Tryz.prog 111 I3 := vt mix ai Mv [(172, CZ), (173, Kl)] (gs VX (gs mz g0)) rfl (fun _ _ => rfl) fun O x => by kernel_rfl
theorem dW : Vd Tryz.prog 37 Eg := vt mix TC Sp [] g0 rfl (fun _ _ => rfl) fun O x => by kernel_rfl
theorem Yo : Vd Tryz.prog 223 DF := vt mix OO E1 [] g0 rfl (fun _ _ => rfl) fun O x => by kernel_rfl
theorem Se : Vd Tryz.prog 197 CD := vt mix TF Hb [(223, DF)] (gs Yo g0) rfl (fun _ _ => rfl) fun O x => by kernel_rfl
theorem Yr : Vd Tryz.prog 198 DE := vt mix OY E0 [] g0 rfl (fun _ _ => rfl) fun O x => by kernel_rfl
theorem Q4 : Vd Tryz.prog 142 Bx := vt mix RA GA [(197, CD), (198, DE)] (gs Se (gs Yr g0)) rfl (fun _ _ => rfl) fun O x => by kernel_rfl
theorem Hz : Vd Tryz.prog 181 Ax := vt mix Yi LR [] g0 rfl (fun _ _ => rfl) fun O x => by kernel_rfl
theorem HU : Vd Tryz.prog 182 Aw := vt mix TR HQ [(181, Ax)] (gs Hz g0) rfl (fun _ _ => rfl) fun O x => by kernel_rfl
theorem gU : Vd Tryz.prog 227 Fq := vt mix UV It [] g0 rfl (fun _ _ => rfl) fun O x => by kernel_rfl
theorem jw : Vd Tryz.prog 213 H2 := vt mix Ye LF [(181, Ax), (182, Aw), (227, Fq)] (gs Hz (gs HU (gs gU g0))) rfl (fun _ _ => rfl) fun O x => by kernel_rfl
theorem Q5 : Vd Tryz.prog 232 BZ := vt mix Q9 Q8 [] g0 rfl (fun _ _ => rfl) fun O x => by kernel_rfl
theorem iE : Vd Tryz.prog 228 G4 := vt mix WL Jn [(232, BZ)] (gs Q5 g0) rfl (fun _ _ => rfl) fun O x => by kernel_rfl
theorem Z7 : Vd Tryz.prog 233 DY := vt mix Pz Ff [] g0 rfl (fun _ _ => rfl) fun O x => by kernel_rfl
theorem Vq : Vd Tryz.prog 229 Ck := vt mix MH Dl [(233, DY)] (gs Z7 g0) rfl (fun _ _ => rfl) fun O x => by kernel_rfl
theorem Y6 : Vd Tryz.prog 234 Da := vt mix QP Fb [] g0 rfl (fun _ _ => rfl) fun O x => by kernel_rfl
theorem dk : Vd Tryz.prog 230 Es := vt mix SS Hf [(232, BZ), (234, Da)] (gs Q5 (gs Y6 g0)) rfl (fun _ _ => rfl) fun O x => by kernel_rfl
theorem U9 : Vd Tryz.prog 235 CW := vt mix Ko DN [] g0 rfl (fun _ _ => rfl) fun O x => by kernel_rfl
theorem Xb : Vd Tryz.prog 231 Cp := vt mix NC ED [(235, CW)] (gs U9 g0) rfl (fun _ _ => rfl) fun O x => by kernel_rfl
theorem Xm : Vd Tryz.prog 214 Cw := vt mix NA EA [(228, G4), (229, Ck), (230, Es), (231, Cp)] (gs iE (gs Vq (gs dk (gs Xb g0)))) rfl (fun _ _ => rfl) fun O x => by kernel_rfl
theorem j4 : Vd Tryz.prog 215 Ht := vt mix YD Le [(181, Ax), (182, Aw)] (gs Hz (gs HU g0)) rfl (fun _ _ => rfl) fun O x => by kernel_rfl
theorem bc : Vd Tryz.prog 174 Dw := vt mix RD F8 [(61, BA), (197, CD), (213, H2), (214, Cw), (215, Ht)] (gs NG (gs Se (gs jw (gs Xm (gs j4 g0))))) rfl (fun _ _ => rfl) fun O x => by kernel_rfl
theorem ll : Vd Tryz.prog 175 JB := vt mix Y7 Md [(170, Au), (171, As)] (gs Ge (gs GL g0)) rfl (fun _ _ => rfl) fun O x => by kernel_rfl
theorem mq : Vd Tryz.prog 176 JZ := vt mix aE Mm [(52, AS), (98, Al), (172, CZ), (211, Bl)] (gs Cb (gs Gx (gs VX (gs Qw g0)))) rfl (fun _ _ => rfl) fun O x => by kernel_rfl
theorem eW : Vd Tryz.prog 177 Fm := vt mix UX Il [(170, Au)] (gs Ge g0) rfl (fun _ _ => rfl) fun O x => by kernel_rfl
theorem iX : Vd Tryz.prog 112 GN := vt mix V4 J2 [(30, AP), (37, Eg), (142, Bx), (174, Dw), (175, JB), (176, JZ), (177, Fm)] (gs CO (gs dW (gs Q4 (gs bc (gs ll (gs mq (gs eW g0))))))) rfl (fun _ _ => rfl) fun O x => by kernel_rfl
theorem Z4 : Vd Tryz.prog 178 Db := vt mix Zo Mb [(61, BA), (171, As)] (gs NG (gs GL g0)) rfl (fun _ _ => rfl) fun O x => by kernel_rfl
theorem eO : Vd Tryz.prog 113 EW := vt mix TL HX [(170, Au), (171, As), (178, Db)] (gs Ge (gs GL (gs Z4 g0))) rfl (fun _ _ => rfl) fun O x => by kernel_rfl
theorem iW : Vd Tryz.prog 114 G0 := vt mix WC J4 [(170, Au), (178, Db)] (gs Ge (gs Z4 g0)) rfl (fun _ _ => rfl) fun O x => by kernel_rfl
theorem ec : Vd Tryz.prog 115 Fc := vt mix Uk Is [(62, Cc), (170, Au), (171, As)] (gs YB (gs Ge (gs GL g0))) rfl (fun _ _ => rfl) fun O x => by kernel_rfl
theorem VD : Vd Tryz.prog 180 CT := vt mix cW PK [(77, AU), (78, Ae), (79, Aa)] (gs Di (gs Fh (gs E2 g0))) rfl (fun _ _ => rfl) fun O x => by kernel_rfl
theorem fj : Vd Tryz.prog 116 FO := vt mix Tr Ih [(180, CT)] (gs VD g0) rfl (fun _ _ => rfl) fun O x => by kernel_rfl
theorem gt : Vd Tryz.prog 117 Gc := vt mix Wj Ju [(180, CT), (181, Ax), (182, Aw)] (gs VD (gs Hz (gs HU g0))) rfl (fun _ _ => rfl) fun O x => by kernel_rfl
theorem Zl : Vd Tryz.prog 118 DW := vt mix P5 Ft [(180, CT), (181, Ax), (182, Aw)] (gs VD (gs Hz (gs HU g0))) rfl (fun _ _ => rfl) fun O x => by kernel_rfl
theorem ee : Vd Tryz.prog 119 Fl := vt mix Ui Ip [(52, AS), (172, CZ)] (gs Cb (gs VX g0)) rfl (fun _ _ => rfl) fun O x => by kernel_rfl
theorem bV : Vd Tryz.prog 120 Dy := vt mix RN GH [(30, AP)] (gs CO g0) rfl (fun _ _ => rfl) fun O x => by kernel_rfl
theorem Q7 : Vd Tryz.prog 28 Bw := vt mix RG GC [(30, AP)] (gs CO g0) rfl (fun _ _ => rfl) fun O x => by kernel_rfl
theorem bR : Vd Tryz.prog 121 D6 := vt mix Q2 GF [(28, Bw), (30, AP)] (gs Q7 (gs CO g0)) rfl (fun _ _ => rfl) fun O x => by kernel_rfl
theorem dv : Vd Tryz.prog 122 Ej := vt mix S5 EZ [(30, AP)] (gs CO g0) rfl (fun _ _ => rfl) fun O x => by kernel_rfl
theorem gD : Vd Tryz.prog 20 Fn := vt mix Tw Tz [] g0 rfl (fun _ _ => rfl) fun O x => by kernel_rfl
theorem dL : Vd Tryz.prog 123 Ea := vt mix SK HW [(20, Fn), (30, AP)] (gs gD (gs CO g0)) rfl (fun _ _ => rfl) fun O x => by kernel_rfl
theorem bK : Vd Tryz.prog 67 D4 := vt mix RK D7 [(110, Hk), (111, I3), (112, GN), (113, EW), (114, G0), (115, Fc), (116, FO), (117, Gc), (118, DW), (119, Fl), (120, Dy), (121, D6), (122, Ej), (123, Ea)] (gs jv (gs lU (gs iX (gs eO (gs iW (gs ec (gs fj (gs gt (gs Zl (gs ee (gs bV (gs bR (gs dv (gs dL g0)))))))))))))) rfl (fun _ _ => rfl) fun O x => by kernel_rfl
theorem ig : Vd Tryz.prog 22 Gh := vt mix WH J6 [(16, BB), (18, DG), (30, AP), (65, C3), (66, Fg), (67, D4)] (gs N8 (gs dr (gs CO (gs Yn (gs gQ (gs bK g0)))))) rfl (fun _ _ => rfl) fun O x => by kernel_rfl
theorem fL : Vd Tryz.prog 25 FV := vt mix UG Iw [(52, AS), (53, Ag)] (gs Cb (gs Dz g0)) rfl (fun _ _ => rfl) fun O x => by kernel_rfl
theorem LH : Vd Tryz.prog 156 BC := vt mix Ym Ld [] g0 rfl (fun _ _ => rfl) fun O x => by kernel_rfl
theorem X3 : Vd Tryz.prog 154 C2 := vt mix Yk LT [(156, BC)] (gs LH g0) rfl (fun _ _ => rfl) fun O x => by kernel_rfl
theorem kJ : Vd Tryz.prog 155 H3 := vt mix YM LJ [] g0 rfl (fun _ _ => rfl) fun O x => by kernel_rfl
theorem Yd : Vd Tryz.prog 91 Cz := vt mix X6 LL [(16, BB), (52, AS), (154, C2), (155, H3)] (gs N8 (gs Cb (gs X3 (gs kJ g0)))) rfl (fun _ _ => rfl) fun O x => by kernel_rfl
theorem j7 : Vd Tryz.prog 92 Hl := vt mix YH LQ [(30, AP), (141, C1)] (gs CO (gs YN g0)) rfl (fun _ _ => rfl) fun O x => by kernel_rfl
theorem Qm : Vd Tryz.prog 160 Bj := vt mix Yg LS [] g0 rfl (fun _ _ => rfl) fun O x => by kernel_rfl
theorem P6 : Vd Tryz.prog 208 Bd := vt mix P3 FY [] g0 rfl (fun _ _ => rfl) fun O x => by kernel_rfl
theorem gh : Vd Tryz.prog 161 Fu := vt mix UE Im [(91, Cz), (156, BC), (160, Bj), (208, Bd)] (gs Yd (gs LH (gs Qm (gs P6 g0)))) rfl (fun _ _ => rfl) fun O x => by kernel_rfl
theorem iM : Vd Tryz.prog 207 Gq := vt mix Vv Jo [(156, BC), (160, Bj)] (gs LH (gs Qm g0)) rfl (fun _ _ => rfl) fun O x => by kernel_rfl
theorem me : Vd Tryz.prog 49 M6 := vt mix ar Mi [(22, Gh), (25, FV), (28, Bw), (65, C3), (91, Cz), (92, Hl), (154, C2), (156, BC), (160, Bj), (161, Fu), (207, Gq), (208, Bd)] (gs ig (gs fL (gs Q7 (gs Yn (gs Yd (gs j7 (gs X3 (gs LH (gs Qm (gs gh (gs iM (gs P6 g0)))))))))))) rfl (fun _ _ => rfl) fun O x => by kernel_rfl
def fU : Cfg := { gam := [⟨49, [], true, true, []⟩], imm := false, old := false }
theorem nN (O : Alg) (x : Ags O) : XF (O := O) Tryz.prog fU false false [] 82 [] (xr x Xq 0) = N4 O x := by kernel_rfl
theorem oo {E : Env} {M : Nat} (N : Nat) (h : ∀ ls, E 82 [] ls = NL N ls) : VV Tryz.prog E M ⟨82, [], false, false, []⟩ :=
 Ay mix (E := Gn N) (N := N) (cfg := fU) (ci := ⟨82, [], false, false, []⟩) (ks := Xq) (AF (me N (fun _ => rfl)) BV) (c := NL N) (F := fun ls => N4 (std (Gn N) N) (xOf ls)) (fun ls => rfl) (fun ls => nN (std (Gn N) N) (xOf ls)) h
theorem gX : Vd Tryz.prog 83 Iq := vt mix Tq Ia [(142, Bx)] (gs Q4 g0) rfl (fun _ _ => rfl) fun O x => by kernel_rfl
def gC : Cfg := { gam := [⟨81, [], true, true, []⟩, ⟨82, [], false, false, []⟩, ⟨83, [], true, true, []⟩], imm := false, old := true, ie := [122, 97, 3, 4, 47, 33, 45, 125, 5, 159, 48, 43, 185] }
theorem nD (O : Alg) (x : Ags O) : XF (O := O) Tryz.prog gC false false [] 36 [] (xr x XV 0) = OA O x := by kernel_rfl
theorem fK {E : Env} {M : Nat} (N : Nat) (h : ∀ ls, E 36 [] ls = Ji N ls) : VV Tryz.prog E M ⟨36, [], false, false, []⟩ :=
 Ay mix (E := DS N) (N := N) (cfg := gC) (ci := ⟨36, [], false, false, []⟩) (ks := XV) (AF (np N (fun _ => rfl)) (AF (oo N (fun _ => rfl)) (AF (gX N (fun _ => rfl)) BV))) (c := Ji N) (F := fun ls => OA (std (DS N) N) (xOf ls)) (fun ls => rfl) (fun ls => nD (std (DS N) N) (xOf ls)) h
def ab : Cfg := { gam := [⟨36, [], false, false, []⟩], imm := false, old := false }
theorem jt (O : Alg) (x : Ags O) : XF (O := O) Tryz.prog ab false false [] 42 [] (xr x SQ 0) = JT O x := by kernel_rfl
theorem SJ {E : Env} {M : Nat} (N : Nat) (h : ∀ ls, E 42 [] ls = Dc N ls) : VV Tryz.prog E M ⟨42, [], false, false, []⟩ :=
 Ay mix (E := ER N) (N := N) (cfg := ab) (ci := ⟨42, [], false, false, []⟩) (ks := SQ) (AF (fK N (fun _ => rfl)) BV) (c := Dc N) (F := fun ls => JT (std (ER N) N) (xOf ls)) (fun ls => rfl) (fun ls => jt (std (ER N) N) (xOf ls)) h
theorem ql : Vd Tryz.prog 80 jI := vt mix jQ jB [] g0 rfl (fun _ _ => rfl) fun O x => by kernel_rfl
def cn : Cfg := { gam := [⟨36, [], false, false, []⟩, ⟨42, [], false, false, []⟩, ⟨80, [], true, true, []⟩], imm := false, old := false }
theorem lK (O : Alg) (x : Ags O) : XF (O := O) Tryz.prog cn true true [] 33 [] (xr x U0 0) = VN O x := by kernel_rfl
theorem nn : Vd Tryz.prog 33 IK := fun N h =>
 Ay mix (E := LB N) (N := N) (cfg := cn) (ci := ⟨33, [], true, true, []⟩) (ks := U0) (AF (fK N (fun _ => rfl)) (AF (SJ N (fun _ => rfl)) (AF (ql N (fun _ => rfl)) BV))) (c := IK N) (F := fun ls => VN (std (LB N) N) (xOf ls)) (fun ls => rfl) (fun ls => lK (std (LB N) N) (xOf ls)) h
def Ya : Cfg := { gam := [], imm := false, old := false }
theorem gw (O : Alg) (x : Ags O) : XF (O := O) Tryz.prog Ya false false [] 34 [] (xr x Qv 0) = Hs O x := by kernel_rfl
theorem j5 {E : Env} {M : Nat} (N : Nat) (h : ∀ ls, E 34 [] ls = Hv N ls) : VV Tryz.prog E M ⟨34, [], false, false, []⟩ :=
 Ay mix (E := FL N) (N := N) (cfg := Ya) (ci := ⟨34, [], false, false, []⟩) (ks := Qv) BV (c := Hv N) (F := fun ls => Hs (std (FL N) N) (xOf ls)) (fun ls => rfl) (fun ls => gw (std (FL N) N) (xOf ls)) h
def jX : Cfg := { gam := [], imm := false, old := false }
theorem ph (O : Alg) (x : Ags O) : XF (O := O) Tryz.prog jX false false [] 35 [] (xr x aJ 0) = QJ O x := by kernel_rfl
theorem rT {E : Env} {M : Nat} (N : Nat) (h : ∀ ls, E 35 [] ls = QS N ls) : VV Tryz.prog E M ⟨35, [], false, false, []⟩ :=
 Ay mix (E := KR N) (N := N) (cfg := jX) (ci := ⟨35, [], false, false, []⟩) (ks := aJ) BV (c := QS N) (F := fun ls => QJ (std (KR N) N) (xOf ls)) (fun ls => rfl) (fun ls => ph (std (KR N) N) (xOf ls)) h
theorem qK : Vd Tryz.prog 72 Mp := vt mix eg Rn [] g0 rfl (fun _ _ => rfl) fun O x => by kernel_rfl
theorem pP : Vd Tryz.prog 24 Nt := vt mix ew R9 [(72, Mp)] (gs qK g0) rfl (fun _ _ => rfl) fun O x => by kernel_rfl
theorem pm : Vd Tryz.prog 87 NZ := vt mix f6 Rb [] g0 rfl (fun _ _ => rfl) fun O x => by kernel_rfl
theorem pZ : Vd Tryz.prog 39 RP := vt mix ej Rj [(24, Nt), (87, NZ)] (gs pP (gs pm g0)) rfl (fun _ _ => rfl) fun O x => by kernel_rfl
theorem oj : Vd Tryz.prog 101 NO := vt mix fT SB [] g0 rfl (fun _ _ => rfl) fun O x => by kernel_rfl
theorem rq : Vd Tryz.prog 102 TD := vt mix lB lr [] g0 rfl (fun _ _ => rfl) fun O x => by kernel_rfl
theorem DK : Vd Tryz.prog 57 Ad := vt mix dH PI [(101, NO), (102, TD)] (gs oj (gs rq g0)) rfl (fun _ _ => rfl) fun O x => by kernel_rfl
theorem bp : Vd Tryz.prog 143 EE := vt mix cD PP [] g0 rfl (fun _ _ => rfl) fun O x => by kernel_rfl
theorem rP : Vd Tryz.prog 84 UY := vt mix i6 T2 [(57, Ad), (143, EE)] (gs DK (gs bp g0)) rfl (fun _ _ => rfl) fun O x => by kernel_rfl
theorem mV : Vd Tryz.prog 125 JF := vt mix aZ NX [] g0 rfl (fun _ _ => rfl) fun O x => by kernel_rfl
theorem qD : Vd Tryz.prog 126 Me := vt mix gV Ri [] g0 rfl (fun _ _ => rfl) fun O x => by kernel_rfl
theorem sU : Vd Tryz.prog 127 TI := vt mix mN de [] g0 rfl (fun _ _ => rfl) fun O x => by kernel_rfl
theorem rp : Vd Tryz.prog 183 Sf := vt mix mp db [] g0 rfl (fun _ _ => rfl) fun O x => by kernel_rfl
theorem oD : Vd Tryz.prog 128 Kz := vt mix cf Pl [(183, Sf)] (gs rp g0) rfl (fun _ _ => rfl) fun O x => by kernel_rfl
theorem bn : Vd Tryz.prog 69 IL := vt mix cA Pb [(125, JF), (126, Me), (127, TI), (128, Kz)] (gs mV (gs qD (gs sU (gs oD g0)))) rfl (fun _ _ => rfl) fun O x => by kernel_rfl
theorem Bq : Vd Tryz.prog 124 AM := vt mix cu Pg [] g0 rfl (fun _ _ => rfl) fun O x => by kernel_rfl
theorem Vg : Vd Tryz.prog 68 Co := vt mix ct PN [(124, AM)] (gs Bq g0) rfl (fun _ _ => rfl) fun O x => by kernel_rfl
theorem oF : Vd Tryz.prog 144 PG := vt mix cC PJ [(68, Co), (143, EE)] (gs Vg (gs bp g0)) rfl (fun _ _ => rfl) fun O x => by kernel_rfl
theorem eN : Vd Tryz.prog 58 Ec := vt mix ka ki [] g0 rfl (fun _ _ => rfl) fun O x => by kernel_rfl
theorem qQ : Vd Tryz.prog 59 P8 := vt mix jR Um [(58, Ec)] (gs eN g0) rfl (fun _ _ => rfl) fun O x => by kernel_rfl
theorem Pp : Vd Tryz.prog 70 BS := vt mix dF IC [] g0 rfl (fun _ _ => rfl) fun O x => by kernel_rfl
theorem jZ : Vd Tryz.prog 60 IA := vt mix YA K4 [(70, BS)] (gs Pp g0) rfl (fun _ _ => rfl) fun O x => by kernel_rfl
theorem U2 : Vd Tryz.prog 17 CU := vt mix cO Pi [(57, Ad), (58, Ec), (59, P8), (60, IA)] (gs DK (gs eN (gs qQ (gs jZ g0)))) rfl (fun _ _ => rfl) fun O x => by kernel_rfl
theorem KV : Vd Tryz.prog 200 Bt := vt mix bq PO [] g0 rfl (fun _ _ => rfl) fun O x => by kernel_rfl
theorem aW : Vd Tryz.prog 224 Eh := vt mix Zw N0 [(200, Bt)] (gs KV g0) rfl (fun _ _ => rfl) fun O x => by kernel_rfl
theorem fh : Vd Tryz.prog 199 Fd := vt mix Uo Iv [(17, CU), (224, Eh)] (gs U2 (gs aW g0)) rfl (fun _ _ => rfl) fun O x => by kernel_rfl
theorem Vf : Vd Tryz.prog 145 EF := vt mix cG PX [(57, Ad), (199, Fd)] (gs DK (gs fh g0)) rfl (fun _ _ => rfl) fun O x => by kernel_rfl
theorem SI : Vd Tryz.prog 63 B8 := vt mix ZA Gy [(70, BS)] (gs Pp g0) rfl (fun _ _ => rfl) fun O x => by kernel_rfl
theorem fa : Vd Tryz.prog 64 D9 := vt mix fY J7 [] g0 rfl (fun _ _ => rfl) fun O x => by kernel_rfl
theorem lV : Vd Tryz.prog 19 JK := vt mix aN Mg [(17, CU), (63, B8), (64, D9)] (gs U2 (gs SI (gs fa g0))) rfl (fun _ _ => rfl) fun O x => by kernel_rfl
theorem YQ : Vd Tryz.prog 29 FF := vt mix YW Lc [(68, Co)] (gs Vg g0) rfl (fun _ _ => rfl) fun O x => by kernel_rfl
theorem NI : Vd Tryz.prog 184 BP := vt mix ZI Nu [] g0 rfl (fun _ _ => rfl) fun O x => by kernel_rfl
theorem o0 : Vd Tryz.prog 129 Rm := vt mix gS Rx [(70, BS), (124, AM), (184, BP)] (gs Pp (gs Bq (gs NI g0))) rfl (fun _ _ => rfl) fun O x => by kernel_rfl
theorem Gu : Vd Tryz.prog 195 Aq := vt mix V8 KD [] g0 rfl (fun _ _ => rfl) fun O x => by kernel_rfl
theorem SU : Vd Tryz.prog 216 CA := vt mix aD Mq [] g0 rfl (fun _ _ => rfl) fun O x => by kernel_rfl
theorem o9 : Vd Tryz.prog 217 Mj := vt mix fc Re [(57, Ad), (216, CA)] (gs DK (gs SU g0)) rfl (fun _ _ => rfl) fun O x => by kernel_rfl
theorem jA : Vd Tryz.prog 218 HC := vt mix i5 UZ [] g0 rfl (fun _ _ => rfl) fun O x => by kernel_rfl
theorem qO : Vd Tryz.prog 185 Pu := vt mix jJ US [(57, Ad), (195, Aq), (216, CA), (217, Mj), (218, HC)] (gs DK (gs Gu (gs SU (gs o9 (gs jA g0))))) rfl (fun _ _ => rfl) fun O x => by kernel_rfl
theorem pl : Vd Tryz.prog 130 RY := vt mix fO Rd [(124, AM), (185, Pu)] (gs Bq (gs qO g0)) rfl (fun _ _ => rfl) fun O x => by kernel_rfl
theorem sg : Vd Tryz.prog 205 TW := vt mix mg dP [] g0 rfl (fun _ _ => rfl) fun O x => by kernel_rfl
theorem iB : Vd Tryz.prog 206 Gv := vt mix Vl J1 [] g0 rfl (fun _ _ => rfl) fun O x => by kernel_rfl
theorem bu : Vd Tryz.prog 149 Fy := vt mix co Pn [(205, TW), (206, Gv)] (gs sg (gs iB g0)) rfl (fun _ _ => rfl) fun O x => by kernel_rfl
theorem g8 : Vd Tryz.prog 150 Gf := vt mix Vp Jl [] g0 rfl (fun _ _ => rfl) fun O x => by kernel_rfl
theorem nr : Vd Tryz.prog 151 Kj := vt mix cd Pm [] g0 rfl (fun _ _ => rfl) fun O x => by kernel_rfl
theorem mG : Vd Tryz.prog 86 M9 := vt mix aq Mx [(149, Fy), (150, Gf), (151, Kj)] (gs bu (gs g8 (gs nr g0))) rfl (fun _ _ => rfl) fun O x => by kernel_rfl
theorem Mu : Vd Tryz.prog 194 BN := vt mix ZH Nn [] g0 rfl (fun _ _ => rfl) fun O x => by kernel_rfl
theorem kD : Vd Tryz.prog 219 Hw := vt mix YI LD [] g0 rfl (fun _ _ => rfl) fun O x => by kernel_rfl
theorem nU : Vd Tryz.prog 186 PD := vt mix dG PM [(194, BN), (195, Aq), (219, Hw)] (gs Mu (gs Gu (gs kD g0))) rfl (fun _ _ => rfl) fun O x => by kernel_rfl
theorem ip : Vd Tryz.prog 220 Gw := vt mix WP Jv [] g0 rfl (fun _ _ => rfl) fun O x => by kernel_rfl
theorem sZ : Vd Tryz.prog 221 Sm := vt mix mD XM [] g0 rfl (fun _ _ => rfl) fun O x => by kernel_rfl
theorem md : Vd Tryz.prog 222 JU := vt mix Zg NS [] g0 rfl (fun _ _ => rfl) fun O x => by kernel_rfl
theorem iU : Vd Tryz.prog 187 J5 := vt mix WJ Js [(220, Gw), (221, Sm), (222, JU)] (gs ip (gs sZ (gs md g0))) rfl (fun _ _ => rfl) fun O x => by kernel_rfl
theorem oC : Vd Tryz.prog 188 PC := vt mix cT PW [(194, BN), (195, Aq)] (gs Mu (gs Gu g0)) rfl (fun _ _ => rfl) fun O x => by kernel_rfl
theorem aa : Vd Tryz.prog 191 Ed := vt mix Zf M5 [(124, AM)] (gs Bq g0) rfl (fun _ _ => rfl) fun O x => by kernel_rfl
theorem qf : Vd Tryz.prog 189 T0 := vt mix jH Tx [(124, AM), (184, BP), (191, Ed)] (gs Bq (gs NI (gs aa g0))) rfl (fun _ _ => rfl) fun O x => by kernel_rfl
theorem pJ : Vd Tryz.prog 190 R8 := vt mix gL RU [(57, Ad), (124, AM), (216, CA), (218, HC)] (gs DK (gs Bq (gs SU (gs jA g0)))) rfl (fun _ _ => rfl) fun O x => by kernel_rfl
theorem nT : Vd Tryz.prog 192 Pd := vt mix cM cJ [] g0 rfl (fun _ _ => rfl) fun O x => by kernel_rfl
def fE : Cfg := { gam := [⟨63, [], true, true, []⟩, ⟨86, [], true, true, []⟩, ⟨149, [], true, true, []⟩, ⟨186, [], true, true, []⟩, ⟨187, [], true, true, []⟩, ⟨188, [], true, true, []⟩, ⟨189, [], true, true, []⟩, ⟨190, [], true, true, []⟩, ⟨191, [], true, true, []⟩, ⟨192, [], true, true, []⟩], imm := false, old := false }
theorem nY (O : Alg) (x : Ags O) : XF (O := O) Tryz.prog fE false false [] 131 [] (xr x Wo 0) = NV O x := by kernel_rfl
theorem pY {E : Env} {M : Nat} (N : Nat) (h : ∀ ls, E 131 [] ls = Nc N ls) : VV Tryz.prog E M ⟨131, [], false, false, []⟩ :=
 Ay mix (E := BE N) (N := N) (cfg := fE) (ci := ⟨131, [], false, false, []⟩) (ks := Wo) (AF (SI N (fun _ => rfl)) (AF (mG N (fun _ => rfl)) (AF (bu N (fun _ => rfl)) (AF (nU N (fun _ => rfl)) (AF (iU N (fun _ => rfl)) (AF (oC N (fun _ => rfl)) (AF (qf N (fun _ => rfl)) (AF (pJ N (fun _ => rfl)) (AF (aa N (fun _ => rfl)) (AF (nT N (fun _ => rfl)) BV)))))))))) (c := Nc N) (F := fun ls => NV (std (BE N) N) (xOf ls)) (fun ls => rfl) (fun ls => nY (std (BE N) N) (xOf ls)) h
theorem bv : Vd Tryz.prog 193 EM := vt mix cP Pq [(63, B8), (184, BP)] (gs SI (gs NI g0)) rfl (fun _ _ => rfl) fun O x => by kernel_rfl
theorem ja : Vd Tryz.prog 132 LN := vt mix YZ K9 [(124, AM), (193, EM)] (gs Bq (gs bv g0)) rfl (fun _ _ => rfl) fun O x => by kernel_rfl
theorem nP : Vd Tryz.prog 133 PZ := vt mix dE Pk [(124, AM), (193, EM)] (gs Bq (gs bv g0)) rfl (fun _ _ => rfl) fun O x => by kernel_rfl
theorem mB : Vd Tryz.prog 134 My := vt mix aY NW [(64, D9), (124, AM), (184, BP)] (gs fa (gs Bq (gs NI g0))) rfl (fun _ _ => rfl) fun O x => by kernel_rfl
theorem jq : Vd Tryz.prog 135 K8 := vt mix Yl LO [(124, AM)] (gs Bq g0) rfl (fun _ _ => rfl) fun O x => by kernel_rfl
theorem kY : Vd Tryz.prog 136 NK := vt mix Ze MY [(124, AM), (194, BN), (195, Aq)] (gs Bq (gs Mu (gs Gu g0))) rfl (fun _ _ => rfl) fun O x => by kernel_rfl
theorem eG : Vd Tryz.prog 137 HT := vt mix Sk Ha [(124, AM), (194, BN), (195, Aq)] (gs Bq (gs Mu (gs Gu g0))) rfl (fun _ _ => rfl) fun O x => by kernel_rfl
theorem ju : Vd Tryz.prog 138 LG := vt mix YO LM [(57, Ad), (124, AM)] (gs DK (gs Bq g0)) rfl (fun _ _ => rfl) fun O x => by kernel_rfl
def aH : Cfg := { gam := [], imm := false, old := false }
theorem jz (O : Alg) (x : Ags O) : XF (O := O) Tryz.prog aH false false [] 139 [] (xr x TA 0) = G1 O x := by kernel_rfl
theorem lH {E : Env} {M : Nat} (N : Nat) (h : ∀ ls, E 139 [] ls = Jf N ls) : VV Tryz.prog E M ⟨139, [], false, false, []⟩ :=
 Ay mix (E := GS N) (N := N) (cfg := aH) (ci := ⟨139, [], false, false, []⟩) (ks := TA) BV (c := Jf N) (F := fun ls => G1 (std (GS N) N) (xOf ls)) (fun ls => rfl) (fun ls => jz (std (GS N) N) (xOf ls)) h
theorem nX : Vd Tryz.prog 21 PH := vt mix cN cx [] g0 rfl (fun _ _ => rfl) fun O x => by kernel_rfl
def Za : Cfg := { gam := [⟨21, [], true, true, []⟩], imm := false, old := false }
theorem kE (O : Alg) (x : Ags O) : XF (O := O) Tryz.prog Za false false [] 140 [] (xr x TE 0) = JJ O x := by kernel_rfl
theorem mf {E : Env} {M : Nat} (N : Nat) (h : ∀ ls, E 140 [] ls = Iy N ls) : VV Tryz.prog E M ⟨140, [], false, false, []⟩ :=
 Ay mix (E := EP N) (N := N) (cfg := Za) (ci := ⟨140, [], false, false, []⟩) (ks := TE) (AF (nX N (fun _ => rfl)) BV) (c := Iy N) (F := fun ls => JJ (std (EP N) N) (xOf ls)) (fun ls => rfl) (fun ls => kE (std (EP N) N) (xOf ls)) h
def iw : Cfg := { gam := [⟨29, [], true, true, []⟩, ⟨129, [], true, true, []⟩, ⟨130, [], true, true, []⟩, ⟨131, [], false, false, []⟩, ⟨132, [], true, true, []⟩, ⟨133, [], true, true, []⟩, ⟨134, [], true, true, []⟩, ⟨135, [], true, true, []⟩, ⟨136, [], true, true, []⟩, ⟨137, [], true, true, []⟩, ⟨138, [], true, true, []⟩, ⟨139, [], false, false, []⟩, ⟨140, [], false, false, []⟩], imm := false, old := false }
theorem pz (O : Alg) (x : Ags O) : XF (O := O) Tryz.prog iw false false [] 71 [] (xr x aO 0) = L8 O x := by kernel_rfl
theorem qh {E : Env} {M : Nat} (N : Nat) (h : ∀ ls, E 71 [] ls = QA N ls) : VV Tryz.prog E M ⟨71, [], false, false, []⟩ :=
 Ay mix (E := A2 N) (N := N) (cfg := iw) (ci := ⟨71, [], false, false, []⟩) (ks := aO) (AF (YQ N (fun _ => rfl)) (AF (o0 N (fun _ => rfl)) (AF (pl N (fun _ => rfl)) (AF (pY N (fun _ => rfl)) (AF (ja N (fun _ => rfl)) (AF (nP N (fun _ => rfl)) (AF (mB N (fun _ => rfl)) (AF (jq N (fun _ => rfl)) (AF (kY N (fun _ => rfl)) (AF (eG N (fun _ => rfl)) (AF (ju N (fun _ => rfl)) (AF (lH N (fun _ => rfl)) (AF (mf N (fun _ => rfl)) BV))))))))))))) (c := QA N) (F := fun ls => L8 (std (A2 N) N) (xOf ls)) (fun ls => rfl) (fun ls => pz (std (A2 N) N) (xOf ls)) h
def fW : Cfg := { gam := [⟨17, [], true, true, []⟩, ⟨19, [], true, true, []⟩, ⟨68, [], true, true, []⟩, ⟨69, [], true, true, []⟩, ⟨70, [], true, true, []⟩, ⟨71, [], false, false, []⟩], imm := false, old := false }
theorem nv (O : Alg) (x : Ags O) : XF (O := O) Tryz.prog fW false false [] 23 [] (xr x Xg 0) = Mn O x := by kernel_rfl
theorem fu {E : Env} {M : Nat} (N : Nat) (h : ∀ ls, E 23 [] ls = HV N ls) : VV Tryz.prog E M ⟨23, [], false, false, []⟩ :=
 Ay mix (E := B9 N) (N := N) (cfg := fW) (ci := ⟨23, [], false, false, []⟩) (ks := Xg) (AF (U2 N (fun _ => rfl)) (AF (lV N (fun _ => rfl)) (AF (Vg N (fun _ => rfl)) (AF (bn N (fun _ => rfl)) (AF (Pp N (fun _ => rfl)) (AF (qh N (fun _ => rfl)) BV)))))) (c := HV N) (F := fun ls => Mn (std (B9 N) N) (xOf ls)) (fun ls => rfl) (fun ls => nv (std (B9 N) N) (xOf ls)) h
theorem na : Vd Tryz.prog 26 PY := vt mix cw Po [(57, Ad), (58, Ec)] (gs DK (gs eN g0)) rfl (fun _ _ => rfl) fun O x => by kernel_rfl
theorem Ve : Vd Tryz.prog 203 EH := vt mix cz PS [] g0 rfl (fun _ _ => rfl) fun O x => by kernel_rfl
def fA : Cfg := { gam := [], imm := false, old := false }
theorem oH (O : Alg) (x : Ags O) : XF (O := O) Tryz.prog fA false false [] 147 [] (xr x Wm 0) = Ml O x := by kernel_rfl
theorem R0 {E : Env} {M : Nat} (N : Nat) (h : ∀ ls, E 147 [] ls = Cs N ls) : VV Tryz.prog E M ⟨147, [], false, false, []⟩ :=
 Ay mix (E := JI N) (N := N) (cfg := fA) (ci := ⟨147, [], false, false, []⟩) (ks := Wm) BV (c := Cs N) (F := fun ls => Ml (std (JI N) N) (xOf ls)) (fun ls => rfl) (fun ls => oH (std (JI N) N) (xOf ls)) h
def YT : Cfg := { gam := [⟨145, [], true, true, []⟩, ⟨147, [], false, false, []⟩, ⟨224, [], true, true, []⟩], imm := false, old := false }
theorem hO (O : Alg) (x : Ags O) : XF (O := O) Tryz.prog YT true true [] 225 [] (xr x Qc 0) = Hp O x := by kernel_rfl
theorem kC : Vd Tryz.prog 225 H9 := fun N h =>
 Ay mix (E := CN N) (N := N) (cfg := YT) (ci := ⟨225, [], true, true, []⟩) (ks := Qc) (AF (Vf N (fun _ => rfl)) (AF (R0 N (fun _ => rfl)) (AF (aW N (fun _ => rfl)) BV))) (c := H9 N) (F := fun ls => Hp (std (CN N) N) (xOf ls)) (fun ls => rfl) (fun ls => hO (std (CN N) N) (xOf ls)) h
def gj : Cfg := { gam := [⟨23, [], false, false, []⟩, ⟨26, [], true, true, []⟩, ⟨200, [], true, true, []⟩, ⟨203, [], true, true, []⟩, ⟨225, [], true, true, []⟩], imm := false, old := false }
theorem ny (O : Alg) (x : Ags O) : XF (O := O) Tryz.prog gj false false [true, false] 201 [] (xr x XU 0) = NQ O x := by kernel_rfl
theorem o5 {E : Env} {M : Nat} (N : Nat) (h : ∀ ls, E 201 [] ls = M2 N ls) : VV Tryz.prog E M ⟨201, [], false, false, [true, false]⟩ :=
 Ay mix (E := CV N) (N := N) (cfg := gj) (ci := ⟨201, [], false, false, [true, false]⟩) (ks := XU) (AF (fu N (fun _ => rfl)) (AF (na N (fun _ => rfl)) (AF (KV N (fun _ => rfl)) (AF (Ve N (fun _ => rfl)) (AF (kC N (fun _ => rfl)) BV))))) (c := M2 N) (F := fun ls => NQ (std (CV N) N) (xOf ls)) (fun ls => rfl) (fun ls => ny (std (CV N) N) (xOf ls)) h
def em : Cfg := { gam := [⟨23, [], false, false, []⟩, ⟨29, [], true, true, []⟩], imm := true, old := true }
theorem nB (O : Alg) (x : Ags O) : XF (O := O) Tryz.prog em false false [true, false] 202 [] (xr x XY 0) = N3 O x := by kernel_rfl
theorem ol {E : Env} {M : Nat} (N : Nat) (h : ∀ ls, E 202 [] ls = Mc N ls) : VV Tryz.prog E M ⟨202, [], false, false, [true, false]⟩ :=
 Ay mix (E := ES N) (N := N) (cfg := em) (ci := ⟨202, [], false, false, [true, false]⟩) (ks := XY) (AF (fu N (fun _ => rfl)) (AF (YQ N (fun _ => rfl)) BV)) (c := Mc N) (F := fun ls => N3 (std (ES N) N) (xOf ls)) (fun ls => rfl) (fun ls => nB (std (ES N) N) (xOf ls)) h
def iz : Cfg := { gam := [⟨200, [], true, true, []⟩, ⟨201, [], false, false, [true, false]⟩, ⟨202, [], false, false, [true, false]⟩], imm := false, old := false }
theorem pH (O : Alg) (x : Ags O) : XF (O := O) Tryz.prog iz false false [true, false] 146 [] (xr x Zp 0) = QX O x := by kernel_rfl
theorem rF {E : Env} {M : Nat} (N : Nat) (h : ∀ ls, E 146 [] ls = QW N ls) : VV Tryz.prog E M ⟨146, [], false, false, [true, false]⟩ :=
 Ay mix (E := EL N) (N := N) (cfg := iz) (ci := ⟨146, [], false, false, [true, false]⟩) (ks := Zp) (AF (KV N (fun _ => rfl)) (AF (o5 N (fun _ => rfl)) (AF (ol N (fun _ => rfl)) BV))) (c := QW N) (F := fun ls => QX (std (EL N) N) (xOf ls)) (fun ls => rfl) (fun ls => pH (std (EL N) N) (xOf ls)) h
def X5 : Cfg := { gam := [⟨145, [], true, true, []⟩, ⟨147, [], false, false, []⟩, ⟨200, [], true, true, []⟩, ⟨203, [], true, true, []⟩], imm := false, old := false }
theorem gu (O : Alg) (x : Ags O) : XF (O := O) Tryz.prog X5 true true [] 204 [] (xr x QZ 0) = Hr O x := by kernel_rfl
theorem jd : Vd Tryz.prog 204 Hq := fun N h =>
 Ay mix (E := B0 N) (N := N) (cfg := X5) (ci := ⟨204, [], true, true, []⟩) (ks := QZ) (AF (Vf N (fun _ => rfl)) (AF (R0 N (fun _ => rfl)) (AF (KV N (fun _ => rfl)) (AF (Ve N (fun _ => rfl)) BV)))) (c := Hq N) (F := fun ls => Hr (std (B0 N) N) (xOf ls)) (fun ls => rfl) (fun ls => gu (std (B0 N) N) (xOf ls)) h
def ZY : Cfg := { gam := [⟨147, [], false, false, []⟩, ⟨200, [], true, true, []⟩, ⟨203, [], true, true, []⟩, ⟨204, [], true, true, []⟩], imm := false, old := false }
theorem jo (O : Alg) (x : Ags O) : XF (O := O) Tryz.prog ZY false false [] 148 [] (xr x Sr 0) = JV O x := by kernel_rfl
theorem lZ {E : Env} {M : Nat} (N : Nat) (h : ∀ ls, E 148 [] ls = JO N ls) : VV Tryz.prog E M ⟨148, [], false, false, []⟩ :=
 Ay mix (E := CF N) (N := N) (cfg := ZY) (ci := ⟨148, [], false, false, []⟩) (ks := Sr) (AF (R0 N (fun _ => rfl)) (AF (KV N (fun _ => rfl)) (AF (Ve N (fun _ => rfl)) (AF (jd N (fun _ => rfl)) BV)))) (c := JO N) (F := fun ls => JV (std (CF N) N) (xOf ls)) (fun ls => rfl) (fun ls => jo (std (CF N) N) (xOf ls)) h
def gI : Cfg := { gam := [⟨69, [], true, true, []⟩, ⟨144, [], true, true, []⟩, ⟨145, [], true, true, []⟩, ⟨146, [], false, false, [true, false]⟩, ⟨147, [], false, false, []⟩, ⟨148, [], false, false, []⟩], imm := false, old := false }
theorem nW (O : Alg) (x : Ags O) : XF (O := O) Tryz.prog gI false false [] 85 [] (xr x Xn 0) = Mt O x := by kernel_rfl
theorem qH {E : Env} {M : Nat} (N : Nat) (h : ∀ ls, E 85 [] ls = Mz N ls) : VV Tryz.prog E M ⟨85, [], false, false, []⟩ :=
 Ay mix (E := CB N) (N := N) (cfg := gI) (ci := ⟨85, [], false, false, []⟩) (ks := Xn) (AF (bn N (fun _ => rfl)) (AF (oF N (fun _ => rfl)) (AF (Vf N (fun _ => rfl)) (AF (rF N (fun _ => rfl)) (AF (R0 N (fun _ => rfl)) (AF (lZ N (fun _ => rfl)) BV)))))) (c := Mz N) (F := fun ls => Mt (std (CB N) N) (xOf ls)) (fun ls => rfl) (fun ls => nW (std (CB N) N) (xOf ls)) h
def ek : Cfg := { gam := [⟨85, [], false, false, []⟩], imm := true, old := true }
theorem ng (O : Alg) (x : Ags O) : XF (O := O) Tryz.prog ek false false [] 88 [] (xr x W6 0) = Nf O x := by kernel_rfl
theorem pu {E : Env} {M : Nat} (N : Nat) (h : ∀ ls, E 88 [] ls = M8 N ls) : VV Tryz.prog E M ⟨88, [], false, false, []⟩ :=
 Ay mix (E := Gp N) (N := N) (cfg := ek) (ci := ⟨88, [], false, false, []⟩) (ks := W6) (AF (qH N (fun _ => rfl)) BV) (c := M8 N) (F := fun ls => Nf (std (Gp N) N) (xOf ls)) (fun ls => rfl) (fun ls => ng (std (Gp N) N) (xOf ls)) h
def ZQ : Cfg := { gam := [⟨84, [], true, true, []⟩, ⟨88, [], false, false, []⟩], imm := false, old := false }
theorem jx (O : Alg) (x : Ags O) : XF (O := O) Tryz.prog ZQ false false [] 43 [] (xr x TH 0) = JY O x := by kernel_rfl
theorem aI {E : Env} {M : Nat} (N : Nat) (h : ∀ ls, E 43 [] ls = ET N ls) : VV Tryz.prog E M ⟨43, [], false, false, []⟩ :=
 Ay mix (E := DI N) (N := N) (cfg := ZQ) (ci := ⟨43, [], false, false, []⟩) (ks := TH) (AF (rP N (fun _ => rfl)) (AF (pu N (fun _ => rfl)) BV)) (c := ET N) (F := fun ls => JY (std (DI N) N) (xOf ls)) (fun ls => rfl) (fun ls => jx (std (DI N) N) (xOf ls)) h
def cV : Cfg := { gam := [⟨42, [], false, false, []⟩, ⟨52, [], true, true, []⟩], imm := false, old := false }
theorem kw (O : Alg) (x : Ags O) : XF (O := O) Tryz.prog cV true true [] 44 [] (xr x VB 0) = Kr O x := by kernel_rfl
theorem oE : Vd Tryz.prog 44 Kq := fun N h =>
 Ay mix (E := Ds N) (N := N) (cfg := cV) (ci := ⟨44, [], true, true, []⟩) (ks := VB) (AF (SJ N (fun _ => rfl)) (AF (Cb N (fun _ => rfl)) BV)) (c := Kq N) (F := fun ls => Kr (std (Ds N) N) (xOf ls)) (fun ls => rfl) (fun ls => kw (std (Ds N) N) (xOf ls)) h
def bz : Cfg := { gam := [⟨43, [], false, false, []⟩, ⟨57, [], true, true, []⟩], imm := false, old := false }
theorem mI (O : Alg) (x : Ags O) : XF (O := O) Tryz.prog bz true true [] 45 [] (xr x Va 0) = Km O x := by kernel_rfl
theorem oB : Vd Tryz.prog 45 Ks := fun N h =>
 Ay mix (E := Dq N) (N := N) (cfg := bz) (ci := ⟨45, [], true, true, []⟩) (ks := Va) (AF (aI N (fun _ => rfl)) (AF (DK N (fun _ => rfl)) BV)) (c := Ks N) (F := fun ls => Km (std (Dq N) N) (xOf ls)) (fun ls => rfl) (fun ls => mI (std (Dq N) N) (xOf ls)) h
def SR : Cfg := { gam := [⟨33, [], true, true, []⟩, ⟨34, [], false, false, []⟩, ⟨35, [], false, false, []⟩, ⟨39, [], true, true, []⟩, ⟨42, [], false, false, []⟩, ⟨43, [], false, false, []⟩, ⟨44, [], true, true, []⟩, ⟨45, [], true, true, []⟩], imm := false, old := false }
theorem bT (O : Alg) (x : Ags O) : XF (O := O) Tryz.prog SR true true [] 9 [] (xr x Lu 0) = Ee O x := by kernel_rfl
theorem eV : Vd Tryz.prog 9 Ep := fun N h =>
 Ay mix (E := Ar N) (N := N) (cfg := SR) (ci := ⟨9, [], true, true, []⟩) (ks := Lu) (AF (nn N (fun _ => rfl)) (AF (j5 N (fun _ => rfl)) (AF (rT N (fun _ => rfl)) (AF (pZ N (fun _ => rfl)) (AF (SJ N (fun _ => rfl)) (AF (aI N (fun _ => rfl)) (AF (oE N (fun _ => rfl)) (AF (oB N (fun _ => rfl)) BV)))))))) (c := Ep N) (F := fun ls => Ee (std (Ar N) N) (xOf ls)) (fun ls => rfl) (fun ls => bT (std (Ar N) N) (xOf ls)) h
end Go.Px
