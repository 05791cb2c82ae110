/- Part 12. -/
import Derived.Test.YtopmcbahdgfleaaGreatPart06
import Derived.Test.YtopmcbahdgfleaaGreatProg
import Derived.Test.YtopmcbahdgfleaaGreatPart08
import Derived.KernelRfl
import Derived.WalkKit
import Derived.Lib.Walk
import Derived.BigCall
import Derived.BigGuard
set_option linter.unusedVariables false
set_option linter.unusedSimpArgs false
namespace Go.Px
open Go.Proofs
set_option maxRecDepth 100000
theorem mix : Tryz.prog.follows .mixedOrders = true := by kernel_rfl
theorem aG : Vd Tryz.prog 95 Ip := vt mix Uq MC [] g0 rfl (fun _ _ => rfl) fun O x => by kernel_rfl
theorem PO : Vd Tryz.prog 162 Bz := vt mix Pq PP [] g0 rfl (fun _ _ => rfl) fun O x => by kernel_rfl
theorem Vi : Vd Tryz.prog 96 Ed := vt mix Ph HE [(162, Bz)] (gs PO g0) rfl (fun _ _ => rfl) fun O x => by kernel_rfl
theorem XE : Vd Tryz.prog 97 Fc := vt mix QY IU [(162, Bz)] (gs PO g0) rfl (fun _ _ => rfl) fun O x => by kernel_rfl
theorem Bt : Vd Tryz.prog 52 AK := vt mix SD JQ [(95, Ip), (96, Ed), (97, Fc)] (gs aG (gs Vi (gs XE g0))) rfl (fun _ _ => rfl) fun O x => by kernel_rfl
theorem Rh : Vd Tryz.prog 196 CT := fun N h =>
 MM mix (T := 22) (e := 122) (b := 24) Tryz.func196 Tryz.underlying22 (by kernel_rfl) (by decide) (fun O l => by kernel_rfl) (fun O l => by kernel_rfl) h
theorem Rt : Vd Tryz.prog 141 CZ := vt mix R5 JE [(196, CT)] (gs Rh g0) rfl (fun _ _ => rfl) fun O x => by kernel_rfl
theorem aI : Vd Tryz.prog 81 MK := vt mix Ur MD [(52, AK), (141, CZ)] (gs Bt (gs Rt g0)) rfl (fun _ _ => rfl) fun O x => by kernel_rfl
theorem Df : Vd Tryz.prog 53 AY := vt mix NR NX [] g0 rfl (fun _ _ => rfl) fun O x => by kernel_rfl
theorem UH : Vd Tryz.prog 54 DV := vt mix Nb FQ [(53, AY)] (gs Df g0) rfl (fun _ _ => rfl) fun O x => by kernel_rfl
theorem TS : Vd Tryz.prog 163 C8 := vt mix Mf E0 [] g0 rfl (fun _ _ => rfl) fun O x => by kernel_rfl
theorem Fu : Vd Tryz.prog 98 Ad := vt mix Jt DE [(163, C8)] (gs TS g0) rfl (fun _ _ => rfl) fun O x => by kernel_rfl
theorem SU : Vd Tryz.prog 55 Ck := vt mix LU EM [(53, AY), (98, Ad)] (gs Df (gs Fu g0)) rfl (fun _ _ => rfl) fun O x => by kernel_rfl
theorem SZ : Vd Tryz.prog 100 Ch := vt mix LN EO [(53, AY)] (gs Df g0) rfl (fun _ _ => rfl) fun O x => by kernel_rfl
theorem UC : Vd Tryz.prog 56 Dc := vt mix NQ FN [(100, Ch)] (gs SZ g0) rfl (fun _ _ => rfl) fun O x => by kernel_rfl
theorem KN : Vd Tryz.prog 16 A0 := vt mix P7 HL [(52, AK), (53, AY), (54, DV), (55, Ck), (56, Dc)] (gs Bt (gs Df (gs UH (gs SU (gs UC g0))))) rfl (fun _ _ => rfl) fun O x => by kernel_rfl
theorem U6 : Vd Tryz.prog 165 CG := vt mix Ok Jq [] g0 rfl (fun _ _ => rfl) fun O x => by kernel_rfl
theorem Qw : Vd Tryz.prog 103 BZ := vt mix Qa Dt [(165, CG)] (gs U6 g0) rfl (fun _ _ => rfl) fun O x => by kernel_rfl
theorem K4 : Vd Tryz.prog 61 A2 := vt mix PW DC [(103, BZ)] (gs Qw g0) rfl (fun _ _ => rfl) fun O x => by kernel_rfl
theorem Ru : Vd Tryz.prog 62 CD := vt mix Rz Ec [] g0 rfl (fun _ _ => rfl) fun O x => by kernel_rfl
theorem VB : Vd Tryz.prog 18 Cp := vt mix Oh F8 [(16, A0), (61, A2), (62, CD)] (gs KN (gs K4 (gs Ru g0))) rfl (fun _ _ => rfl) fun O x => by kernel_rfl
theorem DD : Vd Tryz.prog 77 AM := fun N h =>
 MM mix (T := 27) (e := 97) (b := 1) Tryz.func77 Tryz.underlying27 (by kernel_rfl) (by decide) (fun O l => by kernel_rfl) (fun O l => by kernel_rfl) h
theorem E7 : Vd Tryz.prog 78 AW := fun N h =>
 MM mix (T := 28) (e := 3) (b := 8) Tryz.func78 Tryz.underlying28 (by kernel_rfl) (by decide) (fun O l => by kernel_rfl) (fun O l => by kernel_rfl) h
theorem EH : Vd Tryz.prog 79 AQ := fun N h =>
 MM mix (T := 29) (e := 4) (b := 1) Tryz.func79 Tryz.underlying29 (by kernel_rfl) (by decide) (fun O l => by kernel_rfl) (fun O l => by kernel_rfl) h
theorem B0 : Vd Tryz.prog 30 AL := vt mix Pc HN [(77, AM), (78, AW), (79, AQ)] (gs DD (gs E7 (gs EH g0))) rfl (fun _ _ => rfl) fun O x => by kernel_rfl
theorem Xh : Vd Tryz.prog 104 Fk := vt mix Qr H6 [] g0 rfl (fun _ _ => rfl) fun O x => by kernel_rfl
theorem Wc : Vd Tryz.prog 105 Ew := vt mix Pt K6 [] g0 rfl (fun _ _ => rfl) fun O x => by kernel_rfl
open Go.RowKit Go.Lib in
set_option maxHeartbeats 1000000 in
theorem Nu (s : ByteArray) (c : Int) (w : World) : Calls Tryz.prog 210 #[.string s, .int .u8 c] w fun e w' => e = .returned (.int .i64 (Lib.indexByte s.data.toList c.toNat.toUInt8)) ∧ w' = w := by
 go_enter Tryz.func210, Tryz.ntmps210
 go_wp2
 rw [run_callFunc_extern Tryz.func226 (by kernel_rfl) (by kernel_rfl) (by kernel_rfl) (e := Extern.BytealgIndexByte.indexByte) (by kernel_rfl), Lib.run_indexByteString]
 simp only [Result.andThen]
 rw [Oper.upon_value]
 go_wp2
 go_ret
 exact ⟨rfl, rfl⟩
theorem PG : Vd Tryz.prog 210 Bw := fun N h =>
 aa Tryz.func210 (T9 := 9) (T5 := 5) (T3 := 3) rfl rfl Tryz.underlying9 Tryz.underlying5 Tryz.underlying3 (by kernel_rfl) Nu h
theorem SR : Vd Tryz.prog 166 Ci := vt mix LV EG [(210, Bw)] (gs PG g0) rfl (fun _ _ => rfl) fun O x => by kernel_rfl
theorem YF : Vd Tryz.prog 167 EX := vt mix SJ SB [] g0 rfl (fun _ _ => rfl) fun O x => by kernel_rfl
theorem Yl : Vd Tryz.prog 106 Hm := vt mix Ti K2 [(166, Ci), (167, EX)] (gs SR (gs YF g0)) rfl (fun _ _ => rfl) fun O x => by kernel_rfl
theorem Sl : Vd Tryz.prog 168 C2 := vt mix Mb Hv [] g0 rfl (fun _ _ => rfl) fun O x => by kernel_rfl
theorem Uz : Vd Tryz.prog 107 Dw := vt mix Oa F9 [(168, C2)] (gs Sl g0) rfl (fun _ _ => rfl) fun O x => by kernel_rfl
theorem SK : Vd Tryz.prog 65 Ca := vt mix SE Gp [(104, Fk), (105, Ew), (106, Hm), (107, Dw)] (gs Xh (gs Wc (gs Yl (gs Uz g0)))) rfl (fun _ _ => rfl) fun O x => by kernel_rfl
theorem UJ : Vd Tryz.prog 109 Dd := vt mix NM Ie [] g0 rfl (fun _ _ => rfl) fun O x => by kernel_rfl
theorem V7 : Vd Tryz.prog 66 E8 := vt mix Pe HJ [(109, Dd)] (gs UJ g0) rfl (fun _ _ => rfl) fun O x => by kernel_rfl
theorem Fw : Vd Tryz.prog 170 Ag := vt mix TZ KW [(77, AM), (78, AW), (79, AQ)] (gs DD (gs E7 (gs EH g0))) rfl (fun _ _ => rfl) fun O x => by kernel_rfl
theorem FZ : Vd Tryz.prog 171 Ah := vt mix Qv IR [] g0 rfl (fun _ _ => rfl) fun O x => by kernel_rfl
theorem YJ : Vd Tryz.prog 110 Gj := vt mix Ry JW [(103, BZ), (170, Ag), (171, Ah)] (gs Qw (gs Fw (gs FZ g0))) rfl (fun _ _ => rfl) fun O x => by kernel_rfl
theorem QL : Vd Tryz.prog 172 B9 := vt mix Uh ME [(77, AM), (78, AW), (79, AQ)] (gs DD (gs E7 (gs EH g0))) rfl (fun _ _ => rfl) fun O x => by kernel_rfl
theorem ND : Vd Tryz.prog 211 BT := vt mix SM JS [] g0 rfl (fun _ _ => rfl) fun O x => by kernel_rfl
theorem ZE : Vd Tryz.prog 212 HU := vt mix Sp KQ [(52, AK), (211, BT)] (gs Bt (gs ND g0)) rfl (fun _ _ => rfl) fun O x => by kernel_rfl
theorem aR : Vd Tryz.prog 173 Iv := vt mix Uc MH [(52, AK), (98, Ad), (211, BT), (212, HU)] (gs Bt (gs Fu (gs ND (gs ZE g0)))) rfl (fun _ _ => rfl) fun O x => by kernel_rfl
theorem Ze : Vd Tryz.prog 111 Hw := vt mix TE Kp [(172, B9), (173, Iv)] (gs QL (gs aR g0)) rfl (fun _ _ => rfl) fun O x => by kernel_rfl
theorem VJ : Vd Tryz.prog 37 EB := vt mix OZ OO [] g0 rfl (fun _ _ => rfl) fun O x => by kernel_rfl
theorem SX : Vd Tryz.prog 223 Cg := vt mix LO EK [] g0 rfl (fun _ _ => rfl) fun O x => by kernel_rfl
theorem Ou : Vd Tryz.prog 197 Bq := vt mix O7 GK [(223, Cg)] (gs SX g0) rfl (fun _ _ => rfl) fun O x => by kernel_rfl
theorem Sa : Vd Tryz.prog 198 Cj := vt mix LS EN [] g0 rfl (fun _ _ => rfl) fun O x => by kernel_rfl
theorem Na : Vd Tryz.prog 142 Bh := vt mix NN FX [(197, Bq), (198, Cj)] (gs Ou (gs Sa g0)) rfl (fun _ _ => rfl) fun O x => by kernel_rfl
theorem GZ : Vd Tryz.prog 181 Ao := vt mix SH JX [] g0 rfl (fun _ _ => rfl) fun O x => by kernel_rfl
theorem GO : Vd Tryz.prog 182 Al := vt mix O4 GP [(181, Ao)] (gs GZ g0) rfl (fun _ _ => rfl) fun O x => by kernel_rfl
theorem Wi : Vd Tryz.prog 227 FD := vt mix Pr G9 [] g0 rfl (fun _ _ => rfl) fun O x => by kernel_rfl
theorem YI : Vd Tryz.prog 213 Gi := vt mix SA JR [(181, Ao), (182, Al), (227, FD)] (gs GZ (gs GO (gs Wi g0))) rfl (fun _ _ => rfl) fun O x => by kernel_rfl
theorem Nh : Vd Tryz.prog 232 BK := vt mix Nf NT [] g0 rfl (fun _ _ => rfl) fun O x => by kernel_rfl
theorem Xi : Vd Tryz.prog 228 Fq := vt mix Q9 IP [(232, BK)] (gs Nh g0) rfl (fun _ _ => rfl) fun O x => by kernel_rfl
theorem TT : Vd Tryz.prog 233 C4 := vt mix Mg Eu [] g0 rfl (fun _ _ => rfl) fun O x => by kernel_rfl
theorem Qm : Vd Tryz.prog 229 CK := vt mix Js DI [(233, C4)] (gs TT g0) rfl (fun _ _ => rfl) fun O x => by kernel_rfl
theorem Te : Vd Tryz.prog 234 Cy := vt mix MX E4 [] g0 rfl (fun _ _ => rfl) fun O x => by kernel_rfl
theorem VY : Vd Tryz.prog 230 Dy := vt mix PB GC [(232, BK), (234, Cy)] (gs Nh (gs Te g0)) rfl (fun _ _ => rfl) fun O x => by kernel_rfl
theorem QN : Vd Tryz.prog 235 B5 := vt mix I4 Cs [] g0 rfl (fun _ _ => rfl) fun O x => by kernel_rfl
theorem RV : Vd Tryz.prog 231 CS := vt mix Kg Dj [(235, B5)] (gs QN g0) rfl (fun _ _ => rfl) fun O x => by kernel_rfl
theorem RG : Vd Tryz.prog 214 CQ := vt mix Kq Dm [(228, Fq), (229, CK), (230, Dy), (231, CS)] (gs Xi (gs Qm (gs VY (gs RV g0)))) rfl (fun _ _ => rfl) fun O x => by kernel_rfl
theorem YU : Vd Tryz.prog 215 Gr := vt mix R7 JO [(181, Ao), (182, Al)] (gs GZ (gs GO g0)) rfl (fun _ _ => rfl) fun O x => by kernel_rfl
theorem UD : Vd Tryz.prog 174 DZ := vt mix NK FM [(61, A2), (197, Bq), (213, Gi), (214, CQ), (215, Gr)] (gs K4 (gs Ou (gs YI (gs RG (gs YU g0))))) rfl (fun _ _ => rfl) fun O x => by kernel_rfl
theorem ZT : Vd Tryz.prog 175 HW := vt mix TO K8 [(170, Ag), (171, Ah)] (gs Fw (gs FZ g0)) rfl (fun _ _ => rfl) fun O x => by kernel_rfl
theorem Zi : Vd Tryz.prog 176 He := vt mix Tn K3 [(52, AK), (98, Ad), (172, B9), (211, BT)] (gs Bt (gs Fu (gs QL (gs ND g0)))) rfl (fun _ _ => rfl) fun O x => by kernel_rfl
theorem Vx : Vd Tryz.prog 177 Ey := vt mix Py HA [(170, Ag)] (gs Fw g0) rfl (fun _ _ => rfl) fun O x => by kernel_rfl
theorem Xc : Vd Tryz.prog 112 Ft := vt mix Qx IE [(30, AL), (37, EB), (142, Bh), (174, DZ), (175, HW), (176, He), (177, Ey)] (gs B0 (gs VJ (gs Na (gs UD (gs ZT (gs Zi (gs Vx g0))))))) rfl (fun _ _ => rfl) fun O x => by kernel_rfl
theorem Tl : Vd Tryz.prog 178 C0 := vt mix Sf Ki [(61, A2), (171, Ah)] (gs K4 (gs FZ g0)) rfl (fun _ _ => rfl) fun O x => by kernel_rfl
theorem Ux : Vd Tryz.prog 113 Dv := vt mix Ox GM [(170, Ag), (171, Ah), (178, C0)] (gs Fw (gs FZ (gs Tl g0))) rfl (fun _ _ => rfl) fun O x => by kernel_rfl
theorem W8 : Vd Tryz.prog 114 Fp := vt mix Qg IM [(170, Ag), (178, C0)] (gs Fw (gs Tl g0)) rfl (fun _ _ => rfl) fun O x => by kernel_rfl
theorem Wh : Vd Tryz.prog 115 Er := vt mix Pn HI [(62, CD), (170, Ag), (171, Ah)] (gs Ru (gs Fw (gs FZ g0))) rfl (fun _ _ => rfl) fun O x => by kernel_rfl
theorem QT : Vd Tryz.prog 180 B7 := vt mix US MB [(77, AM), (78, AW), (79, AQ)] (gs DD (gs E7 (gs EH g0))) rfl (fun _ _ => rfl) fun O x => by kernel_rfl
theorem WV : Vd Tryz.prog 116 Eg := vt mix Pd G7 [(180, B7)] (gs QT g0) rfl (fun _ _ => rfl) fun O x => by kernel_rfl
theorem XP : Vd Tryz.prog 117 F0 := vt mix Qj IV [(180, B7), (181, Ao), (182, Al)] (gs QT (gs GZ (gs GO g0))) rfl (fun _ _ => rfl) fun O x => by kernel_rfl
theorem TD : Vd Tryz.prog 118 DA := vt mix Mi Et [(180, B7), (181, Ao), (182, Al)] (gs QT (gs GZ (gs GO g0))) rfl (fun _ _ => rfl) fun O x => by kernel_rfl
theorem WD : Vd Tryz.prog 119 E6 := vt mix PR HP [(52, AK), (172, B9)] (gs Bt (gs QL g0)) rfl (fun _ _ => rfl) fun O x => by kernel_rfl
theorem UA : Vd Tryz.prog 120 DX := vt mix Nc FU [(30, AL)] (gs B0 g0) rfl (fun _ _ => rfl) fun O x => by kernel_rfl
theorem NO : Vd Tryz.prog 28 Bg := vt mix NP FW [(30, AL)] (gs B0 g0) rfl (fun _ _ => rfl) fun O x => by kernel_rfl
theorem T8 : Vd Tryz.prog 121 DT := vt mix NL FV [(28, Bg), (30, AL)] (gs NO (gs B0 g0)) rfl (fun _ _ => rfl) fun O x => by kernel_rfl
theorem VH : Vd Tryz.prog 122 D4 := vt mix O3 D9 [(30, AL)] (gs B0 g0) rfl (fun _ _ => rfl) fun O x => by kernel_rfl
theorem Ww : Vd Tryz.prog 20 El := vt mix P6 Pa [] g0 rfl (fun _ _ => rfl) fun O x => by kernel_rfl
theorem VC : Vd Tryz.prog 123 D7 := vt mix Ob GG [(20, El), (30, AL)] (gs Ww (gs B0 g0)) rfl (fun _ _ => rfl) fun O x => by kernel_rfl
theorem UI : Vd Tryz.prog 67 Dg := vt mix NV Db [(110, Gj), (111, Hw), (112, Ft), (113, Dv), (114, Fp), (115, Er), (116, Eg), (117, F0), (118, DA), (119, E6), (120, DX), (121, DT), (122, D4), (123, D7)] (gs YJ (gs Ze (gs Xc (gs Ux (gs W8 (gs Wh (gs WV (gs XP (gs TD (gs WD (gs UA (gs T8 (gs VH (gs VC g0)))))))))))))) rfl (fun _ _ => rfl) fun O x => by kernel_rfl
theorem XK : Vd Tryz.prog 22 Fe := vt mix Q2 II [(16, A0), (18, Cp), (30, AL), (65, Ca), (66, E8), (67, Dg)] (gs KN (gs VB (gs B0 (gs SK (gs V7 (gs UI g0)))))) rfl (fun _ _ => rfl) fun O x => by kernel_rfl
theorem Wg : Vd Tryz.prog 25 E5 := vt mix PX HO [(52, AK), (53, AY)] (gs Bt (gs Df g0)) rfl (fun _ _ => rfl) fun O x => by kernel_rfl
theorem JM : Vd Tryz.prog 156 A3 := vt mix SG JJ [] g0 rfl (fun _ _ => rfl) fun O x => by kernel_rfl
theorem Rx : Vd Tryz.prog 154 CW := vt mix R9 JC [(156, A3)] (gs JM g0) rfl (fun _ _ => rfl) fun O x => by kernel_rfl
theorem YS : Vd Tryz.prog 155 GX := vt mix R0 JP [] g0 rfl (fun _ _ => rfl) fun O x => by kernel_rfl
theorem SI : Vd Tryz.prog 91 CX := vt mix R2 JI [(16, A0), (52, AK), (154, CW), (155, GX)] (gs KN (gs Bt (gs Rx (gs YS g0)))) rfl (fun _ _ => rfl) fun O x => by kernel_rfl
theorem YO : Vd Tryz.prog 92 Gg := vt mix R1 JG [(30, AL), (141, CZ)] (gs B0 (gs Rt g0)) rfl (fun _ _ => rfl) fun O x => by kernel_rfl
theorem M5 : Vd Tryz.prog 160 BU := vt mix SL JD [] g0 rfl (fun _ _ => rfl) fun O x => by kernel_rfl
theorem Md : Vd Tryz.prog 208 BM := vt mix Mv Ek [] g0 rfl (fun _ _ => rfl) fun O x => by kernel_rfl
theorem Wz : Vd Tryz.prog 161 FF := vt mix Po HM [(91, CX), (156, A3), (160, BU), (208, BM)] (gs SI (gs JM (gs M5 (gs Md g0)))) rfl (fun _ _ => rfl) fun O x => by kernel_rfl
theorem XS : Vd Tryz.prog 207 Fh := vt mix Ql H0 [(156, A3), (160, BU)] (gs JM (gs M5 g0)) rfl (fun _ _ => rfl) fun O x => by kernel_rfl
theorem ZQ : Vd Tryz.prog 49 Ko := vt mix Ss KY [(22, Fe), (25, E5), (28, Bg), (65, Ca), (91, CX), (92, Gg), (154, CW), (156, A3), (160, BU), (161, FF), (207, Fh), (208, BM)] (gs XK (gs Wg (gs NO (gs SK (gs SI (gs YO (gs Rx (gs JM (gs M5 (gs Wz (gs XS (gs Md g0)))))))))))) rfl (fun _ _ => rfl) fun O x => by kernel_rfl
def Wx : Cfg := { gam := [⟨49, [], true, true, []⟩], imm := false, old := false }
theorem aK (O : Alg) (x : Ags O) : XF (O := O) Tryz.prog Wx false false [] 82 [] (xr x Rq 0) = Kw O x := by kernel_rfl
theorem cG {E : Env} {M : Nat} (N : Nat) (h : ∀ ls, E 82 [] ls = Km N ls) : VV Tryz.prog E M ⟨82, [], false, false, []⟩ :=
 CY mix (E := Fr N) (N := N) (cfg := Wx) (ci := ⟨82, [], false, false, []⟩) (ks := Rq) (BB (ZQ N (fun _ => rfl)) Fv) (c := Km N) (F := fun ls => Kw (std (Fr N) N) (xOf ls)) (fun ls => rfl) (fun ls => aK (std (Fr N) N) (xOf ls)) h
theorem WY : Vd Tryz.prog 83 HB := vt mix Pk HD [(142, Bh)] (gs Na g0) rfl (fun _ _ => rfl) fun O x => by kernel_rfl
def Vj : Cfg := { gam := [⟨81, [], true, true, []⟩, ⟨82, [], false, false, []⟩, ⟨83, [], true, true, []⟩], imm := false, old := true, ie := [122, 97, 3, 4, 47, 33, 45, 125, 5, 159, 48, 43, 185] }
theorem aZ (O : Alg) (x : Ags O) : XF (O := O) Tryz.prog Vj false false [] 36 [] (xr x Rl 0) = KL O x := by kernel_rfl
theorem Wb {E : Env} {M : Nat} (N : Nat) (h : ∀ ls, E 36 [] ls = IL N ls) : VV Tryz.prog E M ⟨36, [], false, false, []⟩ :=
 CY mix (E := Cw N) (N := N) (cfg := Vj) (ci := ⟨36, [], false, false, []⟩) (ks := Rl) (BB (aI N (fun _ => rfl)) (BB (cG N (fun _ => rfl)) (BB (WY N (fun _ => rfl)) Fv))) (c := IL N) (F := fun ls => KL (std (Cw N) N) (xOf ls)) (fun ls => rfl) (fun ls => aZ (std (Cw N) N) (xOf ls)) h
def Tg : Cfg := { gam := [⟨36, [], false, false, []⟩], imm := false, old := false }
theorem YX (O : Alg) (x : Ags O) : XF (O := O) Tryz.prog Tg false false [] 42 [] (xr x PC 0) = Hn O x := by kernel_rfl
theorem KM {E : Env} {M : Nat} (N : Nat) (h : ∀ ls, E 42 [] ls = Bp N ls) : VV Tryz.prog E M ⟨42, [], false, false, []⟩ :=
 CY mix (E := Dr N) (N := N) (cfg := Tg) (ci := ⟨42, [], false, false, []⟩) (ks := PC) (BB (Wb N (fun _ => rfl)) Fv) (c := Bp N) (F := fun ls => Hn (std (Dr N) N) (xOf ls)) (fun ls => rfl) (fun ls => YX (std (Dr N) N) (xOf ls)) h
theorem ce : Vd Tryz.prog 80 Xx := vt mix Xk X3 [] g0 rfl (fun _ _ => rfl) fun O x => by kernel_rfl
def Ub : Cfg := { gam := [⟨36, [], false, false, []⟩, ⟨42, [], false, false, []⟩, ⟨80, [], true, true, []⟩], imm := false, old := false }
theorem Zx (O : Alg) (x : Ags O) : XF (O := O) Tryz.prog Ub true true [] 33 [] (xr x QA 0) = QG O x := by kernel_rfl
theorem aF : Vd Tryz.prog 33 Gy := fun N h =>
 CY mix (E := JL N) (N := N) (cfg := Ub) (ci := ⟨33, [], true, true, []⟩) (ks := QA) (BB (Wb N (fun _ => rfl)) (BB (KM N (fun _ => rfl)) (BB (ce N (fun _ => rfl)) Fv))) (c := Gy N) (F := fun ls => QG (std (JL N) N) (xOf ls)) (fun ls => rfl) (fun ls => Zx (std (JL N) N) (xOf ls)) h
def Rv : Cfg := { gam := [], imm := false, old := false }
theorem W1 (O : Alg) (x : Ags O) : XF (O := O) Tryz.prog Rv false false [] 34 [] (xr x NA 0) = Gf O x := by kernel_rfl
theorem YQ {E : Env} {M : Nat} (N : Nat) (h : ∀ ls, E 34 [] ls = Gl N ls) : VV Tryz.prog E M ⟨34, [], false, false, []⟩ :=
 CY mix (E := Ez N) (N := N) (cfg := Rv) (ci := ⟨34, [], false, false, []⟩) (ks := NA) Fv (c := Gl N) (F := fun ls => Gf (std (Ez N) N) (xOf ls)) (fun ls => rfl) (fun ls => W1 (std (Ez N) N) (xOf ls)) h
def Xt : Cfg := { gam := [], imm := false, old := false }
theorem bh (O : Alg) (x : Ags O) : XF (O := O) Tryz.prog Xt false false [] 35 [] (xr x Sb 0) = MZ O x := by kernel_rfl
theorem cV {E : Env} {M : Nat} (N : Nat) (h : ∀ ls, E 35 [] ls = Mk N ls) : VV Tryz.prog E M ⟨35, [], false, false, []⟩ :=
 CY mix (E := JB N) (N := N) (cfg := Xt) (ci := ⟨35, [], false, false, []⟩) (ks := Sb) Fv (c := Mk N) (F := fun ls => MZ (std (JB N) N) (xOf ls)) (fun ls => rfl) (fun ls => bh (std (JB N) N) (xOf ls)) h
def UV : Cfg := { gam := [⟨42, [], false, false, []⟩, ⟨52, [], true, true, []⟩], imm := false, old := false }
theorem ZW (O : Alg) (x : Ags O) : XF (O := O) Tryz.prog UV true true [] 44 [] (xr x QR 0) = Iz O x := by kernel_rfl
theorem aj : Vd Tryz.prog 44 I5 := fun N h =>
 CY mix (E := DM N) (N := N) (cfg := UV) (ci := ⟨44, [], true, true, []⟩) (ks := QR) (BB (KM N (fun _ => rfl)) (BB (Bt N (fun _ => rfl)) Fv)) (c := I5 N) (F := fun ls => Iz (std (DM N) N) (xOf ls)) (fun ls => rfl) (fun ls => ZW (std (DM N) N) (xOf ls)) h
def Z4 : Cfg := { gam := [⟨42, [], false, false, []⟩, ⟨52, [], true, true, []⟩], imm := false, old := false }
theorem cp (O : Alg) (x : Ags O) : XF (O := O) Tryz.prog Z4 false false [] 46 [] (xr x VL 0) = On O x := by kernel_rfl
theorem dv {E : Env} {M : Nat} (N : Nat) (h : ∀ ls, E 46 [] ls = PA N ls) : VV Tryz.prog E M ⟨46, [], false, false, []⟩ :=
 CY mix (E := GQ N) (N := N) (cfg := Z4) (ci := ⟨46, [], false, false, []⟩) (ks := VL) (BB (KM N (fun _ => rfl)) (BB (Bt N (fun _ => rfl)) Fv)) (c := PA N) (F := fun ls => On (std (GQ N) N) (xOf ls)) (fun ls => rfl) (fun ls => cp (std (GQ N) N) (xOf ls)) h
theorem Vq : Vd Tryz.prog 152 Ep := vt mix Pp G8 [] g0 rfl (fun _ _ => rfl) fun O x => by kernel_rfl
theorem Rg : Vd Tryz.prog 153 CO := vt mix K5 Dl [] g0 rfl (fun _ _ => rfl) fun O x => by kernel_rfl
theorem Zy : Vd Tryz.prog 89 Kh := vt mix TF K1 [(152, Ep), (153, CO)] (gs Vq (gs Rg g0)) rfl (fun _ _ => rfl) fun O x => by kernel_rfl
theorem Qd : Vd Tryz.prog 73 CM := vt mix Jy DF [] g0 rfl (fun _ _ => rfl) fun O x => by kernel_rfl
theorem Sm : Vd Tryz.prog 74 Cx := vt mix Mj E1 [] g0 rfl (fun _ _ => rfl) fun O x => by kernel_rfl
theorem SW : Vd Tryz.prog 75 Cl := vt mix LQ EF [] g0 rfl (fun _ _ => rfl) fun O x => by kernel_rfl
theorem U8 : Vd Tryz.prog 76 Dx := vt mix Oc GE [] g0 rfl (fun _ _ => rfl) fun O x => by kernel_rfl
theorem XJ : Vd Tryz.prog 27 IA := vt mix Q6 H2 [(73, CM), (74, Cx), (75, Cl), (76, Dx)] (gs Qd (gs Sm (gs SW (gs U8 g0)))) rfl (fun _ _ => rfl) fun O x => by kernel_rfl
def GT : Cfg := { gam := [⟨27, [], true, true, []⟩], imm := false, old := false }
theorem MW (O : Alg) (x : Ags O) : XF (O := O) Tryz.prog GT true true [] 90 [27] (xr x DN 0) = BW O x := by kernel_rfl
theorem Mx {E : Env} {M : Nat} (N : Nat) (h : ∀ ls, E 90 [27] ls = BV N ls) : VV Tryz.prog E M ⟨90, [27], true, true, []⟩ :=
 CY mix (E := Ax N) (N := N) (cfg := GT) (ci := ⟨90, [27], true, true, []⟩) (ks := DN) (BB (XJ N (fun _ => rfl)) Fv) (c := BV N) (F := fun ls => BW (std (Ax N) N) (xOf ls)) (fun ls => rfl) (fun ls => MW (std (Ax N) N) (xOf ls)) h
def Sj : Cfg := { gam := [⟨89, [], true, true, []⟩, ⟨90, [27], true, true, []⟩], imm := false, old := false }
theorem YL (O : Alg) (x : Ags O) : XF (O := O) Tryz.prog Sj true true [] 48 [] (xr x OT 0) = Hg O x := by kernel_rfl
theorem Yq : Vd Tryz.prog 48 Hb := fun N h =>
 CY mix (E := Cq N) (N := N) (cfg := Sj) (ci := ⟨48, [], true, true, []⟩) (ks := OT) (BB (Zy N (fun _ => rfl)) (BB (Mx N (fun _ => rfl)) Fv)) (c := Hb N) (F := fun ls => Hg (std (Cq N) N) (xOf ls)) (fun ls => rfl) (fun ls => YL (std (Cq N) N) (xOf ls)) h
def Ne : Cfg := { gam := [⟨33, [], true, true, []⟩, ⟨34, [], false, false, []⟩, ⟨35, [], false, false, []⟩, ⟨42, [], false, false, []⟩, ⟨44, [], true, true, []⟩, ⟨46, [], false, false, []⟩, ⟨48, [], true, true, []⟩], imm := false, old := false }
theorem Se (O : Alg) (x : Ags O) : XF (O := O) Tryz.prog Ne true true [] 11 [] (xr x Ij 0) = De O x := by kernel_rfl
theorem UL : Vd Tryz.prog 11 DR := fun N h =>
 CY mix (E := Ak N) (N := N) (cfg := Ne) (ci := ⟨11, [], true, true, []⟩) (ks := Ij) (BB (aF N (fun _ => rfl)) (BB (YQ N (fun _ => rfl)) (BB (cV N (fun _ => rfl)) (BB (KM N (fun _ => rfl)) (BB (aj N (fun _ => rfl)) (BB (dv N (fun _ => rfl)) (BB (Yq N (fun _ => rfl)) Fv))))))) (c := DR N) (F := fun ls => De (std (Ak N) N) (xOf ls)) (fun ls => rfl) (fun ls => Se (std (Ak N) N) (xOf ls)) h
end Go.Px
