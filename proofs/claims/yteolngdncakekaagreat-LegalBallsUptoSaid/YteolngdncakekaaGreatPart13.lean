/- Part 13. -/
import Derived.Test.YteolngdncakekaaGreatPart07
import Derived.Test.YteolngdncakekaaGreatProg
import Derived.Test.YteolngdncakekaaGreatPart08
import Derived.KernelRfl
import Derived.WalkKit
import Derived.Lib.Walk
import Derived.BigCall
import Derived.BigGuard
set_option linter.unusedVariables false
set_option linter.unusedSimpArgs false
namespace Go.Px
open Go.Proofs
set_option maxRecDepth 100000
theorem mix:Tryz.prog.follows .mixedOrders=true:=by kernel_rfl
theorem aF:Vd Tryz.prog 57 I2:=vt mix Ue MN [] g0 rfl (fun _ _=>rfl) fun O x=>by kernel_rfl
theorem Pf:Vd Tryz.prog 87 B7:=vt mix PF PM [] g0 rfl (fun _ _=>rfl) fun O x=>by kernel_rfl
theorem WA:Vd Tryz.prog 58 FO:=vt mix PR HU [(87,B7)] (gs Pf g0) rfl (fun _ _=>rfl) fun O x=>by kernel_rfl
theorem Xg:Vd Tryz.prog 59 F4:=vt mix Q4 IX [(87,B7)] (gs Pf g0) rfl (fun _ _=>rfl) fun O x=>by kernel_rfl
theorem Ci:Vd Tryz.prog 32 AO:=vt mix SF JT [(57,I2),(58,FO),(59,F4)] (gs aF (gs WA (gs Xg g0))) rfl (fun _ _=>rfl) fun O x=>by kernel_rfl
theorem De:Vd Tryz.prog 60 Ab:=vt mix NK NS [] g0 rfl (fun _ _=>rfl) fun O x=>by kernel_rfl
theorem UN:Vd Tryz.prog 61 Di:=vt mix NP Fk [(60,Ab)] (gs De g0) rfl (fun _ _=>rfl) fun O x=>by kernel_rfl
theorem Sj:Vd Tryz.prog 118 DE:=vt mix MX FP [] g0 rfl (fun _ _=>rfl) fun O x=>by kernel_rfl
theorem Fv:Vd Tryz.prog 88 Af:=vt mix J6 DT [(118,DE)] (gs Sj g0) rfl (fun _ _=>rfl) fun O x=>by kernel_rfl
theorem SK:Vd Tryz.prog 62 Cs:=vt mix LQ Eb [(60,Ab),(88,Af)] (gs De (gs Fv g0)) rfl (fun _ _=>rfl) fun O x=>by kernel_rfl
theorem SU:Vd Tryz.prog 90 Ct:=vt mix LN ES [(60,Ab)] (gs De g0) rfl (fun _ _=>rfl) fun O x=>by kernel_rfl
theorem UA:Vd Tryz.prog 63 Dm:=vt mix NM FZ [(90,Ct)] (gs SU g0) rfl (fun _ _=>rfl) fun O x=>by kernel_rfl
theorem K8:Vd Tryz.prog 33 A9:=vt mix Pb HV [(32,AO),(60,Ab),(61,Di),(62,Cs),(63,Dm)] (gs Ci (gs De (gs UN (gs SK (gs UA g0))))) rfl (fun _ _=>rfl) fun O x=>by kernel_rfl
theorem JR:Vd Tryz.prog 51 A7:=vt mix SG JU [] g0 rfl (fun _ _=>rfl) fun O x=>by kernel_rfl
theorem SB:Vd Tryz.prog 34 Ch:=vt mix R9 Ja [(51,A7)] (gs JR g0) rfl (fun _ _=>rfl) fun O x=>by kernel_rfl
theorem YH:Vd Tryz.prog 35 Gm:=vt mix SA JQ [] g0 rfl (fun _ _=>rfl) fun O x=>by kernel_rfl
theorem JM:Vd Tryz.prog 13 BR:=vt mix SD JN [(32,AO),(33,A9),(34,Ch),(35,Gm)] (gs Ci (gs K8 (gs SB (gs YH g0)))) rfl (fun _ _=>rfl) fun O x=>by kernel_rfl
theorem XX:Vd Tryz.prog 46 GA:=vt mix Qw Ic [] g0 rfl (fun _ _=>rfl) fun O x=>by kernel_rfl
theorem Wd:Vd Tryz.prog 47 FC:=vt mix Pk Kd [] g0 rfl (fun _ _=>rfl) fun O x=>by kernel_rfl
open Go.RowKit Go.Lib in
set_option maxHeartbeats 1000000 in
theorem Np (s:ByteArray) (c:Int) (w:World):Calls Tryz.prog 113 #[.string s,.int .u8 c] w fun e w'=>e=.returned (.int .i64 (Lib.indexByte s.data.toList c.toNat.toUInt8))∧w'=w:=by
 go_enter Tryz.func113,Tryz.ntmps113
 go_wp2
 rw [run_callFunc_extern Tryz.func134 (by kernel_rfl) (by kernel_rfl) (by kernel_rfl) (e:=Extern.BytealgIndexByte.indexByte) (by kernel_rfl),Lib.run_indexByteString]
 simp only [Result.andThen]
 rw [Oper.upon_value]
 go_wp2
 go_ret
 exact ⟨rfl,rfl⟩
theorem O6:Vd Tryz.prog 113 B3:=fun N h =>
 aG Tryz.func113 (T9:=9) (T5:=5) (T3:=3) rfl rfl Tryz.underlying9 Tryz.underlying5 Tryz.underlying3 (by kernel_rfl) Np h
theorem SQ:Vd Tryz.prog 76 Cv:=vt mix LM EV [(113,B3)] (gs O6 g0) rfl (fun _ _=>rfl) fun O x=>by kernel_rfl
theorem YU:Vd Tryz.prog 77 Ei:=vt mix SH Rz [] g0 rfl (fun _ _=>rfl) fun O x=>by kernel_rfl
theorem Yt:Vd Tryz.prog 48 Hl:=vt mix TH LB [(76,Cv),(77,Ei)] (gs SQ (gs YU g0)) rfl (fun _ _=>rfl) fun O x=>by kernel_rfl
theorem TL:Vd Tryz.prog 78 DI:=vt mix MW Hg [] g0 rfl (fun _ _=>rfl) fun O x=>by kernel_rfl
theorem VT:Vd Tryz.prog 49 D7:=vt mix Oq GU [(78,DI)] (gs TL g0) rfl (fun _ _=>rfl) fun O x=>by kernel_rfl
theorem Rs:Vd Tryz.prog 28 Cl:=vt mix R3 G3 [(46,GA),(47,FC),(48,Hl),(49,D7)] (gs XX (gs Wd (gs Yt (gs VT g0)))) rfl (fun _ _=>rfl) fun O x=>by kernel_rfl
theorem Rf:Vd Tryz.prog 74 Ca:=fun N h =>
 MM mix (T:=22) (e:=118) (b:=24) Tryz.func74 Tryz.underlying22 (by kernel_rfl) (by decide) (fun O l=>by kernel_rfl) (fun O l=>by kernel_rfl) h
theorem R6:Vd Tryz.prog 43 Cm:=vt mix Rx JI [(74,Ca)] (gs Rf g0) rfl (fun _ _=>rfl) fun O x=>by kernel_rfl
theorem DS:Vd Tryz.prog 79 AN:=fun N h =>
 MM mix (T:=67) (e:=126) (b:=1) Tryz.func79 Tryz.underlying67 (by kernel_rfl) (by decide) (fun O l=>by kernel_rfl) (fun O l=>by kernel_rfl) h
theorem E8:Vd Tryz.prog 80 AZ:=fun N h =>
 MM mix (T:=68) (e:=3) (b:=8) Tryz.func80 Tryz.underlying68 (by kernel_rfl) (by decide) (fun O l=>by kernel_rfl) (fun O l=>by kernel_rfl) h
theorem Ea:Vd Tryz.prog 81 AW:=fun N h =>
 MM mix (T:=69) (e:=4) (b:=1) Tryz.func81 Tryz.underlying69 (by kernel_rfl) (by decide) (fun O l=>by kernel_rfl) (fun O l=>by kernel_rfl) h
theorem B6:Vd Tryz.prog 50 AL:=vt mix PN HJ [(79,AN),(80,AZ),(81,AW)] (gs DS (gs E8 (gs Ea g0))) rfl (fun _ _=>rfl) fun O x=>by kernel_rfl
theorem YG:Vd Tryz.prog 29 Gy:=vt mix SI JK [(43,Cm),(50,AL)] (gs R6 (gs B6 g0)) rfl (fun _ _=>rfl) fun O x=>by kernel_rfl
theorem M5:Vd Tryz.prog 55 Bf:=vt mix Rv JG [] g0 rfl (fun _ _=>rfl) fun O x=>by kernel_rfl
theorem Mh:Vd Tryz.prog 85 BW:=vt mix MS FK [] g0 rfl (fun _ _=>rfl) fun O x=>by kernel_rfl
theorem WB:Vd Tryz.prog 56 E3:=vt mix PZ HZ [(13,BR),(51,A7),(55,Bf),(85,BW)] (gs JM (gs JR (gs M5 (gs Mh g0)))) rfl (fun _ _=>rfl) fun O x=>by kernel_rfl
theorem Wj:Vd Tryz.prog 82 FN:=vt mix PC HP [(32,AO),(60,Ab)] (gs Ci (gs De g0)) rfl (fun _ _=>rfl) fun O x=>by kernel_rfl
theorem W6:Vd Tryz.prog 83 Fx:=vt mix QS Ia [(51,A7),(55,Bf)] (gs JR (gs M5 g0)) rfl (fun _ _=>rfl) fun O x=>by kernel_rfl
theorem UI:Vd Tryz.prog 136 Db:=vt mix NR Ig [] g0 rfl (fun _ _=>rfl) fun O x=>by kernel_rfl
theorem Wm:Vd Tryz.prog 114 E4:=vt mix PT HO [(136,Db)] (gs UI g0) rfl (fun _ _=>rfl) fun O x=>by kernel_rfl
theorem GB:Vd Tryz.prog 160 Am:=vt mix TX Kg [(79,AN),(80,AZ),(81,AW)] (gs DS (gs E8 (gs Ea g0))) rfl (fun _ _=>rfl) fun O x=>by kernel_rfl
theorem VB:Vd Tryz.prog 191 CN:=vt mix OG Jd [] g0 rfl (fun _ _=>rfl) fun O x=>by kernel_rfl
theorem Qe:Vd Tryz.prog 161 Bk:=vt mix Qm D0 [(191,CN)] (gs VB g0) rfl (fun _ _=>rfl) fun O x=>by kernel_rfl
theorem F7:Vd Tryz.prog 162 Al:=vt mix QV IJ [] g0 rfl (fun _ _=>rfl) fun O x=>by kernel_rfl
theorem YQ:Vd Tryz.prog 137 Gq:=vt mix Ry JJ [(160,Am),(161,Bk),(162,Al)] (gs GB (gs Qe (gs F7 g0))) rfl (fun _ _=>rfl) fun O x=>by kernel_rfl
theorem P8:Vd Tryz.prog 163 CE:=vt mix Ub MQ [(79,AN),(80,AZ),(81,AW)] (gs DS (gs E8 (gs Ea g0))) rfl (fun _ _=>rfl) fun O x=>by kernel_rfl
theorem NC:Vd Tryz.prog 192 Be:=vt mix Rw JF [] g0 rfl (fun _ _=>rfl) fun O x=>by kernel_rfl
theorem Zh:Vd Tryz.prog 193 Hu:=vt mix Tk KY [(32,AO),(192,Be)] (gs Ci (gs NC g0)) rfl (fun _ _=>rfl) fun O x=>by kernel_rfl
theorem aV:Vd Tryz.prog 164 I6:=vt mix UX MF [(32,AO),(88,Af),(192,Be),(193,Hu)] (gs Ci (gs Fv (gs NC (gs Zh g0)))) rfl (fun _ _=>rfl) fun O x=>by kernel_rfl
theorem Z7:Vd Tryz.prog 138 Hh:=vt mix TW Ku [(163,CE),(164,I6)] (gs P8 (gs aV g0)) rfl (fun _ _=>rfl) fun O x=>by kernel_rfl
theorem SL:Vd Tryz.prog 103 Cr:=vt mix LP EX [] g0 rfl (fun _ _=>rfl) fun O x=>by kernel_rfl
theorem Je:Vd Tryz.prog 70 Ax:=vt mix Oy Gf [(103,Cr)] (gs SL g0) rfl (fun _ _=>rfl) fun O x=>by kernel_rfl
theorem NO:Vd Tryz.prog 130 BO:=vt mix Nc NY [] g0 rfl (fun _ _=>rfl) fun O x=>by kernel_rfl
theorem W8:Vd Tryz.prog 104 F2:=vt mix Qt IK [(130,BO)] (gs NO g0) rfl (fun _ _=>rfl) fun O x=>by kernel_rfl
theorem Ti:Vd Tryz.prog 131 C9:=vt mix Mr FI [] g0 rfl (fun _ _=>rfl) fun O x=>by kernel_rfl
theorem Qn:Vd Tryz.prog 105 CT:=vt mix Jz DM [(131,C9)] (gs Ti g0) rfl (fun _ _=>rfl) fun O x=>by kernel_rfl
theorem Tl:Vd Tryz.prog 132 C4:=vt mix MY Ey [] g0 rfl (fun _ _=>rfl) fun O x=>by kernel_rfl
theorem Vg:Vd Tryz.prog 106 ER:=vt mix OL GY [(130,BO),(132,C4)] (gs NO (gs Tl g0)) rfl (fun _ _=>rfl) fun O x=>by kernel_rfl
theorem QE:Vd Tryz.prog 133 CH:=vt mix I1 C2 [] g0 rfl (fun _ _=>rfl) fun O x=>by kernel_rfl
theorem Q8:Vd Tryz.prog 107 CZ:=vt mix Kt Dt [(133,CH)] (gs QE g0) rfl (fun _ _=>rfl) fun O x=>by kernel_rfl
theorem Kq:Vd Tryz.prog 71 A2:=vt mix Ky Ds [(104,F2),(105,CT),(106,ER),(107,CZ)] (gs W8 (gs Qn (gs Vg (gs Q8 g0)))) rfl (fun _ _=>rfl) fun O x=>by kernel_rfl
theorem KZ:Vd Tryz.prog 151 A6:=vt mix PW DQ [(161,Bk)] (gs Qe g0) rfl (fun _ _=>rfl) fun O x=>by kernel_rfl
theorem Gz:Vd Tryz.prog 174 Ap:=vt mix Ru JX [] g0 rfl (fun _ _=>rfl) fun O x=>by kernel_rfl
theorem GP:Vd Tryz.prog 175 Ao:=vt mix Oi GW [(174,Ap)] (gs Gz g0) rfl (fun _ _=>rfl) fun O x=>by kernel_rfl
theorem Vr:Vd Tryz.prog 210 E6:=vt mix PH HT [] g0 rfl (fun _ _=>rfl) fun O x=>by kernel_rfl
theorem YF:Vd Tryz.prog 194 Gv:=vt mix R2 JZ [(174,Ap),(175,Ao),(210,E6)] (gs Gz (gs GP (gs Vr g0))) rfl (fun _ _=>rfl) fun O x=>by kernel_rfl
theorem YW:Vd Tryz.prog 195 G2:=vt mix R1 JE [(174,Ap),(175,Ao)] (gs Gz (gs GP g0)) rfl (fun _ _=>rfl) fun O x=>by kernel_rfl
theorem UB:Vd Tryz.prog 165 Df:=vt mix NL Fc [(70,Ax),(71,A2),(151,A6),(194,Gv),(195,G2)] (gs Je (gs Kq (gs KZ (gs YF (gs YW g0))))) rfl (fun _ _=>rfl) fun O x=>by kernel_rfl
theorem SN:Vd Tryz.prog 196 Cu:=vt mix LO EY [] g0 rfl (fun _ _=>rfl) fun O x=>by kernel_rfl
theorem UO:Vd Tryz.prog 166 Dc:=vt mix NT Fa [(70,Ax),(196,Cu)] (gs Je (gs SN g0)) rfl (fun _ _=>rfl) fun O x=>by kernel_rfl
theorem ZR:Vd Tryz.prog 167 Hk:=vt mix TO Ka [(160,Am),(162,Al)] (gs GB (gs F7 g0)) rfl (fun _ _=>rfl) fun O x=>by kernel_rfl
theorem VJ:Vd Tryz.prog 168 D4:=vt mix OX OY [] g0 rfl (fun _ _=>rfl) fun O x=>by kernel_rfl
theorem Z8:Vd Tryz.prog 169 Ht:=vt mix Tc Kp [(32,AO),(88,Af),(163,CE),(192,Be)] (gs Ci (gs Fv (gs P8 (gs NC g0)))) rfl (fun _ _=>rfl) fun O x=>by kernel_rfl
theorem Vu:Vd Tryz.prog 170 E2:=vt mix Pc Hb [(160,Am)] (gs GB g0) rfl (fun _ _=>rfl) fun O x=>by kernel_rfl
theorem Xa:Vd Tryz.prog 139 Fm:=vt mix Qd IH [(50,AL),(165,Df),(166,Dc),(167,Hk),(168,D4),(169,Ht),(170,E2)] (gs B6 (gs UB (gs UO (gs ZR (gs VJ (gs Z8 (gs Vu g0))))))) rfl (fun _ _=>rfl) fun O x=>by kernel_rfl
theorem Sb:Vd Tryz.prog 171 DB:=vt mix Sz Ki [(151,A6),(162,Al)] (gs KZ (gs F7 g0)) rfl (fun _ _=>rfl) fun O x=>by kernel_rfl
theorem U3:Vd Tryz.prog 140 ED:=vt mix O0 GS [(160,Am),(162,Al),(171,DB)] (gs GB (gs F7 (gs Sb g0))) rfl (fun _ _=>rfl) fun O x=>by kernel_rfl
theorem XE:Vd Tryz.prog 141 Fz:=vt mix Qk IM [(160,Am),(171,DB)] (gs GB (gs Sb g0)) rfl (fun _ _=>rfl) fun O x=>by kernel_rfl
theorem R0:Vd Tryz.prog 152 CK:=vt mix R7 Ek [] g0 rfl (fun _ _=>rfl) fun O x=>by kernel_rfl
theorem Wa:Vd Tryz.prog 142 FG:=vt mix PY HL [(152,CK),(160,Am),(162,Al)] (gs R0 (gs GB (gs F7 g0))) rfl (fun _ _=>rfl) fun O x=>by kernel_rfl
theorem P0:Vd Tryz.prog 173 CG:=vt mix Uh MG [(79,AN),(80,AZ),(81,AW)] (gs DS (gs E8 (gs Ea g0))) rfl (fun _ _=>rfl) fun O x=>by kernel_rfl
theorem Wi:Vd Tryz.prog 143 Et:=vt mix Pa HR [(173,CG)] (gs P0 g0) rfl (fun _ _=>rfl) fun O x=>by kernel_rfl
theorem XO:Vd Tryz.prog 144 GE:=vt mix QQ IR [(173,CG),(174,Ap),(175,Ao)] (gs P0 (gs Gz (gs GP g0))) rfl (fun _ _=>rfl) fun O x=>by kernel_rfl
theorem TP:Vd Tryz.prog 145 DA:=vt mix Mn FF [(173,CG),(174,Ap),(175,Ao)] (gs P0 (gs Gz (gs GP g0))) rfl (fun _ _=>rfl) fun O x=>by kernel_rfl
theorem WR:Vd Tryz.prog 146 Ew:=vt mix Pm HX [(32,AO),(163,CE)] (gs Ci (gs P8 g0)) rfl (fun _ _=>rfl) fun O x=>by kernel_rfl
theorem UH:Vd Tryz.prog 147 Dn:=vt mix NN Fi [(50,AL)] (gs B6 g0) rfl (fun _ _=>rfl) fun O x=>by kernel_rfl
theorem Nb:Vd Tryz.prog 117 Bn:=vt mix NV Fg [(50,AL)] (gs B6 g0) rfl (fun _ _=>rfl) fun O x=>by kernel_rfl
theorem UQ:Vd Tryz.prog 148 Dj:=vt mix NW Fd [(50,AL),(117,Bn)] (gs B6 (gs Nb g0)) rfl (fun _ _=>rfl) fun O x=>by kernel_rfl
theorem VN:Vd Tryz.prog 149 D5:=vt mix OM D6 [(50,AL)] (gs B6 g0) rfl (fun _ _=>rfl) fun O x=>by kernel_rfl
theorem Wb:Vd Tryz.prog 176 FD:=vt mix PK PA [] g0 rfl (fun _ _=>rfl) fun O x=>by kernel_rfl
theorem VX:Vd Tryz.prog 150 EG:=vt mix Of GV [(50,AL),(176,FD)] (gs B6 (gs Wb g0)) rfl (fun _ _=>rfl) fun O x=>by kernel_rfl
theorem UE:Vd Tryz.prog 115 Dg:=vt mix NU Dd [(137,Gq),(138,Hh),(139,Fm),(140,ED),(141,Fz),(142,FG),(143,Et),(144,GE),(145,DA),(146,Ew),(147,Dn),(148,Dj),(149,D5),(150,EG)] (gs YQ (gs Z7 (gs Xa (gs U3 (gs XE (gs Wa (gs Wi (gs XO (gs TP (gs WR (gs UH (gs UQ (gs VN (gs VX g0)))))))))))))) rfl (fun _ _=>rfl) fun O x=>by kernel_rfl
theorem VA:Vd Tryz.prog 116 Cy:=vt mix OO Gg [(33,A9),(151,A6),(152,CK)] (gs K8 (gs KZ (gs R0 g0))) rfl (fun _ _=>rfl) fun O x=>by kernel_rfl
theorem W7:Vd Tryz.prog 84 GG:=vt mix Qo IQ [(28,Cl),(33,A9),(50,AL),(114,E4),(115,Dg),(116,Cy)] (gs Rs (gs K8 (gs B6 (gs Wm (gs UE (gs VA g0)))))) rfl (fun _ _=>rfl) fun O x=>by kernel_rfl
theorem OS:Vd Tryz.prog 12 Bd:=vt mix S6 KW [(13,BR),(28,Cl),(29,Gy),(34,Ch),(51,A7),(55,Bf),(56,E3),(82,FN),(83,Fx),(84,GG),(85,BW),(117,Bn)] (gs JM (gs Rs (gs YG (gs SB (gs JR (gs M5 (gs WB (gs Wj (gs W6 (gs W7 (gs Mh (gs Nb g0)))))))))))) rfl (fun _ _=>rfl) fun O x=>by kernel_rfl
theorem QJ:Vd Tryz.prog 15 Bj:=vt mix UT MK [(12,Bd)] (gs OS g0) rfl (fun _ _=>rfl) fun O x=>by kernel_rfl
theorem ZZ:Vd Tryz.prog 75 DG:=vt mix S7 K0 [] g0 rfl (fun _ _=>rfl) fun O x=>by kernel_rfl
def QR:Cfg:={ gam:=[⟨75,[],true,true,[]⟩],imm:=false,old:=false }
theorem Vo (O:Alg) (x:Ags O):XF (O:=O) Tryz.prog QR false true [] 44 [] (xr x LW 0)=F5 O x:=by kernel_rfl
theorem XI {E:Env} {M:Nat} (N:Nat) (h:∀ ls,E 44 [] ls=Ft N ls):VV Tryz.prog E M ⟨44,[],false,true,[]⟩ :=
 Hp mix (E:=Cx N) (N:=N) (cfg:=QR) (ci:=⟨44,[],false,true,[]⟩) (ks:=LW) (DZ (ZZ N (fun _=>rfl)) OC) (c:=Ft N) (F:=fun ls=>F5 (std (Cx N) N) (xOf ls)) (fun ls=>rfl) (fun ls=>Vo (std (Cx N) N) (xOf ls)) h
def WM:Cfg:={ gam:=[⟨13,[],true,true,[]⟩,⟨15,[],true,true,[]⟩,⟨44,[],false,true,[]⟩],imm:=false,old:=false,ie:=[60000] }
theorem ai (O:Alg) (x:Ags O):XF (O:=O) Tryz.prog WM true true [] 27 [] (xr x Rn 0)=KV O x:=by kernel_rfl
theorem cR:Vd Tryz.prog 27 Ga:=fun N h =>
 Hp mix (E:=C5 N) (N:=N) (cfg:=WM) (ci:=⟨27,[],true,true,[]⟩) (ks:=Rn) (DZ (JM N (fun _=>rfl)) (DZ (QJ N (fun _=>rfl)) (DZ (XI N (fun _=>rfl)) OC))) (c:=Ga N) (F:=fun ls=>KV (std (C5 N) N) (xOf ls)) (fun ls=>rfl) (fun ls=>ai (std (C5 N) N) (xOf ls)) h
theorem ZQ:Vd Tryz.prog 11 Cb:=vt mix S1 LA [(27,Ga)] (gs cR g0) rfl (fun _ _=>rfl) fun O x=>by kernel_rfl
theorem aE:Vd Tryz.prog 14 Cc:=vt mix TA Kz [] g0 rfl (fun _ _=>rfl) fun O x=>by kernel_rfl
theorem ac:Vd Tryz.prog 25 FU:=vt mix UZ MA [(32,AO),(43,Cm)] (gs Ci (gs R6 g0)) rfl (fun _ _=>rfl) fun O x=>by kernel_rfl
theorem co:Vd Tryz.prog 26 MZ:=vt mix YD Xz [] g0 rfl (fun _ _=>rfl) fun O x=>by kernel_rfl
theorem aM:Vd Tryz.prog 9 JB:=vt mix Uu MP [(11,Cb),(12,Bd),(14,Cc),(15,Bj),(25,FU),(26,MZ)] (gs ZQ (gs OS (gs aE (gs QJ (gs ac (gs co g0)))))) rfl (fun _ _=>rfl) fun O x=>by kernel_rfl
def Xw:Cfg:={ gam:=[],imm:=false,old:=true }
theorem bR (O:Alg) (x:Ags O):XF (O:=O) Tryz.prog Xw false false [] 10 [] (xr x Td 0)=Mp O x:=by kernel_rfl
theorem dW {E:Env} {M:Nat} (N:Nat) (h:∀ ls,E 10 [] ls=Mk N ls):VV Tryz.prog E M ⟨10,[],false,false,[]⟩ :=
 Hp mix (E:=Ix N) (N:=N) (cfg:=Xw) (ci:=⟨10,[],false,false,[]⟩) (ks:=Td) OC (c:=Mk N) (F:=fun ls=>Mp (std (Ix N) N) (xOf ls)) (fun ls=>rfl) (fun ls=>bR (std (Ix N) N) (xOf ls)) h
def PL:Cfg:={ gam:=[],imm:=false,old:=false }
theorem Vb (O:Alg) (x:Ags O):XF (O:=O) Tryz.prog PL false false [] 40 [] (xr x K1 0)=FM O x:=by kernel_rfl
theorem Vt {E:Env} {M:Nat} (N:Nat) (h:∀ ls,E 40 [] ls=FA N ls):VV Tryz.prog E M ⟨40,[],false,false,[]⟩ :=
 Hp mix (E:=Dp N) (N:=N) (cfg:=PL) (ci:=⟨40,[],false,false,[]⟩) (ks:=K1) OC (c:=FA N) (F:=fun ls=>FM (std (Dp N) N) (xOf ls)) (fun ls=>rfl) (fun ls=>Vb (std (Dp N) N) (xOf ls)) h
theorem WX:Vd Tryz.prog 41 HW:=vt mix Pi HY [(70,Ax),(71,A2)] (gs Je (gs Kq g0)) rfl (fun _ _=>rfl) fun O x=>by kernel_rfl
def MR:Cfg:={ gam:=[⟨13,[],true,true,[]⟩,⟨15,[],true,true,[]⟩,⟨40,[],false,false,[]⟩,⟨41,[],true,true,[]⟩],imm:=false,old:=false }
theorem ST (O:Alg) (x:Ags O):XF (O:=O) Tryz.prog MR true true [] 19 [] (xr x Hq 0)=C6 O x:=by kernel_rfl
theorem Ta:Vd Tryz.prog 19 CR:=fun N h =>
 Hp mix (E:=A1 N) (N:=N) (cfg:=MR) (ci:=⟨19,[],true,true,[]⟩) (ks:=Hq) (DZ (JM N (fun _=>rfl)) (DZ (QJ N (fun _=>rfl)) (DZ (Vt N (fun _=>rfl)) (DZ (WX N (fun _=>rfl)) OC)))) (c:=CR N) (F:=fun ls=>C6 (std (A1 N) N) (xOf ls)) (fun ls=>rfl) (fun ls=>ST (std (A1 N) N) (xOf ls)) h
def Oz:Cfg:={ gam:=[⟨9,[],true,true,[]⟩,⟨10,[],false,false,[]⟩,⟨12,[],true,true,[]⟩,⟨19,[],true,true,[]⟩],imm:=false,old:=false }
theorem UP (O:Alg) (x:Ags O):XF (O:=O) Tryz.prog Oz true true [] 6 [] (xr x Ji 0)=EC O x:=by kernel_rfl
theorem VO:Vd Tryz.prog 6 EN:=fun N h =>
 Hp mix (E:=BH N) (N:=N) (cfg:=Oz) (ci:=⟨6,[],true,true,[]⟩) (ks:=Ji) (DZ (aM N (fun _=>rfl)) (DZ (dW N (fun _=>rfl)) (DZ (OS N (fun _=>rfl)) (DZ (Ta N (fun _=>rfl)) OC)))) (c:=EN N) (F:=fun ls=>EC (std (BH N) N) (xOf ls)) (fun ls=>rfl) (fun ls=>UP (std (BH N) N) (xOf ls)) h
end Go.Px
