/- Part 15. -/
import Derived.Test.YteolngdncakekaaGreatPart07
import Derived.Test.YteolngdncakekaaGreatProg
import Derived.Test.YteolngdncakekaaGreatPart09
import Derived.KernelRfl
import Derived.WalkKit
import Derived.Lib.Walk
import Derived.BigCall
import Derived.BigGuard
set_option linter.unusedVariables false
set_option linter.unusedSimpArgs false
namespace Go.Px
open Go.Proofs
set_option maxRecDepth 100000
theorem mix:Tryz.prog.follows .mixedOrders=true:=by kernel_rfl
theorem o8:Vd Tryz.prog 57 LS:=vt mix dc QV [] g0 rfl (fun _ _=>rfl) fun O x=>by kernel_rfl
theorem Ud:Vd Tryz.prog 87 Cd:=vt mix VI Uj [] g0 rfl (fun _ _=>rfl) fun O x=>by kernel_rfl
theorem ic:Vd Tryz.prog 58 Fv:=vt mix U5 I6 [(87,Cd)] (gs Ud g0) rfl (fun _ _=>rfl) fun O x=>by kernel_rfl
theorem jf:Vd Tryz.prog 59 Gn:=vt mix Xc Kr [(87,Cd)] (gs Ud g0) rfl (fun _ _=>rfl) fun O x=>by kernel_rfl
theorem DP:Vd Tryz.prog 32 AU:=vt mix ZL L1 [(57,LS),(58,Fv),(59,Gn)] (gs o8 (gs ic (gs jf g0))) rfl (fun _ _=>rfl) fun O x=>by kernel_rfl
theorem ES:Vd Tryz.prog 60 Ai:=vt mix SB Ru [] g0 rfl (fun _ _=>rfl) fun O x=>by kernel_rfl
theorem cu:Vd Tryz.prog 61 EN:=vt mix R1 Ge [(60,Ai)] (gs ES g0) rfl (fun _ _=>rfl) fun O x=>by kernel_rfl
theorem aq:Vd Tryz.prog 118 Dv:=vt mix Qw F7 [] g0 rfl (fun _ _=>rfl) fun O x=>by kernel_rfl
theorem HO:Vd Tryz.prog 88 Am:=vt mix Mz D4 [(118,Dv)] (gs aq g0) rfl (fun _ _=>rfl) fun O x=>by kernel_rfl
theorem Zb:Vd Tryz.prog 62 DY:=vt mix PM FN [(60,Ai),(88,Am)] (gs ES (gs HO g0)) rfl (fun _ _=>rfl) fun O x=>by kernel_rfl
theorem Zm:Vd Tryz.prog 90 DZ:=vt mix PG FO [(60,Ai)] (gs ES g0) rfl (fun _ _=>rfl) fun O x=>by kernel_rfl
theorem cc:Vd Tryz.prog 63 ET:=vt mix Rw GV [(90,DZ)] (gs Zm g0) rfl (fun _ _=>rfl) fun O x=>by kernel_rfl
theorem N7:Vd Tryz.prog 33 BJ:=vt mix U2 I9 [(32,AU),(60,Ai),(61,EN),(62,DY),(63,ET)] (gs DP (gs ES (gs cu (gs Zb (gs cc g0))))) rfl (fun _ _=>rfl) fun O x=>by kernel_rfl
theorem Lm:Vd Tryz.prog 51 BK:=vt mix ZR Lu [] g0 rfl (fun _ _=>rfl) fun O x=>by kernel_rfl
theorem ZD:Vd Tryz.prog 34 DN:=vt mix Y1 MD [(51,BK)] (gs Lm g0) rfl (fun _ _=>rfl) fun O x=>by kernel_rfl
theorem lc:Vd Tryz.prog 35 IB:=vt mix ZI MK [] g0 rfl (fun _ _=>rfl) fun O x=>by kernel_rfl
theorem ME:Vd Tryz.prog 13 Bh:=vt mix Yz L9 [(32,AU),(33,BJ),(34,DN),(35,IB)] (gs DP (gs N7 (gs ZD (gs lc g0)))) rfl (fun _ _=>rfl) fun O x=>by kernel_rfl
theorem jR:Vd Tryz.prog 46 HD:=vt mix XW Kn [] g0 rfl (fun _ _=>rfl) fun O x=>by kernel_rfl
theorem hG:Vd Tryz.prog 47 Fk:=vt mix Ua OY [] g0 rfl (fun _ _=>rfl) fun O x=>by kernel_rfl
open Go.RowKit Go.Lib in
set_option maxHeartbeats 1000000 in
theorem SG (s:ByteArray) (c:Int) (w:World):Calls Tryz.prog 113 #[.string s,.int .u8 c] w fun e w'=>e=.returned (.int .i64 (Lib.indexByte s.data.toList c.toNat.toUInt8))∧w'=w:=by
 go_enter Tryz.func113,Tryz.ntmps113
 go_wp2
 rw [run_callFunc_extern Tryz.func134 (by kernel_rfl) (by kernel_rfl) (by kernel_rfl) (e:=Extern.BytealgIndexByte.indexByte) (by kernel_rfl),Lib.run_indexByteString]
 simp only [Result.andThen]
 rw [Oper.upon_value]
 go_wp2
 go_ret
 exact ⟨rfl,rfl⟩
theorem UH:Vd Tryz.prog 113 CZ:=fun N h =>
 pE Tryz.func113 (T9:=9) (T5:=5) (T3:=3) rfl rfl Tryz.underlying9 Tryz.underlying5 Tryz.underlying3 (by kernel_rfl) SG h
theorem Zj:Vd Tryz.prog 76 DX:=vt mix PK FJ [(113,CZ)] (gs UH g0) rfl (fun _ _=>rfl) fun O x=>by kernel_rfl
theorem lV:Vd Tryz.prog 77 Fd:=vt mix ZB ZS [] g0 rfl (fun _ _=>rfl) fun O x=>by kernel_rfl
theorem me:Vd Tryz.prog 48 Ja:=vt mix cD Oj [(76,DX),(77,Fd)] (gs Zj (gs lV g0)) rfl (fun _ _=>rfl) fun O x=>by kernel_rfl
theorem bo:Vd Tryz.prog 78 Dr:=vt mix Qt Jl [] g0 rfl (fun _ _=>rfl) fun O x=>by kernel_rfl
theorem fe:Vd Tryz.prog 49 FE:=vt mix Te H8 [(78,Dr)] (gs bo g0) rfl (fun _ _=>rfl) fun O x=>by kernel_rfl
theorem Ys:Vd Tryz.prog 28 DM:=vt mix ZA Ic [(46,HD),(47,Fk),(48,Ja),(49,FE)] (gs jR (gs hG (gs me (gs fe g0)))) rfl (fun _ _=>rfl) fun O x=>by kernel_rfl
theorem YS:Vd Tryz.prog 74 DB:=fun N h =>
 QH mix (T:=22) (e:=118) (b:=24) Tryz.func74 Tryz.underlying22 (by kernel_rfl) (by decide) (fun O l=>by kernel_rfl) (fun O l=>by kernel_rfl) h
theorem Yw:Vd Tryz.prog 43 DK:=vt mix ZT MC [(74,DB)] (gs YS g0) rfl (fun _ _=>rfl) fun O x=>by kernel_rfl
theorem D5:Vd Tryz.prog 79 AR:=fun N h =>
 QH mix (T:=67) (e:=126) (b:=1) Tryz.func79 Tryz.underlying67 (by kernel_rfl) (by decide) (fun O l=>by kernel_rfl) (fun O l=>by kernel_rfl) h
theorem F4:Vd Tryz.prog 80 Af:=fun N h =>
 QH mix (T:=68) (e:=3) (b:=8) Tryz.func80 Tryz.underlying68 (by kernel_rfl) (by decide) (fun O l=>by kernel_rfl) (fun O l=>by kernel_rfl) h
theorem FK:Vd Tryz.prog 81 Ac:=fun N h =>
 QH mix (T:=69) (e:=4) (b:=1) Tryz.func81 Tryz.underlying69 (by kernel_rfl) (by decide) (fun O l=>by kernel_rfl) (fun O l=>by kernel_rfl) h
theorem Cg:Vd Tryz.prog 50 AQ:=vt mix Us I4 [(79,AR),(80,Af),(81,Ac)] (gs D5 (gs F4 (gs FK g0))) rfl (fun _ _=>rfl) fun O x=>by kernel_rfl
theorem lO:Vd Tryz.prog 29 IC:=vt mix ZH MG [(43,DK),(50,AQ)] (gs Yw (gs Cg g0)) rfl (fun _ _=>rfl) fun O x=>by kernel_rfl
theorem RV:Vd Tryz.prog 55 Bu:=vt mix Y9 L6 [] g0 rfl (fun _ _=>rfl) fun O x=>by kernel_rfl
theorem Q5:Vd Tryz.prog 85 Bn:=vt mix RI F1 [] g0 rfl (fun _ _=>rfl) fun O x=>by kernel_rfl
theorem fu:Vd Tryz.prog 56 Fw:=vt mix Ui JF [(13,Bh),(51,BK),(55,Bu),(85,Bn)] (gs ME (gs Lm (gs RV (gs Q5 g0)))) rfl (fun _ _=>rfl) fun O x=>by kernel_rfl
theorem iL:Vd Tryz.prog 82 GF:=vt mix UV JL [(32,AU),(60,Ai)] (gs DP (gs ES g0)) rfl (fun _ _=>rfl) fun O x=>by kernel_rfl
theorem ji:Vd Tryz.prog 83 Gv:=vt mix W4 KV [(51,BK),(55,Bu)] (gs Lm (gs RV g0)) rfl (fun _ _=>rfl) fun O x=>by kernel_rfl
theorem cx:Vd Tryz.prog 136 EH:=vt mix Rx K2 [] g0 rfl (fun _ _=>rfl) fun O x=>by kernel_rfl
theorem ia:Vd Tryz.prog 114 Fm:=vt mix Uy JI [(136,EH)] (gs cx g0) rfl (fun _ _=>rfl) fun O x=>by kernel_rfl
theorem G5:Vd Tryz.prog 160 Ax:=vt mix aA O2 [(79,AR),(80,Af),(81,Ac)] (gs D5 (gs F4 (gs FK g0))) rfl (fun _ _=>rfl) fun O x=>by kernel_rfl
theorem ef:Vd Tryz.prog 191 Cx:=vt mix Tb MV [] g0 rfl (fun _ _=>rfl) fun O x=>by kernel_rfl
theorem Wm:Vd Tryz.prog 161 B3:=vt mix XQ Eo [(191,Cx)] (gs ef g0) rfl (fun _ _=>rfl) fun O x=>by kernel_rfl
theorem Gk:Vd Tryz.prog 162 Ay:=vt mix W2 Kj [] g0 rfl (fun _ _=>rfl) fun O x=>by kernel_rfl
theorem ko:Vd Tryz.prog 137 IP:=vt mix ZM MB [(160,Ax),(161,B3),(162,Ay)] (gs G5 (gs Wm (gs Gk g0))) rfl (fun _ _=>rfl) fun O x=>by kernel_rfl
theorem Vy:Vd Tryz.prog 163 Ct:=vt mix eM P5 [(79,AR),(80,Af),(81,Ac)] (gs D5 (gs F4 (gs FK g0))) rfl (fun _ _=>rfl) fun O x=>by kernel_rfl
theorem Rr:Vd Tryz.prog 192 Bt:=vt mix Yx Lk [] g0 rfl (fun _ _=>rfl) fun O x=>by kernel_rfl
theorem mK:Vd Tryz.prog 193 Jy:=vt mix Zs Of [(32,AU),(192,Bt)] (gs DP (gs Rr g0)) rfl (fun _ _=>rfl) fun O x=>by kernel_rfl
theorem o4:Vd Tryz.prog 164 LM:=vt mix dQ QM [(32,AU),(88,Am),(192,Bt),(193,Jy)] (gs DP (gs HO (gs Rr (gs mK g0)))) rfl (fun _ _=>rfl) fun O x=>by kernel_rfl
theorem mv:Vd Tryz.prog 138 Jr:=vt mix Z8 Nk [(163,Ct),(164,LM)] (gs Vy (gs o4 g0)) rfl (fun _ _=>rfl) fun O x=>by kernel_rfl
theorem Zi:Vd Tryz.prog 103 Da:=vt mix PI FI [] g0 rfl (fun _ _=>rfl) fun O x=>by kernel_rfl
theorem MZ:Vd Tryz.prog 70 A9:=vt mix TA H5 [(103,Da)] (gs Zi g0) rfl (fun _ _=>rfl) fun O x=>by kernel_rfl
theorem R7:Vd Tryz.prog 130 Bf:=vt mix R2 R3 [] g0 rfl (fun _ _=>rfl) fun O x=>by kernel_rfl
theorem jK:Vd Tryz.prog 104 HK:=vt mix Ws KU [(130,Bf)] (gs R7 g0) rfl (fun _ _=>rfl) fun O x=>by kernel_rfl
theorem Z9:Vd Tryz.prog 131 Dy:=vt mix Qy F2 [] g0 rfl (fun _ _=>rfl) fun O x=>by kernel_rfl
theorem Ww:Vd Tryz.prog 105 C3:=vt mix Mv D8 [(131,Dy)] (gs Z9 g0) rfl (fun _ _=>rfl) fun O x=>by kernel_rfl
theorem Z4:Vd Tryz.prog 132 D0:=vt mix RJ GG [] g0 rfl (fun _ _=>rfl) fun O x=>by kernel_rfl
theorem eZ:Vd Tryz.prog 106 Ew:=vt mix TP Hv [(130,Bf),(132,D0)] (gs R7 (gs Z4 g0)) rfl (fun _ _=>rfl) fun O x=>by kernel_rfl
theorem Vs:Vd Tryz.prog 133 Cs:=vt mix LG Df [] g0 rfl (fun _ _=>rfl) fun O x=>by kernel_rfl
theorem X0:Vd Tryz.prog 107 DH:=vt mix NS Ea [(133,Cs)] (gs Vs g0) rfl (fun _ _=>rfl) fun O x=>by kernel_rfl
theorem NY:Vd Tryz.prog 71 BD:=vt mix NO Ec [(104,HK),(105,C3),(106,Ew),(107,DH)] (gs jK (gs Ww (gs eZ (gs X0 g0)))) rfl (fun _ _=>rfl) fun O x=>by kernel_rfl
theorem NT:Vd Tryz.prog 151 BL:=vt mix Uh D6 [(161,B3)] (gs Wm g0) rfl (fun _ _=>rfl) fun O x=>by kernel_rfl
theorem Ib:Vd Tryz.prog 174 A1:=vt mix Yv MA [] g0 rfl (fun _ _=>rfl) fun O x=>by kernel_rfl
theorem Hu:Vd Tryz.prog 175 A0:=vt mix TB H9 [(174,A1)] (gs Ib g0) rfl (fun _ _=>rfl) fun O x=>by kernel_rfl
theorem gO:Vd Tryz.prog 210 Fl:=vt mix U3 JH [] g0 rfl (fun _ _=>rfl) fun O x=>by kernel_rfl
theorem lU:Vd Tryz.prog 194 IQ:=vt mix ZK Lx [(174,A1),(175,A0),(210,Fl)] (gs Ib (gs Hu (gs gO g0))) rfl (fun _ _=>rfl) fun O x=>by kernel_rfl
theorem lD:Vd Tryz.prog 195 IM:=vt mix Y0 Lo [(174,A1),(175,A0)] (gs Ib (gs Hu g0)) rfl (fun _ _=>rfl) fun O x=>by kernel_rfl
theorem cq:Vd Tryz.prog 165 EU:=vt mix R9 Gf [(70,A9),(71,BD),(151,BL),(194,IQ),(195,IM)] (gs MZ (gs NY (gs NT (gs lU (gs lD g0))))) rfl (fun _ _=>rfl) fun O x=>by kernel_rfl
theorem ZY:Vd Tryz.prog 196 Db:=vt mix PJ FP [] g0 rfl (fun _ _=>rfl) fun O x=>by kernel_rfl
theorem ce:Vd Tryz.prog 166 EJ:=vt mix R4 GZ [(70,A9),(196,Db)] (gs MZ (gs ZY g0)) rfl (fun _ _=>rfl) fun O x=>by kernel_rfl
theorem mX:Vd Tryz.prog 167 Jf:=vt mix bK OI [(160,Ax),(162,Ay)] (gs G5 (gs Gk g0)) rfl (fun _ _=>rfl) fun O x=>by kernel_rfl
theorem fH:Vd Tryz.prog 168 E5:=vt mix T7 TX [] g0 rfl (fun _ _=>rfl) fun O x=>by kernel_rfl
theorem nz:Vd Tryz.prog 169 JV:=vt mix Z1 N0 [(32,AU),(88,Am),(163,Ct),(192,Bt)] (gs DP (gs HO (gs Vy (gs Rr g0)))) rfl (fun _ _=>rfl) fun O x=>by kernel_rfl
theorem f6:Vd Tryz.prog 170 GB:=vt mix U4 JE [(160,Ax)] (gs G5 g0) rfl (fun _ _=>rfl) fun O x=>by kernel_rfl
theorem jV:Vd Tryz.prog 139 HW:=vt mix Wp KM [(50,AQ),(165,EU),(166,EJ),(167,Jf),(168,E5),(169,JV),(170,GB)] (gs Cg (gs cq (gs ce (gs mX (gs fH (gs nz (gs f6 g0))))))) rfl (fun _ _=>rfl) fun O x=>by kernel_rfl
theorem Zo:Vd Tryz.prog 171 D3:=vt mix ah Ow [(151,BL),(162,Ay)] (gs NT (gs Gk g0)) rfl (fun _ _=>rfl) fun O x=>by kernel_rfl
theorem fZ:Vd Tryz.prog 140 E3:=vt mix Tn H6 [(160,Ax),(162,Ay),(171,D3)] (gs G5 (gs Gk (gs Zo g0))) rfl (fun _ _=>rfl) fun O x=>by kernel_rfl
theorem jS:Vd Tryz.prog 141 Gp:=vt mix Wg Kd [(160,Ax),(171,D3)] (gs G5 (gs Zo g0)) rfl (fun _ _=>rfl) fun O x=>by kernel_rfl
theorem Y7:Vd Tryz.prog 152 Cw:=vt mix ZX Fa [] g0 rfl (fun _ _=>rfl) fun O x=>by kernel_rfl
theorem f9:Vd Tryz.prog 142 Ft:=vt mix VB JP [(152,Cw),(160,Ax),(162,Ay)] (gs Y7 (gs G5 (gs Gk g0))) rfl (fun _ _=>rfl) fun O x=>by kernel_rfl
theorem Ve:Vd Tryz.prog 173 Cl:=vt mix db QN [(79,AR),(80,Af),(81,Ac)] (gs D5 (gs F4 (gs FK g0))) rfl (fun _ _=>rfl) fun O x=>by kernel_rfl
theorem gD:Vd Tryz.prog 143 GC:=vt mix U6 JB [(173,Cl)] (gs Ve g0) rfl (fun _ _=>rfl) fun O x=>by kernel_rfl
theorem jE:Vd Tryz.prog 144 Gr:=vt mix Wd KJ [(173,Cl),(174,A1),(175,A0)] (gs Ve (gs Ib (gs Hu g0))) rfl (fun _ _=>rfl) fun O x=>by kernel_rfl
theorem aI:Vd Tryz.prog 145 Dp:=vt mix Qo F0 [(173,Cl),(174,A1),(175,A0)] (gs Ve (gs Ib (gs Hu g0))) rfl (fun _ _=>rfl) fun O x=>by kernel_rfl
theorem iK:Vd Tryz.prog 146 Fu:=vt mix Uk JN [(32,AU),(163,Ct)] (gs DP (gs Vy g0)) rfl (fun _ _=>rfl) fun O x=>by kernel_rfl
theorem cd:Vd Tryz.prog 147 EM:=vt mix R5 Gc [(50,AQ)] (gs Cg g0) rfl (fun _ _=>rfl) fun O x=>by kernel_rfl
theorem R6:Vd Tryz.prog 117 B8:=vt mix Rz Gg [(50,AQ)] (gs Cg g0) rfl (fun _ _=>rfl) fun O x=>by kernel_rfl
theorem cl:Vd Tryz.prog 148 EY:=vt mix SD GX [(50,AQ),(117,B8)] (gs Cg (gs R6 g0)) rfl (fun _ _=>rfl) fun O x=>by kernel_rfl
theorem eS:Vd Tryz.prog 149 E8:=vt mix TF E6 [(50,AQ)] (gs Cg g0) rfl (fun _ _=>rfl) fun O x=>by kernel_rfl
theorem gx:Vd Tryz.prog 176 F3:=vt mix Un U7 [] g0 rfl (fun _ _=>rfl) fun O x=>by kernel_rfl
theorem fG:Vd Tryz.prog 150 Er:=vt mix Tf Hx [(50,AQ),(176,F3)] (gs Cg (gs gx g0)) rfl (fun _ _=>rfl) fun O x=>by kernel_rfl
theorem cY:Vd Tryz.prog 115 EL:=vt mix SC ER [(137,IP),(138,Jr),(139,HW),(140,E3),(141,Gp),(142,Ft),(143,GC),(144,Gr),(145,Dp),(146,Fu),(147,EM),(148,EY),(149,E8),(150,Er)] (gs ko (gs mv (gs jV (gs fZ (gs jS (gs f9 (gs gD (gs jE (gs aI (gs iK (gs cd (gs cl (gs eS (gs fG g0)))))))))))))) rfl (fun _ _=>rfl) fun O x=>by kernel_rfl
theorem fM:Vd Tryz.prog 116 Dd:=vt mix TD Hn [(33,BJ),(151,BL),(152,Cw)] (gs N7 (gs NT (gs Y7 g0))) rfl (fun _ _=>rfl) fun O x=>by kernel_rfl
theorem jF:Vd Tryz.prog 84 Gw:=vt mix XH KX [(28,DM),(33,BJ),(50,AQ),(114,Fm),(115,EL),(116,Dd)] (gs Ys (gs N7 (gs Cg (gs ia (gs cY (gs fM g0)))))) rfl (fun _ _=>rfl) fun O x=>by kernel_rfl
theorem aJ:Vd Tryz.prog 12 Cp:=vt mix Zv On [(13,Bh),(28,DM),(29,IC),(34,DN),(51,BK),(55,Bu),(56,Fw),(82,GF),(83,Gv),(84,Gw),(85,Bn),(117,B8)] (gs ME (gs Ys (gs lO (gs ZD (gs Lm (gs RV (gs fu (gs iL (gs ji (gs jF (gs Q5 (gs R6 g0)))))))))))) rfl (fun _ _=>rfl) fun O x=>by kernel_rfl
theorem WR:Vd Tryz.prog 15 B6:=vt mix dr QC [(12,Cp)] (gs aJ g0) rfl (fun _ _=>rfl) fun O x=>by kernel_rfl
theorem oP:Vd Tryz.prog 75 Dq:=vt mix aK Ov [] g0 rfl (fun _ _=>rfl) fun O x=>by kernel_rfl
def Wj:Cfg:={ gam:=[⟨75,[],true,true,[]⟩],imm:=false,old:=false }
theorem ii (O:Alg) (x:Ags O):XF (O:=O) Tryz.prog Wj false true [] 44 [] (xr x Pz 0)=HH O x:=by kernel_rfl
theorem jk {E:Env} {M:Nat} (N:Nat) (h:∀ ls,E 44 [] ls=HB N ls):VV Tryz.prog E M ⟨44,[],false,true,[]⟩ :=
 BF mix (E:=Dc N) (N:=N) (cfg:=Wj) (ci:=⟨44,[],false,true,[]⟩) (ks:=Pz) (AK (oP N (fun _=>rfl)) CK) (c:=HB N) (F:=fun ls=>HH (std (Dc N) N) (xOf ls)) (fun ls=>rfl) (fun ls=>ii (std (Dc N) N) (xOf ls)) h
def iJ:Cfg:={ gam:=[⟨13,[],true,true,[]⟩,⟨15,[],true,true,[]⟩,⟨44,[],false,true,[]⟩],imm:=false,old:=false,ie:=[60000] }
theorem pZ (O:Alg) (x:Ags O):XF (O:=O) Tryz.prog iJ true true [] 27 [] (xr x Yl 0)=N8 O x:=by kernel_rfl
theorem ro:Vd Tryz.prog 27 IA:=fun N h =>
 BF mix (E:=Ds N) (N:=N) (cfg:=iJ) (ci:=⟨27,[],true,true,[]⟩) (ks:=Yl) (AK (ME N (fun _=>rfl)) (AK (WR N (fun _=>rfl)) (AK (jk N (fun _=>rfl)) CK))) (c:=IA N) (F:=fun ls=>N8 (std (Ds N) N) (xOf ls)) (fun ls=>rfl) (fun ls=>pZ (std (Ds N) N) (xOf ls)) h
theorem oM:Vd Tryz.prog 11 DC:=vt mix bX Oy [(27,IA)] (gs ro g0) rfl (fun _ _=>rfl) fun O x=>by kernel_rfl
theorem mS:Vd Tryz.prog 14 DE:=vt mix aQ Ob [] g0 rfl (fun _ _=>rfl) fun O x=>by kernel_rfl
theorem ox:Vd Tryz.prog 25 GJ:=vt mix dv QS [(32,AU),(43,DK)] (gs DP (gs Yw g0)) rfl (fun _ _=>rfl) fun O x=>by kernel_rfl
theorem tq:Vd Tryz.prog 26 Qm:=vt mix kQ kP [] g0 rfl (fun _ _=>rfl) fun O x=>by kernel_rfl
theorem oj:Vd Tryz.prog 9 LP:=vt mix cz P9 [(11,DC),(12,Cp),(14,DE),(15,B6),(25,GJ),(26,Qm)] (gs oM (gs aJ (gs mS (gs WR (gs ox (gs tq g0)))))) rfl (fun _ _=>rfl) fun O x=>by kernel_rfl
def kK:Cfg:={ gam:=[],imm:=false,old:=true }
theorem qx (O:Alg) (x:Ags O):XF (O:=O) Tryz.prog kK false false [] 10 [] (xr x bC 0)=RE O x:=by kernel_rfl
theorem td {E:Env} {M:Nat} (N:Nat) (h:∀ ls,E 10 [] ls=Q8 N ls):VV Tryz.prog E M ⟨10,[],false,false,[]⟩ :=
 BF mix (E:=K7 N) (N:=N) (cfg:=kK) (ci:=⟨10,[],false,false,[]⟩) (ks:=bC) CK (c:=Q8 N) (F:=fun ls=>RE (std (K7 N) N) (xOf ls)) (fun ls=>rfl) (fun ls=>qx (std (K7 N) N) (xOf ls)) h
def VA:Cfg:={ gam:=[],imm:=false,old:=false }
theorem fF (O:Alg) (x:Ags O):XF (O:=O) Tryz.prog VA false false [] 40 [] (xr x OT 0)=Fi O x:=by kernel_rfl
theorem go {E:Env} {M:Nat} (N:Nat) (h:∀ ls,E 40 [] ls=Fy N ls):VV Tryz.prog E M ⟨40,[],false,false,[]⟩ :=
 BF mix (E:=EP N) (N:=N) (cfg:=VA) (ci:=⟨40,[],false,false,[]⟩) (ks:=OT) CK (c:=Fy N) (F:=fun ls=>Fi (std (EP N) N) (xOf ls)) (fun ls=>rfl) (fun ls=>fF (std (EP N) N) (xOf ls)) h
theorem iZ:Vd Tryz.prog 41 JJ:=vt mix U0 JK [(70,A9),(71,BD)] (gs MZ (gs NY g0)) rfl (fun _ _=>rfl) fun O x=>by kernel_rfl
def Qu:Cfg:={ gam:=[⟨13,[],true,true,[]⟩,⟨15,[],true,true,[]⟩,⟨40,[],false,false,[]⟩,⟨41,[],true,true,[]⟩],imm:=false,old:=false }
theorem Zk (O:Alg) (x:Ags O):XF (O:=O) Tryz.prog Qu true true [] 19 [] (xr x Jj 0)=Dj O x:=by kernel_rfl
theorem Zt:Vd Tryz.prog 19 Du:=fun N h =>
 BF mix (E:=BB N) (N:=N) (cfg:=Qu) (ci:=⟨19,[],true,true,[]⟩) (ks:=Jj) (AK (ME N (fun _=>rfl)) (AK (WR N (fun _=>rfl)) (AK (go N (fun _=>rfl)) (AK (iZ N (fun _=>rfl)) CK)))) (c:=Du N) (F:=fun ls=>Dj (std (BB N) N) (xOf ls)) (fun ls=>rfl) (fun ls=>Zk (std (BB N) N) (xOf ls)) h
theorem UB:Vd Tryz.prog 23 DW:=vt mix Kw DT [] g0 rfl (fun _ _=>rfl) fun O x=>by kernel_rfl
theorem pH:Vd Tryz.prog 91 LO:=vt mix du QT [] g0 rfl (fun _ _=>rfl) fun O x=>by kernel_rfl
theorem B7:Vd Tryz.prog 120 AO:=vt mix de Qc [] g0 rfl (fun _ _=>rfl) fun O x=>by kernel_rfl
theorem V9:Vd Tryz.prog 92 C9:=vt mix dB P3 [(120,AO)] (gs B7 g0) rfl (fun _ _=>rfl) fun O x=>by kernel_rfl
theorem o3:Vd Tryz.prog 64 P7:=vt mix dp QO [(91,LO),(92,C9)] (gs pH (gs V9 g0)) rfl (fun _ _=>rfl) fun O x=>by kernel_rfl
theorem qg:Vd Tryz.prog 121 Og:=vt mix gL Sp [] g0 rfl (fun _ _=>rfl) fun O x=>by kernel_rfl
theorem uF:Vd Tryz.prog 122 Tj:=vt mix mp nK [] g0 rfl (fun _ _=>rfl) fun O x=>by kernel_rfl
theorem GH:Vd Tryz.prog 93 Al:=vt mix dR QL [(121,Og),(122,Tj)] (gs qg (gs uF g0)) rfl (fun _ _=>rfl) fun O x=>by kernel_rfl
theorem fB:Vd Tryz.prog 153 FG:=vt mix md oL [] g0 rfl (fun _ _=>rfl) fun O x=>by kernel_rfl
theorem tL:Vd Tryz.prog 154 RK:=vt mix kg Uq [(153,FG)] (gs fB g0) rfl (fun _ _=>rfl) fun O x=>by kernel_rfl
theorem QR:Vd Tryz.prog 156 Ba:=vt mix eJ Is [] g0 rfl (fun _ _=>rfl) fun O x=>by kernel_rfl
theorem km:Vd Tryz.prog 155 IY:=vt mix ZJ ML [(156,Ba)] (gs QR g0) rfl (fun _ _=>rfl) fun O x=>by kernel_rfl
theorem VZ:Vd Tryz.prog 123 Cm:=vt mix dH QU [(93,Al),(153,FG),(154,RK),(155,IY)] (gs GH (gs fB (gs tL (gs km g0)))) rfl (fun _ _=>rfl) fun O x=>by kernel_rfl
theorem Ld:Vd Tryz.prog 98 B2:=vt mix dM QI [] g0 rfl (fun _ _=>rfl) fun O x=>by kernel_rfl
theorem Z2:Vd Tryz.prog 124 Eu:=vt mix aU Nl [(98,B2)] (gs Ld g0) rfl (fun _ _=>rfl) fun O x=>by kernel_rfl
theorem iC:Vd Tryz.prog 94 GE:=vt mix VR JO [(123,Cm),(124,Eu)] (gs VZ (gs Z2 g0)) rfl (fun _ _=>rfl) fun O x=>by kernel_rfl
theorem Vu:Vd Tryz.prog 65 Ek:=vt mix eH QA [(93,Al),(94,GE)] (gs GH (gs iC g0)) rfl (fun _ _=>rfl) fun O x=>by kernel_rfl
theorem oZ:Vd Tryz.prog 37 Jn:=vt mix aV Od [] g0 rfl (fun _ _=>rfl) fun O x=>by kernel_rfl
theorem qZ:Vd Tryz.prog 95 Nm:=vt mix ge SU [] g0 rfl (fun _ _=>rfl) fun O x=>by kernel_rfl
theorem ug:Vd Tryz.prog 96 Tr:=vt mix mj ei [] g0 rfl (fun _ _=>rfl) fun O x=>by kernel_rfl
theorem uw:Vd Tryz.prog 125 Tu:=vt mix mq fg [] g0 rfl (fun _ _=>rfl) fun O x=>by kernel_rfl
theorem pY:Vd Tryz.prog 97 LJ:=vt mix eR P4 [(125,Tu)] (gs uw g0) rfl (fun _ _=>rfl) fun O x=>by kernel_rfl
theorem dU:Vd Tryz.prog 66 Ip:=vt mix dE QJ [(37,Jn),(95,Nm),(96,Tr),(97,LJ)] (gs oZ (gs qZ (gs ug (gs pY g0)))) rfl (fun _ _=>rfl) fun O x=>by kernel_rfl
theorem Vo:Vd Tryz.prog 101 Ef:=vt mix eI P8 [] g0 rfl (fun _ _=>rfl) fun O x=>by kernel_rfl
def iT:Cfg:={ gam:=[],imm:=false,old:=false }
theorem pg (O:Alg) (x:Ags O):XF (O:=O) Tryz.prog iT false false [] 68 [] (xr x Xz 0)=NV O x:=by kernel_rfl
theorem ST {E:Env} {M:Nat} (N:Nat) (h:∀ ls,E 68 [] ls=DD N ls):VV Tryz.prog E M ⟨68,[],false,false,[]⟩ :=
 BF mix (E:=Jw N) (N:=N) (cfg:=iT) (ci:=⟨68,[],false,false,[]⟩) (ks:=Xz) CK (c:=DD N) (F:=fun ls=>NV (std (Jw N) N) (xOf ls)) (fun ls=>rfl) (fun ls=>pg (std (Jw N) N) (xOf ls)) h
def ZE:Cfg:={ gam:=[⟨65,[],true,true,[]⟩,⟨68,[],false,false,[]⟩,⟨124,[],true,true,[]⟩],imm:=false,old:=false }
theorem jW (O:Alg) (x:Ags O):XF (O:=O) Tryz.prog ZE true true [] 126 [] (xr x Rj 0)=IK O x:=by kernel_rfl
theorem lP:Vd Tryz.prog 126 IR:=fun N h =>
 BF mix (E:=Ch N) (N:=N) (cfg:=ZE) (ci:=⟨126,[],true,true,[]⟩) (ks:=Rj) (AK (Vu N (fun _=>rfl)) (AK (ST N (fun _=>rfl)) (AK (Z2 N (fun _=>rfl)) CK))) (c:=IR N) (F:=fun ls=>IK (std (Ch N) N) (xOf ls)) (fun ls=>rfl) (fun ls=>jW (std (Ch N) N) (xOf ls)) h
theorem pN:Vd Tryz.prog 127 QK:=vt mix dz Qb [(93,Al),(153,FG)] (gs GH (gs fB g0)) rfl (fun _ _=>rfl) fun O x=>by kernel_rfl
theorem ZU:Vd Tryz.prog 129 FX:=vt mix ZO L5 [(92,C9)] (gs V9 g0) rfl (fun _ _=>rfl) fun O x=>by kernel_rfl
theorem N1:Vd Tryz.prog 197 BV:=vt mix Zz Ny [] g0 rfl (fun _ _=>rfl) fun O x=>by kernel_rfl
theorem q9:Vd Tryz.prog 177 Si:=vt mix gd SF [(120,AO),(156,Ba),(197,BV)] (gs B7 (gs QR (gs N1 g0))) rfl (fun _ _=>rfl) fun O x=>by kernel_rfl
theorem Gq:Vd Tryz.prog 208 Az:=vt mix XD KZ [] g0 rfl (fun _ _=>rfl) fun O x=>by kernel_rfl
theorem To:Vd Tryz.prog 211 CM:=vt mix bD OO [] g0 rfl (fun _ _=>rfl) fun O x=>by kernel_rfl
theorem rz:Vd Tryz.prog 212 OW:=vt mix gp Sm [(93,Al),(211,CM)] (gs GH (gs To g0)) rfl (fun _ _=>rfl) fun O x=>by kernel_rfl
theorem kZ:Vd Tryz.prog 213 Hd:=vt mix kF VF [] g0 rfl (fun _ _=>rfl) fun O x=>by kernel_rfl
theorem tT:Vd Tryz.prog 198 Q6:=vt mix kf Uv [(93,Al),(208,Az),(211,CM),(212,OW),(213,Hd)] (gs GH (gs Gq (gs To (gs rz (gs kZ g0))))) rfl (fun _ _=>rfl) fun O x=>by kernel_rfl
theorem rQ:Vd Tryz.prog 178 SI:=vt mix gn Se [(120,AO),(198,Q6)] (gs B7 (gs tT g0)) rfl (fun _ _=>rfl) fun O x=>by kernel_rfl
theorem u9:Vd Tryz.prog 108 Ta:=vt mix nH ep [] g0 rfl (fun _ _=>rfl) fun O x=>by kernel_rfl
theorem jL:Vd Tryz.prog 109 HG:=vt mix W9 Kf [] g0 rfl (fun _ _=>rfl) fun O x=>by kernel_rfl
theorem VX:Vd Tryz.prog 72 Co:=vt mix dD Qg [(108,Ta),(109,HG)] (gs u9 (gs jL g0)) rfl (fun _ _=>rfl) fun O x=>by kernel_rfl
theorem jg:Vd Tryz.prog 110 HF:=vt mix W3 KS [] g0 rfl (fun _ _=>rfl) fun O x=>by kernel_rfl
theorem vC:Vd Tryz.prog 111 Ti:=vt mix mB Ym [] g0 rfl (fun _ _=>rfl) fun O x=>by kernel_rfl
theorem ng:Vd Tryz.prog 112 J4:=vt mix ao Oo [] g0 rfl (fun _ _=>rfl) fun O x=>by kernel_rfl
theorem Wn:Vd Tryz.prog 73 C1:=vt mix WX Kk [(110,HF),(111,Ti),(112,J4)] (gs jg (gs vC (gs ng g0))) rfl (fun _ _=>rfl) fun O x=>by kernel_rfl
theorem Ty:Vd Tryz.prog 189 CO:=vt mix cA HR [(156,Ba)] (gs QR g0) rfl (fun _ _=>rfl) fun O x=>by kernel_rfl
theorem Ne:Vd Tryz.prog 207 BX:=vt mix aa OL [] g0 rfl (fun _ _=>rfl) fun O x=>by kernel_rfl
theorem lS:Vd Tryz.prog 214 Ie:=vt mix Y6 Lz [] g0 rfl (fun _ _=>rfl) fun O x=>by kernel_rfl
theorem pO:Vd Tryz.prog 199 QB:=vt mix dN Qd [(207,BX),(208,Az),(214,Ie)] (gs Ne (gs Gq (gs lS g0))) rfl (fun _ _=>rfl) fun O x=>by kernel_rfl
theorem pV:Vd Tryz.prog 200 QG:=vt mix dj Qe [(207,BX),(208,Az)] (gs Ne (gs Gq g0)) rfl (fun _ _=>rfl) fun O x=>by kernel_rfl
theorem jT:Vd Tryz.prog 215 Gm:=vt mix Wh Kq [] g0 rfl (fun _ _=>rfl) fun O x=>by kernel_rfl
theorem oh:Vd Tryz.prog 216 LC:=vt mix eE Qf [] g0 rfl (fun _ _=>rfl) fun O x=>by kernel_rfl
theorem nM:Vd Tryz.prog 201 Nv:=vt mix bp OU [(72,Co),(215,Gm),(216,LC)] (gs VX (gs jT (gs oh g0))) rfl (fun _ _=>rfl) fun O x=>by kernel_rfl
theorem Zw:Vd Tryz.prog 204 FC:=vt mix al NW [(120,AO)] (gs B7 g0) rfl (fun _ _=>rfl) fun O x=>by kernel_rfl
theorem tf:Vd Tryz.prog 202 VO:=vt mix kc VS [(120,AO),(197,BV),(204,FC)] (gs B7 (gs N1 (gs Zw g0))) rfl (fun _ _=>rfl) fun O x=>by kernel_rfl
theorem qU:Vd Tryz.prog 203 SY:=vt mix gG SL [(93,Al),(120,AO),(211,CM),(213,Hd)] (gs GH (gs B7 (gs To (gs kZ g0)))) rfl (fun _ _=>rfl) fun O x=>by kernel_rfl
theorem o9:Vd Tryz.prog 205 QW:=vt mix dk dx [] g0 rfl (fun _ _=>rfl) fun O x=>by kernel_rfl
def iX:Cfg:={ gam:=[⟨72,[],true,true,[]⟩,⟨73,[],true,true,[]⟩,⟨189,[],true,true,[]⟩,⟨199,[],true,true,[]⟩,⟨200,[],true,true,[]⟩,⟨201,[],true,true,[]⟩,⟨202,[],true,true,[]⟩,⟨203,[],true,true,[]⟩,⟨204,[],true,true,[]⟩,⟨205,[],true,true,[]⟩],imm:=false,old:=false }
theorem om (O:Alg) (x:Ags O):XF (O:=O) Tryz.prog iX false false [] 179 [] (xr x Yj 0)=NZ O x:=by kernel_rfl
theorem qk {E:Env} {M:Nat} (N:Nat) (h:∀ ls,E 179 [] ls=O1 N ls):VV Tryz.prog E M ⟨179,[],false,false,[]⟩ :=
 BF mix (E:=BM N) (N:=N) (cfg:=iX) (ci:=⟨179,[],false,false,[]⟩) (ks:=Yj) (AK (VX N (fun _=>rfl)) (AK (Wn N (fun _=>rfl)) (AK (Ty N (fun _=>rfl)) (AK (pO N (fun _=>rfl)) (AK (pV N (fun _=>rfl)) (AK (nM N (fun _=>rfl)) (AK (tf N (fun _=>rfl)) (AK (qU N (fun _=>rfl)) (AK (Zw N (fun _=>rfl)) (AK (o9 N (fun _=>rfl)) CK)))))))))) (c:=O1 N) (F:=fun ls=>NZ (std (BM N) N) (xOf ls)) (fun ls=>rfl) (fun ls=>om (std (BM N) N) (xOf ls)) h
theorem eA:Vd Tryz.prog 206 Eg:=vt mix da QP [(189,CO),(197,BV)] (gs Ty (gs N1 g0)) rfl (fun _ _=>rfl) fun O x=>by kernel_rfl
theorem lg:Vd Tryz.prog 180 MM:=vt mix Y4 Lj [(120,AO),(206,Eg)] (gs B7 (gs eA g0)) rfl (fun _ _=>rfl) fun O x=>by kernel_rfl
theorem oz:Vd Tryz.prog 181 P2:=vt mix eK QY [(120,AO),(206,Eg)] (gs B7 (gs eA g0)) rfl (fun _ _=>rfl) fun O x=>by kernel_rfl
theorem f7:Vd Tryz.prog 190 EZ:=vt mix gz Kg [] g0 rfl (fun _ _=>rfl) fun O x=>by kernel_rfl
theorem oJ:Vd Tryz.prog 182 Oc:=vt mix aL Nw [(120,AO),(190,EZ),(197,BV)] (gs B7 (gs f7 (gs N1 g0))) rfl (fun _ _=>rfl) fun O x=>by kernel_rfl
theorem ku:Vd Tryz.prog 183 Lt:=vt mix Yq Ll [(120,AO)] (gs B7 g0) rfl (fun _ _=>rfl) fun O x=>by kernel_rfl
theorem oC:Vd Tryz.prog 184 N9:=vt mix Z3 OX [(120,AO),(207,BX),(208,Az)] (gs B7 (gs Ne (gs Gq g0))) rfl (fun _ _=>rfl) fun O x=>by kernel_rfl
theorem fC:Vd Tryz.prog 185 Hw:=vt mix S7 Hq [(120,AO),(207,BX),(208,Az)] (gs B7 (gs Ne (gs Gq g0))) rfl (fun _ _=>rfl) fun O x=>by kernel_rfl
theorem lf:Vd Tryz.prog 186 L0:=vt mix Yu MI [(93,Al),(120,AO)] (gs GH (gs B7 g0)) rfl (fun _ _=>rfl) fun O x=>by kernel_rfl
def bB:Cfg:={ gam:=[],imm:=false,old:=false }
theorem kt (O:Alg) (x:Ags O):XF (O:=O) Tryz.prog bB false false [] 187 [] (xr x TR 0)=Gy O x:=by kernel_rfl
theorem oG {E:Env} {M:Nat} (N:Nat) (h:∀ ls,E 187 [] ls=Jt N ls):VV Tryz.prog E M ⟨187,[],false,false,[]⟩ :=
 BF mix (E:=Gu N) (N:=N) (cfg:=bB) (ci:=⟨187,[],false,false,[]⟩) (ks:=TR) CK (c:=Jt N) (F:=fun ls=>Gy (std (Gu N) N) (xOf ls)) (fun ls=>rfl) (fun ls=>kt (std (Gu N) N) (xOf ls)) h
theorem o0:Vd Tryz.prog 209 QZ:=vt mix dC dY [] g0 rfl (fun _ _=>rfl) fun O x=>by kernel_rfl
def ay:Cfg:={ gam:=[⟨209,[],true,true,[]⟩],imm:=false,old:=false }
theorem lN (O:Alg) (x:Ags O):XF (O:=O) Tryz.prog ay false false [] 188 [] (xr x TI 0)=Jq O x:=by kernel_rfl
theorem mC {E:Env} {M:Nat} (N:Nat) (h:∀ ls,E 188 [] ls=KG N ls):VV Tryz.prog E M ⟨188,[],false,false,[]⟩ :=
 BF mix (E:=El N) (N:=N) (cfg:=ay) (ci:=⟨188,[],false,false,[]⟩) (ks:=TI) (AK (o0 N (fun _=>rfl)) CK) (c:=KG N) (F:=fun ls=>Jq (std (El N) N) (xOf ls)) (fun ls=>rfl) (fun ls=>lN (std (El N) N) (xOf ls)) h
def j8:Cfg:={ gam:=[⟨129,[],true,true,[]⟩,⟨177,[],true,true,[]⟩,⟨178,[],true,true,[]⟩,⟨179,[],false,false,[]⟩,⟨180,[],true,true,[]⟩,⟨181,[],true,true,[]⟩,⟨182,[],true,true,[]⟩,⟨183,[],true,true,[]⟩,⟨184,[],true,true,[]⟩,⟨185,[],true,true,[]⟩,⟨186,[],true,true,[]⟩,⟨187,[],false,false,[]⟩,⟨188,[],false,false,[]⟩],imm:=false,old:=false }
theorem rE (O:Alg) (x:Ags O):XF (O:=O) Tryz.prog j8 false false [] 157 [] (xr x aP 0)=M1 O x:=by kernel_rfl
theorem sO {E:Env} {M:Nat} (N:Nat) (h:∀ ls,E 157 [] ls=Qv N ls):VV Tryz.prog E M ⟨157,[],false,false,[]⟩ :=
 BF mix (E:=A7 N) (N:=N) (cfg:=j8) (ci:=⟨157,[],false,false,[]⟩) (ks:=aP) (AK (ZU N (fun _=>rfl)) (AK (q9 N (fun _=>rfl)) (AK (rQ N (fun _=>rfl)) (AK (qk N (fun _=>rfl)) (AK (lg N (fun _=>rfl)) (AK (oz N (fun _=>rfl)) (AK (oJ N (fun _=>rfl)) (AK (ku N (fun _=>rfl)) (AK (oC N (fun _=>rfl)) (AK (fC N (fun _=>rfl)) (AK (lf N (fun _=>rfl)) (AK (oG N (fun _=>rfl)) (AK (mC N (fun _=>rfl)) CK))))))))))))) (c:=Qv N) (F:=fun ls=>M1 (std (A7 N) N) (xOf ls)) (fun ls=>rfl) (fun ls=>rE (std (A7 N) N) (xOf ls)) h
theorem mg:Vd Tryz.prog 158 J3:=vt mix br NQ [(123,Cm),(189,CO),(190,EZ)] (gs VZ (gs Ty (gs f7 g0))) rfl (fun _ _=>rfl) fun O x=>by kernel_rfl
def iw:Cfg:={ gam:=[⟨66,[],true,true,[]⟩,⟨92,[],true,true,[]⟩,⟨123,[],true,true,[]⟩,⟨156,[],true,true,[]⟩,⟨157,[],false,false,[]⟩,⟨158,[],true,true,[]⟩],imm:=false,old:=false }
theorem o7 (O:Alg) (x:Ags O):XF (O:=O) Tryz.prog iw false false [] 128 [] (xr x Yn 0)=Nb O x:=by kernel_rfl
theorem fk {E:Env} {M:Nat} (N:Nat) (h:∀ ls,E 128 [] ls=Hj N ls):VV Tryz.prog E M ⟨128,[],false,false,[]⟩ :=
 BF mix (E:=CS N) (N:=N) (cfg:=iw) (ci:=⟨128,[],false,false,[]⟩) (ks:=Yn) (AK (dU N (fun _=>rfl)) (AK (V9 N (fun _=>rfl)) (AK (VZ N (fun _=>rfl)) (AK (QR N (fun _=>rfl)) (AK (sO N (fun _=>rfl)) (AK (mg N (fun _=>rfl)) CK)))))) (c:=Hj N) (F:=fun ls=>Nb (std (CS N) N) (xOf ls)) (fun ls=>rfl) (fun ls=>o7 (std (CS N) N) (xOf ls)) h
def f5:Cfg:={ gam:=[⟨98,[],true,true,[]⟩,⟨101,[],true,true,[]⟩,⟨126,[],true,true,[]⟩,⟨127,[],true,true,[]⟩,⟨128,[],false,false,[]⟩],imm:=false,old:=false }
theorem pX (O:Alg) (x:Ags O):XF (O:=O) Tryz.prog f5 false false [true,false] 99 [] (xr x YC 0)=Np O x:=by kernel_rfl
theorem qq {E:Env} {M:Nat} (N:Nat) (h:∀ ls,E 99 [] ls=Nx N ls):VV Tryz.prog E M ⟨99,[],false,false,[true,false]⟩ :=
 BF mix (E:=Ck N) (N:=N) (cfg:=f5) (ci:=⟨99,[],false,false,[true,false]⟩) (ks:=YC) (AK (Ld N (fun _=>rfl)) (AK (Vo N (fun _=>rfl)) (AK (lP N (fun _=>rfl)) (AK (pN N (fun _=>rfl)) (AK (fk N (fun _=>rfl)) CK))))) (c:=Nx N) (F:=fun ls=>Np (std (Ck N) N) (xOf ls)) (fun ls=>rfl) (fun ls=>pX (std (Ck N) N) (xOf ls)) h
def hO:Cfg:={ gam:=[⟨128,[],false,false,[]⟩,⟨129,[],true,true,[]⟩],imm:=true,old:=true }
theorem pS (O:Alg) (x:Ags O):XF (O:=O) Tryz.prog hO false false [true,false] 100 [] (xr x X5 0)=OS O x:=by kernel_rfl
theorem qy {E:Env} {M:Nat} (N:Nat) (h:∀ ls,E 100 [] ls=OM N ls):VV Tryz.prog E M ⟨100,[],false,false,[true,false]⟩ :=
 BF mix (E:=E9 N) (N:=N) (cfg:=hO) (ci:=⟨100,[],false,false,[true,false]⟩) (ks:=X5) (AK (fk N (fun _=>rfl)) (AK (ZU N (fun _=>rfl)) CK)) (c:=OM N) (F:=fun ls=>OS (std (E9 N) N) (xOf ls)) (fun ls=>rfl) (fun ls=>pS (std (E9 N) N) (xOf ls)) h
def j5:Cfg:={ gam:=[⟨98,[],true,true,[]⟩,⟨99,[],false,false,[true,false]⟩,⟨100,[],false,false,[true,false]⟩],imm:=false,old:=false }
theorem qP (O:Alg) (x:Ags O):XF (O:=O) Tryz.prog j5 false false [true,false] 67 [] (xr x aF 0)=Q3 O x:=by kernel_rfl
theorem th {E:Env} {M:Nat} (N:Nat) (h:∀ ls,E 67 [] ls=Qi N ls):VV Tryz.prog E M ⟨67,[],false,false,[true,false]⟩ :=
 BF mix (E:=Ee N) (N:=N) (cfg:=j5) (ci:=⟨67,[],false,false,[true,false]⟩) (ks:=aF) (AK (Ld N (fun _=>rfl)) (AK (qq N (fun _=>rfl)) (AK (qy N (fun _=>rfl)) CK))) (c:=Qi N) (F:=fun ls=>Q3 (std (Ee N) N) (xOf ls)) (fun ls=>rfl) (fun ls=>qP (std (Ee N) N) (xOf ls)) h
def Y8:Cfg:={ gam:=[⟨65,[],true,true,[]⟩,⟨68,[],false,false,[]⟩,⟨98,[],true,true,[]⟩,⟨101,[],true,true,[]⟩],imm:=false,old:=false }
theorem jG (O:Alg) (x:Ags O):XF (O:=O) Tryz.prog Y8 true true [] 102 [] (xr x Rg 0)=IW O x:=by kernel_rfl
theorem lC:Vd Tryz.prog 102 Ih:=fun N h =>
 BF mix (E:=CF N) (N:=N) (cfg:=Y8) (ci:=⟨102,[],true,true,[]⟩) (ks:=Rg) (AK (Vu N (fun _=>rfl)) (AK (ST N (fun _=>rfl)) (AK (Ld N (fun _=>rfl)) (AK (Vo N (fun _=>rfl)) CK)))) (c:=Ih N) (F:=fun ls=>IW (std (CF N) N) (xOf ls)) (fun ls=>rfl) (fun ls=>jG (std (CF N) N) (xOf ls)) h
def bH:Cfg:={ gam:=[⟨68,[],false,false,[]⟩,⟨98,[],true,true,[]⟩,⟨101,[],true,true,[]⟩,⟨102,[],true,true,[]⟩],imm:=false,old:=false }
theorem lI (O:Alg) (x:Ags O):XF (O:=O) Tryz.prog bH false false [] 69 [] (xr x Ts 0)=Jx O x:=by kernel_rfl
theorem nf {E:Env} {M:Nat} (N:Nat) (h:∀ ls,E 69 [] ls=Ji N ls):VV Tryz.prog E M ⟨69,[],false,false,[]⟩ :=
 BF mix (E:=CV N) (N:=N) (cfg:=bH) (ci:=⟨69,[],false,false,[]⟩) (ks:=Ts) (AK (ST N (fun _=>rfl)) (AK (Ld N (fun _=>rfl)) (AK (Vo N (fun _=>rfl)) (AK (lC N (fun _=>rfl)) CK)))) (c:=Ji N) (F:=fun ls=>Jx (std (CV N) N) (xOf ls)) (fun ls=>rfl) (fun ls=>lI (std (CV N) N) (xOf ls)) h
def iD:Cfg:={ gam:=[⟨64,[],true,true,[]⟩,⟨65,[],true,true,[]⟩,⟨66,[],true,true,[]⟩,⟨67,[],false,false,[true,false]⟩,⟨68,[],false,false,[]⟩,⟨69,[],false,false,[]⟩],imm:=false,old:=false }
theorem pR (O:Alg) (x:Ags O):XF (O:=O) Tryz.prog iD false false [] 36 [] (xr x YV 0)=N3 O x:=by kernel_rfl
theorem qp {E:Env} {M:Nat} (N:Nat) (h:∀ ls,E 36 [] ls=Ns N ls):VV Tryz.prog E M ⟨36,[],false,false,[]⟩ :=
 BF mix (E:=CR N) (N:=N) (cfg:=iD) (ci:=⟨36,[],false,false,[]⟩) (ks:=YV) (AK (o3 N (fun _=>rfl)) (AK (Vu N (fun _=>rfl)) (AK (dU N (fun _=>rfl)) (AK (th N (fun _=>rfl)) (AK (ST N (fun _=>rfl)) (AK (nf N (fun _=>rfl)) CK)))))) (c:=Ns N) (F:=fun ls=>N3 (std (CR N) N) (xOf ls)) (fun ls=>rfl) (fun ls=>pR (std (CR N) N) (xOf ls)) h
def kC:Cfg:={ gam:=[⟨36,[],false,false,[]⟩],imm:=false,old:=false }
theorem qv (O:Alg) (x:Ags O):XF (O:=O) Tryz.prog kC true true [] 16 [] (xr x bM 0)=Q7 O x:=by kernel_rfl
theorem sG:Vd Tryz.prog 16 Hb:=fun N h =>
 BF mix (E:=Ik N) (N:=N) (cfg:=kC) (ci:=⟨16,[],true,true,[]⟩) (ks:=bM) (AK (qp N (fun _=>rfl)) CK) (c:=Hb N) (F:=fun ls=>Q7 (std (Ik N) N) (xOf ls)) (fun ls=>rfl) (fun ls=>qv (std (Ik N) N) (xOf ls)) h
theorem qh:Vd Tryz.prog 42 Km:=vt mix gU Sa [(16,Hb),(72,Co),(73,C1)] (gs sG (gs VX (gs Wn g0))) rfl (fun _ _=>rfl) fun O x=>by kernel_rfl
theorem fK:Vd Tryz.prog 24 H1:=vt mix Tt Ho [(42,Km)] (gs qh g0) rfl (fun _ _=>rfl) fun O x=>by kernel_rfl
def Mu:Cfg:={ gam:=[⟨9,[],true,true,[]⟩,⟨10,[],false,false,[]⟩,⟨19,[],true,true,[]⟩,⟨23,[],true,true,[]⟩,⟨24,[],true,true,[]⟩],imm:=false,old:=false }
theorem WE (O:Alg) (x:Ags O):XF (O:=O) Tryz.prog Mu true true [] 8 [] (xr x Gj 0)=C2 O x:=by kernel_rfl
theorem WW:Vd Tryz.prog 8 Cy:=fun N h =>
 BF mix (E:=Aw N) (N:=N) (cfg:=Mu) (ci:=⟨8,[],true,true,[]⟩) (ks:=Gj) (AK (oj N (fun _=>rfl)) (AK (td N (fun _=>rfl)) (AK (Zt N (fun _=>rfl)) (AK (UB N (fun _=>rfl)) (AK (fK N (fun _=>rfl)) CK))))) (c:=Cy N) (F:=fun ls=>C2 (std (Aw N) N) (xOf ls)) (fun ls=>rfl) (fun ls=>WE (std (Aw N) N) (xOf ls)) h
end Go.Px
