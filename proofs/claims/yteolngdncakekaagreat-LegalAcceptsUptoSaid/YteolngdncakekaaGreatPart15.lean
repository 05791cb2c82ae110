/- Part 15. -/
import Derived.Test.YteolngdncakekaaGreatPart07
import Derived.Test.YteolngdncakekaaGreatProg
import Derived.Test.YteolngdncakekaaGreatPart09
import Derived.KernelRfl
import Derived.WalkKit
import Derived.Lib.Walk
import Derived.BigCall
import Derived.BigGuard
set_option linter.unusedVariables false
set_option linter.unusedSimpArgs false
namespace Go.Px
open Go.Proofs
set_option maxRecDepth 100000
theorem mix:Tryz.prog.follows .mixedOrders=true:=by kernel_rfl
theorem ql:Vd Tryz.prog 57 LM:=vt mix eD Ql [] g0 rfl (fun _ _=>rfl) fun O x=>by kernel_rfl
theorem VN:Vd Tryz.prog 87 Cq:=vt mix Vu VU [] g0 rfl (fun _ _=>rfl) fun O x=>by kernel_rfl
theorem jV:Vd Tryz.prog 58 F6:=vt mix V2 JX [(87,Cq)] (gs VN g0) rfl (fun _ _=>rfl) fun O x=>by kernel_rfl
theorem kd:Vd Tryz.prog 59 HL:=vt mix Xb KU [(87,Cq)] (gs VN g0) rfl (fun _ _=>rfl) fun O x=>by kernel_rfl
theorem DV:Vd Tryz.prog 32 AW:=vt mix Zn Lq [(57,LM),(58,F6),(59,HL)] (gs ql (gs jV (gs kd g0))) rfl (fun _ _=>rfl) fun O x=>by kernel_rfl
theorem Ed:Vd Tryz.prog 60 Ak:=vt mix Sa SQ [] g0 rfl (fun _ _=>rfl) fun O x=>by kernel_rfl
theorem dx:Vd Tryz.prog 61 EW:=vt mix SV Gm [(60,Ak)] (gs Ed g0) rfl (fun _ _=>rfl) fun O x=>by kernel_rfl
theorem ce:Vd Tryz.prog 118 D7:=vt mix Rp Fy [] g0 rfl (fun _ _=>rfl) fun O x=>by kernel_rfl
theorem HE:Vd Tryz.prog 88 Aq:=vt mix M1 EL [(118,D7)] (gs ce g0) rfl (fun _ _=>rfl) fun O x=>by kernel_rfl
theorem aI:Vd Tryz.prog 62 Df:=vt mix Pb FY [(60,Ak),(88,Aq)] (gs Ed (gs HE g0)) rfl (fun _ _=>rfl) fun O x=>by kernel_rfl
theorem aF:Vd Tryz.prog 90 Dg:=vt mix PZ FU [(60,Ak)] (gs Ed g0) rfl (fun _ _=>rfl) fun O x=>by kernel_rfl
theorem du:Vd Tryz.prog 63 Ec:=vt mix SY Gu [(90,Dg)] (gs aF g0) rfl (fun _ _=>rfl) fun O x=>by kernel_rfl
theorem OG:Vd Tryz.prog 33 BO:=vt mix VI JU [(32,AW),(60,Ak),(61,EW),(62,Df),(63,Ec)] (gs DV (gs Ed (gs dx (gs aI (gs du g0))))) rfl (fun _ _=>rfl) fun O x=>by kernel_rfl
theorem MU:Vd Tryz.prog 51 BQ:=vt mix Zv Lt [] g0 rfl (fun _ _=>rfl) fun O x=>by kernel_rfl
theorem ZY:Vd Tryz.prog 34 DX:=vt mix ZR MS [(51,BQ)] (gs MU g0) rfl (fun _ _=>rfl) fun O x=>by kernel_rfl
theorem mR:Vd Tryz.prog 35 Ic:=vt mix Z7 MZ [] g0 rfl (fun _ _=>rfl) fun O x=>by kernel_rfl
theorem MY:Vd Tryz.prog 13 Bq:=vt mix Za Lu [(32,AW),(33,BO),(34,DX),(35,Ic)] (gs DV (gs OG (gs ZY (gs mR g0)))) rfl (fun _ _=>rfl) fun O x=>by kernel_rfl
theorem ko:Vd Tryz.prog 46 G7:=vt mix XD Kj [] g0 rfl (fun _ _=>rfl) fun O x=>by kernel_rfl
theorem iU:Vd Tryz.prog 47 GS:=vt mix V5 On [] g0 rfl (fun _ _=>rfl) fun O x=>by kernel_rfl
open Go.RowKit Go.Lib in
set_option maxHeartbeats 1000000 in
theorem TF (s:ByteArray) (c:Int) (w:World):Calls Tryz.prog 113 #[.string s,.int .u8 c] w fun e w'=>e=.returned (.int .i64 (Lib.indexByte s.data.toList c.toNat.toUInt8))∧w'=w:=by
 go_enter Tryz.func113,Tryz.ntmps113
 go_wp2
 rw [run_callFunc_extern Tryz.func134 (by kernel_rfl) (by kernel_rfl) (by kernel_rfl) (e:=Extern.BytealgIndexByte.indexByte) (by kernel_rfl),Lib.run_indexByteString]
 simp only [Result.andThen]
 rw [Oper.upon_value]
 go_wp2
 go_ret
 exact ⟨rfl,rfl⟩
theorem Ul:Vd Tryz.prog 113 Cf:=fun N h =>
 qb Tryz.func113 (T9:=9) (T5:=5) (T3:=3) rfl rfl Tryz.underlying9 Tryz.underlying5 Tryz.underlying3 (by kernel_rfl) TF h
theorem aN:Vd Tryz.prog 76 De:=vt mix Pc FW [(113,Cf)] (gs Ul g0) rfl (fun _ _=>rfl) fun O x=>by kernel_rfl
theorem mg:Vd Tryz.prog 77 Fk:=vt mix Zp ZV [] g0 rfl (fun _ _=>rfl) fun O x=>by kernel_rfl
theorem pB:Vd Tryz.prog 48 Jj:=vt mix aY Ol [(76,De),(77,Fk)] (gs aN (gs mg g0)) rfl (fun _ _=>rfl) fun O x=>by kernel_rfl
theorem aS:Vd Tryz.prog 78 Dv:=vt mix RN KB [] g0 rfl (fun _ _=>rfl) fun O x=>by kernel_rfl
theorem g8:Vd Tryz.prog 49 FB:=vt mix Uh H4 [(78,Dv)] (gs aS g0) rfl (fun _ _=>rfl) fun O x=>by kernel_rfl
theorem ZQ:Vd Tryz.prog 28 DT:=vt mix Zx It [(46,G7),(47,GS),(48,Jj),(49,FB)] (gs ko (gs iU (gs pB (gs g8 g0)))) rfl (fun _ _=>rfl) fun O x=>by kernel_rfl
theorem YE:Vd Tryz.prog 74 DI:=fun N h =>
 QU mix (T:=22) (e:=118) (b:=24) Tryz.func74 Tryz.underlying22 (by kernel_rfl) (by decide) (fun O l=>by kernel_rfl) (fun O l=>by kernel_rfl) h
theorem Zo:Vd Tryz.prog 43 DW:=vt mix Zb MP [(74,DI)] (gs YE g0) rfl (fun _ _=>rfl) fun O x=>by kernel_rfl
theorem EG:Vd Tryz.prog 79 AS:=fun N h =>
 QU mix (T:=67) (e:=126) (b:=1) Tryz.func79 Tryz.underlying67 (by kernel_rfl) (by decide) (fun O l=>by kernel_rfl) (fun O l=>by kernel_rfl) h
theorem Fz:Vd Tryz.prog 80 Ag:=fun N h =>
 QU mix (T:=68) (e:=3) (b:=8) Tryz.func80 Tryz.underlying68 (by kernel_rfl) (by decide) (fun O l=>by kernel_rfl) (fun O l=>by kernel_rfl) h
theorem FZ:Vd Tryz.prog 81 Ad:=fun N h =>
 QU mix (T:=69) (e:=4) (b:=1) Tryz.func81 Tryz.underlying69 (by kernel_rfl) (by decide) (fun O l=>by kernel_rfl) (fun O l=>by kernel_rfl) h
theorem Cp:Vd Tryz.prog 50 AR:=vt mix VW JY [(79,AS),(80,Ag),(81,Ad)] (gs EG (gs Fz (gs FZ g0))) rfl (fun _ _=>rfl) fun O x=>by kernel_rfl
theorem nE:Vd Tryz.prog 29 Iv:=vt mix ZS MN [(43,DW),(50,AR)] (gs Zo (gs Cp g0)) rfl (fun _ _=>rfl) fun O x=>by kernel_rfl
theorem Rv:Vd Tryz.prog 55 B4:=vt mix Zh MI [] g0 rfl (fun _ _=>rfl) fun O x=>by kernel_rfl
theorem Rs:Vd Tryz.prog 85 Bw:=vt mix RV GB [] g0 rfl (fun _ _=>rfl) fun O x=>by kernel_rfl
theorem j7:Vd Tryz.prog 56 F1:=vt mix Vm Ja [(13,Bq),(51,BQ),(55,B4),(85,Bw)] (gs MY (gs MU (gs Rv (gs Rs g0)))) rfl (fun _ _=>rfl) fun O x=>by kernel_rfl
theorem iw:Vd Tryz.prog 82 Fr:=vt mix Vb JO [(32,AW),(60,Ak)] (gs DV (gs Ed g0)) rfl (fun _ _=>rfl) fun O x=>by kernel_rfl
theorem ki:Vd Tryz.prog 83 HA:=vt mix Xc Kk [(51,BQ),(55,B4)] (gs MU (gs Rv g0)) rfl (fun _ _=>rfl) fun O x=>by kernel_rfl
theorem dh:Vd Tryz.prog 136 EU:=vt mix SR LB [] g0 rfl (fun _ _=>rfl) fun O x=>by kernel_rfl
theorem jC:Vd Tryz.prog 114 GO:=vt mix VC JI [(136,EU)] (gs dh g0) rfl (fun _ _=>rfl) fun O x=>by kernel_rfl
theorem HV:Vd Tryz.prog 160 Az:=vt mix cu PA [(79,AS),(80,Ag),(81,Ad)] (gs EG (gs Fz (gs FZ g0))) rfl (fun _ _=>rfl) fun O x=>by kernel_rfl
theorem gj:Vd Tryz.prog 191 C5:=vt mix UR Mg [] g0 rfl (fun _ _=>rfl) fun O x=>by kernel_rfl
theorem XG:Vd Tryz.prog 161 CJ:=vt mix XE Eu [(191,C5)] (gs gj g0) rfl (fun _ _=>rfl) fun O x=>by kernel_rfl
theorem G0:Vd Tryz.prog 162 A0:=vt mix XK Kn [] g0 rfl (fun _ _=>rfl) fun O x=>by kernel_rfl
theorem mi:Vd Tryz.prog 137 Il:=vt mix Z1 L7 [(160,Az),(161,CJ),(162,A0)] (gs HV (gs XG (gs G0 g0))) rfl (fun _ _=>rfl) fun O x=>by kernel_rfl
theorem V6:Vd Tryz.prog 163 Cx:=vt mix fT Qw [(79,AS),(80,Ag),(81,Ad)] (gs EG (gs Fz (gs FZ g0))) rfl (fun _ _=>rfl) fun O x=>by kernel_rfl
theorem SL:Vd Tryz.prog 192 B5:=vt mix Z6 MJ [] g0 rfl (fun _ _=>rfl) fun O x=>by kernel_rfl
theorem pV:Vd Tryz.prog 193 KL:=vt mix ai O2 [(32,AW),(192,B5)] (gs DV (gs SL g0)) rfl (fun _ _=>rfl) fun O x=>by kernel_rfl
theorem qZ:Vd Tryz.prog 164 Ll:=vt mix fH Qg [(32,AW),(88,Aq),(192,B5),(193,KL)] (gs DV (gs HE (gs SL (gs pV g0)))) rfl (fun _ _=>rfl) fun O x=>by kernel_rfl
theorem pI:Vd Tryz.prog 138 Jf:=vt mix bm OX [(163,Cx),(164,Ll)] (gs V6 (gs qZ g0)) rfl (fun _ _=>rfl) fun O x=>by kernel_rfl
theorem aG:Vd Tryz.prog 103 Dd:=vt mix Pd FX [] g0 rfl (fun _ _=>rfl) fun O x=>by kernel_rfl
theorem Mm:Vd Tryz.prog 70 BF:=vt mix T0 IH [(103,Dd)] (gs aG g0) rfl (fun _ _=>rfl) fun O x=>by kernel_rfl
theorem SW:Vd Tryz.prog 130 Bp:=vt mix Sg Sd [] g0 rfl (fun _ _=>rfl) fun O x=>by kernel_rfl
theorem kw:Vd Tryz.prog 104 HZ:=vt mix W9 Kz [(130,Bp)] (gs SW g0) rfl (fun _ _=>rfl) fun O x=>by kernel_rfl
theorem aU:Vd Tryz.prog 131 Dx:=vt mix Q5 F8 [] g0 rfl (fun _ _=>rfl) fun O x=>by kernel_rfl
theorem Xk:Vd Tryz.prog 105 C7:=vt mix M6 EE [(131,Dx)] (gs aU g0) rfl (fun _ _=>rfl) fun O x=>by kernel_rfl
theorem ck:Vd Tryz.prog 132 Ds:=vt mix RS GR [] g0 rfl (fun _ _=>rfl) fun O x=>by kernel_rfl
theorem gW:Vd Tryz.prog 106 E4:=vt mix Tl IG [(130,Bp),(132,Ds)] (gs SW (gs ck g0)) rfl (fun _ _=>rfl) fun O x=>by kernel_rfl
theorem WD:Vd Tryz.prog 133 Cz:=vt mix Le Dm [] g0 rfl (fun _ _=>rfl) fun O x=>by kernel_rfl
theorem Y1:Vd Tryz.prog 107 DP:=vt mix OW Ei [(133,Cz)] (gs WD g0) rfl (fun _ _=>rfl) fun O x=>by kernel_rfl
theorem O3:Vd Tryz.prog 71 BJ:=vt mix OB Ej [(104,HZ),(105,C7),(106,E4),(107,DP)] (gs kw (gs Xk (gs gW (gs Y1 g0)))) rfl (fun _ _=>rfl) fun O x=>by kernel_rfl
theorem O6:Vd Tryz.prog 151 BP:=vt mix VK EK [(161,CJ)] (gs XG g0) rfl (fun _ _=>rfl) fun O x=>by kernel_rfl
theorem Im:Vd Tryz.prog 174 A4:=vt mix ZX Lx [] g0 rfl (fun _ _=>rfl) fun O x=>by kernel_rfl
theorem H6:Vd Tryz.prog 175 A3:=vt mix UD IE [(174,A4)] (gs Im g0) rfl (fun _ _=>rfl) fun O x=>by kernel_rfl
theorem iR:Vd Tryz.prog 210 GC:=vt mix VQ JD [] g0 rfl (fun _ _=>rfl) fun O x=>by kernel_rfl
theorem nA:Vd Tryz.prog 194 IY:=vt mix Ze MW [(174,A4),(175,A3),(210,GC)] (gs Im (gs H6 (gs iR g0))) rfl (fun _ _=>rfl) fun O x=>by kernel_rfl
theorem mT:Vd Tryz.prog 195 IU:=vt mix Z5 MV [(174,A4),(175,A3)] (gs Im (gs H6 g0)) rfl (fun _ _=>rfl) fun O x=>by kernel_rfl
theorem di:Vd Tryz.prog 165 EV:=vt mix Sc Gq [(70,BF),(71,BJ),(151,BP),(194,IY),(195,IU)] (gs Mm (gs O3 (gs O6 (gs nA (gs mT g0))))) rfl (fun _ _=>rfl) fun O x=>by kernel_rfl
theorem aD:Vd Tryz.prog 196 Dc:=vt mix Pa FR [] g0 rfl (fun _ _=>rfl) fun O x=>by kernel_rfl
theorem dp:Vd Tryz.prog 166 Ea:=vt mix SU Gh [(70,BF),(196,Dc)] (gs Mm (gs aD g0)) rfl (fun _ _=>rfl) fun O x=>by kernel_rfl
theorem oW:Vd Tryz.prog 167 KN:=vt mix ao PG [(160,Az),(162,A0)] (gs HV (gs G0 g0)) rfl (fun _ _=>rfl) fun O x=>by kernel_rfl
theorem f5:Vd Tryz.prog 168 FM:=vt mix Tf Tc [] g0 rfl (fun _ _=>rfl) fun O x=>by kernel_rfl
theorem pS:Vd Tryz.prog 169 KH:=vt mix ax Ov [(32,AW),(88,Aq),(163,Cx),(192,B5)] (gs DV (gs HE (gs V6 (gs SL g0)))) rfl (fun _ _=>rfl) fun O x=>by kernel_rfl
theorem iJ:Vd Tryz.prog 170 GE:=vt mix Vw JW [(160,Az)] (gs HV g0) rfl (fun _ _=>rfl) fun O x=>by kernel_rfl
theorem kv:Vd Tryz.prog 139 HJ:=vt mix X8 Kb [(50,AR),(165,EV),(166,Ea),(167,KN),(168,FM),(169,KH),(170,GE)] (gs Cp (gs di (gs dp (gs oW (gs f5 (gs pS (gs iJ g0))))))) rfl (fun _ _=>rfl) fun O x=>by kernel_rfl
theorem bR:Vd Tryz.prog 171 D2:=vt mix bl Nl [(151,BP),(162,A0)] (gs O6 (gs G0 g0)) rfl (fun _ _=>rfl) fun O x=>by kernel_rfl
theorem gn:Vd Tryz.prog 140 FP:=vt mix Ud H0 [(160,Az),(162,A0),(171,D2)] (gs HV (gs G0 (gs bR g0))) rfl (fun _ _=>rfl) fun O x=>by kernel_rfl
theorem kQ:Vd Tryz.prog 141 Gy:=vt mix XI KX [(160,Az),(171,D2)] (gs HV (gs bR g0)) rfl (fun _ _=>rfl) fun O x=>by kernel_rfl
theorem Zf:Vd Tryz.prog 152 C2:=vt mix Zy Fn [] g0 rfl (fun _ _=>rfl) fun O x=>by kernel_rfl
theorem jd:Vd Tryz.prog 142 F5:=vt mix Vg JM [(152,C2),(160,Az),(162,A0)] (gs Zf (gs HV (gs G0 g0))) rfl (fun _ _=>rfl) fun O x=>by kernel_rfl
theorem WB:Vd Tryz.prog 173 Cy:=vt mix fK Qs [(79,AS),(80,Ag),(81,Ad)] (gs EG (gs Fz (gs FZ g0))) rfl (fun _ _=>rfl) fun O x=>by kernel_rfl
theorem jT:Vd Tryz.prog 143 Fw:=vt mix V1 JG [(173,Cy)] (gs WB g0) rfl (fun _ _=>rfl) fun O x=>by kernel_rfl
theorem lB:Vd Tryz.prog 144 Hc:=vt mix XR Kr [(173,Cy),(174,A4),(175,A3)] (gs WB (gs Im (gs H6 g0))) rfl (fun _ _=>rfl) fun O x=>by kernel_rfl
theorem cW:Vd Tryz.prog 145 EA:=vt mix Q4 GD [(173,Cy),(174,A4),(175,A3)] (gs WB (gs Im (gs H6 g0))) rfl (fun _ _=>rfl) fun O x=>by kernel_rfl
theorem jm:Vd Tryz.prog 146 F0:=vt mix VB JN [(32,AW),(163,Cx)] (gs DV (gs V6 g0)) rfl (fun _ _=>rfl) fun O x=>by kernel_rfl
theorem dc:Vd Tryz.prog 147 ET:=vt mix SP Gj [(50,AR)] (gs Cp g0) rfl (fun _ _=>rfl) fun O x=>by kernel_rfl
theorem SX:Vd Tryz.prog 117 CK:=vt mix Sb Gp [(50,AR)] (gs Cp g0) rfl (fun _ _=>rfl) fun O x=>by kernel_rfl
theorem dg:Vd Tryz.prog 148 Ef:=vt mix ST Gr [(50,AR),(117,CK)] (gs Cp (gs SX g0)) rfl (fun _ _=>rfl) fun O x=>by kernel_rfl
theorem f9:Vd Tryz.prog 149 E2:=vt mix Ts FC [(50,AR)] (gs Cp g0) rfl (fun _ _=>rfl) fun O x=>by kernel_rfl
theorem iT:Vd Tryz.prog 176 GG:=vt mix Vc Vo [] g0 rfl (fun _ _=>rfl) fun O x=>by kernel_rfl
theorem gw:Vd Tryz.prog 150 E0:=vt mix Td II [(50,AR),(176,GG)] (gs Cp (gs iT g0)) rfl (fun _ _=>rfl) fun O x=>by kernel_rfl
theorem dl:Vd Tryz.prog 115 ES:=vt mix SO ER [(137,Il),(138,Jf),(139,HJ),(140,FP),(141,Gy),(142,F5),(143,Fw),(144,Hc),(145,EA),(146,F0),(147,ET),(148,Ef),(149,E2),(150,E0)] (gs mi (gs pI (gs kv (gs gn (gs kQ (gs jd (gs jT (gs lB (gs cW (gs jm (gs dc (gs dg (gs f9 (gs gw g0)))))))))))))) rfl (fun _ _=>rfl) fun O x=>by kernel_rfl
theorem gU:Vd Tryz.prog 116 Dj:=vt mix UI IM [(33,BO),(151,BP),(152,C2)] (gs OG (gs O6 (gs Zf g0))) rfl (fun _ _=>rfl) fun O x=>by kernel_rfl
theorem lI:Vd Tryz.prog 84 HF:=vt mix Xv Ku [(28,DT),(33,BO),(50,AR),(114,GO),(115,ES),(116,Dj)] (gs ZQ (gs OG (gs Cp (gs jC (gs dl (gs gU g0)))))) rfl (fun _ _=>rfl) fun O x=>by kernel_rfl
theorem bz:Vd Tryz.prog 12 Cv:=vt mix dD Na [(13,Bq),(28,DT),(29,Iv),(34,DX),(51,BQ),(55,B4),(56,F1),(82,Fr),(83,HA),(84,HF),(85,Bw),(117,CK)] (gs MY (gs ZQ (gs nE (gs ZY (gs MU (gs Rv (gs j7 (gs iw (gs ki (gs lI (gs Rs (gs SX g0)))))))))))) rfl (fun _ _=>rfl) fun O x=>by kernel_rfl
theorem Qh:Vd Tryz.prog 15 BX:=vt mix eo QT [(12,Cv)] (gs bz g0) rfl (fun _ _=>rfl) fun O x=>by kernel_rfl
theorem nY:Vd Tryz.prog 75 D0:=vt mix cz N8 [] g0 rfl (fun _ _=>rfl) fun O x=>by kernel_rfl
def XH:Cfg:={ gam:=[⟨75,[],true,true,[]⟩],imm:=false,old:=false }
theorem iG (O:Alg) (x:Ags O):XF (O:=O) Tryz.prog XH false true [] 44 [] (xr x P6 0)=HI O x:=by kernel_rfl
theorem kL {E:Env} {M:Nat} (N:Nat) (h:∀ ls,E 44 [] ls=HK N ls):VV Tryz.prog E M ⟨44,[],false,true,[]⟩ :=
 BG mix (E:=Di N) (N:=N) (cfg:=XH) (ci:=⟨44,[],false,true,[]⟩) (ks:=P6) (AL (nY N (fun _=>rfl)) B9) (c:=HK N) (F:=fun ls=>HI (std (Di N) N) (xOf ls)) (fun ls=>rfl) (fun ls=>iG (std (Di N) N) (xOf ls)) h
def iQ:Cfg:={ gam:=[⟨13,[],true,true,[]⟩,⟨15,[],true,true,[]⟩,⟨44,[],false,true,[]⟩],imm:=false,old:=false,ie:=[60000] }
theorem qL (O:Alg) (x:Ags O):XF (O:=O) Tryz.prog iQ true true [] 27 [] (xr x YR 0)=Ou O x:=by kernel_rfl
theorem js:Vd Tryz.prog 27 Dl:=fun N h =>
 BG mix (E:=D1 N) (N:=N) (cfg:=iQ) (ci:=⟨27,[],true,true,[]⟩) (ks:=YR) (AL (MY N (fun _=>rfl)) (AL (Qh N (fun _=>rfl)) (AL (kL N (fun _=>rfl)) B9))) (c:=Dl N) (F:=fun ls=>Ou (std (D1 N) N) (xOf ls)) (fun ls=>rfl) (fun ls=>qL (std (D1 N) N) (xOf ls)) h
theorem oB:Vd Tryz.prog 11 DK:=vt mix dK O1 [(27,Dl)] (gs js g0) rfl (fun _ _=>rfl) fun O x=>by kernel_rfl
theorem bi:Vd Tryz.prog 14 B2:=vt mix aQ O7 [] g0 rfl (fun _ _=>rfl) fun O x=>by kernel_rfl
theorem rA:Vd Tryz.prog 25 GY:=vt mix ed Qf [(32,AW),(43,DW)] (gs DV (gs Zo g0)) rfl (fun _ _=>rfl) fun O x=>by kernel_rfl
theorem uy:Vd Tryz.prog 26 Q9:=vt mix mL lU [] g0 rfl (fun _ _=>rfl) fun O x=>by kernel_rfl
theorem qO:Vd Tryz.prog 9 LU:=vt mix eK Qm [(11,DK),(12,Cv),(14,B2),(15,BX),(25,GY),(26,Q9)] (gs oB (gs bz (gs bi (gs Qh (gs rA (gs uy g0)))))) rfl (fun _ _=>rfl) fun O x=>by kernel_rfl
def lS:Cfg:={ gam:=[],imm:=false,old:=true }
theorem tP (O:Alg) (x:Ags O):XF (O:=O) Tryz.prog lS false false [] 10 [] (xr x cK 0)=RT O x:=by kernel_rfl
theorem vA {E:Env} {M:Nat} (N:Nat) (h:∀ ls,E 10 [] ls=RD N ls):VV Tryz.prog E M ⟨10,[],false,false,[]⟩ :=
 BG mix (E:=LD N) (N:=N) (cfg:=lS) (ci:=⟨10,[],false,false,[]⟩) (ks:=cK) B9 (c:=RD N) (F:=fun ls=>RT (std (LD N) N) (xOf ls)) (fun ls=>rfl) (fun ls=>tP (std (LD N) N) (xOf ls)) h
def V4:Cfg:={ gam:=[],imm:=false,old:=false }
theorem hC (O:Alg) (x:Ags O):XF (O:=O) Tryz.prog V4 false false [] 40 [] (xr x N1 0)=F3 O x:=by kernel_rfl
theorem U1 {E:Env} {M:Nat} (N:Nat) (h:∀ ls,E 40 [] ls=DN N ls):VV Tryz.prog E M ⟨40,[],false,false,[]⟩ :=
 BG mix (E:=Ee N) (N:=N) (cfg:=V4) (ci:=⟨40,[],false,false,[]⟩) (ks:=N1) B9 (c:=DN N) (F:=fun ls=>F3 (std (Ee N) N) (xOf ls)) (fun ls=>rfl) (fun ls=>hC (std (Ee N) N) (xOf ls)) h
theorem jO:Vd Tryz.prog 41 JS:=vt mix Vq JV [(70,BF),(71,BJ)] (gs Mm (gs O3 g0)) rfl (fun _ _=>rfl) fun O x=>by kernel_rfl
def RP:Cfg:={ gam:=[⟨13,[],true,true,[]⟩,⟨15,[],true,true,[]⟩,⟨40,[],false,false,[]⟩,⟨41,[],true,true,[]⟩],imm:=false,old:=false }
theorem aE (O:Alg) (x:Ags O):XF (O:=O) Tryz.prog RP true true [] 19 [] (xr x Jq 0)=D3 O x:=by kernel_rfl
theorem cd:Vd Tryz.prog 19 C6:=fun N h =>
 BG mix (E:=BI N) (N:=N) (cfg:=RP) (ci:=⟨19,[],true,true,[]⟩) (ks:=Jq) (AL (MY N (fun _=>rfl)) (AL (Qh N (fun _=>rfl)) (AL (U1 N (fun _=>rfl)) (AL (jO N (fun _=>rfl)) B9)))) (c:=C6 N) (F:=fun ls=>D3 (std (BI N) N) (xOf ls)) (fun ls=>rfl) (fun ls=>aE (std (BI N) N) (xOf ls)) h
def U4:Cfg:={ gam:=[⟨15,[],true,true,[]⟩,⟨19,[],true,true,[]⟩,⟨27,[],true,true,[]⟩,⟨40,[],false,false,[]⟩],imm:=false,old:=false }
theorem ge (O:Alg) (x:Ags O):XF (O:=O) Tryz.prog U4 true true [] 20 [] (xr x Om 0)=Ft O x:=by kernel_rfl
theorem iC:Vd Tryz.prog 20 GN:=fun N h =>
 BG mix (E:=Bn N) (N:=N) (cfg:=U4) (ci:=⟨20,[],true,true,[]⟩) (ks:=Om) (AL (Qh N (fun _=>rfl)) (AL (cd N (fun _=>rfl)) (AL (js N (fun _=>rfl)) (AL (U1 N (fun _=>rfl)) B9)))) (c:=GN N) (F:=fun ls=>Ft (std (Bn N) N) (xOf ls)) (fun ls=>rfl) (fun ls=>ge (std (Bn N) N) (xOf ls)) h
theorem rC:Vd Tryz.prog 91 LI:=vt mix ew QX [] g0 rfl (fun _ _=>rfl) fun O x=>by kernel_rfl
theorem CH:Vd Tryz.prog 120 AP:=vt mix eW Qz [] g0 rfl (fun _ _=>rfl) fun O x=>by kernel_rfl
theorem Wp:Vd Tryz.prog 92 DF:=vt mix ee Qr [(120,AP)] (gs CH g0) rfl (fun _ _=>rfl) fun O x=>by kernel_rfl
theorem qS:Vd Tryz.prog 64 Qe:=vt mix eT Qu [(91,LI),(92,DF)] (gs rC (gs Wp g0)) rfl (fun _ _=>rfl) fun O x=>by kernel_rfl
theorem ta:Vd Tryz.prog 121 Oc:=vt mix il TR [] g0 rfl (fun _ _=>rfl) fun O x=>by kernel_rfl
theorem vp:Vd Tryz.prog 122 Tv:=vt mix oy pe [] g0 rfl (fun _ _=>rfl) fun O x=>by kernel_rfl
theorem Gc:Vd Tryz.prog 93 Ap:=vt mix ei QP [(121,Oc),(122,Tv)] (gs ta (gs vp g0)) rfl (fun _ _=>rfl) fun O x=>by kernel_rfl
theorem gZ:Vd Tryz.prog 153 E5:=vt mix oM oI [] g0 rfl (fun _ _=>rfl) fun O x=>by kernel_rfl
theorem vH:Vd Tryz.prog 154 RK:=vt mix lr VF [(153,E5)] (gs gZ g0) rfl (fun _ _=>rfl) fun O x=>by kernel_rfl
theorem Qy:Vd Tryz.prog 156 Bh:=vt mix em I5 [] g0 rfl (fun _ _=>rfl) fun O x=>by kernel_rfl
theorem mP:Vd Tryz.prog 155 Ii:=vt mix Z2 Lw [(156,Bh)] (gs Qy g0) rfl (fun _ _=>rfl) fun O x=>by kernel_rfl
theorem W0:Vd Tryz.prog 123 Ct:=vt mix fW Qv [(93,Ap),(153,E5),(154,RK),(155,Ii)] (gs Gc (gs gZ (gs vH (gs mP g0)))) rfl (fun _ _=>rfl) fun O x=>by kernel_rfl
theorem LG:Vd Tryz.prog 98 CD:=vt mix fA QQ [] g0 rfl (fun _ _=>rfl) fun O x=>by kernel_rfl
theorem bE:Vd Tryz.prog 124 E7:=vt mix dF N4 [(98,CD)] (gs LG g0) rfl (fun _ _=>rfl) fun O x=>by kernel_rfl
theorem jF:Vd Tryz.prog 94 GT:=vt mix VM JP [(123,Ct),(124,E7)] (gs W0 (gs bE g0)) rfl (fun _ _=>rfl) fun O x=>by kernel_rfl
theorem Wu:Vd Tryz.prog 65 Ep:=vt mix fX QS [(93,Ap),(94,GT)] (gs Gc (gs jF g0)) rfl (fun _ _=>rfl) fun O x=>by kernel_rfl
theorem cj:Vd Tryz.prog 37 Dt:=vt mix bD Ne [] g0 rfl (fun _ _=>rfl) fun O x=>by kernel_rfl
theorem sX:Vd Tryz.prog 95 OI:=vt mix jf TU [] g0 rfl (fun _ _=>rfl) fun O x=>by kernel_rfl
theorem vz:Vd Tryz.prog 96 UH:=vt mix o7 f8 [] g0 rfl (fun _ _=>rfl) fun O x=>by kernel_rfl
theorem v8:Vd Tryz.prog 125 Uf:=vt mix o6 fj [] g0 rfl (fun _ _=>rfl) fun O x=>by kernel_rfl
theorem qU:Vd Tryz.prog 97 LV:=vt mix fF QM [(125,Uf)] (gs v8 g0) rfl (fun _ _=>rfl) fun O x=>by kernel_rfl
theorem fP:Vd Tryz.prog 66 I4:=vt mix fJ Qa [(37,Dt),(95,OI),(96,UH),(97,LV)] (gs cj (gs sX (gs vz (gs qU g0)))) rfl (fun _ _=>rfl) fun O x=>by kernel_rfl
theorem Wy:Vd Tryz.prog 101 En:=vt mix eV Qj [] g0 rfl (fun _ _=>rfl) fun O x=>by kernel_rfl
def iB:Cfg:={ gam:=[],imm:=false,old:=false }
theorem qm (O:Alg) (x:Ags O):XF (O:=O) Tryz.prog iB false false [] 68 [] (xr x ZM 0)=OU O x:=by kernel_rfl
theorem Sq {E:Env} {M:Nat} (N:Nat) (h:∀ ls,E 68 [] ls=DQ N ls):VV Tryz.prog E M ⟨68,[],false,false,[]⟩ :=
 BG mix (E:=Jw N) (N:=N) (cfg:=iB) (ci:=⟨68,[],false,false,[]⟩) (ks:=ZM) B9 (c:=DQ N) (F:=fun ls=>OU (std (Jw N) N) (xOf ls)) (fun ls=>rfl) (fun ls=>qm (std (Jw N) N) (xOf ls)) h
def ZZ:Cfg:={ gam:=[⟨65,[],true,true,[]⟩,⟨68,[],false,false,[]⟩,⟨124,[],true,true,[]⟩],imm:=false,old:=false }
theorem kG (O:Alg) (x:Ags O):XF (O:=O) Tryz.prog ZZ true true [] 126 [] (xr x SB 0)=Ir O x:=by kernel_rfl
theorem mo:Vd Tryz.prog 126 Is:=fun N h =>
 BG mix (E:=Cl N) (N:=N) (cfg:=ZZ) (ci:=⟨126,[],true,true,[]⟩) (ks:=SB) (AL (Wu N (fun _=>rfl)) (AL (Sq N (fun _=>rfl)) (AL (bE N (fun _=>rfl)) B9))) (c:=Is N) (F:=fun ls=>Ir (std (Cl N) N) (xOf ls)) (fun ls=>rfl) (fun ls=>kG (std (Cl N) N) (xOf ls)) h
theorem qu:Vd Tryz.prog 127 QZ:=vt mix eU QO [(93,Ap),(153,E5)] (gs Gc (gs gZ g0)) rfl (fun _ _=>rfl) fun O x=>by kernel_rfl
theorem Zg:Vd Tryz.prog 129 Fi:=vt mix Zd MK [(92,DF)] (gs Wp g0) rfl (fun _ _=>rfl) fun O x=>by kernel_rfl
theorem Nn:Vd Tryz.prog 197 Bf:=vt mix ah Nh [] g0 rfl (fun _ _=>rfl) fun O x=>by kernel_rfl
theorem sS:Vd Tryz.prog 177 S4:=vt mix iW TG [(120,AP),(156,Bh),(197,Bf)] (gs CH (gs Qy (gs Nn g0))) rfl (fun _ _=>rfl) fun O x=>by kernel_rfl
theorem Hh:Vd Tryz.prog 208 Ay:=vt mix Xm Ky [] g0 rfl (fun _ _=>rfl) fun O x=>by kernel_rfl
theorem UZ:Vd Tryz.prog 211 CV:=vt mix bL PF [] g0 rfl (fun _ _=>rfl) fun O x=>by kernel_rfl
theorem tY:Vd Tryz.prog 212 Oh:=vt mix jo S9 [(93,Ap),(211,CV)] (gs Gc (gs UZ g0)) rfl (fun _ _=>rfl) fun O x=>by kernel_rfl
theorem mB:Vd Tryz.prog 213 Ho:=vt mix lk VJ [] g0 rfl (fun _ _=>rfl) fun O x=>by kernel_rfl
theorem uC:Vd Tryz.prog 198 RC:=vt mix lc U2 [(93,Ap),(208,Ay),(211,CV),(212,Oh),(213,Ho)] (gs Gc (gs Hh (gs UZ (gs tY (gs mB g0))))) rfl (fun _ _=>rfl) fun O x=>by kernel_rfl
theorem tM:Vd Tryz.prog 178 S0:=vt mix ia Ss [(120,AP),(198,RC)] (gs CH (gs uC g0)) rfl (fun _ _=>rfl) fun O x=>by kernel_rfl
theorem vr:Vd Tryz.prog 108 UY:=vt mix oQ f6 [] g0 rfl (fun _ _=>rfl) fun O x=>by kernel_rfl
theorem lN:Vd Tryz.prog 109 HD:=vt mix Xg Kw [] g0 rfl (fun _ _=>rfl) fun O x=>by kernel_rfl
theorem WR:Vd Tryz.prog 72 Cw:=vt mix fO Qt [(108,UY),(109,HD)] (gs vr (gs lN g0)) rfl (fun _ _=>rfl) fun O x=>by kernel_rfl
theorem kr:Vd Tryz.prog 110 Hd:=vt mix X3 Kl [] g0 rfl (fun _ _=>rfl) fun O x=>by kernel_rfl
theorem vf:Vd Tryz.prog 111 Tx:=vt mix pN Ya [] g0 rfl (fun _ _=>rfl) fun O x=>by kernel_rfl
theorem pz:Vd Tryz.prog 112 KA:=vt mix co NZ [] g0 rfl (fun _ _=>rfl) fun O x=>by kernel_rfl
theorem X4:Vd Tryz.prog 73 C9:=vt mix Xy Kd [(110,Hd),(111,Tx),(112,KA)] (gs kr (gs vf (gs pz g0))) rfl (fun _ _=>rfl) fun O x=>by kernel_rfl
theorem UK:Vd Tryz.prog 189 Cb:=vt mix cp Hj [(156,Bh)] (gs Qy g0) rfl (fun _ _=>rfl) fun O x=>by kernel_rfl
theorem Nb:Vd Tryz.prog 207 Be:=vt mix bC OA [] g0 rfl (fun _ _=>rfl) fun O x=>by kernel_rfl
theorem mt:Vd Tryz.prog 214 Ik:=vt mix Zw L1 [] g0 rfl (fun _ _=>rfl) fun O x=>by kernel_rfl
theorem qK:Vd Tryz.prog 199 Qi:=vt mix fZ Q2 [(207,Be),(208,Ay),(214,Ik)] (gs Nb (gs Hh (gs mt g0))) rfl (fun _ _=>rfl) fun O x=>by kernel_rfl
theorem qd:Vd Tryz.prog 200 Qq:=vt mix eG Qb [(207,Be),(208,Ay)] (gs Nb (gs Hh g0)) rfl (fun _ _=>rfl) fun O x=>by kernel_rfl
theorem kX:Vd Tryz.prog 215 G1:=vt mix Xj Ko [] g0 rfl (fun _ _=>rfl) fun O x=>by kernel_rfl
theorem qH:Vd Tryz.prog 216 LZ:=vt mix ep QV [] g0 rfl (fun _ _=>rfl) fun O x=>by kernel_rfl
theorem nU:Vd Tryz.prog 201 OJ:=vt mix bH Od [(72,Cw),(215,G1),(216,LZ)] (gs WR (gs kX (gs qH g0))) rfl (fun _ _=>rfl) fun O x=>by kernel_rfl
theorem cl:Vd Tryz.prog 204 FE:=vt mix cD Ot [(120,AP)] (gs CH g0) rfl (fun _ _=>rfl) fun O x=>by kernel_rfl
theorem un:Vd Tryz.prog 202 VS:=vt mix mC VA [(120,AP),(197,Bf),(204,FE)] (gs CH (gs Nn (gs cl g0))) rfl (fun _ _=>rfl) fun O x=>by kernel_rfl
theorem sj:Vd Tryz.prog 203 Si:=vt mix jG Sv [(93,Ap),(120,AP),(211,CV),(213,Ho)] (gs Gc (gs CH (gs UZ (gs mB g0)))) rfl (fun _ _=>rfl) fun O x=>by kernel_rfl
theorem qr:Vd Tryz.prog 205 QY:=vt mix ek fM [] g0 rfl (fun _ _=>rfl) fun O x=>by kernel_rfl
def iq:Cfg:={ gam:=[⟨72,[],true,true,[]⟩,⟨73,[],true,true,[]⟩,⟨189,[],true,true,[]⟩,⟨199,[],true,true,[]⟩,⟨200,[],true,true,[]⟩,⟨201,[],true,true,[]⟩,⟨202,[],true,true,[]⟩,⟨203,[],true,true,[]⟩,⟨204,[],true,true,[]⟩,⟨205,[],true,true,[]⟩],imm:=false,old:=false }
theorem qo (O:Alg) (x:Ags O):XF (O:=O) Tryz.prog iq false false [] 179 [] (xr x Ye 0)=Nc O x:=by kernel_rfl
theorem tO {E:Env} {M:Nat} (N:Nat) (h:∀ ls,E 179 [] ls=N5 N ls):VV Tryz.prog E M ⟨179,[],false,false,[]⟩ :=
 BG mix (E:=BR N) (N:=N) (cfg:=iq) (ci:=⟨179,[],false,false,[]⟩) (ks:=Ye) (AL (WR N (fun _=>rfl)) (AL (X4 N (fun _=>rfl)) (AL (UK N (fun _=>rfl)) (AL (qK N (fun _=>rfl)) (AL (qd N (fun _=>rfl)) (AL (nU N (fun _=>rfl)) (AL (un N (fun _=>rfl)) (AL (sj N (fun _=>rfl)) (AL (cl N (fun _=>rfl)) (AL (qr N (fun _=>rfl)) B9)))))))))) (c:=N5 N) (F:=fun ls=>Nc (std (BR N) N) (xOf ls)) (fun ls=>rfl) (fun ls=>qo (std (BR N) N) (xOf ls)) h
theorem fQ:Vd Tryz.prog 206 Em:=vt mix fC QN [(189,Cb),(197,Bf)] (gs UK (gs Nn g0)) rfl (fun _ _=>rfl) fun O x=>by kernel_rfl
theorem mp:Vd Tryz.prog 180 MA:=vt mix Zs L4 [(120,AP),(206,Em)] (gs CH (gs fQ g0)) rfl (fun _ _=>rfl) fun O x=>by kernel_rfl
theorem qE:Vd Tryz.prog 181 Qk:=vt mix fN Qc [(120,AP),(206,Em)] (gs CH (gs fQ g0)) rfl (fun _ _=>rfl) fun O x=>by kernel_rfl
theorem j0:Vd Tryz.prog 190 Eh:=vt mix i9 KO [] g0 rfl (fun _ _=>rfl) fun O x=>by kernel_rfl
theorem pW:Vd Tryz.prog 182 N6:=vt mix bU ON [(120,AP),(190,Eh),(197,Bf)] (gs CH (gs j0 (gs Nn g0))) rfl (fun _ _=>rfl) fun O x=>by kernel_rfl
theorem my:Vd Tryz.prog 183 MC:=vt mix Zr MQ [(120,AP)] (gs CH g0) rfl (fun _ _=>rfl) fun O x=>by kernel_rfl
theorem nW:Vd Tryz.prog 184 Ni:=vt mix cn NV [(120,AP),(207,Be),(208,Ay)] (gs CH (gs Nb (gs Hh g0))) rfl (fun _ _=>rfl) fun O x=>by kernel_rfl
theorem gI:Vd Tryz.prog 185 Hu:=vt mix T4 IA [(120,AP),(207,Be),(208,Ay)] (gs CH (gs Nb (gs Hh g0))) rfl (fun _ _=>rfl) fun O x=>by kernel_rfl
theorem mQ:Vd Tryz.prog 186 MX:=vt mix Zj MB [(93,Ap),(120,AP)] (gs Gc (gs CH g0)) rfl (fun _ _=>rfl) fun O x=>by kernel_rfl
def al:Cfg:={ gam:=[],imm:=false,old:=false }
theorem nF (O:Alg) (x:Ags O):XF (O:=O) Tryz.prog al false false [] 187 [] (xr x Tq 0)=HC O x:=by kernel_rfl
theorem pk {E:Env} {M:Nat} (N:Nat) (h:∀ ls,E 187 [] ls=Jl N ls):VV Tryz.prog E M ⟨187,[],false,false,[]⟩ :=
 BG mix (E:=HX N) (N:=N) (cfg:=al) (ci:=⟨187,[],false,false,[]⟩) (ks:=Tq) B9 (c:=Jl N) (F:=fun ls=>HC (std (HX N) N) (xOf ls)) (fun ls=>rfl) (fun ls=>nF (std (HX N) N) (xOf ls)) h
theorem qB:Vd Tryz.prog 209 Qd:=vt mix fD fa [] g0 rfl (fun _ _=>rfl) fun O x=>by kernel_rfl
def b9:Cfg:={ gam:=[⟨209,[],true,true,[]⟩],imm:=false,old:=false }
theorem nD (O:Alg) (x:Ags O):XF (O:=O) Tryz.prog b9 false false [] 188 [] (xr x Te 0)=KJ O x:=by kernel_rfl
theorem oF {E:Env} {M:Nat} (N:Nat) (h:∀ ls,E 188 [] ls=J4 N ls):VV Tryz.prog E M ⟨188,[],false,false,[]⟩ :=
 BG mix (E:=Ez N) (N:=N) (cfg:=b9) (ci:=⟨188,[],false,false,[]⟩) (ks:=Te) (AL (qB N (fun _=>rfl)) B9) (c:=J4 N) (F:=fun ls=>KJ (std (Ez N) N) (xOf ls)) (fun ls=>rfl) (fun ls=>nD (std (Ez N) N) (xOf ls)) h
def lj:Cfg:={ gam:=[⟨129,[],true,true,[]⟩,⟨177,[],true,true,[]⟩,⟨178,[],true,true,[]⟩,⟨179,[],false,false,[]⟩,⟨180,[],true,true,[]⟩,⟨181,[],true,true,[]⟩,⟨182,[],true,true,[]⟩,⟨183,[],true,true,[]⟩,⟨184,[],true,true,[]⟩,⟨185,[],true,true,[]⟩,⟨186,[],true,true,[]⟩,⟨187,[],false,false,[]⟩,⟨188,[],false,false,[]⟩],imm:=false,old:=false }
theorem su (O:Alg) (x:Ags O):XF (O:=O) Tryz.prog lj false false [] 157 [] (xr x cq 0)=NF O x:=by kernel_rfl
theorem ug {E:Env} {M:Nat} (N:Nat) (h:∀ ls,E 157 [] ls=RW N ls):VV Tryz.prog E M ⟨157,[],false,false,[]⟩ :=
 BG mix (E:=BD N) (N:=N) (cfg:=lj) (ci:=⟨157,[],false,false,[]⟩) (ks:=cq) (AL (Zg N (fun _=>rfl)) (AL (sS N (fun _=>rfl)) (AL (tM N (fun _=>rfl)) (AL (tO N (fun _=>rfl)) (AL (mp N (fun _=>rfl)) (AL (qE N (fun _=>rfl)) (AL (pW N (fun _=>rfl)) (AL (my N (fun _=>rfl)) (AL (nW N (fun _=>rfl)) (AL (gI N (fun _=>rfl)) (AL (mQ N (fun _=>rfl)) (AL (pk N (fun _=>rfl)) (AL (oF N (fun _=>rfl)) B9))))))))))))) (c:=RW N) (F:=fun ls=>NF (std (BD N) N) (xOf ls)) (fun ls=>rfl) (fun ls=>su (std (BD N) N) (xOf ls)) h
theorem nc:Vd Tryz.prog 158 Jp:=vt mix dB Ng [(123,Ct),(189,Cb),(190,Eh)] (gs W0 (gs UK (gs j0 g0))) rfl (fun _ _=>rfl) fun O x=>by kernel_rfl
def hY:Cfg:={ gam:=[⟨66,[],true,true,[]⟩,⟨92,[],true,true,[]⟩,⟨123,[],true,true,[]⟩,⟨156,[],true,true,[]⟩,⟨157,[],false,false,[]⟩,⟨158,[],true,true,[]⟩],imm:=false,old:=false }
theorem qn (O:Alg) (x:Ags O):XF (O:=O) Tryz.prog hY false false [] 128 [] (xr x ZK 0)=PE O x:=by kernel_rfl
theorem i6 {E:Env} {M:Nat} (N:Nat) (h:∀ ls,E 128 [] ls=ID N ls):VV Tryz.prog E M ⟨128,[],false,false,[]⟩ :=
 BG mix (E:=CW N) (N:=N) (cfg:=hY) (ci:=⟨128,[],false,false,[]⟩) (ks:=ZK) (AL (fP N (fun _=>rfl)) (AL (Wp N (fun _=>rfl)) (AL (W0 N (fun _=>rfl)) (AL (Qy N (fun _=>rfl)) (AL (ug N (fun _=>rfl)) (AL (nc N (fun _=>rfl)) B9)))))) (c:=ID N) (F:=fun ls=>PE (std (CW N) N) (xOf ls)) (fun ls=>rfl) (fun ls=>qn (std (CW N) N) (xOf ls)) h
def iA:Cfg:={ gam:=[⟨98,[],true,true,[]⟩,⟨101,[],true,true,[]⟩,⟨126,[],true,true,[]⟩,⟨127,[],true,true,[]⟩,⟨128,[],false,false,[]⟩],imm:=false,old:=false }
theorem qx (O:Alg) (x:Ags O):XF (O:=O) Tryz.prog iA false false [true,false] 99 [] (xr x YO 0)=Np O x:=by kernel_rfl
theorem tZ {E:Env} {M:Nat} (N:Nat) (h:∀ ls,E 99 [] ls=Ok N ls):VV Tryz.prog E M ⟨99,[],false,false,[true,false]⟩ :=
 BG mix (E:=C0 N) (N:=N) (cfg:=iA) (ci:=⟨99,[],false,false,[true,false]⟩) (ks:=YO) (AL (LG N (fun _=>rfl)) (AL (Wy N (fun _=>rfl)) (AL (mo N (fun _=>rfl)) (AL (qu N (fun _=>rfl)) (AL (i6 N (fun _=>rfl)) B9))))) (c:=Ok N) (F:=fun ls=>Np (std (C0 N) N) (xOf ls)) (fun ls=>rfl) (fun ls=>qx (std (C0 N) N) (xOf ls)) h
def iP:Cfg:={ gam:=[⟨128,[],false,false,[]⟩,⟨129,[],true,true,[]⟩],imm:=true,old:=true }
theorem qQ (O:Alg) (x:Ags O):XF (O:=O) Tryz.prog iP false false [true,false] 100 [] (xr x YX 0)=O8 O x:=by kernel_rfl
theorem sA {E:Env} {M:Nat} (N:Nat) (h:∀ ls,E 100 [] ls=Ow N ls):VV Tryz.prog E M ⟨100,[],false,false,[true,false]⟩ :=
 BG mix (E:=FK N) (N:=N) (cfg:=iP) (ci:=⟨100,[],false,false,[true,false]⟩) (ks:=YX) (AL (i6 N (fun _=>rfl)) (AL (Zg N (fun _=>rfl)) B9)) (c:=Ow N) (F:=fun ls=>O8 (std (FK N) N) (xOf ls)) (fun ls=>rfl) (fun ls=>qQ (std (FK N) N) (xOf ls)) h
def lP:Cfg:={ gam:=[⟨98,[],true,true,[]⟩,⟨99,[],false,false,[true,false]⟩,⟨100,[],false,false,[true,false]⟩],imm:=false,old:=false }
theorem sU (O:Alg) (x:Ags O):XF (O:=O) Tryz.prog lP false false [true,false] 67 [] (xr x cA 0)=Re O x:=by kernel_rfl
theorem vS {E:Env} {M:Nat} (N:Nat) (h:∀ ls,E 67 [] ls=Q7 N ls):VV Tryz.prog E M ⟨67,[],false,false,[true,false]⟩ :=
 BG mix (E:=Eo N) (N:=N) (cfg:=lP) (ci:=⟨67,[],false,false,[true,false]⟩) (ks:=cA) (AL (LG N (fun _=>rfl)) (AL (tZ N (fun _=>rfl)) (AL (sA N (fun _=>rfl)) B9))) (c:=Q7 N) (F:=fun ls=>Re (std (Eo N) N) (xOf ls)) (fun ls=>rfl) (fun ls=>sU (std (Eo N) N) (xOf ls)) h
def Zz:Cfg:={ gam:=[⟨65,[],true,true,[]⟩,⟨68,[],false,false,[]⟩,⟨98,[],true,true,[]⟩,⟨101,[],true,true,[]⟩],imm:=false,old:=false }
theorem lL (O:Alg) (x:Ags O):XF (O:=O) Tryz.prog Zz true true [] 102 [] (xr x SC 0)=IX O x:=by kernel_rfl
theorem mW:Vd Tryz.prog 102 Ib:=fun N h =>
 BG mix (E:=CP N) (N:=N) (cfg:=Zz) (ci:=⟨102,[],true,true,[]⟩) (ks:=SC) (AL (Wu N (fun _=>rfl)) (AL (Sq N (fun _=>rfl)) (AL (LG N (fun _=>rfl)) (AL (Wy N (fun _=>rfl)) B9)))) (c:=Ib N) (F:=fun ls=>IX (std (CP N) N) (xOf ls)) (fun ls=>rfl) (fun ls=>lL (std (CP N) N) (xOf ls)) h
def aZ:Cfg:={ gam:=[⟨68,[],false,false,[]⟩,⟨98,[],true,true,[]⟩,⟨101,[],true,true,[]⟩,⟨102,[],true,true,[]⟩],imm:=false,old:=false }
theorem mU (O:Alg) (x:Ags O):XF (O:=O) Tryz.prog aZ false false [] 69 [] (xr x UJ 0)=J8 O x:=by kernel_rfl
theorem oJ {E:Env} {M:Nat} (N:Nat) (h:∀ ls,E 69 [] ls=Ji N ls):VV Tryz.prog E M ⟨69,[],false,false,[]⟩ :=
 BG mix (E:=Cd N) (N:=N) (cfg:=aZ) (ci:=⟨69,[],false,false,[]⟩) (ks:=UJ) (AL (Sq N (fun _=>rfl)) (AL (LG N (fun _=>rfl)) (AL (Wy N (fun _=>rfl)) (AL (mW N (fun _=>rfl)) B9)))) (c:=Ji N) (F:=fun ls=>J8 (std (Cd N) N) (xOf ls)) (fun ls=>rfl) (fun ls=>mU (std (Cd N) N) (xOf ls)) h
def ig:Cfg:={ gam:=[⟨64,[],true,true,[]⟩,⟨65,[],true,true,[]⟩,⟨66,[],true,true,[]⟩,⟨67,[],false,false,[true,false]⟩,⟨68,[],false,false,[]⟩,⟨69,[],false,false,[]⟩],imm:=false,old:=false }
theorem qk (O:Alg) (x:Ags O):XF (O:=O) Tryz.prog ig false false [] 36 [] (xr x YU 0)=O9 O x:=by kernel_rfl
theorem tF {E:Env} {M:Nat} (N:Nat) (h:∀ ls,E 36 [] ls=OT N ls):VV Tryz.prog E M ⟨36,[],false,false,[]⟩ :=
 BG mix (E:=CU N) (N:=N) (cfg:=ig) (ci:=⟨36,[],false,false,[]⟩) (ks:=YU) (AL (qS N (fun _=>rfl)) (AL (Wu N (fun _=>rfl)) (AL (fP N (fun _=>rfl)) (AL (vS N (fun _=>rfl)) (AL (Sq N (fun _=>rfl)) (AL (oJ N (fun _=>rfl)) B9)))))) (c:=OT N) (F:=fun ls=>O9 (std (CU N) N) (xOf ls)) (fun ls=>rfl) (fun ls=>qk (std (CU N) N) (xOf ls)) h
def lf:Cfg:={ gam:=[⟨36,[],false,false,[]⟩],imm:=false,old:=false }
theorem tA (O:Alg) (x:Ags O):XF (O:=O) Tryz.prog lf true true [] 16 [] (xr x be 0)=Rf O x:=by kernel_rfl
theorem cN:Vd Tryz.prog 16 CL:=fun N h =>
 BG mix (E:=I3 N) (N:=N) (cfg:=lf) (ci:=⟨16,[],true,true,[]⟩) (ks:=be) (AL (tF N (fun _=>rfl)) B9) (c:=CL N) (F:=fun ls=>Rf (std (I3 N) N) (xOf ls)) (fun ls=>rfl) (fun ls=>tA (std (I3 N) N) (xOf ls)) h
theorem rx:Vd Tryz.prog 38 Nv:=vt mix jD Sz [] g0 rfl (fun _ _=>rfl) fun O x=>by kernel_rfl
theorem u9:Vd Tryz.prog 39 RH:=vt mix lw U9 [] g0 rfl (fun _ _=>rfl) fun O x=>by kernel_rfl
theorem si:Vd Tryz.prog 18 KP:=vt mix j4 S8 [(16,CL),(37,Dt),(38,Nv),(39,RH)] (gs cN (gs cj (gs rx (gs u9 g0)))) rfl (fun _ _=>rfl) fun O x=>by kernel_rfl
theorem sH:Vd Tryz.prog 42 Ka:=vt mix jw TC [(16,CL),(72,Cw),(73,C9)] (gs cN (gs WR (gs X4 g0))) rfl (fun _ _=>rfl) fun O x=>by kernel_rfl
theorem gq:Vd Tryz.prog 24 Dk:=vt mix UB H3 [(42,Ka)] (gs sH g0) rfl (fun _ _=>rfl) fun O x=>by kernel_rfl
theorem nC:Vd Tryz.prog 21 MR:=vt mix Z3 Lr [(16,CL),(18,KP),(24,Dk)] (gs cN (gs si (gs gq g0))) rfl (fun _ _=>rfl) fun O x=>by kernel_rfl
theorem tD:Vd Tryz.prog 22 TA:=vt mix iY jj [] g0 rfl (fun _ _=>rfl) fun O x=>by kernel_rfl
def RQ:Cfg:={ gam:=[⟨9,[],true,true,[]⟩,⟨10,[],false,false,[]⟩,⟨14,[],true,true,[]⟩,⟨20,[],true,true,[]⟩,⟨21,[],true,true,[]⟩,⟨22,[],true,true,[]⟩],imm:=false,old:=false }
theorem aO (O:Alg) (x:Ags O):XF (O:=O) Tryz.prog RQ true true [] 7 [] (xr x J6 0)=D5 O x:=by kernel_rfl
theorem bK:Vd Tryz.prog 7 Dw:=fun N h =>
 BG mix (E:=A2 N) (N:=N) (cfg:=RQ) (ci:=⟨7,[],true,true,[]⟩) (ks:=J6) (AL (qO N (fun _=>rfl)) (AL (vA N (fun _=>rfl)) (AL (bi N (fun _=>rfl)) (AL (iC N (fun _=>rfl)) (AL (nC N (fun _=>rfl)) (AL (tD N (fun _=>rfl)) B9)))))) (c:=Dw N) (F:=fun ls=>D5 (std (A2 N) N) (xOf ls)) (fun ls=>rfl) (fun ls=>aO (std (A2 N) N) (xOf ls)) h
end Go.Px
