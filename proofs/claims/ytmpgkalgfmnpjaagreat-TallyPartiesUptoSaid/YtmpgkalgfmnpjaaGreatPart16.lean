/- Part 16. -/
import Derived.Test.YtmpgkalgfmnpjaaGreatPart07
import Derived.Test.YtmpgkalgfmnpjaaGreatProg
import Derived.Test.YtmpgkalgfmnpjaaGreatPart09
import Derived.KernelRfl
import Derived.WalkKit
import Derived.Lib.Walk
import Derived.BigCall
import Derived.BigGuard
set_option linter.unusedVariables false
set_option linter.unusedSimpArgs false
namespace Go.Px
open Go.Proofs
set_option maxRecDepth 100000
theorem mix:Tryz.prog.follows .mixedOrders=true:=by kernel_rfl
theorem bg:Vd Tryz.prog 11 Di:=vt mix P9 Fe [] g0 rfl (fun _ _=>rfl) fun O x=>by kernel_rfl
theorem K9:Vd Tryz.prog 12 BG:=vt mix Ya LS [] g0 rfl (fun _ _=>rfl) fun O x=>by kernel_rfl
theorem oq:Vd Tryz.prog 27 Iy:=vt mix aH M5 [] g0 rfl (fun _ _=>rfl) fun O x=>by kernel_rfl
theorem ox:Vd Tryz.prog 15 I9:=vt mix aW Mt [(12,BG),(27,Iy)] (gs K9 (gs oq g0)) rfl (fun _ _=>rfl) fun O x=>by kernel_rfl
theorem tV:Vd Tryz.prog 51 L7:=vt mix hO RY [] g0 rfl (fun _ _=>rfl) fun O x=>by kernel_rfl
theorem Vq:Vd Tryz.prog 65 Cm:=vt mix WM We [] g0 rfl (fun _ _=>rfl) fun O x=>by kernel_rfl
theorem kN:Vd Tryz.prog 52 GU:=vt mix WJ Jb [(65,Cm)] (gs Vq g0) rfl (fun _ _=>rfl) fun O x=>by kernel_rfl
theorem mP:Vd Tryz.prog 53 Hj:=vt mix X0 LM [(65,Cm)] (gs Vq g0) rfl (fun _ _=>rfl) fun O x=>by kernel_rfl
theorem C3:Vd Tryz.prog 39 AW:=vt mix au Mb [(51,L7),(52,GU),(53,Hj)] (gs tV (gs kN (gs mP g0))) rfl (fun _ _=>rfl) fun O x=>by kernel_rfl
theorem Y8:Vd Tryz.prog 70 DQ:=fun N h =>
 RB mix (T:=33) (e:=107) (b:=24) Tryz.func70 Tryz.underlying33 (by kernel_rfl) (by decide) (fun O l=>by kernel_rfl) (fun O l=>by kernel_rfl) h
theorem aN:Vd Tryz.prog 63 DX:=vt mix al M0 [(70,DQ)] (gs Y8 g0) rfl (fun _ _=>rfl) fun O x=>by kernel_rfl
theorem tN:Vd Tryz.prog 48 Q4:=vt mix ga RS [(39,AW),(63,DX)] (gs C3 (gs aN g0)) rfl (fun _ _=>rfl) fun O x=>by kernel_rfl
theorem El:Vd Tryz.prog 107 Am:=vt mix TC Sy [] g0 rfl (fun _ _=>rfl) fun O x=>by kernel_rfl
theorem fE:Vd Tryz.prog 108 Ej:=vt mix Sw G0 [(107,Am)] (gs El g0) rfl (fun _ _=>rfl) fun O x=>by kernel_rfl
theorem cy:Vd Tryz.prog 144 D5:=vt mix SF GJ [] g0 rfl (fun _ _=>rfl) fun O x=>by kernel_rfl
theorem HM:Vd Tryz.prog 130 Aw:=vt mix N0 EP [(144,D5)] (gs cy g0) rfl (fun _ _=>rfl) fun O x=>by kernel_rfl
theorem bR:Vd Tryz.prog 109 Dk:=vt mix QH Fh [(107,Am),(130,Aw)] (gs El (gs HM g0)) rfl (fun _ _=>rfl) fun O x=>by kernel_rfl
theorem bU:Vd Tryz.prog 132 Dj:=vt mix QD Ff [(107,Am)] (gs El g0) rfl (fun _ _=>rfl) fun O x=>by kernel_rfl
theorem fR:Vd Tryz.prog 110 Ec:=vt mix S7 G8 [(132,Dj)] (gs bU g0) rfl (fun _ _=>rfl) fun O x=>by kernel_rfl
theorem Pj:Vd Tryz.prog 82 BS:=vt mix V4 Ja [(39,AW),(107,Am),(108,Ej),(109,Dk),(110,Ec)] (gs C3 (gs El (gs fE (gs bR (gs fR g0))))) rfl (fun _ _=>rfl) fun O x=>by kernel_rfl
theorem My:Vd Tryz.prog 90 BT:=vt mix bI Mg [] g0 rfl (fun _ _=>rfl) fun O x=>by kernel_rfl
theorem bO:Vd Tryz.prog 83 DV:=vt mix aS Me [(90,BT)] (gs My g0) rfl (fun _ _=>rfl) fun O x=>by kernel_rfl
theorem oQ:Vd Tryz.prog 84 I1:=vt mix am Mf [] g0 rfl (fun _ _=>rfl) fun O x=>by kernel_rfl
theorem aq:Vd Tryz.prog 71 DZ:=vt mix aa MZ [(39,AW),(82,BS),(83,DV),(84,I1)] (gs C3 (gs Pj (gs bO (gs oQ g0)))) rfl (fun _ _=>rfl) fun O x=>by kernel_rfl
theorem lV:Vd Tryz.prog 85 Ha:=vt mix X7 Lc [] g0 rfl (fun _ _=>rfl) fun O x=>by kernel_rfl
theorem lT:Vd Tryz.prog 86 GP:=vt mix WS OY [] g0 rfl (fun _ _=>rfl) fun O x=>by kernel_rfl
open Go.RowKit Go.Lib in
set_option maxHeartbeats 1000000 in
theorem TO (s:ByteArray) (c:Int) (w:World):Calls Tryz.prog 133 #[.string s,.int .u8 c] w fun e w'=>e=.returned (.int .i64 (Lib.indexByte s.data.toList c.toNat.toUInt8))∧w'=w:=by
 go_enter Tryz.func133,Tryz.ntmps133
 go_wp2
 rw [run_callFunc_extern Tryz.func146 (by kernel_rfl) (by kernel_rfl) (by kernel_rfl) (e:=Extern.BytealgIndexByte.indexByte) (by kernel_rfl),Lib.run_indexByteString]
 simp only [Result.andThen]
 rw [Oper.upon_value]
 go_wp2
 go_ret
 exact ⟨rfl,rfl⟩
theorem VY:Vd Tryz.prog 133 Cg:=fun N h =>
 ss Tryz.func133 (T9:=9) (T5:=5) (T3:=3) rfl rfl Tryz.underlying9 Tryz.underlying5 Tryz.underlying3 (by kernel_rfl) TO h
theorem bT:Vd Tryz.prog 111 Dh:=vt mix QF Fk [(133,Cg)] (gs VY g0) rfl (fun _ _=>rfl) fun O x=>by kernel_rfl
theorem oa:Vd Tryz.prog 112 Fu:=vt mix bC ar [] g0 rfl (fun _ _=>rfl) fun O x=>by kernel_rfl
theorem qz:Vd Tryz.prog 87 KQ:=vt mix dF PT [(111,Dh),(112,Fu)] (gs bT (gs oa g0)) rfl (fun _ _=>rfl) fun O x=>by kernel_rfl
theorem eG:Vd Tryz.prog 113 D8:=vt mix SQ Kr [] g0 rfl (fun _ _=>rfl) fun O x=>by kernel_rfl
theorem iR:Vd Tryz.prog 88 FF:=vt mix UN Id [(113,D8)] (gs eG g0) rfl (fun _ _=>rfl) fun O x=>by kernel_rfl
theorem aX:Vd Tryz.prog 72 Da:=vt mix bE Ir [(85,Ha),(86,GP),(87,KQ),(88,FF)] (gs lV (gs lT (gs qz (gs iR g0)))) rfl (fun _ _=>rfl) fun O x=>by kernel_rfl
theorem EN:Vd Tryz.prog 114 AX:=fun N h =>
 RB mix (T:=64) (e:=144) (b:=1) Tryz.func114 Tryz.underlying64 (by kernel_rfl) (by decide) (fun O l=>by kernel_rfl) (fun O l=>by kernel_rfl) h
theorem GL:Vd Tryz.prog 115 Ak:=fun N h =>
 RB mix (T:=30) (e:=3) (b:=8) Tryz.func115 Tryz.underlying30 (by kernel_rfl) (by decide) (fun O l=>by kernel_rfl) (fun O l=>by kernel_rfl) h
theorem Fi:Vd Tryz.prog 116 Af:=fun N h =>
 RB mix (T:=65) (e:=4) (b:=1) Tryz.func116 Tryz.underlying65 (by kernel_rfl) (by decide) (fun O l=>by kernel_rfl) (fun O l=>by kernel_rfl) h
theorem Cp:Vd Tryz.prog 89 AR:=vt mix WT J3 [(114,AX),(115,Ak),(116,Af)] (gs EN (gs GL (gs Fi g0))) rfl (fun _ _=>rfl) fun O x=>by kernel_rfl
theorem oO:Vd Tryz.prog 73 I3:=vt mix aY M3 [(63,DX),(89,AR)] (gs aN (gs Cp g0)) rfl (fun _ _=>rfl) fun O x=>by kernel_rfl
theorem Sk:Vd Tryz.prog 94 B7:=vt mix ao ND [] g0 rfl (fun _ _=>rfl) fun O x=>by kernel_rfl
theorem SG:Vd Tryz.prog 120 Bv:=vt mix R4 GE [] g0 rfl (fun _ _=>rfl) fun O x=>by kernel_rfl
theorem kr:Vd Tryz.prog 95 GR:=vt mix WU Je [(71,DZ),(90,BT),(94,B7),(120,Bv)] (gs aq (gs My (gs Sk (gs SG g0)))) rfl (fun _ _=>rfl) fun O x=>by kernel_rfl
theorem lJ:Vd Tryz.prog 117 GQ:=vt mix Vj Jl [(39,AW),(107,Am)] (gs C3 (gs El g0)) rfl (fun _ _=>rfl) fun O x=>by kernel_rfl
theorem lX:Vd Tryz.prog 118 HJ:=vt mix Xn LR [(90,BT),(94,B7)] (gs My (gs Sk g0)) rfl (fun _ _=>rfl) fun O x=>by kernel_rfl
theorem fM:Vd Tryz.prog 148 Eb:=vt mix S5 Ln [] g0 rfl (fun _ _=>rfl) fun O x=>by kernel_rfl
theorem ke:Vd Tryz.prog 134 GN:=vt mix WD Jk [(148,Eb)] (gs fM g0) rfl (fun _ _=>rfl) fun O x=>by kernel_rfl
theorem Hy:Vd Tryz.prog 180 A5:=vt mix cV Pr [(114,AX),(115,Ak),(116,Af)] (gs EN (gs GL (gs Fi g0))) rfl (fun _ _=>rfl) fun O x=>by kernel_rfl
theorem iT:Vd Tryz.prog 206 C7:=vt mix U9 NL [] g0 rfl (fun _ _=>rfl) fun O x=>by kernel_rfl
theorem X6:Vd Tryz.prog 181 CB:=vt mix YB FB [(206,C7)] (gs iT g0) rfl (fun _ _=>rfl) fun O x=>by kernel_rfl
theorem Hc:Vd Tryz.prog 182 A3:=vt mix YP LY [] g0 rfl (fun _ _=>rfl) fun O x=>by kernel_rfl
theorem oN:Vd Tryz.prog 149 JB:=vt mix bA Mr [(180,A5),(181,CB),(182,A3)] (gs Hy (gs X6 (gs Hc g0))) rfl (fun _ _=>rfl) fun O x=>by kernel_rfl
theorem XP:Vd Tryz.prog 183 Cy:=vt mix f9 Qw [(114,AX),(115,Ak),(116,Af)] (gs EN (gs GL (gs Fi g0))) rfl (fun _ _=>rfl) fun O x=>by kernel_rfl
theorem Sn:Vd Tryz.prog 207 B6:=vt mix aV Mi [] g0 rfl (fun _ _=>rfl) fun O x=>by kernel_rfl
theorem qW:Vd Tryz.prog 208 Kt:=vt mix dU PK [(39,AW),(207,B6)] (gs C3 (gs Sn g0)) rfl (fun _ _=>rfl) fun O x=>by kernel_rfl
theorem tI:Vd Tryz.prog 184 MM:=vt mix fj RF [(39,AW),(130,Aw),(207,B6),(208,Kt)] (gs C3 (gs HM (gs Sn (gs qW g0)))) rfl (fun _ _=>rfl) fun O x=>by kernel_rfl
theorem rV:Vd Tryz.prog 150 KB:=vt mix dP Ob [(183,Cy),(184,MM)] (gs XP (gs tI g0)) rfl (fun _ _=>rfl) fun O x=>by kernel_rfl
theorem bi:Vd Tryz.prog 55 Dg:=vt mix P8 Fd [] g0 rfl (fun _ _=>rfl) fun O x=>by kernel_rfl
theorem Ua:Vd Tryz.prog 42 CR:=vt mix UF IV [(55,Dg)] (gs bi g0) rfl (fun _ _=>rfl) fun O x=>by kernel_rfl
theorem bc:Vd Tryz.prog 43 Df:=vt mix QC Fc [] g0 rfl (fun _ _=>rfl) fun O x=>by kernel_rfl
theorem Gz:Vd Tryz.prog 30 A2:=vt mix Sv G9 [(42,CR),(43,Df)] (gs Ua (gs bc g0)) rfl (fun _ _=>rfl) fun O x=>by kernel_rfl
theorem U5:Vd Tryz.prog 31 CW:=vt mix Ug VG [] g0 rfl (fun _ _=>rfl) fun O x=>by kernel_rfl
theorem PP:Vd Tryz.prog 163 BR:=vt mix V6 EM [(181,CB)] (gs X6 g0) rfl (fun _ _=>rfl) fun O x=>by kernel_rfl
theorem Iu:Vd Tryz.prog 192 A8:=vt mix aj Ml [] g0 rfl (fun _ _=>rfl) fun O x=>by kernel_rfl
theorem IX:Vd Tryz.prog 193 A7:=vt mix UR Ic [(192,A8)] (gs Iu g0) rfl (fun _ _=>rfl) fun O x=>by kernel_rfl
theorem lA:Vd Tryz.prog 219 GM:=vt mix WE Jx [] g0 rfl (fun _ _=>rfl) fun O x=>by kernel_rfl
theorem oV:Vd Tryz.prog 209 Iq:=vt mix aw Md [(192,A8),(193,A7),(219,GM)] (gs Iu (gs IX (gs lA g0))) rfl (fun _ _=>rfl) fun O x=>by kernel_rfl
theorem Sz:Vd Tryz.prog 224 Bo:=vt mix S4 TD [] g0 rfl (fun _ _=>rfl) fun O x=>by kernel_rfl
theorem lY:Vd Tryz.prog 220 HR:=vt mix Yj K4 [(224,Bo)] (gs Sz g0) rfl (fun _ _=>rfl) fun O x=>by kernel_rfl
theorem di:Vd Tryz.prog 225 D3:=vt mix SI GS [] g0 rfl (fun _ _=>rfl) fun O x=>by kernel_rfl
theorem Yl:Vd Tryz.prog 221 C9:=vt mix Ne EJ [(225,D3)] (gs di g0) rfl (fun _ _=>rfl) fun O x=>by kernel_rfl
theorem eO:Vd Tryz.prog 226 D2:=vt mix Rk F9 [] g0 rfl (fun _ _=>rfl) fun O x=>by kernel_rfl
theorem i7:Vd Tryz.prog 222 FC:=vt mix UK IC [(224,Bo),(226,D2)] (gs Sz (gs eO g0)) rfl (fun _ _=>rfl) fun O x=>by kernel_rfl
theorem XG:Vd Tryz.prog 227 Cx:=vt mix MO Dw [] g0 rfl (fun _ _=>rfl) fun O x=>by kernel_rfl
theorem ZY:Vd Tryz.prog 223 DK:=vt mix Ph Eo [(227,Cx)] (gs XG g0) rfl (fun _ _=>rfl) fun O x=>by kernel_rfl
theorem ZD:Vd Tryz.prog 210 DS:=vt mix Of En [(220,HR),(221,C9),(222,FC),(223,DK)] (gs lY (gs Yl (gs i7 (gs ZY g0)))) rfl (fun _ _=>rfl) fun O x=>by kernel_rfl
theorem oL:Vd Tryz.prog 211 I7:=vt mix ay Mq [(192,A8),(193,A7)] (gs Iu (gs IX g0)) rfl (fun _ _=>rfl) fun O x=>by kernel_rfl
theorem fI:Vd Tryz.prog 185 EZ:=vt mix TF G7 [(42,CR),(163,BR),(209,Iq),(210,DS),(211,I7)] (gs Ua (gs PP (gs oV (gs ZD (gs oL g0))))) rfl (fun _ _=>rfl) fun O x=>by kernel_rfl
theorem qb:Vd Tryz.prog 186 J4:=vt mix eE OJ [(180,A5),(182,A3)] (gs Hy (gs Hc g0)) rfl (fun _ _=>rfl) fun O x=>by kernel_rfl
theorem ru:Vd Tryz.prog 187 Ke:=vt mix cH Od [(39,AW),(130,Aw),(183,Cy),(207,B6)] (gs C3 (gs HM (gs XP (gs Sn g0)))) rfl (fun _ _=>rfl) fun O x=>by kernel_rfl
theorem kh:Vd Tryz.prog 188 GB:=vt mix Vo Jh [(180,A5)] (gs Hy g0) rfl (fun _ _=>rfl) fun O x=>by kernel_rfl
theorem mR:Vd Tryz.prog 151 Hp:=vt mix X4 LW [(30,A2),(31,CW),(89,AR),(185,EZ),(186,J4),(187,Ke),(188,GB)] (gs Gz (gs U5 (gs Cp (gs fI (gs qb (gs ru (gs kh g0))))))) rfl (fun _ _=>rfl) fun O x=>by kernel_rfl
theorem de:Vd Tryz.prog 189 EF:=vt mix cR O5 [(163,BR),(182,A3)] (gs PP (gs Hc g0)) rfl (fun _ _=>rfl) fun O x=>by kernel_rfl
theorem jJ:Vd Tryz.prog 152 FN:=vt mix Uv Ia [(180,A5),(182,A3),(189,EF)] (gs Hy (gs Hc (gs de g0))) rfl (fun _ _=>rfl) fun O x=>by kernel_rfl
theorem mM:Vd Tryz.prog 153 Ho:=vt mix Ye K6 [(180,A5),(189,EF)] (gs Hy (gs de g0)) rfl (fun _ _=>rfl) fun O x=>by kernel_rfl
theorem bN:Vd Tryz.prog 164 C4:=vt mix ax F0 [] g0 rfl (fun _ _=>rfl) fun O x=>by kernel_rfl
theorem kO:Vd Tryz.prog 154 GA:=vt mix Wf J1 [(164,C4),(180,A5),(182,A3)] (gs bN (gs Hy (gs Hc g0))) rfl (fun _ _=>rfl) fun O x=>by kernel_rfl
theorem XM:Vd Tryz.prog 191 Cu:=vt mix gF RW [(114,AX),(115,Ak),(116,Af)] (gs EN (gs GL (gs Fi g0))) rfl (fun _ _=>rfl) fun O x=>by kernel_rfl
theorem kZ:Vd Tryz.prog 155 F6:=vt mix Wa J0 [(191,Cu)] (gs XM g0) rfl (fun _ _=>rfl) fun O x=>by kernel_rfl
theorem mp:Vd Tryz.prog 156 Ht:=vt mix Xj LT [(191,Cu),(192,A8),(193,A7)] (gs XM (gs Iu (gs IX g0))) rfl (fun _ _=>rfl) fun O x=>by kernel_rfl
theorem da:Vd Tryz.prog 157 D0:=vt mix R0 GT [(191,Cu),(192,A8),(193,A7)] (gs XM (gs Iu (gs IX g0))) rfl (fun _ _=>rfl) fun O x=>by kernel_rfl
theorem jo:Vd Tryz.prog 158 F8:=vt mix Wh Jv [(39,AW),(183,Cy)] (gs C3 (gs XP g0)) rfl (fun _ _=>rfl) fun O x=>by kernel_rfl
theorem fP:Vd Tryz.prog 159 Ef:=vt mix S6 G4 [(89,AR)] (gs Cp g0) rfl (fun _ _=>rfl) fun O x=>by kernel_rfl
theorem S8:Vd Tryz.prog 137 CJ:=vt mix TG G1 [(89,AR)] (gs Cp g0) rfl (fun _ _=>rfl) fun O x=>by kernel_rfl
theorem fK:Vd Tryz.prog 160 Ei:=vt mix S0 G2 [(89,AR),(137,CJ)] (gs Cp (gs S8 g0)) rfl (fun _ _=>rfl) fun O x=>by kernel_rfl
theorem jD:Vd Tryz.prog 161 FV:=vt mix Uc FK [(89,AR)] (gs Cp g0) rfl (fun _ _=>rfl) fun O x=>by kernel_rfl
theorem jh:Vd Tryz.prog 54 GF:=vt mix Vt WG [] g0 rfl (fun _ _=>rfl) fun O x=>by kernel_rfl
theorem jG:Vd Tryz.prog 162 FM:=vt mix VB IK [(54,GF),(89,AR)] (gs jh (gs Cp g0)) rfl (fun _ _=>rfl) fun O x=>by kernel_rfl
theorem fV:Vd Tryz.prog 135 Ek:=vt mix TB Eg [(149,JB),(150,KB),(151,Hp),(152,FN),(153,Ho),(154,GA),(155,F6),(156,Ht),(157,D0),(158,F8),(159,Ef),(160,Ei),(161,FV),(162,FM)] (gs oN (gs rV (gs mR (gs jJ (gs mM (gs kO (gs kZ (gs mp (gs da (gs jo (gs fP (gs fK (gs jD (gs jG g0)))))))))))))) rfl (fun _ _=>rfl) fun O x=>by kernel_rfl
theorem jL:Vd Tryz.prog 136 Dn:=vt mix UM IY [(82,BS),(163,BR),(164,C4)] (gs Pj (gs PP (gs bN g0))) rfl (fun _ _=>rfl) fun O x=>by kernel_rfl
theorem l8:Vd Tryz.prog 119 Hf:=vt mix Xx Lb [(72,Da),(82,BS),(89,AR),(134,GN),(135,Ek),(136,Dn)] (gs aX (gs Pj (gs Cp (gs ke (gs fV (gs jL g0)))))) rfl (fun _ _=>rfl) fun O x=>by kernel_rfl
theorem rF:Vd Tryz.prog 64 PG:=vt mix eY O7 [(71,DZ),(72,Da),(73,I3),(83,DV),(90,BT),(94,B7),(95,GR),(117,GQ),(118,HJ),(119,Hf),(120,Bv),(137,CJ)] (gs aq (gs aX (gs oO (gs bO (gs My (gs Sk (gs kr (gs lJ (gs lX (gs l8 (gs SG (gs S8 g0)))))))))))) rfl (fun _ _=>rfl) fun O x=>by kernel_rfl
def jZ:Cfg:={ gam:=[⟨64,[],true,true,[]⟩],imm:=false,old:=false }
theorem tn (O:Alg) (x:Ags O):XF (O:=O) Tryz.prog jZ false false [] 49 [] (xr x Zn 0)=Ps O x:=by kernel_rfl
theorem uy {E:Env} {M:Nat} (N:Nat) (h:∀ ls,E 49 [] ls=O2 N ls):VV Tryz.prog E M ⟨49,[],false,false,[]⟩ :=
 BF mix (E:=Hd N) (N:=N) (cfg:=jZ) (ci:=⟨49,[],false,false,[]⟩) (ks:=Zn) (AK (rF N (fun _=>rfl)) Bx) (c:=O2 N) (F:=fun ls=>Ps (std (Hd N) N) (xOf ls)) (fun ls=>rfl) (fun ls=>tn (std (Hd N) N) (xOf ls)) h
theorem kg:Vd Tryz.prog 50 Jn:=vt mix WO Jd [(30,A2)] (gs Gz g0) rfl (fun _ _=>rfl) fun O x=>by kernel_rfl
def kW:Cfg:={ gam:=[⟨48,[],true,true,[]⟩,⟨49,[],false,false,[]⟩,⟨50,[],true,true,[]⟩],imm:=false,old:=true,ie:=[77,27,3,107,45,67,144,4,5,124,140,59,73,190] }
theorem sV (O:Alg) (x:Ags O):XF (O:=O) Tryz.prog kW false false [] 38 [] (xr x Ys 0)=O3 O x:=by kernel_rfl
theorem u0 {E:Env} {M:Nat} (N:Nat) (h:∀ ls,E 38 [] ls=OG N ls):VV Tryz.prog E M ⟨38,[],false,false,[]⟩ :=
 BF mix (E:=D6 N) (N:=N) (cfg:=kW) (ci:=⟨38,[],false,false,[]⟩) (ks:=Ys) (AK (tN N (fun _=>rfl)) (AK (uy N (fun _=>rfl)) (AK (kg N (fun _=>rfl)) Bx))) (c:=OG N) (F:=fun ls=>O3 (std (D6 N) N) (xOf ls)) (fun ls=>rfl) (fun ls=>sV (std (D6 N) N) (xOf ls)) h
def cm:Cfg:={ gam:=[⟨38,[],false,false,[]⟩],imm:=false,old:=false }
theorem oU (O:Alg) (x:Ags O):XF (O:=O) Tryz.prog cm false false [] 22 [] (xr x Up 0)=KO O x:=by kernel_rfl
theorem qJ {E:Env} {M:Nat} (N:Nat) (h:∀ ls,E 22 [] ls=Kw N ls):VV Tryz.prog E M ⟨22,[],false,false,[]⟩ :=
 BF mix (E:=E9 N) (N:=N) (cfg:=cm) (ci:=⟨22,[],false,false,[]⟩) (ks:=Up) (AK (u0 N (fun _=>rfl)) Bx) (c:=Kw N) (F:=fun ls=>KO (std (E9 N) N) (xOf ls)) (fun ls=>rfl) (fun ls=>oU (std (E9 N) N) (xOf ls)) h
def gt:Cfg:={ gam:=[⟨22,[],false,false,[]⟩,⟨39,[],true,true,[]⟩],imm:=false,old:=false }
theorem qk (O:Alg) (x:Ags O):XF (O:=O) Tryz.prog gt true true [] 23 [] (xr x W3 0)=L1 O x:=by kernel_rfl
theorem gm:Vd Tryz.prog 23 Dx:=fun N h =>
 BF mix (E:=ES N) (N:=N) (cfg:=gt) (ci:=⟨23,[],true,true,[]⟩) (ks:=W3) (AK (qJ N (fun _=>rfl)) (AK (C3 N (fun _=>rfl)) Bx)) (c:=Dx N) (F:=fun ls=>L1 (std (ES N) N) (xOf ls)) (fun ls=>rfl) (fun ls=>qk (std (ES N) N) (xOf ls)) h
theorem sj:Vd Tryz.prog 29 MQ:=vt mix f7 Q7 [] g0 rfl (fun _ _=>rfl) fun O x=>by kernel_rfl
theorem sU:Vd Tryz.prog 32 JI:=vt mix gV Q0 [] g0 rfl (fun _ _=>rfl) fun O x=>by kernel_rfl
theorem mC:Vd Tryz.prog 17 E6:=vt mix YO LP [(12,BG),(15,I9),(23,Dx),(29,MQ),(30,A2),(31,CW),(32,JI)] (gs K9 (gs ox (gs gm (gs sj (gs Gz (gs U5 (gs sU g0))))))) rfl (fun _ _=>rfl) fun O x=>by kernel_rfl
theorem Zr:Vd Tryz.prog 19 DG:=vt mix Pt Et [] g0 rfl (fun _ _=>rfl) fun O x=>by kernel_rfl
theorem V2:Vd Tryz.prog 20 Co:=vt mix WH Jp [(12,BG),(23,Dx),(30,A2)] (gs K9 (gs gm (gs Gz g0))) rfl (fun _ _=>rfl) fun O x=>by kernel_rfl
theorem uC:Vd Tryz.prog 25 MF:=vt mix gu gC [] g0 rfl (fun _ _=>rfl) fun O x=>by kernel_rfl
theorem tu:Vd Tryz.prog 41 Wt:=vt mix gb fh [] g0 rfl (fun _ _=>rfl) fun O x=>by kernel_rfl
theorem wV:Vd Tryz.prog 26 R1:=vt mix mr nS [(41,Wt)] (gs tu g0) rfl (fun _ _=>rfl) fun O x=>by kernel_rfl
theorem tY:Vd Tryz.prog 9 L8:=vt mix gQ RH [(11,Di),(12,BG),(17,E6),(19,DG),(20,Co),(25,MF),(26,R1)] (gs bg (gs K9 (gs mC (gs Zr (gs V2 (gs uC (gs wV g0))))))) rfl (fun _ _=>rfl) fun O x=>by kernel_rfl
def mz:Cfg:={ gam:=[],imm:=false,old:=false }
theorem u6 (O:Alg) (x:Ags O):XF (O:=O) Tryz.prog mz false false [] 10 [] (xr x dR 0)=SK O x:=by kernel_rfl
theorem wn {E:Env} {M:Nat} (N:Nat) (h:∀ ls,E 10 [] ls=R3 N ls):VV Tryz.prog E M ⟨10,[],false,false,[]⟩ :=
 BF mix (E:=ML N) (N:=N) (cfg:=mz) (ci:=⟨10,[],false,false,[]⟩) (ks:=dR) Bx (c:=R3 N) (F:=fun ls=>SK (std (ML N) N) (xOf ls)) (fun ls=>rfl) (fun ls=>u6 (std (ML N) N) (xOf ls)) h
theorem rR:Vd Tryz.prog 13 Kv:=vt mix cP Pm [] g0 rfl (fun _ _=>rfl) fun O x=>by kernel_rfl
theorem wB:Vd Tryz.prog 56 PN:=vt mix lB Ti [] g0 rfl (fun _ _=>rfl) fun O x=>by kernel_rfl
theorem yk:Vd Tryz.prog 57 UB:=vt mix sA sK [] g0 rfl (fun _ _=>rfl) fun O x=>by kernel_rfl
theorem Dv:Vd Tryz.prog 44 Ai:=vt mix gj Q6 [(56,PN),(57,UB)] (gs wB (gs yk g0)) rfl (fun _ _=>rfl) fun O x=>by kernel_rfl
theorem fc:Vd Tryz.prog 66 E1:=vt mix iA Qz [] g0 rfl (fun _ _=>rfl) fun O x=>by kernel_rfl
theorem xT:Vd Tryz.prog 58 Vx:=vt mix nH V9 [(44,Ai),(66,E1)] (gs Dv (gs fc g0)) rfl (fun _ _=>rfl) fun O x=>by kernel_rfl
theorem CG:Vd Tryz.prog 122 AQ:=vt mix gG RZ [] g0 rfl (fun _ _=>rfl) fun O x=>by kernel_rfl
theorem Wz:Vd Tryz.prog 96 DF:=vt mix gS RX [(122,AQ)] (gs CG g0) rfl (fun _ _=>rfl) fun O x=>by kernel_rfl
theorem sW:Vd Tryz.prog 76 RV:=vt mix gD RI [(66,E1),(96,DF)] (gs fc (gs Wz g0)) rfl (fun _ _=>rfl) fun O x=>by kernel_rfl
theorem iG:Vd Tryz.prog 138 FW:=vt mix rW qQ [] g0 rfl (fun _ _=>rfl) fun O x=>by kernel_rfl
theorem xX:Vd Tryz.prog 139 SN:=vt mix mw WY [(138,FW)] (gs iG g0) rfl (fun _ _=>rfl) fun O x=>by kernel_rfl
theorem Q8:Vd Tryz.prog 141 Bj:=vt mix gp JF [] g0 rfl (fun _ _=>rfl) fun O x=>by kernel_rfl
theorem oc:Vd Tryz.prog 140 JE:=vt mix bM MX [(141,Bj)] (gs Q8 g0) rfl (fun _ _=>rfl) fun O x=>by kernel_rfl
theorem W5:Vd Tryz.prog 123 Cs:=vt mix hZ RQ [(44,Ai),(138,FW),(139,SN),(140,JE)] (gs Dv (gs iG (gs xX (gs oc g0)))) rfl (fun _ _=>rfl) fun O x=>by kernel_rfl
theorem L9:Vd Tryz.prog 102 CC:=vt mix fe Q1 [] g0 rfl (fun _ _=>rfl) fun O x=>by kernel_rfl
theorem dK:Vd Tryz.prog 124 FU:=vt mix cO Pa [(102,CC)] (gs L9 g0) rfl (fun _ _=>rfl) fun O x=>by kernel_rfl
theorem lQ:Vd Tryz.prog 97 GO:=vt mix WC Jq [(123,Cs),(124,FU)] (gs W5 (gs dK g0)) rfl (fun _ _=>rfl) fun O x=>by kernel_rfl
theorem XY:Vd Tryz.prog 77 Eu:=vt mix gZ RO [(44,Ai),(97,GO)] (gs Dv (gs lQ g0)) rfl (fun _ _=>rfl) fun O x=>by kernel_rfl
theorem sN:Vd Tryz.prog 98 Kk:=vt mix bz PD [] g0 rfl (fun _ _=>rfl) fun O x=>by kernel_rfl
theorem vT:Vd Tryz.prog 99 OX:=vt mix lL Tt [] g0 rfl (fun _ _=>rfl) fun O x=>by kernel_rfl
theorem yi:Vd Tryz.prog 100 Uo:=vt mix pP iS [] g0 rfl (fun _ _=>rfl) fun O x=>by kernel_rfl
theorem ya:Vd Tryz.prog 125 Ub:=vt mix qe jO [] g0 rfl (fun _ _=>rfl) fun O x=>by kernel_rfl
theorem td:Vd Tryz.prog 101 Lx:=vt mix hP Rh [(125,Ub)] (gs ya g0) rfl (fun _ _=>rfl) fun O x=>by kernel_rfl
theorem gU:Vd Tryz.prog 78 JO:=vt mix ge Rg [(98,Kk),(99,OX),(100,Uo),(101,Lx)] (gs sN (gs vT (gs yi (gs td g0)))) rfl (fun _ _=>rfl) fun O x=>by kernel_rfl
theorem XO:Vd Tryz.prog 105 Ew:=vt mix gn RK [] g0 rfl (fun _ _=>rfl) fun O x=>by kernel_rfl
def j9:Cfg:={ gam:=[],imm:=false,old:=false }
theorem tp (O:Alg) (x:Ags O):XF (O:=O) Tryz.prog j9 false false [] 80 [] (xr x Zq 0)=Og O x:=by kernel_rfl
theorem Tf {E:Env} {M:Nat} (N:Nat) (h:∀ ls,E 80 [] ls=DP N ls):VV Tryz.prog E M ⟨80,[],false,false,[]⟩ :=
 BF mix (E:=KV N) (N:=N) (cfg:=j9) (ci:=⟨80,[],false,false,[]⟩) (ks:=Zq) Bx (c:=DP N) (F:=fun ls=>Og (std (KV N) N) (xOf ls)) (fun ls=>rfl) (fun ls=>tp (std (KV N) N) (xOf ls)) h
def ah:Cfg:={ gam:=[⟨77,[],true,true,[]⟩,⟨80,[],false,false,[]⟩,⟨124,[],true,true,[]⟩],imm:=false,old:=false }
theorem mZ (O:Alg) (x:Ags O):XF (O:=O) Tryz.prog ah true true [] 126 [] (xr x Sl 0)=I8 O x:=by kernel_rfl
theorem nz:Vd Tryz.prog 126 JD:=fun N h =>
 BF mix (E:=Cl N) (N:=N) (cfg:=ah) (ci:=⟨126,[],true,true,[]⟩) (ks:=Sl) (AK (XY N (fun _=>rfl)) (AK (Tf N (fun _=>rfl)) (AK (dK N (fun _=>rfl)) Bx))) (c:=JD N) (F:=fun ls=>I8 (std (Cl N) N) (xOf ls)) (fun ls=>rfl) (fun ls=>mZ (std (Cl N) N) (xOf ls)) h
theorem tA:Vd Tryz.prog 127 Rd:=vt mix gI RD [(44,Ai),(138,FW)] (gs Dv (gs iG g0)) rfl (fun _ _=>rfl) fun O x=>by kernel_rfl
theorem aR:Vd Tryz.prog 129 Fz:=vt mix aM Mz [(96,DF)] (gs Wz g0) rfl (fun _ _=>rfl) fun O x=>by kernel_rfl
theorem Po:Vd Tryz.prog 194 Bi:=vt mix dC Pl [] g0 rfl (fun _ _=>rfl) fun O x=>by kernel_rfl
theorem v9:Vd Tryz.prog 165 Tk:=vt mix kQ Tu [(122,AQ),(141,Bj),(194,Bi)] (gs CG (gs Q8 (gs Po g0))) rfl (fun _ _=>rfl) fun O x=>by kernel_rfl
theorem HC:Vd Tryz.prog 204 A4:=vt mix Xu LL [] g0 rfl (fun _ _=>rfl) fun O x=>by kernel_rfl
theorem Ud:Vd Tryz.prog 212 CT:=vt mix cC PW [] g0 rfl (fun _ _=>rfl) fun O x=>by kernel_rfl
theorem um:Vd Tryz.prog 213 O0:=vt mix kt TN [(44,Ai),(212,CT)] (gs Dv (gs Ud g0)) rfl (fun _ _=>rfl) fun O x=>by kernel_rfl
theorem nV:Vd Tryz.prog 214 H8:=vt mix nv Wj [] g0 rfl (fun _ _=>rfl) fun O x=>by kernel_rfl
theorem xL:Vd Tryz.prog 195 SC:=vt mix nJ Vw [(44,Ai),(204,A4),(212,CT),(213,O0),(214,H8)] (gs Dv (gs HC (gs Ud (gs um (gs nV g0))))) rfl (fun _ _=>rfl) fun O x=>by kernel_rfl
theorem u5:Vd Tryz.prog 166 TP:=vt mix lG TI [(122,AQ),(195,SC)] (gs CG (gs xL g0)) rfl (fun _ _=>rfl) fun O x=>by kernel_rfl
theorem tc:Vd Tryz.prog 35 RG:=vt mix gr fx [] g0 rfl (fun _ _=>rfl) fun O x=>by kernel_rfl
theorem yR:Vd Tryz.prog 68 U8:=vt mix pp jC [] g0 rfl (fun _ _=>rfl) fun O x=>by kernel_rfl
theorem mJ:Vd Tryz.prog 69 H0:=vt mix YH LB [] g0 rfl (fun _ _=>rfl) fun O x=>by kernel_rfl
theorem gw:Vd Tryz.prog 60 Gi:=vt mix gA RU [(68,U8),(69,H0)] (gs yR (gs mJ g0)) rfl (fun _ _=>rfl) fun O x=>by kernel_rfl
theorem lf:Vd Tryz.prog 61 Hz:=vt mix YN LI [] g0 rfl (fun _ _=>rfl) fun O x=>by kernel_rfl
theorem tW:Vd Tryz.prog 62 Ls:=vt mix gy Q2 [] g0 rfl (fun _ _=>rfl) fun O x=>by kernel_rfl
theorem eF:Vd Tryz.prog 46 FL:=vt mix bv PQ [(60,Gi),(61,Hz),(62,Ls)] (gs gw (gs lf (gs tW g0))) rfl (fun _ _=>rfl) fun O x=>by kernel_rfl
theorem UL:Vd Tryz.prog 177 CU:=vt mix cj Hk [(141,Bj)] (gs Q8 g0) rfl (fun _ _=>rfl) fun O x=>by kernel_rfl
theorem O4:Vd Tryz.prog 203 Bh:=vt mix ct ON [] g0 rfl (fun _ _=>rfl) fun O x=>by kernel_rfl
theorem oF:Vd Tryz.prog 215 I4:=vt mix aL M8 [] g0 rfl (fun _ _=>rfl) fun O x=>by kernel_rfl
theorem tQ:Vd Tryz.prog 196 Qx:=vt mix gE Q5 [(203,Bh),(204,A4),(215,I4)] (gs O4 (gs HC (gs oF g0))) rfl (fun _ _=>rfl) fun O x=>by kernel_rfl
theorem mn:Vd Tryz.prog 216 HU:=vt mix Xv LH [] g0 rfl (fun _ _=>rfl) fun O x=>by kernel_rfl
theorem yv:Vd Tryz.prog 217 Uj:=vt mix rP Z6 [] g0 rfl (fun _ _=>rfl) fun O x=>by kernel_rfl
theorem rM:Vd Tryz.prog 218 J9:=vt mix dM PA [] g0 rfl (fun _ _=>rfl) fun O x=>by kernel_rfl
theorem md:Vd Tryz.prog 197 LG:=vt mix Yr K0 [(216,HU),(217,Uj),(218,J9)] (gs mn (gs yv (gs rM g0))) rfl (fun _ _=>rfl) fun O x=>by kernel_rfl
theorem tX:Vd Tryz.prog 198 RL:=vt mix gY Qy [(203,Bh),(204,A4)] (gs O4 (gs HC g0)) rfl (fun _ _=>rfl) fun O x=>by kernel_rfl
theorem cE:Vd Tryz.prog 201 FQ:=vt mix eI OL [(122,AQ)] (gs CG g0) rfl (fun _ _=>rfl) fun O x=>by kernel_rfl
theorem wZ:Vd Tryz.prog 199 Wg:=vt mix mt WZ [(122,AQ),(194,Bi),(201,FQ)] (gs CG (gs Po (gs cE g0))) rfl (fun _ _=>rfl) fun O x=>by kernel_rfl
theorem wN:Vd Tryz.prog 200 TT:=vt mix kb TH [(44,Ai),(122,AQ),(212,CT),(214,H8)] (gs Dv (gs CG (gs Ud (gs nV g0)))) rfl (fun _ _=>rfl) fun O x=>by kernel_rfl
def jX:Cfg:={ gam:=[⟨35,[],true,true,[]⟩,⟨46,[],true,true,[]⟩,⟨60,[],true,true,[]⟩,⟨177,[],true,true,[]⟩,⟨196,[],true,true,[]⟩,⟨197,[],true,true,[]⟩,⟨198,[],true,true,[]⟩,⟨199,[],true,true,[]⟩,⟨200,[],true,true,[]⟩,⟨201,[],true,true,[]⟩],imm:=false,old:=false }
theorem tg (O:Alg) (x:Ags O):XF (O:=O) Tryz.prog jX false false [] 167 [] (xr x ZQ 0)=Pd O x:=by kernel_rfl
theorem ut {E:Env} {M:Nat} (N:Nat) (h:∀ ls,E 167 [] ls=PM N ls):VV Tryz.prog E M ⟨167,[],false,false,[]⟩ :=
 BF mix (E:=BU N) (N:=N) (cfg:=jX) (ci:=⟨167,[],false,false,[]⟩) (ks:=ZQ) (AK (tc N (fun _=>rfl)) (AK (eF N (fun _=>rfl)) (AK (gw N (fun _=>rfl)) (AK (UL N (fun _=>rfl)) (AK (tQ N (fun _=>rfl)) (AK (md N (fun _=>rfl)) (AK (tX N (fun _=>rfl)) (AK (wZ N (fun _=>rfl)) (AK (wN N (fun _=>rfl)) (AK (cE N (fun _=>rfl)) Bx)))))))))) (c:=PM N) (F:=fun ls=>Pd (std (BU N) N) (xOf ls)) (fun ls=>rfl) (fun ls=>tg (std (BU N) N) (xOf ls)) h
theorem fY:Vd Tryz.prog 202 Ez:=vt mix fk Q9 [(177,CU),(194,Bi)] (gs UL (gs Po g0)) rfl (fun _ _=>rfl) fun O x=>by kernel_rfl
theorem ny:Vd Tryz.prog 168 Mn:=vt mix bG M2 [(122,AQ),(202,Ez)] (gs CG (gs fY g0)) rfl (fun _ _=>rfl) fun O x=>by kernel_rfl
theorem sq:Vd Tryz.prog 169 RA:=vt mix gW RP [(122,AQ),(202,Ez)] (gs CG (gs fY g0)) rfl (fun _ _=>rfl) fun O x=>by kernel_rfl
theorem kw:Vd Tryz.prog 178 Ep:=vt mix jx LE [] g0 rfl (fun _ _=>rfl) fun O x=>by kernel_rfl
theorem sE:Vd Tryz.prog 170 Pk:=vt mix cz PY [(122,AQ),(178,Ep),(194,Bi)] (gs CG (gs kw (gs Po g0))) rfl (fun _ _=>rfl) fun O x=>by kernel_rfl
theorem o8:Vd Tryz.prog 171 M1:=vt mix aG Mx [(122,AQ)] (gs CG g0) rfl (fun _ _=>rfl) fun O x=>by kernel_rfl
theorem qs:Vd Tryz.prog 172 Pc:=vt mix dH Pb [(122,AQ),(203,Bh),(204,A4)] (gs CG (gs O4 (gs HC g0))) rfl (fun _ _=>rfl) fun O x=>by kernel_rfl
theorem ir:Vd Tryz.prog 173 IL:=vt mix T7 IJ [(122,AQ),(203,Bh),(204,A4)] (gs CG (gs O4 (gs HC g0))) rfl (fun _ _=>rfl) fun O x=>by kernel_rfl
theorem oI:Vd Tryz.prog 174 Mp:=vt mix bK Mk [(44,Ai),(122,AQ)] (gs Dv (gs CG g0)) rfl (fun _ _=>rfl) fun O x=>by kernel_rfl
def eR:Cfg:={ gam:=[],imm:=false,old:=false }
theorem oo (O:Alg) (x:Ags O):XF (O:=O) Tryz.prog eR false false [] 175 [] (xr x Us 0)=HE O x:=by kernel_rfl
theorem qH {E:Env} {M:Nat} (N:Nat) (h:∀ ls,E 175 [] ls=Kd N ls):VV Tryz.prog E M ⟨175,[],false,false,[]⟩ :=
 BF mix (E:=HQ N) (N:=N) (cfg:=eR) (ci:=⟨175,[],false,false,[]⟩) (ks:=Us) Bx (c:=Kd N) (F:=fun ls=>HE (std (HQ N) N) (xOf ls)) (fun ls=>rfl) (fun ls=>oo (std (HQ N) N) (xOf ls)) h
theorem sa:Vd Tryz.prog 205 RN:=vt mix fa fW [] g0 rfl (fun _ _=>rfl) fun O x=>by kernel_rfl
def dE:Cfg:={ gam:=[⟨205,[],true,true,[]⟩],imm:=false,old:=false }
theorem o6 (O:Alg) (x:Ags O):XF (O:=O) Tryz.prog dE false false [] 176 [] (xr x UZ 0)=Kp O x:=by kernel_rfl
theorem qy {E:Env} {M:Nat} (N:Nat) (h:∀ ls,E 176 [] ls=Ki N ls):VV Tryz.prog E M ⟨176,[],false,false,[]⟩ :=
 BF mix (E:=E5 N) (N:=N) (cfg:=dE) (ci:=⟨176,[],false,false,[]⟩) (ks:=UZ) (AK (sa N (fun _=>rfl)) Bx) (c:=Ki N) (F:=fun ls=>Kp (std (E5 N) N) (xOf ls)) (fun ls=>rfl) (fun ls=>o6 (std (E5 N) N) (xOf ls)) h
def nU:Cfg:={ gam:=[⟨129,[],true,true,[]⟩,⟨165,[],true,true,[]⟩,⟨166,[],true,true,[]⟩,⟨167,[],false,false,[]⟩,⟨168,[],true,true,[]⟩,⟨169,[],true,true,[]⟩,⟨170,[],true,true,[]⟩,⟨171,[],true,true,[]⟩,⟨172,[],true,true,[]⟩,⟨173,[],true,true,[]⟩,⟨174,[],true,true,[]⟩,⟨175,[],false,false,[]⟩,⟨176,[],false,false,[]⟩],imm:=false,old:=false }
theorem vJ (O:Alg) (x:Ags O):XF (O:=O) Tryz.prog nU false false [] 142 [] (xr x cM 0)=Ng O x:=by kernel_rfl
theorem wX {E:Env} {M:Nat} (N:Nat) (h:∀ ls,E 142 [] ls=R5 N ls):VV Tryz.prog E M ⟨142,[],false,false,[]⟩ :=
 BF mix (E:=BJ N) (N:=N) (cfg:=nU) (ci:=⟨142,[],false,false,[]⟩) (ks:=cM) (AK (aR N (fun _=>rfl)) (AK (v9 N (fun _=>rfl)) (AK (u5 N (fun _=>rfl)) (AK (ut N (fun _=>rfl)) (AK (ny N (fun _=>rfl)) (AK (sq N (fun _=>rfl)) (AK (sE N (fun _=>rfl)) (AK (o8 N (fun _=>rfl)) (AK (qs N (fun _=>rfl)) (AK (ir N (fun _=>rfl)) (AK (oI N (fun _=>rfl)) (AK (qH N (fun _=>rfl)) (AK (qy N (fun _=>rfl)) Bx))))))))))))) (c:=R5 N) (F:=fun ls=>Ng (std (BJ N) N) (xOf ls)) (fun ls=>rfl) (fun ls=>vJ (std (BJ N) N) (xOf ls)) h
theorem pX:Vd Tryz.prog 143 KS:=vt mix dB Oe [(123,Cs),(177,CU),(178,Ep)] (gs W5 (gs UL (gs kw g0))) rfl (fun _ _=>rfl) fun O x=>by kernel_rfl
def j0:Cfg:={ gam:=[⟨78,[],true,true,[]⟩,⟨96,[],true,true,[]⟩,⟨123,[],true,true,[]⟩,⟨141,[],true,true,[]⟩,⟨142,[],false,false,[]⟩,⟨143,[],true,true,[]⟩],imm:=false,old:=false }
theorem tj (O:Alg) (x:Ags O):XF (O:=O) Tryz.prog j0 false false [] 128 [] (xr x Zp 0)=Ok O x:=by kernel_rfl
theorem jS {E:Env} {M:Nat} (N:Nat) (h:∀ ls,E 128 [] ls=IH N ls):VV Tryz.prog E M ⟨128,[],false,false,[]⟩ :=
 BF mix (E:=CX N) (N:=N) (cfg:=j0) (ci:=⟨128,[],false,false,[]⟩) (ks:=Zp) (AK (gU N (fun _=>rfl)) (AK (Wz N (fun _=>rfl)) (AK (W5 N (fun _=>rfl)) (AK (Q8 N (fun _=>rfl)) (AK (wX N (fun _=>rfl)) (AK (pX N (fun _=>rfl)) Bx)))))) (c:=IH N) (F:=fun ls=>Ok (std (CX N) N) (xOf ls)) (fun ls=>rfl) (fun ls=>tj (std (CX N) N) (xOf ls)) h
def jj:Cfg:={ gam:=[⟨102,[],true,true,[]⟩,⟨105,[],true,true,[]⟩,⟨126,[],true,true,[]⟩,⟨127,[],true,true,[]⟩,⟨128,[],false,false,[]⟩],imm:=false,old:=false }
theorem sZ (O:Alg) (x:Ags O):XF (O:=O) Tryz.prog jj false false [true,false] 103 [] (xr x Yt 0)=OP O x:=by kernel_rfl
theorem ux {E:Env} {M:Nat} (N:Nat) (h:∀ ls,E 103 [] ls=Pg N ls):VV Tryz.prog E M ⟨103,[],false,false,[true,false]⟩ :=
 BF mix (E:=Cv N) (N:=N) (cfg:=jj) (ci:=⟨103,[],false,false,[true,false]⟩) (ks:=Yt) (AK (L9 N (fun _=>rfl)) (AK (XO N (fun _=>rfl)) (AK (nz N (fun _=>rfl)) (AK (tA N (fun _=>rfl)) (AK (jS N (fun _=>rfl)) Bx))))) (c:=Pg N) (F:=fun ls=>OP (std (Cv N) N) (xOf ls)) (fun ls=>rfl) (fun ls=>sZ (std (Cv N) N) (xOf ls)) h
def lN:Cfg:={ gam:=[⟨128,[],false,false,[]⟩,⟨129,[],true,true,[]⟩],imm:=true,old:=true }
theorem tz (O:Alg) (x:Ags O):XF (O:=O) Tryz.prog lN false false [true,false] 104 [] (xr x Yy 0)=Pq O x:=by kernel_rfl
theorem vI {E:Env} {M:Nat} (N:Nat) (h:∀ ls,E 104 [] ls=OQ N ls):VV Tryz.prog E M ⟨104,[],false,false,[true,false]⟩ :=
 BF mix (E:=FJ N) (N:=N) (cfg:=lN) (ci:=⟨104,[],false,false,[true,false]⟩) (ks:=Yy) (AK (jS N (fun _=>rfl)) (AK (aR N (fun _=>rfl)) Bx)) (c:=OQ N) (F:=fun ls=>Pq (std (FJ N) N) (xOf ls)) (fun ls=>rfl) (fun ls=>tz (std (FJ N) N) (xOf ls)) h
def nC:Cfg:={ gam:=[⟨102,[],true,true,[]⟩,⟨103,[],false,false,[true,false]⟩,⟨104,[],false,false,[true,false]⟩],imm:=false,old:=false }
theorem v8 (O:Alg) (x:Ags O):XF (O:=O) Tryz.prog nC false false [true,false] 79 [] (xr x eW 0)=R9 O x:=by kernel_rfl
theorem wz {E:Env} {M:Nat} (N:Nat) (h:∀ ls,E 79 [] ls=Rz N ls):VV Tryz.prog E M ⟨79,[],false,false,[true,false]⟩ :=
 BF mix (E:=E2 N) (N:=N) (cfg:=nC) (ci:=⟨79,[],false,false,[true,false]⟩) (ks:=eW) (AK (L9 N (fun _=>rfl)) (AK (ux N (fun _=>rfl)) (AK (vI N (fun _=>rfl)) Bx))) (c:=Rz N) (F:=fun ls=>R9 (std (E2 N) N) (xOf ls)) (fun ls=>rfl) (fun ls=>v8 (std (E2 N) N) (xOf ls)) h
def bJ:Cfg:={ gam:=[⟨77,[],true,true,[]⟩,⟨80,[],false,false,[]⟩,⟨102,[],true,true,[]⟩,⟨105,[],true,true,[]⟩],imm:=false,old:=false }
theorem mL (O:Alg) (x:Ags O):XF (O:=O) Tryz.prog bJ true true [] 106 [] (xr x Su 0)=I2 O x:=by kernel_rfl
theorem o7:Vd Tryz.prog 106 Im:=fun N h =>
 BF mix (E:=CN N) (N:=N) (cfg:=bJ) (ci:=⟨106,[],true,true,[]⟩) (ks:=Su) (AK (XY N (fun _=>rfl)) (AK (Tf N (fun _=>rfl)) (AK (L9 N (fun _=>rfl)) (AK (XO N (fun _=>rfl)) Bx)))) (c:=Im N) (F:=fun ls=>I2 (std (CN N) N) (xOf ls)) (fun ls=>rfl) (fun ls=>mL (std (CN N) N) (xOf ls)) h
def eD:Cfg:={ gam:=[⟨80,[],false,false,[]⟩,⟨102,[],true,true,[]⟩,⟨105,[],true,true,[]⟩,⟨106,[],true,true,[]⟩],imm:=false,old:=false }
theorem o4 (O:Alg) (x:Ags O):XF (O:=O) Tryz.prog eD false false [] 81 [] (xr x U2 0)=KY O x:=by kernel_rfl
theorem sF {E:Env} {M:Nat} (N:Nat) (h:∀ ls,E 81 [] ls=Kn N ls):VV Tryz.prog E M ⟨81,[],false,false,[]⟩ :=
 BF mix (E:=Cc N) (N:=N) (cfg:=eD) (ci:=⟨81,[],false,false,[]⟩) (ks:=U2) (AK (Tf N (fun _=>rfl)) (AK (L9 N (fun _=>rfl)) (AK (XO N (fun _=>rfl)) (AK (o7 N (fun _=>rfl)) Bx)))) (c:=Kn N) (F:=fun ls=>KY (std (Cc N) N) (xOf ls)) (fun ls=>rfl) (fun ls=>o4 (std (Cc N) N) (xOf ls)) h
def kG:Cfg:={ gam:=[⟨76,[],true,true,[]⟩,⟨77,[],true,true,[]⟩,⟨78,[],true,true,[]⟩,⟨79,[],false,false,[true,false]⟩,⟨80,[],false,false,[]⟩,⟨81,[],false,false,[]⟩],imm:=false,old:=false }
theorem sv (O:Alg) (x:Ags O):XF (O:=O) Tryz.prog kG false false [] 67 [] (xr x Zb 0)=OE O x:=by kernel_rfl
theorem vO {E:Env} {M:Nat} (N:Nat) (h:∀ ls,E 67 [] ls=OS N ls):VV Tryz.prog E M ⟨67,[],false,false,[]⟩ :=
 BF mix (E:=CZ N) (N:=N) (cfg:=kG) (ci:=⟨67,[],false,false,[]⟩) (ks:=Zb) (AK (sW N (fun _=>rfl)) (AK (XY N (fun _=>rfl)) (AK (gU N (fun _=>rfl)) (AK (wz N (fun _=>rfl)) (AK (Tf N (fun _=>rfl)) (AK (sF N (fun _=>rfl)) Bx)))))) (c:=OS N) (F:=fun ls=>OE (std (CZ N) N) (xOf ls)) (fun ls=>rfl) (fun ls=>sv (std (CZ N) N) (xOf ls)) h
def lI:Cfg:={ gam:=[⟨67,[],false,false,[]⟩],imm:=true,old:=true }
theorem tU (O:Alg) (x:Ags O):XF (O:=O) Tryz.prog lI false false [] 59 [] (xr x aA 0)=Oj O x:=by kernel_rfl
theorem vj {E:Env} {M:Nat} (N:Nat) (h:∀ ls,E 59 [] ls=PR N ls):VV Tryz.prog E M ⟨59,[],false,false,[]⟩ :=
 BF mix (E:=HP N) (N:=N) (cfg:=lI) (ci:=⟨59,[],false,false,[]⟩) (ks:=aA) (AK (vO N (fun _=>rfl)) Bx) (c:=PR N) (F:=fun ls=>Oj (std (HP N) N) (xOf ls)) (fun ls=>rfl) (fun ls=>tU (std (HP N) N) (xOf ls)) h
def eM:Cfg:={ gam:=[⟨58,[],true,true,[]⟩,⟨59,[],false,false,[]⟩],imm:=false,old:=false }
theorem oH (O:Alg) (x:Ags O):XF (O:=O) Tryz.prog eM false false [] 45 [] (xr x U7 0)=Kb O x:=by kernel_rfl
theorem qU {E:Env} {M:Nat} (N:Nat) (h:∀ ls,E 45 [] ls=KL N ls):VV Tryz.prog E M ⟨45,[],false,false,[]⟩ :=
 BF mix (E:=Dp N) (N:=N) (cfg:=eM) (ci:=⟨45,[],false,false,[]⟩) (ks:=U7) (AK (xT N (fun _=>rfl)) (AK (vj N (fun _=>rfl)) Bx)) (c:=KL N) (F:=fun ls=>Kb (std (Dp N) N) (xOf ls)) (fun ls=>rfl) (fun ls=>oH (std (Dp N) N) (xOf ls)) h
def fm:Cfg:={ gam:=[⟨44,[],true,true,[]⟩,⟨45,[],false,false,[]⟩],imm:=false,old:=false }
theorem qX (O:Alg) (x:Ags O):XF (O:=O) Tryz.prog fm true true [] 33 [] (xr x Xe 0)=MB O x:=by kernel_rfl
theorem tL:Vd Tryz.prog 33 JN:=fun N h =>
 BF mix (E:=EW N) (N:=N) (cfg:=fm) (ci:=⟨33,[],true,true,[]⟩) (ks:=Xe) (AK (Dv N (fun _=>rfl)) (AK (qU N (fun _=>rfl)) Bx)) (c:=JN N) (F:=fun ls=>MB (std (EW N) N) (xOf ls)) (fun ls=>rfl) (fun ls=>qX (std (EW N) N) (xOf ls)) h
theorem xf:Vd Tryz.prog 47 R2:=vt mix nX Vl [] g0 rfl (fun _ _=>rfl) fun O x=>by kernel_rfl
theorem oB:Vd Tryz.prog 34 I5:=vt mix bL Mh [(46,FL),(47,R2)] (gs eF (gs xf g0)) rfl (fun _ _=>rfl) fun O x=>by kernel_rfl
theorem og:Vd Tryz.prog 21 Mo:=vt mix ae Mc [(13,Kv),(33,JN),(34,I5)] (gs rR (gs tL (gs oB g0))) rfl (fun _ _=>rfl) fun O x=>by kernel_rfl
def Rj:Cfg:={ gam:=[⟨9,[],true,true,[]⟩,⟨10,[],false,false,[]⟩,⟨20,[],true,true,[]⟩,⟨21,[],true,true,[]⟩],imm:=false,old:=false }
theorem bQ (O:Alg) (x:Ags O):XF (O:=O) Tryz.prog Rj true true [] 5 [] (xr x KX 0)=D4 O x:=by kernel_rfl
theorem cu:Vd Tryz.prog 5 D7:=fun N h =>
 BF mix (E:=BN N) (N:=N) (cfg:=Rj) (ci:=⟨5,[],true,true,[]⟩) (ks:=KX) (AK (tY N (fun _=>rfl)) (AK (wn N (fun _=>rfl)) (AK (V2 N (fun _=>rfl)) (AK (og N (fun _=>rfl)) Bx)))) (c:=D7 N) (F:=fun ls=>D4 (std (BN N) N) (xOf ls)) (fun ls=>rfl) (fun ls=>bQ (std (BN N) N) (xOf ls)) h
end Go.Px
