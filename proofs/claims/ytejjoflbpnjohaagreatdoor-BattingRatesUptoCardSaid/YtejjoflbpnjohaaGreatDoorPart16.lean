/- Part 16. -/
import Derived.Test.YtejjoflbpnjohaaGreatDoorPart07
import Derived.Test.YtejjoflbpnjohaaGreatDoorProg
import Derived.Test.YtejjoflbpnjohaaGreatDoorPart10
import Derived.KernelRfl
import Derived.WalkKit
import Derived.Lib.Walk
import Derived.BigCall
import Derived.BigGuard
import Derived.Test.YtejjoflbpnjohaaGreatDoorPart15
set_option linter.unusedVariables false
set_option linter.unusedSimpArgs false
namespace Go.Px
open Go.Proofs
set_option maxRecDepth 100000
abbrev zzp:=Vd Tryz.prog
theorem mix:Tryz.prog.follows .mixedOrders=true:=by kernel_rfl
theorem dW:zzp 17 Ji:=vt mix Tm Jd [] g0 rfl (fun _ _=>rfl) fun O x=>by kernel_rfl
theorem YM:zzp 73 F4:=vt mix X4 Nw [] g0 rfl (fun _ _=>rfl) fun O x=>by kernel_rfl
theorem SI:zzp 104 CO:=vt mix SH Rt [] g0 rfl (fun _ _=>rfl) fun O x=>by kernel_rfl
theorem bE:zzp 89 Fl:=vt mix R8 IV [(104,CO)] (gs SI g0) rfl (fun _ _=>rfl) fun O x=>by kernel_rfl
theorem cu:zzp 90 GZ:=vt mix Tc JY [(104,CO)] (gs SI g0) rfl (fun _ _=>rfl) fun O x=>by kernel_rfl
theorem Cf:zzp 61 AP:=vt mix VJ Ks [(73,F4),(89,Fl),(90,GZ)] (gs YM (gs bE (gs cu g0))) rfl (fun _ _=>rfl) fun O x=>by kernel_rfl
theorem Uj:zzp 105 Ct:=fun N h =>
 Ny mix (T:=22) (e:=170) (b:=24) Tryz.func105 Tryz.underlying22 (by kernel_rfl) (by decide) (fun O l=>by kernel_rfl) (fun O l=>by kernel_rfl) h
theorem U7:zzp 91 C3:=vt mix VP K5 [(105,Ct)] (gs Uj g0) rfl (fun _ _=>rfl) fun O x=>by kernel_rfl
theorem jz:zzp 65 N0:=vt mix YG OE [(61,AP),(91,C3)] (gs Cf (gs U7 g0)) rfl (fun _ _=>rfl) fun O x=>by kernel_rfl
theorem D9:zzp 159 Ak:=vt mix PU Pi [] g0 rfl (fun _ _=>rfl) fun O x=>by kernel_rfl
theorem Xp:zzp 160 EF:=vt mix Ph GL [(159,Ak)] (gs D9 g0) rfl (fun _ _=>rfl) fun O x=>by kernel_rfl
theorem WJ:zzp 198 Dc:=vt mix Od Fo [] g0 rfl (fun _ _=>rfl) fun O x=>by kernel_rfl
theorem Gw:zzp 184 Ap:=vt mix LX Dn [(198,Dc)] (gs WJ g0) rfl (fun _ _=>rfl) fun O x=>by kernel_rfl
theorem Vq:zzp 161 DG:=vt mix M6 E2 [(159,Ak),(184,Ap)] (gs D9 (gs Gw g0)) rfl (fun _ _=>rfl) fun O x=>by kernel_rfl
theorem Vi:zzp 186 DD:=vt mix M8 E3 [(159,Ak)] (gs D9 g0) rfl (fun _ _=>rfl) fun O x=>by kernel_rfl
theorem Xk:zzp 162 EJ:=vt mix PI GB [(186,DD)] (gs Vi g0) rfl (fun _ _=>rfl) fun O x=>by kernel_rfl
theorem MK:zzp 127 BI:=vt mix R3 Ih [(61,AP),(159,Ak),(160,EF),(161,DG),(162,EJ)] (gs Cf (gs D9 (gs Xp (gs Vq (gs Xk g0))))) rfl (fun _ _=>rfl) fun O x=>by kernel_rfl
theorem Kr:zzp 135 BJ:=vt mix U2 Ki [] g0 rfl (fun _ _=>rfl) fun O x=>by kernel_rfl
theorem U9:zzp 128 C1:=vt mix VY Kj [(135,BJ)] (gs Kr g0) rfl (fun _ _=>rfl) fun O x=>by kernel_rfl
theorem ec:zzp 129 Hx:=vt mix VQ Ke [] g0 rfl (fun _ _=>rfl) fun O x=>by kernel_rfl
theorem VZ:zzp 106 C4:=vt mix VU Kt [(61,AP),(127,BI),(128,C1),(129,Hx)] (gs Cf (gs MK (gs U9 (gs ec g0)))) rfl (fun _ _=>rfl) fun O x=>by kernel_rfl
theorem dU:zzp 130 Gf:=vt mix TP Jq [] g0 rfl (fun _ _=>rfl) fun O x=>by kernel_rfl
theorem bT:zzp 131 FW:=vt mix SY L7 [] g0 rfl (fun _ _=>rfl) fun O x=>by kernel_rfl
open Go.RowKit Go.Lib in
set_option maxHeartbeats 1000000 in
theorem QE (s:ByteArray) (c:Int) (w:World):Calls Tryz.prog 187 #[.string s,.int .u8 c] w fun e w'=>e=.returned (.int .i64 (Lib.indexByte s.data.toList c.toNat.toUInt8))∧w'=w:=by
 go_enter Tryz.func187,Tryz.ntmps187
 go_wp2
 rw [run_callFunc_extern Tryz.func200 (by kernel_rfl) (by kernel_rfl) (by kernel_rfl) (e:=Extern.BytealgIndexByte.indexByte) (by kernel_rfl),Lib.run_indexByteString];simp only [Result.andThen];rw [Oper.upon_value]
 go_wp2
 go_ret
 exact ⟨rfl,rfl⟩
theorem Rb:zzp 187 CJ:=fun N h =>
 jx Tryz.func187 (T9:=9) (T5:=5) (T3:=3) rfl rfl Tryz.underlying9 Tryz.underlying5 Tryz.underlying3 (by kernel_rfl) QE h
theorem Vl:zzp 163 DC:=vt mix M4 E6 [(187,CJ)] (gs Rb g0) rfl (fun _ _=>rfl) fun O x=>by kernel_rfl
theorem em:zzp 164 FK:=vt mix U3 Vf [] g0 rfl (fun _ _=>rfl) fun O x=>by kernel_rfl
theorem fm:zzp 132 JC:=vt mix Wo L3 [(163,DC),(164,FK)] (gs Vl (gs em g0)) rfl (fun _ _=>rfl) fun O x=>by kernel_rfl
theorem Vx:zzp 165 Dk:=vt mix OT Ij [] g0 rfl (fun _ _=>rfl) fun O x=>by kernel_rfl
theorem Yo:zzp 133 Er:=vt mix Qp HX [(165,Dk)] (gs Vx g0) rfl (fun _ _=>rfl) fun O x=>by kernel_rfl
theorem Vb:zzp 107 C0:=vt mix VL Hp [(130,Gf),(131,FW),(132,JC),(133,Er)] (gs dU (gs bT (gs fm (gs Yo g0)))) rfl (fun _ _=>rfl) fun O x=>by kernel_rfl
theorem Dm:zzp 166 AX:=fun N h =>
 Ny mix (T:=158) (e:=216) (b:=1) Tryz.func166 Tryz.underlying158 (by kernel_rfl) (by decide) (fun O l=>by kernel_rfl) (fun O l=>by kernel_rfl) h
theorem Ff:zzp 167 Ag:=fun N h =>
 Ny mix (T:=102) (e:=3) (b:=8) Tryz.func167 Tryz.underlying102 (by kernel_rfl) (by decide) (fun O l=>by kernel_rfl) (fun O l=>by kernel_rfl) h
theorem E7:zzp 168 Aa:=fun N h =>
 Ny mix (T:=69) (e:=4) (b:=1) Tryz.func168 Tryz.underlying69 (by kernel_rfl) (by decide) (fun O l=>by kernel_rfl) (fun O l=>by kernel_rfl) h
theorem CN:zzp 134 AO:=vt mix R6 II [(166,AX),(167,Ag),(168,Aa)] (gs Dm (gs Ff (gs E7 g0))) rfl (fun _ _=>rfl) fun O x=>by kernel_rfl
theorem et:zzp 108 Hd:=vt mix VW Kn [(91,C3),(134,AO)] (gs U7 (gs CN g0)) rfl (fun _ _=>rfl) fun O x=>by kernel_rfl
theorem O6:zzp 139 Bo:=vt mix VF Ko [] g0 rfl (fun _ _=>rfl) fun O x=>by kernel_rfl
theorem OM:zzp 172 Bi:=vt mix OL Fr [] g0 rfl (fun _ _=>rfl) fun O x=>by kernel_rfl
theorem Zh:zzp 140 Fa:=vt mix Rj Ib [(106,C4),(135,BJ),(139,Bo),(172,Bi)] (gs VZ (gs Kr (gs O6 (gs OM g0)))) rfl (fun _ _=>rfl) fun O x=>by kernel_rfl
theorem aI:zzp 169 Fb:=vt mix SC IH [(61,AP),(159,Ak)] (gs Cf (gs D9 g0)) rfl (fun _ _=>rfl) fun O x=>by kernel_rfl
theorem cZ:zzp 170 Gj:=vt mix TE Jk [(135,BJ),(139,Bo)] (gs Kr (gs O6 g0)) rfl (fun _ _=>rfl) fun O x=>by kernel_rfl
theorem Xn:zzp 202 EA:=vt mix PZ J7 [] g0 rfl (fun _ _=>rfl) fun O x=>by kernel_rfl
theorem bJ:zzp 188 Fv:=vt mix SJ IU [(202,EA)] (gs Xn g0) rfl (fun _ _=>rfl) fun O x=>by kernel_rfl
theorem Gi:zzp 234 Av:=vt mix WD MC [(166,AX),(167,Ag),(168,Aa)] (gs Dm (gs Ff (gs E7 g0))) rfl (fun _ _=>rfl) fun O x=>by kernel_rfl
theorem Yz:zzp 262 Ch:=vt mix RT LQ [] g0 rfl (fun _ _=>rfl) fun O x=>by kernel_rfl
theorem TG:zzp 235 Bu:=vt mix Tg EZ [(262,Ch)] (gs Yz g0) rfl (fun _ _=>rfl) fun O x=>by kernel_rfl
theorem Gl:zzp 236 Au:=vt mix TC Jc [] g0 rfl (fun _ _=>rfl) fun O x=>by kernel_rfl
theorem ep:zzp 203 Hu:=vt mix VE K4 [(234,Av),(235,Bu),(236,Au)] (gs Gi (gs TG (gs Gl g0))) rfl (fun _ _=>rfl) fun O x=>by kernel_rfl
theorem Sn:zzp 237 CU:=vt mix YB OG [(166,AX),(167,Ag),(168,Aa)] (gs Dm (gs Ff (gs E7 g0))) rfl (fun _ _=>rfl) fun O x=>by kernel_rfl
theorem Ot:zzp 263 Bq:=vt mix U4 Kv [] g0 rfl (fun _ _=>rfl) fun O x=>by kernel_rfl
theorem iu:zzp 264 I3:=vt mix Wa Mn [(61,AP),(263,Bq)] (gs Cf (gs Ot g0)) rfl (fun _ _=>rfl) fun O x=>by kernel_rfl
theorem jg:zzp 238 KI:=vt mix X5 N8 [(61,AP),(184,Ap),(263,Bq),(264,I3)] (gs Cf (gs Gw (gs Ot (gs iu g0)))) rfl (fun _ _=>rfl) fun O x=>by kernel_rfl
theorem fU:zzp 204 JA:=vt mix WR L8 [(237,CU),(238,KI)] (gs Sn (gs jg g0)) rfl (fun _ _=>rfl) fun O x=>by kernel_rfl
theorem Vn:zzp 103 DB:=vt mix M3 E4 [] g0 rfl (fun _ _=>rfl) fun O x=>by kernel_rfl
theorem Q3:zzp 87 CC:=vt mix QN HJ [(103,DB)] (gs Vn g0) rfl (fun _ _=>rfl) fun O x=>by kernel_rfl
theorem Vh:zzp 88 DA:=vt mix M2 E1 [] g0 rfl (fun _ _=>rfl) fun O x=>by kernel_rfl
theorem PP:zzp 57 B0:=vt mix PO GJ [(87,CC),(88,DA)] (gs Q3 (gs Vh g0)) rfl (fun _ _=>rfl) fun O x=>by kernel_rfl
theorem Yw:zzp 58 Ei:=vt mix QV QO [] g0 rfl (fun _ _=>rfl) fun O x=>by kernel_rfl
theorem MN:zzp 217 BG:=vt mix R4 Dq [(235,Bu)] (gs TG g0) rfl (fun _ _=>rfl) fun O x=>by kernel_rfl
theorem Hh:zzp 246 A1:=vt mix VH Kl [] g0 rfl (fun _ _=>rfl) fun O x=>by kernel_rfl
theorem HT:zzp 247 A0:=vt mix Qc HV [(246,A1)] (gs Hh g0) rfl (fun _ _=>rfl) fun O x=>by kernel_rfl
theorem bm:zzp 275 FT:=vt mix Rw Ia [] g0 rfl (fun _ _=>rfl) fun O x=>by kernel_rfl
theorem ed:zzp 265 Hj:=vt mix VR Kp [(246,A1),(247,A0),(275,FT)] (gs Hh (gs HT (gs bm g0))) rfl (fun _ _=>rfl) fun O x=>by kernel_rfl
theorem PX:zzp 99 Bd:=vt mix Pa PW [] g0 rfl (fun _ _=>rfl) fun O x=>by kernel_rfl
theorem TD:zzp 75 DI:=vt mix Ta Jb [(99,Bd)] (gs PX g0) rfl (fun _ _=>rfl) fun O x=>by kernel_rfl
theorem WI:zzp 279 Dd:=vt mix OJ FQ [] g0 rfl (fun _ _=>rfl) fun O x=>by kernel_rfl
theorem TN:zzp 276 Cm:=vt mix LU Dx [(279,Dd)] (gs WI g0) rfl (fun _ _=>rfl) fun O x=>by kernel_rfl
theorem WZ:zzp 280 Df:=vt mix OW Fq [] g0 rfl (fun _ _=>rfl) fun O x=>by kernel_rfl
theorem Y7:zzp 277 Ek:=vt mix Qg HR [(99,Bd),(280,Df)] (gs PX (gs WZ g0)) rfl (fun _ _=>rfl) fun O x=>by kernel_rfl
theorem Sv:zzp 281 CX:=vt mix KR DN [] g0 rfl (fun _ _=>rfl) fun O x=>by kernel_rfl
theorem Ud:zzp 278 Cr:=vt mix MH EM [(281,CX)] (gs Sv g0) rfl (fun _ _=>rfl) fun O x=>by kernel_rfl
theorem UM:zzp 266 Cw:=vt mix MZ EN [(75,DI),(276,Cm),(277,Ek),(278,Cr)] (gs TD (gs TN (gs Y7 (gs Ud g0)))) rfl (fun _ _=>rfl) fun O x=>by kernel_rfl
theorem ek:zzp 267 He:=vt mix Vc K2 [(246,A1),(247,A0)] (gs Hh (gs HT g0)) rfl (fun _ _=>rfl) fun O x=>by kernel_rfl
theorem Xs:zzp 239 D8:=vt mix PT GN [(87,CC),(217,BG),(265,Hj),(266,Cw),(267,He)] (gs Q3 (gs MN (gs ed (gs UM (gs ek g0))))) rfl (fun _ _=>rfl) fun O x=>by kernel_rfl
theorem jL:zzp 240 I9:=vt mix We Mp [(234,Av),(236,Au)] (gs Gi (gs Gl g0)) rfl (fun _ _=>rfl) fun O x=>by kernel_rfl
theorem ig:zzp 241 I1:=vt mix XG L0 [(61,AP),(184,Ap),(237,CU),(263,Bq)] (gs Cf (gs Gw (gs Sn (gs Ot g0)))) rfl (fun _ _=>rfl) fun O x=>by kernel_rfl
theorem bh:zzp 242 Fc:=vt mix Rx IG [(234,Av)] (gs Gi g0) rfl (fun _ _=>rfl) fun O x=>by kernel_rfl
theorem cm:zzp 205 Gc:=vt mix Tp JS [(57,B0),(58,Ei),(134,AO),(239,D8),(240,I9),(241,I1),(242,Fc)] (gs PP (gs Yw (gs CN (gs Xs (gs jL (gs ig (gs bh g0))))))) rfl (fun _ _=>rfl) fun O x=>by kernel_rfl
theorem W2:zzp 243 DT:=vt mix WO MI [(217,BG),(236,Au)] (gs MN (gs Gl g0)) rfl (fun _ _=>rfl) fun O x=>by kernel_rfl
theorem ZR:zzp 206 Ee:=vt mix RC HQ [(234,Av),(236,Au),(243,DT)] (gs Gi (gs Gl (gs W2 g0))) rfl (fun _ _=>rfl) fun O x=>by kernel_rfl
theorem cH:zzp 207 GP:=vt mix TZ Ju [(234,Av),(243,DT)] (gs Gi (gs W2 g0)) rfl (fun _ _=>rfl) fun O x=>by kernel_rfl
theorem VX:zzp 218 Cg:=vt mix VM FL [] g0 rfl (fun _ _=>rfl) fun O x=>by kernel_rfl
theorem Zr:zzp 208 FX:=vt mix Ri Ig [(218,Cg),(234,Av),(236,Au)] (gs VX (gs Gi (gs Gl g0))) rfl (fun _ _=>rfl) fun O x=>by kernel_rfl
theorem So:zzp 245 CS:=vt mix Ya N9 [(166,AX),(167,Ag),(168,Aa)] (gs Dm (gs Ff (gs E7 g0))) rfl (fun _ _=>rfl) fun O x=>by kernel_rfl
theorem Z2:zzp 209 FR:=vt mix Rl IW [(245,CS)] (gs So g0) rfl (fun _ _=>rfl) fun O x=>by kernel_rfl
theorem cc:zzp 210 Gb:=vt mix Tb Jt [(245,CS),(246,A1),(247,A0)] (gs So (gs Hh (gs HT g0))) rfl (fun _ _=>rfl) fun O x=>by kernel_rfl
theorem V7:zzp 211 Da:=vt mix Ol Fw [(245,CS),(246,A1),(247,A0)] (gs So (gs Hh (gs HT g0))) rfl (fun _ _=>rfl) fun O x=>by kernel_rfl
theorem Zf:zzp 212 Fp:=vt mix Rk IY [(61,AP),(237,CU)] (gs Cf (gs Sn g0)) rfl (fun _ _=>rfl) fun O x=>by kernel_rfl
theorem Xw:zzp 213 EC:=vt mix Pd GD [(134,AO)] (gs CN g0) rfl (fun _ _=>rfl) fun O x=>by kernel_rfl
theorem PL:zzp 191 Bz:=vt mix Pg GC [(134,AO)] (gs CN g0) rfl (fun _ _=>rfl) fun O x=>by kernel_rfl
theorem Xt:zzp 214 EE:=vt mix Pf GE [(134,AO),(191,Bz)] (gs CN (gs PL g0)) rfl (fun _ _=>rfl) fun O x=>by kernel_rfl
theorem ZY:zzp 215 Em:=vt mix Q1 Ez [(134,AO)] (gs CN g0) rfl (fun _ _=>rfl) fun O x=>by kernel_rfl
theorem Zl:zzp 248 FU:=vt mix Rh SE [] g0 rfl (fun _ _=>rfl) fun O x=>by kernel_rfl
theorem Yk:zzp 216 Ep:=vt mix RV HM [(134,AO),(248,FU)] (gs CN (gs Zl g0)) rfl (fun _ _=>rfl) fun O x=>by kernel_rfl
theorem Xl:zzp 189 ED:=vt mix PN EG [(203,Hu),(204,JA),(205,Gc),(206,Ee),(207,GP),(208,FX),(209,FR),(210,Gb),(211,Da),(212,Fp),(213,EC),(214,EE),(215,Em),(216,Ep)] (gs ep (gs fU (gs cm (gs ZR (gs cH (gs Zr (gs Z2 (gs cc (gs V7 (gs Zf (gs Xw (gs Xt (gs ZY (gs Yk g0)))))))))))))) rfl (fun _ _=>rfl) fun O x=>by kernel_rfl
theorem Yf:zzp 190 DK:=vt mix Q9 HN [(127,BI),(217,BG),(218,Cg)] (gs MK (gs MN (gs VX g0))) rfl (fun _ _=>rfl) fun O x=>by kernel_rfl
theorem cf:zzp 171 GT:=vt mix Te Jj [(107,C0),(127,BI),(134,AO),(188,Fv),(189,ED),(190,DK)] (gs Vb (gs MK (gs CN (gs bJ (gs Xl (gs Yf g0)))))) rfl (fun _ _=>rfl) fun O x=>by kernel_rfl
theorem jQ:zzp 92 L9:=vt mix WT L5 [(106,C4),(107,C0),(108,Hd),(128,C1),(135,BJ),(139,Bo),(140,Fa),(169,Fb),(170,Gj),(171,GT),(172,Bi),(191,Bz)] (gs VZ (gs Vb (gs et (gs U9 (gs Kr (gs O6 (gs Zh (gs aI (gs cZ (gs cf (gs OM (gs PL g0)))))))))))) rfl (fun _ _=>rfl) fun O x=>by kernel_rfl
def bq:Cfg:={ gam:=[⟨92,[],true,true,[],[]⟩],imm:=false,old:=false }
theorem ja (O:Alg) (x:Ags O):XF (O:=O) Tryz.prog bq (CI.ow ⟨66,[],false,false,[],[]⟩) false [] 66 [] (xr x Uy 0)=MV O x:=by kernel_rfl
theorem mR {E:Env} {M:Nat} (N:Nat) (h:∀ ls,E 66 [] ls=L6 N ls):VV Tryz.prog E M ⟨66,[],false,false,[],[]⟩ :=
 Fi mix (E:=Gx N) (N:=N) (cfg:=bq) (ci:=⟨66,[],false,false,[],[]⟩) (ks:=Uy) (BC (jQ N (fun _=>rfl)) JW) (c:=L6 N) (F:=fun ls=>MV (std (Gx N) N) (xOf ls)) (fun ls=>rfl) (fun ls=>ja (std (Gx N) N) (xOf ls)) h
theorem bZ:zzp 67 IQ:=vt mix R2 IR [(57,B0)] (gs PP g0) rfl (fun _ _=>rfl) fun O x=>by kernel_rfl
def bC:Cfg:={ gam:=[⟨65,[],true,true,[],[]⟩,⟨66,[],false,false,[],[]⟩,⟨67,[],true,true,[],[]⟩],imm:=false,old:=true,ie:=[170,99,35,9,73,64,4,160,3,39,5,216,143,190,212,87,33] }
theorem kA (O:Alg) (x:Ags O):XF (O:=O) Tryz.prog bC (CI.ow ⟨32,[],true,false,[],[170,99,35,9,73,64,4,160,3,39,5,216,143,190,212,87,33]⟩) false [] 32 [] (xr x Ut 0)=Me O x:=by kernel_rfl
theorem aL {E:Env} {M:Nat} (N:Nat) (h:∀ ls,E 32 [] ls=HL N ls):VV Tryz.prog E M ⟨32,[],true,false,[],[170,99,35,9,73,64,4,160,3,39,5,216,143,190,212,87,33]⟩ :=
 Fi mix (E:=Dg N) (N:=N) (cfg:=bC) (ci:=⟨32,[],true,false,[],[170,99,35,9,73,64,4,160,3,39,5,216,143,190,212,87,33]⟩) (ks:=Ut) (BC (jz N (fun _=>rfl)) (BC (mR N (fun _=>rfl)) (BC (bZ N (fun _=>rfl)) JW))) (c:=HL N) (F:=fun ls=>Me (std (Dg N) N) (xOf ls)) (fun ls=>rfl) (fun ls=>kA (std (Dg N) N) (xOf ls)) h
def Wt:Cfg:={ gam:=[⟨32,[],true,false,[],[170,99,35,9,73,64,4,160,3,39,5,216,143,190,212,87,33]⟩],imm:=false,old:=false }
theorem eV (O:Alg) (x:Ags O):XF (O:=O) Tryz.prog Wt (CI.ow ⟨62,[],false,false,[],[]⟩) false [] 62 [] (xr x RG 0)=Il O x:=by kernel_rfl
theorem gp {E:Env} {M:Nat} (N:Nat) (h:∀ ls,E 62 [] ls=Iw N ls):VV Tryz.prog E M ⟨62,[],false,false,[],[]⟩ :=
 Fi mix (E:=Ed N) (N:=N) (cfg:=Wt) (ci:=⟨62,[],false,false,[],[]⟩) (ks:=RG) (BC (aL N (fun _=>rfl)) JW) (c:=Iw N) (F:=fun ls=>Il (std (Ed N) N) (xOf ls)) (fun ls=>rfl) (fun ls=>eV (std (Ed N) N) (xOf ls)) h
def YY:Cfg:={ gam:=[⟨61,[],true,true,[],[]⟩,⟨62,[],false,false,[],[]⟩],imm:=false,old:=false }
theorem gO (O:Alg) (x:Ags O):XF (O:=O) Tryz.prog YY (CI.ow ⟨27,[],true,true,[],[]⟩) true [] 27 [] (xr x S4 0)=KE O x:=by kernel_rfl
theorem jh:zzp 27 KU:=fun N h =>
 Fi mix (E:=Dy N) (N:=N) (cfg:=YY) (ci:=⟨27,[],true,true,[],[]⟩) (ks:=S4) (BC (Cf N (fun _=>rfl)) (BC (gp N (fun _=>rfl)) JW)) (c:=KU N) (F:=fun ls=>KE (std (Dy N) N) (xOf ls)) (fun ls=>rfl) (fun ls=>gO (std (Dy N) N) (xOf ls)) h
theorem aD:zzp 28 IZ:=vti mix false false [60000] SS IX [] g0 rfl (fun _ _=>rfl) fun O x=>by kernel_rfl
def Hr:Cfg:={ gam:=[],imm:=false,old:=false }
theorem Oc (O:Alg) (x:Ags O):XF (O:=O) Tryz.prog Hr (CI.ow ⟨30,[31],true,true,[],[]⟩) true [] 30 [31] (xr x D0 0)=Bs O x:=by kernel_rfl
theorem PA {E:Env} {M:Nat} (N:Nat) (h:∀ ls,E 30 [31] ls=Br N ls):VV Tryz.prog E M ⟨30,[31],true,true,[],[]⟩ :=
 Fi mix (E:=Bh N) (N:=N) (cfg:=Hr) (ci:=⟨30,[31],true,true,[],[]⟩) (ks:=D0) JW (c:=Br N) (F:=fun ls=>Bs (std (Bh N) N) (xOf ls)) (fun ls=>rfl) (fun ls=>Oc (std (Bh N) N) (xOf ls)) h
theorem W7:zzp 33 FZ:=vt mix OK Fn [] g0 rfl (fun _ _=>rfl) fun O x=>by kernel_rfl
def Td:Cfg:={ gam:=[⟨17,[],true,true,[],[]⟩,⟨27,[],true,true,[],[]⟩,⟨28,[],true,true,[],[]⟩,⟨30,[31],true,true,[],[]⟩,⟨32,[],true,false,[],[170,99,35,9,73,64,4,160,3,39,5,216,143,190,212,87,33]⟩,⟨33,[],true,true,[],[]⟩],imm:=false,old:=false,ie:=[60000] }
theorem aS (O:Alg) (x:Ags O):XF (O:=O) Tryz.prog Td (CI.ow ⟨10,[],true,true,[],[]⟩) true [] 10 [] (xr x NL 0)=Gv O x:=by kernel_rfl
theorem dQ:zzp 10 DL:=fun N h =>
 Fi mix (E:=BL N) (N:=N) (cfg:=Td) (ci:=⟨10,[],true,true,[],[]⟩) (ks:=NL) (BC (dW N (fun _=>rfl)) (BC (jh N (fun _=>rfl)) (BC (aD N (fun _=>rfl)) (BC (PA N (fun _=>rfl)) (BC (aL N (fun _=>rfl)) (BC (W7 N (fun _=>rfl)) JW)))))) (c:=DL N) (F:=fun ls=>Gv (std (BL N) N) (xOf ls)) (fun ls=>rfl) (fun ls=>aS (std (BL N) N) (xOf ls)) h
theorem Sm:zzp 12 CZ:=vt mix KB DQ [] g0 rfl (fun _ _=>rfl) fun O x=>by kernel_rfl
theorem VI:zzp 42 Kw:=vt mix VK VG [] g0 rfl (fun _ _=>rfl) fun O x=>by kernel_rfl
theorem TK:zzp 98 GV:=vt mix LT Ld [] g0 rfl (fun _ _=>rfl) fun O x=>by kernel_rfl
theorem RW:zzp 74 Ey:=vt mix JP Is [(98,GV)] (gs TK g0) rfl (fun _ _=>rfl) fun O x=>by kernel_rfl
theorem eU:zzp 37 U6:=vt mix VC VA [(42,Kw),(73,F4),(74,Ey)] (gs VI (gs YM (gs RW g0))) rfl (fun _ _=>rfl) fun O x=>by kernel_rfl
theorem ZH:zzp 38 Qb:=vt mix Q8 QW [] g0 rfl (fun _ _=>rfl) fun O x=>by kernel_rfl
theorem Pb:zzp 39 Cy:=vt mix PR GK [] g0 rfl (fun _ _=>rfl) fun O x=>by kernel_rfl
theorem ZW:zzp 40 RJ:=vt mix Qz Qd [(75,DI)] (gs TD g0) rfl (fun _ _=>rfl) fun O x=>by kernel_rfl
theorem UO:zzp 101 HK:=fun N h =>
 mF Tryz.func101 (T2:=2) (T3:=3) (T9:=9) rfl rfl Tryz.underlying2 Tryz.underlying3 Tryz.underlying9 (by kernel_rfl) (by kernel_rfl) (fun i h0 hi w ht=>Tryz.internal_strconv_FormatInt_10 i h0 hi w ht) h
theorem Vm:zzp 77 IA:=vt mix NB NA [(101,HK)] (gs UO g0) rfl (fun _ _=>rfl) fun O x=>by kernel_rfl
theorem cU:zzp 43 Tn:=vt mix Tt S7 [(77,IA)] (gs Vm g0) rfl (fun _ _=>rfl) fun O x=>by kernel_rfl
def Tx:Cfg:={ gam:=[⟨37,[],true,true,[],[]⟩,⟨38,[],true,true,[],[]⟩,⟨39,[],true,true,[],[]⟩,⟨40,[],true,true,[],[]⟩,⟨42,[],true,true,[],[]⟩,⟨43,[],true,true,[],[]⟩],imm:=false,old:=false,ie:=[70000],bld:=pt }
theorem bL (O:Alg) (x:Ags O):XF (O:=O) Tryz.prog Tx (CI.ow ⟨14,[],true,true,[],[]⟩) true [] 14 [] (xr x Nk 0)=Nf O x:=by kernel_rfl
theorem cq:zzp 14 EW:=fun N h =>
 Z7 mix (E:=HO N) (N:=N) (cfg:=Tx) (ci:=⟨14,[],true,true,[],[]⟩) (ks:=Nk) (BC (eU N (fun _=>rfl)) (BC (ZH N (fun _=>rfl)) (BC (Pb N (fun _=>rfl)) (BC (ZW N (fun _=>rfl)) (BC (VI N (fun _=>rfl)) (BC (cU N (fun _=>rfl)) JW)))))) se (c:=EW N) (F:=fun ls=>Nf (std (HO N) N) (xOf ls)) (fun ls=>rfl) (fun ls=>bL (std (HO N) N) (xOf ls)) h
theorem kJ:zzp 25 KZ:=vt mix YL YQ [] g0 rfl (fun _ _=>rfl) fun O x=>by kernel_rfl
theorem jv:zzp 60 Sj:=vt mix YZ Ye [] g0 rfl (fun _ _=>rfl) fun O x=>by kernel_rfl
theorem nK:zzp 26 ON:=vt mix eA dz [(60,Sj)] (gs jv g0) rfl (fun _ _=>rfl) fun O x=>by kernel_rfl
theorem jW:zzp 8 KM:=vt mix YH OD [(10,DL),(12,CZ),(14,EW),(25,KZ),(26,ON)] (gs dQ (gs Sm (gs cq (gs kJ (gs nK g0))))) rfl (fun _ _=>rfl) fun O x=>by kernel_rfl
def dZ:Cfg:={ gam:=[],imm:=false,old:=false }
theorem lW (O:Alg) (x:Ags O):XF (O:=O) Tryz.prog dZ (CI.ow ⟨13,[],false,false,[],[]⟩) false [] 13 [] (xr x W3 0)=OO O x:=by kernel_rfl
theorem oA {E:Env} {M:Nat} (N:Nat) (h:∀ ls,E 13 [] ls=Oe N ls):VV Tryz.prog E M ⟨13,[],false,false,[],[]⟩ :=
 Fi mix (E:=KO N) (N:=N) (cfg:=dZ) (ci:=⟨13,[],false,false,[],[]⟩) (ks:=W3) JW (c:=Oe N) (F:=fun ls=>OO (std (KO N) N) (xOf ls)) (fun ls=>rfl) (fun ls=>lW (std (KO N) N) (xOf ls)) h
theorem Wq:zzp 83 DZ:=vt mix WU MM [] g0 rfl (fun _ _=>rfl) fun O x=>by kernel_rfl
theorem j8:zzp 82 KQ:=vt mix YP OC [(83,DZ)] (gs Wq g0) rfl (fun _ _=>rfl) fun O x=>by kernel_rfl
theorem ic:zzp 53 Iq:=vt mix WM Mq [(82,KQ),(83,DZ)] (gs j8 (gs Wq g0)) rfl (fun _ _=>rfl) fun O x=>by kernel_rfl
theorem Um:zzp 19 EP:=vt mix Ml EL [(39,Cy),(53,Iq)] (gs Pb (gs ic g0)) rfl (fun _ _=>rfl) fun O x=>by kernel_rfl
theorem j0:zzp 48 KL:=vt mix YC N2 [] g0 rfl (fun _ _=>rfl) fun O x=>by kernel_rfl
theorem lG:zzp 102 Lx:=vt mix Zp P9 [] g0 rfl (fun _ _=>rfl) fun O x=>by kernel_rfl
theorem eC:zzp 84 G7:=vt mix da Rp [(102,Lx)] (gs lG g0) rfl (fun _ _=>rfl) fun O x=>by kernel_rfl
theorem jj:zzp 85 KJ:=vt mix YJ N3 [(84,G7)] (gs eC g0) rfl (fun _ _=>rfl) fun O x=>by kernel_rfl
theorem l7:zzp 54 MA:=vt mix Zw P6 [(84,G7),(85,KJ)] (gs eC (gs jj g0)) rfl (fun _ _=>rfl) fun O x=>by kernel_rfl
theorem ZC:zzp 20 HZ:=vt mix QX HP [(48,KL),(54,MA)] (gs j0 (gs l7 g0)) rfl (fun _ _=>rfl) fun O x=>by kernel_rfl
theorem bW:zzp 21 Ic:=vt mix SX IM [] g0 rfl (fun _ _=>rfl) fun O x=>by kernel_rfl
theorem kL:zzp 22 N5:=vt mix X8 OB [] g0 rfl (fun _ _=>rfl) fun O x=>by kernel_rfl
def Of:Cfg:={ gam:=[⟨8,[],true,true,[],[]⟩,⟨13,[],false,false,[],[]⟩,⟨19,[],true,true,[],[]⟩,⟨20,[],true,true,[],[]⟩,⟨21,[],true,true,[],[]⟩,⟨22,[],true,true,[],[]⟩],imm:=false,old:=false }
theorem Vp (O:Alg) (x:Ags O):XF (O:=O) Tryz.prog Of (CI.ow ⟨6,[],true,true,[],[]⟩) true [] 6 [] (xr x I7 0)=Dl O x:=by kernel_rfl
theorem WH:zzp 6 DW:=fun N h =>
 Fi mix (E:=Az N) (N:=N) (cfg:=Of) (ci:=⟨6,[],true,true,[],[]⟩) (ks:=I7) (BC (jW N (fun _=>rfl)) (BC (oA N (fun _=>rfl)) (BC (Um N (fun _=>rfl)) (BC (ZC N (fun _=>rfl)) (BC (bW N (fun _=>rfl)) (BC (kL N (fun _=>rfl)) JW)))))) (c:=DW N) (F:=fun ls=>Dl (std (Az N) N) (xOf ls)) (fun ls=>rfl) (fun ls=>Vp (std (Az N) N) (xOf ls)) h
end Go.Px
