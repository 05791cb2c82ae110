/- Part 16. -/
import Derived.Test.YtdpnocjfbplgjaaGreatPart07
import Derived.Test.YtdpnocjfbplgjaaGreatProg
import Derived.Test.YtdpnocjfbplgjaaGreatPart09
import Derived.KernelRfl
import Derived.WalkKit
import Derived.Lib.Walk
import Derived.BigCall
import Derived.BigGuard
set_option linter.unusedVariables false
set_option linter.unusedSimpArgs false
namespace Go.Px
open Go.Proofs
set_option maxRecDepth 100000
theorem mix:Tryz.prog.follows .mixedOrders=true:=by kernel_rfl
theorem tw:Vd Tryz.prog 54 L4:=vt mix gh RD [] g0 rfl (fun _ _=>rfl) fun O x=>by kernel_rfl
theorem Vu:Vd Tryz.prog 73 Cq:=vt mix Vb WO [] g0 rfl (fun _ _=>rfl) fun O x=>by kernel_rfl
theorem kV:Vd Tryz.prog 55 GQ:=vt mix WD Js [(73,Cq)] (gs Vu g0) rfl (fun _ _=>rfl) fun O x=>by kernel_rfl
theorem mG:Vd Tryz.prog 56 HP:=vt mix X9 LO [(73,Cq)] (gs Vu g0) rfl (fun _ _=>rfl) fun O x=>by kernel_rfl
theorem C2:Vd Tryz.prog 40 AS:=vt mix aH Mj [(54,L4),(55,GQ),(56,HP)] (gs tw (gs kV (gs mG g0))) rfl (fun _ _=>rfl) fun O x=>by kernel_rfl
theorem ZR:Vd Tryz.prog 74 DJ:=fun N h =>
 Qt mix (T:=22) (e:=116) (b:=24) Tryz.func74 Tryz.underlying22 (by kernel_rfl) (by decide) (fun O l=>by kernel_rfl) (fun O l=>by kernel_rfl) h
theorem aX:Vd Tryz.prog 58 DW:=vt mix aZ MY [(74,DJ)] (gs ZR g0) rfl (fun _ _=>rfl) fun O x=>by kernel_rfl
theorem uG:Vd Tryz.prog 46 Qe:=vt mix gJ Qn [(40,AS),(58,DW)] (gs C2 (gs aX g0)) rfl (fun _ _=>rfl) fun O x=>by kernel_rfl
theorem ES:Vd Tryz.prog 115 Ap:=vt mix Sf S1 [] g0 rfl (fun _ _=>rfl) fun O x=>by kernel_rfl
theorem fQ:Vd Tryz.prog 116 Eb:=vt mix Ss G4 [(115,Ap)] (gs ES g0) rfl (fun _ _=>rfl) fun O x=>by kernel_rfl
theorem ee:Vd Tryz.prog 158 Dy:=vt mix RY F3 [] g0 rfl (fun _ _=>rfl) fun O x=>by kernel_rfl
theorem HK:Vd Tryz.prog 136 Av:=vt mix Nf EC [(158,Dy)] (gs ee g0) rfl (fun _ _=>rfl) fun O x=>by kernel_rfl
theorem bq:Vd Tryz.prog 117 Df:=vt mix Pr Fa [(115,Ap),(136,Av)] (gs ES (gs HK g0)) rfl (fun _ _=>rfl) fun O x=>by kernel_rfl
theorem bU:Vd Tryz.prog 138 Dg:=vt mix Pu FX [(115,Ap)] (gs ES g0) rfl (fun _ _=>rfl) fun O x=>by kernel_rfl
theorem fa:Vd Tryz.prog 118 EV:=vt mix Sp G0 [(138,Dg)] (gs bU g0) rfl (fun _ _=>rfl) fun O x=>by kernel_rfl
theorem Ob:Vd Tryz.prog 93 BO:=vt mix V0 JV [(40,AS),(115,Ap),(116,Eb),(117,Df),(118,EV)] (gs C2 (gs ES (gs fQ (gs bq (gs fa g0))))) rfl (fun _ _=>rfl) fun O x=>by kernel_rfl
theorem Mb:Vd Tryz.prog 101 BP:=vt mix aJ Mh [] g0 rfl (fun _ _=>rfl) fun O x=>by kernel_rfl
theorem bQ:Vd Tryz.prog 94 DU:=vt mix ah MS [(101,BP)] (gs Mb g0) rfl (fun _ _=>rfl) fun O x=>by kernel_rfl
theorem o7:Vd Tryz.prog 95 I7:=vt mix ac Mf [] g0 rfl (fun _ _=>rfl) fun O x=>by kernel_rfl
theorem aL:Vd Tryz.prog 75 DT:=vt mix ae Mw [(40,AS),(93,BO),(94,DU),(95,I7)] (gs C2 (gs Ob (gs bQ (gs o7 g0)))) rfl (fun _ _=>rfl) fun O x=>by kernel_rfl
theorem mD:Vd Tryz.prog 96 G7:=vt mix YQ Kn [] g0 rfl (fun _ _=>rfl) fun O x=>by kernel_rfl
theorem lB:Vd Tryz.prog 97 GD:=vt mix Vx N0 [] g0 rfl (fun _ _=>rfl) fun O x=>by kernel_rfl
open Go.RowKit Go.Lib in
set_option maxHeartbeats 1000000 in
theorem Ta (s:ByteArray) (c:Int) (w:World):Calls Tryz.prog 139 #[.string s,.int .u8 c] w fun e w'=>e=.returned (.int .i64 (Lib.indexByte s.data.toList c.toNat.toUInt8))∧w'=w:=by
 go_enter Tryz.func139,Tryz.ntmps139
 go_wp2
 rw [run_callFunc_extern Tryz.func160 (by kernel_rfl) (by kernel_rfl) (by kernel_rfl) (e:=Extern.BytealgIndexByte.indexByte) (by kernel_rfl),Lib.run_indexByteString]
 simp only [Result.andThen]
 rw [Oper.upon_value]
 go_wp2
 go_ret
 exact ⟨rfl,rfl⟩
theorem VR:Vd Tryz.prog 139 Cf:=fun N h =>
 ta Tryz.func139 (T9:=9) (T5:=5) (T3:=3) rfl rfl Tryz.underlying9 Tryz.underlying5 Tryz.underlying3 (by kernel_rfl) Ta h
theorem bX:Vd Tryz.prog 119 Di:=vt mix Py Fb [(139,Cf)] (gs VR g0) rfl (fun _ _=>rfl) fun O x=>by kernel_rfl
theorem o8:Vd Tryz.prog 120 F1:=vt mix bI ay [] g0 rfl (fun _ _=>rfl) fun O x=>by kernel_rfl
theorem rH:Vd Tryz.prog 98 Kj:=vt mix dr PG [(119,Di),(120,F1)] (gs bX (gs o8 g0)) rfl (fun _ _=>rfl) fun O x=>by kernel_rfl
theorem dz:Vd Tryz.prog 121 Dz:=vt mix RQ Ke [] g0 rfl (fun _ _=>rfl) fun O x=>by kernel_rfl
theorem jF:Vd Tryz.prog 99 FE:=vt mix Ud Id [(121,Dz)] (gs dz g0) rfl (fun _ _=>rfl) fun O x=>by kernel_rfl
theorem aF:Vd Tryz.prog 76 DY:=vt mix aQ Ik [(96,G7),(97,GD),(98,Kj),(99,FE)] (gs mD (gs lB (gs rH (gs jF g0)))) rfl (fun _ _=>rfl) fun O x=>by kernel_rfl
theorem EK:Vd Tryz.prog 122 AU:=fun N h =>
 Qt mix (T:=106) (e:=156) (b:=1) Tryz.func122 Tryz.underlying106 (by kernel_rfl) (by decide) (fun O l=>by kernel_rfl) (fun O l=>by kernel_rfl) h
theorem GM:Vd Tryz.prog 123 Al:=fun N h =>
 Qt mix (T:=30) (e:=3) (b:=8) Tryz.func123 Tryz.underlying30 (by kernel_rfl) (by decide) (fun O l=>by kernel_rfl) (fun O l=>by kernel_rfl) h
theorem FY:Vd Tryz.prog 124 Ah:=fun N h =>
 Qt mix (T:=107) (e:=4) (b:=1) Tryz.func124 Tryz.underlying107 (by kernel_rfl) (by decide) (fun O l=>by kernel_rfl) (fun O l=>by kernel_rfl) h
theorem Co:Vd Tryz.prog 100 AQ:=vt mix V4 Jk [(122,AU),(123,Al),(124,Ah)] (gs EK (gs GM (gs FY g0))) rfl (fun _ _=>rfl) fun O x=>by kernel_rfl
theorem og:Vd Tryz.prog 77 Iw:=vt mix aM MU [(58,DW),(100,AQ)] (gs aX (gs Co g0)) rfl (fun _ _=>rfl) fun O x=>by kernel_rfl
theorem SC:Vd Tryz.prog 105 B0:=vt mix aO Mx [] g0 rfl (fun _ _=>rfl) fun O x=>by kernel_rfl
theorem Rd:Vd Tryz.prog 128 Bt:=vt mix RS GC [] g0 rfl (fun _ _=>rfl) fun O x=>by kernel_rfl
theorem jg:Vd Tryz.prog 106 F8:=vt mix Vh Jn [(75,DT),(101,BP),(105,B0),(128,Bt)] (gs aL (gs Mb (gs SC (gs Rd g0)))) rfl (fun _ _=>rfl) fun O x=>by kernel_rfl
theorem kc:Vd Tryz.prog 125 GJ:=vt mix Vn Jg [(40,AS),(115,Ap)] (gs C2 (gs ES g0)) rfl (fun _ _=>rfl) fun O x=>by kernel_rfl
theorem mq:Vd Tryz.prog 126 HD:=vt mix Xg Kp [(101,BP),(105,B0)] (gs Mb (gs SC g0)) rfl (fun _ _=>rfl) fun O x=>by kernel_rfl
theorem fZ:Vd Tryz.prog 162 EZ:=vt mix S0 LT [] g0 rfl (fun _ _=>rfl) fun O x=>by kernel_rfl
theorem ki:Vd Tryz.prog 140 Ga:=vt mix WH Ji [(162,EZ)] (gs fZ g0) rfl (fun _ _=>rfl) fun O x=>by kernel_rfl
theorem Hi:Vd Tryz.prog 192 A3:=vt mix dQ OQ [(122,AU),(123,Al),(124,Ah)] (gs EK (gs GM (gs FY g0))) rfl (fun _ _=>rfl) fun O x=>by kernel_rfl
theorem jC:Vd Tryz.prog 214 C6:=vt mix Tw M8 [] g0 rfl (fun _ _=>rfl) fun O x=>by kernel_rfl
theorem YF:Vd Tryz.prog 193 B6:=vt mix Ye E3 [(214,C6)] (gs jC g0) rfl (fun _ _=>rfl) fun O x=>by kernel_rfl
theorem HW:Vd Tryz.prog 194 A2:=vt mix Yl LB [] g0 rfl (fun _ _=>rfl) fun O x=>by kernel_rfl
theorem pK:Vd Tryz.prog 163 I0:=vt mix bP MM [(192,A3),(193,B6),(194,A2)] (gs Hi (gs YF (gs HW g0))) rfl (fun _ _=>rfl) fun O x=>by kernel_rfl
theorem Ws:Vd Tryz.prog 195 Cu:=vt mix fk Ql [(122,AU),(123,Al),(124,Ah)] (gs EK (gs GM (gs FY g0))) rfl (fun _ _=>rfl) fun O x=>by kernel_rfl
theorem Sc:Vd Tryz.prog 215 B2:=vt mix aa MO [] g0 rfl (fun _ _=>rfl) fun O x=>by kernel_rfl
theorem qM:Vd Tryz.prog 216 Kl:=vt mix eD PC [(40,AS),(215,B2)] (gs C2 (gs Sc g0)) rfl (fun _ _=>rfl) fun O x=>by kernel_rfl
theorem uU:Vd Tryz.prog 196 Ld:=vt mix iC RL [(40,AS),(136,Av),(215,B2),(216,Kl)] (gs C2 (gs HK (gs Sc (gs qM g0)))) rfl (fun _ _=>rfl) fun O x=>by kernel_rfl
theorem rR:Vd Tryz.prog 164 Kg:=vt mix eU O5 [(195,Cu),(196,Ld)] (gs Ws (gs uU g0)) rfl (fun _ _=>rfl) fun O x=>by kernel_rfl
theorem Un:Vd Tryz.prog 25 CT:=vt mix Tx VB [] g0 rfl (fun _ _=>rfl) fun O x=>by kernel_rfl
theorem bi:Vd Tryz.prog 57 De:=vt mix Ps Fc [] g0 rfl (fun _ _=>rfl) fun O x=>by kernel_rfl
theorem T8:Vd Tryz.prog 43 CZ:=vt mix Ut H9 [(57,De)] (gs bi g0) rfl (fun _ _=>rfl) fun O x=>by kernel_rfl
theorem br:Vd Tryz.prog 44 Dh:=vt mix Pt FW [] g0 rfl (fun _ _=>rfl) fun O x=>by kernel_rfl
theorem Sj:Vd Tryz.prog 31 CE:=vt mix Si Gu [(43,CZ),(44,Dh)] (gs T8 (gs br g0)) rfl (fun _ _=>rfl) fun O x=>by kernel_rfl
theorem PL:Vd Tryz.prog 177 BN:=vt mix WU EF [(193,B6)] (gs YF g0) rfl (fun _ _=>rfl) fun O x=>by kernel_rfl
theorem Iv:Vd Tryz.prog 204 A6:=vt mix aR Mp [] g0 rfl (fun _ _=>rfl) fun O x=>by kernel_rfl
theorem IG:Vd Tryz.prog 205 A5:=vt mix UL IV [(204,A6)] (gs Iv g0) rfl (fun _ _=>rfl) fun O x=>by kernel_rfl
theorem kZ:Vd Tryz.prog 220 GG:=vt mix V3 Jh [] g0 rfl (fun _ _=>rfl) fun O x=>by kernel_rfl
theorem oq:Vd Tryz.prog 217 Is:=vt mix aq MP [(204,A6),(205,A5),(220,GG)] (gs Iv (gs IG (gs kZ g0))) rfl (fun _ _=>rfl) fun O x=>by kernel_rfl
theorem Sk:Vd Tryz.prog 225 Bl:=vt mix Su Sy [] g0 rfl (fun _ _=>rfl) fun O x=>by kernel_rfl
theorem mL:Vd Tryz.prog 221 HM:=vt mix YM K1 [(225,Bl)] (gs Sk g0) rfl (fun _ _=>rfl) fun O x=>by kernel_rfl
theorem eV:Vd Tryz.prog 226 D8:=vt mix RT F4 [] g0 rfl (fun _ _=>rfl) fun O x=>by kernel_rfl
theorem YA:Vd Tryz.prog 222 DA:=vt mix Nh EG [(226,D8)] (gs eV g0) rfl (fun _ _=>rfl) fun O x=>by kernel_rfl
theorem dn:Vd Tryz.prog 227 D1:=vt mix R0 GW [] g0 rfl (fun _ _=>rfl) fun O x=>by kernel_rfl
theorem jO:Vd Tryz.prog 223 FL:=vt mix Uo Ic [(225,Bl),(227,D1)] (gs Sk (gs dn g0)) rfl (fun _ _=>rfl) fun O x=>by kernel_rfl
theorem XW:Vd Tryz.prog 228 Cv:=vt mix MB Ds [] g0 rfl (fun _ _=>rfl) fun O x=>by kernel_rfl
theorem aC:Vd Tryz.prog 224 DE:=vt mix N4 Eg [(228,Cv)] (gs XW g0) rfl (fun _ _=>rfl) fun O x=>by kernel_rfl
theorem Za:Vd Tryz.prog 218 DL:=vt mix OB Ej [(221,HM),(222,DA),(223,FL),(224,DE)] (gs mL (gs YA (gs jO (gs aC g0)))) rfl (fun _ _=>rfl) fun O x=>by kernel_rfl
theorem pE:Vd Tryz.prog 219 I1:=vt mix bC Mu [(204,A6),(205,A5)] (gs Iv (gs IG g0)) rfl (fun _ _=>rfl) fun O x=>by kernel_rfl
theorem fV:Vd Tryz.prog 197 Ee:=vt mix Sx Gv [(43,CZ),(177,BN),(217,Is),(218,DL),(219,I1)] (gs T8 (gs PL (gs oq (gs Za (gs pE g0))))) rfl (fun _ _=>rfl) fun O x=>by kernel_rfl
theorem qT:Vd Tryz.prog 198 J4:=vt mix cT Nw [(192,A3),(194,A2)] (gs Hi (gs HW g0)) rfl (fun _ _=>rfl) fun O x=>by kernel_rfl
theorem qS:Vd Tryz.prog 199 Kc:=vt mix cw OJ [(40,AS),(136,Av),(195,Cu),(215,B2)] (gs C2 (gs HK (gs Ws (gs Sc g0)))) rfl (fun _ _=>rfl) fun O x=>by kernel_rfl
theorem kQ:Vd Tryz.prog 200 GP:=vt mix WL Jp [(192,A3)] (gs Hi g0) rfl (fun _ _=>rfl) fun O x=>by kernel_rfl
theorem mn:Vd Tryz.prog 165 Hw:=vt mix Xj LN [(25,CT),(31,CE),(100,AQ),(197,Ee),(198,J4),(199,Kc),(200,GP)] (gs Un (gs Sj (gs Co (gs fV (gs qT (gs qS (gs kQ g0))))))) rfl (fun _ _=>rfl) fun O x=>by kernel_rfl
theorem dv:Vd Tryz.prog 201 D0:=vt mix cn OL [(177,BN),(194,A2)] (gs PL (gs HW g0)) rfl (fun _ _=>rfl) fun O x=>by kernel_rfl
theorem iv:Vd Tryz.prog 166 FF:=vt mix Tu Ie [(192,A3),(194,A2),(201,D0)] (gs Hi (gs HW (gs dv g0))) rfl (fun _ _=>rfl) fun O x=>by kernel_rfl
theorem mE:Vd Tryz.prog 167 Hp:=vt mix Xi K8 [(192,A3),(201,D0)] (gs Hi (gs dv g0)) rfl (fun _ _=>rfl) fun O x=>by kernel_rfl
theorem ao:Vd Tryz.prog 178 C3:=vt mix bN Ft [] g0 rfl (fun _ _=>rfl) fun O x=>by kernel_rfl
theorem kX:Vd Tryz.prog 168 GX:=vt mix WI Ja [(178,C3),(192,A3),(194,A2)] (gs ao (gs Hi (gs HW g0))) rfl (fun _ _=>rfl) fun O x=>by kernel_rfl
theorem XN:Vd Tryz.prog 203 Ct:=vt mix gY RI [(122,AU),(123,Al),(124,Ah)] (gs EK (gs GM (gs FY g0))) rfl (fun _ _=>rfl) fun O x=>by kernel_rfl
theorem kJ:Vd Tryz.prog 169 GO:=vt mix Vq Jj [(203,Ct)] (gs XN g0) rfl (fun _ _=>rfl) fun O x=>by kernel_rfl
theorem nA:Vd Tryz.prog 170 Hn:=vt mix Xf K5 [(203,Ct),(204,A6),(205,A5)] (gs XN (gs Iv (gs IG g0))) rfl (fun _ _=>rfl) fun O x=>by kernel_rfl
theorem cy:Vd Tryz.prog 171 D7:=vt mix RW F7 [(203,Ct),(204,A6),(205,A5)] (gs XN (gs Iv (gs IG g0))) rfl (fun _ _=>rfl) fun O x=>by kernel_rfl
theorem jw:Vd Tryz.prog 172 GN:=vt mix WP Jf [(40,AS),(195,Cu)] (gs C2 (gs Ws g0)) rfl (fun _ _=>rfl) fun O x=>by kernel_rfl
theorem fT:Vd Tryz.prog 173 ET:=vt mix Sg G5 [(100,AQ)] (gs Co g0) rfl (fun _ _=>rfl) fun O x=>by kernel_rfl
theorem Sh:Vd Tryz.prog 143 CD:=vt mix So Gx [(100,AQ)] (gs Co g0) rfl (fun _ _=>rfl) fun O x=>by kernel_rfl
theorem fN:Vd Tryz.prog 174 EX:=vt mix Sv G1 [(100,AQ),(143,CD)] (gs Co (gs Sh g0)) rfl (fun _ _=>rfl) fun O x=>by kernel_rfl
theorem jR:Vd Tryz.prog 175 FJ:=vt mix Uu FM [(100,AQ)] (gs Co g0) rfl (fun _ _=>rfl) fun O x=>by kernel_rfl
theorem lZ:Vd Tryz.prog 206 GF:=vt mix WR WX [] g0 rfl (fun _ _=>rfl) fun O x=>by kernel_rfl
theorem iP:Vd Tryz.prog 176 FC:=vt mix U6 IY [(100,AQ),(206,GF)] (gs Co (gs lZ g0)) rfl (fun _ _=>rfl) fun O x=>by kernel_rfl
theorem fY:Vd Tryz.prog 141 Ed:=vt mix Sn Ec [(163,I0),(164,Kg),(165,Hw),(166,FF),(167,Hp),(168,GX),(169,GO),(170,Hn),(171,D7),(172,GN),(173,ET),(174,EX),(175,FJ),(176,FC)] (gs pK (gs rR (gs mn (gs iv (gs mE (gs kX (gs kJ (gs nA (gs cy (gs jw (gs fT (gs fN (gs jR (gs iP g0)))))))))))))) rfl (fun _ _=>rfl) fun O x=>by kernel_rfl
theorem iz:Vd Tryz.prog 142 Dl:=vt mix T2 IE [(93,BO),(177,BN),(178,C3)] (gs Ob (gs PL (gs ao g0))) rfl (fun _ _=>rfl) fun O x=>by kernel_rfl
theorem mp:Vd Tryz.prog 127 Hb:=vt mix YC LE [(76,DY),(93,BO),(100,AQ),(140,Ga),(141,Ed),(142,Dl)] (gs aF (gs Ob (gs Co (gs ki (gs fY (gs iz g0)))))) rfl (fun _ _=>rfl) fun O x=>by kernel_rfl
theorem qu:Vd Tryz.prog 59 Oy:=vt mix cz PN [(75,DT),(76,DY),(77,Iw),(94,DU),(101,BP),(105,B0),(106,F8),(125,GJ),(126,HD),(127,Hb),(128,Bt),(143,CD)] (gs aL (gs aF (gs og (gs bQ (gs Mb (gs SC (gs jg (gs kc (gs mq (gs mp (gs Rd (gs Sh g0)))))))))))) rfl (fun _ _=>rfl) fun O x=>by kernel_rfl
def kd:Cfg:={ gam:=[⟨59,[],true,true,[]⟩],imm:=false,old:=false }
theorem tD (O:Alg) (x:Ags O):XF (O:=O) Tryz.prog kd false false [] 47 [] (xr x Yt 0)=PW O x:=by kernel_rfl
theorem wR {E:Env} {M:Nat} (N:Nat) (h:∀ ls,E 47 [] ls=PY N ls):VV Tryz.prog E M ⟨47,[],false,false,[]⟩ :=
 A1 mix (E:=HR N) (N:=N) (cfg:=kd) (ci:=⟨47,[],false,false,[]⟩) (ks:=Yt) (AH (qu N (fun _=>rfl)) BU) (c:=PY N) (F:=fun ls=>PW (std (HR N) N) (xOf ls)) (fun ls=>rfl) (fun ls=>tD (std (HR N) N) (xOf ls)) h
theorem jY:Vd Tryz.prog 48 Jq:=vt mix Vc JZ [(31,CE)] (gs Sj g0) rfl (fun _ _=>rfl) fun O x=>by kernel_rfl
def kW:Cfg:={ gam:=[⟨46,[],true,true,[]⟩,⟨47,[],false,false,[]⟩,⟨48,[],true,true,[]⟩],imm:=false,old:=true,ie:=[116,76,3,47,72,109,156,4,5,139,152,89,60,197] }
theorem tG (O:Alg) (x:Ags O):XF (O:=O) Tryz.prog kW false false [] 35 [] (xr x Zu 0)=OV O x:=by kernel_rfl
theorem ko {E:Env} {M:Nat} (N:Nat) (h:∀ ls,E 35 [] ls=IM N ls):VV Tryz.prog E M ⟨35,[],false,false,[]⟩ :=
 A1 mix (E:=Du N) (N:=N) (cfg:=kW) (ci:=⟨35,[],false,false,[]⟩) (ks:=Zu) (AH (uG N (fun _=>rfl)) (AH (wR N (fun _=>rfl)) (AH (jY N (fun _=>rfl)) BU))) (c:=IM N) (F:=fun ls=>OV (std (Du N) N) (xOf ls)) (fun ls=>rfl) (fun ls=>tG (std (Du N) N) (xOf ls)) h
def cY:Cfg:={ gam:=[⟨35,[],false,false,[]⟩],imm:=false,old:=false }
theorem oZ (O:Alg) (x:Ags O):XF (O:=O) Tryz.prog cY false false [] 41 [] (xr x U1 0)=KE O x:=by kernel_rfl
theorem pw {E:Env} {M:Nat} (N:Nat) (h:∀ ls,E 41 [] ls=J3 N ls):VV Tryz.prog E M ⟨41,[],false,false,[]⟩ :=
 A1 mix (E:=E5 N) (N:=N) (cfg:=cY) (ci:=⟨41,[],false,false,[]⟩) (ks:=U1) (AH (ko N (fun _=>rfl)) BU) (c:=J3 N) (F:=fun ls=>KE (std (E5 N) N) (xOf ls)) (fun ls=>rfl) (fun ls=>oZ (std (E5 N) N) (xOf ls)) h
def gD:Cfg:={ gam:=[⟨40,[],true,true,[]⟩,⟨41,[],false,false,[]⟩],imm:=false,old:=false }
theorem ra (O:Alg) (x:Ags O):XF (O:=O) Tryz.prog gD true true [] 27 [] (xr x Wh 0)=Lt O x:=by kernel_rfl
theorem tf:Vd Tryz.prog 27 Ly:=fun N h =>
 A1 mix (E:=EM N) (N:=N) (cfg:=gD) (ci:=⟨27,[],true,true,[]⟩) (ks:=Wh) (AH (C2 N (fun _=>rfl)) (AH (pw N (fun _=>rfl)) BU)) (c:=Ly N) (F:=fun ls=>Lt (std (EM N) N) (xOf ls)) (fun ls=>rfl) (fun ls=>ra (std (EM N) N) (xOf ls)) h
theorem nJ:Vd Tryz.prog 29 Kr:=vt mix Xr LG [] g0 rfl (fun _ _=>rfl) fun O x=>by kernel_rfl
def au:Cfg:={ gam:=[⟨27,[],true,true,[]⟩,⟨29,[],true,true,[]⟩,⟨35,[],false,false,[]⟩],imm:=false,old:=false }
theorem nE (O:Alg) (x:Ags O):XF (O:=O) Tryz.prog au true true [] 23 [] (xr x SQ 0)=I3 O x:=by kernel_rfl
theorem bL:Vd Tryz.prog 23 C0:=fun N h =>
 A1 mix (E:=Cl N) (N:=N) (cfg:=au) (ci:=⟨23,[],true,true,[]⟩) (ks:=SQ) (AH (tf N (fun _=>rfl)) (AH (nJ N (fun _=>rfl)) (AH (ko N (fun _=>rfl)) BU))) (c:=C0 N) (F:=fun ls=>I3 (std (Cl N) N) (xOf ls)) (fun ls=>rfl) (fun ls=>nE (std (Cl N) N) (xOf ls)) h
theorem bG:Vd Tryz.prog 9 DX:=vt mix ar MJ [(23,C0)] (gs bL g0) rfl (fun _ _=>rfl) fun O x=>by kernel_rfl
theorem R8:Vd Tryz.prog 11 CY:=vt mix Rs GS [] g0 rfl (fun _ _=>rfl) fun O x=>by kernel_rfl
theorem mB:Vd Tryz.prog 12 HY:=vt mix YD K2 [] g0 rfl (fun _ _=>rfl) fun O x=>by kernel_rfl
theorem lw:Vd Tryz.prog 14 E6:=vt mix Xp Ks [(23,C0),(25,CT)] (gs bL (gs Un g0)) rfl (fun _ _=>rfl) fun O x=>by kernel_rfl
theorem tp:Vd Tryz.prog 21 Lq:=vt mix fp gI [] g0 rfl (fun _ _=>rfl) fun O x=>by kernel_rfl
theorem uL:Vd Tryz.prog 34 XH:=vt mix hG gu [] g0 rfl (fun _ _=>rfl) fun O x=>by kernel_rfl
theorem xd:Vd Tryz.prog 22 R6:=vt mix oK oG [(34,XH)] (gs uL g0) rfl (fun _ _=>rfl) fun O x=>by kernel_rfl
theorem tA:Vd Tryz.prog 7 L7:=vt mix gM Q5 [(9,DX),(11,CY),(12,HY),(14,E6),(21,Lq),(22,R6)] (gs bG (gs R8 (gs mB (gs lw (gs tp (gs xd g0)))))) rfl (fun _ _=>rfl) fun O x=>by kernel_rfl
def na:Cfg:={ gam:=[],imm:=false,old:=false }
theorem vW (O:Alg) (x:Ags O):XF (O:=O) Tryz.prog na false false [] 8 [] (xr x eE 0)=R1 O x:=by kernel_rfl
theorem xP {E:Env} {M:Nat} (N:Nat) (h:∀ ls,E 8 [] ls=Rh N ls):VV Tryz.prog E M ⟨8,[],false,false,[]⟩ :=
 A1 mix (E:=Lk N) (N:=N) (cfg:=na) (ci:=⟨8,[],false,false,[]⟩) (ks:=eE) BU (c:=Rh N) (F:=fun ls=>R1 (std (Lk N) N) (xOf ls)) (fun ls=>rfl) (fun ls=>vW (std (Lk N) N) (xOf ls)) h
theorem wL:Vd Tryz.prog 60 Nx:=vt mix lm TT [] g0 rfl (fun _ _=>rfl) fun O x=>by kernel_rfl
theorem yM:Vd Tryz.prog 61 Uk:=vt mix qL sG [] g0 rfl (fun _ _=>rfl) fun O x=>by kernel_rfl
theorem Dt:Vd Tryz.prog 49 Aj:=vt mix gb Qi [(60,Nx),(61,Uk)] (gs wL (gs yM g0)) rfl (fun _ _=>rfl) fun O x=>by kernel_rfl
theorem gp:Vd Tryz.prog 63 E0:=vt mix fh RC [] g0 rfl (fun _ _=>rfl) fun O x=>by kernel_rfl
theorem np:Vd Tryz.prog 51 NQ:=vt mix nR WJ [(49,Aj),(63,E0)] (gs Dt (gs gp g0)) rfl (fun _ _=>rfl) fun O x=>by kernel_rfl
theorem B7:Vd Tryz.prog 107 AO:=vt mix gL RA [] g0 rfl (fun _ _=>rfl) fun O x=>by kernel_rfl
theorem XA:Vd Tryz.prog 80 DD:=vt mix hO Qk [(107,AO)] (gs B7 g0) rfl (fun _ _=>rfl) fun O x=>by kernel_rfl
theorem sv:Vd Tryz.prog 64 Qy:=vt mix gA Q1 [(63,E0),(80,DD)] (gs gp (gs XA g0)) rfl (fun _ _=>rfl) fun O x=>by kernel_rfl
theorem im:Vd Tryz.prog 130 FD:=vt mix rF se [] g0 rfl (fun _ _=>rfl) fun O x=>by kernel_rfl
theorem xv:Vd Tryz.prog 131 Rp:=vt mix oI WE [(130,FD)] (gs im g0) rfl (fun _ _=>rfl) fun O x=>by kernel_rfl
theorem RE:Vd Tryz.prog 133 Bh:=vt mix fo JI [] g0 rfl (fun _ _=>rfl) fun O x=>by kernel_rfl
theorem oT:Vd Tryz.prog 132 Ih:=vt mix aG Mv [(133,Bh)] (gs RE g0) rfl (fun _ _=>rfl) fun O x=>by kernel_rfl
theorem W3:Vd Tryz.prog 108 Cs:=vt mix gy Q9 [(49,Aj),(130,FD),(131,Rp),(132,Ih)] (gs Dt (gs im (gs xv (gs oT g0)))) rfl (fun _ _=>rfl) fun O x=>by kernel_rfl
theorem MD:Vd Tryz.prog 86 B4:=vt mix gV RO [] g0 rfl (fun _ _=>rfl) fun O x=>by kernel_rfl
theorem dy:Vd Tryz.prog 109 FP:=vt mix dF Ny [(86,B4)] (gs MD g0) rfl (fun _ _=>rfl) fun O x=>by kernel_rfl
theorem lW:Vd Tryz.prog 81 F9:=vt mix Ve Jc [(108,Cs),(109,FP)] (gs W3 (gs dy g0)) rfl (fun _ _=>rfl) fun O x=>by kernel_rfl
theorem XM:Vd Tryz.prog 65 E1:=vt mix gQ Qs [(49,Aj),(81,F9)] (gs Dt (gs lW g0)) rfl (fun _ _=>rfl) fun O x=>by kernel_rfl
theorem pg:Vd Tryz.prog 82 KX:=vt mix dx OC [] g0 rfl (fun _ _=>rfl) fun O x=>by kernel_rfl
theorem vd:Vd Tryz.prog 83 N1:=vt mix kz S7 [] g0 rfl (fun _ _=>rfl) fun O x=>by kernel_rfl
theorem yS:Vd Tryz.prog 84 VA:=vt mix rK iW [] g0 rfl (fun _ _=>rfl) fun O x=>by kernel_rfl
theorem ye:Vd Tryz.prog 110 Ua:=vt mix qQ iX [] g0 rfl (fun _ _=>rfl) fun O x=>by kernel_rfl
theorem uI:Vd Tryz.prog 85 Lb:=vt mix iE RB [(110,Ua)] (gs ye g0) rfl (fun _ _=>rfl) fun O x=>by kernel_rfl
theorem f9:Vd Tryz.prog 66 JD:=vt mix f7 RP [(82,KX),(83,N1),(84,VA),(85,Lb)] (gs pg (gs vd (gs yS (gs uI g0)))) rfl (fun _ _=>rfl) fun O x=>by kernel_rfl
theorem Wg:Vd Tryz.prog 89 Ew:=vt mix hC Q8 [] g0 rfl (fun _ _=>rfl) fun O x=>by kernel_rfl
def lr:Cfg:={ gam:=[],imm:=false,old:=false }
theorem uc (O:Alg) (x:Ags O):XF (O:=O) Tryz.prog lr false false [] 68 [] (xr x Ze 0)=PZ O x:=by kernel_rfl
theorem TQ {E:Env} {M:Nat} (N:Nat) (h:∀ ls,E 68 [] ls=DN N ls):VV Tryz.prog E M ⟨68,[],false,false,[]⟩ :=
 A1 mix (E:=J1 N) (N:=N) (cfg:=lr) (ci:=⟨68,[],false,false,[]⟩) (ks:=Ze) BU (c:=DN N) (F:=fun ls=>PZ (std (J1 N) N) (xOf ls)) (fun ls=>rfl) (fun ls=>uc (std (J1 N) N) (xOf ls)) h
def aP:Cfg:={ gam:=[⟨65,[],true,true,[]⟩,⟨68,[],false,false,[]⟩,⟨109,[],true,true,[]⟩],imm:=false,old:=false }
theorem mQ (O:Alg) (x:Ags O):XF (O:=O) Tryz.prog aP true true [] 111 [] (xr x SG 0)=I6 O x:=by kernel_rfl
theorem pB:Vd Tryz.prog 111 Ij:=fun N h =>
 A1 mix (E:=Cp N) (N:=N) (cfg:=aP) (ci:=⟨111,[],true,true,[]⟩) (ks:=SG) (AH (XM N (fun _=>rfl)) (AH (TQ N (fun _=>rfl)) (AH (dy N (fun _=>rfl)) BU))) (c:=Ij N) (F:=fun ls=>I6 (std (Cp N) N) (xOf ls)) (fun ls=>rfl) (fun ls=>mQ (std (Cp N) N) (xOf ls)) h
theorem tu:Vd Tryz.prog 112 Qh:=vt mix gm Qv [(49,Aj),(130,FD)] (gs Dt (gs im g0)) rfl (fun _ _=>rfl) fun O x=>by kernel_rfl
theorem bJ:Vd Tryz.prog 114 Fu:=vt mix aN MR [(80,DD)] (gs XA g0) rfl (fun _ _=>rfl) fun O x=>by kernel_rfl
theorem ON:Vd Tryz.prog 179 Bf:=vt mix cO Pe [] g0 rfl (fun _ _=>rfl) fun O x=>by kernel_rfl
theorem v8:Vd Tryz.prog 144 TZ:=vt mix jc Tc [(107,AO),(133,Bh),(179,Bf)] (gs B7 (gs RE (gs ON g0))) rfl (fun _ _=>rfl) fun O x=>by kernel_rfl
theorem Hf:Vd Tryz.prog 189 A4:=vt mix YN LF [] g0 rfl (fun _ _=>rfl) fun O x=>by kernel_rfl
theorem UW:Vd Tryz.prog 207 Cb:=vt mix ct OY [] g0 rfl (fun _ _=>rfl) fun O x=>by kernel_rfl
theorem vX:Vd Tryz.prog 208 OU:=vt mix jh Tj [(49,Aj),(207,Cb)] (gs Dt (gs UW g0)) rfl (fun _ _=>rfl) fun O x=>by kernel_rfl
theorem nK:Vd Tryz.prog 209 H3:=vt mix oA V8 [] g0 rfl (fun _ _=>rfl) fun O x=>by kernel_rfl
theorem xz:Vd Tryz.prog 180 Rb:=vt mix nN WT [(49,Aj),(189,A4),(207,Cb),(208,OU),(209,H3)] (gs Dt (gs Hf (gs UW (gs vX (gs nK g0))))) rfl (fun _ _=>rfl) fun O x=>by kernel_rfl
theorem vk:Vd Tryz.prog 145 Ti:=vt mix jt TC [(107,AO),(180,Rb)] (gs B7 (gs xz g0)) rfl (fun _ _=>rfl) fun O x=>by kernel_rfl
theorem ss:Vd Tryz.prog 26 Qu:=vt mix hP gX [] g0 rfl (fun _ _=>rfl) fun O x=>by kernel_rfl
theorem yf:Vd Tryz.prog 91 Tt:=vt mix sE jS [] g0 rfl (fun _ _=>rfl) fun O x=>by kernel_rfl
theorem nD:Vd Tryz.prog 92 HQ:=vt mix YW Kx [] g0 rfl (fun _ _=>rfl) fun O x=>by kernel_rfl
theorem gq:Vd Tryz.prog 70 Gm:=vt mix gS RG [(91,Tt),(92,HQ)] (gs yf (gs nD g0)) rfl (fun _ _=>rfl) fun O x=>by kernel_rfl
theorem mS:Vd Tryz.prog 71 HZ:=vt mix YL K9 [] g0 rfl (fun _ _=>rfl) fun O x=>by kernel_rfl
theorem tP:Vd Tryz.prog 72 Lz:=vt mix gk RK [] g0 rfl (fun _ _=>rfl) fun O x=>by kernel_rfl
theorem dK:Vd Tryz.prog 53 HG:=vt mix de OK [(70,Gm),(71,HZ),(72,Lz)] (gs gq (gs mS (gs tP g0))) rfl (fun _ _=>rfl) fun O x=>by kernel_rfl
theorem UH:Vd Tryz.prog 156 CQ:=vt mix dc HE [(133,Bh)] (gs RE g0) rfl (fun _ _=>rfl) fun O x=>by kernel_rfl
theorem Oj:Vd Tryz.prog 188 Bc:=vt mix cX PA [] g0 rfl (fun _ _=>rfl) fun O x=>by kernel_rfl
theorem oW:Vd Tryz.prog 210 Iz:=vt mix bB MH [] g0 rfl (fun _ _=>rfl) fun O x=>by kernel_rfl
theorem tY:Vd Tryz.prog 181 Q3:=vt mix gU Qq [(188,Bc),(189,A4),(210,Iz)] (gs Oj (gs Hf (gs oW g0))) rfl (fun _ _=>rfl) fun O x=>by kernel_rfl
theorem l7:Vd Tryz.prog 211 Hr:=vt mix X1 LM [] g0 rfl (fun _ _=>rfl) fun O x=>by kernel_rfl
theorem yH:Vd Tryz.prog 212 Ur:=vt mix qd Z5 [] g0 rfl (fun _ _=>rfl) fun O x=>by kernel_rfl
theorem qK:Vd Tryz.prog 213 Ka:=vt mix eg OH [] g0 rfl (fun _ _=>rfl) fun O x=>by kernel_rfl
theorem mM:Vd Tryz.prog 182 K6:=vt mix YJ LL [(211,Hr),(212,Ur),(213,Ka)] (gs l7 (gs yH (gs qK g0))) rfl (fun _ _=>rfl) fun O x=>by kernel_rfl
theorem uD:Vd Tryz.prog 183 Q6:=vt mix fu Qo [(188,Bc),(189,A4)] (gs Oj (gs Hf g0)) rfl (fun _ _=>rfl) fun O x=>by kernel_rfl
theorem cW:Vd Tryz.prog 186 FK:=vt mix cK N6 [(107,AO)] (gs B7 g0) rfl (fun _ _=>rfl) fun O x=>by kernel_rfl
theorem xh:Vd Tryz.prog 184 WQ:=vt mix oC WB [(107,AO),(179,Bf),(186,FK)] (gs B7 (gs ON (gs cW g0))) rfl (fun _ _=>rfl) fun O x=>by kernel_rfl
theorem vM:Vd Tryz.prog 185 TP:=vt mix lK Te [(49,Aj),(107,AO),(207,Cb),(209,H3)] (gs Dt (gs B7 (gs UW (gs nK g0)))) rfl (fun _ _=>rfl) fun O x=>by kernel_rfl
def lU:Cfg:={ gam:=[⟨26,[],true,true,[]⟩,⟨53,[],true,true,[]⟩,⟨70,[],true,true,[]⟩,⟨156,[],true,true,[]⟩,⟨181,[],true,true,[]⟩,⟨182,[],true,true,[]⟩,⟨183,[],true,true,[]⟩,⟨184,[],true,true,[]⟩,⟨185,[],true,true,[]⟩,⟨186,[],true,true,[]⟩],imm:=false,old:=false }
theorem su (O:Alg) (x:Ags O):XF (O:=O) Tryz.prog lU false false [] 146 [] (xr x ZI 0)=O1 O x:=by kernel_rfl
theorem wX {E:Env} {M:Nat} (N:Nat) (h:∀ ls,E 146 [] ls=Oh N ls):VV Tryz.prog E M ⟨146,[],false,false,[]⟩ :=
 A1 mix (E:=BR N) (N:=N) (cfg:=lU) (ci:=⟨146,[],false,false,[]⟩) (ks:=ZI) (AH (ss N (fun _=>rfl)) (AH (dK N (fun _=>rfl)) (AH (gq N (fun _=>rfl)) (AH (UH N (fun _=>rfl)) (AH (tY N (fun _=>rfl)) (AH (mM N (fun _=>rfl)) (AH (uD N (fun _=>rfl)) (AH (xh N (fun _=>rfl)) (AH (vM N (fun _=>rfl)) (AH (cW N (fun _=>rfl)) BU)))))))))) (c:=Oh N) (F:=fun ls=>O1 (std (BR N) N) (xOf ls)) (fun ls=>rfl) (fun ls=>su (std (BR N) N) (xOf ls)) h
theorem hY:Vd Tryz.prog 187 Et:=vt mix iB Q0 [(156,CQ),(179,Bf)] (gs UH (gs ON g0)) rfl (fun _ _=>rfl) fun O x=>by kernel_rfl
theorem pM:Vd Tryz.prog 147 Mi:=vt mix az Mr [(107,AO),(187,Et)] (gs B7 (gs hY g0)) rfl (fun _ _=>rfl) fun O x=>by kernel_rfl
theorem tn:Vd Tryz.prog 148 Qm:=vt mix gP Qz [(107,AO),(187,Et)] (gs B7 (gs hY g0)) rfl (fun _ _=>rfl) fun O x=>by kernel_rfl
theorem kw:Vd Tryz.prog 157 Eh:=vt mix kf Ky [] g0 rfl (fun _ _=>rfl) fun O x=>by kernel_rfl
theorem py:Vd Tryz.prog 149 Pd:=vt mix dT Nv [(107,AO),(157,Eh),(179,Bf)] (gs B7 (gs kw (gs ON g0))) rfl (fun _ _=>rfl) fun O x=>by kernel_rfl
theorem oe:Vd Tryz.prog 150 Md:=vt mix bA Mo [(107,AO)] (gs B7 g0) rfl (fun _ _=>rfl) fun O x=>by kernel_rfl
theorem qB:Vd Tryz.prog 151 Pa:=vt mix dZ OE [(107,AO),(188,Bc),(189,A4)] (gs B7 (gs Oj (gs Hf g0))) rfl (fun _ _=>rfl) fun O x=>by kernel_rfl
theorem jN:Vd Tryz.prog 152 IW:=vt mix UX Ib [(107,AO),(188,Bc),(189,A4)] (gs B7 (gs Oj (gs Hf g0))) rfl (fun _ _=>rfl) fun O x=>by kernel_rfl
theorem oX:Vd Tryz.prog 153 M0:=vt mix aW Me [(49,Aj),(107,AO)] (gs Dt (gs B7 g0)) rfl (fun _ _=>rfl) fun O x=>by kernel_rfl
def eO:Cfg:={ gam:=[],imm:=false,old:=false }
theorem o9 (O:Alg) (x:Ags O):XF (O:=O) Tryz.prog eO false false [] 154 [] (xr x U0 0)=HC O x:=by kernel_rfl
theorem sC {E:Env} {M:Nat} (N:Nat) (h:∀ ls,E 154 [] ls=KI N ls):VV Tryz.prog E M ⟨154,[],false,false,[]⟩ :=
 A1 mix (E:=Hd N) (N:=N) (cfg:=eO) (ci:=⟨154,[],false,false,[]⟩) (ks:=U0) BU (c:=KI N) (F:=fun ls=>HC (std (Hd N) N) (xOf ls)) (fun ls=>rfl) (fun ls=>o9 (std (Hd N) N) (xOf ls)) h
theorem tc:Vd Tryz.prog 190 Qp:=vt mix gN gK [] g0 rfl (fun _ _=>rfl) fun O x=>by kernel_rfl
def eR:Cfg:={ gam:=[⟨190,[],true,true,[]⟩],imm:=false,old:=false }
theorem ol (O:Alg) (x:Ags O):XF (O:=O) Tryz.prog eR false false [] 155 [] (xr x VD 0)=KN O x:=by kernel_rfl
theorem sQ {E:Env} {M:Nat} (N:Nat) (h:∀ ls,E 155 [] ls=J9 N ls):VV Tryz.prog E M ⟨155,[],false,false,[]⟩ :=
 A1 mix (E:=E7 N) (N:=N) (cfg:=eR) (ci:=⟨155,[],false,false,[]⟩) (ks:=VD) (AH (tc N (fun _=>rfl)) BU) (c:=J9 N) (F:=fun ls=>KN (std (E7 N) N) (xOf ls)) (fun ls=>rfl) (fun ls=>ol (std (E7 N) N) (xOf ls)) h
def nY:Cfg:={ gam:=[⟨114,[],true,true,[]⟩,⟨144,[],true,true,[]⟩,⟨145,[],true,true,[]⟩,⟨146,[],false,false,[]⟩,⟨147,[],true,true,[]⟩,⟨148,[],true,true,[]⟩,⟨149,[],true,true,[]⟩,⟨150,[],true,true,[]⟩,⟨151,[],true,true,[]⟩,⟨152,[],true,true,[]⟩,⟨153,[],true,true,[]⟩,⟨154,[],false,false,[]⟩,⟨155,[],false,false,[]⟩],imm:=false,old:=false }
theorem wI (O:Alg) (x:Ags O):XF (O:=O) Tryz.prog nY false false [] 134 [] (xr x cV 0)=NJ O x:=by kernel_rfl
theorem xT {E:Env} {M:Nat} (N:Nat) (h:∀ ls,E 134 [] ls=SA N ls):VV Tryz.prog E M ⟨134,[],false,false,[]⟩ :=
 A1 mix (E:=BG N) (N:=N) (cfg:=nY) (ci:=⟨134,[],false,false,[]⟩) (ks:=cV) (AH (bJ N (fun _=>rfl)) (AH (v8 N (fun _=>rfl)) (AH (vk N (fun _=>rfl)) (AH (wX N (fun _=>rfl)) (AH (pM N (fun _=>rfl)) (AH (tn N (fun _=>rfl)) (AH (py N (fun _=>rfl)) (AH (oe N (fun _=>rfl)) (AH (qB N (fun _=>rfl)) (AH (jN N (fun _=>rfl)) (AH (oX N (fun _=>rfl)) (AH (sC N (fun _=>rfl)) (AH (sQ N (fun _=>rfl)) BU))))))))))))) (c:=SA N) (F:=fun ls=>NJ (std (BG N) N) (xOf ls)) (fun ls=>rfl) (fun ls=>wI (std (BG N) N) (xOf ls)) h
theorem qo:Vd Tryz.prog 135 J8:=vt mix cu PS [(108,Cs),(156,CQ),(157,Eh)] (gs W3 (gs UH (gs kw g0))) rfl (fun _ _=>rfl) fun O x=>by kernel_rfl
def lT:Cfg:={ gam:=[⟨66,[],true,true,[]⟩,⟨80,[],true,true,[]⟩,⟨108,[],true,true,[]⟩,⟨133,[],true,true,[]⟩,⟨134,[],false,false,[]⟩,⟨135,[],true,true,[]⟩],imm:=false,old:=false }
theorem uM (O:Alg) (x:Ags O):XF (O:=O) Tryz.prog lT false false [] 113 [] (xr x ZV 0)=Ou O x:=by kernel_rfl
theorem jW {E:Env} {M:Nat} (N:Nat) (h:∀ ls,E 113 [] ls=IJ N ls):VV Tryz.prog E M ⟨113,[],false,false,[]⟩ :=
 A1 mix (E:=CX N) (N:=N) (cfg:=lT) (ci:=⟨113,[],false,false,[]⟩) (ks:=ZV) (AH (f9 N (fun _=>rfl)) (AH (XA N (fun _=>rfl)) (AH (W3 N (fun _=>rfl)) (AH (RE N (fun _=>rfl)) (AH (xT N (fun _=>rfl)) (AH (qo N (fun _=>rfl)) BU)))))) (c:=IJ N) (F:=fun ls=>Ou (std (CX N) N) (xOf ls)) (fun ls=>rfl) (fun ls=>uM (std (CX N) N) (xOf ls)) h
def lV:Cfg:={ gam:=[⟨86,[],true,true,[]⟩,⟨89,[],true,true,[]⟩,⟨111,[],true,true,[]⟩,⟨112,[],true,true,[]⟩,⟨113,[],false,false,[]⟩],imm:=false,old:=false }
theorem tS (O:Alg) (x:Ags O):XF (O:=O) Tryz.prog lV false false [true,false] 87 [] (xr x Zm 0)=Of O x:=by kernel_rfl
theorem vf {E:Env} {M:Nat} (N:Nat) (h:∀ ls,E 87 [] ls=PD N ls):VV Tryz.prog E M ⟨87,[],false,false,[true,false]⟩ :=
 A1 mix (E:=Cw N) (N:=N) (cfg:=lV) (ci:=⟨87,[],false,false,[true,false]⟩) (ks:=Zm) (AH (MD N (fun _=>rfl)) (AH (Wg N (fun _=>rfl)) (AH (pB N (fun _=>rfl)) (AH (tu N (fun _=>rfl)) (AH (jW N (fun _=>rfl)) BU))))) (c:=PD N) (F:=fun ls=>Of (std (Cw N) N) (xOf ls)) (fun ls=>rfl) (fun ls=>tS (std (Cw N) N) (xOf ls)) h
def lF:Cfg:={ gam:=[⟨113,[],false,false,[]⟩,⟨114,[],true,true,[]⟩],imm:=true,old:=true }
theorem tW (O:Alg) (x:Ags O):XF (O:=O) Tryz.prog lF false false [true,false] 88 [] (xr x Zc 0)=O6 O x:=by kernel_rfl
theorem vZ {E:Env} {M:Nat} (N:Nat) (h:∀ ls,E 88 [] ls=OZ N ls):VV Tryz.prog E M ⟨88,[],false,false,[true,false]⟩ :=
 A1 mix (E:=FO N) (N:=N) (cfg:=lF) (ci:=⟨88,[],false,false,[true,false]⟩) (ks:=Zc) (AH (jW N (fun _=>rfl)) (AH (bJ N (fun _=>rfl)) BU)) (c:=OZ N) (F:=fun ls=>O6 (std (FO N) N) (xOf ls)) (fun ls=>rfl) (fun ls=>tW (std (FO N) N) (xOf ls)) h
def nP:Cfg:={ gam:=[⟨86,[],true,true,[]⟩,⟨87,[],false,false,[true,false]⟩,⟨88,[],false,false,[true,false]⟩],imm:=false,old:=false }
theorem vF (O:Alg) (x:Ags O):XF (O:=O) Tryz.prog nP false false [true,false] 67 [] (xr x eh 0)=R2 O x:=by kernel_rfl
theorem xG {E:Env} {M:Nat} (N:Nat) (h:∀ ls,E 67 [] ls=R5 N ls):VV Tryz.prog E M ⟨67,[],false,false,[true,false]⟩ :=
 A1 mix (E:=Er N) (N:=N) (cfg:=nP) (ci:=⟨67,[],false,false,[true,false]⟩) (ks:=eh) (AH (MD N (fun _=>rfl)) (AH (vf N (fun _=>rfl)) (AH (vZ N (fun _=>rfl)) BU))) (c:=R5 N) (F:=fun ls=>R2 (std (Er N) N) (xOf ls)) (fun ls=>rfl) (fun ls=>vF (std (Er N) N) (xOf ls)) h
def aV:Cfg:={ gam:=[⟨65,[],true,true,[]⟩,⟨68,[],false,false,[]⟩,⟨86,[],true,true,[]⟩,⟨89,[],true,true,[]⟩],imm:=false,old:=false }
theorem mg (O:Alg) (x:Ags O):XF (O:=O) Tryz.prog aV true true [] 90 [] (xr x SY 0)=JA O x:=by kernel_rfl
theorem oo:Vd Tryz.prog 90 Iu:=fun N h =>
 A1 mix (E:=CK N) (N:=N) (cfg:=aV) (ci:=⟨90,[],true,true,[]⟩) (ks:=SY) (AH (XM N (fun _=>rfl)) (AH (TQ N (fun _=>rfl)) (AH (MD N (fun _=>rfl)) (AH (Wg N (fun _=>rfl)) BU)))) (c:=Iu N) (F:=fun ls=>JA (std (CK N) N) (xOf ls)) (fun ls=>rfl) (fun ls=>mg (std (CK N) N) (xOf ls)) h
def eK:Cfg:={ gam:=[⟨68,[],false,false,[]⟩,⟨86,[],true,true,[]⟩,⟨89,[],true,true,[]⟩,⟨90,[],true,true,[]⟩],imm:=false,old:=false }
theorem oj (O:Alg) (x:Ags O):XF (O:=O) Tryz.prog eK false false [] 69 [] (xr x UD 0)=Ki O x:=by kernel_rfl
theorem sU {E:Env} {M:Nat} (N:Nat) (h:∀ ls,E 69 [] ls=KZ N ls):VV Tryz.prog E M ⟨69,[],false,false,[]⟩ :=
 A1 mix (E:=Cd N) (N:=N) (cfg:=eK) (ci:=⟨69,[],false,false,[]⟩) (ks:=UD) (AH (TQ N (fun _=>rfl)) (AH (MD N (fun _=>rfl)) (AH (Wg N (fun _=>rfl)) (AH (oo N (fun _=>rfl)) BU)))) (c:=KZ N) (F:=fun ls=>Ki (std (Cd N) N) (xOf ls)) (fun ls=>rfl) (fun ls=>oj (std (Cd N) N) (xOf ls)) h
def lP:Cfg:={ gam:=[⟨64,[],true,true,[]⟩,⟨65,[],true,true,[]⟩,⟨66,[],true,true,[]⟩,⟨67,[],false,false,[true,false]⟩,⟨68,[],false,false,[]⟩,⟨69,[],false,false,[]⟩],imm:=false,old:=false }
theorem tx (O:Alg) (x:Ags O):XF (O:=O) Tryz.prog lP false false [] 52 [] (xr x ZE 0)=OG O x:=by kernel_rfl
theorem kO {E:Env} {M:Nat} (N:Nat) (h:∀ ls,E 52 [] ls=IX N ls):VV Tryz.prog E M ⟨52,[],false,false,[]⟩ :=
 A1 mix (E:=CW N) (N:=N) (cfg:=lP) (ci:=⟨52,[],false,false,[]⟩) (ks:=ZE) (AH (sv N (fun _=>rfl)) (AH (XM N (fun _=>rfl)) (AH (f9 N (fun _=>rfl)) (AH (xG N (fun _=>rfl)) (AH (TQ N (fun _=>rfl)) (AH (sU N (fun _=>rfl)) BU)))))) (c:=IX N) (F:=fun ls=>OG (std (CW N) N) (xOf ls)) (fun ls=>rfl) (fun ls=>tx (std (CW N) N) (xOf ls)) h
def jx:Cfg:={ gam:=[⟨52,[],false,false,[]⟩],imm:=true,old:=true }
theorem uW (O:Alg) (x:Ags O):XF (O:=O) Tryz.prog jx false false [] 62 [] (xr x Ys 0)=N9 O x:=by kernel_rfl
theorem wh {E:Env} {M:Nat} (N:Nat) (h:∀ ls,E 62 [] ls=N7 N ls):VV Tryz.prog E M ⟨62,[],false,false,[]⟩ :=
 A1 mix (E:=HH N) (N:=N) (cfg:=jx) (ci:=⟨62,[],false,false,[]⟩) (ks:=Ys) (AH (kO N (fun _=>rfl)) BU) (c:=N7 N) (F:=fun ls=>N9 (std (HH N) N) (xOf ls)) (fun ls=>rfl) (fun ls=>uW (std (HH N) N) (xOf ls)) h
def cf:Cfg:={ gam:=[⟨51,[],true,true,[]⟩,⟨62,[],false,false,[]⟩],imm:=false,old:=false }
theorem o4 (O:Alg) (x:Ags O):XF (O:=O) Tryz.prog cf false false [] 50 [] (xr x UF 0)=KV O x:=by kernel_rfl
theorem dB {E:Env} {M:Nat} (N:Nat) (h:∀ ls,E 50 [] ls=E9 N ls):VV Tryz.prog E M ⟨50,[],false,false,[]⟩ :=
 A1 mix (E:=Dj N) (N:=N) (cfg:=cf) (ci:=⟨50,[],false,false,[]⟩) (ks:=UF) (AH (np N (fun _=>rfl)) (AH (wh N (fun _=>rfl)) BU)) (c:=E9 N) (F:=fun ls=>KV (std (Dj N) N) (xOf ls)) (fun ls=>rfl) (fun ls=>o4 (std (Dj N) N) (xOf ls)) h
def fj:Cfg:={ gam:=[⟨49,[],true,true,[]⟩,⟨50,[],false,false,[]⟩],imm:=false,old:=false }
theorem qs (O:Alg) (x:Ags O):XF (O:=O) Tryz.prog fj true true [] 36 [] (xr x Wy 0)=MC O x:=by kernel_rfl
theorem tq:Vd Tryz.prog 36 L6:=fun N h =>
 A1 mix (E:=EP N) (N:=N) (cfg:=fj) (ci:=⟨36,[],true,true,[]⟩) (ks:=Wy) (AH (Dt N (fun _=>rfl)) (AH (dB N (fun _=>rfl)) BU)) (c:=L6 N) (F:=fun ls=>MC (std (EP N) N) (xOf ls)) (fun ls=>rfl) (fun ls=>qs (std (EP N) N) (xOf ls)) h
theorem pe:Vd Tryz.prog 37 OP:=vt mix dL Ot [] g0 rfl (fun _ _=>rfl) fun O x=>by kernel_rfl
def lc:Cfg:={ gam:=[⟨50,[],false,false,[]⟩,⟨51,[],true,true,[]⟩,⟨52,[],false,false,[]⟩,⟨53,[],true,true,[]⟩],imm:=false,old:=true,ie:=[116,76,3,47,72,109,156,4,5,139,152,89,60,197] }
theorem tj (O:Alg) (x:Ags O):XF (O:=O) Tryz.prog lc false false [] 38 [] (xr x Z6 0)=N5 O x:=by kernel_rfl
theorem we {E:Env} {M:Nat} (N:Nat) (h:∀ ls,E 38 [] ls=OS N ls):VV Tryz.prog E M ⟨38,[],false,false,[]⟩ :=
 A1 mix (E:=DF N) (N:=N) (cfg:=lc) (ci:=⟨38,[],false,false,[]⟩) (ks:=Z6) (AH (dB N (fun _=>rfl)) (AH (np N (fun _=>rfl)) (AH (kO N (fun _=>rfl)) (AH (dK N (fun _=>rfl)) BU)))) (c:=OS N) (F:=fun ls=>N5 (std (DF N) N) (xOf ls)) (fun ls=>rfl) (fun ls=>tj (std (DF N) N) (xOf ls)) h
theorem oz:Vd Tryz.prog 39 MI:=vt mix am Mn [] g0 rfl (fun _ _=>rfl) fun O x=>by kernel_rfl
def pi:Cfg:={ gam:=[⟨36,[],true,true,[]⟩,⟨37,[],true,true,[]⟩,⟨38,[],false,false,[]⟩,⟨39,[],true,true,[]⟩],imm:=false,old:=false }
theorem wo (O:Alg) (x:Ags O):XF (O:=O) Tryz.prog pi false false [] 24 [] (xr x ir 0)=UU O x:=by kernel_rfl
theorem zJ {E:Env} {M:Nat} (N:Nat) (h:∀ ls,E 24 [] ls=Uj N ls):VV Tryz.prog E M ⟨24,[],false,false,[]⟩ :=
 A1 mix (E:=Ep N) (N:=N) (cfg:=pi) (ci:=⟨24,[],false,false,[]⟩) (ks:=ir) (AH (tq N (fun _=>rfl)) (AH (pe N (fun _=>rfl)) (AH (we N (fun _=>rfl)) (AH (oz N (fun _=>rfl)) BU)))) (c:=Uj N) (F:=fun ls=>UU (std (Ep N) N) (xOf ls)) (fun ls=>rfl) (fun ls=>wo (std (Ep N) N) (xOf ls)) h
def iA:Cfg:={ gam:=[⟨24,[],false,false,[]⟩],imm:=false,old:=false }
theorem rP (O:Alg) (x:Ags O):XF (O:=O) Tryz.prog iA true true [] 10 [] (xr x Wz 0)=L1 O x:=by kernel_rfl
theorem tX:Vd Tryz.prog 10 L8:=fun N h =>
 A1 mix (E:=Fx N) (N:=N) (cfg:=iA) (ci:=⟨10,[],true,true,[]⟩) (ks:=Wz) (AH (zJ N (fun _=>rfl)) BU) (c:=L8 N) (F:=fun ls=>L1 (std (Fx N) N) (xOf ls)) (fun ls=>rfl) (fun ls=>rP (std (Fx N) N) (xOf ls)) h
def Rq:Cfg:={ gam:=[⟨7,[],true,true,[]⟩,⟨8,[],false,false,[]⟩,⟨9,[],true,true,[]⟩,⟨10,[],true,true,[]⟩,⟨11,[],true,true,[]⟩],imm:=false,old:=false }
theorem bc (O:Alg) (x:Ags O):XF (O:=O) Tryz.prog Rq true true [] 3 [] (xr x Kf 0)=EA O x:=by kernel_rfl
theorem cF:Vd Tryz.prog 3 D9:=fun N h =>
 A1 mix (E:=BA N) (N:=N) (cfg:=Rq) (ci:=⟨3,[],true,true,[]⟩) (ks:=Kf) (AH (tA N (fun _=>rfl)) (AH (xP N (fun _=>rfl)) (AH (bG N (fun _=>rfl)) (AH (tX N (fun _=>rfl)) (AH (R8 N (fun _=>rfl)) BU))))) (c:=D9 N) (F:=fun ls=>EA (std (BA N) N) (xOf ls)) (fun ls=>rfl) (fun ls=>bc (std (BA N) N) (xOf ls)) h
end Go.Px
