/- Part 16. -/
import Derived.Test.YtdpnocjfbplgjaaGreatPart07
import Derived.Test.YtdpnocjfbplgjaaGreatProg
import Derived.Test.YtdpnocjfbplgjaaGreatPart09
import Derived.KernelRfl
import Derived.WalkKit
import Derived.Lib.Walk
import Derived.BigCall
import Derived.BigGuard
set_option linter.unusedVariables false
set_option linter.unusedSimpArgs false
namespace Go.Px
open Go.Proofs
set_option maxRecDepth 100000
theorem mix:Tryz.prog.follows .mixedOrders=true:=by kernel_rfl
theorem un:Vd Tryz.prog 54 Lm:=vt mix gD Qs [] g0 rfl (fun _ _=>rfl) fun O x=>by kernel_rfl
theorem WZ:Vd Tryz.prog 73 Cr:=vt mix Wk V5 [] g0 rfl (fun _ _=>rfl) fun O x=>by kernel_rfl
theorem j0:Vd Tryz.prog 55 GP:=vt mix Wf Jd [(73,Cr)] (gs WZ g0) rfl (fun _ _=>rfl) fun O x=>by kernel_rfl
theorem mP:Vd Tryz.prog 56 HC:=vt mix Y1 K9 [(73,Cr)] (gs WZ g0) rfl (fun _ _=>rfl) fun O x=>by kernel_rfl
theorem C3:Vd Tryz.prog 40 AS:=vt mix bM Mq [(54,Lm),(55,GP),(56,HC)] (gs un (gs j0 (gs mP g0))) rfl (fun _ _=>rfl) fun O x=>by kernel_rfl
theorem Zl:Vd Tryz.prog 74 DS:=fun N h =>
 Qk mix (T:=22) (e:=116) (b:=24) Tryz.func74 Tryz.underlying22 (by kernel_rfl) (by decide) (fun O l=>by kernel_rfl) (fun O l=>by kernel_rfl) h
theorem ao:Vd Tryz.prog 58 DY:=vt mix bA Mo [(74,DS)] (gs Zl g0) rfl (fun _ _=>rfl) fun O x=>by kernel_rfl
theorem tz:Vd Tryz.prog 46 Qj:=vt mix iB Qu [(40,AS),(58,DY)] (gs C3 (gs ao g0)) rfl (fun _ _=>rfl) fun O x=>by kernel_rfl
theorem Ed:Vd Tryz.prog 115 Ap:=vt mix So S5 [] g0 rfl (fun _ _=>rfl) fun O x=>by kernel_rfl
theorem fw:Vd Tryz.prog 116 Ea:=vt mix S6 G6 [(115,Ap)] (gs Ed g0) rfl (fun _ _=>rfl) fun O x=>by kernel_rfl
theorem cR:Vd Tryz.prog 158 D9:=vt mix Rh GN [] g0 rfl (fun _ _=>rfl) fun O x=>by kernel_rfl
theorem Hp:Vd Tryz.prog 136 Av:=vt mix NW EI [(158,D9)] (gs cR g0) rfl (fun _ _=>rfl) fun O x=>by kernel_rfl
theorem cG:Vd Tryz.prog 117 Di:=vt mix Pz FZ [(115,Ap),(136,Av)] (gs Ed (gs Hp g0)) rfl (fun _ _=>rfl) fun O x=>by kernel_rfl
theorem bq:Vd Tryz.prog 138 Dh:=vt mix P5 Fh [(115,Ap)] (gs Ed g0) rfl (fun _ _=>rfl) fun O x=>by kernel_rfl
theorem fc:Vd Tryz.prog 118 EY:=vt mix Sq G5 [(138,Dh)] (gs bq g0) rfl (fun _ _=>rfl) fun O x=>by kernel_rfl
theorem On:Vd Tryz.prog 93 BO:=vt mix WK Jh [(40,AS),(115,Ap),(116,Ea),(117,Di),(118,EY)] (gs C3 (gs Ed (gs fw (gs cG (gs fc g0))))) rfl (fun _ _=>rfl) fun O x=>by kernel_rfl
theorem Mc:Vd Tryz.prog 101 BP:=vt mix bH MV [] g0 rfl (fun _ _=>rfl) fun O x=>by kernel_rfl
theorem bi:Vd Tryz.prog 94 DW:=vt mix bX MP [(101,BP)] (gs Mc g0) rfl (fun _ _=>rfl) fun O x=>by kernel_rfl
theorem po:Vd Tryz.prog 95 Ix:=vt mix ac Mr [] g0 rfl (fun _ _=>rfl) fun O x=>by kernel_rfl
theorem bc:Vd Tryz.prog 75 Da:=vt mix aZ Md [(40,AS),(93,BO),(94,DW),(95,Ix)] (gs C3 (gs On (gs bi (gs po g0)))) rfl (fun _ _=>rfl) fun O x=>by kernel_rfl
theorem nZ:Vd Tryz.prog 96 HD:=vt mix YY LJ [] g0 rfl (fun _ _=>rfl) fun O x=>by kernel_rfl
theorem lT:Vd Tryz.prog 97 GZ:=vt mix WR PZ [] g0 rfl (fun _ _=>rfl) fun O x=>by kernel_rfl
open Go.RowKit Go.Lib in
set_option maxHeartbeats 1000000 in
theorem Tf (s:ByteArray) (c:Int) (w:World):Calls Tryz.prog 139 #[.string s,.int .u8 c] w fun e w'=>e=.returned (.int .i64 (Lib.indexByte s.data.toList c.toNat.toUInt8))∧w'=w:=by
 go_enter Tryz.func139,Tryz.ntmps139
 go_wp2
 rw [run_callFunc_extern Tryz.func160 (by kernel_rfl) (by kernel_rfl) (by kernel_rfl) (e:=Extern.BytealgIndexByte.indexByte) (by kernel_rfl),Lib.run_indexByteString]
 simp only [Result.andThen]
 rw [Oper.upon_value]
 go_wp2
 go_ret
 exact ⟨rfl,rfl⟩
theorem Vg:Vd Tryz.prog 139 Ci:=fun N h =>
 tX Tryz.func139 (T9:=9) (T5:=5) (T3:=3) rfl rfl Tryz.underlying9 Tryz.underlying5 Tryz.underlying3 (by kernel_rfl) Tf h
theorem bu:Vd Tryz.prog 119 Df:=vt mix Pw Fc [(139,Ci)] (gs Vg g0) rfl (fun _ _=>rfl) fun O x=>by kernel_rfl
theorem pR:Vd Tryz.prog 120 F4:=vt mix bJ bP [] g0 rfl (fun _ _=>rfl) fun O x=>by kernel_rfl
theorem rm:Vd Tryz.prog 98 KE:=vt mix dH OV [(119,Df),(120,F4)] (gs bu (gs pR g0)) rfl (fun _ _=>rfl) fun O x=>by kernel_rfl
theorem ct:Vd Tryz.prog 121 D7:=vt mix SD KS [] g0 rfl (fun _ _=>rfl) fun O x=>by kernel_rfl
theorem jS:Vd Tryz.prog 99 FU:=vt mix U8 IX [(121,D7)] (gs ct g0) rfl (fun _ _=>rfl) fun O x=>by kernel_rfl
theorem ar:Vd Tryz.prog 76 DV:=vt mix aW JA [(96,HD),(97,GZ),(98,KE),(99,FU)] (gs nZ (gs lT (gs rm (gs jS g0)))) rfl (fun _ _=>rfl) fun O x=>by kernel_rfl
theorem EJ:Vd Tryz.prog 122 AU:=fun N h =>
 Qk mix (T:=106) (e:=156) (b:=1) Tryz.func122 Tryz.underlying106 (by kernel_rfl) (by decide) (fun O l=>by kernel_rfl) (fun O l=>by kernel_rfl) h
theorem GR:Vd Tryz.prog 123 Al:=fun N h =>
 Qk mix (T:=30) (e:=3) (b:=8) Tryz.func123 Tryz.underlying30 (by kernel_rfl) (by decide) (fun O l=>by kernel_rfl) (fun O l=>by kernel_rfl) h
theorem Ff:Vd Tryz.prog 124 Ah:=fun N h =>
 Qk mix (T:=107) (e:=4) (b:=1) Tryz.func124 Tryz.underlying107 (by kernel_rfl) (by decide) (fun O l=>by kernel_rfl) (fun O l=>by kernel_rfl) h
theorem Cm:Vd Tryz.prog 100 AQ:=vt mix Vs Jr [(122,AU),(123,Al),(124,Ah)] (gs EJ (gs GR (gs Ff g0))) rfl (fun _ _=>rfl) fun O x=>by kernel_rfl
theorem pZ:Vd Tryz.prog 77 I6:=vt mix ah M1 [(58,DY),(100,AQ)] (gs ao (gs Cm g0)) rfl (fun _ _=>rfl) fun O x=>by kernel_rfl
theorem SR:Vd Tryz.prog 105 B5:=vt mix bh My [] g0 rfl (fun _ _=>rfl) fun O x=>by kernel_rfl
theorem Ry:Vd Tryz.prog 128 Bx:=vt mix Rt F7 [] g0 rfl (fun _ _=>rfl) fun O x=>by kernel_rfl
theorem j8:Vd Tryz.prog 106 GV:=vt mix WS Jb [(75,Da),(101,BP),(105,B5),(128,Bx)] (gs bc (gs Mc (gs SR (gs Ry g0)))) rfl (fun _ _=>rfl) fun O x=>by kernel_rfl
theorem lR:Vd Tryz.prog 125 GF:=vt mix V3 Js [(40,AS),(115,Ap)] (gs C3 (gs Ed g0)) rfl (fun _ _=>rfl) fun O x=>by kernel_rfl
theorem mQ:Vd Tryz.prog 126 G9:=vt mix Yo K4 [(101,BP),(105,B5)] (gs Mc (gs SR g0)) rfl (fun _ _=>rfl) fun O x=>by kernel_rfl
theorem fg:Vd Tryz.prog 162 Eb:=vt mix Sn LS [] g0 rfl (fun _ _=>rfl) fun O x=>by kernel_rfl
theorem lI:Vd Tryz.prog 140 F8:=vt mix Vq JZ [(162,Eb)] (gs fg g0) rfl (fun _ _=>rfl) fun O x=>by kernel_rfl
theorem Hk:Vd Tryz.prog 192 A3:=vt mix dD Oy [(122,AU),(123,Al),(124,Ah)] (gs EJ (gs GR (gs Ff g0))) rfl (fun _ _=>rfl) fun O x=>by kernel_rfl
theorem jZ:Vd Tryz.prog 214 C8:=vt mix UX ND [] g0 rfl (fun _ _=>rfl) fun O x=>by kernel_rfl
theorem YW:Vd Tryz.prog 193 CC:=vt mix YZ E7 [(214,C8)] (gs jZ g0) rfl (fun _ _=>rfl) fun O x=>by kernel_rfl
theorem Ho:Vd Tryz.prog 194 A4:=vt mix YM LA [] g0 rfl (fun _ _=>rfl) fun O x=>by kernel_rfl
theorem pQ:Vd Tryz.prog 163 It:=vt mix bg Mu [(192,A3),(193,CC),(194,A4)] (gs Hk (gs YW (gs Ho g0))) rfl (fun _ _=>rfl) fun O x=>by kernel_rfl
theorem XR:Vd Tryz.prog 195 Cv:=vt mix gb Qw [(122,AU),(123,Al),(124,Ah)] (gs EJ (gs GR (gs Ff g0))) rfl (fun _ _=>rfl) fun O x=>by kernel_rfl
theorem SU:Vd Tryz.prog 215 B3:=vt mix bV MS [] g0 rfl (fun _ _=>rfl) fun O x=>by kernel_rfl
theorem sS:Vd Tryz.prog 216 KX:=vt mix dV O5 [(40,AS),(215,B3)] (gs C3 (gs SU g0)) rfl (fun _ _=>rfl) fun O x=>by kernel_rfl
theorem uM:Vd Tryz.prog 196 L9:=vt mix gz Qr [(40,AS),(136,Av),(215,B3),(216,KX)] (gs C3 (gs Hp (gs SU (gs sS g0)))) rfl (fun _ _=>rfl) fun O x=>by kernel_rfl
theorem tP:Vd Tryz.prog 164 KA:=vt mix eB Ot [(195,Cv),(196,L9)] (gs XR (gs uM g0)) rfl (fun _ _=>rfl) fun O x=>by kernel_rfl
theorem VE:Vd Tryz.prog 25 Ca:=vt mix UI UW [] g0 rfl (fun _ _=>rfl) fun O x=>by kernel_rfl
theorem cN:Vd Tryz.prog 57 Dj:=vt mix P6 Fd [] g0 rfl (fun _ _=>rfl) fun O x=>by kernel_rfl
theorem U3:Vd Tryz.prog 43 Cc:=vt mix VJ IH [(57,Dj)] (gs cN g0) rfl (fun _ _=>rfl) fun O x=>by kernel_rfl
theorem bv:Vd Tryz.prog 44 Dg:=vt mix P4 Fa [] g0 rfl (fun _ _=>rfl) fun O x=>by kernel_rfl
theorem Su:Vd Tryz.prog 31 CH:=vt mix S9 G0 [(43,Cc),(44,Dg)] (gs U3 (gs bv g0)) rfl (fun _ _=>rfl) fun O x=>by kernel_rfl
theorem Of:Vd Tryz.prog 177 BN:=vt mix Vu EF [(193,CC)] (gs YW g0) rfl (fun _ _=>rfl) fun O x=>by kernel_rfl
theorem Ip:Vd Tryz.prog 204 A8:=vt mix am Mj [] g0 rfl (fun _ _=>rfl) fun O x=>by kernel_rfl
theorem IG:Vd Tryz.prog 205 A7:=vt mix UC II [(204,A8)] (gs Ip g0) rfl (fun _ _=>rfl) fun O x=>by kernel_rfl
theorem lg:Vd Tryz.prog 220 GJ:=vt mix WJ Jv [] g0 rfl (fun _ _=>rfl) fun O x=>by kernel_rfl
theorem pK:Vd Tryz.prog 217 Im:=vt mix bD MO [(204,A8),(205,A7),(220,GJ)] (gs Ip (gs IG (gs lg g0))) rfl (fun _ _=>rfl) fun O x=>by kernel_rfl
theorem S8:Vd Tryz.prog 225 Bm:=vt mix Sx Sl [] g0 rfl (fun _ _=>rfl) fun O x=>by kernel_rfl
theorem nG:Vd Tryz.prog 221 HO:=vt mix Yr Ku [(225,Bm)] (gs S8 g0) rfl (fun _ _=>rfl) fun O x=>by kernel_rfl
theorem eU:Vd Tryz.prog 226 D4:=vt mix SB Gb [] g0 rfl (fun _ _=>rfl) fun O x=>by kernel_rfl
theorem Yf:Vd Tryz.prog 222 DB:=vt mix NU EH [(226,D4)] (gs eU g0) rfl (fun _ _=>rfl) fun O x=>by kernel_rfl
theorem eA:Vd Tryz.prog 227 Dw:=vt mix SC Gc [] g0 rfl (fun _ _=>rfl) fun O x=>by kernel_rfl
theorem iq:Vd Tryz.prog 223 FT:=vt mix UZ Ia [(225,Bm),(227,Dw)] (gs S8 (gs eA g0)) rfl (fun _ _=>rfl) fun O x=>by kernel_rfl
theorem Wu:Vd Tryz.prog 228 Cu:=vt mix MD Dt [] g0 rfl (fun _ _=>rfl) fun O x=>by kernel_rfl
theorem ZN:Vd Tryz.prog 224 DH:=vt mix O7 En [(228,Cu)] (gs Wu g0) rfl (fun _ _=>rfl) fun O x=>by kernel_rfl
theorem ZI:Vd Tryz.prog 218 DK:=vt mix O1 Es [(221,HO),(222,DB),(223,FT),(224,DH)] (gs nG (gs Yf (gs iq (gs ZN g0)))) rfl (fun _ _=>rfl) fun O x=>by kernel_rfl
theorem pX:Vd Tryz.prog 219 Il:=vt mix aX MY [(204,A8),(205,A7)] (gs Ip (gs IG g0)) rfl (fun _ _=>rfl) fun O x=>by kernel_rfl
theorem f7:Vd Tryz.prog 197 Eh:=vt mix Sm Gx [(43,Cc),(177,BN),(217,Im),(218,DK),(219,Il)] (gs U3 (gs Of (gs pK (gs ZI (gs pX g0))))) rfl (fun _ _=>rfl) fun O x=>by kernel_rfl
theorem ss:Vd Tryz.prog 198 J0:=vt mix cm OW [(192,A3),(194,A4)] (gs Hk (gs Ho g0)) rfl (fun _ _=>rfl) fun O x=>by kernel_rfl
theorem qs:Vd Tryz.prog 199 Ke:=vt mix cc OY [(40,AS),(136,Av),(195,Cv),(215,B3)] (gs C3 (gs Hp (gs XR (gs SU g0)))) rfl (fun _ _=>rfl) fun O x=>by kernel_rfl
theorem mL:Vd Tryz.prog 200 GK:=vt mix WC Ju [(192,A3)] (gs Hk g0) rfl (fun _ _=>rfl) fun O x=>by kernel_rfl
theorem nM:Vd Tryz.prog 165 HF:=vt mix Xy K2 [(25,Ca),(31,CH),(100,AQ),(197,Eh),(198,J0),(199,Ke),(200,GK)] (gs VE (gs Su (gs Cm (gs f7 (gs ss (gs qs (gs mL g0))))))) rfl (fun _ _=>rfl) fun O x=>by kernel_rfl
theorem dz:Vd Tryz.prog 201 D1:=vt mix dv PF [(177,BN),(194,A4)] (gs Of (gs Ho g0)) rfl (fun _ _=>rfl) fun O x=>by kernel_rfl
theorem il:Vd Tryz.prog 166 FC:=vt mix UN IQ [(192,A3),(194,A4),(201,D1)] (gs Hk (gs Ho (gs dz g0))) rfl (fun _ _=>rfl) fun O x=>by kernel_rfl
theorem mp:Vd Tryz.prog 167 Hx:=vt mix YT LL [(192,A3),(201,D1)] (gs Hk (gs dz g0)) rfl (fun _ _=>rfl) fun O x=>by kernel_rfl
theorem aw:Vd Tryz.prog 178 C4:=vt mix az F5 [] g0 rfl (fun _ _=>rfl) fun O x=>by kernel_rfl
theorem jw:Vd Tryz.prog 168 GB:=vt mix WE Jc [(178,C4),(192,A3),(194,A4)] (gs aw (gs Hk (gs Ho g0))) rfl (fun _ _=>rfl) fun O x=>by kernel_rfl
theorem W8:Vd Tryz.prog 203 C0:=vt mix gL RU [(122,AU),(123,Al),(124,Ah)] (gs EJ (gs GR (gs Ff g0))) rfl (fun _ _=>rfl) fun O x=>by kernel_rfl
theorem lC:Vd Tryz.prog 169 GX:=vt mix Wp Ji [(203,C0)] (gs W8 g0) rfl (fun _ _=>rfl) fun O x=>by kernel_rfl
theorem ng:Vd Tryz.prog 170 Hd:=vt mix YB LP [(203,C0),(204,A8),(205,A7)] (gs W8 (gs Ip (gs IG g0))) rfl (fun _ _=>rfl) fun O x=>by kernel_rfl
theorem dc:Vd Tryz.prog 171 ED:=vt mix Ro GS [(203,C0),(204,A8),(205,A7)] (gs W8 (gs Ip (gs IG g0))) rfl (fun _ _=>rfl) fun O x=>by kernel_rfl
theorem lJ:Vd Tryz.prog 172 GY:=vt mix Wo Jq [(40,AS),(195,Cv)] (gs C3 (gs XR g0)) rfl (fun _ _=>rfl) fun O x=>by kernel_rfl
theorem fp:Vd Tryz.prog 173 Ec:=vt mix Sp Gy [(100,AQ)] (gs Cm g0) rfl (fun _ _=>rfl) fun O x=>by kernel_rfl
theorem Sw:Vd Tryz.prog 143 CG:=vt mix Sr G3 [(100,AQ)] (gs Cm g0) rfl (fun _ _=>rfl) fun O x=>by kernel_rfl
theorem fk:Vd Tryz.prog 174 EV:=vt mix Sv Gw [(100,AQ),(143,CG)] (gs Cm (gs Sw g0)) rfl (fun _ _=>rfl) fun O x=>by kernel_rfl
theorem ja:Vd Tryz.prog 175 FA:=vt mix VL FY [(100,AQ)] (gs Cm g0) rfl (fun _ _=>rfl) fun O x=>by kernel_rfl
theorem kD:Vd Tryz.prog 206 GO:=vt mix V8 Wb [] g0 rfl (fun _ _=>rfl) fun O x=>by kernel_rfl
theorem jq:Vd Tryz.prog 176 FE:=vt mix Uo Id [(100,AQ),(206,GO)] (gs Cm (gs kD g0)) rfl (fun _ _=>rfl) fun O x=>by kernel_rfl
theorem fo:Vd Tryz.prog 141 Ee:=vt mix S7 Eg [(163,It),(164,KA),(165,HF),(166,FC),(167,Hx),(168,GB),(169,GX),(170,Hd),(171,ED),(172,GY),(173,Ec),(174,EV),(175,FA),(176,FE)] (gs pQ (gs tP (gs nM (gs il (gs mp (gs jw (gs lC (gs ng (gs dc (gs lJ (gs fp (gs fk (gs ja (gs jq g0)))))))))))))) rfl (fun _ _=>rfl) fun O x=>by kernel_rfl
theorem jl:Vd Tryz.prog 142 Dl:=vt mix UU IJ [(93,BO),(177,BN),(178,C4)] (gs On (gs Of (gs aw g0))) rfl (fun _ _=>rfl) fun O x=>by kernel_rfl
theorem mh:Vd Tryz.prog 127 HZ:=vt mix YE LH [(76,DV),(93,BO),(100,AQ),(140,F8),(141,Ee),(142,Dl)] (gs ar (gs On (gs Cm (gs lI (gs fo (gs jl g0)))))) rfl (fun _ _=>rfl) fun O x=>by kernel_rfl
theorem sY:Vd Tryz.prog 59 PY:=vt mix eV O0 [(75,Da),(76,DV),(77,I6),(94,DW),(101,BP),(105,B5),(106,GV),(125,GF),(126,G9),(127,HZ),(128,Bx),(143,CG)] (gs bc (gs ar (gs pZ (gs bi (gs Mc (gs SR (gs j8 (gs lR (gs mQ (gs mh (gs Ry (gs Sw g0)))))))))))) rfl (fun _ _=>rfl) fun O x=>by kernel_rfl
def mI:Cfg:={ gam:=[⟨59,[],true,true,[]⟩],imm:=false,old:=false }
theorem uW (O:Alg) (x:Ags O):XF (O:=O) Tryz.prog mI false false [] 47 [] (xr x ZB 0)=OK O x:=by kernel_rfl
theorem wt {E:Env} {M:Nat} (N:Nat) (h:∀ ls,E 47 [] ls=OQ N ls):VV Tryz.prog E M ⟨47,[],false,false,[]⟩ :=
 A2 mix (E:=Hl N) (N:=N) (cfg:=mI) (ci:=⟨47,[],false,false,[]⟩) (ks:=ZB) (AH (sY N (fun _=>rfl)) BV) (c:=OQ N) (F:=fun ls=>OK (std (Hl N) N) (xOf ls)) (fun ls=>rfl) (fun ls=>uW (std (Hl N) N) (xOf ls)) h
theorem lK:Vd Tryz.prog 48 JY:=vt mix Wd Jl [(31,CH)] (gs Su g0) rfl (fun _ _=>rfl) fun O x=>by kernel_rfl
def kW:Cfg:={ gam:=[⟨46,[],true,true,[]⟩,⟨47,[],false,false,[]⟩,⟨48,[],true,true,[]⟩],imm:=false,old:=true,ie:=[116,76,3,47,72,109,156,4,5,139,152,89,60,197] }
theorem tx (O:Alg) (x:Ags O):XF (O:=O) Tryz.prog kW false false [] 35 [] (xr x ZG 0)=Oz O x:=by kernel_rfl
theorem l8 {E:Env} {M:Nat} (N:Nat) (h:∀ ls,E 35 [] ls=IK N ls):VV Tryz.prog E M ⟨35,[],false,false,[]⟩ :=
 A2 mix (E:=D2 N) (N:=N) (cfg:=kW) (ci:=⟨35,[],false,false,[]⟩) (ks:=ZG) (AH (tz N (fun _=>rfl)) (AH (wt N (fun _=>rfl)) (AH (lK N (fun _=>rfl)) BV))) (c:=IK N) (F:=fun ls=>Oz (std (D2 N) N) (xOf ls)) (fun ls=>rfl) (fun ls=>tx (std (D2 N) N) (xOf ls)) h
def db:Cfg:={ gam:=[⟨35,[],false,false,[]⟩],imm:=false,old:=false }
theorem ox (O:Alg) (x:Ags O):XF (O:=O) Tryz.prog db false false [] 41 [] (xr x Uy 0)=Jx O x:=by kernel_rfl
theorem qW {E:Env} {M:Nat} (N:Nat) (h:∀ ls,E 41 [] ls=Jz N ls):VV Tryz.prog E M ⟨41,[],false,false,[]⟩ :=
 A2 mix (E:=E5 N) (N:=N) (cfg:=db) (ci:=⟨41,[],false,false,[]⟩) (ks:=Uy) (AH (l8 N (fun _=>rfl)) BV) (c:=Jz N) (F:=fun ls=>Jx (std (E5 N) N) (xOf ls)) (fun ls=>rfl) (fun ls=>ox (std (E5 N) N) (xOf ls)) h
def gj:Cfg:={ gam:=[⟨40,[],true,true,[]⟩,⟨41,[],false,false,[]⟩],imm:=false,old:=false }
theorem sw (O:Alg) (x:Ags O):XF (O:=O) Tryz.prog gj true true [] 27 [] (xr x XU 0)=Le O x:=by kernel_rfl
theorem uQ:Vd Tryz.prog 27 L4:=fun N h =>
 A2 mix (E:=EU N) (N:=N) (cfg:=gj) (ci:=⟨27,[],true,true,[]⟩) (ks:=XU) (AH (C3 N (fun _=>rfl)) (AH (qW N (fun _=>rfl)) BV)) (c:=L4 N) (F:=fun ls=>Le (std (EU N) N) (xOf ls)) (fun ls=>rfl) (fun ls=>sw (std (EU N) N) (xOf ls)) h
theorem nY:Vd Tryz.prog 29 LD:=vt mix Xv Kw [] g0 rfl (fun _ _=>rfl) fun O x=>by kernel_rfl
def bG:Cfg:={ gam:=[⟨27,[],true,true,[]⟩,⟨29,[],true,true,[]⟩,⟨35,[],false,false,[]⟩],imm:=false,old:=false }
theorem mj (O:Alg) (x:Ags O):XF (O:=O) Tryz.prog bG true true [] 23 [] (xr x Si 0)=Ij O x:=by kernel_rfl
theorem bK:Vd Tryz.prog 23 C6:=fun N h =>
 A2 mix (E:=Co N) (N:=N) (cfg:=bG) (ci:=⟨23,[],true,true,[]⟩) (ks:=Si) (AH (uQ N (fun _=>rfl)) (AH (nY N (fun _=>rfl)) (AH (l8 N (fun _=>rfl)) BV))) (c:=C6 N) (F:=fun ls=>Ij (std (Co N) N) (xOf ls)) (fun ls=>rfl) (fun ls=>mj (std (Co N) N) (xOf ls)) h
theorem pU:Vd Tryz.prog 9 Fu:=vt mix bC Mf [(23,C6)] (gs bK g0) rfl (fun _ _=>rfl) fun O x=>by kernel_rfl
theorem R6:Vd Tryz.prog 11 CT:=vt mix Rb GM [] g0 rfl (fun _ _=>rfl) fun O x=>by kernel_rfl
theorem nE:Vd Tryz.prog 12 HJ:=vt mix Yp LM [] g0 rfl (fun _ _=>rfl) fun O x=>by kernel_rfl
theorem QR:Vd Tryz.prog 14 Bq:=vt mix YR LI [(23,C6),(25,Ca)] (gs bK (gs VE g0)) rfl (fun _ _=>rfl) fun O x=>by kernel_rfl
theorem ur:Vd Tryz.prog 21 Ly:=vt mix gf hZ [] g0 rfl (fun _ _=>rfl) fun O x=>by kernel_rfl
theorem ui:Vd Tryz.prog 34 Wy:=vt mix gW iQ [] g0 rfl (fun _ _=>rfl) fun O x=>by kernel_rfl
theorem xV:Vd Tryz.prog 22 Rf:=vt mix oI oH [(34,Wy)] (gs ui g0) rfl (fun _ _=>rfl) fun O x=>by kernel_rfl
theorem uL:Vd Tryz.prog 7 Ll:=vt mix gr RK [(9,Fu),(11,CT),(12,HJ),(14,Bq),(21,Ly),(22,Rf)] (gs pU (gs R6 (gs nE (gs QR (gs ur (gs xV g0)))))) rfl (fun _ _=>rfl) fun O x=>by kernel_rfl
def oL:Cfg:={ gam:=[],imm:=false,old:=false }
theorem vq (O:Alg) (x:Ags O):XF (O:=O) Tryz.prog oL false false [] 8 [] (xr x eS 0)=Rj O x:=by kernel_rfl
theorem xe {E:Env} {M:Nat} (N:Nat) (h:∀ ls,E 8 [] ls=SF N ls):VV Tryz.prog E M ⟨8,[],false,false,[]⟩ :=
 A2 mix (E:=ME N) (N:=N) (cfg:=oL) (ci:=⟨8,[],false,false,[]⟩) (ks:=eS) BV (c:=SF N) (F:=fun ls=>Rj (std (ME N) N) (xOf ls)) (fun ls=>rfl) (fun ls=>vq (std (ME N) N) (xOf ls)) h
theorem v7:Vd Tryz.prog 60 Pc:=vt mix jy TF [] g0 rfl (fun _ _=>rfl) fun O x=>by kernel_rfl
theorem yj:Vd Tryz.prog 61 US:=vt mix rD qM [] g0 rfl (fun _ _=>rfl) fun O x=>by kernel_rfl
theorem Ds:Vd Tryz.prog 49 Aj:=vt mix gK RT [(60,Pc),(61,US)] (gs v7 (gs yj g0)) rfl (fun _ _=>rfl) fun O x=>by kernel_rfl
theorem gp:Vd Tryz.prog 63 E0:=vt mix iD RG [] g0 rfl (fun _ _=>rfl) fun O x=>by kernel_rfl
theorem ny:Vd Tryz.prog 51 NZ:=vt mix oa WN [(49,Aj),(63,E0)] (gs Ds (gs gp g0)) rfl (fun _ _=>rfl) fun O x=>by kernel_rfl
theorem CA:Vd Tryz.prog 107 AO:=vt mix gF RE [] g0 rfl (fun _ _=>rfl) fun O x=>by kernel_rfl
theorem Xg:Vd Tryz.prog 80 DG:=vt mix gO Qm [(107,AO)] (gs CA g0) rfl (fun _ _=>rfl) fun O x=>by kernel_rfl
theorem th:Vd Tryz.prog 64 RJ:=vt mix gG Qx [(63,E0),(80,DG)] (gs gp (gs Xg g0)) rfl (fun _ _=>rfl) fun O x=>by kernel_rfl
theorem jV:Vd Tryz.prog 130 FJ:=vt mix qx qN [] g0 rfl (fun _ _=>rfl) fun O x=>by kernel_rfl
theorem yG:Vd Tryz.prog 131 R8:=vt mix oX We [(130,FJ)] (gs jV g0) rfl (fun _ _=>rfl) fun O x=>by kernel_rfl
theorem RB:Vd Tryz.prog 133 Bh:=vt mix iZ JF [] g0 rfl (fun _ _=>rfl) fun O x=>by kernel_rfl
theorem pN:Vd Tryz.prog 132 I3:=vt mix bE Mw [(133,Bh)] (gs RB g0) rfl (fun _ _=>rfl) fun O x=>by kernel_rfl
theorem Ww:Vd Tryz.prog 108 Cy:=vt mix hO Q3 [(49,Aj),(130,FJ),(131,R8),(132,I3)] (gs Ds (gs jV (gs yG (gs pN g0)))) rfl (fun _ _=>rfl) fun O x=>by kernel_rfl
theorem Lq:Vd Tryz.prog 86 B7:=vt mix iC Q0 [] g0 rfl (fun _ _=>rfl) fun O x=>by kernel_rfl
theorem ec:Vd Tryz.prog 109 FF:=vt mix eg O8 [(86,B7)] (gs Lq g0) rfl (fun _ _=>rfl) fun O x=>by kernel_rfl
theorem mB:Vd Tryz.prog 81 GL:=vt mix WD Jn [(108,Cy),(109,FF)] (gs Ww (gs ec g0)) rfl (fun _ _=>rfl) fun O x=>by kernel_rfl
theorem W7:Vd Tryz.prog 65 Eu:=vt mix iJ RS [(49,Aj),(81,GL)] (gs Ds (gs mB g0)) rfl (fun _ _=>rfl) fun O x=>by kernel_rfl
theorem rA:Vd Tryz.prog 82 KC:=vt mix dL Nx [] g0 rfl (fun _ _=>rfl) fun O x=>by kernel_rfl
theorem wZ:Vd Tryz.prog 83 Oi:=vt mix lG Tk [] g0 rfl (fun _ _=>rfl) fun O x=>by kernel_rfl
theorem yf:Vd Tryz.prog 84 VD:=vt mix qk jC [] g0 rfl (fun _ _=>rfl) fun O x=>by kernel_rfl
theorem zd:Vd Tryz.prog 110 U4:=vt mix qh jT [] g0 rfl (fun _ _=>rfl) fun O x=>by kernel_rfl
theorem tq:Vd Tryz.prog 85 L5:=vt mix iV Ql [(110,U4)] (gs zd g0) rfl (fun _ _=>rfl) fun O x=>by kernel_rfl
theorem gP:Vd Tryz.prog 66 JK:=vt mix gX RF [(82,KC),(83,Oi),(84,VD),(85,L5)] (gs rA (gs wZ (gs yf (gs tq g0)))) rfl (fun _ _=>rfl) fun O x=>by kernel_rfl
theorem XW:Vd Tryz.prog 89 E3:=vt mix ge Q7 [] g0 rfl (fun _ _=>rfl) fun O x=>by kernel_rfl
def kP:Cfg:={ gam:=[],imm:=false,old:=false }
theorem uh (O:Alg) (x:Ags O):XF (O:=O) Tryz.prog kP false false [] 68 [] (xr x ZD 0)=PS O x:=by kernel_rfl
theorem Th {E:Env} {M:Nat} (N:Nat) (h:∀ ls,E 68 [] ls=DR N ls):VV Tryz.prog E M ⟨68,[],false,false,[]⟩ :=
 A2 mix (E:=J8 N) (N:=N) (cfg:=kP) (ci:=⟨68,[],false,false,[]⟩) (ks:=ZD) BV (c:=DR N) (F:=fun ls=>PS (std (J8 N) N) (xOf ls)) (fun ls=>rfl) (fun ls=>uh (std (J8 N) N) (xOf ls)) h
def au:Cfg:={ gam:=[⟨65,[],true,true,[]⟩,⟨68,[],false,false,[]⟩,⟨109,[],true,true,[]⟩],imm:=false,old:=false }
theorem mq (O:Alg) (x:Ags O):XF (O:=O) Tryz.prog au true true [] 111 [] (xr x Sb 0)=I4 O x:=by kernel_rfl
theorem pD:Vd Tryz.prog 111 I1:=fun N h =>
 A2 mix (E:=Cp N) (N:=N) (cfg:=au) (ci:=⟨111,[],true,true,[]⟩) (ks:=Sb) (AH (W7 N (fun _=>rfl)) (AH (Th N (fun _=>rfl)) (AH (ec N (fun _=>rfl)) BV))) (c:=I1 N) (F:=fun ls=>I4 (std (Cp N) N) (xOf ls)) (fun ls=>rfl) (fun ls=>mq (std (Cp N) N) (xOf ls)) h
theorem u0:Vd Tryz.prog 112 Qq:=vt mix gR Q4 [(49,Aj),(130,FJ)] (gs Ds (gs jV g0)) rfl (fun _ _=>rfl) fun O x=>by kernel_rfl
theorem bT:Vd Tryz.prog 114 F2:=vt mix bL MZ [(80,DG)] (gs Xg g0) rfl (fun _ _=>rfl) fun O x=>by kernel_rfl
theorem PD:Vd Tryz.prog 179 Bf:=vt mix dr PE [] g0 rfl (fun _ _=>rfl) fun O x=>by kernel_rfl
theorem wa:Vd Tryz.prog 144 Td:=vt mix kz TY [(107,AO),(133,Bh),(179,Bf)] (gs CA (gs RB (gs PD g0))) rfl (fun _ _=>rfl) fun O x=>by kernel_rfl
theorem Hi:Vd Tryz.prog 189 A5:=vt mix Yk Kp [] g0 rfl (fun _ _=>rfl) fun O x=>by kernel_rfl
theorem Ur:Vd Tryz.prog 207 CV:=vt mix dp Ol [] g0 rfl (fun _ _=>rfl) fun O x=>by kernel_rfl
theorem vw:Vd Tryz.prog 208 N9:=vt mix kd Tn [(49,Aj),(207,CV)] (gs Ds (gs Ur g0)) rfl (fun _ _=>rfl) fun O x=>by kernel_rfl
theorem oZ:Vd Tryz.prog 209 H0:=vt mix oj WV [] g0 rfl (fun _ _=>rfl) fun O x=>by kernel_rfl
theorem xQ:Vd Tryz.prog 180 Rr:=vt mix oM WU [(49,Aj),(189,A5),(207,CV),(208,N9),(209,H0)] (gs Ds (gs Hi (gs Ur (gs vw (gs oZ g0))))) rfl (fun _ _=>rfl) fun O x=>by kernel_rfl
theorem v8:Vd Tryz.prog 145 Ts:=vt mix kc TA [(107,AO),(180,Rr)] (gs CA (gs xQ g0)) rfl (fun _ _=>rfl) fun O x=>by kernel_rfl
theorem iS:Vd Tryz.prog 26 JG:=vt mix iL iU [] g0 rfl (fun _ _=>rfl) fun O x=>by kernel_rfl
theorem zG:Vd Tryz.prog 91 Uw:=vt mix sD jM [] g0 rfl (fun _ _=>rfl) fun O x=>by kernel_rfl
theorem mz:Vd Tryz.prog 92 Hj:=vt mix Yl Kr [] g0 rfl (fun _ _=>rfl) fun O x=>by kernel_rfl
theorem gt:Vd Tryz.prog 70 Gn:=vt mix gm RC [(91,Uw),(92,Hj)] (gs zG (gs mz g0)) rfl (fun _ _=>rfl) fun O x=>by kernel_rfl
theorem nA:Vd Tryz.prog 71 Hc:=vt mix Xo LC [] g0 rfl (fun _ _=>rfl) fun O x=>by kernel_rfl
theorem td:Vd Tryz.prog 72 L7:=vt mix gU RO [] g0 rfl (fun _ _=>rfl) fun O x=>by kernel_rfl
theorem eN:Vd Tryz.prog 53 HR:=vt mix eI OU [(70,Gn),(71,Hc),(72,L7)] (gs gt (gs nA (gs td g0))) rfl (fun _ _=>rfl) fun O x=>by kernel_rfl
theorem VI:Vd Tryz.prog 156 CZ:=vt mix dj HW [(133,Bh)] (gs RB g0) rfl (fun _ _=>rfl) fun O x=>by kernel_rfl
theorem OC:Vd Tryz.prog 188 Be:=vt mix dP PQ [] g0 rfl (fun _ _=>rfl) fun O x=>by kernel_rfl
theorem pg:Vd Tryz.prog 210 JC:=vt mix ae Mp [] g0 rfl (fun _ _=>rfl) fun O x=>by kernel_rfl
theorem u4:Vd Tryz.prog 181 Qv:=vt mix iX RD [(188,Be),(189,A5),(210,JC)] (gs OC (gs Hi (gs pg g0))) rfl (fun _ _=>rfl) fun O x=>by kernel_rfl
theorem na:Vd Tryz.prog 211 HT:=vt mix Yw K1 [] g0 rfl (fun _ _=>rfl) fun O x=>by kernel_rfl
theorem zD:Vd Tryz.prog 212 Uu:=vt mix sX Z3 [] g0 rfl (fun _ _=>rfl) fun O x=>by kernel_rfl
theorem rE:Vd Tryz.prog 213 KU:=vt mix cZ OP [] g0 rfl (fun _ _=>rfl) fun O x=>by kernel_rfl
theorem nL:Vd Tryz.prog 182 Ks:=vt mix Yq Kx [(211,HT),(212,Uu),(213,KU)] (gs na (gs zD (gs rE g0))) rfl (fun _ _=>rfl) fun O x=>by kernel_rfl
theorem uv:Vd Tryz.prog 183 Q2:=vt mix gd RL [(188,Be),(189,A5)] (gs OC (gs Hi g0)) rfl (fun _ _=>rfl) fun O x=>by kernel_rfl
theorem cd:Vd Tryz.prog 186 FG:=vt mix et OJ [(107,AO)] (gs CA g0) rfl (fun _ _=>rfl) fun O x=>by kernel_rfl
theorem yR:Vd Tryz.prog 184 WL:=vt mix oC V7 [(107,AO),(179,Bf),(186,FG)] (gs CA (gs PD (gs cd g0))) rfl (fun _ _=>rfl) fun O x=>by kernel_rfl
theorem vy:Vd Tryz.prog 185 TH:=vt mix kE TE [(49,Aj),(107,AO),(207,CV),(209,H0)] (gs Ds (gs CA (gs Ur (gs oZ g0)))) rfl (fun _ _=>rfl) fun O x=>by kernel_rfl
def lD:Cfg:={ gam:=[⟨26,[],true,true,[]⟩,⟨53,[],true,true,[]⟩,⟨70,[],true,true,[]⟩,⟨156,[],true,true,[]⟩,⟨181,[],true,true,[]⟩,⟨182,[],true,true,[]⟩,⟨183,[],true,true,[]⟩,⟨184,[],true,true,[]⟩,⟨185,[],true,true,[]⟩,⟨186,[],true,true,[]⟩],imm:=false,old:=false }
theorem uN (O:Alg) (x:Ags O):XF (O:=O) Tryz.prog lD false false [] 146 [] (xr x ZA 0)=O4 O x:=by kernel_rfl
theorem xA {E:Env} {M:Nat} (N:Nat) (h:∀ ls,E 146 [] ls=Ox N ls):VV Tryz.prog E M ⟨146,[],false,false,[]⟩ :=
 A2 mix (E:=BT N) (N:=N) (cfg:=lD) (ci:=⟨146,[],false,false,[]⟩) (ks:=ZA) (AH (iS N (fun _=>rfl)) (AH (eN N (fun _=>rfl)) (AH (gt N (fun _=>rfl)) (AH (VI N (fun _=>rfl)) (AH (u4 N (fun _=>rfl)) (AH (nL N (fun _=>rfl)) (AH (uv N (fun _=>rfl)) (AH (yR N (fun _=>rfl)) (AH (vy N (fun _=>rfl)) (AH (cd N (fun _=>rfl)) BV)))))))))) (c:=Ox N) (F:=fun ls=>O4 (std (BT N) N) (xOf ls)) (fun ls=>rfl) (fun ls=>uN (std (BT N) N) (xOf ls)) h
theorem iI:Vd Tryz.prog 187 E2:=vt mix hC Qn [(156,CZ),(179,Bf)] (gs VI (gs PD g0)) rfl (fun _ _=>rfl) fun O x=>by kernel_rfl
theorem o9:Vd Tryz.prog 147 MW:=vt mix aV Mi [(107,AO),(187,E2)] (gs CA (gs iI g0)) rfl (fun _ _=>rfl) fun O x=>by kernel_rfl
theorem u6:Vd Tryz.prog 148 RA:=vt mix gI Qz [(107,AO),(187,E2)] (gs CA (gs iI g0)) rfl (fun _ _=>rfl) fun O x=>by kernel_rfl
theorem lM:Vd Tryz.prog 157 El:=vt mix lf LN [] g0 rfl (fun _ _=>rfl) fun O x=>by kernel_rfl
theorem qf:Vd Tryz.prog 149 Pa:=vt mix dq Oh [(107,AO),(157,El),(179,Bf)] (gs CA (gs lM (gs PD g0))) rfl (fun _ _=>rfl) fun O x=>by kernel_rfl
theorem pB:Vd Tryz.prog 150 Mx:=vt mix bW MT [(107,AO)] (gs CA g0) rfl (fun _ _=>rfl) fun O x=>by kernel_rfl
theorem qj:Vd Tryz.prog 151 OE:=vt mix eP PU [(107,AO),(188,Be),(189,A5)] (gs CA (gs OC (gs Hi g0))) rfl (fun _ _=>rfl) fun O x=>by kernel_rfl
theorem jU:Vd Tryz.prog 152 H9:=vt mix VN Ic [(107,AO),(188,Be),(189,A5)] (gs CA (gs OC (gs Hi g0))) rfl (fun _ _=>rfl) fun O x=>by kernel_rfl
theorem pM:Vd Tryz.prog 153 Mn:=vt mix bZ MM [(49,Aj),(107,AO)] (gs Ds (gs CA g0)) rfl (fun _ _=>rfl) fun O x=>by kernel_rfl
def dM:Cfg:={ gam:=[],imm:=false,old:=false }
theorem oz (O:Alg) (x:Ags O):XF (O:=O) Tryz.prog dM false false [] 154 [] (xr x U1 0)=Hf O x:=by kernel_rfl
theorem tW {E:Env} {M:Nat} (N:Nat) (h:∀ ls,E 154 [] ls=KW N ls):VV Tryz.prog E M ⟨154,[],false,false,[]⟩ :=
 A2 mix (E:=Hn N) (N:=N) (cfg:=dM) (ci:=⟨154,[],false,false,[]⟩) (ks:=U1) BV (c:=KW N) (F:=fun ls=>Hf (std (Hn N) N) (xOf ls)) (fun ls=>rfl) (fun ls=>oz (std (Hn N) N) (xOf ls)) h
theorem uJ:Vd Tryz.prog 190 Q5:=vt mix gY gk [] g0 rfl (fun _ _=>rfl) fun O x=>by kernel_rfl
def fF:Cfg:={ gam:=[⟨190,[],true,true,[]⟩],imm:=false,old:=false }
theorem pe (O:Alg) (x:Ags O):XF (O:=O) Tryz.prog fF false false [] 155 [] (xr x UE 0)=J4 O x:=by kernel_rfl
theorem tS {E:Env} {M:Nat} (N:Nat) (h:∀ ls,E 155 [] ls=KK N ls):VV Tryz.prog E M ⟨155,[],false,false,[]⟩ :=
 A2 mix (E:=E8 N) (N:=N) (cfg:=fF) (ci:=⟨155,[],false,false,[]⟩) (ks:=UE) (AH (uJ N (fun _=>rfl)) BV) (c:=KK N) (F:=fun ls=>J4 (std (E8 N) N) (xOf ls)) (fun ls=>rfl) (fun ls=>pe (std (E8 N) N) (xOf ls)) h
def oU:Cfg:={ gam:=[⟨114,[],true,true,[]⟩,⟨144,[],true,true,[]⟩,⟨145,[],true,true,[]⟩,⟨146,[],false,false,[]⟩,⟨147,[],true,true,[]⟩,⟨148,[],true,true,[]⟩,⟨149,[],true,true,[]⟩,⟨150,[],true,true,[]⟩,⟨151,[],true,true,[]⟩,⟨152,[],true,true,[]⟩,⟨153,[],true,true,[]⟩,⟨154,[],false,false,[]⟩,⟨155,[],false,false,[]⟩],imm:=false,old:=false }
theorem vz (O:Alg) (x:Ags O):XF (O:=O) Tryz.prog oU false false [] 134 [] (xr x eE 0)=NY O x:=by kernel_rfl
theorem xc {E:Env} {M:Nat} (N:Nat) (h:∀ ls,E 134 [] ls=SE N ls):VV Tryz.prog E M ⟨134,[],false,false,[]⟩ :=
 A2 mix (E:=BG N) (N:=N) (cfg:=oU) (ci:=⟨134,[],false,false,[]⟩) (ks:=eE) (AH (bT N (fun _=>rfl)) (AH (wa N (fun _=>rfl)) (AH (v8 N (fun _=>rfl)) (AH (xA N (fun _=>rfl)) (AH (o9 N (fun _=>rfl)) (AH (u6 N (fun _=>rfl)) (AH (qf N (fun _=>rfl)) (AH (pB N (fun _=>rfl)) (AH (qj N (fun _=>rfl)) (AH (jU N (fun _=>rfl)) (AH (pM N (fun _=>rfl)) (AH (tW N (fun _=>rfl)) (AH (tS N (fun _=>rfl)) BV))))))))))))) (c:=SE N) (F:=fun ls=>NY (std (BG N) N) (xOf ls)) (fun ls=>rfl) (fun ls=>vz (std (BG N) N) (xOf ls)) h
theorem sK:Vd Tryz.prog 135 Kj:=vt mix eZ O6 [(108,Cy),(156,CZ),(157,El)] (gs Ww (gs VI (gs lM g0))) rfl (fun _ _=>rfl) fun O x=>by kernel_rfl
def mA:Cfg:={ gam:=[⟨66,[],true,true,[]⟩,⟨80,[],true,true,[]⟩,⟨108,[],true,true,[]⟩,⟨133,[],true,true,[]⟩,⟨134,[],false,false,[]⟩,⟨135,[],true,true,[]⟩],imm:=false,old:=false }
theorem ta (O:Alg) (x:Ags O):XF (O:=O) Tryz.prog mA false false [] 113 [] (xr x aB 0)=Oc O x:=by kernel_rfl
theorem lS {E:Env} {M:Nat} (N:Nat) (h:∀ ls,E 113 [] ls=IB N ls):VV Tryz.prog E M ⟨113,[],false,false,[]⟩ :=
 A2 mix (E:=CY N) (N:=N) (cfg:=mA) (ci:=⟨113,[],false,false,[]⟩) (ks:=aB) (AH (gP N (fun _=>rfl)) (AH (Xg N (fun _=>rfl)) (AH (Ww N (fun _=>rfl)) (AH (RB N (fun _=>rfl)) (AH (xc N (fun _=>rfl)) (AH (sK N (fun _=>rfl)) BV)))))) (c:=IB N) (F:=fun ls=>Oc (std (CY N) N) (xOf ls)) (fun ls=>rfl) (fun ls=>ta (std (CY N) N) (xOf ls)) h
def ke:Cfg:={ gam:=[⟨86,[],true,true,[]⟩,⟨89,[],true,true,[]⟩,⟨111,[],true,true,[]⟩,⟨112,[],true,true,[]⟩,⟨113,[],false,false,[]⟩],imm:=false,old:=false }
theorem ug (O:Alg) (x:Ags O):XF (O:=O) Tryz.prog ke false false [true,false] 87 [] (xr x Ze 0)=Ou O x:=by kernel_rfl
theorem wd {E:Env} {M:Nat} (N:Nat) (h:∀ ls,E 87 [] ls=Ph N ls):VV Tryz.prog E M ⟨87,[],false,false,[true,false]⟩ :=
 A2 mix (E:=Cw N) (N:=N) (cfg:=ke) (ci:=⟨87,[],false,false,[true,false]⟩) (ks:=Ze) (AH (Lq N (fun _=>rfl)) (AH (XW N (fun _=>rfl)) (AH (pD N (fun _=>rfl)) (AH (u0 N (fun _=>rfl)) (AH (lS N (fun _=>rfl)) BV))))) (c:=Ph N) (F:=fun ls=>Ou (std (Cw N) N) (xOf ls)) (fun ls=>rfl) (fun ls=>ug (std (Cw N) N) (xOf ls)) h
def jv:Cfg:={ gam:=[⟨113,[],false,false,[]⟩,⟨114,[],true,true,[]⟩],imm:=true,old:=true }
theorem u3 (O:Alg) (x:Ags O):XF (O:=O) Tryz.prog jv false false [true,false] 88 [] (xr x Z0 0)=Ny O x:=by kernel_rfl
theorem wc {E:Env} {M:Nat} (N:Nat) (h:∀ ls,E 88 [] ls=OO N ls):VV Tryz.prog E M ⟨88,[],false,false,[true,false]⟩ :=
 A2 mix (E:=FP N) (N:=N) (cfg:=jv) (ci:=⟨88,[],false,false,[true,false]⟩) (ks:=Z0) (AH (lS N (fun _=>rfl)) (AH (bT N (fun _=>rfl)) BV)) (c:=OO N) (F:=fun ls=>Ny (std (FP N) N) (xOf ls)) (fun ls=>rfl) (fun ls=>u3 (std (FP N) N) (xOf ls)) h
def oc:Cfg:={ gam:=[⟨86,[],true,true,[]⟩,⟨87,[],false,false,[true,false]⟩,⟨88,[],false,false,[true,false]⟩],imm:=false,old:=false }
theorem wH (O:Alg) (x:Ags O):XF (O:=O) Tryz.prog oc false false [true,false] 67 [] (xr x ed 0)=SA O x:=by kernel_rfl
theorem yQ {E:Env} {M:Nat} (N:Nat) (h:∀ ls,E 67 [] ls=R0 N ls):VV Tryz.prog E M ⟨67,[],false,false,[true,false]⟩ :=
 A2 mix (E:=Ey N) (N:=N) (cfg:=oc) (ci:=⟨67,[],false,false,[true,false]⟩) (ks:=ed) (AH (Lq N (fun _=>rfl)) (AH (wd N (fun _=>rfl)) (AH (wc N (fun _=>rfl)) BV))) (c:=R0 N) (F:=fun ls=>SA (std (Ey N) N) (xOf ls)) (fun ls=>rfl) (fun ls=>wH (std (Ey N) N) (xOf ls)) h
def bO:Cfg:={ gam:=[⟨65,[],true,true,[]⟩,⟨68,[],false,false,[]⟩,⟨86,[],true,true,[]⟩,⟨89,[],true,true,[]⟩],imm:=false,old:=false }
theorem nH (O:Alg) (x:Ags O):XF (O:=O) Tryz.prog bO true true [] 90 [] (xr x SN 0)=I0 O x:=by kernel_rfl
theorem pt:Vd Tryz.prog 90 I9:=fun N h =>
 A2 mix (E:=CN N) (N:=N) (cfg:=bO) (ci:=⟨90,[],true,true,[]⟩) (ks:=SN) (AH (W7 N (fun _=>rfl)) (AH (Th N (fun _=>rfl)) (AH (Lq N (fun _=>rfl)) (AH (XW N (fun _=>rfl)) BV)))) (c:=I9 N) (F:=fun ls=>I0 (std (CN N) N) (xOf ls)) (fun ls=>rfl) (fun ls=>nH (std (CN N) N) (xOf ls)) h
def eY:Cfg:={ gam:=[⟨68,[],false,false,[]⟩,⟨86,[],true,true,[]⟩,⟨89,[],true,true,[]⟩,⟨90,[],true,true,[]⟩],imm:=false,old:=false }
theorem pA (O:Alg) (x:Ags O):XF (O:=O) Tryz.prog eY false false [] 69 [] (xr x Um 0)=Kh O x:=by kernel_rfl
theorem qV {E:Env} {M:Nat} (N:Nat) (h:∀ ls,E 69 [] ls=KL N ls):VV Tryz.prog E M ⟨69,[],false,false,[]⟩ :=
 A2 mix (E:=Cf N) (N:=N) (cfg:=eY) (ci:=⟨69,[],false,false,[]⟩) (ks:=Um) (AH (Th N (fun _=>rfl)) (AH (Lq N (fun _=>rfl)) (AH (XW N (fun _=>rfl)) (AH (pt N (fun _=>rfl)) BV)))) (c:=KL N) (F:=fun ls=>Kh (std (Cf N) N) (xOf ls)) (fun ls=>rfl) (fun ls=>pA (std (Cf N) N) (xOf ls)) h
def lH:Cfg:={ gam:=[⟨64,[],true,true,[]⟩,⟨65,[],true,true,[]⟩,⟨66,[],true,true,[]⟩,⟨67,[],false,false,[true,false]⟩,⟨68,[],false,false,[]⟩,⟨69,[],false,false,[]⟩],imm:=false,old:=false }
theorem uG (O:Alg) (x:Ags O):XF (O:=O) Tryz.prog lH false false [] 52 [] (xr x Z9 0)=PL O x:=by kernel_rfl
theorem lV {E:Env} {M:Nat} (N:Nat) (h:∀ ls,E 52 [] ls=IY N ls):VV Tryz.prog E M ⟨52,[],false,false,[]⟩ :=
 A2 mix (E:=Cd N) (N:=N) (cfg:=lH) (ci:=⟨52,[],false,false,[]⟩) (ks:=Z9) (AH (th N (fun _=>rfl)) (AH (W7 N (fun _=>rfl)) (AH (gP N (fun _=>rfl)) (AH (yQ N (fun _=>rfl)) (AH (Th N (fun _=>rfl)) (AH (qV N (fun _=>rfl)) BV)))))) (c:=IY N) (F:=fun ls=>PL (std (Cd N) N) (xOf ls)) (fun ls=>rfl) (fun ls=>uG (std (Cd N) N) (xOf ls)) h
def lL:Cfg:={ gam:=[⟨52,[],false,false,[]⟩],imm:=true,old:=true }
theorem uI (O:Alg) (x:Ags O):XF (O:=O) Tryz.prog lL false false [] 62 [] (xr x Zx 0)=Oj O x:=by kernel_rfl
theorem w4 {E:Env} {M:Nat} (N:Nat) (h:∀ ls,E 62 [] ls=OZ N ls):VV Tryz.prog E M ⟨62,[],false,false,[]⟩ :=
 A2 mix (E:=Hs N) (N:=N) (cfg:=lL) (ci:=⟨62,[],false,false,[]⟩) (ks:=Zx) (AH (lV N (fun _=>rfl)) BV) (c:=OZ N) (F:=fun ls=>Oj (std (Hs N) N) (xOf ls)) (fun ls=>rfl) (fun ls=>uI (std (Hs N) N) (xOf ls)) h
def fA:Cfg:={ gam:=[⟨51,[],true,true,[]⟩,⟨62,[],false,false,[]⟩],imm:=false,old:=false }
theorem pI (O:Alg) (x:Ags O):XF (O:=O) Tryz.prog fA false false [] 50 [] (xr x T6 0)=Kf O x:=by kernel_rfl
theorem dg {E:Env} {M:Nat} (N:Nat) (h:∀ ls,E 50 [] ls=FK N ls):VV Tryz.prog E M ⟨50,[],false,false,[]⟩ :=
 A2 mix (E:=Dk N) (N:=N) (cfg:=fA) (ci:=⟨50,[],false,false,[]⟩) (ks:=T6) (AH (ny N (fun _=>rfl)) (AH (w4 N (fun _=>rfl)) BV)) (c:=FK N) (F:=fun ls=>Kf (std (Dk N) N) (xOf ls)) (fun ls=>rfl) (fun ls=>pI (std (Dk N) N) (xOf ls)) h
def gV:Cfg:={ gam:=[⟨49,[],true,true,[]⟩,⟨50,[],false,false,[]⟩],imm:=false,old:=false }
theorem qq (O:Alg) (x:Ags O):XF (O:=O) Tryz.prog gV true true [] 36 [] (xr x W4 0)=Lj O x:=by kernel_rfl
theorem ua:Vd Tryz.prog 36 MG:=fun N h =>
 A2 mix (E:=EO N) (N:=N) (cfg:=gV) (ci:=⟨36,[],true,true,[]⟩) (ks:=W4) (AH (Ds N (fun _=>rfl)) (AH (dg N (fun _=>rfl)) BV)) (c:=MG N) (F:=fun ls=>Lj (std (EO N) N) (xOf ls)) (fun ls=>rfl) (fun ls=>qq (std (EO N) N) (xOf ls)) h
theorem rx:Vd Tryz.prog 37 N8:=vt mix cw PB [] g0 rfl (fun _ _=>rfl) fun O x=>by kernel_rfl
def kO:Cfg:={ gam:=[⟨50,[],false,false,[]⟩,⟨51,[],true,true,[]⟩,⟨52,[],false,false,[]⟩,⟨53,[],true,true,[]⟩],imm:=false,old:=true,ie:=[116,76,3,47,72,109,156,4,5,139,152,89,60,197] }
theorem uF (O:Alg) (x:Ags O):XF (O:=O) Tryz.prog kO false false [] 38 [] (xr x ZM 0)=Pb O x:=by kernel_rfl
theorem vm {E:Env} {M:Nat} (N:Nat) (h:∀ ls,E 38 [] ls=Pe N ls):VV Tryz.prog E M ⟨38,[],false,false,[]⟩ :=
 A2 mix (E:=DT N) (N:=N) (cfg:=kO) (ci:=⟨38,[],false,false,[]⟩) (ks:=ZM) (AH (dg N (fun _=>rfl)) (AH (ny N (fun _=>rfl)) (AH (lV N (fun _=>rfl)) (AH (eN N (fun _=>rfl)) BV)))) (c:=Pe N) (F:=fun ls=>Pb (std (DT N) N) (xOf ls)) (fun ls=>rfl) (fun ls=>uF (std (DT N) N) (xOf ls)) h
theorem pW:Vd Tryz.prog 39 MN:=vt mix bU MK [] g0 rfl (fun _ _=>rfl) fun O x=>by kernel_rfl
def tE:Cfg:={ gam:=[⟨36,[],true,true,[]⟩,⟨37,[],true,true,[]⟩,⟨38,[],false,false,[]⟩,⟨39,[],true,true,[]⟩],imm:=false,old:=false }
theorem xO (O:Alg) (x:Ags O):XF (O:=O) Tryz.prog tE false false [] 24 [] (xr x jX 0)=Ui O x:=by kernel_rfl
theorem y7 {E:Env} {M:Nat} (N:Nat) (h:∀ ls,E 24 [] ls=Uv N ls):VV Tryz.prog E M ⟨24,[],false,false,[]⟩ :=
 A2 mix (E:=Ep N) (N:=N) (cfg:=tE) (ci:=⟨24,[],false,false,[]⟩) (ks:=jX) (AH (ua N (fun _=>rfl)) (AH (rx N (fun _=>rfl)) (AH (vm N (fun _=>rfl)) (AH (pW N (fun _=>rfl)) BV)))) (c:=Uv N) (F:=fun ls=>Ui (std (Ep N) N) (xOf ls)) (fun ls=>rfl) (fun ls=>xO (std (Ep N) N) (xOf ls)) h
def ej:Cfg:={ gam:=[⟨24,[],false,false,[]⟩,⟨26,[],true,true,[]⟩],imm:=false,old:=false }
theorem pb (O:Alg) (x:Ags O):XF (O:=O) Tryz.prog ej true true [] 15 [] (xr x VQ 0)=Kk O x:=by kernel_rfl
theorem cV:Vd Tryz.prog 15 D5:=fun N h =>
 A2 mix (E:=Dq N) (N:=N) (cfg:=ej) (ci:=⟨15,[],true,true,[]⟩) (ks:=VQ) (AH (y7 N (fun _=>rfl)) (AH (iS N (fun _=>rfl)) BV)) (c:=D5 N) (F:=fun ls=>Kk (std (Dq N) N) (xOf ls)) (fun ls=>rfl) (fun ls=>pb (std (Dq N) N) (xOf ls)) h
theorem ql:Vd Tryz.prog 16 OD:=vt mix fE Oq [(14,Bq)] (gs QR g0) rfl (fun _ _=>rfl) fun O x=>by kernel_rfl
theorem wo:Vd Tryz.prog 17 Ti:=vt mix ka TK [(15,D5)] (gs cV g0) rfl (fun _ _=>rfl) fun O x=>by kernel_rfl
def UQ:Cfg:={ gam:=[⟨7,[],true,true,[]⟩,⟨8,[],false,false,[]⟩,⟨11,[],true,true,[]⟩,⟨14,[],true,true,[]⟩,⟨15,[],true,true,[]⟩,⟨16,[],true,true,[]⟩,⟨17,[],true,true,[]⟩],imm:=false,old:=false }
theorem fh (O:Alg) (x:Ags O):XF (O:=O) Tryz.prog UQ true true [] 5 [] (xr x M4 0)=FH O x:=by kernel_rfl
theorem jA:Vd Tryz.prog 5 FL:=fun N h =>
 A2 mix (E:=A9 N) (N:=N) (cfg:=UQ) (ci:=⟨5,[],true,true,[]⟩) (ks:=M4) (AH (uL N (fun _=>rfl)) (AH (xe N (fun _=>rfl)) (AH (R6 N (fun _=>rfl)) (AH (QR N (fun _=>rfl)) (AH (cV N (fun _=>rfl)) (AH (ql N (fun _=>rfl)) (AH (wo N (fun _=>rfl)) BV))))))) (c:=FL N) (F:=fun ls=>FH (std (A9 N) N) (xOf ls)) (fun ls=>rfl) (fun ls=>fh (std (A9 N) N) (xOf ls)) h
end Go.Px
