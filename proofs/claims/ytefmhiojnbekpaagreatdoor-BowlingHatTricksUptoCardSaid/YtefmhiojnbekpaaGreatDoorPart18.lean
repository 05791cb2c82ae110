/- Part 18. -/
import Derived.Test.YtefmhiojnbekpaaGreatDoorPart08
import Derived.Test.YtefmhiojnbekpaaGreatDoorProg
import Derived.Test.YtefmhiojnbekpaaGreatDoorPart10
import Derived.KernelRfl
import Derived.WalkKit
import Derived.Lib.Walk
import Derived.BigCall
import Derived.BigGuard
import Derived.Test.YtefmhiojnbekpaaGreatDoorPart17
set_option linter.unusedVariables false
set_option linter.unusedSimpArgs false
namespace Go.Px
open Go.Proofs
set_option maxRecDepth 100000
abbrev zya:=Vd Tryz.prog
theorem mix:Tryz.prog.follows .mixedOrders=true:=by kernel_rfl
theorem rI:zya 57 Q3:=vt mix Y5 ZP [] g0 rfl (fun _ _=>rfl) fun O x=>by kernel_rfl
theorem gQ:zya 29 KZ:=vt mix fu hY [(57,Q3)] (gs rI g0) rfl (fun _ _=>rfl) fun O x=>by kernel_rfl
theorem il:zya 59 LT:=vt mix fx i7 [] g0 rfl (fun _ _=>rfl) fun O x=>by kernel_rfl
theorem zq:zya 58 Yv:=vt mix lg lA [(59,LT)] (gs il g0) rfl (fun _ _=>rfl) fun O x=>by kernel_rfl
theorem wC:zya 30 VU:=vt mix jK fQ [(58,Yv),(59,LT)] (gs zq (gs il g0)) rfl (fun _ _=>rfl) fun O x=>by kernel_rfl
theorem j8:zya 10 E3:=vt mix Tw Tz [(29,KZ),(30,VU)] (gs gQ (gs wC g0)) rfl (fun _ _=>rfl) fun O x=>by kernel_rfl
theorem P5:zya 63 DZ:=vt mix Xo W8 [] g0 rfl (fun _ _=>rfl) fun O x=>by kernel_rfl
theorem dr:zya 62 Jd:=vt mix eP dU [(63,DZ)] (gs P5 g0) rfl (fun _ _=>rfl) fun O x=>by kernel_rfl
theorem ABD:zya 64 bJ:=vt mix oh oc [(62,Jd),(63,DZ)] (gs dr (gs P5 g0)) rfl (fun _ _=>rfl) fun O x=>by kernel_rfl
theorem o4:zya 90 PN:=fun N h =>
 ABI Tryz.func90 (T3:=3) (T9:=9) rfl rfl Tryz.underlying3 Tryz.underlying9 (by kernel_rfl) (fun i hi w=>Tryz.internal_strconv_Itoa_small i hi w) h
theorem rA:zya 65 Re:=vt mix ZJ Y3 [(90,PN)] (gs o4 g0) rfl (fun _ _=>rfl) fun O x=>by kernel_rfl
theorem xO:zya 33 VX:=vt mix iR gA [(62,Jd),(63,DZ),(64,bJ),(65,Re)] (gs dr (gs P5 (gs ABD (gs rA g0)))) rfl (fun _ _=>rfl) fun O x=>by kernel_rfl
theorem bg:zya 91 Ih:=fun N h =>
 ACV Tryz.func91 (T2:=2) (T3:=3) (T9:=9) rfl rfl Tryz.underlying2 Tryz.underlying3 Tryz.underlying9 (by kernel_rfl) (fun i hi w=>Tryz.internal_strconv_FormatInt_10_small i hi w) h
theorem ez:zya 66 Jz:=vt mix Qz Qn [(91,Ih)] (gs bg g0) rfl (fun _ _=>rfl) fun O x=>by kernel_rfl
theorem rq:zya 34 RJ:=vt mix Zm ZI [(66,Jz)] (gs ez g0) rfl (fun _ _=>rfl) fun O x=>by kernel_rfl
theorem qv:zya 12 Hw:=vt mix Zn Y6 [(29,KZ),(33,VX),(34,RJ)] (gs gQ (gs xO (gs rq g0))) rfl (fun _ _=>rfl) fun O x=>by kernel_rfl
theorem ym:zya 92 MQ:=vt mix ko SG [] g0 rfl (fun _ _=>rfl) fun O x=>by kernel_rfl
theorem X1:zya 115 C2:=vt mix XJ Xu [] g0 rfl (fun _ _=>rfl) fun O x=>by kernel_rfl
theorem pF:zya 93 Gj:=vt mix Xt KF [(115,C2)] (gs X1 g0) rfl (fun _ _=>rfl) fun O x=>by kernel_rfl
theorem ru:zya 94 Hg:=vt mix Zt Lp [(115,C2)] (gs X1 g0) rfl (fun _ _=>rfl) fun O x=>by kernel_rfl
theorem DI:zya 70 Ab:=vt mix dT NJ [(92,MQ),(93,Gj),(94,Hg)] (gs ym (gs pF (gs ru g0))) rfl (fun _ _=>rfl) fun O x=>by kernel_rfl
theorem cd:zya 116 Dd:=fun N h =>
 R3 mix (T:=37) (e:=151) (b:=24) Tryz.func116 Tryz.underlying37 (by kernel_rfl) (by decide) (fun O l=>by kernel_rfl) (fun O l=>by kernel_rfl) h
theorem eA:zya 95 Dl:=vt mix eD Na [(116,Dd)] (gs cd g0) rfl (fun _ _=>rfl) fun O x=>by kernel_rfl
theorem yu:zya 72 Rt:=vt mix lY Rr [(70,Ab),(95,Dl)] (gs DI (gs eA g0)) rfl (fun _ _=>rfl) fun O x=>by kernel_rfl
theorem Ez:zya 164 Ax:=vt mix T4 Tp [] g0 rfl (fun _ _=>rfl) fun O x=>by kernel_rfl
theorem jw:zya 165 E5:=vt mix Ty HU [(164,Ax)] (gs Ez g0) rfl (fun _ _=>rfl) fun O x=>by kernel_rfl
theorem gd:zya 206 EG:=vt mix S7 Ge [] g0 rfl (fun _ _=>rfl) fun O x=>by kernel_rfl
theorem Hm:zya 185 A0:=vt mix OD Eb [(206,EG)] (gs gd g0) rfl (fun _ _=>rfl) fun O x=>by kernel_rfl
theorem fH:zya 166 D1:=vt mix Qv F6 [(164,Ax),(185,A0)] (gs Ez (gs Hm g0)) rfl (fun _ _=>rfl) fun O x=>by kernel_rfl
theorem fG:zya 186 Dw:=vt mix Q2 Fx [(164,Ax)] (gs Ez g0) rfl (fun _ _=>rfl) fun O x=>by kernel_rfl
theorem jm:zya 167 Er:=vt mix Tn HV [(186,Dw)] (gs fG g0) rfl (fun _ _=>rfl) fun O x=>by kernel_rfl
theorem P1:zya 140 BX:=vt mix Xw KG [(70,Ab),(164,Ax),(165,E5),(166,D1),(167,Er)] (gs DI (gs Ez (gs jw (gs fH (gs jm g0))))) rfl (fun _ _=>rfl) fun O x=>by kernel_rfl
theorem NB:zya 148 BV:=vt mix eO Ni [] g0 rfl (fun _ _=>rfl) fun O x=>by kernel_rfl
theorem dy:zya 141 Dm:=vt mix dS NI [(148,BV)] (gs NB g0) rfl (fun _ _=>rfl) fun O x=>by kernel_rfl
theorem uF:zya 142 JF:=vt mix eX NU [] g0 rfl (fun _ _=>rfl) fun O x=>by kernel_rfl
theorem eV:zya 117 Dk:=vt mix da M6 [(70,Ab),(140,BX),(141,Dm),(142,JF)] (gs DI (gs P1 (gs dy (gs uF g0)))) rfl (fun _ _=>rfl) fun O x=>by kernel_rfl
theorem sM:zya 143 Ho:=vt mix Z3 Lb [] g0 rfl (fun _ _=>rfl) fun O x=>by kernel_rfl
theorem qX:zya 144 GZ:=vt mix XN Po [] g0 rfl (fun _ _=>rfl) fun O x=>by kernel_rfl
open Go.RowKit Go.Lib in
set_option maxHeartbeats 1000000 in
theorem Un (s:ByteArray) (c:Int) (w:World):Calls Tryz.prog 187 #[.string s,.int .u8 c] w fun e w'=>e=.returned (.int .i64 (Lib.indexByte s.data.toList c.toNat.toUInt8))∧w'=w:=by
 go_enter Tryz.func187,Tryz.ntmps187
 go_wp2
 rw [run_callFunc_extern Tryz.func207 (by kernel_rfl) (by kernel_rfl) (by kernel_rfl) (e:=Extern.BytealgIndexByte.indexByte) (by kernel_rfl),Lib.run_indexByteString];simp only [Result.andThen];rw [Oper.upon_value]
 go_wp2
 go_ret
 exact ⟨rfl,rfl⟩
theorem Wq:zya 187 Cu:=fun N h =>
 yx Tryz.func187 (T9:=9) (T5:=5) (T3:=3) rfl rfl Tryz.underlying9 Tryz.underlying5 Tryz.underlying3 (by kernel_rfl) Un h
theorem ef:zya 168 D3:=vt mix Q1 F5 [(187,Cu)] (gs Wq g0) rfl (fun _ _=>rfl) fun O x=>by kernel_rfl
theorem vJ:zya 169 GO:=vt mix eU eC [] g0 rfl (fun _ _=>rfl) fun O x=>by kernel_rfl
theorem yc:zya 145 LM:=vt mix fh Ox [(168,D3),(169,GO)] (gs ef (gs vJ g0)) rfl (fun _ _=>rfl) fun O x=>by kernel_rfl
theorem jJ:zya 170 EU:=vt mix TD Kl [] g0 rfl (fun _ _=>rfl) fun O x=>by kernel_rfl
theorem mq:zya 146 Fo:=vt mix V0 Ip [(170,EU)] (gs jJ g0) rfl (fun _ _=>rfl) fun O x=>by kernel_rfl
theorem ec:zya 118 Dn:=vt mix dZ JT [(143,Ho),(144,GZ),(145,LM),(146,Fo)] (gs sM (gs qX (gs yc (gs mq g0)))) rfl (fun _ _=>rfl) fun O x=>by kernel_rfl
theorem Ec:zya 171 Ae:=fun N h =>
 R3 mix (T:=139) (e:=203) (b:=1) Tryz.func171 Tryz.underlying139 (by kernel_rfl) (by decide) (fun O l=>by kernel_rfl) (fun O l=>by kernel_rfl) h
theorem GT:zya 172 Aq:=fun N h =>
 R3 mix (T:=79) (e:=3) (b:=8) Tryz.func172 Tryz.underlying79 (by kernel_rfl) (by decide) (fun O l=>by kernel_rfl) (fun O l=>by kernel_rfl) h
theorem Fw:zya 173 Aj:=fun N h =>
 R3 mix (T:=140) (e:=4) (b:=1) Tryz.func173 Tryz.underlying140 (by kernel_rfl) (by decide) (fun O l=>by kernel_rfl) (fun O l=>by kernel_rfl) h
theorem C4:zya 147 AX:=vt mix W2 KO [(171,Ae),(172,Aq),(173,Aj)] (gs Ec (gs GT (gs Fw g0))) rfl (fun _ _=>rfl) fun O x=>by kernel_rfl
theorem uy:zya 119 JL:=vt mix eY M9 [(95,Dl),(147,AX)] (gs eA (gs C4 g0)) rfl (fun _ _=>rfl) fun O x=>by kernel_rfl
theorem TY:zya 152 CD:=vt mix eS NO [] g0 rfl (fun _ _=>rfl) fun O x=>by kernel_rfl
theorem Sm:zya 177 B1:=vt mix Sy GU [] g0 rfl (fun _ _=>rfl) fun O x=>by kernel_rfl
theorem o9:zya 153 Gi:=vt mix XI KQ [(117,Dk),(148,BV),(152,CD),(177,B1)] (gs eV (gs NB (gs TY (gs Sm g0)))) rfl (fun _ _=>rfl) fun O x=>by kernel_rfl
theorem oJ:zya 174 Ga:=vt mix W6 J5 [(70,Ab),(164,Ax)] (gs DI (gs Ez g0)) rfl (fun _ _=>rfl) fun O x=>by kernel_rfl
theorem rU:zya 175 Hy:=vt mix aG Lo [(148,BV),(152,CD)] (gs NB (gs TY g0)) rfl (fun _ _=>rfl) fun O x=>by kernel_rfl
theorem j0:zya 209 E0:=vt mix Tx MM [] g0 rfl (fun _ _=>rfl) fun O x=>by kernel_rfl
theorem qZ:zya 188 GW:=vt mix Xh J8 [(209,E0)] (gs j0 g0) rfl (fun _ _=>rfl) fun O x=>by kernel_rfl
theorem H3:zya 240 A8:=vt mix iY QQ [(171,Ae),(172,Aq),(173,Aj)] (gs Ec (gs GT (gs Fw g0))) rfl (fun _ _=>rfl) fun O x=>by kernel_rfl
theorem na:zya 262 DM:=vt mix Vx N2 [] g0 rfl (fun _ _=>rfl) fun O x=>by kernel_rfl
theorem aB:zya 241 CH:=vt mix ZH FU [(262,DM)] (gs na g0) rfl (fun _ _=>rfl) fun O x=>by kernel_rfl
theorem H9:zya 242 BA:=vt mix ZC MA [] g0 rfl (fun _ _=>rfl) fun O x=>by kernel_rfl
theorem ut:zya 210 JG:=vt mix dp NY [(240,A8),(241,CH),(242,BA)] (gs H3 (gs aB (gs H9 g0))) rfl (fun _ _=>rfl) fun O x=>by kernel_rfl
theorem YL:zya 243 C9:=vt mix lN SF [(171,Ae),(172,Aq),(173,Aj)] (gs Ec (gs GT (gs Fw g0))) rfl (fun _ _=>rfl) fun O x=>by kernel_rfl
theorem Td:zya 263 CB:=vt mix dh NV [] g0 rfl (fun _ _=>rfl) fun O x=>by kernel_rfl
theorem xh:zya 264 Kb:=vt mix jH Pz [(70,Ab),(263,CB)] (gs DI (gs Td g0)) rfl (fun _ _=>rfl) fun O x=>by kernel_rfl
theorem zX:zya 244 Mk:=vt mix lW SQ [(70,Ab),(185,A0),(263,CB),(264,Kb)] (gs DI (gs Hm (gs Td (gs xh g0)))) rfl (fun _ _=>rfl) fun O x=>by kernel_rfl
theorem ye:zya 211 Ko:=vt mix gW Ps [(243,C9),(244,Mk)] (gs YL (gs zX g0)) rfl (fun _ _=>rfl) fun O x=>by kernel_rfl
theorem fI:zya 110 Dx:=vt mix Qu Fy [] g0 rfl (fun _ _=>rfl) fun O x=>by kernel_rfl
theorem Vv:zya 86 Cp:=vt mix WH Ib [(110,Dx)] (gs fI g0) rfl (fun _ _=>rfl) fun O x=>by kernel_rfl
theorem fJ:zya 87 Dz:=vt mix Qm F1 [] g0 rfl (fun _ _=>rfl) fun O x=>by kernel_rfl
theorem T1:zya 52 CR:=vt mix UC HY [(86,Cp),(87,Dz)] (gs Vv (gs fJ g0)) rfl (fun _ _=>rfl) fun O x=>by kernel_rfl
theorem nV:zya 53 Fb:=vt mix WL U9 [] g0 rfl (fun _ _=>rfl) fun O x=>by kernel_rfl
theorem PZ:zya 224 BW:=vt mix Xy Ed [(241,CH)] (gs aB g0) rfl (fun _ _=>rfl) fun O x=>by kernel_rfl
theorem JO:zya 252 BD:=vt mix dj NZ [] g0 rfl (fun _ _=>rfl) fun O x=>by kernel_rfl
theorem Id:zya 253 BC:=vt mix V7 I6 [(252,BD)] (gs JO g0) rfl (fun _ _=>rfl) fun O x=>by kernel_rfl
theorem oO:zya 268 Gp:=vt mix XE J0 [] g0 rfl (fun _ _=>rfl) fun O x=>by kernel_rfl
theorem uw:zya 265 JX:=vt mix eT NS [(252,BD),(253,BC),(268,Gp)] (gs JO (gs Id (gs oO g0))) rfl (fun _ _=>rfl) fun O x=>by kernel_rfl
theorem UE:zya 273 Bt:=vt mix UB T7 [] g0 rfl (fun _ _=>rfl) fun O x=>by kernel_rfl
theorem rW:zya 269 IG:=vt mix Z9 LZ [(273,Bt)] (gs UE g0) rfl (fun _ _=>rfl) fun O x=>by kernel_rfl
theorem ik:zya 274 EH:=vt mix SW GY [] g0 rfl (fun _ _=>rfl) fun O x=>by kernel_rfl
theorem Zo:zya 270 DR:=vt mix OT EZ [(274,EH)] (gs ik g0) rfl (fun _ _=>rfl) fun O x=>by kernel_rfl
theorem gj:zya 275 EK:=vt mix TC Gl [] g0 rfl (fun _ _=>rfl) fun O x=>by kernel_rfl
theorem nM:zya 271 Fn:=vt mix WP Ie [(273,Bt),(275,EK)] (gs UE (gs gj g0)) rfl (fun _ _=>rfl) fun O x=>by kernel_rfl
theorem Yw:zya 276 DF:=vt mix MX EE [] g0 rfl (fun _ _=>rfl) fun O x=>by kernel_rfl
theorem cw:zya 272 DW:=vt mix QH FC [(276,DF)] (gs Yw g0) rfl (fun _ _=>rfl) fun O x=>by kernel_rfl
theorem aW:zya 266 DX:=vt mix QV FD [(269,IG),(270,DR),(271,Fn),(272,DW)] (gs rW (gs Zo (gs nM (gs cw g0)))) rfl (fun _ _=>rfl) fun O x=>by kernel_rfl
theorem uZ:zya 267 JS:=vt mix ed Nn [(252,BD),(253,BC)] (gs JO (gs Id g0)) rfl (fun _ _=>rfl) fun O x=>by kernel_rfl
theorem jl:zya 245 E8:=vt mix UD HO [(86,Cp),(224,BW),(265,JX),(266,DX),(267,JS)] (gs Vv (gs PZ (gs uw (gs aW (gs uZ g0))))) rfl (fun _ _=>rfl) fun O x=>by kernel_rfl
theorem xL:zya 246 Kk:=vt mix ij O9 [(240,A8),(242,BA)] (gs H3 (gs H9 g0)) rfl (fun _ _=>rfl) fun O x=>by kernel_rfl
theorem wt:zya 247 KY:=vt mix f8 QK [(70,Ab),(185,A0),(243,C9),(263,CB)] (gs DI (gs Hm (gs YL (gs Td g0)))) rfl (fun _ _=>rfl) fun O x=>by kernel_rfl
theorem pg:zya 248 G2:=vt mix Xn J6 [(240,A8)] (gs H3 g0) rfl (fun _ _=>rfl) fun O x=>by kernel_rfl
theorem qt:zya 212 Hl:=vt mix Y8 MC [(52,CR),(53,Fb),(147,AX),(245,E8),(246,Kk),(247,KY),(248,G2)] (gs T1 (gs nV (gs C4 (gs jl (gs xL (gs wt (gs pg g0))))))) rfl (fun _ _=>rfl) fun O x=>by kernel_rfl
theorem iK:zya 249 EN:=vt mix gU Pi [(224,BW),(242,BA)] (gs PZ (gs H9 g0)) rfl (fun _ _=>rfl) fun O x=>by kernel_rfl
theorem mo:zya 213 Fa:=vt mix WO Ir [(240,A8),(242,BA),(249,EN)] (gs H3 (gs H9 (gs iK g0))) rfl (fun _ _=>rfl) fun O x=>by kernel_rfl
theorem sO:zya 214 IE:=vt mix Zc Lz [(240,A8),(249,EN)] (gs H3 (gs iK g0)) rfl (fun _ _=>rfl) fun O x=>by kernel_rfl
theorem eH:zya 225 DH:=vt mix dv GF [] g0 rfl (fun _ _=>rfl) fun O x=>by kernel_rfl
theorem qM:zya 215 Gc:=vt mix Xz KJ [(225,DH),(240,A8),(242,BA)] (gs eH (gs H3 (gs H9 g0))) rfl (fun _ _=>rfl) fun O x=>by kernel_rfl
theorem YR:zya 251 DA:=vt mix lC ST [(171,Ae),(172,Aq),(173,Aj)] (gs Ec (gs GT (gs Fw g0))) rfl (fun _ _=>rfl) fun O x=>by kernel_rfl
theorem pU:zya 216 Gx:=vt mix XV KB [(251,DA)] (gs YR g0) rfl (fun _ _=>rfl) fun O x=>by kernel_rfl
theorem rY:zya 217 H5:=vt mix ZD Ls [(251,DA),(252,BD),(253,BC)] (gs YR (gs JO (gs Id g0))) rfl (fun _ _=>rfl) fun O x=>by kernel_rfl
theorem ir:zya 218 ER:=vt mix Sq Gm [(251,DA),(252,BD),(253,BC)] (gs YR (gs JO (gs Id g0))) rfl (fun _ _=>rfl) fun O x=>by kernel_rfl
theorem oF:zya 219 Gn:=vt mix Xx KL [(70,Ab),(243,C9)] (gs DI (gs YL g0)) rfl (fun _ _=>rfl) fun O x=>by kernel_rfl
theorem jq:zya 220 E6:=vt mix Tv HW [(147,AX)] (gs C4 g0) rfl (fun _ _=>rfl) fun O x=>by kernel_rfl
theorem Ts:zya 191 CT:=vt mix UG HR [(147,AX)] (gs C4 g0) rfl (fun _ _=>rfl) fun O x=>by kernel_rfl
theorem kE:zya 221 Eu:=vt mix Tq HQ [(147,AX),(191,CT)] (gs C4 (gs Ts g0)) rfl (fun _ _=>rfl) fun O x=>by kernel_rfl
theorem nZ:zya 222 Fr:=vt mix VN Fj [(147,AX)] (gs C4 g0) rfl (fun _ _=>rfl) fun O x=>by kernel_rfl
theorem pk:zya 254 Gg:=vt mix XQ XR [] g0 rfl (fun _ _=>rfl) fun O x=>by kernel_rfl
theorem mX:zya 223 Fi:=vt mix Vm I3 [(147,AX),(254,Gg)] (gs C4 (gs pk g0)) rfl (fun _ _=>rfl) fun O x=>by kernel_rfl
theorem jv:zya 189 Es:=vt mix Tt E7 [(210,JG),(211,Ko),(212,Hl),(213,Fa),(214,IE),(215,Gc),(216,Gx),(217,H5),(218,ER),(219,Gn),(220,E6),(221,Eu),(222,Fr),(223,Fi)] (gs ut (gs ye (gs qt (gs mo (gs sO (gs qM (gs pU (gs rY (gs ir (gs oF (gs jq (gs kE (gs nZ (gs mX g0)))))))))))))) rfl (fun _ _=>rfl) fun O x=>by kernel_rfl
theorem ni:zya 190 D6:=vt mix WM I9 [(140,BX),(224,BW),(225,DH)] (gs P1 (gs PZ (gs eH g0))) rfl (fun _ _=>rfl) fun O x=>by kernel_rfl
theorem ry:zya 176 Hh:=vt mix aH Ln [(118,Dn),(140,BX),(147,AX),(188,GW),(189,Es),(190,D6)] (gs ec (gs P1 (gs C4 (gs qZ (gs jv (gs ni g0)))))) rfl (fun _ _=>rfl) fun O x=>by kernel_rfl
theorem xz:zya 96 QU:=vt mix iG QE [(117,Dk),(118,Dn),(119,JL),(141,Dm),(148,BV),(152,CD),(153,Gi),(174,Ga),(175,Hy),(176,Hh),(177,B1),(191,CT)] (gs eV (gs ec (gs uy (gs dy (gs NB (gs TY (gs o9 (gs oJ (gs rU (gs ry (gs Sm (gs Ts g0)))))))))))) rfl (fun _ _=>rfl) fun O x=>by kernel_rfl
def pO:Cfg:={ gam:=[⟨96,[],true,true,[],[]⟩],imm:=false,old:=false }
theorem zL (O:Alg) (x:Ags O):XF (O:=O) Tryz.prog pO (CI.ow ⟨73,[],false,false,[],[]⟩) false [] 73 [] (xr x dB 0)=Pb O x:=by kernel_rfl
theorem ABv {E:Env} {M:Nat} (N:Nat) (h:∀ ls,E 73 [] ls=QC N ls):VV Tryz.prog E M ⟨73,[],false,false,[],[]⟩ :=
 A9 mix (E:=IK N) (N:=N) (cfg:=pO) (ci:=⟨73,[],false,false,[],[]⟩) (ks:=dB) (AK (xz N (fun _=>rfl)) Bh) (c:=QC N) (F:=fun ls=>Pb (std (IK N) N) (xOf ls)) (fun ls=>rfl) (fun ls=>zL (std (IK N) N) (xOf ls)) h
theorem oj:zya 74 KN:=vt mix Xd J1 [(52,CR)] (gs T1 g0) rfl (fun _ _=>rfl) fun O x=>by kernel_rfl
def qd:Cfg:={ gam:=[⟨72,[],true,true,[],[]⟩,⟨73,[],false,false,[],[]⟩,⟨74,[],true,true,[],[]⟩],imm:=false,old:=true,ie:=[26,151,58,50,68,3,87,142,203,4,5,185,199,93,54,244] }
theorem y9 (O:Alg) (x:Ags O):XF (O:=O) Tryz.prog qd (CI.ow ⟨39,[],true,false,[],[26,151,58,50,68,3,87,142,203,4,5,185,199,93,54,244]⟩) false [] 39 [] (xr x bA 0)=PY O x:=by kernel_rfl
theorem aZ {E:Env} {M:Nat} (N:Nat) (h:∀ ls,E 39 [] ls=FB N ls):VV Tryz.prog E M ⟨39,[],true,false,[],[26,151,58,50,68,3,87,142,203,4,5,185,199,93,54,244]⟩ :=
 A9 mix (E:=EI N) (N:=N) (cfg:=qd) (ci:=⟨39,[],true,false,[],[26,151,58,50,68,3,87,142,203,4,5,185,199,93,54,244]⟩) (ks:=bA) (AK (yu N (fun _=>rfl)) (AK (ABv N (fun _=>rfl)) (AK (oj N (fun _=>rfl)) Bh))) (c:=FB N) (F:=fun ls=>PY (std (EI N) N) (xOf ls)) (fun ls=>rfl) (fun ls=>y9 (std (EI N) N) (xOf ls)) h
def fO:Cfg:={ gam:=[⟨39,[],true,false,[],[26,151,58,50,68,3,87,142,203,4,5,185,199,93,54,244]⟩],imm:=false,old:=false }
theorem ul (O:Alg) (x:Ags O):XF (O:=O) Tryz.prog fO (CI.ow ⟨71,[],false,false,[],[]⟩) false [] 71 [] (xr x WG 0)=KX O x:=by kernel_rfl
theorem yW {E:Env} {M:Nat} (N:Nat) (h:∀ ls,E 71 [] ls=LD N ls):VV Tryz.prog E M ⟨71,[],false,false,[],[]⟩ :=
 A9 mix (E:=FT N) (N:=N) (cfg:=fO) (ci:=⟨71,[],false,false,[],[]⟩) (ks:=WG) (AK (aZ N (fun _=>rfl)) Bh) (c:=LD N) (F:=fun ls=>KX (std (FT N) N) (xOf ls)) (fun ls=>rfl) (fun ls=>ul (std (FT N) N) (xOf ls)) h
def kc:Cfg:={ gam:=[⟨70,[],true,true,[],[]⟩,⟨71,[],false,false,[],[]⟩],imm:=false,old:=false }
theorem vl (O:Alg) (x:Ags O):XF (O:=O) Tryz.prog kc (CI.ow ⟨37,[],true,true,[],[]⟩) true [] 37 [] (xr x YH 0)=Mg O x:=by kernel_rfl
theorem lT:zya 37 HD:=fun N h =>
 A9 mix (E:=Ej N) (N:=N) (cfg:=kc) (ci:=⟨37,[],true,true,[],[]⟩) (ks:=YH) (AK (DI N (fun _=>rfl)) (AK (yW N (fun _=>rfl)) Bh)) (c:=HD N) (F:=fun ls=>Mg (std (Ej N) N) (xOf ls)) (fun ls=>rfl) (fun ls=>vl (std (Ej N) N) (xOf ls)) h
theorem Z7:zya 38 D4:=vt mix Zh Lw [] g0 rfl (fun _ _=>rfl) fun O x=>by kernel_rfl
theorem nI:zya 44 Ic:=vt mix VK Ig [] g0 rfl (fun _ _=>rfl) fun O x=>by kernel_rfl
def UA:Cfg:={ gam:=[⟨37,[],true,true,[],[]⟩,⟨38,[],true,true,[],[]⟩,⟨39,[],true,false,[],[26,151,58,50,68,3,87,142,203,4,5,185,199,93,54,244]⟩,⟨44,[],true,true,[],[]⟩],imm:=false,old:=false,ie:=[60001] }
theorem fc (O:Alg) (x:Ags O):XF (O:=O) Tryz.prog UA (CI.ow ⟨19,[],true,true,[],[]⟩) true [] 19 [] (xr x MJ 0)=Et O x:=by kernel_rfl
theorem kG:zya 19 C0:=fun N h =>
 A9 mix (E:=Bb N) (N:=N) (cfg:=UA) (ci:=⟨19,[],true,true,[],[]⟩) (ks:=MJ) (AK (lT N (fun _=>rfl)) (AK (Z7 N (fun _=>rfl)) (AK (aZ N (fun _=>rfl)) (AK (nI N (fun _=>rfl)) Bh)))) (c:=C0 N) (F:=fun ls=>Et (std (Bb N) N) (xOf ls)) (fun ls=>rfl) (fun ls=>fc (std (Bb N) N) (xOf ls)) h
theorem zI:zya 27 Mt:=vt mix kX kf [] g0 rfl (fun _ _=>rfl) fun O x=>by kernel_rfl
theorem zD:zya 55 X6:=vt mix kL lh [] g0 rfl (fun _ _=>rfl) fun O x=>by kernel_rfl
theorem ACj:zya 28 Su:=vt mix tE sU [(55,X6)] (gs zD g0) rfl (fun _ _=>rfl) fun O x=>by kernel_rfl
theorem zE:zya 8 Mu:=vt mix kP Ro [(10,E3),(12,Hw),(19,C0),(27,Mt),(28,Su)] (gs j8 (gs qv (gs kG (gs zI (gs ACj g0))))) rfl (fun _ _=>rfl) fun O x=>by kernel_rfl
def tV:Cfg:={ gam:=[],imm:=false,old:=false }
theorem ABF (O:Alg) (x:Ags O):XF (O:=O) Tryz.prog tV (CI.ow ⟨18,[],false,false,[],[]⟩) false [] 18 [] (xr x hZ 0)=Sg O x:=by kernel_rfl
theorem ACP {E:Env} {M:Nat} (N:Nat) (h:∀ ls,E 18 [] ls=TE N ls):VV Tryz.prog E M ⟨18,[],false,false,[],[]⟩ :=
 A9 mix (E:=M1 N) (N:=N) (cfg:=tV) (ci:=⟨18,[],false,false,[],[]⟩) (ks:=hZ) Bh (c:=TE N) (F:=fun ls=>Sg (std (M1 N) N) (xOf ls)) (fun ls=>rfl) (fun ls=>ABF (std (M1 N) N) (xOf ls)) h
theorem uq:zya 79 JB:=vt mix eM NE [] g0 rfl (fun _ _=>rfl) fun O x=>by kernel_rfl
theorem vK:zya 47 NR:=vt mix dn Nb [(38,D4),(79,JB)] (gs Z7 (gs uq g0)) rfl (fun _ _=>rfl) fun O x=>by kernel_rfl
def Qp:Cfg:={ gam:=[⟨37,[],true,true,[],[]⟩,⟨39,[],true,false,[],[26,151,58,50,68,3,87,142,203,4,5,185,199,93,54,244]⟩,⟨47,[],true,true,[],[]⟩],imm:=false,old:=false }
theorem bR (O:Alg) (x:Ags O):XF (O:=O) Tryz.prog Qp (CI.ow ⟨22,[],true,true,[],[]⟩) true [] 22 [] (xr x Jy 0)=D2 O x:=by kernel_rfl
theorem fD:zya 22 D0:=fun N h =>
 A9 mix (E:=Bg N) (N:=N) (cfg:=Qp) (ci:=⟨22,[],true,true,[],[]⟩) (ks:=Jy) (AK (lT N (fun _=>rfl)) (AK (aZ N (fun _=>rfl)) (AK (vK N (fun _=>rfl)) Bh))) (c:=D0 N) (F:=fun ls=>D2 (std (Bg N) N) (xOf ls)) (fun ls=>rfl) (fun ls=>bR (std (Bg N) N) (xOf ls)) h
theorem ABo:zya 97 QY:=vt mix qR UY [] g0 rfl (fun _ _=>rfl) fun O x=>by kernel_rfl
theorem AEJ:zya 98 VP:=vt mix wg yB [] g0 rfl (fun _ _=>rfl) fun O x=>by kernel_rfl
theorem ED:zya 80 Am:=vt mix lP SC [(97,QY),(98,VP)] (gs ABo (gs AEJ g0)) rfl (fun _ _=>rfl) fun O x=>by kernel_rfl
theorem kz:zya 100 FL:=vt mix mJ SP [] g0 rfl (fun _ _=>rfl) fun O x=>by kernel_rfl
theorem tf:zya 82 OZ:=vt mix tu XD [(80,Am),(100,FL)] (gs ED (gs kz g0)) rfl (fun _ _=>rfl) fun O x=>by kernel_rfl
theorem CO:zya 154 AQ:=vt mix kh R6 [] g0 rfl (fun _ _=>rfl) fun O x=>by kernel_rfl
theorem Yl:zya 122 DV:=vt mix lI R5 [(154,AQ)] (gs CO g0) rfl (fun _ _=>rfl) fun O x=>by kernel_rfl
theorem zO:zya 101 Rm:=vt mix lQ R2 [(100,FL),(122,DV)] (gs kz (gs Yl g0)) rfl (fun _ _=>rfl) fun O x=>by kernel_rfl
theorem nA:zya 179 Fh:=vt mix xI xG [] g0 rfl (fun _ _=>rfl) fun O x=>by kernel_rfl
theorem ACR:zya 180 Sd:=vt mix sV X2 [(179,Fh)] (gs nA g0) rfl (fun _ _=>rfl) fun O x=>by kernel_rfl
theorem SM:zya 182 Bq:=vt mix lE Jm [] g0 rfl (fun _ _=>rfl) fun O x=>by kernel_rfl
theorem vF:zya 181 JM:=vt mix dR NA [(182,Bq)] (gs SM g0) rfl (fun _ _=>rfl) fun O x=>by kernel_rfl
theorem Yd:zya 155 C7:=vt mix ke SL [(80,Am),(179,Fh),(180,Sd),(181,JM)] (gs ED (gs nA (gs ACR (gs vF g0)))) rfl (fun _ _=>rfl) fun O x=>by kernel_rfl
theorem M2:zya 128 CM:=vt mix ku SH [] g0 rfl (fun _ _=>rfl) fun O x=>by kernel_rfl
theorem gK:zya 156 Fu:=vt mix iW QO [(128,CM)] (gs M2 g0) rfl (fun _ _=>rfl) fun O x=>by kernel_rfl
theorem pR:zya 123 G1:=vt mix Xk KM [(155,C7),(156,Fu)] (gs Yd (gs gK g0)) rfl (fun _ _=>rfl) fun O x=>by kernel_rfl
theorem X7:zya 102 FP:=vt mix lm Rz [(80,Am),(123,G1)] (gs ED (gs pR g0)) rfl (fun _ _=>rfl) fun O x=>by kernel_rfl
theorem yE:zya 124 Kn:=vt mix ic Qa [] g0 rfl (fun _ _=>rfl) fun O x=>by kernel_rfl
theorem AAv:zya 125 P2:=vt mix oC Uq [] g0 rfl (fun _ _=>rfl) fun O x=>by kernel_rfl
theorem ADT:zya 126 Vh:=vt mix xd nB [] g0 rfl (fun _ _=>rfl) fun O x=>by kernel_rfl
theorem AD6:zya 157 VA:=vt mix yd mM [] g0 rfl (fun _ _=>rfl) fun O x=>by kernel_rfl
theorem zh:zya 127 Mb:=vt mix lR SJ [(157,VA)] (gs AD6 g0) rfl (fun _ _=>rfl) fun O x=>by kernel_rfl
theorem l7:zya 103 Ji:=vt mix mG SS [(124,Kn),(125,P2),(126,Vh),(127,Mb)] (gs yE (gs AAv (gs ADT (gs zh g0)))) rfl (fun _ _=>rfl) fun O x=>by kernel_rfl
theorem Y1:zya 131 FO:=vt mix lU SB [] g0 rfl (fun _ _=>rfl) fun O x=>by kernel_rfl
def qQ:Cfg:={ gam:=[],imm:=false,old:=false }
theorem zj (O:Alg) (x:Ags O):XF (O:=O) Tryz.prog qQ (CI.ow ⟨105,[],false,false,[],[]⟩) false [] 105 [] (xr x cq 0)=PL O x:=by kernel_rfl
theorem UI {E:Env} {M:Nat} (N:Nat) (h:∀ ls,E 105 [] ls=Dh N ls):VV Tryz.prog E M ⟨105,[],false,false,[],[]⟩ :=
 A9 mix (E:=LN N) (N:=N) (cfg:=qQ) (ci:=⟨105,[],false,false,[],[]⟩) (ks:=cq) Bh (c:=Dh N) (F:=fun ls=>PL (std (LN N) N) (xOf ls)) (fun ls=>rfl) (fun ls=>zj (std (LN N) N) (xOf ls)) h
def eF:Cfg:={ gam:=[⟨102,[],true,true,[],[]⟩,⟨105,[],false,false,[],[]⟩,⟨156,[],true,true,[],[]⟩],imm:=false,old:=false }
theorem qz (O:Alg) (x:Ags O):XF (O:=O) Tryz.prog eF (CI.ow ⟨158,[],true,true,[],[]⟩) true [] 158 [] (xr x Tj 0)=JW O x:=by kernel_rfl
theorem ui:zya 158 JR:=fun N h =>
 A9 mix (E:=C1 N) (N:=N) (cfg:=eF) (ci:=⟨158,[],true,true,[],[]⟩) (ks:=Tj) (AK (X7 N (fun _=>rfl)) (AK (UI N (fun _=>rfl)) (AK (gK N (fun _=>rfl)) Bh))) (c:=JR N) (F:=fun ls=>JW (std (C1 N) N) (xOf ls)) (fun ls=>rfl) (fun ls=>qz (std (C1 N) N) (xOf ls)) h
theorem zS:zya 159 Rl:=vt mix lG SI [(80,Am),(179,Fh)] (gs ED (gs nA g0)) rfl (fun _ _=>rfl) fun O x=>by kernel_rfl
theorem eJ:zya 161 GQ:=vt mix dl Nd [(122,DV)] (gs Yl g0) rfl (fun _ _=>rfl) fun O x=>by kernel_rfl
theorem P0:zya 226 Bo:=vt mix iy PO [] g0 rfl (fun _ _=>rfl) fun O x=>by kernel_rfl
theorem AB6:zya 192 UP:=vt mix oa Ug [(154,AQ),(182,Bq),(226,Bo)] (gs CO (gs SM (gs P0 g0))) rfl (fun _ _=>rfl) fun O x=>by kernel_rfl
theorem H7:zya 237 A7:=vt mix Z6 LV [] g0 rfl (fun _ _=>rfl) fun O x=>by kernel_rfl
theorem WT:zya 255 Co:=vt mix fq PU [] g0 rfl (fun _ _=>rfl) fun O x=>by kernel_rfl
theorem AAr:zya 256 PQ:=vt mix qe U0 [(80,Am),(255,Co)] (gs ED (gs WT g0)) rfl (fun _ _=>rfl) fun O x=>by kernel_rfl
theorem tX:zya 257 IU:=vt mix tP W4 [] g0 rfl (fun _ _=>rfl) fun O x=>by kernel_rfl
theorem ACk:zya 227 Sb:=vt mix tD XH [(80,Am),(237,A7),(255,Co),(256,PQ),(257,IU)] (gs ED (gs H7 (gs WT (gs AAr (gs tX g0))))) rfl (fun _ _=>rfl) fun O x=>by kernel_rfl
theorem AB9:zya 193 Us:=vt mix oT Ul [(154,AQ),(227,Sb)] (gs CO (gs ACk g0)) rfl (fun _ _=>rfl) fun O x=>by kernel_rfl
theorem ADU:zya 133 Ve:=vt mix xD mO [] g0 rfl (fun _ _=>rfl) fun O x=>by kernel_rfl
theorem rO:zya 134 Hv:=vt mix Zx L5 [] g0 rfl (fun _ _=>rfl) fun O x=>by kernel_rfl
theorem kY:zya 107 HH:=vt mix kd SU [(133,Ve),(134,Hv)] (gs ADU (gs rO g0)) rfl (fun _ _=>rfl) fun O x=>by kernel_rfl
theorem rJ:zya 108 Ha:=vt mix Z5 Lx [] g0 rfl (fun _ _=>rfl) fun O x=>by kernel_rfl
theorem zG:zya 109 Mo:=vt mix mA R0 [] g0 rfl (fun _ _=>rfl) fun O x=>by kernel_rfl
theorem iX:zya 84 Hb:=vt mix gz P8 [(107,HH),(108,Ha),(109,Mo)] (gs kY (gs rJ (gs zG g0))) rfl (fun _ _=>rfl) fun O x=>by kernel_rfl
theorem VI:zya 204 Cj:=vt mix iT H2 [(182,Bq)] (gs SM g0) rfl (fun _ _=>rfl) fun O x=>by kernel_rfl
theorem Pp:zya 236 Bp:=vt mix gI QW [] g0 rfl (fun _ _=>rfl) fun O x=>by kernel_rfl
theorem vA:zya 258 JV:=vt mix eN NF [] g0 rfl (fun _ _=>rfl) fun O x=>by kernel_rfl
theorem zg:zya 228 R1:=vt mix kJ R8 [(236,Bp),(237,A7),(258,JV)] (gs Pp (gs H7 (gs vA g0))) rfl (fun _ _=>rfl) fun O x=>by kernel_rfl
theorem rp:zya 259 H4:=vt mix aQ Lr [] g0 rfl (fun _ _=>rfl) fun O x=>by kernel_rfl
theorem ADo:zya 260 V2:=vt mix wo dQ [] g0 rfl (fun _ _=>rfl) fun O x=>by kernel_rfl
theorem xS:zya 261 LF:=vt mix fg Pv [] g0 rfl (fun _ _=>rfl) fun O x=>by kernel_rfl
theorem sD:zya 229 Lk:=vt mix ZR Ld [(259,H4),(260,V2),(261,LF)] (gs rp (gs ADo (gs xS g0))) rfl (fun _ _=>rfl) fun O x=>by kernel_rfl
theorem zt:zya 230 SO:=vt mix kq Ru [(236,Bp),(237,A7)] (gs Pp (gs H7 g0)) rfl (fun _ _=>rfl) fun O x=>by kernel_rfl
theorem gx:zya 233 Fq:=vt mix fZ QG [(154,AQ)] (gs CO g0) rfl (fun _ _=>rfl) fun O x=>by kernel_rfl
theorem ACN:zya 231 XA:=vt mix tK XW [(154,AQ),(226,Bo),(233,Fq)] (gs CO (gs P0 (gs gx g0))) rfl (fun _ _=>rfl) fun O x=>by kernel_rfl
theorem ABU:zya 232 Uu:=vt mix o5 Ux [(80,Am),(154,AQ),(255,Co),(257,IU)] (gs ED (gs CO (gs WT (gs tX g0)))) rfl (fun _ _=>rfl) fun O x=>by kernel_rfl
theorem zn:zya 234 Rk:=vt mix lO l6 [] g0 rfl (fun _ _=>rfl) fun O x=>by kernel_rfl
def qK:Cfg:={ gam:=[⟨84,[],true,true,[],[]⟩,⟨107,[],true,true,[],[]⟩,⟨204,[],true,true,[],[]⟩,⟨228,[],true,true,[],[]⟩,⟨229,[],true,true,[],[]⟩,⟨230,[],true,true,[],[]⟩,⟨231,[],true,true,[],[]⟩,⟨232,[],true,true,[],[]⟩,⟨233,[],true,true,[],[]⟩,⟨234,[],true,true,[],[]⟩],imm:=false,old:=false }
theorem yy (O:Alg) (x:Ags O):XF (O:=O) Tryz.prog qK (CI.ow ⟨194,[],false,false,[],[]⟩) false [] 194 [] (xr x bq 0)=P9 O x:=by kernel_rfl
theorem AA4 {E:Env} {M:Nat} (N:Nat) (h:∀ ls,E 194 [] ls=O1 N ls):VV Tryz.prog E M ⟨194,[],false,false,[],[]⟩ :=
 A9 mix (E:=Ba N) (N:=N) (cfg:=qK) (ci:=⟨194,[],false,false,[],[]⟩) (ks:=bq) (AK (iX N (fun _=>rfl)) (AK (kY N (fun _=>rfl)) (AK (VI N (fun _=>rfl)) (AK (zg N (fun _=>rfl)) (AK (sD N (fun _=>rfl)) (AK (zt N (fun _=>rfl)) (AK (ACN N (fun _=>rfl)) (AK (ABU N (fun _=>rfl)) (AK (gx N (fun _=>rfl)) (AK (zn N (fun _=>rfl)) Bh)))))))))) (c:=O1 N) (F:=fun ls=>P9 (std (Ba N) N) (xOf ls)) (fun ls=>rfl) (fun ls=>yy (std (Ba N) N) (xOf ls)) h
theorem mH:zya 235 FR:=vt mix lk Rx [(204,Cj),(226,Bo)] (gs VI (gs P0 g0)) rfl (fun _ _=>rfl) fun O x=>by kernel_rfl
theorem uM:zya 195 Nh:=vt mix di Np [(154,AQ),(235,FR)] (gs CO (gs mH g0)) rfl (fun _ _=>rfl) fun O x=>by kernel_rfl
theorem zb:zya 196 SA:=vt mix lB SE [(154,AQ),(235,FR)] (gs CO (gs mH g0)) rfl (fun _ _=>rfl) fun O x=>by kernel_rfl
theorem pu:zya 205 FF:=vt mix oG LY [] g0 rfl (fun _ _=>rfl) fun O x=>by kernel_rfl
theorem yY:zya 197 PK:=vt mix iV PS [(154,AQ),(205,FF),(226,Bo)] (gs CO (gs pu (gs P0 g0))) rfl (fun _ _=>rfl) fun O x=>by kernel_rfl
theorem uk:zya 198 NT:=vt mix dW Ng [(154,AQ)] (gs CO g0) rfl (fun _ _=>rfl) fun O x=>by kernel_rfl
theorem xN:zya 199 PW:=vt mix jI PG [(154,AQ),(236,Bp),(237,A7)] (gs CO (gs Pp (gs H7 g0))) rfl (fun _ _=>rfl) fun O x=>by kernel_rfl
theorem mT:zya 200 Iv:=vt mix WZ Is [(154,AQ),(236,Bp),(237,A7)] (gs CO (gs Pp (gs H7 g0))) rfl (fun _ _=>rfl) fun O x=>by kernel_rfl
theorem uh:zya 201 NQ:=vt mix dz ND [(80,Am),(154,AQ)] (gs ED (gs CO g0)) rfl (fun _ _=>rfl) fun O x=>by kernel_rfl
def iA:Cfg:={ gam:=[],imm:=false,old:=false }
theorem ud (O:Alg) (x:Ags O):XF (O:=O) Tryz.prog iA (CI.ow ⟨202,[],false,false,[],[]⟩) false [] 202 [] (xr x Wb 0)=IB O x:=by kernel_rfl
theorem wX {E:Env} {M:Nat} (N:Nat) (h:∀ ls,E 202 [] ls=LC N ls):VV Tryz.prog E M ⟨202,[],false,false,[],[]⟩ :=
 A9 mix (E:=II N) (N:=N) (cfg:=iA) (ci:=⟨202,[],false,false,[],[]⟩) (ks:=Wb) Bh (c:=LC N) (F:=fun ls=>IB (std (II N) N) (xOf ls)) (fun ls=>rfl) (fun ls=>ud (std (II N) N) (xOf ls)) h
theorem zl:zya 238 Rs:=vt mix kN lr [] g0 rfl (fun _ _=>rfl) fun O x=>by kernel_rfl
def gb:Cfg:={ gam:=[⟨238,[],true,true,[],[]⟩],imm:=false,old:=false }
theorem uv (O:Alg) (x:Ags O):XF (O:=O) Tryz.prog gb (CI.ow ⟨203,[],false,false,[],[]⟩) false [] 203 [] (xr x VG 0)=LG O x:=by kernel_rfl
theorem yK {E:Env} {M:Nat} (N:Nat) (h:∀ ls,E 203 [] ls=K1 N ls):VV Tryz.prog E M ⟨203,[],false,false,[],[]⟩ :=
 A9 mix (E:=FV N) (N:=N) (cfg:=gb) (ci:=⟨203,[],false,false,[],[]⟩) (ks:=VG) (AK (zl N (fun _=>rfl)) Bh) (c:=K1 N) (F:=fun ls=>LG (std (FV N) N) (xOf ls)) (fun ls=>rfl) (fun ls=>uv (std (FV N) N) (xOf ls)) h
def tJ:Cfg:={ gam:=[⟨161,[],true,true,[],[]⟩,⟨192,[],true,true,[],[]⟩,⟨193,[],true,true,[],[]⟩,⟨194,[],false,false,[],[]⟩,⟨195,[],true,true,[],[]⟩,⟨196,[],true,true,[],[]⟩,⟨197,[],true,true,[],[]⟩,⟨198,[],true,true,[],[]⟩,⟨199,[],true,true,[],[]⟩,⟨200,[],true,true,[],[]⟩,⟨201,[],true,true,[],[]⟩,⟨202,[],false,false,[],[]⟩,⟨203,[],false,false,[],[]⟩],imm:=false,old:=false }
theorem AA2 (O:Alg) (x:Ags O):XF (O:=O) Tryz.prog tJ (CI.ow ⟨183,[],false,false,[],[]⟩) false [] 183 [] (xr x gn 0)=Od O x:=by kernel_rfl
theorem ACD {E:Env} {M:Nat} (N:Nat) (h:∀ ls,E 183 [] ls=Sj N ls):VV Tryz.prog E M ⟨183,[],false,false,[],[]⟩ :=
 A9 mix (E:=BO N) (N:=N) (cfg:=tJ) (ci:=⟨183,[],false,false,[],[]⟩) (ks:=gn) (AK (eJ N (fun _=>rfl)) (AK (AB6 N (fun _=>rfl)) (AK (AB9 N (fun _=>rfl)) (AK (AA4 N (fun _=>rfl)) (AK (uM N (fun _=>rfl)) (AK (zb N (fun _=>rfl)) (AK (yY N (fun _=>rfl)) (AK (uk N (fun _=>rfl)) (AK (xN N (fun _=>rfl)) (AK (mT N (fun _=>rfl)) (AK (uh N (fun _=>rfl)) (AK (wX N (fun _=>rfl)) (AK (yK N (fun _=>rfl)) Bh))))))))))))) (c:=Sj N) (F:=fun ls=>Od (std (BO N) N) (xOf ls)) (fun ls=>rfl) (fun ls=>AA2 (std (BO N) N) (xOf ls)) h
theorem ya:zya 184 K2:=vt mix fR Pm [(155,C7),(204,Cj),(205,FF)] (gs Yd (gs VI (gs pu g0))) rfl (fun _ _=>rfl) fun O x=>by kernel_rfl
def pi:Cfg:={ gam:=[⟨103,[],true,true,[],[]⟩,⟨122,[],true,true,[],[]⟩,⟨155,[],true,true,[],[]⟩,⟨182,[],true,true,[],[]⟩,⟨183,[],false,false,[],[]⟩,⟨184,[],true,true,[],[]⟩],imm:=false,old:=false }
theorem zW (O:Alg) (x:Ags O):XF (O:=O) Tryz.prog pi (CI.ow ⟨160,[],false,false,[],[]⟩) false [] 160 [] (xr x cV 0)=Oy O x:=by kernel_rfl
theorem qW {E:Env} {M:Nat} (N:Nat) (h:∀ ls,E 160 [] ls=I4 N ls):VV Tryz.prog E M ⟨160,[],false,false,[],[]⟩ :=
 A9 mix (E:=Ck N) (N:=N) (cfg:=pi) (ci:=⟨160,[],false,false,[],[]⟩) (ks:=cV) (AK (l7 N (fun _=>rfl)) (AK (Yl N (fun _=>rfl)) (AK (Yd N (fun _=>rfl)) (AK (SM N (fun _=>rfl)) (AK (ACD N (fun _=>rfl)) (AK (ya N (fun _=>rfl)) Bh)))))) (c:=I4 N) (F:=fun ls=>Oy (std (Ck N) N) (xOf ls)) (fun ls=>rfl) (fun ls=>zW (std (Ck N) N) (xOf ls)) h
def py:Cfg:={ gam:=[⟨128,[],true,true,[],[]⟩,⟨131,[],true,true,[],[]⟩,⟨158,[],true,true,[],[]⟩,⟨159,[],true,true,[],[]⟩,⟨160,[],false,false,[],[]⟩],imm:=false,old:=false }
theorem zm (O:Alg) (x:Ags O):XF (O:=O) Tryz.prog py (CI.ow ⟨129,[],false,false,[true,false],[]⟩) false [true,false] 129 [] (xr x dD 0)=Ov O x:=by kernel_rfl
theorem ABt {E:Env} {M:Nat} (N:Nat) (h:∀ ls,E 129 [] ls=Ow N ls):VV Tryz.prog E M ⟨129,[],false,false,[true,false],[]⟩ :=
 A9 mix (E:=DC N) (N:=N) (cfg:=py) (ci:=⟨129,[],false,false,[true,false],[]⟩) (ks:=dD) (AK (M2 N (fun _=>rfl)) (AK (Y1 N (fun _=>rfl)) (AK (ui N (fun _=>rfl)) (AK (zS N (fun _=>rfl)) (AK (qW N (fun _=>rfl)) Bh))))) (c:=Ow N) (F:=fun ls=>Ov (std (DC N) N) (xOf ls)) (fun ls=>rfl) (fun ls=>zm (std (DC N) N) (xOf ls)) h
def oA:Cfg:={ gam:=[⟨160,[],false,false,[],[]⟩,⟨161,[],true,true,[],[]⟩],imm:=true,old:=true }
theorem zu (O:Alg) (x:Ags O):XF (O:=O) Tryz.prog oA (CI.ow ⟨130,[],false,false,[true,false],[]⟩) false [true,false] 130 [] (xr x bL 0)=Pk O x:=by kernel_rfl
theorem AAl {E:Env} {M:Nat} (N:Nat) (h:∀ ls,E 130 [] ls=PP N ls):VV Tryz.prog E M ⟨130,[],false,false,[true,false],[]⟩ :=
 A9 mix (E:=Ff N) (N:=N) (cfg:=oA) (ci:=⟨130,[],false,false,[true,false],[]⟩) (ks:=bL) (AK (qW N (fun _=>rfl)) (AK (eJ N (fun _=>rfl)) Bh)) (c:=PP N) (F:=fun ls=>Pk (std (Ff N) N) (xOf ls)) (fun ls=>rfl) (fun ls=>zu (std (Ff N) N) (xOf ls)) h
def tH:Cfg:={ gam:=[⟨128,[],true,true,[],[]⟩,⟨129,[],false,false,[true,false],[]⟩,⟨130,[],false,false,[true,false],[]⟩],imm:=false,old:=false }
theorem ABp (O:Alg) (x:Ags O):XF (O:=O) Tryz.prog tH (CI.ow ⟨104,[],false,false,[true,false],[]⟩) false [true,false] 104 [] (xr x iD 0)=S8 O x:=by kernel_rfl
theorem ACB {E:Env} {M:Nat} (N:Nat) (h:∀ ls,E 104 [] ls=Sl N ls):VV Tryz.prog E M ⟨104,[],false,false,[true,false],[]⟩ :=
 A9 mix (E:=FJ N) (N:=N) (cfg:=tH) (ci:=⟨104,[],false,false,[true,false],[]⟩) (ks:=iD) (AK (M2 N (fun _=>rfl)) (AK (ABt N (fun _=>rfl)) (AK (AAl N (fun _=>rfl)) Bh))) (c:=Sl N) (F:=fun ls=>S8 (std (FJ N) N) (xOf ls)) (fun ls=>rfl) (fun ls=>ABp (std (FJ N) N) (xOf ls)) h
def dg:Cfg:={ gam:=[⟨102,[],true,true,[],[]⟩,⟨105,[],false,false,[],[]⟩,⟨128,[],true,true,[],[]⟩,⟨131,[],true,true,[],[]⟩],imm:=false,old:=false }
theorem rt (O:Alg) (x:Ags O):XF (O:=O) Tryz.prog dg (CI.ow ⟨132,[],true,true,[],[]⟩) true [] 132 [] (xr x Tf 0)=JD O x:=by kernel_rfl
theorem uU:zya 132 JU:=fun N h =>
 A9 mix (E:=Cd N) (N:=N) (cfg:=dg) (ci:=⟨132,[],true,true,[],[]⟩) (ks:=Tf) (AK (X7 N (fun _=>rfl)) (AK (UI N (fun _=>rfl)) (AK (M2 N (fun _=>rfl)) (AK (Y1 N (fun _=>rfl)) Bh)))) (c:=JU N) (F:=fun ls=>JD (std (Cd N) N) (xOf ls)) (fun ls=>rfl) (fun ls=>rt (std (Cd N) N) (xOf ls)) h
def fp:Cfg:={ gam:=[⟨105,[],false,false,[],[]⟩,⟨128,[],true,true,[],[]⟩,⟨131,[],true,true,[],[]⟩,⟨132,[],true,true,[],[]⟩],imm:=false,old:=false }
theorem uI (O:Alg) (x:Ags O):XF (O:=O) Tryz.prog fp (CI.ow ⟨106,[],false,false,[],[]⟩) false [] 106 [] (xr x WB 0)=Kd O x:=by kernel_rfl
theorem xq {E:Env} {M:Nat} (N:Nat) (h:∀ ls,E 106 [] ls=Ki N ls):VV Tryz.prog E M ⟨106,[],false,false,[],[]⟩ :=
 A9 mix (E:=Cq N) (N:=N) (cfg:=fp) (ci:=⟨106,[],false,false,[],[]⟩) (ks:=WB) (AK (UI N (fun _=>rfl)) (AK (M2 N (fun _=>rfl)) (AK (Y1 N (fun _=>rfl)) (AK (uU N (fun _=>rfl)) Bh)))) (c:=Ki N) (F:=fun ls=>Kd (std (Cq N) N) (xOf ls)) (fun ls=>rfl) (fun ls=>uI (std (Cq N) N) (xOf ls)) h
def pQ:Cfg:={ gam:=[⟨101,[],true,true,[],[]⟩,⟨102,[],true,true,[],[]⟩,⟨103,[],true,true,[],[]⟩,⟨104,[],false,false,[true,false],[]⟩,⟨105,[],false,false,[],[]⟩,⟨106,[],false,false,[],[]⟩],imm:=false,old:=false }
theorem zR (O:Alg) (x:Ags O):XF (O:=O) Tryz.prog pQ (CI.ow ⟨83,[],false,false,[],[]⟩) false [] 83 [] (xr x cN 0)=QM O x:=by kernel_rfl
theorem pC {E:Env} {M:Nat} (N:Nat) (h:∀ ls,E 83 [] ls=Il N ls):VV Tryz.prog E M ⟨83,[],false,false,[],[]⟩ :=
 A9 mix (E:=Ch N) (N:=N) (cfg:=pQ) (ci:=⟨83,[],false,false,[],[]⟩) (ks:=cN) (AK (zO N (fun _=>rfl)) (AK (X7 N (fun _=>rfl)) (AK (l7 N (fun _=>rfl)) (AK (ACB N (fun _=>rfl)) (AK (UI N (fun _=>rfl)) (AK (xq N (fun _=>rfl)) Bh)))))) (c:=Il N) (F:=fun ls=>QM (std (Ch N) N) (xOf ls)) (fun ls=>rfl) (fun ls=>zR (std (Ch N) N) (xOf ls)) h
def pA:Cfg:={ gam:=[⟨83,[],false,false,[],[]⟩],imm:=true,old:=true }
theorem yp (O:Alg) (x:Ags O):XF (O:=O) Tryz.prog pA (CI.ow ⟨99,[],false,false,[],[]⟩) false [] 99 [] (xr x cB 0)=QP O x:=by kernel_rfl
theorem AAz {E:Env} {M:Nat} (N:Nat) (h:∀ ls,E 99 [] ls=Pu N ls):VV Tryz.prog E M ⟨99,[],false,false,[],[]⟩ :=
 A9 mix (E:=Hi N) (N:=N) (cfg:=pA) (ci:=⟨99,[],false,false,[],[]⟩) (ks:=cB) (AK (pC N (fun _=>rfl)) Bh) (c:=Pu N) (F:=fun ls=>QP (std (Hi N) N) (xOf ls)) (fun ls=>rfl) (fun ls=>yp (std (Hi N) N) (xOf ls)) h
def fm:Cfg:={ gam:=[⟨82,[],true,true,[],[]⟩,⟨99,[],false,false,[],[]⟩],imm:=false,old:=false }
theorem uf (O:Alg) (x:Ags O):XF (O:=O) Tryz.prog fm (CI.ow ⟨81,[],false,false,[],[]⟩) false [] 81 [] (xr x VR 0)=Kw O x:=by kernel_rfl
theorem ge {E:Env} {M:Nat} (N:Nat) (h:∀ ls,E 81 [] ls=Fp N ls):VV Tryz.prog E M ⟨81,[],false,false,[],[]⟩ :=
 A9 mix (E:=D7 N) (N:=N) (cfg:=fm) (ci:=⟨81,[],false,false,[],[]⟩) (ks:=VR) (AK (tf N (fun _=>rfl)) (AK (AAz N (fun _=>rfl)) Bh)) (c:=Fp N) (F:=fun ls=>Kw (std (D7 N) N) (xOf ls)) (fun ls=>rfl) (fun ls=>uf (std (D7 N) N) (xOf ls)) h
def mF:Cfg:={ gam:=[⟨80,[],true,true,[],[]⟩,⟨81,[],false,false,[],[]⟩],imm:=false,old:=false }
theorem xn (O:Alg) (x:Ags O):XF (O:=O) Tryz.prog mF (CI.ow ⟨48,[],true,true,[],[]⟩) true [] 48 [] (xr x YY 0)=My O x:=by kernel_rfl
theorem zQ:zya 48 Mw:=fun N h =>
 A9 mix (E:=Em N) (N:=N) (cfg:=mF) (ci:=⟨48,[],true,true,[],[]⟩) (ks:=YY) (AK (ED N (fun _=>rfl)) (AK (ge N (fun _=>rfl)) Bh)) (c:=Mw N) (F:=fun ls=>My (std (Em N) N) (xOf ls)) (fun ls=>rfl) (fun ls=>xn (std (Em N) N) (xOf ls)) h
def po:Cfg:={ gam:=[⟨81,[],false,false,[],[]⟩,⟨82,[],true,true,[],[]⟩,⟨83,[],false,false,[],[]⟩,⟨84,[],true,true,[],[]⟩],imm:=false,old:=true,ie:=[26,151,58,50,68,3,87,142,203,4,5,185,199,93,54,244] }
theorem zo (O:Alg) (x:Ags O):XF (O:=O) Tryz.prog po (CI.ow ⟨49,[],false,false,[],[]⟩) false [] 49 [] (xr x ck 0)=PD O x:=by kernel_rfl
theorem ABK {E:Env} {M:Nat} (N:Nat) (h:∀ ls,E 49 [] ls=PJ N ls):VV Tryz.prog E M ⟨49,[],false,false,[],[]⟩ :=
 A9 mix (E:=Db N) (N:=N) (cfg:=po) (ci:=⟨49,[],false,false,[],[]⟩) (ks:=ck) (AK (ge N (fun _=>rfl)) (AK (tf N (fun _=>rfl)) (AK (pC N (fun _=>rfl)) (AK (iX N (fun _=>rfl)) Bh)))) (c:=PJ N) (F:=fun ls=>PD (std (Db N) N) (xOf ls)) (fun ls=>rfl) (fun ls=>zo (std (Db N) N) (xOf ls)) h
theorem vn:zya 76 Kc:=vt mix fU Pj [] g0 rfl (fun _ _=>rfl) fun O x=>by kernel_rfl
theorem y5:zya 85 Mh:=vt mix kK R9 [] g0 rfl (fun _ _=>rfl) fun O x=>by kernel_rfl
theorem y6:zya 50 SR:=vt mix kW Ry [(76,Kc),(85,Mh)] (gs vn (gs y5 g0)) rfl (fun _ _=>rfl) fun O x=>by kernel_rfl
def Xl:Cfg:={ gam:=[⟨48,[],true,true,[],[]⟩,⟨49,[],false,false,[],[]⟩,⟨50,[],true,true,[],[]⟩],imm:=false,old:=false }
theorem me (O:Alg) (x:Ags O):XF (O:=O) Tryz.prog Xl (CI.ow ⟨23,[],true,true,[],[]⟩) true [] 23 [] (xr x Pr 0)=GS O x:=by kernel_rfl
theorem pV:zya 23 Gf:=fun N h =>
 A9 mix (E:=CQ N) (N:=N) (cfg:=Xl) (ci:=⟨23,[],true,true,[],[]⟩) (ks:=Pr) (AK (zQ N (fun _=>rfl)) (AK (ABK N (fun _=>rfl)) (AK (y6 N (fun _=>rfl)) Bh))) (c:=Gf N) (F:=fun ls=>GS (std (CQ N) N) (xOf ls)) (fun ls=>rfl) (fun ls=>me (std (CQ N) N) (xOf ls)) h
theorem ee:zya 24 F3:=vt mix Qw F4 [] g0 rfl (fun _ _=>rfl) fun O x=>by kernel_rfl
def Mj:Cfg:={ gam:=[⟨8,[],true,true,[],[]⟩,⟨18,[],false,false,[],[]⟩,⟨22,[],true,true,[],[]⟩,⟨23,[],true,true,[],[]⟩,⟨24,[],true,true,[],[]⟩],imm:=false,old:=false }
theorem Wn (O:Alg) (x:Ags O):XF (O:=O) Tryz.prog Mj (CI.ow ⟨6,[],true,true,[],[]⟩) true [] 6 [] (xr x HG 0)=DB O x:=by kernel_rfl
theorem YQ:zya 6 DD:=fun N h =>
 A9 mix (E:=A4 N) (N:=N) (cfg:=Mj) (ci:=⟨6,[],true,true,[],[]⟩) (ks:=HG) (AK (zE N (fun _=>rfl)) (AK (ACP N (fun _=>rfl)) (AK (fD N (fun _=>rfl)) (AK (pV N (fun _=>rfl)) (AK (ee N (fun _=>rfl)) Bh))))) (c:=DD N) (F:=fun ls=>DB (std (A4 N) N) (xOf ls)) (fun ls=>rfl) (fun ls=>Wn (std (A4 N) N) (xOf ls)) h
end Go.Px
