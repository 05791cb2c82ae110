/- Part 18. -/
import Derived.Test.YtejjoflbpnjohaaGreatDoorPart07
import Derived.Test.YtejjoflbpnjohaaGreatDoorProg
import Derived.Test.YtejjoflbpnjohaaGreatDoorPart10
import Derived.KernelRfl
import Derived.WalkKit
import Derived.Lib.Walk
import Derived.BigCall
import Derived.BigGuard
import Derived.Test.YtejjoflbpnjohaaGreatDoorPart17
set_option linter.unusedVariables false
set_option linter.unusedSimpArgs false
namespace Go.Px
open Go.Proofs
set_option maxRecDepth 100000
abbrev zzp:=Vd Tryz.prog
theorem mix:Tryz.prog.follows .mixedOrders=true:=by kernel_rfl
theorem qL:zzp 17 Le:=vt mix Zx L5 [] g0 rfl (fun _ _=>rfl) fun O x=>by kernel_rfl
theorem kE:zzp 73 HJ:=vt mix kO Rx [] g0 rfl (fun _ _=>rfl) fun O x=>by kernel_rfl
theorem XM:zzp 104 C7:=vt mix XJ Xa [] g0 rfl (fun _ _=>rfl) fun O x=>by kernel_rfl
theorem px:zzp 89 G8:=vt mix XX KZ [(104,C7)] (gs XM g0) rfl (fun _ _=>rfl) fun O x=>by kernel_rfl
theorem rA:zzp 90 H8:=vt mix aP Lg [(104,C7)] (gs XM g0) rfl (fun _ _=>rfl) fun O x=>by kernel_rfl
theorem DK:zzp 61 Ab:=vt mix dL Nn [(73,HJ),(89,G8),(90,H8)] (gs kE (gs px (gs rA g0))) rfl (fun _ _=>rfl) fun O x=>by kernel_rfl
theorem bq:zzp 105 Dc:=fun N h =>
 Rz mix (T:=22) (e:=170) (b:=24) Tryz.func105 Tryz.underlying22 (by kernel_rfl) (by decide) (fun O l=>by kernel_rfl) (fun O l=>by kernel_rfl) h
theorem dQ:zzp 91 Dq:=vt mix dv NW [(105,Dc)] (gs bq g0) rfl (fun _ _=>rfl) fun O x=>by kernel_rfl
theorem yE:zzp 65 Ry:=vt mix lN R6 [(61,Ab),(91,Dq)] (gs DK (gs dQ g0)) rfl (fun _ _=>rfl) fun O x=>by kernel_rfl
theorem E1:zzp 159 Au:=vt mix UE UA [] g0 rfl (fun _ _=>rfl) fun O x=>by kernel_rfl
theorem jf:zzp 160 E0:=vt mix Tq Hc [(159,Au)] (gs E1 g0) rfl (fun _ _=>rfl) fun O x=>by kernel_rfl
theorem fp:zzp 198 EM:=vt mix S0 Gx [] g0 rfl (fun _ _=>rfl) fun O x=>by kernel_rfl
theorem IV:zzp 184 Ay:=vt mix Oh Eh [(198,EM)] (gs fp g0) rfl (fun _ _=>rfl) fun O x=>by kernel_rfl
theorem ek:zzp 161 Dy:=vt mix Q1 F3 [(159,Au),(184,Ay)] (gs E1 (gs IV g0)) rfl (fun _ _=>rfl) fun O x=>by kernel_rfl
theorem eu:zzp 186 Dz:=vt mix Qx F4 [(159,Au)] (gs E1 g0) rfl (fun _ _=>rfl) fun O x=>by kernel_rfl
theorem jk:zzp 162 E4:=vt mix Tw Hf [(186,Dz)] (gs eu g0) rfl (fun _ _=>rfl) fun O x=>by kernel_rfl
theorem O6:zzp 127 BZ:=vt mix XE KX [(61,Ab),(159,Au),(160,E0),(161,Dy),(162,E4)] (gs DK (gs E1 (gs jf (gs ek (gs jk g0))))) rfl (fun _ _=>rfl) fun O x=>by kernel_rfl
theorem M8:zzp 135 Ba:=vt mix da Nh [] g0 rfl (fun _ _=>rfl) fun O x=>by kernel_rfl
theorem dM:zzp 128 Dp:=vt mix eS NC [(135,Ba)] (gs M8 g0) rfl (fun _ _=>rfl) fun O x=>by kernel_rfl
theorem th:zzp 129 JY:=vt mix dZ NX [] g0 rfl (fun _ _=>rfl) fun O x=>by kernel_rfl
theorem dW:zzp 106 Dn:=vt mix eN Nm [(61,Ab),(127,BZ),(128,Dp),(129,JY)] (gs DK (gs O6 (gs dM (gs th g0)))) rfl (fun _ _=>rfl) fun O x=>by kernel_rfl
theorem ri:zzp 130 ID:=vt mix Zb Lz [] g0 rfl (fun _ _=>rfl) fun O x=>by kernel_rfl
theorem oc:zzp 131 Gm:=vt mix Xz PR [] g0 rfl (fun _ _=>rfl) fun O x=>by kernel_rfl
open Go.RowKit Go.Lib in
set_option maxHeartbeats 1000000 in
theorem UL (s:ByteArray) (c:Int) (w:World):Calls Tryz.prog 187 #[.string s,.int .u8 c] w fun e w'=>e=.returned (.int .i64 (Lib.indexByte s.data.toList c.toNat.toUInt8))∧w'=w:=by
 go_enter Tryz.func187,Tryz.ntmps187
 go_wp2
 rw [run_callFunc_extern Tryz.func200 (by kernel_rfl) (by kernel_rfl) (by kernel_rfl) (e:=Extern.BytealgIndexByte.indexByte) (by kernel_rfl),Lib.run_indexByteString];simp only [Result.andThen];rw [Oper.upon_value]
 go_wp2
 go_ret
 exact ⟨rfl,rfl⟩
theorem Wo:zzp 187 Cz:=fun N h =>
 yo Tryz.func187 (T9:=9) (T5:=5) (T3:=3) rfl rfl Tryz.underlying9 Tryz.underlying5 Tryz.underlying3 (by kernel_rfl) UL h
theorem fC:zzp 163 D2:=vt mix Qy F7 [(187,Cz)] (gs Wo g0) rfl (fun _ _=>rfl) fun O x=>by kernel_rfl
theorem uC:zzp 164 GZ:=vt mix eC db [] g0 rfl (fun _ _=>rfl) fun O x=>by kernel_rfl
theorem vn:zzp 132 LH:=vt mix iA Ph [(163,D2),(164,GZ)] (gs fC (gs uC g0)) rfl (fun _ _=>rfl) fun O x=>by kernel_rfl
theorem fQ:zzp 165 ET:=vt mix S5 LG [] g0 rfl (fun _ _=>rfl) fun O x=>by kernel_rfl
theorem ml:zzp 133 Fk:=vt mix WC I5 [(165,ET)] (gs fQ g0) rfl (fun _ _=>rfl) fun O x=>by kernel_rfl
theorem eO:zzp 107 Dr:=vt mix eG Jg [(130,ID),(131,Gm),(132,LH),(133,Fk)] (gs ri (gs oc (gs vn (gs ml g0)))) rfl (fun _ _=>rfl) fun O x=>by kernel_rfl
theorem Ef:zzp 166 Ag:=fun N h =>
 Rz mix (T:=158) (e:=216) (b:=1) Tryz.func166 Tryz.underlying158 (by kernel_rfl) (by decide) (fun O l=>by kernel_rfl) (fun O l=>by kernel_rfl) h
theorem Gz:zzp 167 Ar:=fun N h =>
 Rz mix (T:=102) (e:=3) (b:=8) Tryz.func167 Tryz.underlying102 (by kernel_rfl) (by decide) (fun O l=>by kernel_rfl) (fun O l=>by kernel_rfl) h
theorem F9:zzp 168 Am:=fun N h =>
 Rz mix (T:=69) (e:=4) (b:=1) Tryz.func168 Tryz.underlying69 (by kernel_rfl) (by decide) (fun O l=>by kernel_rfl) (fun O l=>by kernel_rfl) h
theorem C5:zzp 134 AZ:=vt mix X0 KQ [(166,Ag),(167,Ar),(168,Am)] (gs Ef (gs Gz (gs F9 g0))) rfl (fun _ _=>rfl) fun O x=>by kernel_rfl
theorem tP:zzp 108 Jk:=vt mix dj M9 [(91,Dq),(134,AZ)] (gs dQ (gs C5 g0)) rfl (fun _ _=>rfl) fun O x=>by kernel_rfl
theorem TI:zzp 139 CL:=vt mix eF Nv [] g0 rfl (fun _ _=>rfl) fun O x=>by kernel_rfl
theorem Sh:zzp 172 CB:=vt mix S6 G9 [] g0 rfl (fun _ _=>rfl) fun O x=>by kernel_rfl
theorem nz:zzp 140 G1:=vt mix XO KW [(106,Dn),(135,Ba),(139,CL),(172,CB)] (gs dW (gs M8 (gs TI (gs Sh g0)))) rfl (fun _ _=>rfl) fun O x=>by kernel_rfl
theorem oH:zzp 169 Gh:=vt mix Xs KS [(61,Ab),(159,Au)] (gs DK (gs E1 g0)) rfl (fun _ _=>rfl) fun O x=>by kernel_rfl
theorem rR:zzp 170 Hk:=vt mix Z5 Lo [(135,Ba),(139,CL)] (gs M8 (gs TI g0)) rfl (fun _ _=>rfl) fun O x=>by kernel_rfl
theorem jm:zzp 202 Ew:=vt mix T1 ML [] g0 rfl (fun _ _=>rfl) fun O x=>by kernel_rfl
theorem pY:zzp 188 Gd:=vt mix Xo KI [(202,Ew)] (gs jm g0) rfl (fun _ _=>rfl) fun O x=>by kernel_rfl
theorem Ht:zzp 234 A6:=vt mix f8 Pq [(166,Ag),(167,Ar),(168,Am)] (gs Ef (gs Gz (gs F9 g0))) rfl (fun _ _=>rfl) fun O x=>by kernel_rfl
theorem lh:zzp 262 DS:=vt mix WR N4 [] g0 rfl (fun _ _=>rfl) fun O x=>by kernel_rfl
theorem Zk:zzp 235 CS:=vt mix Z9 FV [(262,DS)] (gs lh g0) rfl (fun _ _=>rfl) fun O x=>by kernel_rfl
theorem Hp:zzp 236 A9:=vt mix Zl L2 [] g0 rfl (fun _ _=>rfl) fun O x=>by kernel_rfl
theorem tU:zzp 203 JV:=vt mix dT NI [(234,A6),(235,CS),(236,A9)] (gs Ht (gs Zk (gs Hp g0))) rfl (fun _ _=>rfl) fun O x=>by kernel_rfl
theorem Yn:zzp 237 DG:=vt mix kP SG [(166,Ag),(167,Ar),(168,Am)] (gs Ef (gs Gz (gs F9 g0))) rfl (fun _ _=>rfl) fun O x=>by kernel_rfl
theorem Tc:zzp 263 CG:=vt mix eK NL [] g0 rfl (fun _ _=>rfl) fun O x=>by kernel_rfl
theorem wm:zzp 264 LC:=vt mix iU Pv [(61,Ab),(263,CG)] (gs DK (gs Tc g0)) rfl (fun _ _=>rfl) fun O x=>by kernel_rfl
theorem yZ:zzp 238 Mt:=vt mix km Rw [(61,Ab),(184,Ay),(263,CG),(264,LC)] (gs DK (gs IV (gs Tc (gs wm g0)))) rfl (fun _ _=>rfl) fun O x=>by kernel_rfl
theorem vq:zzp 204 LL:=vt mix fL QP [(237,DG),(238,Mt)] (gs Yn (gs yZ g0)) rfl (fun _ _=>rfl) fun O x=>by kernel_rfl
theorem et:zzp 103 D4:=vt mix Q2 GA [] g0 rfl (fun _ _=>rfl) fun O x=>by kernel_rfl
theorem Wa:zzp 87 Co:=vt mix V3 JB [(103,D4)] (gs et g0) rfl (fun _ _=>rfl) fun O x=>by kernel_rfl
theorem fA:zzp 88 D3:=vt mix Qu F6 [] g0 rfl (fun _ _=>rfl) fun O x=>by kernel_rfl
theorem Tx:zzp 57 CV:=vt mix T6 Hd [(87,Co),(88,D3)] (gs Wa (gs fA g0)) rfl (fun _ _=>rfl) fun O x=>by kernel_rfl
theorem mt:zzp 58 Fq:=vt mix WT WO [] g0 rfl (fun _ _=>rfl) fun O x=>by kernel_rfl
theorem Pp:zzp 217 BX:=vt mix Xh Ed [(235,CS)] (gs Zk g0) rfl (fun _ _=>rfl) fun O x=>by kernel_rfl
theorem JX:zzp 246 BD:=vt mix eI Nq [] g0 rfl (fun _ _=>rfl) fun O x=>by kernel_rfl
theorem I4:zzp 247 BA:=vt mix WU JH [(246,BD)] (gs JX g0) rfl (fun _ _=>rfl) fun O x=>by kernel_rfl
theorem pL:zzp 275 Gw:=vt mix XG KR [] g0 rfl (fun _ _=>rfl) fun O x=>by kernel_rfl
theorem ta:zzp 265 JL:=vt mix eD NO [(246,BD),(247,BA),(275,Gw)] (gs JX (gs I4 (gs pL g0))) rfl (fun _ _=>rfl) fun O x=>by kernel_rfl
theorem Tu:zzp 99 B3:=vt mix UC UB [] g0 rfl (fun _ _=>rfl) fun O x=>by kernel_rfl
theorem Y6:zzp 75 D7:=vt mix ZK ME [(99,B3)] (gs Tu g0) rfl (fun _ _=>rfl) fun O x=>by kernel_rfl
theorem ge:zzp 279 EO:=vt mix S1 Gp [] g0 rfl (fun _ _=>rfl) fun O x=>by kernel_rfl
theorem ZZ:zzp 276 DV:=vt mix OW Ej [(279,EO)] (gs ge g0) rfl (fun _ _=>rfl) fun O x=>by kernel_rfl
theorem fT:zzp 280 EN:=vt mix ST G7 [] g0 rfl (fun _ _=>rfl) fun O x=>by kernel_rfl
theorem md:zzp 277 Ft:=vt mix WN I7 [(99,B3),(280,EN)] (gs Tu (gs fT g0)) rfl (fun _ _=>rfl) fun O x=>by kernel_rfl
theorem YR:zzp 281 DH:=vt mix Mx EC [] g0 rfl (fun _ _=>rfl) fun O x=>by kernel_rfl
theorem bT:zzp 278 Dk:=vt mix Qe FJ [(281,DH)] (gs YR g0) rfl (fun _ _=>rfl) fun O x=>by kernel_rfl
theorem dC:zzp 266 Dd:=vt mix PO FH [(75,D7),(276,DV),(277,Ft),(278,Dk)] (gs Y6 (gs ZZ (gs md (gs bT g0)))) rfl (fun _ _=>rfl) fun O x=>by kernel_rfl
theorem tj:zzp 267 JT:=vt mix eM NA [(246,BD),(247,BA)] (gs JX (gs I4 g0)) rfl (fun _ _=>rfl) fun O x=>by kernel_rfl
theorem jq:zzp 239 FB:=vt mix Tm Ha [(87,Co),(217,BX),(265,JL),(266,Dd),(267,JT)] (gs Wa (gs Pp (gs ta (gs dC (gs tj g0))))) rfl (fun _ _=>rfl) fun O x=>by kernel_rfl
theorem wM:zzp 240 LY:=vt mix gP PY [(234,A6),(236,A9)] (gs Ht (gs Hp g0)) rfl (fun _ _=>rfl) fun O x=>by kernel_rfl
theorem xy:zzp 241 Kg:=vt mix iY QG [(61,Ab),(184,Ay),(237,DG),(263,CG)] (gs DK (gs IV (gs Yn (gs Tc g0)))) rfl (fun _ _=>rfl) fun O x=>by kernel_rfl
theorem oj:zzp 242 Ga:=vt mix Xp Kc [(234,A6)] (gs Ht g0) rfl (fun _ _=>rfl) fun O x=>by kernel_rfl
theorem rK:zzp 205 IW:=vt mix aG Lu [(57,CV),(58,Fq),(134,AZ),(239,FB),(240,LY),(241,Kg),(242,Ga)] (gs Tx (gs mt (gs C5 (gs jq (gs wM (gs xy (gs oj g0))))))) rfl (fun _ _=>rfl) fun O x=>by kernel_rfl
theorem fJ:zzp 243 EP:=vt mix ib PX [(217,BX),(236,A9)] (gs Pp (gs Hp g0)) rfl (fun _ _=>rfl) fun O x=>by kernel_rfl
theorem mO:zzp 206 Fi:=vt mix Wg JC [(234,A6),(236,A9),(243,EP)] (gs Ht (gs Hp (gs fJ g0))) rfl (fun _ _=>rfl) fun O x=>by kernel_rfl
theorem rb:zzp 207 Hw:=vt mix Zg Lq [(234,A6),(243,EP)] (gs Ht (gs fJ g0)) rfl (fun _ _=>rfl) fun O x=>by kernel_rfl
theorem dh:zzp 218 DP:=vt mix de GR [] g0 rfl (fun _ _=>rfl) fun O x=>by kernel_rfl
theorem pD:zzp 208 Gu:=vt mix XZ KJ [(218,DP),(234,A6),(236,A9)] (gs dh (gs Ht (gs Hp g0))) rfl (fun _ _=>rfl) fun O x=>by kernel_rfl
theorem YY:zzp 245 DF:=vt mix lU Rp [(166,Ag),(167,Ar),(168,Am)] (gs Ef (gs Gz (gs F9 g0))) rfl (fun _ _=>rfl) fun O x=>by kernel_rfl
theorem oP:zzp 209 Gt:=vt mix Xm KK [(245,DF)] (gs YY g0) rfl (fun _ _=>rfl) fun O x=>by kernel_rfl
theorem qu:zzp 210 Hj:=vt mix Za Lw [(245,DF),(246,BD),(247,BA)] (gs YY (gs JX (gs I4 g0))) rfl (fun _ _=>rfl) fun O x=>by kernel_rfl
theorem gG:zzp 211 EH:=vt mix TG Gy [(245,DF),(246,BD),(247,BA)] (gs YY (gs JX (gs I4 g0))) rfl (fun _ _=>rfl) fun O x=>by kernel_rfl
theorem oZ:zzp 212 Ge:=vt mix W6 Ka [(61,Ab),(237,DG)] (gs DK (gs Yn g0)) rfl (fun _ _=>rfl) fun O x=>by kernel_rfl
theorem jc:zzp 213 E9:=vt mix Ts HY [(134,AZ)] (gs C5 g0) rfl (fun _ _=>rfl) fun O x=>by kernel_rfl
theorem T8:zzp 191 CW:=vt mix Tn Hb [(134,AZ)] (gs C5 g0) rfl (fun _ _=>rfl) fun O x=>by kernel_rfl
theorem jd:zzp 214 Ey:=vt mix Tv HZ [(134,AZ),(191,CW)] (gs C5 (gs T8 g0)) rfl (fun _ _=>rfl) fun O x=>by kernel_rfl
theorem mF:zzp 215 Fe:=vt mix Vs F2 [(134,AZ)] (gs C5 g0) rfl (fun _ _=>rfl) fun O x=>by kernel_rfl
theorem pf:zzp 248 G4:=vt mix Xq XB [] g0 rfl (fun _ _=>rfl) fun O x=>by kernel_rfl
theorem mM:zzp 216 Fr:=vt mix VE Iv [(134,AZ),(248,G4)] (gs C5 (gs pf g0)) rfl (fun _ _=>rfl) fun O x=>by kernel_rfl
theorem jU:zzp 189 FA:=vt mix T4 Ez [(203,JV),(204,LL),(205,IW),(206,Fi),(207,Hw),(208,Gu),(209,Gt),(210,Hj),(211,EH),(212,Ge),(213,E9),(214,Ey),(215,Fe),(216,Fr)] (gs tU (gs vq (gs rK (gs mO (gs rb (gs pD (gs oP (gs qu (gs gG (gs oZ (gs jc (gs jd (gs mF (gs mM g0)))))))))))))) rfl (fun _ _=>rfl) fun O x=>by kernel_rfl
theorem mP:zzp 190 EA:=vt mix VX Ip [(127,BZ),(217,BX),(218,DP)] (gs O6 (gs Pp (gs dh g0))) rfl (fun _ _=>rfl) fun O x=>by kernel_rfl
theorem rX:zzp 171 IY:=vt mix Ze L0 [(107,Dr),(127,BZ),(134,AZ),(188,Gd),(189,FA),(190,EA)] (gs eO (gs O6 (gs C5 (gs pY (gs jU (gs mP g0)))))) rfl (fun _ _=>rfl) fun O x=>by kernel_rfl
theorem vV:zzp 92 PH:=vt mix gj PI [(106,Dn),(107,Dr),(108,Jk),(128,Dp),(135,Ba),(139,CL),(140,G1),(169,Gh),(170,Hk),(171,IY),(172,CB),(191,CW)] (gs dW (gs eO (gs tP (gs dM (gs M8 (gs TI (gs nz (gs oH (gs rR (gs rX (gs Sh (gs T8 g0)))))))))))) rfl (fun _ _=>rfl) fun O x=>by kernel_rfl
def oC:Cfg:={ gam:=[⟨92,[],true,true,[],[]⟩],imm:=false,old:=false }
theorem ya (O:Alg) (x:Ags O):XF (O:=O) Tryz.prog oC (CI.ow ⟨66,[],false,false,[],[]⟩) false [] 66 [] (xr x cC 0)=QL O x:=by kernel_rfl
theorem ABS {E:Env} {M:Nat} (N:Nat) (h:∀ ls,E 66 [] ls=QN N ls):VV Tryz.prog E M ⟨66,[],false,false,[],[]⟩ :=
 A2 mix (E:=Hr N) (N:=N) (cfg:=oC) (ci:=⟨66,[],false,false,[],[]⟩) (ks:=cC) (AG (vV N (fun _=>rfl)) BU) (c:=QN N) (F:=fun ls=>QL (std (Hr N) N) (xOf ls)) (fun ls=>rfl) (fun ls=>ya (std (Hr N) N) (xOf ls)) h
theorem nl:zzp 67 KB:=vt mix X3 Kb [(57,CV)] (gs Tx g0) rfl (fun _ _=>rfl) fun O x=>by kernel_rfl
def pB:Cfg:={ gam:=[⟨65,[],true,true,[],[]⟩,⟨66,[],false,false,[],[]⟩,⟨67,[],true,true,[],[]⟩],imm:=false,old:=true,ie:=[170,99,35,9,73,64,4,160,3,39,5,216,143,190,212,87,33] }
theorem zI (O:Alg) (x:Ags O):XF (O:=O) Tryz.prog pB (CI.ow ⟨32,[],true,false,[],[170,99,35,9,73,64,4,160,3,39,5,216,143,190,212,87,33]⟩) false [] 32 [] (xr x bp 0)=Ox O x:=by kernel_rfl
theorem oO {E:Env} {M:Nat} (N:Nat) (h:∀ ls,E 32 [] ls=Im N ls):VV Tryz.prog E M ⟨32,[],true,false,[],[170,99,35,9,73,64,4,160,3,39,5,216,143,190,212,87,33]⟩ :=
 A2 mix (E:=ER N) (N:=N) (cfg:=pB) (ci:=⟨32,[],true,false,[],[170,99,35,9,73,64,4,160,3,39,5,216,143,190,212,87,33]⟩) (ks:=bp) (AG (yE N (fun _=>rfl)) (AG (ABS N (fun _=>rfl)) (AG (nl N (fun _=>rfl)) BU))) (c:=Im N) (F:=fun ls=>Ox (std (ER N) N) (xOf ls)) (fun ls=>rfl) (fun ls=>zI (std (ER N) N) (xOf ls)) h
def fi:Cfg:={ gam:=[⟨32,[],true,false,[],[170,99,35,9,73,64,4,160,3,39,5,216,143,190,212,87,33]⟩],imm:=false,old:=false }
theorem tT (O:Alg) (x:Ags O):XF (O:=O) Tryz.prog fi (CI.ow ⟨62,[],false,false,[],[]⟩) false [] 62 [] (xr x Vj 0)=Kn O x:=by kernel_rfl
theorem xW {E:Env} {M:Nat} (N:Nat) (h:∀ ls,E 62 [] ls=K2 N ls):VV Tryz.prog E M ⟨62,[],false,false,[],[]⟩ :=
 A2 mix (E:=FY N) (N:=N) (cfg:=fi) (ci:=⟨62,[],false,false,[],[]⟩) (ks:=Vj) (AG (oO N (fun _=>rfl)) BU) (c:=K2 N) (F:=fun ls=>Kn (std (FY N) N) (xOf ls)) (fun ls=>rfl) (fun ls=>tT (std (FY N) N) (xOf ls)) h
def kl:Cfg:={ gam:=[⟨61,[],true,true,[],[]⟩,⟨62,[],false,false,[],[]⟩],imm:=false,old:=false }
theorem uv (O:Alg) (x:Ags O):XF (O:=O) Tryz.prog kl (CI.ow ⟨27,[],true,true,[],[]⟩) true [] 27 [] (xr x YD 0)=Mc O x:=by kernel_rfl
theorem yV:zzp 27 M4:=fun N h =>
 A2 mix (E:=Et N) (N:=N) (cfg:=kl) (ci:=⟨27,[],true,true,[],[]⟩) (ks:=YD) (AG (DK N (fun _=>rfl)) (AG (xW N (fun _=>rfl)) BU)) (c:=M4 N) (F:=fun ls=>Mc (std (Et N) N) (xOf ls)) (fun ls=>rfl) (fun ls=>uv (std (Et N) N) (xOf ls)) h
theorem o6:zzp 28 KO:=vti mix false false [60000] X1 KH [] g0 rfl (fun _ _=>rfl) fun O x=>by kernel_rfl
def JZ:Cfg:={ gam:=[],imm:=false,old:=false }
theorem S4 (O:Alg) (x:Ags O):XF (O:=O) Tryz.prog JZ (CI.ow ⟨30,[31],true,true,[],[]⟩) true [] 30 [31] (xr x En 0)=CH O x:=by kernel_rfl
theorem TW {E:Env} {M:Nat} (N:Nat) (h:∀ ls,E 30 [31] ls=CJ N ls):VV Tryz.prog E M ⟨30,[31],true,true,[],[]⟩ :=
 A2 mix (E:=B8 N) (N:=N) (cfg:=JZ) (ci:=⟨30,[31],true,true,[],[]⟩) (ks:=En) BU (c:=CJ N) (F:=fun ls=>CH (std (B8 N) N) (xOf ls)) (fun ls=>rfl) (fun ls=>S4 (std (B8 N) N) (xOf ls)) h
theorem iZ:zzp 33 Gq:=vt mix Sn Gn [] g0 rfl (fun _ _=>rfl) fun O x=>by kernel_rfl
def ZB:Cfg:={ gam:=[⟨17,[],true,true,[],[]⟩,⟨27,[],true,true,[],[]⟩,⟨28,[],true,true,[],[]⟩,⟨30,[31],true,true,[],[]⟩,⟨32,[],true,false,[],[170,99,35,9,73,64,4,160,3,39,5,216,143,190,212,87,33]⟩,⟨33,[],true,true,[],[]⟩],imm:=false,old:=false,ie:=[60000] }
theorem nI (O:Alg) (x:Ags O):XF (O:=O) Tryz.prog ZB (CI.ow ⟨10,[],true,true,[],[]⟩) true [] 10 [] (xr x RT 0)=IK O x:=by kernel_rfl
theorem ZY:zzp 10 Cw:=fun N h =>
 A2 mix (E:=Bb N) (N:=N) (cfg:=ZB) (ci:=⟨10,[],true,true,[],[]⟩) (ks:=RT) (AG (qL N (fun _=>rfl)) (AG (yV N (fun _=>rfl)) (AG (o6 N (fun _=>rfl)) (AG (TW N (fun _=>rfl)) (AG (oO N (fun _=>rfl)) (AG (iZ N (fun _=>rfl)) BU)))))) (c:=Cw N) (F:=fun ls=>IK (std (Bb N) N) (xOf ls)) (fun ls=>rfl) (fun ls=>nI (std (Bb N) N) (xOf ls)) h
theorem MY:zzp 12 Bw:=vt mix M1 EB [] g0 rfl (fun _ _=>rfl) fun O x=>by kernel_rfl
theorem dU:zzp 42 Nl:=vt mix dK dl [] g0 rfl (fun _ _=>rfl) fun O x=>by kernel_rfl
theorem Z4:zzp 98 IP:=vt mix ON Oe [] g0 rfl (fun _ _=>rfl) fun O x=>by kernel_rfl
theorem VP:zzp 74 Fz:=vt mix Lc LI [(98,IP)] (gs Z4 g0) rfl (fun _ _=>rfl) fun O x=>by kernel_rfl
theorem tO:zzp 37 eR:=vt mix dX eV [(42,Nl),(73,HJ),(74,Fz)] (gs dU (gs kE (gs VP g0))) rfl (fun _ _=>rfl) fun O x=>by kernel_rfl
theorem mW:zzp 38 Wi:=vt mix Vn WY [] g0 rfl (fun _ _=>rfl) fun O x=>by kernel_rfl
theorem jo:zzp 39 Tp:=vt mix Tr UF [] g0 rfl (fun _ _=>rfl) fun O x=>by kernel_rfl
theorem mq:zzp 40 Vb:=vt mix Vw Wh [(75,D7)] (gs Y6 g0) rfl (fun _ _=>rfl) fun O x=>by kernel_rfl
theorem cJ:zzp 101 I2:=fun N h =>
 AAG Tryz.func101 (T2:=2) (T3:=3) (T9:=9) rfl rfl Tryz.underlying2 Tryz.underlying3 Tryz.underlying9 (by kernel_rfl) (by kernel_rfl) (fun i h0 hi w ht=>Tryz.internal_strconv_FormatInt_10 i h0 hi w ht) h
theorem ej:zzp 77 J4:=vt mix Qo Qw [(101,I2)] (gs cJ g0) rfl (fun _ _=>rfl) fun O x=>by kernel_rfl
theorem rD:zzp 43 ZP:=vt mix ZV aA [(77,J4)] (gs ej g0) rfl (fun _ _=>rfl) fun O x=>by kernel_rfl
def ZF:Cfg:={ gam:=[⟨37,[],true,true,[],[]⟩,⟨38,[],true,true,[],[]⟩,⟨39,[],true,true,[],[]⟩,⟨40,[],true,true,[],[]⟩,⟨42,[],true,true,[],[]⟩,⟨43,[],true,true,[],[]⟩],imm:=false,old:=false,ie:=[70000],bld:=AC2 }
theorem nH (O:Alg) (x:Ags O):XF (O:=O) Tryz.prog ZF (CI.ow ⟨14,[],true,true,[],[]⟩) true [] 14 [] (xr x Rk 0)=RC O x:=by kernel_rfl
theorem qj:zzp 14 Fb:=fun N h =>
 oK mix (E:=JE N) (N:=N) (cfg:=ZF) (ci:=⟨14,[],true,true,[],[]⟩) (ks:=Rk) (AG (tO N (fun _=>rfl)) (AG (mW N (fun _=>rfl)) (AG (jo N (fun _=>rfl)) (AG (mq N (fun _=>rfl)) (AG (dU N (fun _=>rfl)) (AG (rD N (fun _=>rfl)) BU)))))) AFj (c:=Fb N) (F:=fun ls=>RC (std (JE N) N) (xOf ls)) (fun ls=>rfl) (fun ls=>nH (std (JE N) N) (xOf ls)) h
theorem yw:zzp 25 Mn:=vt mix kN kG [] g0 rfl (fun _ _=>rfl) fun O x=>by kernel_rfl
theorem yk:zzp 60 YM:=vt mix kz kd [] g0 rfl (fun _ _=>rfl) fun O x=>by kernel_rfl
theorem ACK:zzp 26 Sf:=vt mix sn sN [(60,YM)] (gs yk g0) rfl (fun _ _=>rfl) fun O x=>by kernel_rfl
theorem yc:zzp 8 Mq:=vt mix lX Ro [(10,Cw),(12,Bw),(14,Fb),(25,Mn),(26,Sf)] (gs ZY (gs MY (gs qj (gs yw (gs ACK g0))))) rfl (fun _ _=>rfl) fun O x=>by kernel_rfl
def sX:Cfg:={ gam:=[],imm:=false,old:=false }
theorem ABc (O:Alg) (x:Ags O):XF (O:=O) Tryz.prog sX (CI.ow ⟨9,[],false,false,[],[]⟩) false [] 9 [] (xr x ic 0)=SX O x:=by kernel_rfl
theorem AB5 {E:Env} {M:Nat} (N:Nat) (h:∀ ls,E 9 [] ls=TF N ls):VV Tryz.prog E M ⟨9,[],false,false,[],[]⟩ :=
 A2 mix (E:=MZ N) (N:=N) (cfg:=sX) (ci:=⟨9,[],false,false,[],[]⟩) (ks:=ic) BU (c:=TF N) (F:=fun ls=>SX (std (MZ N) N) (xOf ls)) (fun ls=>rfl) (fun ls=>ABc (std (MZ N) N) (xOf ls)) h
theorem ABb:zzp 78 Oz:=vt mix nv U0 [] g0 rfl (fun _ _=>rfl) fun O x=>by kernel_rfl
theorem ACy:zzp 111 Vc:=vt mix vR xT [] g0 rfl (fun _ _=>rfl) fun O x=>by kernel_rfl
theorem ED:zzp 93 Ap:=vt mix kK Rt [(78,Oz),(111,Vc)] (gs ABb (gs ACy g0)) rfl (fun _ _=>rfl) fun O x=>by kernel_rfl
theorem lF:zzp 113 FT:=vt mix j0 SM [] g0 rfl (fun _ _=>rfl) fun O x=>by kernel_rfl
theorem tD:zzp 95 Oa:=vt mix tA XT [(93,Ap),(113,FT)] (gs ED (gs lF g0)) rfl (fun _ _=>rfl) fun O x=>by kernel_rfl
theorem CN:zzp 174 AR:=vt mix jy Rl [] g0 rfl (fun _ _=>rfl) fun O x=>by kernel_rfl
theorem YN:zzp 141 DY:=vt mix lK R9 [(174,AR)] (gs CN g0) rfl (fun _ _=>rfl) fun O x=>by kernel_rfl
theorem yi:zzp 114 SL:=vt mix kU SF [(113,FT),(141,DY)] (gs lF (gs YN g0)) rfl (fun _ _=>rfl) fun O x=>by kernel_rfl
theorem mT:zzp 192 Fh:=vt mix vZ wA [] g0 rfl (fun _ _=>rfl) fun O x=>by kernel_rfl
theorem ACi:zzp 193 S7:=vt mix sP XN [(192,Fh)] (gs mT g0) rfl (fun _ _=>rfl) fun O x=>by kernel_rfl
theorem R2:zzp 195 Bu:=vt mix kZ Jt [] g0 rfl (fun _ _=>rfl) fun O x=>by kernel_rfl
theorem uG:zzp 194 Jh:=vt mix eP Nj [(195,Bu)] (gs R2 g0) rfl (fun _ _=>rfl) fun O x=>by kernel_rfl
theorem YZ:zzp 175 DI:=vt mix lD Rm [(93,Ap),(192,Fh),(193,S7),(194,Jh)] (gs ED (gs mT (gs ACi (gs uG g0)))) rfl (fun _ _=>rfl) fun O x=>by kernel_rfl
theorem MU:zzp 147 CR:=vt mix kY R0 [] g0 rfl (fun _ _=>rfl) fun O x=>by kernel_rfl
theorem gm:zzp 176 Fw:=vt mix gC PE [(147,CR)] (gs MU g0) rfl (fun _ _=>rfl) fun O x=>by kernel_rfl
theorem nU:zzp 142 Gv:=vt mix XK KU [(175,DI),(176,Fw)] (gs YZ (gs gm g0)) rfl (fun _ _=>rfl) fun O x=>by kernel_rfl
theorem Yz:zzp 115 FO:=vt mix kv R4 [(93,Ap),(142,Gv)] (gs ED (gs nU g0)) rfl (fun _ _=>rfl) fun O x=>by kernel_rfl
theorem vY:zzp 143 LP:=vt mix gV Pk [] g0 rfl (fun _ _=>rfl) fun O x=>by kernel_rfl
theorem AA7:zzp 144 Oy:=vt mix qG UN [] g0 rfl (fun _ _=>rfl) fun O x=>by kernel_rfl
theorem AC4:zzp 145 Vf:=vt mix vF mv [] g0 rfl (fun _ _=>rfl) fun O x=>by kernel_rfl
theorem ADo:zzp 177 WZ:=vt mix xg mG [] g0 rfl (fun _ _=>rfl) fun O x=>by kernel_rfl
theorem yd:zzp 146 Mb:=vt mix lM SQ [(177,WZ)] (gs ADo g0) rfl (fun _ _=>rfl) fun O x=>by kernel_rfl
theorem lE:zzp 116 Jy:=vt mix lQ R8 [(143,LP),(144,Oy),(145,Vf),(146,Mb)] (gs vY (gs AA7 (gs AC4 (gs yd g0)))) rfl (fun _ _=>rfl) fun O x=>by kernel_rfl
theorem YQ:zzp 150 FU:=vt mix jx R1 [] g0 rfl (fun _ _=>rfl) fun O x=>by kernel_rfl
def nG:Cfg:={ gam:=[],imm:=false,old:=false }
theorem y4 (O:Alg) (x:Ags O):XF (O:=O) Tryz.prog nG (CI.ow ⟨118,[],false,false,[],[]⟩) false [] 118 [] (xr x aS 0)=PP O x:=by kernel_rfl
theorem UM {E:Env} {M:Nat} (N:Nat) (h:∀ ls,E 118 [] ls=Dj N ls):VV Tryz.prog E M ⟨118,[],false,false,[],[]⟩ :=
 A2 mix (E:=LQ N) (N:=N) (cfg:=nG) (ci:=⟨118,[],false,false,[],[]⟩) (ks:=aS) BU (c:=Dj N) (F:=fun ls=>PP (std (LQ N) N) (xOf ls)) (fun ls=>rfl) (fun ls=>y4 (std (LQ N) N) (xOf ls)) h
def dk:Cfg:={ gam:=[⟨115,[],true,true,[],[]⟩,⟨118,[],false,false,[],[]⟩,⟨176,[],true,true,[],[]⟩],imm:=false,old:=false }
theorem qd (O:Alg) (x:Ags O):XF (O:=O) Tryz.prog dk (CI.ow ⟨178,[],true,true,[],[]⟩) true [] 178 [] (xr x Tl 0)=Jn O x:=by kernel_rfl
theorem tN:zzp 178 JQ:=fun N h =>
 A2 mix (E:=C4 N) (N:=N) (cfg:=dk) (ci:=⟨178,[],true,true,[],[]⟩) (ks:=Tl) (AG (Yz N (fun _=>rfl)) (AG (UM N (fun _=>rfl)) (AG (gm N (fun _=>rfl)) BU))) (c:=JQ N) (F:=fun ls=>Jn (std (C4 N) N) (xOf ls)) (fun ls=>rfl) (fun ls=>qd (std (C4 N) N) (xOf ls)) h
theorem y5:zzp 179 Ru:=vt mix ki Rv [(93,Ap),(192,Fh)] (gs ED (gs mT g0)) rfl (fun _ _=>rfl) fun O x=>by kernel_rfl
theorem eX:zzp 181 GU:=vt mix eW NP [(141,DY)] (gs YN g0) rfl (fun _ _=>rfl) fun O x=>by kernel_rfl
theorem PN:zzp 249 Bs:=vt mix gN O1 [] g0 rfl (fun _ _=>rfl) fun O x=>by kernel_rfl
theorem AAY:zzp 219 Ul:=vt mix oN US [(174,AR),(195,Bu),(249,Bs)] (gs CN (gs R2 (gs PN g0))) rfl (fun _ _=>rfl) fun O x=>by kernel_rfl
theorem IB:zzp 260 A5:=vt mix ZJ L4 [] g0 rfl (fun _ _=>rfl) fun O x=>by kernel_rfl
theorem V7:zzp 268 Ck:=vt mix fM QZ [] g0 rfl (fun _ _=>rfl) fun O x=>by kernel_rfl
theorem z7:zzp 269 P5:=vt mix oX Ub [(93,Ap),(268,Ck)] (gs ED (gs V7 g0)) rfl (fun _ _=>rfl) fun O x=>by kernel_rfl
theorem sV:zzp 270 Ih:=vt mix sI X2 [] g0 rfl (fun _ _=>rfl) fun O x=>by kernel_rfl
theorem ABn:zzp 250 Sc:=vt mix rp Xc [(93,Ap),(260,A5),(268,Ck),(269,P5),(270,Ih)] (gs ED (gs IB (gs V7 (gs z7 (gs sV g0))))) rfl (fun _ _=>rfl) fun O x=>by kernel_rfl
theorem AAc:zzp 220 Ut:=vt mix pU UH [(174,AR),(250,Sc)] (gs CN (gs ABn g0)) rfl (fun _ _=>rfl) fun O x=>by kernel_rfl
theorem AEI:zzp 152 WE:=vt mix vW mf [] g0 rfl (fun _ _=>rfl) fun O x=>by kernel_rfl
theorem qY:zzp 153 H6:=vt mix aN MI [] g0 rfl (fun _ _=>rfl) fun O x=>by kernel_rfl
theorem kL:zzp 120 HE:=vt mix j8 Rn [(152,WE),(153,H6)] (gs AEI (gs qY g0)) rfl (fun _ _=>rfl) fun O x=>by kernel_rfl
theorem qy:zzp 121 Hq:=vt mix Y3 L9 [] g0 rfl (fun _ _=>rfl) fun O x=>by kernel_rfl
theorem yG:zzp 122 Mh:=vt mix ku SH [] g0 rfl (fun _ _=>rfl) fun O x=>by kernel_rfl
theorem iL:zzp 97 Hu:=vt mix fU QD [(120,HE),(121,Hq),(122,Mh)] (gs kL (gs qy (gs yG g0))) rfl (fun _ _=>rfl) fun O x=>by kernel_rfl
theorem Vr:zzp 231 Cr:=vt mix iP IQ [(195,Bu)] (gs R2 g0) rfl (fun _ _=>rfl) fun O x=>by kernel_rfl
theorem P6:zzp 259 Bq:=vt mix iE PW [] g0 rfl (fun _ _=>rfl) fun O x=>by kernel_rfl
theorem tZ:zzp 271 Je:=vt mix dz Ng [] g0 rfl (fun _ _=>rfl) fun O x=>by kernel_rfl
theorem yX:zzp 251 SB:=vt mix lS R7 [(259,Bq),(260,A5),(271,Je)] (gs P6 (gs IB (gs tZ g0))) rfl (fun _ _=>rfl) fun O x=>by kernel_rfl
theorem qS:zzp 272 H1:=vt mix Zw MB [] g0 rfl (fun _ _=>rfl) fun O x=>by kernel_rfl
theorem AD7:zzp 273 WI:=vt mix wc cO [] g0 rfl (fun _ _=>rfl) fun O x=>by kernel_rfl
theorem xX:zzp 274 LX:=vt mix gq O7 [] g0 rfl (fun _ _=>rfl) fun O x=>by kernel_rfl
theorem qw:zzp 252 Lt:=vt mix ZH Lh [(272,H1),(273,WI),(274,LX)] (gs qS (gs AD7 (gs xX g0))) rfl (fun _ _=>rfl) fun O x=>by kernel_rfl
theorem ye:zzp 253 Rs:=vt mix lC SK [(259,Bq),(260,A5)] (gs P6 (gs IB g0)) rfl (fun _ _=>rfl) fun O x=>by kernel_rfl
theorem iW:zzp 256 Fl:=vt mix fg PB [(174,AR)] (gs CN g0) rfl (fun _ _=>rfl) fun O x=>by kernel_rfl
theorem ACq:zzp 254 X5:=vt mix sW XA [(174,AR),(249,Bs),(256,Fl)] (gs CN (gs PN (gs iW g0))) rfl (fun _ _=>rfl) fun O x=>by kernel_rfl
theorem AA5:zzp 255 Us:=vt mix pO UV [(93,Ap),(174,AR),(268,Ck),(270,Ih)] (gs ED (gs CN (gs V7 (gs sV g0)))) rfl (fun _ _=>rfl) fun O x=>by kernel_rfl
theorem yv:zzp 257 R3:=vt mix lA lR [] g0 rfl (fun _ _=>rfl) fun O x=>by kernel_rfl
def pe:Cfg:={ gam:=[⟨97,[],true,true,[],[]⟩,⟨120,[],true,true,[],[]⟩,⟨231,[],true,true,[],[]⟩,⟨251,[],true,true,[],[]⟩,⟨252,[],true,true,[],[]⟩,⟨253,[],true,true,[],[]⟩,⟨254,[],true,true,[],[]⟩,⟨255,[],true,true,[],[]⟩,⟨256,[],true,true,[],[]⟩,⟨257,[],true,true,[],[]⟩],imm:=false,old:=false }
theorem ym (O:Alg) (x:Ags O):XF (O:=O) Tryz.prog pe (CI.ow ⟨221,[],false,false,[],[]⟩) false [] 221 [] (xr x bH 0)=PS O x:=by kernel_rfl
theorem ABP {E:Env} {M:Nat} (N:Nat) (h:∀ ls,E 221 [] ls=PZ N ls):VV Tryz.prog E M ⟨221,[],false,false,[],[]⟩ :=
 A2 mix (E:=Be N) (N:=N) (cfg:=pe) (ci:=⟨221,[],false,false,[],[]⟩) (ks:=bH) (AG (iL N (fun _=>rfl)) (AG (kL N (fun _=>rfl)) (AG (Vr N (fun _=>rfl)) (AG (yX N (fun _=>rfl)) (AG (qw N (fun _=>rfl)) (AG (ye N (fun _=>rfl)) (AG (ACq N (fun _=>rfl)) (AG (AA5 N (fun _=>rfl)) (AG (iW N (fun _=>rfl)) (AG (yv N (fun _=>rfl)) BU)))))))))) (c:=PZ N) (F:=fun ls=>PS (std (Be N) N) (xOf ls)) (fun ls=>rfl) (fun ls=>ym (std (Be N) N) (xOf ls)) h
theorem kh:zzp 258 FM:=vt mix kA SE [(231,Cr),(249,Bs)] (gs Vr (gs PN g0)) rfl (fun _ _=>rfl) fun O x=>by kernel_rfl
theorem tf:zzp 222 NY:=vt mix dY Nt [(174,AR),(258,FM)] (gs CN (gs kh g0)) rfl (fun _ _=>rfl) fun O x=>by kernel_rfl
theorem zC:zzp 223 SD:=vt mix lH SC [(174,AR),(258,FM)] (gs CN (gs kh g0)) rfl (fun _ _=>rfl) fun O x=>by kernel_rfl
theorem np:zzp 232 FE:=vt mix qK MG [] g0 rfl (fun _ _=>rfl) fun O x=>by kernel_rfl
theorem wo:zzp 224 QI:=vt mix fh QS [(174,AR),(232,FE),(249,Bs)] (gs CN (gs np (gs PN g0))) rfl (fun _ _=>rfl) fun O x=>by kernel_rfl
theorem tM:zzp 225 NN:=vt mix dS Nr [(174,AR)] (gs CN g0) rfl (fun _ _=>rfl) fun O x=>by kernel_rfl
theorem ve:zzp 226 Pd:=vt mix gK Pi [(174,AR),(259,Bq),(260,A5)] (gs CN (gs P6 (gs IB g0))) rfl (fun _ _=>rfl) fun O x=>by kernel_rfl
theorem l7:zzp 227 JI:=vt mix Vo Iu [(174,AR),(259,Bq),(260,A5)] (gs CN (gs P6 (gs IB g0))) rfl (fun _ _=>rfl) fun O x=>by kernel_rfl
theorem tR:zzp 228 NM:=vt mix eY Ns [(93,Ap),(174,AR)] (gs ED (gs CN g0)) rfl (fun _ _=>rfl) fun O x=>by kernel_rfl
def gS:Cfg:={ gam:=[],imm:=false,old:=false }
theorem tW (O:Alg) (x:Ags O):XF (O:=O) Tryz.prog gS (CI.ow ⟨229,[],false,false,[],[]⟩) false [] 229 [] (xr x Vg 0)=IA O x:=by kernel_rfl
theorem wP {E:Env} {M:Nat} (N:Nat) (h:∀ ls,E 229 [] ls=LD N ls):VV Tryz.prog E M ⟨229,[],false,false,[],[]⟩ :=
 A2 mix (E:=Ho N) (N:=N) (cfg:=gS) (ci:=⟨229,[],false,false,[],[]⟩) (ks:=Vg) BU (c:=LD N) (F:=fun ls=>IA (std (Ho N) N) (xOf ls)) (fun ls=>rfl) (fun ls=>tW (std (Ho N) N) (xOf ls)) h
theorem yh:zzp 261 SP:=vt mix kC kD [] g0 rfl (fun _ _=>rfl) fun O x=>by kernel_rfl
def gy:Cfg:={ gam:=[⟨261,[],true,true,[],[]⟩],imm:=false,old:=false }
theorem tg (O:Alg) (x:Ags O):XF (O:=O) Tryz.prog gy (CI.ow ⟨230,[],false,false,[],[]⟩) false [] 230 [] (xr x VK 0)=Lb O x:=by kernel_rfl
theorem w9 {E:Env} {M:Nat} (N:Nat) (h:∀ ls,E 230 [] ls=Kq N ls):VV Tryz.prog E M ⟨230,[],false,false,[],[]⟩ :=
 A2 mix (E:=FW N) (N:=N) (cfg:=gy) (ci:=⟨230,[],false,false,[],[]⟩) (ks:=VK) (AG (yh N (fun _=>rfl)) BU) (c:=Kq N) (F:=fun ls=>Lb (std (FW N) N) (xOf ls)) (fun ls=>rfl) (fun ls=>tg (std (FW N) N) (xOf ls)) h
def sZ:Cfg:={ gam:=[⟨181,[],true,true,[],[]⟩,⟨219,[],true,true,[],[]⟩,⟨220,[],true,true,[],[]⟩,⟨221,[],false,false,[],[]⟩,⟨222,[],true,true,[],[]⟩,⟨223,[],true,true,[],[]⟩,⟨224,[],true,true,[],[]⟩,⟨225,[],true,true,[],[]⟩,⟨226,[],true,true,[],[]⟩,⟨227,[],true,true,[],[]⟩,⟨228,[],true,true,[],[]⟩,⟨229,[],false,false,[],[]⟩,⟨230,[],false,false,[],[]⟩],imm:=false,old:=false }
theorem AAw (O:Alg) (x:Ags O):XF (O:=O) Tryz.prog sZ (CI.ow ⟨196,[],false,false,[],[]⟩) false [] 196 [] (xr x hY 0)=OZ O x:=by kernel_rfl
theorem ACr {E:Env} {M:Nat} (N:Nat) (h:∀ ls,E 196 [] ls=Ss N ls):VV Tryz.prog E M ⟨196,[],false,false,[],[]⟩ :=
 A2 mix (E:=BS N) (N:=N) (cfg:=sZ) (ci:=⟨196,[],false,false,[],[]⟩) (ks:=hY) (AG (eX N (fun _=>rfl)) (AG (AAY N (fun _=>rfl)) (AG (AAc N (fun _=>rfl)) (AG (ABP N (fun _=>rfl)) (AG (tf N (fun _=>rfl)) (AG (zC N (fun _=>rfl)) (AG (wo N (fun _=>rfl)) (AG (tM N (fun _=>rfl)) (AG (ve N (fun _=>rfl)) (AG (l7 N (fun _=>rfl)) (AG (tR N (fun _=>rfl)) (AG (wP N (fun _=>rfl)) (AG (w9 N (fun _=>rfl)) BU))))))))))))) (c:=Ss N) (F:=fun ls=>OZ (std (BS N) N) (xOf ls)) (fun ls=>rfl) (fun ls=>AAw (std (BS N) N) (xOf ls)) h
theorem xM:zzp 197 Kd:=vt mix fN QC [(175,DI),(231,Cr),(232,FE)] (gs YZ (gs Vr (gs np g0))) rfl (fun _ _=>rfl) fun O x=>by kernel_rfl
def nX:Cfg:={ gam:=[⟨116,[],true,true,[],[]⟩,⟨141,[],true,true,[],[]⟩,⟨175,[],true,true,[],[]⟩,⟨195,[],true,true,[],[]⟩,⟨196,[],false,false,[],[]⟩,⟨197,[],true,true,[],[]⟩],imm:=false,old:=false }
theorem yp (O:Alg) (x:Ags O):XF (O:=O) Tryz.prog nX (CI.ow ⟨180,[],false,false,[],[]⟩) false [] 180 [] (xr x cg 0)=O2 O x:=by kernel_rfl
theorem pP {E:Env} {M:Nat} (N:Nat) (h:∀ ls,E 180 [] ls=I9 N ls):VV Tryz.prog E M ⟨180,[],false,false,[],[]⟩ :=
 A2 mix (E:=Cj N) (N:=N) (cfg:=nX) (ci:=⟨180,[],false,false,[],[]⟩) (ks:=cg) (AG (lE N (fun _=>rfl)) (AG (YN N (fun _=>rfl)) (AG (YZ N (fun _=>rfl)) (AG (R2 N (fun _=>rfl)) (AG (ACr N (fun _=>rfl)) (AG (xM N (fun _=>rfl)) BU)))))) (c:=I9 N) (F:=fun ls=>O2 (std (Cj N) N) (xOf ls)) (fun ls=>rfl) (fun ls=>yp (std (Cj N) N) (xOf ls)) h
def nZ:Cfg:={ gam:=[⟨147,[],true,true,[],[]⟩,⟨150,[],true,true,[],[]⟩,⟨178,[],true,true,[],[]⟩,⟨179,[],true,true,[],[]⟩,⟨180,[],false,false,[],[]⟩],imm:=false,old:=false }
theorem zD (O:Alg) (x:Ags O):XF (O:=O) Tryz.prog nZ (CI.ow ⟨148,[],false,false,[true,false],[]⟩) false [true,false] 148 [] (xr x cP 0)=QX O x:=by kernel_rfl
theorem AAe {E:Env} {M:Nat} (N:Nat) (h:∀ ls,E 148 [] ls=Pa N ls):VV Tryz.prog E M ⟨148,[],false,false,[true,false],[]⟩ :=
 A2 mix (E:=DD N) (N:=N) (cfg:=nZ) (ci:=⟨148,[],false,false,[true,false],[]⟩) (ks:=cP) (AG (MU N (fun _=>rfl)) (AG (YQ N (fun _=>rfl)) (AG (tN N (fun _=>rfl)) (AG (y5 N (fun _=>rfl)) (AG (pP N (fun _=>rfl)) BU))))) (c:=Pa N) (F:=fun ls=>QX (std (DD N) N) (xOf ls)) (fun ls=>rfl) (fun ls=>zD (std (DD N) N) (xOf ls)) h
def nn:Cfg:={ gam:=[⟨180,[],false,false,[],[]⟩,⟨181,[],true,true,[],[]⟩],imm:=true,old:=true }
theorem y7 (O:Alg) (x:Ags O):XF (O:=O) Tryz.prog nn (CI.ow ⟨149,[],false,false,[true,false],[]⟩) false [true,false] 149 [] (xr x bu 0)=QR O x:=by kernel_rfl
theorem ABQ {E:Env} {M:Nat} (N:Nat) (h:∀ ls,E 149 [] ls=P9 N ls):VV Tryz.prog E M ⟨149,[],false,false,[true,false],[]⟩ :=
 A2 mix (E:=Fp N) (N:=N) (cfg:=nn) (ci:=⟨149,[],false,false,[true,false],[]⟩) (ks:=bu) (AG (pP N (fun _=>rfl)) (AG (eX N (fun _=>rfl)) BU)) (c:=P9 N) (F:=fun ls=>QR (std (Fp N) N) (xOf ls)) (fun ls=>rfl) (fun ls=>y7 (std (Fp N) N) (xOf ls)) h
def ro:Cfg:={ gam:=[⟨147,[],true,true,[],[]⟩,⟨148,[],false,false,[true,false],[]⟩,⟨149,[],false,false,[true,false],[]⟩],imm:=false,old:=false }
theorem AAJ (O:Alg) (x:Ags O):XF (O:=O) Tryz.prog ro (CI.ow ⟨117,[],false,false,[true,false],[]⟩) false [true,false] 117 [] (xr x ff 0)=Su O x:=by kernel_rfl
theorem ACj {E:Env} {M:Nat} (N:Nat) (h:∀ ls,E 117 [] ls=Sq N ls):VV Tryz.prog E M ⟨117,[],false,false,[true,false],[]⟩ :=
 A2 mix (E:=FN N) (N:=N) (cfg:=ro) (ci:=⟨117,[],false,false,[true,false],[]⟩) (ks:=ff) (AG (MU N (fun _=>rfl)) (AG (AAe N (fun _=>rfl)) (AG (ABQ N (fun _=>rfl)) BU))) (c:=Sq N) (F:=fun ls=>Su (std (FN N) N) (xOf ls)) (fun ls=>rfl) (fun ls=>AAJ (std (FN N) N) (xOf ls)) h
def dq:Cfg:={ gam:=[⟨115,[],true,true,[],[]⟩,⟨118,[],false,false,[],[]⟩,⟨147,[],true,true,[],[]⟩,⟨150,[],true,true,[],[]⟩],imm:=false,old:=false }
theorem qx (O:Alg) (x:Ags O):XF (O:=O) Tryz.prog dq (CI.ow ⟨151,[],true,true,[],[]⟩) true [] 151 [] (xr x TN 0)=JS O x:=by kernel_rfl
theorem tp:zzp 151 Jo:=fun N h =>
 A2 mix (E:=Cd N) (N:=N) (cfg:=dq) (ci:=⟨151,[],true,true,[],[]⟩) (ks:=TN) (AG (Yz N (fun _=>rfl)) (AG (UM N (fun _=>rfl)) (AG (MU N (fun _=>rfl)) (AG (YQ N (fun _=>rfl)) BU)))) (c:=Jo N) (F:=fun ls=>JS (std (Cd N) N) (xOf ls)) (fun ls=>rfl) (fun ls=>qx (std (Cd N) N) (xOf ls)) h
def gU:Cfg:={ gam:=[⟨118,[],false,false,[],[]⟩,⟨147,[],true,true,[],[]⟩,⟨150,[],true,true,[],[]⟩,⟨151,[],true,true,[],[]⟩],imm:=false,old:=false }
theorem tX (O:Alg) (x:Ags O):XF (O:=O) Tryz.prog gU (CI.ow ⟨119,[],false,false,[],[]⟩) false [] 119 [] (xr x WK 0)=Kw O x:=by kernel_rfl
theorem xj {E:Env} {M:Nat} (N:Nat) (h:∀ ls,E 119 [] ls=LW N ls):VV Tryz.prog E M ⟨119,[],false,false,[],[]⟩ :=
 A2 mix (E:=Cu N) (N:=N) (cfg:=gU) (ci:=⟨119,[],false,false,[],[]⟩) (ks:=WK) (AG (UM N (fun _=>rfl)) (AG (MU N (fun _=>rfl)) (AG (YQ N (fun _=>rfl)) (AG (tp N (fun _=>rfl)) BU)))) (c:=LW N) (F:=fun ls=>Kw (std (Cu N) N) (xOf ls)) (fun ls=>rfl) (fun ls=>tX (std (Cu N) N) (xOf ls)) h
def oy:Cfg:={ gam:=[⟨114,[],true,true,[],[]⟩,⟨115,[],true,true,[],[]⟩,⟨116,[],true,true,[],[]⟩,⟨117,[],false,false,[true,false],[]⟩,⟨118,[],false,false,[],[]⟩,⟨119,[],false,false,[],[]⟩],imm:=false,old:=false }
theorem yD (O:Alg) (x:Ags O):XF (O:=O) Tryz.prog oy (CI.ow ⟨96,[],false,false,[],[]⟩) false [] 96 [] (xr x ah 0)=Pn O x:=by kernel_rfl
theorem qI {E:Env} {M:Nat} (N:Nat) (h:∀ ls,E 96 [] ls=JG N ls):VV Tryz.prog E M ⟨96,[],false,false,[],[]⟩ :=
 A2 mix (E:=Cl N) (N:=N) (cfg:=oy) (ci:=⟨96,[],false,false,[],[]⟩) (ks:=ah) (AG (yi N (fun _=>rfl)) (AG (Yz N (fun _=>rfl)) (AG (lE N (fun _=>rfl)) (AG (ACj N (fun _=>rfl)) (AG (UM N (fun _=>rfl)) (AG (xj N (fun _=>rfl)) BU)))))) (c:=JG N) (F:=fun ls=>Pn (std (Cl N) N) (xOf ls)) (fun ls=>rfl) (fun ls=>yD (std (Cl N) N) (xOf ls)) h
def pg:Cfg:={ gam:=[⟨96,[],false,false,[],[]⟩],imm:=true,old:=true }
theorem yC (O:Alg) (x:Ags O):XF (O:=O) Tryz.prog pg (CI.ow ⟨112,[],false,false,[],[]⟩) false [] 112 [] (xr x aZ 0)=QF O x:=by kernel_rfl
theorem ABD {E:Env} {M:Nat} (N:Nat) (h:∀ ls,E 112 [] ls=QE N ls):VV Tryz.prog E M ⟨112,[],false,false,[],[]⟩ :=
 A2 mix (E:=IX N) (N:=N) (cfg:=pg) (ci:=⟨112,[],false,false,[],[]⟩) (ks:=aZ) (AG (qI N (fun _=>rfl)) BU) (c:=QE N) (F:=fun ls=>QF (std (IX N) N) (xOf ls)) (fun ls=>rfl) (fun ls=>yC (std (IX N) N) (xOf ls)) h
def ia:Cfg:={ gam:=[⟨95,[],true,true,[],[]⟩,⟨112,[],false,false,[],[]⟩],imm:=false,old:=false }
theorem uM (O:Alg) (x:Ags O):XF (O:=O) Tryz.prog ia (CI.ow ⟨94,[],false,false,[],[]⟩) false [] 94 [] (xr x WL 0)=Kj O x:=by kernel_rfl
theorem iI {E:Env} {M:Nat} (N:Nat) (h:∀ ls,E 94 [] ls=Fm N ls):VV Tryz.prog E M ⟨94,[],false,false,[],[]⟩ :=
 A2 mix (E:=D6 N) (N:=N) (cfg:=ia) (ci:=⟨94,[],false,false,[],[]⟩) (ks:=WL) (AG (tD N (fun _=>rfl)) (AG (ABD N (fun _=>rfl)) BU)) (c:=Fm N) (F:=fun ls=>Kj (std (D6 N) N) (xOf ls)) (fun ls=>rfl) (fun ls=>uM (std (D6 N) N) (xOf ls)) h
def lP:Cfg:={ gam:=[⟨93,[],true,true,[],[]⟩,⟨94,[],false,false,[],[]⟩],imm:=false,old:=false }
theorem wD (O:Alg) (x:Ags O):XF (O:=O) Tryz.prog lP (CI.ow ⟨68,[],true,true,[],[]⟩) true [] 68 [] (xr x YP 0)=Mv O x:=by kernel_rfl
theorem yY:zzp 68 M0:=fun N h =>
 A2 mix (E:=Ep N) (N:=N) (cfg:=lP) (ci:=⟨68,[],true,true,[],[]⟩) (ks:=YP) (AG (ED N (fun _=>rfl)) (AG (iI N (fun _=>rfl)) BU)) (c:=M0 N) (F:=fun ls=>Mv (std (Ep N) N) (xOf ls)) (fun ls=>rfl) (fun ls=>wD (std (Ep N) N) (xOf ls)) h
theorem xo:zzp 69 PK:=vt mix hP PQ [] g0 rfl (fun _ _=>rfl) fun O x=>by kernel_rfl
def pd:Cfg:={ gam:=[⟨94,[],false,false,[],[]⟩,⟨95,[],true,true,[],[]⟩,⟨96,[],false,false,[],[]⟩,⟨97,[],true,true,[],[]⟩],imm:=false,old:=true,ie:=[170,99,35,9,73,64,4,160,3,39,5,216,143,190,212,87,33] }
theorem yR (O:Alg) (x:Ags O):XF (O:=O) Tryz.prog pd (CI.ow ⟨70,[],false,false,[],[]⟩) false [] 70 [] (xr x cu 0)=Pf O x:=by kernel_rfl
theorem AAr {E:Env} {M:Nat} (N:Nat) (h:∀ ls,E 70 [] ls=QY N ls):VV Tryz.prog E M ⟨70,[],false,false,[],[]⟩ :=
 A2 mix (E:=Dg N) (N:=N) (cfg:=pd) (ci:=⟨70,[],false,false,[],[]⟩) (ks:=cu) (AG (iI N (fun _=>rfl)) (AG (tD N (fun _=>rfl)) (AG (qI N (fun _=>rfl)) (AG (iL N (fun _=>rfl)) BU)))) (c:=QY N) (F:=fun ls=>Pf (std (Dg N) N) (xOf ls)) (fun ls=>rfl) (fun ls=>yR (std (Dg N) N) (xOf ls)) h
theorem tY:zzp 71 Na:=vt mix dn Np [] g0 rfl (fun _ _=>rfl) fun O x=>by kernel_rfl
def xI:Cfg:={ gam:=[⟨68,[],true,true,[],[]⟩,⟨69,[],true,true,[],[]⟩,⟨70,[],false,false,[],[]⟩,⟨71,[],true,true,[],[]⟩],imm:=false,old:=false }
theorem ACZ (O:Alg) (x:Ags O):XF (O:=O) Tryz.prog xI (CI.ow ⟨34,[],false,false,[],[]⟩) false [] 34 [] (xr x mN 0)=WD O x:=by kernel_rfl
theorem ADx {E:Env} {M:Nat} (N:Nat) (h:∀ ls,E 34 [] ls=VJ N ls):VV Tryz.prog E M ⟨34,[],false,false,[],[]⟩ :=
 A2 mix (E:=FK N) (N:=N) (cfg:=xI) (ci:=⟨34,[],false,false,[],[]⟩) (ks:=mN) (AG (yY N (fun _=>rfl)) (AG (xo N (fun _=>rfl)) (AG (AAr N (fun _=>rfl)) (AG (tY N (fun _=>rfl)) BU)))) (c:=VJ N) (F:=fun ls=>WD (std (FK N) N) (xOf ls)) (fun ls=>rfl) (fun ls=>ACZ (std (FK N) N) (xOf ls)) h
theorem uD:zzp 35 NV:=vt mix eU Nc [] g0 rfl (fun _ _=>rfl) fun O x=>by kernel_rfl
theorem xJ:zzp 72 LM:=vt mix fY PT [] g0 rfl (fun _ _=>rfl) fun O x=>by kernel_rfl
theorem AAH:zzp 36 Ua:=vt mix qB Uq [(72,LM)] (gs xJ g0) rfl (fun _ _=>rfl) fun O x=>by kernel_rfl
def ny:Cfg:={ gam:=[⟨34,[],false,false,[],[]⟩,⟨35,[],true,true,[],[]⟩,⟨36,[],true,true,[],[]⟩],imm:=false,old:=false }
theorem yq (O:Alg) (x:Ags O):XF (O:=O) Tryz.prog ny (CI.ow ⟨11,[],true,true,[],[]⟩) true [] 11 [] (xr x cm 0)=Pm O x:=by kernel_rfl
theorem AAE:zzp 11 Pz:=fun N h =>
 A2 mix (E:=Ea N) (N:=N) (cfg:=ny) (ci:=⟨11,[],true,true,[],[]⟩) (ks:=cm) (AG (ADx N (fun _=>rfl)) (AG (uD N (fun _=>rfl)) (AG (AAH N (fun _=>rfl)) BU))) (c:=Pz N) (F:=fun ls=>Pm (std (Ea N) N) (xOf ls)) (fun ls=>rfl) (fun ls=>yq (std (Ea N) N) (xOf ls)) h
def Sy:Cfg:={ gam:=[⟨8,[],true,true,[],[]⟩,⟨9,[],false,false,[],[]⟩,⟨10,[],true,true,[],[]⟩,⟨11,[],true,true,[],[]⟩,⟨12,[],true,true,[],[]⟩],imm:=false,old:=false }
theorem ee (O:Alg) (x:Ags O):XF (O:=O) Tryz.prog Sy (CI.ow ⟨3,[],true,true,[],[]⟩) true [] 3 [] (xr x Kx 0)=EI O x:=by kernel_rfl
theorem f9:zzp 3 EW:=fun N h =>
 A2 mix (E:=BM N) (N:=N) (cfg:=Sy) (ci:=⟨3,[],true,true,[],[]⟩) (ks:=Kx) (AG (yc N (fun _=>rfl)) (AG (AB5 N (fun _=>rfl)) (AG (ZY N (fun _=>rfl)) (AG (AAE N (fun _=>rfl)) (AG (MY N (fun _=>rfl)) BU))))) (c:=EW N) (F:=fun ls=>EI (std (BM N) N) (xOf ls)) (fun ls=>rfl) (fun ls=>ee (std (BM N) N) (xOf ls)) h
end Go.Px
