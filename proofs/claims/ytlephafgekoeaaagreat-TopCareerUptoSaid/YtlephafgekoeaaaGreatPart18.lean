/- Part 18. -/
import Derived.Test.YtlephafgekoeaaaGreatPart08
import Derived.Test.YtlephafgekoeaaaGreatProg
import Derived.Test.YtlephafgekoeaaaGreatPart10
import Derived.KernelRfl
import Derived.WalkKit
import Derived.Lib.Walk
import Derived.BigCall
import Derived.BigGuard
import Derived.Test.YtlephafgekoeaaaGreatPart17
set_option linter.unusedVariables false
set_option linter.unusedSimpArgs false
namespace Go.Px
open Go.Proofs
set_option maxRecDepth 100000
abbrev zzp:=Vd Tryz.prog
theorem mix:Tryz.prog.follows .mixedOrders=true:=by kernel_rfl
def Y7:Cfg:={ gam:=[],imm:=false,old:=false }
theorem lG (O:Alg) (x:Ags O):XF (O:=O) Tryz.prog Y7 (CI.ow ⟨5,[],false,false,[],[]⟩) false [] 5 [] (xr x Ru 0)=JO O x:=by kernel_rfl
theorem nG {E:Env} {M:Nat} (N:Nat) (h:∀ls,E 5 [] ls=Gp N ls):VV Tryz.prog E M ⟨5,[],false,false,[],[]⟩ :=
 CZ mix (E:=HD N) (N:=N) (cfg:=Y7) (ci:=⟨5,[],false,false,[],[]⟩) (ks:=Ru) Dx (c:=Gp N) (F:=fun ls=>JO (std (HD N) N) (xOf ls)) (fun ls=>rfl) (fun ls=>lG (std (HD N) N) (xOf ls)) h
theorem db:zzp 60 Fm:=vt mix dv Qi [] g0 rfl (fun _ _=>rfl) fun O x=>by kernel_rfl
theorem VA:zzp 88 C5:=vt mix VD VJ [] g0 rfl (fun _ _=>rfl) fun O x=>by kernel_rfl
theorem ip:zzp 61 HG:=vt mix U1 J4 [(88,C5)] (gs VA g0) rfl (fun _ _=>rfl) fun O x=>by kernel_rfl
theorem jv:zzp 62 IU:=vt mix W4 Li [(88,C5)] (gs VA g0) rfl (fun _ _=>rfl) fun O x=>by kernel_rfl
theorem Cw:zzp 27 AU:=vt mix Yj Mu [(60,Fm),(61,HG),(62,IU)] (gs db (gs ip (gs jv g0))) rfl (fun _ _=>rfl) fun O x=>by kernel_rfl
theorem N0:zzp 66 Bh:=vt mix Nq Es [] g0 rfl (fun _ _=>rfl) fun O x=>by kernel_rfl
theorem Kh:zzp 63 BF:=vt mix Kr Dp [(66,Bh)] (gs N0 g0) rfl (fun _ _=>rfl) fun O x=>by kernel_rfl
theorem ng:zzp 64 Je:=vt mix ZJ Mw [] g0 rfl (fun _ _=>rfl) fun O x=>by kernel_rfl
theorem ZA:zzp 28 Cx:=vt mix Y5 M2 [(60,Fm),(63,BF),(64,Je)] (gs db (gs Kh (gs ng g0))) rfl (fun _ _=>rfl) fun O x=>by kernel_rfl
theorem Zb:zzp 31 DA:=vt mix bX OD [(66,Bh)] (gs N0 g0) rfl (fun _ _=>rfl) fun O x=>by kernel_rfl
theorem qz:zzp 12 Ow:=vt mix Zi Oc [(27,AU),(28,Cx),(31,DA)] (gs Cw (gs ZA (gs Zb g0))) rfl (fun _ _=>rfl) fun O x=>by kernel_rfl
theorem X5:zzp 100 Dv:=fun N h =>
 EW mix (nw:=true) (T:=22) (e:=171) (b:=24) Tryz.func100 Tryz.underlying22 (by kernel_rfl) (by decide) (fun O l=>by kernel_rfl) (fun O l=>by kernel_rfl) h
theorem Yp:zzp 89 D2:=vt mix Y6 M3 [(100,Dv)] (gs X5 g0) rfl (fun _ _=>rfl) fun O x=>by kernel_rfl
theorem su:zzp 69 Qr:=vt mix da Qs [(27,AU),(89,D2)] (gs Cw (gs Yp g0)) rfl (fun _ _=>rfl) fun O x=>by kernel_rfl
theorem FU:zzp 124 Aw:=vt mix SM SQ [] g0 rfl (fun _ _=>rfl) fun O x=>by kernel_rfl
theorem cz:zzp 125 FN:=vt mix SJ Hu [(124,Aw)] (gs FU g0) rfl (fun _ _=>rfl) fun O x=>by kernel_rfl
theorem aM:zzp 145 Em:=vt mix RJ G5 [] g0 rfl (fun _ _=>rfl) fun O x=>by kernel_rfl
theorem IR:zzp 138 A2:=vt mix Nu E6 [(145,Em)] (gs aM g0) rfl (fun _ _=>rfl) fun O x=>by kernel_rfl
theorem ZT:zzp 126 EH:=vt mix Pi GU [(124,Aw),(138,A2)] (gs FU (gs IR g0)) rfl (fun _ _=>rfl) fun O x=>by kernel_rfl
theorem ZP:zzp 139 EI:=vt mix Pl GX [(124,Aw)] (gs FU g0) rfl (fun _ _=>rfl) fun O x=>by kernel_rfl
theorem ck:zzp 127 FT:=vt mix SK H5 [(139,EI)] (gs ZP g0) rfl (fun _ _=>rfl) fun O x=>by kernel_rfl
theorem PD:zzp 109 Bc:=vt mix VN KN [(27,AU),(124,Aw),(125,FN),(126,EH),(127,FT)] (gs Cw (gs FU (gs cz (gs ZT (gs ck g0))))) rfl (fun _ _=>rfl) fun O x=>by kernel_rfl
theorem M4:zzp 117 Ba:=vt mix ZL ZG [] g0 rfl (fun _ _=>rfl) fun O x=>by kernel_rfl
theorem Yq:zzp 110 D0:=vt mix Y3 Mo [(117,Ba)] (gs M4 g0) rfl (fun _ _=>rfl) fun O x=>by kernel_rfl
theorem na:zzp 111 Ji:=vt mix ZE NC [] g0 rfl (fun _ _=>rfl) fun O x=>by kernel_rfl
theorem Ys:zzp 101 D3:=vt mix ZH Mt [(27,AU),(109,Bc),(110,D0),(111,Ji)] (gs Cw (gs PD (gs Yq (gs na g0)))) rfl (fun _ _=>rfl) fun O x=>by kernel_rfl
theorem kL:zzp 112 H6:=vt mix XK LU [] g0 rfl (fun _ _=>rfl) fun O x=>by kernel_rfl
theorem iy:zzp 113 HW:=vt mix Vi Oo [] g0 rfl (fun _ _=>rfl) fun O x=>by kernel_rfl
open Go.RowKit Go.Lib in
set_option maxHeartbeats 1000000 in
theorem Si (s:ByteArray) (c:Int) (w:World):Calls Tryz.prog 140 #[.string s,.int .u8 c] w fun e w'=>e=.returned (.int .i64 (Lib.indexByte s.data.toList c.toNat.toUInt8))∧w'=w:=by
 go_enter Tryz.func140,Tryz.ntmps140
 go_wp2
 rw[run_callFunc_extern Tryz.func146 (by kernel_rfl) (by kernel_rfl) (by kernel_rfl) (e:=Extern.BytealgIndexByte.indexByte) (by kernel_rfl),Lib.run_indexByteString];simp only[Result.andThen];rw[Oper.upon_value]
 go_wp2
 go_ret
 exact⟨rfl,rfl⟩
theorem Us:zzp 140 Gh:=fun N h =>
 sP Tryz.func140 (T9:=9) (T5:=5) (T3:=3) rfl rfl Tryz.underlying9 Tryz.underlying5 Tryz.underlying3 (by kernel_rfl) Si h
theorem ZW:zzp 128 ED:=vt mix Pj Pn [(140,Gh)] (gs Us g0) rfl (fun _ _=>rfl) fun O x=>by kernel_rfl
theorem nK:zzp 129 Gl:=vt mix ZK Y0 [] g0 rfl (fun _ _=>rfl) fun O x=>by kernel_rfl
theorem pS:zzp 114 K6:=vt mix aI Ok [(128,ED),(129,Gl)] (gs ZW (gs nK g0)) rfl (fun _ _=>rfl) fun O x=>by kernel_rfl
theorem bM:zzp 130 Ef:=vt mix RG Kx [] g0 rfl (fun _ _=>rfl) fun O x=>by kernel_rfl
theorem fR:zzp 115 GK:=vt mix TP JF [(130,Ef)] (gs bM g0) rfl (fun _ _=>rfl) fun O x=>by kernel_rfl
theorem Y8:zzp 102 D4:=vt mix Yt Jc [(112,H6),(113,HW),(114,K6),(115,GK)] (gs kL (gs iy (gs pS (gs fR g0)))) rfl (fun _ _=>rfl) fun O x=>by kernel_rfl
theorem En:zzp 47 Ad:=fun N h =>
 EW mix (nw:=true) (T:=36) (e:=3) (b:=8) Tryz.func47 Tryz.underlying36 (by kernel_rfl) (by decide) (fun O l=>by kernel_rfl) (fun O l=>by kernel_rfl) h
theorem E4:zzp 131 Ae:=fun N h =>
 EW mix (nw:=true) (T:=176) (e:=221) (b:=1) Tryz.func131 Tryz.underlying176 (by kernel_rfl) (by decide) (fun O l=>by kernel_rfl) (fun O l=>by kernel_rfl) h
theorem GY:zzp 132 Ah:=fun N h =>
 EW mix (nw:=true) (T:=177) (e:=4) (b:=1) Tryz.func132 Tryz.underlying177 (by kernel_rfl) (by decide) (fun O l=>by kernel_rfl) (fun O l=>by kernel_rfl) h
theorem C3:zzp 116 AZ:=vt mix VU KK [(47,Ad),(131,Ae),(132,Ah)] (gs En (gs E4 (gs GY g0))) rfl (fun _ _=>rfl) fun O x=>by kernel_rfl
theorem nf:zzp 103 Jh:=vt mix ZM M5 [(89,D2),(116,AZ)] (gs Yp (gs C3 g0)) rfl (fun _ _=>rfl) fun O x=>by kernel_rfl
theorem Rj:zzp 121 CP:=vt mix Yx M0 [] g0 rfl (fun _ _=>rfl) fun O x=>by kernel_rfl
theorem RV:zzp 136 CE:=vt mix Q2 G1 [] g0 rfl (fun _ _=>rfl) fun O x=>by kernel_rfl
theorem ic:zzp 122 Gy:=vt mix VE KE [(101,D3),(117,Ba),(121,CP),(136,CE)] (gs Ys (gs M4 (gs Rj (gs RV g0)))) rfl (fun _ _=>rfl) fun O x=>by kernel_rfl
theorem iY:zzp 133 HY:=vt mix Vu J5 [(27,AU),(124,Aw)] (gs Cw (gs FU g0)) rfl (fun _ _=>rfl) fun O x=>by kernel_rfl
theorem lS:zzp 134 IZ:=vt mix Wa L2 [(117,Ba),(121,CP)] (gs M4 (gs Rj g0)) rfl (fun _ _=>rfl) fun O x=>by kernel_rfl
theorem cY:zzp 148 FP:=vt mix SH R9 [] g0 rfl (fun _ _=>rfl) fun O x=>by kernel_rfl
theorem hC:zzp 141 Gv:=vt mix Vm KF [(148,FP)] (gs cY g0) rfl (fun _ _=>rfl) fun O x=>by kernel_rfl
theorem Ie:zzp 166 BD:=vt mix Zk OH [(47,Ad),(131,Ae),(132,Ah)] (gs En (gs E4 (gs GY g0))) rfl (fun _ _=>rfl) fun O x=>by kernel_rfl
theorem gA:zzp 182 DT:=vt mix TX Tr [] g0 rfl (fun _ _=>rfl) fun O x=>by kernel_rfl
theorem Wv:zzp 167 CW:=vt mix WU Fq [(182,DT)] (gs gA g0) rfl (fun _ _=>rfl) fun O x=>by kernel_rfl
theorem IC:zzp 168 BC:=vt mix Wt Lx [] g0 rfl (fun _ _=>rfl) fun O x=>by kernel_rfl
theorem nL:zzp 149 JS:=vt mix Yr Mz [(166,BD),(167,CW),(168,BC)] (gs Ie (gs Wv (gs IC g0))) rfl (fun _ _=>rfl) fun O x=>by kernel_rfl
theorem WC:zzp 169 DD:=vt mix dM Ql [(47,Ad),(131,Ae),(132,Ah)] (gs En (gs E4 (gs GY g0))) rfl (fun _ _=>rfl) fun O x=>by kernel_rfl
theorem Rh:zzp 183 CO:=vt mix ZB M7 [] g0 rfl (fun _ _=>rfl) fun O x=>by kernel_rfl
theorem pz:zzp 184 LG:=vt mix Zg OX [(27,AU),(183,CO)] (gs Cw (gs Rh g0)) rfl (fun _ _=>rfl) fun O x=>by kernel_rfl
theorem tL:zzp 170 Ma:=vt mix dX Qk [(27,AU),(138,A2),(183,CO),(184,LG)] (gs Cw (gs IR (gs Rh (gs pz g0)))) rfl (fun _ _=>rfl) fun O x=>by kernel_rfl
theorem qd:zzp 150 LH:=vt mix Z6 OU [(169,DD),(170,Ma)] (gs WC (gs tL g0)) rfl (fun _ _=>rfl) fun O x=>by kernel_rfl
theorem ZZ:zzp 123 EG:=vt mix Pm GZ [] g0 rfl (fun _ _=>rfl) fun O x=>by kernel_rfl
theorem Th:zzp 106 Cq:=vt mix UX JC [(123,EG)] (gs ZZ g0) rfl (fun _ _=>rfl) fun O x=>by kernel_rfl
theorem ZR:zzp 107 EF:=vt mix Pk GW [] g0 rfl (fun _ _=>rfl) fun O x=>by kernel_rfl
theorem SD:zzp 91 Cb:=vt mix SE Hy [(106,Cq),(107,EF)] (gs Th (gs ZR g0)) rfl (fun _ _=>rfl) fun O x=>by kernel_rfl
theorem OJ:zzp 163 Bb:=vt mix U7 Ew [(167,CW)] (gs Wv g0) rfl (fun _ _=>rfl) fun O x=>by kernel_rfl
theorem JL:zzp 179 BM:=vt mix Y9 Mp [] g0 rfl (fun _ _=>rfl) fun O x=>by kernel_rfl
theorem Iz:zzp 180 BG:=vt mix T7 JG [(179,BM)] (gs JL g0) rfl (fun _ _=>rfl) fun O x=>by kernel_rfl
theorem gx:zzp 188 G3:=vt mix VX J1 [] g0 rfl (fun _ _=>rfl) fun O x=>by kernel_rfl
theorem nQ:zzp 185 JT:=vt mix Yl My [(179,BM),(180,BG),(188,G3)] (gs JL (gs Iz (gs gx g0))) rfl (fun _ _=>rfl) fun O x=>by kernel_rfl
theorem SC:zzp 193 B3:=vt mix SP SV [] g0 rfl (fun _ _=>rfl) fun O x=>by kernel_rfl
theorem jx:zzp 189 IE:=vt mix W0 Lc [(193,B3)] (gs SC g0) rfl (fun _ _=>rfl) fun O x=>by kernel_rfl
theorem Z7:zzp 194 Ep:=vt mix RK HI [] g0 rfl (fun _ _=>rfl) fun O x=>by kernel_rfl
theorem XA:zzp 190 Db:=vt mix Ni Ey [(194,Ep)] (gs Z7 g0) rfl (fun _ _=>rfl) fun O x=>by kernel_rfl
theorem bU:zzp 195 Ed:=vt mix RL HJ [] g0 rfl (fun _ _=>rfl) fun O x=>by kernel_rfl
theorem fU:zzp 191 GF:=vt mix TW I5 [(193,B3),(195,Ed)] (gs SC (gs bU g0)) rfl (fun _ _=>rfl) fun O x=>by kernel_rfl
theorem WS:zzp 196 DJ:=vt mix MX EY [] g0 rfl (fun _ _=>rfl) fun O x=>by kernel_rfl
theorem YE:zzp 192 Ds:=vt mix ON Fe [(196,DJ)] (gs WS g0) rfl (fun _ _=>rfl) fun O x=>by kernel_rfl
theorem YF:zzp 186 Dl:=vt mix Ob FX [(189,IE),(190,Db),(191,GF),(192,Ds)] (gs jx (gs XA (gs fU (gs YE g0)))) rfl (fun _ _=>rfl) fun O x=>by kernel_rfl
theorem nr:zzp 187 JM:=vt mix Yz M1 [(179,BM),(180,BG)] (gs JL (gs Iz g0)) rfl (fun _ _=>rfl) fun O x=>by kernel_rfl
theorem dC:zzp 171 FO:=vt mix SU H0 [(106,Cq),(163,Bb),(185,JT),(186,Dl),(187,JM)] (gs Th (gs OJ (gs nQ (gs YF (gs nr g0))))) rfl (fun _ _=>rfl) fun O x=>by kernel_rfl
theorem pT:zzp 172 Kd:=vt mix aX Of [(166,BD),(168,BC)] (gs Ie (gs IC g0)) rfl (fun _ _=>rfl) fun O x=>by kernel_rfl
theorem fI:zzp 173 F1:=vt mix Ub UD [] g0 rfl (fun _ _=>rfl) fun O x=>by kernel_rfl
theorem pL:zzp 174 Kk:=vt mix aS Oa [(27,AU),(138,A2),(169,DD),(183,CO)] (gs Cw (gs IR (gs WC (gs Rh g0)))) rfl (fun _ _=>rfl) fun O x=>by kernel_rfl
theorem iE:zzp 175 G4:=vt mix VL J3 [(166,BD)] (gs Ie g0) rfl (fun _ _=>rfl) fun O x=>by kernel_rfl
theorem lL:zzp 151 ID:=vt mix Wq Lg [(91,Cb),(116,AZ),(171,FO),(172,Kd),(173,F1),(174,Kk),(175,G4)] (gs SD (gs C3 (gs dC (gs pT (gs fI (gs pL (gs iE g0))))))) rfl (fun _ _=>rfl) fun O x=>by kernel_rfl
theorem Zx:zzp 176 Ej:=vt mix Zj PO [(163,Bb),(168,BC)] (gs OJ (gs IC g0)) rfl (fun _ _=>rfl) fun O x=>by kernel_rfl
theorem fx:zzp 152 GM:=vt mix TL JE [(166,BD),(168,BC),(176,Ej)] (gs Ie (gs IC (gs Zx g0))) rfl (fun _ _=>rfl) fun O x=>by kernel_rfl
theorem lh:zzp 153 IW:=vt mix Wp Lk [(166,BD),(176,Ej)] (gs Ie (gs Zx g0)) rfl (fun _ _=>rfl) fun O x=>by kernel_rfl
theorem Yk:zzp 164 DQ:=vt mix ZC Gm [] g0 rfl (fun _ _=>rfl) fun O x=>by kernel_rfl
theorem gD:zzp 154 HR:=vt mix VS KL [(164,DQ),(166,BD),(168,BC)] (gs Yk (gs Ie (gs IC g0))) rfl (fun _ _=>rfl) fun O x=>by kernel_rfl
theorem Vx:zzp 178 DG:=vt mix dZ Qn [(47,Ad),(131,Ae),(132,Ah)] (gs En (gs E4 (gs GY g0))) rfl (fun _ _=>rfl) fun O x=>by kernel_rfl
theorem iM:zzp 155 HQ:=vt mix VF KI [(178,DG)] (gs Vx g0) rfl (fun _ _=>rfl) fun O x=>by kernel_rfl
theorem ka:zzp 156 IP:=vt mix XG LX [(178,DG),(179,BM),(180,BG)] (gs Vx (gs JL (gs Iz g0))) rfl (fun _ _=>rfl) fun O x=>by kernel_rfl
theorem Z5:zzp 157 Eg:=vt mix RU HX [(178,DG),(179,BM),(180,BG)] (gs Vx (gs JL (gs Iz g0))) rfl (fun _ _=>rfl) fun O x=>by kernel_rfl
theorem i7:zzp 158 G6:=vt mix VR J0 [(27,AU),(169,DD)] (gs Cw (gs WC g0)) rfl (fun _ _=>rfl) fun O x=>by kernel_rfl
theorem cn:zzp 159 FI:=vt mix R8 Hx [(116,AZ)] (gs C3 g0) rfl (fun _ _=>rfl) fun O x=>by kernel_rfl
theorem SB:zzp 144 Ca:=vt mix SG H3 [(116,AZ)] (gs C3 g0) rfl (fun _ _=>rfl) fun O x=>by kernel_rfl
theorem cj:zzp 160 FR:=vt mix SX Hz [(116,AZ),(144,Ca)] (gs C3 (gs SB g0)) rfl (fun _ _=>rfl) fun O x=>by kernel_rfl
theorem fA:zzp 161 GR:=vt mix Ti F6 [(116,AZ)] (gs C3 g0) rfl (fun _ _=>rfl) fun O x=>by kernel_rfl
theorem iP:zzp 181 HB:=vt mix U4 U0 [] g0 rfl (fun _ _=>rfl) fun O x=>by kernel_rfl
theorem ej:zzp 162 F3:=vt mix UC JD [(116,AZ),(181,HB)] (gs C3 (gs iP g0)) rfl (fun _ _=>rfl) fun O x=>by kernel_rfl
theorem cq:zzp 142 FQ:=vt mix SI FW [(149,JS),(150,LH),(151,ID),(152,GM),(153,IW),(154,HR),(155,HQ),(156,IP),(157,Eg),(158,G6),(159,FI),(160,FR),(161,GR),(162,F3)] (gs nL (gs qd (gs lL (gs fx (gs lh (gs gD (gs iM (gs ka (gs Z5 (gs i7 (gs cn (gs cj (gs fA (gs ej g0)))))))))))))) rfl (fun _ _=>rfl) fun O x=>by kernel_rfl
theorem eh:zzp 143 EN:=vt mix TU JA [(109,Bc),(163,Bb),(164,DQ)] (gs PD (gs OJ (gs Yk g0))) rfl (fun _ _=>rfl) fun O x=>by kernel_rfl
theorem lR:zzp 135 IQ:=vt mix XQ L7 [(102,D4),(109,Bc),(116,AZ),(141,Gv),(142,FQ),(143,EN)] (gs Y8 (gs PD (gs C3 (gs hC (gs cq (gs eh g0)))))) rfl (fun _ _=>rfl) fun O x=>by kernel_rfl
theorem qU:zzp 90 OZ:=vt mix Zw OI [(101,D3),(102,D4),(103,Jh),(110,D0),(117,Ba),(121,CP),(122,Gy),(133,HY),(134,IZ),(135,IQ),(136,CE),(144,Ca)] (gs Ys (gs Y8 (gs nf (gs Yq (gs M4 (gs Rj (gs ic (gs iY (gs lS (gs lR (gs RV (gs SB g0)))))))))))) rfl (fun _ _=>rfl) fun O x=>by kernel_rfl
def ja:Cfg:={ gam:=[⟨90,[],true,true,[],[]⟩],imm:=false,old:=false }
theorem sM (O:Alg) (x:Ags O):XF (O:=O) Tryz.prog ja (CI.ow ⟨70,[],false,false,[],[]⟩) false [] 70 [] (xr x Yf 0)=O7 O x:=by kernel_rfl
theorem vg {E:Env} {M:Nat} (N:Nat) (h:∀ls,E 70 [] ls=Oq N ls):VV Tryz.prog E M ⟨70,[],false,false,[],[]⟩ :=
 CZ mix (E:=H9 N) (N:=N) (cfg:=ja) (ci:=⟨70,[],false,false,[],[]⟩) (ks:=Yf) (Al (qU N (fun _=>rfl)) Dx) (c:=Oq N) (F:=fun ls=>O7 (std (H9 N) N) (xOf ls)) (fun ls=>rfl) (fun ls=>sM (std (H9 N) N) (xOf ls)) h
theorem iR:zzp 71 J8:=vt mix VW J9 [(91,Cb)] (gs SD g0) rfl (fun _ _=>rfl) fun O x=>by kernel_rfl
def jE:Cfg:={ gam:=[⟨69,[],true,true,[],[]⟩,⟨70,[],false,false,[],[]⟩,⟨71,[],true,true,[],[]⟩],imm:=false,old:=true,ie:=[171,9,34,1000055,106,3,46,61,70,40,80,1000080,41,180,90,5,221,4,204,217,96,68,259] }
theorem sW (O:Alg) (x:Ags O):XF (O:=O) Tryz.prog jE (CI.ow ⟨39,[],true,false,[],[171,9,34,1000055,106,3,46,61,70,40,80,1000080,41,180,90,5,221,4,204,217,96,68,259]⟩) false [] 39 [] (xr x YJ 0)=PN O x:=by kernel_rfl
theorem YV {E:Env} {M:Nat} (N:Nat) (h:∀ls,E 39 [] ls=Fh N ls):VV Tryz.prog E M ⟨39,[],true,false,[],[171,9,34,1000055,106,3,46,61,70,40,80,1000080,41,180,90,5,221,4,204,217,96,68,259]⟩ :=
 CZ mix (E:=Ee N) (N:=N) (cfg:=jE) (ci:=⟨39,[],true,false,[],[171,9,34,1000055,106,3,46,61,70,40,80,1000080,41,180,90,5,221,4,204,217,96,68,259]⟩) (ks:=YJ) (Al (su N (fun _=>rfl)) (Al (vg N (fun _=>rfl)) (Al (iR N (fun _=>rfl)) Dx))) (c:=Fh N) (F:=fun ls=>PN (std (Ee N) N) (xOf ls)) (fun ls=>rfl) (fun ls=>sW (std (Ee N) N) (xOf ls)) h
def bu:Cfg:={ gam:=[⟨39,[],true,false,[],[171,9,34,1000055,106,3,46,61,70,40,80,1000080,41,180,90,5,221,4,204,217,96,68,259]⟩],imm:=false,old:=false }
theorem nU (O:Alg) (x:Ags O):XF (O:=O) Tryz.prog bu (CI.ow ⟨32,[],false,false,[],[]⟩) false [] 32 [] (xr x Tx 0)=Kc O x:=by kernel_rfl
theorem rU {E:Env} {M:Nat} (N:Nat) (h:∀ls,E 32 [] ls=Km N ls):VV Tryz.prog E M ⟨32,[],false,false,[],[]⟩ :=
 CZ mix (E:=Fy N) (N:=N) (cfg:=bu) (ci:=⟨32,[],false,false,[],[]⟩) (ks:=Tx) (Al (YV N (fun _=>rfl)) Dx) (c:=Km N) (F:=fun ls=>Kc (std (Fy N) N) (xOf ls)) (fun ls=>rfl) (fun ls=>nU (std (Fy N) N) (xOf ls)) h
def dr:Cfg:={ gam:=[⟨27,[],true,true,[],[]⟩,⟨32,[],false,false,[],[]⟩],imm:=false,old:=false }
theorem qv (O:Alg) (x:Ags O):XF (O:=O) Tryz.prog dr (CI.ow ⟨13,[],true,true,[],[]⟩) true [] 13 [] (xr x Vy 0)=Mf O x:=by kernel_rfl
theorem WR:zzp 13 EV:=fun N h =>
 CZ mix (E:=E8 N) (N:=N) (cfg:=dr) (ci:=⟨13,[],true,true,[],[]⟩) (ks:=Vy) (Al (Cw N (fun _=>rfl)) (Al (rU N (fun _=>rfl)) Dx)) (c:=EV N) (F:=fun ls=>Mf (std (E8 N) N) (xOf ls)) (fun ls=>rfl) (fun ls=>qv (std (E8 N) N) (xOf ls)) h
theorem nR:zzp 33 JR:=vt mix Yy Mn [] g0 rfl (fun _ _=>rfl) fun O x=>by kernel_rfl
theorem QJ:zzp 34 Cz:=vt mix XV LV [] g0 rfl (fun _ _=>rfl) fun O x=>by kernel_rfl
theorem nZ:zzp 14 Mq:=vt mix Yn M8 [(33,JR),(34,Cz)] (gs nR (gs QJ g0)) rfl (fun _ _=>rfl) fun O x=>by kernel_rfl
theorem jc:zzp 35 KM:=vti mix false false [60000] Vs KB [] g0 rfl (fun _ _=>rfl) fun O x=>by kernel_rfl
def Jd:Cfg:={ gam:=[],imm:=false,old:=false }
theorem Qv (O:Alg) (x:Ags O):XF (O:=O) Tryz.prog Jd (CI.ow ⟨37,[38],true,true,[],[]⟩) true [] 37 [38] (xr x E9 0)=CR O x:=by kernel_rfl
theorem Rx {E:Env} {M:Nat} (N:Nat) (h:∀ls,E 37 [38] ls=CS N ls):VV Tryz.prog E M ⟨37,[38],true,true,[],[]⟩ :=
 CZ mix (E:=B7 N) (N:=N) (cfg:=Jd) (ci:=⟨37,[38],true,true,[],[]⟩) (ks:=E9) Dx (c:=CS N) (F:=fun ls=>CR (std (B7 N) N) (xOf ls)) (fun ls=>rfl) (fun ls=>Qv (std (B7 N) N) (xOf ls)) h
theorem aU:zzp 40 HK:=vt mix RN HV [] g0 rfl (fun _ _=>rfl) fun O x=>by kernel_rfl
def XS:Cfg:={ gam:=[⟨13,[],true,true,[],[]⟩,⟨34,[],true,true,[],[]⟩,⟨35,[],true,true,[],[]⟩,⟨37,[38],true,true,[],[]⟩,⟨39,[],true,false,[],[171,9,34,1000055,106,3,46,61,70,40,80,1000080,41,180,90,5,221,4,204,217,96,68,259]⟩,⟨40,[],true,true,[],[]⟩],imm:=false,old:=false,ie:=[60000] }
theorem iH (O:Alg) (x:Ags O):XF (O:=O) Tryz.prog XS (CI.ow ⟨15,[],true,true,[],[]⟩) true [] 15 [] (xr x P3 0)=Ig O x:=by kernel_rfl
theorem jj:zzp 15 H7:=fun N h =>
 CZ mix (E:=Bf N) (N:=N) (cfg:=XS) (ci:=⟨15,[],true,true,[],[]⟩) (ks:=P3) (Al (WR N (fun _=>rfl)) (Al (QJ N (fun _=>rfl)) (Al (jc N (fun _=>rfl)) (Al (Rx N (fun _=>rfl)) (Al (YV N (fun _=>rfl)) (Al (aU N (fun _=>rfl)) Dx)))))) (c:=H7 N) (F:=fun ls=>Ig (std (Bf N) N) (xOf ls)) (fun ls=>rfl) (fun ls=>iH (std (Bf N) N) (xOf ls)) h
theorem eB:zzp 45 JB:=vt mix TH I7 [] g0 rfl (fun _ _=>rfl) fun O x=>by kernel_rfl
def SN:Cfg:={ gam:=[⟨13,[],true,true,[],[]⟩,⟨34,[],true,true,[],[]⟩,⟨39,[],true,false,[],[171,9,34,1000055,106,3,46,61,70,40,80,1000080,41,180,90,5,221,4,204,217,96,68,259]⟩,⟨45,[],true,true,[],[]⟩],imm:=false,old:=false,ie:=[60001] }
theorem Ze (O:Alg) (x:Ags O):XF (O:=O) Tryz.prog SN (CI.ow ⟨16,[],true,true,[],[]⟩) true [] 16 [] (xr x MO 0)=FV O x:=by kernel_rfl
theorem dD:zzp 16 FH:=fun N h =>
 CZ mix (E:=Bg N) (N:=N) (cfg:=SN) (ci:=⟨16,[],true,true,[],[]⟩) (ks:=MO) (Al (WR N (fun _=>rfl)) (Al (QJ N (fun _=>rfl)) (Al (YV N (fun _=>rfl)) (Al (eB N (fun _=>rfl)) Dx)))) (c:=FH N) (F:=fun ls=>FV (std (Bg N) N) (xOf ls)) (fun ls=>rfl) (fun ls=>Ze (std (Bg N) N) (xOf ls)) h
theorem XE:zzp 46 DY:=fun N h =>
 EW mix (nw:=true) (T:=25) (e:=9) (b:=16) Tryz.func46 Tryz.underlying25 (by kernel_rfl) (by decide) (fun O l=>by kernel_rfl) (fun O l=>by kernel_rfl) h
theorem Uo {E:Env} {M:Nat} (N:Nat) (h:∀ls,E 48 [] ls=EB N ls):VV Tryz.prog E M ⟨48,[],true,false,[],[]⟩ :=
 EW mix (nw:=false) (T:=37) (e:=46) (b:=24) Tryz.func48 Tryz.underlying37 (by kernel_rfl) (by decide) (fun O l=>by kernel_rfl) (fun O l=>by kernel_rfl) h
theorem UF {E:Env} {M:Nat} (N:Nat) (h:∀ls,E 49 [] ls=Dn N ls):VV Tryz.prog E M ⟨49,[],true,false,[],[]⟩ :=
 EW mix (nw:=false) (T:=38) (e:=61) (b:=24) Tryz.func49 Tryz.underlying38 (by kernel_rfl) (by decide) (fun O l=>by kernel_rfl) (fun O l=>by kernel_rfl) h
theorem V0:zzp 50 EU:=fun N h =>
 EW mix (nw:=true) (T:=46) (e:=70) (b:=72) Tryz.func50 Tryz.underlying46 (by kernel_rfl) (by decide) (fun O l=>by kernel_rfl) (fun O l=>by kernel_rfl) h
theorem Uh:zzp 51 EA:=fun N h =>
 EW mix (nw:=true) (T:=61) (e:=80) (b:=56) Tryz.func51 Tryz.underlying61 (by kernel_rfl) (by decide) (fun O l=>by kernel_rfl) (fun O l=>by kernel_rfl) h
def U3:Cfg:={ gam:=[⟨46,[],true,true,[],[]⟩,⟨47,[],true,true,[],[]⟩,⟨48,[],true,false,[],[]⟩,⟨49,[],true,false,[],[]⟩,⟨50,[],true,true,[],[]⟩,⟨51,[],true,true,[],[]⟩],imm:=false,old:=false,ie:=[60005,3,9,70,80] }
theorem dz (O:Alg) (x:Ags O):XF (O:=O) Tryz.prog U3 (CI.ow ⟨17,[],false,false,[],[]⟩) false [] 17 [] (xr x OG 0)=HT O x:=by kernel_rfl
theorem Vk {E:Env} {M:Nat} (N:Nat) (h:∀ls,E 17 [] ls=CA N ls):VV Tryz.prog E M ⟨17,[],false,false,[],[]⟩ :=
 CZ mix (E:=BV N) (N:=N) (cfg:=U3) (ci:=⟨17,[],false,false,[],[]⟩) (ks:=OG) (Al (XE N (fun _=>rfl)) (Al (En N (fun _=>rfl)) (Al (Uo N (fun _=>rfl)) (Al (UF N (fun _=>rfl)) (Al (V0 N (fun _=>rfl)) (Al (Uh N (fun _=>rfl)) Dx)))))) (c:=CA N) (F:=fun ls=>HT (std (BV N) N) (xOf ls)) (fun ls=>rfl) (fun ls=>dz (std (BV N) N) (xOf ls)) h
def Wy:Cfg:={ gam:=[⟨12,[],true,true,[],[]⟩,⟨13,[],true,true,[],[]⟩,⟨14,[],true,true,[],[]⟩,⟨15,[],true,true,[],[]⟩,⟨16,[],true,true,[],[]⟩,⟨17,[],false,false,[],[]⟩],imm:=false,old:=false }
theorem jX (O:Alg) (x:Ags O):XF (O:=O) Tryz.prog Wy (CI.ow ⟨6,[],false,false,[],[]⟩) false [] 6 [] (xr x QU 0)=Ia O x:=by kernel_rfl
theorem j0 {E:Env} {M:Nat} (N:Nat) (h:∀ls,E 6 [] ls=EK N ls):VV Tryz.prog E M ⟨6,[],false,false,[],[]⟩ :=
 CZ mix (E:=Be N) (N:=N) (cfg:=Wy) (ci:=⟨6,[],false,false,[],[]⟩) (ks:=QU) (Al (qz N (fun _=>rfl)) (Al (WR N (fun _=>rfl)) (Al (nZ N (fun _=>rfl)) (Al (jj N (fun _=>rfl)) (Al (dD N (fun _=>rfl)) (Al (Vk N (fun _=>rfl)) Dx)))))) (c:=EK N) (F:=fun ls=>Ia (std (Be N) N) (xOf ls)) (fun ls=>rfl) (fun ls=>jX (std (Be N) N) (xOf ls)) h
theorem iX:zzp 8 KG:=vt mix Vl KR [] g0 rfl (fun _ _=>rfl) fun O x=>by kernel_rfl
def MU:Cfg:={ gam:=[],imm:=false,old:=false,ie:=[40,60001,70000],shf:=ABw }
theorem Ug (O:Alg) (x:Ags O):XF (O:=O) Tryz.prog MU (CI.ow ⟨9,[],true,true,[],[]⟩) true [] 9 [] (xr x Hm 0)=DE O x:=by kernel_rfl
theorem Vz:zzp 9 DF:=fun N h =>
 i9 mix (E:=Cr N) (N:=N) (cfg:=MU) (ci:=⟨9,[],true,true,[],[]⟩) (ks:=Hm) Dx ACc (c:=DF N) (F:=fun ls=>DE (std (Cr N) N) (xOf ls)) (fun ls=>rfl) (fun ls=>Ug (std (Cr N) N) (xOf ls)) h
theorem fZ:zzp 24 EL:=vt mix Tu I3 [(31,DA)] (gs Zb g0) rfl (fun _ _=>rfl) fun O x=>by kernel_rfl
theorem fq:zzp 26 GB:=vt mix Tv UU [] g0 rfl (fun _ _=>rfl) fun O x=>by kernel_rfl
theorem W6:zzp 10 DW:=vti mix false true [40] Nd E3 [(24,EL),(26,GB)] (gs fZ (gs fq g0)) rfl (fun _ _=>rfl) fun O x=>by kernel_rfl
theorem WL:zzp 11 EZ:=vti mix false false [40] Mb ET [] g0 rfl (fun _ _=>rfl) fun O x=>by kernel_rfl
theorem XX:zzp 52 Dm:=vt mix Od Fa [(28,Cx),(63,BF)] (gs ZA (gs Kh g0)) rfl (fun _ _=>rfl) fun O x=>by kernel_rfl
def KQ:Cfg:={ gam:=[],imm:=false,old:=false }
theorem Rt (O:Alg) (x:Ags O):XF (O:=O) Tryz.prog KQ (CI.ow ⟨74,[75],true,true,[],[]⟩) true [] 74 [75] (xr x FZ 0)=Ch O x:=by kernel_rfl
theorem Sc {E:Env} {M:Nat} (N:Nat) (h:∀ls,E 74 [75] ls=Bu N ls):VV Tryz.prog E M ⟨74,[75],true,true,[],[]⟩ :=
 CZ mix (E:=CF N) (N:=N) (cfg:=KQ) (ci:=⟨74,[75],true,true,[],[]⟩) (ks:=FZ) Dx (c:=Bu N) (F:=fun ls=>Ch (std (CF N) N) (xOf ls)) (fun ls=>rfl) (fun ls=>Rt (std (CF N) N) (xOf ls)) h
def bG:Cfg:={ gam:=[⟨74,[75],true,true,[],[]⟩],imm:=false,old:=false }
theorem nN (O:Alg) (x:Ags O):XF (O:=O) Tryz.prog bG (CI.ow ⟨53,[],true,true,[],[]⟩) true [] 53 [] (xr x UP 0)=Kl O x:=by kernel_rfl
theorem rh:zzp 53 El:=fun N h =>
 CZ mix (E:=Fv N) (N:=N) (cfg:=bG) (ci:=⟨53,[],true,true,[],[]⟩) (ks:=UP) (Al (Sc N (fun _=>rfl)) Dx) (c:=El N) (F:=fun ls=>Kl (std (Fv N) N) (xOf ls)) (fun ls=>rfl) (fun ls=>nN (std (Fv N) N) (xOf ls)) h
theorem iI:zzp 18 E2:=vt mix Vj J6 [(52,Dm),(53,El)] (gs XX (gs rh g0)) rfl (fun _ _=>rfl) fun O x=>by kernel_rfl
def Og:Cfg:={ gam:=[],imm:=false,old:=true,ie:=[60001],stop:=[9999,9999,9999,9999,9999,9999,9999] }
theorem XM (O:Alg) (x:Ags O):XF (O:=O) Tryz.prog Og (CI.ow ⟨20,[],true,false,[true,false,false],[]⟩) false [true,false,false] 20 [] (xr x Ix 0)=Dk O x:=by kernel_rfl
theorem Xu {E:Env} {M:Nat} (N:Nat) (h:∀ls,E 20 [] ls=CJ N ls):VV Tryz.prog E M ⟨20,[],true,false,[true,false,false],[]⟩ :=
 CZ mix (E:=DL N) (N:=N) (cfg:=Og) (ci:=⟨20,[],true,false,[true,false,false],[]⟩) (ks:=Ix) Dx (c:=CJ N) (F:=fun ls=>Dk (std (DL N) N) (xOf ls)) (fun ls=>rfl) (fun ls=>XM (std (DL N) N) (xOf ls)) h
theorem Wm:zzp 55 E0:=vt mix Nl Ns [] g0 rfl (fun _ _=>rfl) fun O x=>by kernel_rfl
def Hr:Cfg:={ gam:=[⟨55,[],true,true,[],[]⟩],imm:=false,old:=false }
theorem PC (O:Alg) (x:Ags O):XF (O:=O) Tryz.prog Hr (CI.ow ⟨54,[55],true,true,[],[]⟩) true [] 54 [55] (xr x D5 0)=Bx O x:=by kernel_rfl
theorem PW {E:Env} {M:Nat} (N:Nat) (h:∀ls,E 54 [55] ls=Bw N ls):VV Tryz.prog E M ⟨54,[55],true,true,[],[]⟩ :=
 CZ mix (E:=Av N) (N:=N) (cfg:=Hr) (ci:=⟨54,[55],true,true,[],[]⟩) (ks:=D5) (Al (Wm N (fun _=>rfl)) Dx) (c:=Bw N) (F:=fun ls=>Bx (std (Av N) N) (xOf ls)) (fun ls=>rfl) (fun ls=>PC (std (Av N) N) (xOf ls)) h
def Uy:Cfg:={ gam:=[⟨5,[],false,false,[],[]⟩,⟨6,[],false,false,[],[]⟩,⟨8,[],true,true,[],[]⟩,⟨9,[],true,true,[],[]⟩,⟨10,[],true,true,[],[]⟩,⟨11,[],true,true,[],[]⟩,⟨17,[],false,false,[],[]⟩,⟨18,[],true,true,[],[]⟩,⟨20,[],true,false,[true,false,false],[]⟩,⟨54,[55],true,true,[],[]⟩],imm:=false,old:=true,ie:=[60005,3,9,46,61,70,80],stop:=[9999,9999,9999,9999,9999,9999,9999] }
theorem f7 (O:Alg) (x:Ags O):XF (O:=O) Tryz.prog Uy (CI.ow ⟨3,[],true,true,[],[]⟩) true [] 3 [] (xr x O2 0)=G7 O x:=by kernel_rfl
theorem gG:zzp 3 Gx:=fun N h =>
 CZ mix (E:=A3 N) (N:=N) (cfg:=Uy) (ci:=⟨3,[],true,true,[],[]⟩) (ks:=O2) (Al (nG N (fun _=>rfl)) (Al (j0 N (fun _=>rfl)) (Al (iX N (fun _=>rfl)) (Al (Vz N (fun _=>rfl)) (Al (W6 N (fun _=>rfl)) (Al (WL N (fun _=>rfl)) (Al (Vk N (fun _=>rfl)) (Al (iI N (fun _=>rfl)) (Al (Xu N (fun _=>rfl)) (Al (PW N (fun _=>rfl)) Dx)))))))))) (c:=Gx N) (F:=fun ls=>G7 (std (A3 N) N) (xOf ls)) (fun ls=>rfl) (fun ls=>f7 (std (A3 N) N) (xOf ls)) h
end Go.Px
