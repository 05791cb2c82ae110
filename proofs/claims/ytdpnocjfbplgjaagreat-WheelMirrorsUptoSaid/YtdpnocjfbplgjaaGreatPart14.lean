/- Part 14. -/
import Derived.Test.YtdpnocjfbplgjaaGreatPart07
import Derived.Test.YtdpnocjfbplgjaaGreatProg
import Derived.Test.YtdpnocjfbplgjaaGreatPart08
import Derived.KernelRfl
import Derived.WalkKit
import Derived.Lib.Walk
import Derived.BigCall
import Derived.BigGuard
set_option linter.unusedVariables false
set_option linter.unusedSimpArgs false
namespace Go.Px
open Go.Proofs
set_option maxRecDepth 100000
theorem mix:Tryz.prog.follows .mixedOrders=true:=by kernel_rfl
theorem cu:Vd Tryz.prog 54 JL:=vt mix VH Mk [] g0 rfl (fun _ _=>rfl) fun O x=>by kernel_rfl
theorem QC:Vd Tryz.prog 73 CB:=vt mix P6 QF [] g0 rfl (fun _ _=>rfl) fun O x=>by kernel_rfl
theorem Xm:Vd Tryz.prog 55 Ey:=vt mix P7 Hk [(73,CB)] (gs QC g0) rfl (fun _ _=>rfl) fun O x=>by kernel_rfl
theorem Ye:Vd Tryz.prog 56 GM:=vt mix RS Ic [(73,CB)] (gs QC g0) rfl (fun _ _=>rfl) fun O x=>by kernel_rfl
theorem CN:Vd Tryz.prog 40 AM:=vt mix Sf Jr [(54,JL),(55,Ey),(56,GM)] (gs cu (gs Xm (gs Ye g0))) rfl (fun _ _=>rfl) fun O x=>by kernel_rfl
theorem SP:Vd Tryz.prog 74 Ce:=fun N h =>
 Mm mix (T:=22) (e:=116) (b:=24) Tryz.func74 Tryz.underlying22 (by kernel_rfl) (by decide) (fun O l=>by kernel_rfl) (fun O l=>by kernel_rfl) h
theorem Sv:Vd Tryz.prog 58 Cq:=vt mix SY Jh [(74,Ce)] (gs SP g0) rfl (fun _ _=>rfl) fun O x=>by kernel_rfl
theorem cq:Vd Tryz.prog 46 Mj:=vt mix VT MZ [(40,AM),(58,Cq)] (gs CN (gs Sv g0)) rfl (fun _ _=>rfl) fun O x=>by kernel_rfl
theorem Dl:Vd Tryz.prog 115 Af:=vt mix Nt Nm [] g0 rfl (fun _ _=>rfl) fun O x=>by kernel_rfl
theorem Us:Vd Tryz.prog 116 Dr:=vt mix N7 Fc [(115,Af)] (gs Dl g0) rfl (fun _ _=>rfl) fun O x=>by kernel_rfl
theorem T6:Vd Tryz.prog 158 C9:=vt mix Mt Et [] g0 rfl (fun _ _=>rfl) fun O x=>by kernel_rfl
theorem Fq:Vd Tryz.prog 136 Ai:=vt mix KE DP [(158,C9)] (gs T6 g0) rfl (fun _ _=>rfl) fun O x=>by kernel_rfl
theorem TH:Vd Tryz.prog 117 Cw:=vt mix Lo EV [(115,Af),(136,Ai)] (gs Dl (gs Fq g0)) rfl (fun _ _=>rfl) fun O x=>by kernel_rfl
theorem TG:Vd Tryz.prog 138 Cz:=vt mix Ll EU [(115,Af)] (gs Dl g0) rfl (fun _ _=>rfl) fun O x=>by kernel_rfl
theorem Uv:Vd Tryz.prog 118 Di:=vt mix N2 Fi [(138,Cz)] (gs TG g0) rfl (fun _ _=>rfl) fun O x=>by kernel_rfl
theorem Km:Vd Tryz.prog 93 A8:=vt mix QJ Hf [(40,AM),(115,Af),(116,Dr),(117,Cw),(118,Di)] (gs CN (gs Dl (gs Us (gs TH (gs Uv g0))))) rfl (fun _ _=>rfl) fun O x=>by kernel_rfl
theorem Jp:Vd Tryz.prog 101 BA:=vt mix Sj Jc [] g0 rfl (fun _ _=>rfl) fun O x=>by kernel_rfl
theorem Se:Vd Tryz.prog 94 Ck:=vt mix Sh JV [(101,BA)] (gs Jp g0) rfl (fun _ _=>rfl) fun O x=>by kernel_rfl
theorem ZQ:Vd Tryz.prog 95 HC:=vt mix S7 Jm [] g0 rfl (fun _ _=>rfl) fun O x=>by kernel_rfl
theorem S8:Vd Tryz.prog 75 Cr:=vt mix S5 Jk [(40,AM),(93,A8),(94,Ck),(95,HC)] (gs CN (gs Km (gs Se (gs ZQ g0)))) rfl (fun _ _=>rfl) fun O x=>by kernel_rfl
theorem YH:Vd Tryz.prog 96 GG:=vt mix Re Ie [] g0 rfl (fun _ _=>rfl) fun O x=>by kernel_rfl
theorem Xb:Vd Tryz.prog 97 FL:=vt mix QX K6 [] g0 rfl (fun _ _=>rfl) fun O x=>by kernel_rfl
open Go.RowKit Go.Lib in
set_option maxHeartbeats 1000000 in
theorem OC (s:ByteArray) (c:Int) (w:World):Calls Tryz.prog 139 #[.string s,.int .u8 c] w fun e w'=>e=.returned (.int .i64 (Lib.indexByte s.data.toList c.toNat.toUInt8))∧w'=w:=by
 go_enter Tryz.func139,Tryz.ntmps139
 go_wp2
 rw [run_callFunc_extern Tryz.func160 (by kernel_rfl) (by kernel_rfl) (by kernel_rfl) (e:=Extern.BytealgIndexByte.indexByte) (by kernel_rfl),Lib.run_indexByteString]
 simp only [Result.andThen]
 rw [Oper.upon_value]
 go_wp2
 go_ret
 exact ⟨rfl,rfl⟩
theorem Pk:Vd Tryz.prog 139 B6:=fun N h =>
 cc Tryz.func139 (T9:=9) (T5:=5) (T3:=3) rfl rfl Tryz.underlying9 Tryz.underlying5 Tryz.underlying3 (by kernel_rfl) OC h
theorem TA:Vd Tryz.prog 119 C1:=vt mix Lm EW [(139,B6)] (gs Pk g0) rfl (fun _ _=>rfl) fun O x=>by kernel_rfl
theorem ZU:Vd Tryz.prog 120 El:=vt mix Sb Sp [] g0 rfl (fun _ _=>rfl) fun O x=>by kernel_rfl
theorem aw:Vd Tryz.prog 98 H8:=vt mix Tq K1 [(119,C1),(120,El)] (gs TA (gs ZU g0)) rfl (fun _ _=>rfl) fun O x=>by kernel_rfl
theorem TU:Vd Tryz.prog 121 DA:=vt mix NI Hs [] g0 rfl (fun _ _=>rfl) fun O x=>by kernel_rfl
theorem WA:Vd Tryz.prog 99 EB:=vt mix Pb GZ [(121,DA)] (gs TU g0) rfl (fun _ _=>rfl) fun O x=>by kernel_rfl
theorem SZ:Vd Tryz.prog 76 Cp:=vt mix Sg G7 [(96,GG),(97,FL),(98,H8),(99,EB)] (gs YH (gs Xb (gs aw (gs WA g0)))) rfl (fun _ _=>rfl) fun O x=>by kernel_rfl
theorem DU:Vd Tryz.prog 122 AN:=fun N h =>
 Mm mix (T:=106) (e:=156) (b:=1) Tryz.func122 Tryz.underlying106 (by kernel_rfl) (by decide) (fun O l=>by kernel_rfl) (fun O l=>by kernel_rfl) h
theorem E8:Vd Tryz.prog 123 AZ:=fun N h =>
 Mm mix (T:=30) (e:=3) (b:=8) Tryz.func123 Tryz.underlying30 (by kernel_rfl) (by decide) (fun O l=>by kernel_rfl) (fun O l=>by kernel_rfl) h
theorem ET:Vd Tryz.prog 124 AU:=fun N h =>
 Mm mix (T:=107) (e:=4) (b:=1) Tryz.func124 Tryz.underlying107 (by kernel_rfl) (by decide) (fun O l=>by kernel_rfl) (fun O l=>by kernel_rfl) h
theorem CA:Vd Tryz.prog 100 AL:=vt mix P3 Hc [(122,AN),(123,AZ),(124,AU)] (gs DU (gs E8 (gs ET g0))) rfl (fun _ _=>rfl) fun O x=>by kernel_rfl
theorem ZK:Vd Tryz.prog 77 Gw:=vt mix Sd Jt [(58,Cq),(100,AL)] (gs Sv (gs CA g0)) rfl (fun _ _=>rfl) fun O x=>by kernel_rfl
theorem NS:Vd Tryz.prog 105 Be:=vt mix S4 Jn [] g0 rfl (fun _ _=>rfl) fun O x=>by kernel_rfl
theorem NE:Vd Tryz.prog 128 BU:=vt mix Mw FM [] g0 rfl (fun _ _=>rfl) fun O x=>by kernel_rfl
theorem Xd:Vd Tryz.prog 106 FC:=vt mix QS Hg [(75,Cr),(101,BA),(105,Be),(128,BU)] (gs S8 (gs Jp (gs NS (gs NE g0)))) rfl (fun _ _=>rfl) fun O x=>by kernel_rfl
theorem W4:Vd Tryz.prog 125 FH:=vt mix QE Hm [(40,AM),(115,Af)] (gs CN (gs Dl g0)) rfl (fun _ _=>rfl) fun O x=>by kernel_rfl
theorem X6:Vd Tryz.prog 126 GE:=vt mix RW IZ [(101,BA),(105,Be)] (gs Jp (gs NS g0)) rfl (fun _ _=>rfl) fun O x=>by kernel_rfl
theorem U5:Vd Tryz.prog 162 De:=vt mix Nq Iy [] g0 rfl (fun _ _=>rfl) fun O x=>by kernel_rfl
theorem Wi:Vd Tryz.prog 140 Ez:=vt mix QG HZ [(162,De)] (gs U5 g0) rfl (fun _ _=>rfl) fun O x=>by kernel_rfl
theorem Fw:Vd Tryz.prog 192 Aq:=vt mix Tx Kt [(122,AN),(123,AZ),(124,AU)] (gs DU (gs E8 (gs ET g0))) rfl (fun _ _=>rfl) fun O x=>by kernel_rfl
theorem Vk:Vd Tryz.prog 214 CT:=vt mix PB Jy [] g0 rfl (fun _ _=>rfl) fun O x=>by kernel_rfl
theorem RV:Vd Tryz.prog 193 Bi:=vt mix Rd D4 [(214,CT)] (gs Vk g0) rfl (fun _ _=>rfl) fun O x=>by kernel_rfl
theorem F5:Vd Tryz.prog 194 Ap:=vt mix Rb Ia [] g0 rfl (fun _ _=>rfl) fun O x=>by kernel_rfl
theorem ZI:Vd Tryz.prog 163 G9:=vt mix SX Jl [(192,Aq),(193,Bi),(194,Ap)] (gs Fw (gs RV (gs F5 g0))) rfl (fun _ _=>rfl) fun O x=>by kernel_rfl
theorem Qz:Vd Tryz.prog 195 CJ:=vt mix VG Md [(122,AN),(123,AZ),(124,AU)] (gs DU (gs E8 (gs ET g0))) rfl (fun _ _=>rfl) fun O x=>by kernel_rfl
theorem NQ:Vd Tryz.prog 215 Bd:=vt mix Sy Jj [] g0 rfl (fun _ _=>rfl) fun O x=>by kernel_rfl
theorem bn:Vd Tryz.prog 216 IE:=vt mix TZ Ki [(40,AM),(215,Bd)] (gs CN (gs NQ g0)) rfl (fun _ _=>rfl) fun O x=>by kernel_rfl
theorem cg:Vd Tryz.prog 196 JE:=vt mix VR Me [(40,AM),(136,Ai),(215,Bd),(216,IE)] (gs CN (gs Fq (gs NQ (gs bn g0)))) rfl (fun _ _=>rfl) fun O x=>by kernel_rfl
theorem aM:Vd Tryz.prog 164 H4:=vt mix UF Kv [(195,CJ),(196,JE)] (gs Qz (gs cg g0)) rfl (fun _ _=>rfl) fun O x=>by kernel_rfl
theorem PL:Vd Tryz.prog 25 Bz:=vt mix PD PS [] g0 rfl (fun _ _=>rfl) fun O x=>by kernel_rfl
theorem TK:Vd Tryz.prog 57 C0:=vt mix Lr ER [] g0 rfl (fun _ _=>rfl) fun O x=>by kernel_rfl
theorem Ow:Vd Tryz.prog 43 B2:=vt mix PK Gn [(57,C0)] (gs TK g0) rfl (fun _ _=>rfl) fun O x=>by kernel_rfl
theorem TJ:Vd Tryz.prog 44 Cx:=vt mix Ln EP [] g0 rfl (fun _ _=>rfl) fun O x=>by kernel_rfl
theorem Nu:Vd Tryz.prog 31 Bl:=vt mix Nl Fe [(43,B2),(44,Cx)] (gs Ow (gs TJ g0)) rfl (fun _ _=>rfl) fun O x=>by kernel_rfl
theorem Kh:Vd Tryz.prog 177 A7:=vt mix Pv DR [(193,Bi)] (gs RV g0) rfl (fun _ _=>rfl) fun O x=>by kernel_rfl
theorem G0:Vd Tryz.prog 204 Au:=vt mix S1 Jf [] g0 rfl (fun _ _=>rfl) fun O x=>by kernel_rfl
theorem Gq:Vd Tryz.prog 205 As:=vt mix O9 GV [(204,Au)] (gs G0 g0) rfl (fun _ _=>rfl) fun O x=>by kernel_rfl
theorem Wl:Vd Tryz.prog 220 E9:=vt mix QO Hh [] g0 rfl (fun _ _=>rfl) fun O x=>by kernel_rfl
theorem ZT:Vd Tryz.prog 217 Gy:=vt mix Sl Je [(204,Au),(205,As),(220,E9)] (gs G0 (gs Gq (gs Wl g0))) rfl (fun _ _=>rfl) fun O x=>by kernel_rfl
theorem N3:Vd Tryz.prog 225 BO:=vt mix Nr N1 [] g0 rfl (fun _ _=>rfl) fun O x=>by kernel_rfl
theorem YF:Vd Tryz.prog 221 Fv:=vt mix RP Ij [(225,BO)] (gs N3 g0) rfl (fun _ _=>rfl) fun O x=>by kernel_rfl
theorem Ty:Vd Tryz.prog 226 DH:=vt mix NG E6 [] g0 rfl (fun _ _=>rfl) fun O x=>by kernel_rfl
theorem Rj:Vd Tryz.prog 222 CW:=vt mix KQ DX [(226,DH)] (gs Ty g0) rfl (fun _ _=>rfl) fun O x=>by kernel_rfl
theorem UJ:Vd Tryz.prog 227 DG:=vt mix M4 Ew [] g0 rfl (fun _ _=>rfl) fun O x=>by kernel_rfl
theorem V6:Vd Tryz.prog 223 EI:=vt mix O1 GX [(225,BO),(227,DG)] (gs N3 (gs UJ g0)) rfl (fun _ _=>rfl) fun O x=>by kernel_rfl
theorem Qs:Vd Tryz.prog 228 CL:=vt mix JA C6 [] g0 rfl (fun _ _=>rfl) fun O x=>by kernel_rfl
theorem SB:Vd Tryz.prog 224 Ch:=vt mix K2 Du [(228,CL)] (gs Qs g0) rfl (fun _ _=>rfl) fun O x=>by kernel_rfl
theorem SE:Vd Tryz.prog 218 Cb:=vt mix K9 Ds [(221,Fv),(222,CW),(223,EI),(224,Ch)] (gs YF (gs Rj (gs V6 (gs SB g0)))) rfl (fun _ _=>rfl) fun O x=>by kernel_rfl
theorem ZF:Vd Tryz.prog 219 Gu:=vt mix Sc JX [(204,Au),(205,As)] (gs G0 (gs Gq g0)) rfl (fun _ _=>rfl) fun O x=>by kernel_rfl
theorem Uw:Vd Tryz.prog 197 Dn:=vt mix Nw Fl [(43,B2),(177,A7),(217,Gy),(218,Cb),(219,Gu)] (gs Ow (gs Kh (gs ZT (gs SE (gs ZF g0))))) rfl (fun _ _=>rfl) fun O x=>by kernel_rfl
theorem Z1:Vd Tryz.prog 198 H1:=vt mix TT LU [(192,Aq),(194,Ap)] (gs Fw (gs F5 g0)) rfl (fun _ _=>rfl) fun O x=>by kernel_rfl
theorem Zq:Vd Tryz.prog 199 IA:=vt mix Tw LN [(40,AM),(136,Ai),(195,CJ),(215,Bd)] (gs CN (gs Fq (gs Qz (gs NQ g0)))) rfl (fun _ _=>rfl) fun O x=>by kernel_rfl
theorem XP:Vd Tryz.prog 200 E2:=vt mix Qc Ha [(192,Aq)] (gs Fw g0) rfl (fun _ _=>rfl) fun O x=>by kernel_rfl
theorem YT:Vd Tryz.prog 165 GB:=vt mix RN Iv [(25,Bz),(31,Bl),(100,AL),(197,Dn),(198,H1),(199,IA),(200,E2)] (gs PL (gs Nu (gs CA (gs Uw (gs Z1 (gs Zq (gs XP g0))))))) rfl (fun _ _=>rfl) fun O x=>by kernel_rfl
theorem UY:Vd Tryz.prog 201 DB:=vt mix T2 K3 [(177,A7),(194,Ap)] (gs Kh (gs F5 g0)) rfl (fun _ _=>rfl) fun O x=>by kernel_rfl
theorem WK:Vd Tryz.prog 166 EC:=vt mix PT Gk [(192,Aq),(194,Ap),(201,DB)] (gs Fw (gs F5 (gs UY g0))) rfl (fun _ _=>rfl) fun O x=>by kernel_rfl
theorem Yc:Vd Tryz.prog 167 Fp:=vt mix Rl Iq [(192,Aq),(201,DB)] (gs Fw (gs UY g0)) rfl (fun _ _=>rfl) fun O x=>by kernel_rfl
theorem Si:Vd Tryz.prog 178 CR:=vt mix Su Ej [] g0 rfl (fun _ _=>rfl) fun O x=>by kernel_rfl
theorem Xr:Vd Tryz.prog 168 E0:=vt mix QK Hi [(178,CR),(192,Aq),(194,Ap)] (gs Si (gs Fw (gs F5 g0))) rfl (fun _ _=>rfl) fun O x=>by kernel_rfl
theorem Qo:Vd Tryz.prog 203 CM:=vt mix Vh Mn [(122,AN),(123,AZ),(124,AU)] (gs DU (gs E8 (gs ET g0))) rfl (fun _ _=>rfl) fun O x=>by kernel_rfl
theorem Wx:Vd Tryz.prog 169 FD:=vt mix Py Hj [(203,CM)] (gs Qo g0) rfl (fun _ _=>rfl) fun O x=>by kernel_rfl
theorem Yg:Vd Tryz.prog 170 Fo:=vt mix Rk Id [(203,CM),(204,Au),(205,As)] (gs Qo (gs G0 (gs Gq g0))) rfl (fun _ _=>rfl) fun O x=>by kernel_rfl
theorem TL:Vd Tryz.prog 171 DN:=vt mix Mv E7 [(203,CM),(204,Au),(205,As)] (gs Qo (gs G0 (gs Gq g0))) rfl (fun _ _=>rfl) fun O x=>by kernel_rfl
theorem Wg:Vd Tryz.prog 172 FG:=vt mix QR HY [(40,AM),(195,CJ)] (gs CN (gs Qz g0)) rfl (fun _ _=>rfl) fun O x=>by kernel_rfl
theorem Uy:Vd Tryz.prog 173 Dq:=vt mix N5 Ff [(100,AL)] (gs CA g0) rfl (fun _ _=>rfl) fun O x=>by kernel_rfl
theorem Nv:Vd Tryz.prog 143 Bm:=vt mix Nn Fh [(100,AL)] (gs CA g0) rfl (fun _ _=>rfl) fun O x=>by kernel_rfl
theorem Ut:Vd Tryz.prog 174 Dg:=vt mix N0 Fk [(100,AL),(143,Bm)] (gs CA (gs Nv g0)) rfl (fun _ _=>rfl) fun O x=>by kernel_rfl
theorem Vj:Vd Tryz.prog 175 EJ:=vt mix Oy EN [(100,AL)] (gs CA g0) rfl (fun _ _=>rfl) fun O x=>by kernel_rfl
theorem XW:Vd Tryz.prog 206 E5:=vt mix QV QL [] g0 rfl (fun _ _=>rfl) fun O x=>by kernel_rfl
theorem Vl:Vd Tryz.prog 176 EE:=vt mix Oq Gb [(100,AL),(206,E5)] (gs CA (gs XW g0)) rfl (fun _ _=>rfl) fun O x=>by kernel_rfl
theorem U0:Vd Tryz.prog 141 Dj:=vt mix Np Dm [(163,G9),(164,H4),(165,GB),(166,EC),(167,Fp),(168,E0),(169,FD),(170,Fo),(171,DN),(172,FG),(173,Dq),(174,Dg),(175,EJ),(176,EE)] (gs ZI (gs aM (gs YT (gs WK (gs Yc (gs Xr (gs Wx (gs Yg (gs TL (gs Wg (gs Uy (gs Ut (gs Vj (gs Vl g0)))))))))))))) rfl (fun _ _=>rfl) fun O x=>by kernel_rfl
theorem Vm:Vd Tryz.prog 142 C3:=vt mix O8 Gf [(93,A8),(177,A7),(178,CR)] (gs Km (gs Kh (gs Si g0))) rfl (fun _ _=>rfl) fun O x=>by kernel_rfl
theorem Xz:Vd Tryz.prog 127 F1:=vt mix Ra Ir [(76,Cp),(93,A8),(100,AL),(140,Ez),(141,Dj),(142,C3)] (gs SZ (gs Km (gs CA (gs Wi (gs U0 (gs Vm g0)))))) rfl (fun _ _=>rfl) fun O x=>by kernel_rfl
theorem bR:Vd Tryz.prog 59 K7:=vt mix Td LL [(75,Cr),(76,Cp),(77,Gw),(94,Ck),(101,BA),(105,Be),(106,FC),(125,FH),(126,GE),(127,F1),(128,BU),(143,Bm)] (gs S8 (gs SZ (gs ZK (gs Se (gs Jp (gs NS (gs Xd (gs W4 (gs X6 (gs Xz (gs NE (gs Nv g0)))))))))))) rfl (fun _ _=>rfl) fun O x=>by kernel_rfl
def XH:Cfg:={ gam:=[⟨59,[],true,true,[]⟩],imm:=false,old:=false }
theorem cW (O:Alg) (x:Ags O):XF (O:=O) Tryz.prog XH false false [] 47 [] (xr x R1 0)=LP O x:=by kernel_rfl
theorem ee {E:Env} {M:Nat} (N:Nat) (h:∀ ls,E 47 [] ls=LY N ls):VV Tryz.prog E M ⟨47,[],false,false,[]⟩ :=
 KR mix (E:=GF N) (N:=N) (cfg:=XH) (ci:=⟨47,[],false,false,[]⟩) (ks:=R1) (FW (bR N (fun _=>rfl)) RQ) (c:=LY N) (F:=fun ls=>LP (std (GF N) N) (xOf ls)) (fun ls=>rfl) (fun ls=>cW (std (GF N) N) (xOf ls)) h
theorem XK:Vd Tryz.prog 48 Hn:=vt mix Pz Hl [(31,Bl)] (gs Nu g0) rfl (fun _ _=>rfl) fun O x=>by kernel_rfl
def Wk:Cfg:={ gam:=[⟨46,[],true,true,[]⟩,⟨47,[],false,false,[]⟩,⟨48,[],true,true,[]⟩],imm:=false,old:=true,ie:=[116,76,3,47,72,109,156,4,5,139,152,89,60,197] }
theorem cR (O:Alg) (x:Ags O):XF (O:=O) Tryz.prog Wk false false [] 35 [] (xr x Rp 0)=LT O x:=by kernel_rfl
theorem Xe {E:Env} {M:Nat} (N:Nat) (h:∀ ls,E 35 [] ls=Gi N ls):VV Tryz.prog E M ⟨35,[],false,false,[]⟩ :=
 KR mix (E:=DD N) (N:=N) (cfg:=Wk) (ci:=⟨35,[],false,false,[]⟩) (ks:=Rp) (FW (cq N (fun _=>rfl)) (FW (ee N (fun _=>rfl)) (FW (XK N (fun _=>rfl)) RQ))) (c:=Gi N) (F:=fun ls=>LT (std (DD N) N) (xOf ls)) (fun ls=>rfl) (fun ls=>cR (std (DD N) N) (xOf ls)) h
def T8:Cfg:={ gam:=[⟨35,[],false,false,[]⟩],imm:=false,old:=false }
theorem ZO (O:Alg) (x:Ags O):XF (O:=O) Tryz.prog T8 false false [] 41 [] (xr x Pa 0)=H6 O x:=by kernel_rfl
theorem Zn {E:Env} {M:Nat} (N:Nat) (h:∀ ls,E 41 [] ls=Hv N ls):VV Tryz.prog E M ⟨41,[],false,false,[]⟩ :=
 KR mix (E:=D3 N) (N:=N) (cfg:=T8) (ci:=⟨41,[],false,false,[]⟩) (ks:=Pa) (FW (Xe N (fun _=>rfl)) RQ) (c:=Hv N) (F:=fun ls=>H6 (std (D3 N) N) (xOf ls)) (fun ls=>rfl) (fun ls=>ZO (std (D3 N) N) (xOf ls)) h
def VZ:Cfg:={ gam:=[⟨40,[],true,true,[]⟩,⟨41,[],false,false,[]⟩],imm:=false,old:=false }
theorem aH (O:Alg) (x:Ags O):XF (O:=O) Tryz.prog VZ true true [] 27 [] (xr x Qx 0)=JS O x:=by kernel_rfl
theorem cy:Vd Tryz.prog 27 JT:=fun N h =>
 KR mix (E:=DY N) (N:=N) (cfg:=VZ) (ci:=⟨27,[],true,true,[]⟩) (ks:=Qx) (FW (CN N (fun _=>rfl)) (FW (Zn N (fun _=>rfl)) RQ)) (c:=JT N) (F:=fun ls=>JS (std (DY N) N) (xOf ls)) (fun ls=>rfl) (fun ls=>aH (std (DY N) N) (xOf ls)) h
theorem YA:Vd Tryz.prog 29 Ip:=vt mix Q7 IX [] g0 rfl (fun _ _=>rfl) fun O x=>by kernel_rfl
def Sz:Cfg:={ gam:=[⟨27,[],true,true,[]⟩,⟨29,[],true,true,[]⟩,⟨35,[],false,false,[]⟩],imm:=false,old:=false }
theorem YC (O:Alg) (x:Ags O):XF (O:=O) Tryz.prog Sz true true [] 23 [] (xr x NP 0)=G5 O x:=by kernel_rfl
theorem Sa:Vd Tryz.prog 23 CS:=fun N h =>
 KR mix (E:=CC N) (N:=N) (cfg:=Sz) (ci:=⟨23,[],true,true,[]⟩) (ks:=NP) (FW (cy N (fun _=>rfl)) (FW (YA N (fun _=>rfl)) (FW (Xe N (fun _=>rfl)) RQ))) (c:=CS N) (F:=fun ls=>G5 (std (CC N) N) (xOf ls)) (fun ls=>rfl) (fun ls=>YC (std (CC N) N) (xOf ls)) h
theorem ZV:Vd Tryz.prog 9 Eo:=vt mix Sx JZ [(23,CS)] (gs Sa g0) rfl (fun _ _=>rfl) fun O x=>by kernel_rfl
theorem M8:Vd Tryz.prog 11 BV:=vt mix Mx FA [] g0 rfl (fun _ _=>rfl) fun O x=>by kernel_rfl
theorem Rh:Vd Tryz.prog 12 CY:=vt mix Q4 IV [] g0 rfl (fun _ _=>rfl) fun O x=>by kernel_rfl
theorem YL:Vd Tryz.prog 14 D2:=vt mix Q8 IW [(23,CS),(25,Bz)] (gs Sa (gs PL g0)) rfl (fun _ _=>rfl) fun O x=>by kernel_rfl
theorem cZ:Vd Tryz.prog 21 JK:=vt mix VS VU [] g0 rfl (fun _ _=>rfl) fun O x=>by kernel_rfl
theorem cP:Vd Tryz.prog 34 Qy:=vt mix Vc VI [] g0 rfl (fun _ _=>rfl) fun O x=>by kernel_rfl
theorem f8:Vd Tryz.prog 22 Mp:=vt mix Yw Y2 [(34,Qy)] (gs cP g0) rfl (fun _ _=>rfl) fun O x=>by kernel_rfl
theorem cX:Vd Tryz.prog 7 HJ:=vt mix Vb Mh [(9,Eo),(11,BV),(12,CY),(14,D2),(21,JK),(22,Mp)] (gs ZV (gs M8 (gs Rh (gs YL (gs cZ (gs f8 g0)))))) rfl (fun _ _=>rfl) fun O x=>by kernel_rfl
theorem ay:Vd Tryz.prog 13 Hu:=vt mix UV LH [] g0 rfl (fun _ _=>rfl) fun O x=>by kernel_rfl
theorem UT:Vd Tryz.prog 4 FQ:=vt mix Mz FR [(7,HJ),(11,BV),(12,CY),(13,Hu)] (gs cX (gs M8 (gs Rh (gs ay g0)))) rfl (fun _ _=>rfl) fun O x=>by kernel_rfl
end Go.Px
