/- Part 14. -/
import Derived.Test.YtdpnocjfbplgjaaGreatPart07
import Derived.Test.YtdpnocjfbplgjaaGreatProg
import Derived.Test.YtdpnocjfbplgjaaGreatPart08
import Derived.KernelRfl
import Derived.WalkKit
import Derived.Lib.Walk
import Derived.BigCall
import Derived.BigGuard
set_option linter.unusedVariables false
set_option linter.unusedSimpArgs false
namespace Go.Px
open Go.Proofs
set_option maxRecDepth 100000
theorem mix:Tryz.prog.follows .mixedOrders=true:=by kernel_rfl
theorem gW:Vd Tryz.prog 54 KP:=vt mix XX N5 [] g0 rfl (fun _ _=>rfl) fun O x=>by kernel_rfl
theorem RN:Vd Tryz.prog 73 CV:=vt mix R9 Rg [] g0 rfl (fun _ _=>rfl) fun O x=>by kernel_rfl
theorem Zl:Vd Tryz.prog 55 FQ:=vt mix Rw IU [(73,CV)] (gs RN g0) rfl (fun _ _=>rfl) fun O x=>by kernel_rfl
theorem bD:Vd Tryz.prog 56 Gu:=vt mix TG Jm [(73,CV)] (gs RN g0) rfl (fun _ _=>rfl) fun O x=>by kernel_rfl
theorem Cm:Vd Tryz.prog 40 AP:=vt mix Ug Ke [(54,KP),(55,FQ),(56,Gu)] (gs gW (gs Zl (gs bD g0))) rfl (fun _ _=>rfl) fun O x=>by kernel_rfl
theorem T7:Vd Tryz.prog 74 Cz:=fun N h =>
 N1 mix (T:=22) (e:=116) (b:=24) Tryz.func74 Tryz.underlying22 (by kernel_rfl) (by decide) (fun O l=>by kernel_rfl) (fun O l=>by kernel_rfl) h
theorem UW:Vd Tryz.prog 58 DC:=vt mix Uw Kl [(74,Cz)] (gs T7 g0) rfl (fun _ _=>rfl) fun O x=>by kernel_rfl
theorem gp:Vd Tryz.prog 46 N2:=vt mix XP N3 [(40,AP),(58,DC)] (gs Cm (gs UW g0)) rfl (fun _ _=>rfl) fun O x=>by kernel_rfl
theorem EG:Vd Tryz.prog 115 Ai:=vt mix PA PM [] g0 rfl (fun _ _=>rfl) fun O x=>by kernel_rfl
theorem W8:Vd Tryz.prog 116 EF:=vt mix PU GF [(115,Ai)] (gs EG g0) rfl (fun _ _=>rfl) fun O x=>by kernel_rfl
theorem VS:Vd Tryz.prog 158 DW:=vt mix Oe Fy [] g0 rfl (fun _ _=>rfl) fun O x=>by kernel_rfl
theorem Ge:Vd Tryz.prog 136 Am:=vt mix LS Dr [(158,DW)] (gs VS g0) rfl (fun _ _=>rfl) fun O x=>by kernel_rfl
theorem U7:Vd Tryz.prog 117 DN:=vt mix Mu Es [(115,Ai),(136,Am)] (gs EG (gs Ge g0)) rfl (fun _ _=>rfl) fun O x=>by kernel_rfl
theorem VB:Vd Tryz.prog 138 DI:=vt mix Mt Ew [(115,Ai)] (gs EG g0) rfl (fun _ _=>rfl) fun O x=>by kernel_rfl
theorem W0:Vd Tryz.prog 118 D4:=vt mix PQ GB [(138,DI)] (gs VB g0) rfl (fun _ _=>rfl) fun O x=>by kernel_rfl
theorem MD:Vd Tryz.prog 93 BO:=vt mix R1 IE [(40,AP),(115,Ai),(116,EF),(117,DN),(118,D4)] (gs Cm (gs EG (gs W8 (gs U7 (gs W0 g0))))) rfl (fun _ _=>rfl) fun O x=>by kernel_rfl
theorem Kn:Vd Tryz.prog 101 BL:=vt mix Un Kc [] g0 rfl (fun _ _=>rfl) fun O x=>by kernel_rfl
theorem Ux:Vd Tryz.prog 94 C8:=vt mix Ul Kd [(101,BL)] (gs Kn g0) rfl (fun _ _=>rfl) fun O x=>by kernel_rfl
theorem cU:Vd Tryz.prog 95 Hh:=vt mix UR KU [] g0 rfl (fun _ _=>rfl) fun O x=>by kernel_rfl
theorem UT:Vd Tryz.prog 75 C9:=vt mix U5 Kp [(40,AP),(93,BO),(94,C8),(95,Hh)] (gs Cm (gs MD (gs Ux (gs cU g0)))) rfl (fun _ _=>rfl) fun O x=>by kernel_rfl
theorem aN:Vd Tryz.prog 96 GV:=vt mix TW JI [] g0 rfl (fun _ _=>rfl) fun O x=>by kernel_rfl
theorem Zq:Vd Tryz.prog 97 FW:=vt mix R5 Me [] g0 rfl (fun _ _=>rfl) fun O x=>by kernel_rfl
open Go.RowKit Go.Lib in
set_option maxHeartbeats 1000000 in
theorem PZ (s:ByteArray) (c:Int) (w:World):Calls Tryz.prog 139 #[.string s,.int .u8 c] w fun e w'=>e=.returned (.int .i64 (Lib.indexByte s.data.toList c.toNat.toUInt8))∧w'=w:=by
 go_enter Tryz.func139,Tryz.ntmps139
 go_wp2
 rw [run_callFunc_extern Tryz.func160 (by kernel_rfl) (by kernel_rfl) (by kernel_rfl) (e:=Extern.BytealgIndexByte.indexByte) (by kernel_rfl),Lib.run_indexByteString]
 simp only [Result.andThen]
 rw [Oper.upon_value]
 go_wp2
 go_ret
 exact ⟨rfl,rfl⟩
theorem Q6:Vd Tryz.prog 139 CR:=fun N h =>
 gq Tryz.func139 (T9:=9) (T5:=5) (T3:=3) rfl rfl Tryz.underlying9 Tryz.underlying5 Tryz.underlying3 (by kernel_rfl) PZ h
theorem VG:Vd Tryz.prog 119 DL:=vt mix My Ey [(139,CR)] (gs Q6 g0) rfl (fun _ _=>rfl) fun O x=>by kernel_rfl
theorem ct:Vd Tryz.prog 120 FE:=vt mix U1 Uf [] g0 rfl (fun _ _=>rfl) fun O x=>by kernel_rfl
theorem fQ:Vd Tryz.prog 98 Is:=vt mix Vo L1 [(119,DL),(120,FE)] (gs VG (gs ct g0)) rfl (fun _ _=>rfl) fun O x=>by kernel_rfl
theorem WT:Vd Tryz.prog 121 Dd:=vt mix OB JD [] g0 rfl (fun _ _=>rfl) fun O x=>by kernel_rfl
theorem X2:Vd Tryz.prog 99 Ep:=vt mix Qk HR [(121,Dd)] (gs WT g0) rfl (fun _ _=>rfl) fun O x=>by kernel_rfl
theorem Ue:Vd Tryz.prog 76 DA:=vt mix Uq Hr [(96,GV),(97,FW),(98,Is),(99,Ep)] (gs aN (gs Zq (gs fQ (gs X2 g0)))) rfl (fun _ _=>rfl) fun O x=>by kernel_rfl
theorem Dm:Vd Tryz.prog 122 AR:=fun N h =>
 N1 mix (T:=106) (e:=156) (b:=1) Tryz.func122 Tryz.underlying106 (by kernel_rfl) (by decide) (fun O l=>by kernel_rfl) (fun O l=>by kernel_rfl) h
theorem Fp:Vd Tryz.prog 123 Ae:=fun N h =>
 N1 mix (T:=30) (e:=3) (b:=8) Tryz.func123 Tryz.underlying30 (by kernel_rfl) (by decide) (fun O l=>by kernel_rfl) (fun O l=>by kernel_rfl) h
theorem E1:Vd Tryz.prog 124 Aa:=fun N h =>
 N1 mix (T:=107) (e:=4) (b:=1) Tryz.func124 Tryz.underlying107 (by kernel_rfl) (by decide) (fun O l=>by kernel_rfl) (fun O l=>by kernel_rfl) h
theorem CX:Vd Tryz.prog 100 AN:=vt mix Rb IQ [(122,AR),(123,Ae),(124,Aa)] (gs Dm (gs Fp (gs E1 g0))) rfl (fun _ _=>rfl) fun O x=>by kernel_rfl
theorem cM:Vd Tryz.prog 77 Hg:=vt mix UZ KR [(58,DC),(100,AN)] (gs UW (gs CX g0)) rfl (fun _ _=>rfl) fun O x=>by kernel_rfl
theorem O2:Vd Tryz.prog 105 B0:=vt mix Uy KX [] g0 rfl (fun _ _=>rfl) fun O x=>by kernel_rfl
theorem Og:Vd Tryz.prog 128 Bq:=vt mix OI FX [] g0 rfl (fun _ _=>rfl) fun O x=>by kernel_rfl
theorem Yg:Vd Tryz.prog 106 FL:=vt mix Rj Ic [(75,C9),(101,BL),(105,B0),(128,Bq)] (gs UT (gs Kn (gs O2 (gs Og g0)))) rfl (fun _ _=>rfl) fun O x=>by kernel_rfl
theorem Zu:Vd Tryz.prog 125 Ft:=vt mix RI II [(40,AP),(115,Ai)] (gs Cm (gs EG g0)) rfl (fun _ _=>rfl) fun O x=>by kernel_rfl
theorem bI:Vd Tryz.prog 126 Gi:=vt mix TH Jf [(101,BL),(105,B0)] (gs Kn (gs O2 g0)) rfl (fun _ _=>rfl) fun O x=>by kernel_rfl
theorem XB:Vd Tryz.prog 162 EJ:=vt mix PO Js [] g0 rfl (fun _ _=>rfl) fun O x=>by kernel_rfl
theorem Ze:Vd Tryz.prog 140 FM:=vt mix RW IJ [(162,EJ)] (gs XB g0) rfl (fun _ _=>rfl) fun O x=>by kernel_rfl
theorem GQ:Vd Tryz.prog 192 Ay:=vt mix Vy MZ [(122,AR),(123,Ae),(124,Aa)] (gs Dm (gs Fp (gs E1 g0))) rfl (fun _ _=>rfl) fun O x=>by kernel_rfl
theorem X9:Vd Tryz.prog 214 Cp:=vt mix P9 LF [] g0 rfl (fun _ _=>rfl) fun O x=>by kernel_rfl
theorem Sw:Vd Tryz.prog 193 B7:=vt mix TE EW [(214,Cp)] (gs X9 g0) rfl (fun _ _=>rfl) fun O x=>by kernel_rfl
theorem Gr:Vd Tryz.prog 194 Ax:=vt mix Sm JR [] g0 rfl (fun _ _=>rfl) fun O x=>by kernel_rfl
theorem cm:Vd Tryz.prog 163 Hs:=vt mix Ut Ks [(192,Ay),(193,B7),(194,Ax)] (gs GQ (gs Sw (gs Gr g0))) rfl (fun _ _=>rfl) fun O x=>by kernel_rfl
theorem SP:Vd Tryz.prog 195 Ci:=vt mix XC Nu [(122,AR),(123,Ae),(124,Aa)] (gs Dm (gs Fp (gs E1 g0))) rfl (fun _ _=>rfl) fun O x=>by kernel_rfl
theorem Ot:Vd Tryz.prog 215 Bz:=vt mix Ud KY [] g0 rfl (fun _ _=>rfl) fun O x=>by kernel_rfl
theorem da:Vd Tryz.prog 216 JF:=vt mix V2 Mh [(40,AP),(215,Bz)] (gs Cm (gs Ot g0)) rfl (fun _ _=>rfl) fun O x=>by kernel_rfl
theorem gr:Vd Tryz.prog 196 KJ:=vt mix XW Nm [(40,AP),(136,Am),(215,Bz),(216,JF)] (gs Cm (gs Ge (gs Ot (gs da g0)))) rfl (fun _ _=>rfl) fun O x=>by kernel_rfl
theorem fX:Vd Tryz.prog 164 Iz:=vt mix Vw Mf [(195,Ci),(196,KJ)] (gs SP (gs gr g0)) rfl (fun _ _=>rfl) fun O x=>by kernel_rfl
theorem K7:Vd Tryz.prog 25 BR:=vt mix Qy Qf [] g0 rfl (fun _ _=>rfl) fun O x=>by kernel_rfl
theorem VC:Vd Tryz.prog 57 DM:=vt mix Mv Eu [] g0 rfl (fun _ _=>rfl) fun O x=>by kernel_rfl
theorem QN:Vd Tryz.prog 43 CK:=vt mix QY HK [(57,DM)] (gs VC g0) rfl (fun _ _=>rfl) fun O x=>by kernel_rfl
theorem U9:Vd Tryz.prog 44 DJ:=vt mix Mr E0 [] g0 rfl (fun _ _=>rfl) fun O x=>by kernel_rfl
theorem GM:Vd Tryz.prog 31 Aw:=vt mix PI GN [(43,CK),(44,DJ)] (gs QN (gs U9 g0)) rfl (fun _ _=>rfl) fun O x=>by kernel_rfl
theorem Lu:Vd Tryz.prog 177 BN:=vt mix Ry Dl [(193,B7)] (gs Sw g0) rfl (fun _ _=>rfl) fun O x=>by kernel_rfl
theorem Hp:Vd Tryz.prog 204 A2:=vt mix UV Kt [] g0 rfl (fun _ _=>rfl) fun O x=>by kernel_rfl
theorem HM:Vd Tryz.prog 205 A1:=vt mix Qu HI [(204,A2)] (gs Hp g0) rfl (fun _ _=>rfl) fun O x=>by kernel_rfl
theorem Y7:Vd Tryz.prog 220 Fb:=vt mix R2 IW [] g0 rfl (fun _ _=>rfl) fun O x=>by kernel_rfl
theorem cw:Vd Tryz.prog 217 Hb:=vt mix UU Ko [(204,A2),(205,A1),(220,Fb)] (gs Hp (gs HM (gs Y7 g0))) rfl (fun _ _=>rfl) fun O x=>by kernel_rfl
theorem PF:Vd Tryz.prog 225 Bj:=vt mix PH PN [] g0 rfl (fun _ _=>rfl) fun O x=>by kernel_rfl
theorem bH:Vd Tryz.prog 221 G0:=vt mix S9 JV [(225,Bj)] (gs PF g0) rfl (fun _ _=>rfl) fun O x=>by kernel_rfl
theorem Vl:Vd Tryz.prog 226 Dc:=vt mix OX Fx [] g0 rfl (fun _ _=>rfl) fun O x=>by kernel_rfl
theorem S4:Vd Tryz.prog 222 Cr:=vt mix LO Dn [(226,Dc)] (gs Vl g0) rfl (fun _ _=>rfl) fun O x=>by kernel_rfl
theorem Vu:Vd Tryz.prog 227 DX:=vt mix OT Fm [] g0 rfl (fun _ _=>rfl) fun O x=>by kernel_rfl
theorem Xu:Vd Tryz.prog 223 Ek:=vt mix QW HX [(225,Bj),(227,DX)] (gs PF (gs Vu g0)) rfl (fun _ _=>rfl) fun O x=>by kernel_rfl
theorem SM:Vd Tryz.prog 228 Ch:=vt mix KH DT [] g0 rfl (fun _ _=>rfl) fun O x=>by kernel_rfl
theorem Tv:Vd Tryz.prog 224 C1:=vt mix MJ EL [(228,Ch)] (gs SM g0) rfl (fun _ _=>rfl) fun O x=>by kernel_rfl
theorem Th:Vd Tryz.prog 218 C3:=vt mix L2 EN [(221,G0),(222,Cr),(223,Ek),(224,C1)] (gs bH (gs S4 (gs Xu (gs Tv g0)))) rfl (fun _ _=>rfl) fun O x=>by kernel_rfl
theorem cZ:Vd Tryz.prog 219 He:=vt mix Ui Ki [(204,A2),(205,A1)] (gs Hp (gs HM g0)) rfl (fun _ _=>rfl) fun O x=>by kernel_rfl
theorem W5:Vd Tryz.prog 197 D3:=vt mix PB F9 [(43,CK),(177,BN),(217,Hb),(218,C3),(219,He)] (gs QN (gs Lu (gs cw (gs Th (gs cZ g0))))) rfl (fun _ _=>rfl) fun O x=>by kernel_rfl
theorem eV:Vd Tryz.prog 198 I8:=vt mix V9 ML [(192,Ay),(194,Ax)] (gs GQ (gs Gr g0)) rfl (fun _ _=>rfl) fun O x=>by kernel_rfl
theorem fw:Vd Tryz.prog 199 Ir:=vt mix Vi MP [(40,AP),(136,Am),(195,Ci),(215,Bz)] (gs Cm (gs Ge (gs SP (gs Ot g0)))) rfl (fun _ _=>rfl) fun O x=>by kernel_rfl
theorem ZV:Vd Tryz.prog 200 FV:=vt mix Ri Ib [(192,Ay)] (gs GQ g0) rfl (fun _ _=>rfl) fun O x=>by kernel_rfl
theorem aG:Vd Tryz.prog 165 GU:=vt mix Sp Jc [(25,BR),(31,Aw),(100,AN),(197,D3),(198,I8),(199,Ir),(200,FV)] (gs K7 (gs GM (gs CX (gs W5 (gs eV (gs fw (gs ZV g0))))))) rfl (fun _ _=>rfl) fun O x=>by kernel_rfl
theorem V5:Vd Tryz.prog 201 Da:=vt mix WB MW [(177,BN),(194,Ax)] (gs Lu (gs Gr g0)) rfl (fun _ _=>rfl) fun O x=>by kernel_rfl
theorem Xp:Vd Tryz.prog 166 Er:=vt mix Qj HN [(192,Ay),(194,Ax),(201,Da)] (gs GQ (gs Gr (gs V5 g0))) rfl (fun _ _=>rfl) fun O x=>by kernel_rfl
theorem aB:Vd Tryz.prog 167 Gg:=vt mix Sy JZ [(192,Ay),(201,Da)] (gs GQ (gs V5 g0)) rfl (fun _ _=>rfl) fun O x=>by kernel_rfl
theorem Uo:Vd Tryz.prog 178 Co:=vt mix UY FJ [] g0 rfl (fun _ _=>rfl) fun O x=>by kernel_rfl
theorem Yw:Vd Tryz.prog 168 FR:=vt mix RV IM [(178,Co),(192,Ay),(194,Ax)] (gs Uo (gs GQ (gs Gr g0))) rfl (fun _ _=>rfl) fun O x=>by kernel_rfl
theorem Sb:Vd Tryz.prog 203 Ce:=vt mix Xg N4 [(122,AR),(123,Ae),(124,Aa)] (gs Dm (gs Fp (gs E1 g0))) rfl (fun _ _=>rfl) fun O x=>by kernel_rfl
theorem ZO:Vd Tryz.prog 169 Fq:=vt mix RL IC [(203,Ce)] (gs Sb g0) rfl (fun _ _=>rfl) fun O x=>by kernel_rfl
theorem bC:Vd Tryz.prog 170 GW:=vt mix S1 Jn [(203,Ce),(204,A2),(205,A1)] (gs Sb (gs Hp (gs HM g0))) rfl (fun _ _=>rfl) fun O x=>by kernel_rfl
theorem VR:Vd Tryz.prog 171 Dg:=vt mix Ob FK [(203,Ce),(204,A2),(205,A1)] (gs Sb (gs Hp (gs HM g0))) rfl (fun _ _=>rfl) fun O x=>by kernel_rfl
theorem Yn:Vd Tryz.prog 172 Fn:=vt mix Rx IY [(40,AP),(195,Ci)] (gs Cm (gs SP g0)) rfl (fun _ _=>rfl) fun O x=>by kernel_rfl
theorem Ww:Vd Tryz.prog 173 EH:=vt mix PT GK [(100,AN)] (gs CX g0) rfl (fun _ _=>rfl) fun O x=>by kernel_rfl
theorem PJ:Vd Tryz.prog 143 B9:=vt mix PG GC [(100,AN)] (gs CX g0) rfl (fun _ _=>rfl) fun O x=>by kernel_rfl
theorem W3:Vd Tryz.prog 174 D9:=vt mix PR GA [(100,AN),(143,B9)] (gs CX (gs PJ g0)) rfl (fun _ _=>rfl) fun O x=>by kernel_rfl
theorem YE:Vd Tryz.prog 175 Eo:=vt mix Qi Ed [(100,AN)] (gs CX g0) rfl (fun _ _=>rfl) fun O x=>by kernel_rfl
theorem Zf:Vd Tryz.prog 206 Fg:=vt mix RF Rd [] g0 rfl (fun _ _=>rfl) fun O x=>by kernel_rfl
theorem Xq:Vd Tryz.prog 176 EZ:=vt mix Qp HH [(100,AN),(206,Fg)] (gs CX (gs Zf g0)) rfl (fun _ _=>rfl) fun O x=>by kernel_rfl
theorem W2:Vd Tryz.prog 141 D5:=vt mix PP D6 [(163,Hs),(164,Iz),(165,GU),(166,Er),(167,Gg),(168,FR),(169,Fq),(170,GW),(171,Dg),(172,Fn),(173,EH),(174,D9),(175,Eo),(176,EZ)] (gs cm (gs fX (gs aG (gs Xp (gs aB (gs Yw (gs ZO (gs bC (gs VR (gs Yn (gs Ww (gs W3 (gs YE (gs Xq g0)))))))))))))) rfl (fun _ _=>rfl) fun O x=>by kernel_rfl
theorem X7:Vd Tryz.prog 142 DQ:=vt mix Qc HQ [(93,BO),(177,BN),(178,Co)] (gs MD (gs Lu (gs Uo g0))) rfl (fun _ _=>rfl) fun O x=>by kernel_rfl
theorem am:Vd Tryz.prog 127 GO:=vt mix TO JL [(76,DA),(93,BO),(100,AN),(140,FM),(141,D5),(142,DQ)] (gs Ue (gs MD (gs CX (gs Ze (gs W2 (gs X7 g0)))))) rfl (fun _ _=>rfl) fun O x=>by kernel_rfl
theorem fI:Vd Tryz.prog 59 L4:=vt mix Vp Lz [(75,C9),(76,DA),(77,Hg),(94,C8),(101,BL),(105,B0),(106,FL),(125,Ft),(126,Gi),(127,GO),(128,Bq),(143,B9)] (gs UT (gs Ue (gs cM (gs Ux (gs Kn (gs O2 (gs Yg (gs Zu (gs bI (gs am (gs Og (gs PJ g0)))))))))))) rfl (fun _ _=>rfl) fun O x=>by kernel_rfl
def Yy:Cfg:={ gam:=[⟨59,[],true,true,[]⟩],imm:=false,old:=false }
theorem gJ (O:Alg) (x:Ags O):XF (O:=O) Tryz.prog Yy false false [] 47 [] (xr x Te 0)=Md O x:=by kernel_rfl
theorem jO {E:Env} {M:Nat} (N:Nat) (h:∀ ls,E 47 [] ls=Ln N ls):VV Tryz.prog E M ⟨47,[],false,false,[]⟩ :=
 G6 mix (E:=GX N) (N:=N) (cfg:=Yy) (ci:=⟨47,[],false,false,[]⟩) (ks:=Te) (CD (fI N (fun _=>rfl)) NA) (c:=Ln N) (F:=fun ls=>Md (std (GX N) N) (xOf ls)) (fun ls=>rfl) (fun ls=>gJ (std (GX N) N) (xOf ls)) h
theorem Zc:Vd Tryz.prog 48 IR:=vt mix RK Ia [(31,Aw)] (gs GM g0) rfl (fun _ _=>rfl) fun O x=>by kernel_rfl
def Y6:Cfg:={ gam:=[⟨46,[],true,true,[]⟩,⟨47,[],false,false,[]⟩,⟨48,[],true,true,[]⟩],imm:=false,old:=true,ie:=[116,76,3,47,72,109,156,4,5,139,152,89,60,197] }
theorem gu (O:Alg) (x:Ags O):XF (O:=O) Tryz.prog Y6 false false [] 35 [] (xr x Tx 0)=Mi O x:=by kernel_rfl
theorem ZT {E:Env} {M:Nat} (N:Nat) (h:∀ ls,E 35 [] ls=HO N ls):VV Tryz.prog E M ⟨35,[],false,false,[]⟩ :=
 G6 mix (E:=Di N) (N:=N) (cfg:=Y6) (ci:=⟨35,[],false,false,[]⟩) (ks:=Tx) (CD (gp N (fun _=>rfl)) (CD (jO N (fun _=>rfl)) (CD (Zc N (fun _=>rfl)) NA))) (c:=HO N) (F:=fun ls=>Mi (std (Di N) N) (xOf ls)) (fun ls=>rfl) (fun ls=>gu (std (Di N) N) (xOf ls)) h
def WI:Cfg:={ gam:=[⟨35,[],false,false,[]⟩],imm:=false,old:=false }
theorem cg (O:Alg) (x:Ags O):XF (O:=O) Tryz.prog WI false false [] 41 [] (xr x Qs 0)=Il O x:=by kernel_rfl
theorem fG {E:Env} {M:Nat} (N:Nat) (h:∀ ls,E 41 [] ls=I9 N ls):VV Tryz.prog E M ⟨41,[],false,false,[]⟩ :=
 G6 mix (E:=EY N) (N:=N) (cfg:=WI) (ci:=⟨41,[],false,false,[]⟩) (ks:=Qs) (CD (ZT N (fun _=>rfl)) NA) (c:=I9 N) (F:=fun ls=>Il (std (EY N) N) (xOf ls)) (fun ls=>rfl) (fun ls=>cg (std (EY N) N) (xOf ls)) h
def XT:Cfg:={ gam:=[⟨40,[],true,true,[]⟩,⟨41,[],false,false,[]⟩],imm:=false,old:=false }
theorem dU (O:Alg) (x:Ags O):XF (O:=O) Tryz.prog XT true true [] 27 [] (xr x SW 0)=KN O x:=by kernel_rfl
theorem SE:Vd Tryz.prog 27 Cd:=fun N h =>
 G6 mix (E:=Dz N) (N:=N) (cfg:=XT) (ci:=⟨27,[],true,true,[]⟩) (ks:=SW) (CD (Cm N (fun _=>rfl)) (CD (fG N (fun _=>rfl)) NA)) (c:=Cd N) (F:=fun ls=>KN (std (Dz N) N) (xOf ls)) (fun ls=>rfl) (fun ls=>dU (std (Dz N) N) (xOf ls)) h
theorem JP:Vd Tryz.prog 29 BK:=vt mix TU Jd [] g0 rfl (fun _ _=>rfl) fun O x=>by kernel_rfl
def U2:Cfg:={ gam:=[⟨27,[],true,true,[]⟩,⟨29,[],true,true,[]⟩,⟨35,[],false,false,[]⟩],imm:=false,old:=false }
theorem bG (O:Alg) (x:Ags O):XF (O:=O) Tryz.prog U2 true true [] 23 [] (xr x Ov 0)=HZ O x:=by kernel_rfl
theorem Ur:Vd Tryz.prog 23 Cl:=fun N h =>
 G6 mix (E:=CW N) (N:=N) (cfg:=U2) (ci:=⟨23,[],true,true,[]⟩) (ks:=Ov) (CD (SE N (fun _=>rfl)) (CD (JP N (fun _=>rfl)) (CD (ZT N (fun _=>rfl)) NA))) (c:=Cl N) (F:=fun ls=>HZ (std (CW N) N) (xOf ls)) (fun ls=>rfl) (fun ls=>bG (std (CW N) N) (xOf ls)) h
theorem Uc:Vd Tryz.prog 9 C6:=vt mix Us Km [(23,Cl)] (gs Ur g0) rfl (fun _ _=>rfl) fun O x=>by kernel_rfl
theorem OK:Vd Tryz.prog 11 CM:=vt mix OY Fd [] g0 rfl (fun _ _=>rfl) fun O x=>by kernel_rfl
theorem aF:Vd Tryz.prog 12 Gc:=vt mix Sk JM [] g0 rfl (fun _ _=>rfl) fun O x=>by kernel_rfl
theorem S6:Vd Tryz.prog 14 CO:=vt mix TL Ji [(23,Cl),(25,BR)] (gs Ur (gs K7 g0)) rfl (fun _ _=>rfl) fun O x=>by kernel_rfl
theorem gd:Vd Tryz.prog 21 KG:=vt mix XG XE [] g0 rfl (fun _ _=>rfl) fun O x=>by kernel_rfl
theorem go:Vd Tryz.prog 34 SB:=vt mix Xc Xi [] g0 rfl (fun _ _=>rfl) fun O x=>by kernel_rfl
theorem lD:Vd Tryz.prog 22 Oc:=vt mix bu bq [(34,SB)] (gs go g0) rfl (fun _ _=>rfl) fun O x=>by kernel_rfl
theorem gX:Vd Tryz.prog 7 KK:=vt mix XK Ny [(9,C6),(11,CM),(12,Gc),(14,CO),(21,KG),(22,Oc)] (gs Uc (gs OK (gs aF (gs S6 (gs gd (gs lD g0)))))) rfl (fun _ _=>rfl) fun O x=>by kernel_rfl
def cC:Cfg:={ gam:=[],imm:=false,old:=false }
theorem jc (O:Alg) (x:Ags O):XF (O:=O) Tryz.prog cC false false [] 8 [] (xr x VI 0)=OD O x:=by kernel_rfl
theorem km {E:Env} {M:Nat} (N:Nat) (h:∀ ls,E 8 [] ls=N8 N ls):VV Tryz.prog E M ⟨8,[],false,false,[]⟩ :=
 G6 mix (E:=KB N) (N:=N) (cfg:=cC) (ci:=⟨8,[],false,false,[]⟩) (ks:=VI) NA (c:=N8 N) (F:=fun ls=>OD (std (KB N) N) (xOf ls)) (fun ls=>rfl) (fun ls=>jc (std (KB N) N) (xOf ls)) h
theorem gA:Vd Tryz.prog 16 Lq:=vt mix Vj MG [(14,CO)] (gs S6 g0) rfl (fun _ _=>rfl) fun O x=>by kernel_rfl
theorem cW:Vd Tryz.prog 42 Hl:=vt mix U3 Ka [] g0 rfl (fun _ _=>rfl) fun O x=>by kernel_rfl
theorem cu:Vd Tryz.prog 28 Hj:=vt mix U4 Kr [(29,BK),(42,Hl)] (gs JP (gs cW g0)) rfl (fun _ _=>rfl) fun O x=>by kernel_rfl
theorem gf:Vd Tryz.prog 30 KE:=vt mix XU Np [] g0 rfl (fun _ _=>rfl) fun O x=>by kernel_rfl
theorem gk:Vd Tryz.prog 32 Hw:=vt mix XI Ns [] g0 rfl (fun _ _=>rfl) fun O x=>by kernel_rfl
theorem aZ:Vd Tryz.prog 18 Jg:=vt mix TF JY [(25,BR),(27,Cd),(28,Hj),(29,BK),(30,KE),(31,Aw),(32,Hw)] (gs K7 (gs SE (gs cu (gs JP (gs gf (gs GM (gs gk g0))))))) rfl (fun _ _=>rfl) fun O x=>by kernel_rfl
theorem Yu:Vd Tryz.prog 19 IB:=vt mix R8 IG [(27,Cd),(29,BK),(31,Aw)] (gs SE (gs JP (gs GM g0))) rfl (fun _ _=>rfl) fun O x=>by kernel_rfl
theorem ZC:Vd Tryz.prog 45 Fa:=vt mix RQ Rv [] g0 rfl (fun _ _=>rfl) fun O x=>by kernel_rfl
theorem aK:Vd Tryz.prog 33 GT:=vt mix TD JG [(45,Fa)] (gs ZC g0) rfl (fun _ _=>rfl) fun O x=>by kernel_rfl
theorem S8:Vd Tryz.prog 20 Dx:=vt mix LI Dp [(33,GT)] (gs aK g0) rfl (fun _ _=>rfl) fun O x=>by kernel_rfl
def PS:Cfg:={ gam:=[⟨7,[],true,true,[]⟩,⟨8,[],false,false,[]⟩,⟨9,[],true,true,[]⟩,⟨11,[],true,true,[]⟩,⟨16,[],true,true,[]⟩,⟨18,[],true,true,[]⟩,⟨19,[],true,true,[]⟩,⟨20,[],true,true,[]⟩],imm:=false,old:=false }
theorem Vq (O:Alg) (x:Ags O):XF (O:=O) Tryz.prog PS true true [] 6 [] (xr x Jx 0)=D7 O x:=by kernel_rfl
theorem Wx:Vd Tryz.prog 6 D2:=fun N h =>
 G6 mix (E:=As N) (N:=N) (cfg:=PS) (ci:=⟨6,[],true,true,[]⟩) (ks:=Jx) (CD (gX N (fun _=>rfl)) (CD (km N (fun _=>rfl)) (CD (Uc N (fun _=>rfl)) (CD (OK N (fun _=>rfl)) (CD (gA N (fun _=>rfl)) (CD (aZ N (fun _=>rfl)) (CD (Yu N (fun _=>rfl)) (CD (S8 N (fun _=>rfl)) NA)))))))) (c:=D2 N) (F:=fun ls=>D7 (std (As N) N) (xOf ls)) (fun ls=>rfl) (fun ls=>Vq (std (As N) N) (xOf ls)) h
end Go.Px
