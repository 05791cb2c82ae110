/- Part 17. -/
import Derived.Test.YtkeljoongnpppaaGreatDoorPart09
import Derived.Test.YtkeljoongnpppaaGreatDoorProg
import Derived.Test.YtkeljoongnpppaaGreatDoorPart11
import Derived.KernelRfl
import Derived.WalkKit
import Derived.Lib.Walk
import Derived.BigCall
import Derived.BigGuard
import Derived.Test.YtkeljoongnpppaaGreatDoorPart16
set_option linter.unusedVariables false
set_option linter.unusedSimpArgs false
namespace Go.Px
open Go.Proofs
set_option maxRecDepth 100000
abbrev zya:=Vd Tryz.prog
theorem mix:Tryz.prog.follows .mixedOrders=true:=by kernel_rfl
theorem Lm:zya 109 C0:=vt mix FC E8 [] g0 rfl (fun _ _=>rfl) fun O x=>by kernel_rfl
theorem Ks:zya 110 Ct:=vt mix Ek Ej [] g0 rfl (fun _ _=>rfl) fun O x=>by kernel_rfl
theorem ZW:zya 82 QJ:=vt mix QO QC [(109,C0),(110,Ct)] (gs Lm (gs Ks g0)) rfl (fun _ _=>rfl) fun O x=>by kernel_rfl
open Go.RowKit Go.Lib in
set_option maxHeartbeats 1000000 in
theorem ZN (s:ByteArray) (c:UInt8) (w:World):Calls Tryz.prog 83 #[.string s,.string ⟨#[c]⟩] w fun e w'=>e=.returned (.int .i64 (Lib.countByte s.data.toList c))∧w'=w:=by
 go_enter Tryz.func83,Tryz.ntmps83
 go_wp2
 rw [run_callFunc_extern Tryz.func111 (by kernel_rfl) (by kernel_rfl) (by kernel_rfl) (e:=Extern.BytealgCount.count) (by kernel_rfl),Lib.run_countString];simp only [Result.andThen];rw [Oper.upon_value]
 go_wp2
 go_ret
 exact ⟨rfl,rfl⟩
theorem dx:zya 83 TX:=fun N h =>
 nY Tryz.func83 (T9:=9) (T3:=3) rfl rfl Tryz.underlying9 Tryz.underlying3 (by kernel_rfl) ZN h
open Go.RowKit Go.Lib in
set_option maxHeartbeats 1000000 in
theorem Qu (s:ByteArray) (c:Int) (w:World):Calls Tryz.prog 133 #[.string s,.int .u8 c] w fun e w'=>e=.returned (.int .i64 (Lib.indexByte s.data.toList c.toNat.toUInt8))∧w'=w:=by
 go_enter Tryz.func133,Tryz.ntmps133
 go_wp2
 rw [run_callFunc_extern Tryz.func163 (by kernel_rfl) (by kernel_rfl) (by kernel_rfl) (e:=Extern.BytealgIndexByte.indexByte) (by kernel_rfl),Lib.run_indexByteString];simp only [Result.andThen];rw [Oper.upon_value]
 go_wp2
 go_ret
 exact ⟨rfl,rfl⟩
theorem KK:zya 133 Bc:=fun N h =>
 nT Tryz.func133 (T9:=9) (T5:=5) (T3:=3) rfl rfl Tryz.underlying9 Tryz.underlying5 Tryz.underlying3 (by kernel_rfl) Qu h
theorem XO:zya 112 IX:=vt mix Nb NU [(133,Bc)] (gs KK g0) rfl (fun _ _=>rfl) fun O x=>by kernel_rfl
theorem eG:zya 84 TZ:=vt mix Th Td [(112,IX)] (gs XO g0) rfl (fun _ _=>rfl) fun O x=>by kernel_rfl
def O7:Cfg:={ gam:=[⟨82,[],true,true,[],[]⟩,⟨83,[],true,true,[],[]⟩,⟨84,[],true,true,[],[]⟩],imm:=false,old:=false }
theorem XV (O:Alg) (x:Ags O):XF (O:=O) Tryz.prog O7 (CI.ow ⟨62,[],false,true,[],[]⟩) true [] 62 [] (xr x I0 0)=I8 O x:=by kernel_rfl
theorem Xx {E:Env} {M:Nat} (N:Nat) (h:∀ ls,E 62 [] ls=JT N ls):VV Tryz.prog E M ⟨62,[],false,true,[],[]⟩ :=
 CA mix (E:=Ed N) (N:=N) (cfg:=O7) (ci:=⟨62,[],false,true,[],[]⟩) (ks:=I0) (Ar (ZW N (fun _=>rfl)) (Ar (dx N (fun _=>rfl)) (Ar (eG N (fun _=>rfl)) Dj))) (c:=JT N) (F:=fun ls=>I8 (std (Ed N) N) (xOf ls)) (fun ls=>rfl) (fun ls=>XV (std (Ed N) N) (xOf ls)) h
def Sj:Cfg:={ gam:=[⟨62,[],false,true,[],[]⟩],imm:=false,old:=false }
theorem aI (O:Alg) (x:Ags O):XF (O:=O) Tryz.prog Sj (CI.ow ⟨40,[],false,true,[],[]⟩) true [] 40 [] (xr x Mn 0)=My O x:=by kernel_rfl
theorem Sw {E:Env} {M:Nat} (N:Nat) (h:∀ ls,E 40 [] ls=Ih N ls):VV Tryz.prog E M ⟨40,[],false,true,[],[]⟩ :=
 CA mix (E:=GW N) (N:=N) (cfg:=Sj) (ci:=⟨40,[],false,true,[],[]⟩) (ks:=Mn) (Ar (Xx N (fun _=>rfl)) Dj) (c:=Ih N) (F:=fun ls=>My (std (GW N) N) (xOf ls)) (fun ls=>rfl) (fun ls=>aI (std (GW N) N) (xOf ls)) h
theorem j0:zya 63 SG:=vt mix Xg Yg [] g0 rfl (fun _ _=>rfl) fun O x=>by kernel_rfl
theorem gA:zya 85 N5:=vt mix Uv U9 [] g0 rfl (fun _ _=>rfl) fun O x=>by kernel_rfl
theorem jJ:zya 64 PP:=vt mix XA Wx [(85,N5)] (gs gA g0) rfl (fun _ _=>rfl) fun O x=>by kernel_rfl
theorem cQ:zya 65 MT:=vt mix Sq TP [] g0 rfl (fun _ _=>rfl) fun O x=>by kernel_rfl
theorem iV:zya 41 Wq:=vt mix WS Wv [(63,SG),(64,PP),(65,MT)] (gs j0 (gs jJ (gs cQ g0))) rfl (fun _ _=>rfl) fun O x=>by kernel_rfl
def Ye:Cfg:={ gam:=[⟨40,[],false,true,[],[]⟩,⟨41,[],true,true,[],[]⟩],imm:=false,old:=false }
theorem ir (O:Alg) (x:Ags O):XF (O:=O) Tryz.prog Ye (CI.ow ⟨27,[],true,true,[],[]⟩) true [] 27 [] (xr x SL 0)=Rx O x:=by kernel_rfl
theorem ji:zya 27 Ma:=fun N h =>
 CA mix (E:=KH N) (N:=N) (cfg:=Ye) (ci:=⟨27,[],true,true,[],[]⟩) (ks:=SL) (Ar (Sw N (fun _=>rfl)) (Ar (iV N (fun _=>rfl)) Dj)) (c:=Ma N) (F:=fun ls=>Rx (std (KH N) N) (xOf ls)) (fun ls=>rfl) (fun ls=>ir (std (KH N) N) (xOf ls)) h
theorem OC:zya 35 Df:=fun N h =>
 py Tryz.func35 (T8:=105) (T9:=9) rfl rfl Tryz.underlying105 Tryz.underlying9 (by kernel_rfl) (fun a c sep w=>Tryz.strings_Join_none a c sep w) (fun bk o c xs sep w h1 h2 h3 h4 h5=>Tryz.strings_Join bk o c xs sep w h1 h2 h3 h4 h5) h
theorem fD:zya 28 Nk:=vt mix Up VI [(35,Df)] (gs OC g0) rfl (fun _ _=>rfl) fun O x=>by kernel_rfl
theorem Pl:zya 42 Cx:=vt mix W8 Wo [] g0 rfl (fun _ _=>rfl) fun O x=>by kernel_rfl
def KJ:Cfg:={ gam:=[],imm:=false,old:=false }
theorem Rm (O:Alg) (x:Ags O):XF (O:=O) Tryz.prog KJ (CI.ow ⟨43,[44],true,true,[],[]⟩) true [] 43 [44] (xr x FW 0)=FY O x:=by kernel_rfl
theorem Se {E:Env} {M:Nat} (N:Nat) (h:∀ ls,E 43 [44] ls=FX N ls):VV Tryz.prog E M ⟨43,[44],true,true,[],[]⟩ :=
 CA mix (E:=DA N) (N:=N) (cfg:=KJ) (ci:=⟨43,[44],true,true,[],[]⟩) (ks:=FW) Dj (c:=FX N) (F:=fun ls=>FY (std (DA N) N) (xOf ls)) (fun ls=>rfl) (fun ls=>Rm (std (DA N) N) (xOf ls)) h
theorem VX:zya 106 HR:=fun N h =>
 oi Tryz.func106 (T2:=2) (T3:=3) (T9:=9) rfl rfl Tryz.underlying2 Tryz.underlying3 Tryz.underlying9 (by kernel_rfl) (by kernel_rfl) (fun i h0 hi w ht=>Tryz.internal_strconv_FormatInt_10 i h0 hi w ht) h
theorem XI:zya 79 IY:=vt mix NZ Nf [(106,HR)] (gs VX g0) rfl (fun _ _=>rfl) fun O x=>by kernel_rfl
theorem OX:zya 57 Dd:=vt mix Ub U7 [(79,IY)] (gs XI g0) rfl (fun _ _=>rfl) fun O x=>by kernel_rfl
theorem fg:zya 92 Gw:=vt mix Ul Jv [] g0 rfl (fun _ _=>rfl) fun O x=>by kernel_rfl
theorem dT:zya 93 Fl:=vt mix Sl ND [] g0 rfl (fun _ _=>rfl) fun O x=>by kernel_rfl
theorem Nd:zya 117 CF:=vt mix NW FO [(133,Bc)] (gs KK g0) rfl (fun _ _=>rfl) fun O x=>by kernel_rfl
theorem me:zya 94 Ja:=vt mix YH M7 [(42,Cx),(117,CF)] (gs Pl (gs Nd g0)) rfl (fun _ _=>rfl) fun O x=>by kernel_rfl
theorem X6:zya 119 Dz:=vt mix PM JF [] g0 rfl (fun _ _=>rfl) fun O x=>by kernel_rfl
theorem RB:zya 95 C3:=vt mix SN Hl [(119,Dz)] (gs X6 g0) rfl (fun _ _=>rfl) fun O x=>by kernel_rfl
theorem Pe:zya 68 CW:=vt mix Wt Hr [(92,Gw),(93,Fl),(94,Ja),(95,C3)] (gs fg (gs dT (gs me (gs RB g0)))) rfl (fun _ _=>rfl) fun O x=>by kernel_rfl
theorem Zc:zya 96 KW:=vt mix P3 QI [] g0 rfl (fun _ _=>rfl) fun O x=>by kernel_rfl
theorem Ra:zya 97 E9:=vt mix RX R9 [] g0 rfl (fun _ _=>rfl) fun O x=>by kernel_rfl
theorem ZM:zya 98 KM:=vt mix P7 QM [(57,Dd),(97,E9)] (gs OX (gs Ra g0)) rfl (fun _ _=>rfl) fun O x=>by kernel_rfl
theorem SF:zya 70 FF:=vt mix R6 R1 [(95,C3),(96,KW),(97,E9),(98,KM)] (gs RB (gs Zc (gs Ra (gs ZM g0)))) rfl (fun _ _=>rfl) fun O x=>by kernel_rfl
theorem kd:zya 46 Xo:=vt mix YZ Xd [(35,Df),(42,Cx),(57,Dd),(68,CW),(70,FF)] (gs OC (gs Pl (gs OX (gs Pe (gs SF g0))))) rfl (fun _ _=>rfl) fun O x=>by kernel_rfl
theorem jF:zya 66 Wi:=fun N h =>
 lT Tryz.func66 (T9:=9) (T2:=2) (T3:=2) (R2:=2) (R3:=30) rfl rfl Tryz.underlying9 Tryz.underlying2 Tryz.underlying2 Tryz.underlying2 Tryz.underlying30 (by kernel_rfl) (by kernel_rfl) lI h
theorem cB:zya 67 SJ:=vt mix Rl Re [(70,FF),(117,CF)] (gs SF (gs Nd g0)) rfl (fun _ _=>rfl) fun O x=>by kernel_rfl
def Wa:Cfg:={ gam:=[⟨40,[],false,true,[],[]⟩,⟨42,[],true,true,[],[]⟩,⟨43,[44],true,true,[],[]⟩,⟨46,[],true,true,[],[]⟩,⟨66,[],true,true,[],[]⟩,⟨67,[],true,true,[],[]⟩],imm:=false,old:=false }
theorem gO (O:Alg) (x:Ags O):XF (O:=O) Tryz.prog Wa (CI.ow ⟨29,[],true,true,[],[]⟩) true [] 29 [] (xr x PS 0)=PT O x:=by kernel_rfl
theorem ik:zya 29 LS:=fun N h =>
 CA mix (E:=Ie N) (N:=N) (cfg:=Wa) (ci:=⟨29,[],true,true,[],[]⟩) (ks:=PS) (Ar (Sw N (fun _=>rfl)) (Ar (Pl N (fun _=>rfl)) (Ar (Se N (fun _=>rfl)) (Ar (kd N (fun _=>rfl)) (Ar (jF N (fun _=>rfl)) (Ar (cB N (fun _=>rfl)) Dj)))))) (c:=LS N) (F:=fun ls=>PT (std (Ie N) N) (xOf ls)) (fun ls=>rfl) (fun ls=>gO (std (Ie N) N) (xOf ls)) h
theorem cD:zya 12 SU:=vt mix RC RD [(27,Ma),(28,Nk),(29,LS)] (gs ji (gs fD (gs ik g0))) rfl (fun _ _=>rfl) fun O x=>by kernel_rfl
theorem nB:zya 16 Kx:=vt mix aD Of [] g0 rfl (fun _ _=>rfl) fun O x=>by kernel_rfl
theorem Ta:zya 36 Ck:=vt mix Sy Ti [] g0 rfl (fun _ _=>rfl) fun O x=>by kernel_rfl
theorem eX:zya 17 Fo:=vt mix To Iu [(36,Ck)] (gs Ta g0) rfl (fun _ _=>rfl) fun O x=>by kernel_rfl
theorem fL:zya 18 HD:=vt mix U5 KI [(36,Ck)] (gs Ta g0) rfl (fun _ _=>rfl) fun O x=>by kernel_rfl
theorem B1:zya 8 AP:=vt mix WY LP [(16,Kx),(17,Fo),(18,HD)] (gs nB (gs eX (gs fL g0))) rfl (fun _ _=>rfl) fun O x=>by kernel_rfl
theorem WB:zya 99 DH:=fun N h =>
 Oe mix (T:=22) (e:=114) (b:=24) Tryz.func99 Tryz.underlying22 (by kernel_rfl) (by decide) (fun O l=>by kernel_rfl) (fun O l=>by kernel_rfl) h
theorem W0:zya 71 DQ:=vt mix Wb K0 [(99,DH)] (gs WB g0) rfl (fun _ _=>rfl) fun O x=>by kernel_rfl
theorem nU:zya 47 Oc:=vt mix Zr Oo [(8,AP),(71,DQ)] (gs B1 (gs W0 g0)) rfl (fun _ _=>rfl) fun O x=>by kernel_rfl
theorem EL:zya 73 Aj:=vt mix QG QA [] g0 rfl (fun _ _=>rfl) fun O x=>by kernel_rfl
theorem Zd:zya 74 EM:=vt mix P8 GU [(73,Aj)] (gs EL g0) rfl (fun _ _=>rfl) fun O x=>by kernel_rfl
theorem YC:zya 126 D3:=vt mix O2 F4 [] g0 rfl (fun _ _=>rfl) fun O x=>by kernel_rfl
theorem Gl:zya 103 Aw:=vt mix Lt D8 [(126,D3)] (gs YC g0) rfl (fun _ _=>rfl) fun O x=>by kernel_rfl
theorem XQ:zya 75 DZ:=vt mix NX FG [(73,Aj),(103,Aw)] (gs EL (gs Gl g0)) rfl (fun _ _=>rfl) fun O x=>by kernel_rfl
theorem XN:zya 105 DW:=vt mix NV FL [(73,Aj)] (gs EL g0) rfl (fun _ _=>rfl) fun O x=>by kernel_rfl
theorem ZQ:zya 76 EN:=vt mix QE GX [(105,DW)] (gs XN g0) rfl (fun _ _=>rfl) fun O x=>by kernel_rfl
theorem Mf:zya 50 BW:=vt mix Tq Iy [(8,AP),(73,Aj),(74,EM),(75,DZ),(76,EN)] (gs B1 (gs EL (gs Zd (gs XQ (gs ZQ g0))))) rfl (fun _ _=>rfl) fun O x=>by kernel_rfl
theorem LN:zya 77 BV:=vt mix W2 K6 [] g0 rfl (fun _ _=>rfl) fun O x=>by kernel_rfl
theorem WU:zya 51 DP:=vt mix We K8 [(77,BV)] (gs LN g0) rfl (fun _ _=>rfl) fun O x=>by kernel_rfl
theorem jG:zya 52 Hz:=vt mix Wu K2 [] g0 rfl (fun _ _=>rfl) fun O x=>by kernel_rfl
theorem PQ:zya 31 CU:=vt mix Wd LT [(8,AP),(50,BW),(51,DP),(52,Hz)] (gs B1 (gs Mf (gs WU (gs jG g0)))) rfl (fun _ _=>rfl) fun O x=>by kernel_rfl
theorem D6:zya 150 AX:=fun N h =>
 Oe mix (T:=82) (e:=191) (b:=1) Tryz.func150 Tryz.underlying82 (by kernel_rfl) (by decide) (fun O l=>by kernel_rfl) (fun O l=>by kernel_rfl) h
theorem GF:zya 151 Ad:=fun N h =>
 Oe mix (T:=63) (e:=3) (b:=8) Tryz.func151 Tryz.underlying63 (by kernel_rfl) (by decide) (fun O l=>by kernel_rfl) (fun O l=>by kernel_rfl) h
theorem FN:zya 152 Ab:=fun N h =>
 Oe mix (T:=83) (e:=4) (b:=1) Tryz.func152 Tryz.underlying83 (by kernel_rfl) (by decide) (fun O l=>by kernel_rfl) (fun O l=>by kernel_rfl) h
theorem Cj:zya 120 AU:=vt mix TL Iq [(150,AX),(151,Ad),(152,Ab)] (gs D6 (gs GF (gs FN g0))) rfl (fun _ _=>rfl) fun O x=>by kernel_rfl
theorem ia:zya 100 Hw:=vt mix WW LI [(71,DQ),(120,AU)] (gs W0 (gs Cj g0)) rfl (fun _ _=>rfl) fun O x=>by kernel_rfl
theorem PX:zya 124 Bz:=vt mix WX LQ [] g0 rfl (fun _ _=>rfl) fun O x=>by kernel_rfl
theorem PK:zya 156 Br:=vt mix O6 Fm [] g0 rfl (fun _ _=>rfl) fun O x=>by kernel_rfl
theorem cU:zya 125 F6:=vt mix TD IZ [(31,CU),(77,BV),(124,Bz),(156,Br)] (gs PQ (gs LN (gs PX (gs PK g0)))) rfl (fun _ _=>rfl) fun O x=>by kernel_rfl
theorem da:zya 153 F5:=vt mix TJ Ix [(8,AP),(73,Aj)] (gs B1 (gs EL g0)) rfl (fun _ _=>rfl) fun O x=>by kernel_rfl
theorem f6:zya 154 HB:=vt mix U1 Jn [(77,BV),(124,Bz)] (gs LN (gs PX g0)) rfl (fun _ _=>rfl) fun O x=>by kernel_rfl
theorem ZV:zya 182 EX:=vt mix P0 KS [] g0 rfl (fun _ _=>rfl) fun O x=>by kernel_rfl
theorem eV:zya 173 Fh:=vt mix S8 Ij [(182,EX)] (gs ZV g0) rfl (fun _ _=>rfl) fun O x=>by kernel_rfl
theorem G1:zya 201 A3:=vt mix YS MZ [(150,AX),(151,Ad),(152,Ab)] (gs D6 (gs GF (gs FN g0))) rfl (fun _ _=>rfl) fun O x=>by kernel_rfl
theorem bJ:zya 215 Cz:=vt mix RF Ln [] g0 rfl (fun _ _=>rfl) fun O x=>by kernel_rfl
theorem Uq:zya 202 B9:=vt mix Us Ep [(215,Cz)] (gs bJ g0) rfl (fun _ _=>rfl) fun O x=>by kernel_rfl
theorem Gj:zya 203 A0:=vt mix U2 KA [] g0 rfl (fun _ _=>rfl) fun O x=>by kernel_rfl
theorem jE:zya 183 Hv:=vt mix Wj LC [(201,A3),(202,B9),(203,A0)] (gs G1 (gs Uq (gs Gj g0))) rfl (fun _ _=>rfl) fun O x=>by kernel_rfl
theorem UD:zya 204 Cq:=vt mix Zt On [(150,AX),(151,Ad),(152,Ab)] (gs D6 (gs GF (gs FN g0))) rfl (fun _ _=>rfl) fun O x=>by kernel_rfl
theorem PW:zya 216 B3:=vt mix XD K9 [] g0 rfl (fun _ _=>rfl) fun O x=>by kernel_rfl
theorem kb:zya 217 Jd:=vt mix YG Mo [(8,AP),(216,B3)] (gs B1 (gs PW g0)) rfl (fun _ _=>rfl) fun O x=>by kernel_rfl
theorem nI:zya 205 Kv:=vt mix Zx Og [(8,AP),(103,Aw),(216,B3),(217,Jd)] (gs B1 (gs Gl (gs PW (gs kb g0)))) rfl (fun _ _=>rfl) fun O x=>by kernel_rfl
theorem kY:zya 184 I7:=vt mix X2 M5 [(204,Cq),(205,Kv)] (gs UD (gs nI g0)) rfl (fun _ _=>rfl) fun O x=>by kernel_rfl
theorem XK:zya 61 Da:=vt mix Nh FI [] g0 rfl (fun _ _=>rfl) fun O x=>by kernel_rfl
theorem Rt:zya 38 CS:=vt mix Rs Hj [(61,Da)] (gs XK g0) rfl (fun _ _=>rfl) fun O x=>by kernel_rfl
theorem XR:zya 39 DY:=vt mix Na FM [] g0 rfl (fun _ _=>rfl) fun O x=>by kernel_rfl
theorem KP:zya 23 BP:=vt mix QL GZ [(38,CS),(39,DY)] (gs Rt (gs XR g0)) rfl (fun _ _=>rfl) fun O x=>by kernel_rfl
theorem SO:zya 24 CO:=vt mix SQ RN [] g0 rfl (fun _ _=>rfl) fun O x=>by kernel_rfl
theorem Mc:zya 197 BT:=vt mix TU EB [(202,B9)] (gs Uq g0) rfl (fun _ _=>rfl) fun O x=>by kernel_rfl
theorem H2:zya 213 A9:=vt mix Wg Ky [] g0 rfl (fun _ _=>rfl) fun O x=>by kernel_rfl
theorem HW:zya 214 A7:=vt mix SR Hd [(213,A9)] (gs H2 g0) rfl (fun _ _=>rfl) fun O x=>by kernel_rfl
theorem eC:zya 221 GE:=vt mix Tm Iz [] g0 rfl (fun _ _=>rfl) fun O x=>by kernel_rfl
theorem jK:zya 218 Hp:=vt mix Wl LJ [(213,A9),(214,A7),(221,GE)] (gs H2 (gs HW (gs eC g0))) rfl (fun _ _=>rfl) fun O x=>by kernel_rfl
theorem QN:zya 226 Bm:=vt mix P6 QQ [] g0 rfl (fun _ _=>rfl) fun O x=>by kernel_rfl
theorem fX:zya 222 Gm:=vt mix UQ J2 [(226,Bm)] (gs QN g0) rfl (fun _ _=>rfl) fun O x=>by kernel_rfl
theorem Xq:zya 227 Dq:=vt mix Oz F3 [] g0 rfl (fun _ _=>rfl) fun O x=>by kernel_rfl
theorem VJ:zya 223 C5:=vt mix Lr D5 [(227,Dq)] (gs Xq g0) rfl (fun _ _=>rfl) fun O x=>by kernel_rfl
theorem X7:zya 228 Ds:=vt mix PL Fx [] g0 rfl (fun _ _=>rfl) fun O x=>by kernel_rfl
theorem aL:zya 224 FE:=vt mix Rp He [(226,Bm),(228,Ds)] (gs QN (gs X7 g0)) rfl (fun _ _=>rfl) fun O x=>by kernel_rfl
theorem UI:zya 229 Cs:=vt mix Kt Dn [] g0 rfl (fun _ _=>rfl) fun O x=>by kernel_rfl
theorem Vo:zya 225 DD:=vt mix MJ Ee [(229,Cs)] (gs UI g0) rfl (fun _ _=>rfl) fun O x=>by kernel_rfl
theorem Vh:zya 219 DJ:=vt mix NK Eb [(222,Gm),(223,C5),(224,FE),(225,DD)] (gs fX (gs VJ (gs aL (gs Vo g0)))) rfl (fun _ _=>rfl) fun O x=>by kernel_rfl
theorem jH:zya 220 Hy:=vt mix Wk LR [(213,A9),(214,A7)] (gs H2 (gs HW g0)) rfl (fun _ _=>rfl) fun O x=>by kernel_rfl
theorem Za:zya 206 EP:=vt mix QH Ga [(38,CS),(197,BT),(218,Hp),(219,DJ),(220,Hy)] (gs Rt (gs Mc (gs jK (gs Vh (gs jH g0))))) rfl (fun _ _=>rfl) fun O x=>by kernel_rfl
theorem jc:zya 207 JU:=vt mix X1 Mr [(201,A3),(203,A0)] (gs G1 (gs Gj g0)) rfl (fun _ _=>rfl) fun O x=>by kernel_rfl
theorem j8:zya 208 JE:=vt mix Xk Mw [(8,AP),(103,Aw),(204,Cq),(216,B3)] (gs B1 (gs Gl (gs UD (gs PW g0)))) rfl (fun _ _=>rfl) fun O x=>by kernel_rfl
theorem eJ:zya 209 F2:=vt mix TR Ii [(201,A3)] (gs G1 g0) rfl (fun _ _=>rfl) fun O x=>by kernel_rfl
theorem fK:zya 185 HC:=vt mix Ud KC [(23,BP),(24,CO),(120,AU),(206,EP),(207,JU),(208,JE),(209,F2)] (gs KP (gs SO (gs Cj (gs Za (gs jc (gs j8 (gs eJ g0))))))) rfl (fun _ _=>rfl) fun O x=>by kernel_rfl
theorem Y2:zya 210 Dv:=vt mix Xh NE [(197,BT),(203,A0)] (gs Mc (gs Gj g0)) rfl (fun _ _=>rfl) fun O x=>by kernel_rfl
theorem bv:zya 186 FA:=vt mix RV Hh [(201,A3),(203,A0),(210,Dv)] (gs G1 (gs Gj (gs Y2 g0))) rfl (fun _ _=>rfl) fun O x=>by kernel_rfl
theorem gZ:zya 187 G7:=vt mix U4 KF [(201,A3),(210,Dv)] (gs G1 (gs Y2 g0)) rfl (fun _ _=>rfl) fun O x=>by kernel_rfl
theorem Wy:zya 198 Cy:=vt mix Wc Fb [] g0 rfl (fun _ _=>rfl) fun O x=>by kernel_rfl
theorem cc:zya 188 Fn:=vt mix Sr Im [(198,Cy),(201,A3),(203,A0)] (gs Wy (gs G1 (gs Gj g0))) rfl (fun _ _=>rfl) fun O x=>by kernel_rfl
theorem UH:zya 212 Cm:=vt mix Zl Oj [(150,AX),(151,Ad),(152,Ab)] (gs D6 (gs GF (gs FN g0))) rfl (fun _ _=>rfl) fun O x=>by kernel_rfl
theorem eK:zya 189 F8:=vt mix TN Ir [(212,Cm)] (gs UH g0) rfl (fun _ _=>rfl) fun O x=>by kernel_rfl
theorem fF:zya 190 HF:=vt mix Uz Ju [(212,Cm),(213,A9),(214,A7)] (gs UH (gs H2 (gs HW g0))) rfl (fun _ _=>rfl) fun O x=>by kernel_rfl
theorem YY:zya 191 Dt:=vt mix Oy Fi [(212,Cm),(213,A9),(214,A7)] (gs UH (gs H2 (gs HW g0))) rfl (fun _ _=>rfl) fun O x=>by kernel_rfl
theorem cx:zya 192 GA:=vt mix S6 Il [(8,AP),(204,Cq)] (gs B1 (gs UD g0)) rfl (fun _ _=>rfl) fun O x=>by kernel_rfl
theorem ZL:zya 193 ES:=vt mix QB Gc [(120,AU)] (gs Cj g0) rfl (fun _ _=>rfl) fun O x=>by kernel_rfl
theorem QK:zya 176 CC:=vt mix QD Gb [(120,AU)] (gs Cj g0) rfl (fun _ _=>rfl) fun O x=>by kernel_rfl
theorem Ze:zya 194 EZ:=vt mix P5 Gf [(120,AU),(176,CC)] (gs Cj (gs QK g0)) rfl (fun _ _=>rfl) fun O x=>by kernel_rfl
theorem aK:zya 195 E2:=vt mix Rj Eu [(120,AU)] (gs Cj g0) rfl (fun _ _=>rfl) fun O x=>by kernel_rfl
theorem Tt:zya 26 Ch:=vt mix S1 Ts [] g0 rfl (fun _ _=>rfl) fun O x=>by kernel_rfl
theorem bn:zya 196 E0:=vt mix RL Hk [(26,Ch),(120,AU)] (gs Tt (gs Cj g0)) rfl (fun _ _=>rfl) fun O x=>by kernel_rfl
theorem ZO:zya 174 ER:=vt mix QP EY [(183,Hv),(184,I7),(185,HC),(186,FA),(187,G7),(188,Fn),(189,F8),(190,HF),(191,Dt),(192,GA),(193,ES),(194,EZ),(195,E2),(196,E0)] (gs jE (gs kY (gs fK (gs bv (gs gZ (gs cc (gs eK (gs fF (gs YY (gs cx (gs ZL (gs Ze (gs aK (gs bn g0)))))))))))))) rfl (fun _ _=>rfl) fun O x=>by kernel_rfl
theorem bH:zya 175 Dh:=vt mix RG Hi [(50,BW),(197,BT),(198,Cy)] (gs Mf (gs Mc (gs Wy g0))) rfl (fun _ _=>rfl) fun O x=>by kernel_rfl
theorem ff:zya 155 Gg:=vt mix UX Js [(50,BW),(68,CW),(120,AU),(173,Fh),(174,ER),(175,Dh)] (gs Mf (gs Pe (gs Cj (gs eV (gs ZO (gs bH g0)))))) rfl (fun _ _=>rfl) fun O x=>by kernel_rfl
theorem kc:zya 72 Mt:=vt mix Yo MR [(31,CU),(51,DP),(68,CW),(77,BV),(100,Hw),(124,Bz),(125,F6),(153,F5),(154,HB),(155,Gg),(156,Br),(176,CC)] (gs PQ (gs WU (gs Pe (gs LN (gs ia (gs PX (gs cU (gs da (gs f6 (gs ff (gs PK (gs QK g0)))))))))))) rfl (fun _ _=>rfl) fun O x=>by kernel_rfl
def cj:Cfg:={ gam:=[⟨72,[],true,true,[],[]⟩],imm:=false,old:=false }
theorem my (O:Alg) (x:Ags O):XF (O:=O) Tryz.prog cj (CI.ow ⟨48,[],false,false,[],[]⟩) false [] 48 [] (xr x WD 0)=ML O x:=by kernel_rfl
theorem qN {E:Env} {M:Nat} (N:Nat) (h:∀ ls,E 48 [] ls=Mq N ls):VV Tryz.prog E M ⟨48,[],false,false,[],[]⟩ :=
 CA mix (E:=G0 N) (N:=N) (cfg:=cj) (ci:=⟨48,[],false,false,[],[]⟩) (ks:=WD) (Ar (kc N (fun _=>rfl)) Dj) (c:=Mq N) (F:=fun ls=>ML (std (G0 N) N) (xOf ls)) (fun ls=>rfl) (fun ls=>my (std (G0 N) N) (xOf ls)) h
theorem dg:zya 49 Ik:=vt mix TB Iv [(23,BP)] (gs KP g0) rfl (fun _ _=>rfl) fun O x=>by kernel_rfl
def dV:Cfg:={ gam:=[⟨47,[],true,true,[],[]⟩,⟨48,[],false,false,[],[]⟩,⟨49,[],true,true,[],[]⟩],imm:=false,old:=true,ie:=[114,75,85,50,100,3,34,191,4,92,98,9,5,125,181,55,71,288] }
theorem nX (O:Alg) (x:Ags O):XF (O:=O) Tryz.prog dV (CI.ow ⟨30,[],true,false,[],[114,75,85,50,100,3,34,191,4,92,98,9,5,125,181,55,71,288]⟩) false [] 30 [] (xr x Vg 0)=MS O x:=by kernel_rfl
theorem o6 {E:Env} {M:Nat} (N:Nat) (h:∀ ls,E 30 [] ls=MX N ls):VV Tryz.prog E M ⟨30,[],true,false,[],[114,75,85,50,100,3,34,191,4,92,98,9,5,125,181,55,71,288]⟩ :=
 CA mix (E:=Dp N) (N:=N) (cfg:=dV) (ci:=⟨30,[],true,false,[],[114,75,85,50,100,3,34,191,4,92,98,9,5,125,181,55,71,288]⟩) (ks:=Vg) (Ar (nU N (fun _=>rfl)) (Ar (qN N (fun _=>rfl)) (Ar (dg N (fun _=>rfl)) Dj))) (c:=MX N) (F:=fun ls=>MS (std (Dp N) N) (xOf ls)) (fun ls=>rfl) (fun ls=>nX (std (Dp N) N) (xOf ls)) h
def Xs:Cfg:={ gam:=[⟨30,[],true,false,[],[114,75,85,50,100,3,34,191,4,92,98,9,5,125,181,55,71,288]⟩],imm:=false,old:=false }
theorem ip (O:Alg) (x:Ags O):XF (O:=O) Tryz.prog Xs (CI.ow ⟨13,[],false,false,[],[]⟩) false [] 13 [] (xr x Rw 0)=I6 O x:=by kernel_rfl
theorem MU {E:Env} {M:Nat} (N:Nat) (h:∀ ls,E 13 [] ls=CQ N ls):VV Tryz.prog E M ⟨13,[],false,false,[],[]⟩ :=
 CA mix (E:=Es N) (N:=N) (cfg:=Xs) (ci:=⟨13,[],false,false,[],[]⟩) (ks:=Rw) (Ar (o6 N (fun _=>rfl)) Dj) (c:=CQ N) (F:=fun ls=>I6 (std (Es N) N) (xOf ls)) (fun ls=>rfl) (fun ls=>ip (std (Es N) N) (xOf ls)) h
theorem rP:zya 14 gr:=vt mix gm hG [] g0 rfl (fun _ _=>rfl) fun O x=>by kernel_rfl
theorem VP:zya 11 Er:=vt mix UP Jy [(26,Ch)] (gs Tt g0) rfl (fun _ _=>rfl) fun O x=>by kernel_rfl
theorem MO:zya 54 DE:=vt mix So Tj [] g0 rfl (fun _ _=>rfl) fun O x=>by kernel_rfl
theorem Wf:zya 53 Ht:=vt mix W7 XB [(54,DE)] (gs MO g0) rfl (fun _ _=>rfl) fun O x=>by kernel_rfl
theorem pA:zya 55 Vt:=vt mix cR cw [(53,Ht),(54,DE)] (gs Wf (gs MO g0)) rfl (fun _ _=>rfl) fun O x=>by kernel_rfl
theorem dY:zya 78 Mh:=fun N h =>
 nK Tryz.func78 (T3:=3) (T9:=9) rfl rfl Tryz.underlying3 Tryz.underlying9 (by kernel_rfl) (by kernel_rfl) (fun i h0 hi w ht=>Tryz.internal_strconv_Itoa i h0 hi w ht) h
theorem fP:zya 56 Ns:=vt mix UZ VO [(78,Mh)] (gs dY g0) rfl (fun _ _=>rfl) fun O x=>by kernel_rfl
theorem kF:zya 32 RW:=vt mix YW X3 [(53,Ht),(54,DE),(55,Vt),(56,Ns)] (gs Wf (gs MO (gs pA (gs fP g0)))) rfl (fun _ _=>rfl) fun O x=>by kernel_rfl
theorem VD:zya 33 G2:=vt mix U6 VG [(57,Dd)] (gs OX g0) rfl (fun _ _=>rfl) fun O x=>by kernel_rfl
theorem fJ:zya 34 Np:=vt mix VL U8 [(33,G2)] (gs VD g0) rfl (fun _ _=>rfl) fun O x=>by kernel_rfl
theorem mY:zya 15 YB:=vt mix Yf YI [(11,Er),(31,CU),(32,RW),(33,G2),(34,Np),(35,Df)] (gs VP (gs PQ (gs kF (gs VD (gs fJ (gs OC g0)))))) rfl (fun _ _=>rfl) fun O x=>by kernel_rfl
def Tl:Cfg:={ gam:=[⟨12,[],true,true,[],[]⟩,⟨13,[],false,false,[],[]⟩,⟨14,[],true,true,[],[]⟩,⟨15,[],true,true,[],[]⟩],imm:=false,old:=false }
theorem bl (O:Alg) (x:Ags O):XF (O:=O) Tryz.prog Tl (CI.ow ⟨4,[],true,true,[],[]⟩) true [] 4 [] (xr x NC 0)=MV O x:=by kernel_rfl
theorem dA:zya 4 D7:=fun N h =>
 CA mix (E:=Ge N) (N:=N) (cfg:=Tl) (ci:=⟨4,[],true,true,[],[]⟩) (ks:=NC) (Ar (cD N (fun _=>rfl)) (Ar (MU N (fun _=>rfl)) (Ar (rP N (fun _=>rfl)) (Ar (mY N (fun _=>rfl)) Dj)))) (c:=D7 N) (F:=fun ls=>MV (std (Ge N) N) (xOf ls)) (fun ls=>rfl) (fun ls=>bl (std (Ge N) N) (xOf ls)) h
def W4:Cfg:={ gam:=[],imm:=false,old:=false }
theorem gF (O:Alg) (x:Ags O):XF (O:=O) Tryz.prog W4 (CI.ow ⟨5,[],false,false,[],[]⟩) false [] 5 [] (xr x Pj 0)=H7 O x:=by kernel_rfl
theorem ii {E:Env} {M:Nat} (N:Nat) (h:∀ ls,E 5 [] ls=H5 N ls):VV Tryz.prog E M ⟨5,[],false,false,[],[]⟩ :=
 CA mix (E:=F9 N) (N:=N) (cfg:=W4) (ci:=⟨5,[],false,false,[],[]⟩) (ks:=Pj) Dj (c:=H5 N) (F:=fun ls=>H7 (std (F9 N) N) (xOf ls)) (fun ls=>rfl) (fun ls=>gF (std (F9 N) N) (xOf ls)) h
def Ut:Cfg:={ gam:=[⟨13,[],false,false,[],[]⟩],imm:=false,old:=false }
theorem dc (O:Alg) (x:Ags O):XF (O:=O) Tryz.prog Ut (CI.ow ⟨6,[],false,false,[],[]⟩) false [] 6 [] (xr x N8 0)=G4 O x:=by kernel_rfl
theorem gM {E:Env} {M:Nat} (N:Nat) (h:∀ ls,E 6 [] ls=Gk N ls):VV Tryz.prog E M ⟨6,[],false,false,[],[]⟩ :=
 CA mix (E:=De N) (N:=N) (cfg:=Ut) (ci:=⟨6,[],false,false,[],[]⟩) (ks:=N8) (Ar (MU N (fun _=>rfl)) Dj) (c:=Gk N) (F:=fun ls=>G4 (std (De N) N) (xOf ls)) (fun ls=>rfl) (fun ls=>dc (std (De N) N) (xOf ls)) h
def iM:Cfg:={ gam:=[],imm:=false,old:=false }
theorem qF (O:Alg) (x:Ags O):XF (O:=O) Tryz.prog iM (CI.ow ⟨7,[],false,false,[],[]⟩) false [] 7 [] (xr x X4 0)=PE O x:=by kernel_rfl
theorem rc {E:Env} {M:Nat} (N:Nat) (h:∀ ls,E 7 [] ls=Ot N ls):VV Tryz.prog E M ⟨7,[],false,false,[],[]⟩ :=
 CA mix (E:=Kd N) (N:=N) (cfg:=iM) (ci:=⟨7,[],false,false,[],[]⟩) (ks:=X4) Dj (c:=Ot N) (F:=fun ls=>PE (std (Kd N) N) (xOf ls)) (fun ls=>rfl) (fun ls=>qF (std (Kd N) N) (xOf ls)) h
def lm:Cfg:={ gam:=[⟨8,[],true,true,[],[]⟩,⟨13,[],false,false,[],[]⟩],imm:=false,old:=false }
theorem qY (O:Alg) (x:Ags O):XF (O:=O) Tryz.prog lm (CI.ow ⟨9,[],false,false,[],[]⟩) false [] 9 [] (xr x bL 0)=Q9 O x:=by kernel_rfl
theorem uf {E:Env} {M:Nat} (N:Nat) (h:∀ ls,E 9 [] ls=Ny N ls):VV Tryz.prog E M ⟨9,[],false,false,[],[]⟩ :=
 CA mix (E:=HX N) (N:=N) (cfg:=lm) (ci:=⟨9,[],false,false,[],[]⟩) (ks:=bL) (Ar (B1 N (fun _=>rfl)) (Ar (MU N (fun _=>rfl)) Dj)) (c:=Ny N) (F:=fun ls=>Q9 (std (HX N) N) (xOf ls)) (fun ls=>rfl) (fun ls=>qY (std (HX N) N) (xOf ls)) h
def Zo:Cfg:={ gam:=[⟨8,[],true,true,[],[]⟩,⟨13,[],false,false,[],[]⟩],imm:=false,old:=false }
theorem lQ (O:Alg) (x:Ags O):XF (O:=O) Tryz.prog Zo (CI.ow ⟨19,[],true,true,[],[]⟩) true [] 19 [] (xr x UJ 0)=Kr O x:=by kernel_rfl
theorem nA:zya 19 IL:=fun N h =>
 CA mix (E:=EG N) (N:=N) (cfg:=Zo) (ci:=⟨19,[],true,true,[],[]⟩) (ks:=UJ) (Ar (B1 N (fun _=>rfl)) (Ar (MU N (fun _=>rfl)) Dj)) (c:=IL N) (F:=fun ls=>Kr (std (EG N) N) (xOf ls)) (fun ls=>rfl) (fun ls=>lQ (std (EG N) N) (xOf ls)) h
theorem VC:zya 21 C7:=vt mix Ur KE [] g0 rfl (fun _ _=>rfl) fun O x=>by kernel_rfl
theorem iy:zya 37 Hs:=vt mix W9 LO [] g0 rfl (fun _ _=>rfl) fun O x=>by kernel_rfl
theorem jA:zya 20 Hu:=vt mix WT LH [(21,C7),(37,Hs)] (gs VC (gs iy g0)) rfl (fun _ _=>rfl) fun O x=>by kernel_rfl
theorem nQ:zya 22 Ki:=vt mix Z6 Oq [] g0 rfl (fun _ _=>rfl) fun O x=>by kernel_rfl
theorem mq:zya 25 ID:=vt mix Z9 Od [] g0 rfl (fun _ _=>rfl) fun O x=>by kernel_rfl
theorem ek:zya 10 Gr:=vt mix Uu Jq [(19,IL),(20,Hu),(21,C7),(22,Ki),(23,BP),(24,CO),(25,ID)] (gs nA (gs jA (gs VC (gs nQ (gs KP (gs SO (gs mq g0))))))) rfl (fun _ _=>rfl) fun O x=>by kernel_rfl
def W3:Cfg:={ gam:=[⟨4,[],true,true,[],[]⟩,⟨5,[],false,false,[],[]⟩,⟨6,[],false,false,[],[]⟩,⟨7,[],false,false,[],[]⟩,⟨8,[],true,true,[],[]⟩,⟨9,[],false,false,[],[]⟩,⟨10,[],true,true,[],[]⟩,⟨11,[],true,true,[],[]⟩],imm:=false,old:=false }
theorem gQ (O:Alg) (x:Ags O):XF (O:=O) Tryz.prog W3 (CI.ow ⟨3,[],true,true,[],[]⟩) true [] 3 [] (xr x Pc 0)=H1 O x:=by kernel_rfl
theorem ij:zya 3 H8:=fun N h =>
 CA mix (E:=BL N) (N:=N) (cfg:=W3) (ci:=⟨3,[],true,true,[],[]⟩) (ks:=Pc) (Ar (dA N (fun _=>rfl)) (Ar (ii N (fun _=>rfl)) (Ar (gM N (fun _=>rfl)) (Ar (rc N (fun _=>rfl)) (Ar (B1 N (fun _=>rfl)) (Ar (uf N (fun _=>rfl)) (Ar (ek N (fun _=>rfl)) (Ar (VP N (fun _=>rfl)) Dj)))))))) (c:=H8 N) (F:=fun ls=>H1 (std (BL N) N) (xOf ls)) (fun ls=>rfl) (fun ls=>gQ (std (BL N) N) (xOf ls)) h
end Go.Px
