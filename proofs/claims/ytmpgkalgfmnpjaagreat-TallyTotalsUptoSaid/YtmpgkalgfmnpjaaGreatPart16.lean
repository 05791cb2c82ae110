/- Part 16. -/
import Derived.Test.YtmpgkalgfmnpjaaGreatPart07
import Derived.Test.YtmpgkalgfmnpjaaGreatProg
import Derived.Test.YtmpgkalgfmnpjaaGreatPart09
import Derived.KernelRfl
import Derived.WalkKit
import Derived.Lib.Walk
import Derived.BigCall
import Derived.BigGuard
set_option linter.unusedVariables false
set_option linter.unusedSimpArgs false
namespace Go.Px
open Go.Proofs
set_option maxRecDepth 100000
theorem mix:Tryz.prog.follows .mixedOrders=true:=by kernel_rfl
theorem cQ:Vd Tryz.prog 11 Dk:=vt mix QY Fq [] g0 rfl (fun _ _=>rfl) fun O x=>by kernel_rfl
theorem Lc:Vd Tryz.prog 12 BI:=vt mix Ya Ll [] g0 rfl (fun _ _=>rfl) fun O x=>by kernel_rfl
theorem qC:Vd Tryz.prog 27 Iu:=vt mix cH Mu [] g0 rfl (fun _ _=>rfl) fun O x=>by kernel_rfl
theorem qL:Vd Tryz.prog 15 I1:=vt mix bh Mr [(12,BI),(27,Iu)] (gs Lc (gs qC g0)) rfl (fun _ _=>rfl) fun O x=>by kernel_rfl
theorem uq:Vd Tryz.prog 51 MP:=vt mix gf Rb [] g0 rfl (fun _ _=>rfl) fun O x=>by kernel_rfl
theorem XH:Vd Tryz.prog 65 Cs:=vt mix Wy Wu [] g0 rfl (fun _ _=>rfl) fun O x=>by kernel_rfl
theorem mF:Vd Tryz.prog 52 GQ:=vt mix Wt KC [(65,Cs)] (gs XH g0) rfl (fun _ _=>rfl) fun O x=>by kernel_rfl
theorem nC:Vd Tryz.prog 53 Hy:=vt mix ZE LW [(65,Cs)] (gs XH g0) rfl (fun _ _=>rfl) fun O x=>by kernel_rfl
theorem C7:Vd Tryz.prog 39 AW:=vt mix bV NI [(51,MP),(52,GQ),(53,Hy)] (gs uq (gs mF (gs nC g0))) rfl (fun _ _=>rfl) fun O x=>by kernel_rfl
theorem Zf:Vd Tryz.prog 70 DQ:=fun N h =>
 RL mix (T:=33) (e:=107) (b:=24) Tryz.func70 Tryz.underlying33 (by kernel_rfl) (by decide) (fun O l=>by kernel_rfl) (fun O l=>by kernel_rfl) h
theorem bT:Vd Tryz.prog 63 Da:=vt mix bE NS [(70,DQ)] (gs Zf g0) rfl (fun _ _=>rfl) fun O x=>by kernel_rfl
theorem u6:Vd Tryz.prog 48 R3:=vt mix gp RT [(39,AW),(63,Da)] (gs C7 (gs bT g0)) rfl (fun _ _=>rfl) fun O x=>by kernel_rfl
theorem En:Vd Tryz.prog 107 Aq:=vt mix Th TW [] g0 rfl (fun _ _=>rfl) fun O x=>by kernel_rfl
theorem gI:Vd Tryz.prog 108 Ei:=vt mix TY HE [(107,Aq)] (gs En g0) rfl (fun _ _=>rfl) fun O x=>by kernel_rfl
theorem di:Vd Tryz.prog 144 EF:=vt mix SN GK [] g0 rfl (fun _ _=>rfl) fun O x=>by kernel_rfl
theorem HQ:Vd Tryz.prog 130 Aw:=vt mix Nw EU [(144,EF)] (gs di g0) rfl (fun _ _=>rfl) fun O x=>by kernel_rfl
theorem cY:Vd Tryz.prog 109 Dl:=vt mix QU Fr [(107,Aq),(130,Aw)] (gs En (gs HQ g0)) rfl (fun _ _=>rfl) fun O x=>by kernel_rfl
theorem cV:Vd Tryz.prog 132 Dq:=vt mix Qa Fp [(107,Aq)] (gs En g0) rfl (fun _ _=>rfl) fun O x=>by kernel_rfl
theorem f9:Vd Tryz.prog 110 Eo:=vt mix TQ G9 [(132,Dq)] (gs cV g0) rfl (fun _ _=>rfl) fun O x=>by kernel_rfl
theorem OV:Vd Tryz.prog 82 BS:=vt mix WO Jm [(39,AW),(107,Aq),(108,Ei),(109,Dl),(110,Eo)] (gs C7 (gs En (gs gI (gs cY (gs f9 g0))))) rfl (fun _ _=>rfl) fun O x=>by kernel_rfl
theorem NU:Vd Tryz.prog 90 BT:=vt mix cM NF [] g0 rfl (fun _ _=>rfl) fun O x=>by kernel_rfl
theorem bU:Vd Tryz.prog 83 Dd:=vt mix bA Mv [(90,BT)] (gs NU g0) rfl (fun _ _=>rfl) fun O x=>by kernel_rfl
theorem pl:Vd Tryz.prog 84 I9:=vt mix bg NR [] g0 rfl (fun _ _=>rfl) fun O x=>by kernel_rfl
theorem bX:Vd Tryz.prog 71 Dc:=vt mix bG Mo [(39,AW),(82,BS),(83,Dd),(84,I9)] (gs C7 (gs OV (gs bU (gs pl g0)))) rfl (fun _ _=>rfl) fun O x=>by kernel_rfl
theorem nN:Vd Tryz.prog 85 Hn:=vt mix Yo LQ [] g0 rfl (fun _ _=>rfl) fun O x=>by kernel_rfl
theorem mZ:Vd Tryz.prog 86 Gc:=vt mix W8 O2 [] g0 rfl (fun _ _=>rfl) fun O x=>by kernel_rfl
open Go.RowKit Go.Lib in
set_option maxHeartbeats 1000000 in
theorem T0 (s:ByteArray) (c:Int) (w:World):Calls Tryz.prog 133 #[.string s,.int .u8 c] w fun e w'=>e=.returned (.int .i64 (Lib.indexByte s.data.toList c.toNat.toUInt8))∧w'=w:=by
 go_enter Tryz.func133,Tryz.ntmps133
 go_wp2
 rw [run_callFunc_extern Tryz.func146 (by kernel_rfl) (by kernel_rfl) (by kernel_rfl) (e:=Extern.BytealgIndexByte.indexByte) (by kernel_rfl),Lib.run_indexByteString]
 simp only [Result.andThen]
 rw [Oper.upon_value]
 go_wp2
 go_ret
 exact ⟨rfl,rfl⟩
theorem Vu:Vd Tryz.prog 133 Ci:=fun N h =>
 uo Tryz.func133 (T9:=9) (T5:=5) (T3:=3) rfl rfl Tryz.underlying9 Tryz.underlying5 Tryz.underlying3 (by kernel_rfl) T0 h
theorem cl:Vd Tryz.prog 111 Dp:=vt mix QT Fn [(133,Ci)] (gs Vu g0) rfl (fun _ _=>rfl) fun O x=>by kernel_rfl
theorem pW:Vd Tryz.prog 112 F9:=vt mix bN bK [] g0 rfl (fun _ _=>rfl) fun O x=>by kernel_rfl
theorem sS:Vd Tryz.prog 87 Kg:=vt mix eY Oy [(111,Dp),(112,F9)] (gs cl (gs pW g0)) rfl (fun _ _=>rfl) fun O x=>by kernel_rfl
theorem fE:Vd Tryz.prog 113 EA:=vt mix SJ KM [] g0 rfl (fun _ _=>rfl) fun O x=>by kernel_rfl
theorem jc:Vd Tryz.prog 88 FZ:=vt mix U0 IX [(113,EA)] (gs fE g0) rfl (fun _ _=>rfl) fun O x=>by kernel_rfl
theorem bv:Vd Tryz.prog 72 Db:=vt mix au I8 [(85,Hn),(86,Gc),(87,Kg),(88,FZ)] (gs nN (gs mZ (gs sS (gs jc g0)))) rfl (fun _ _=>rfl) fun O x=>by kernel_rfl
theorem EM:Vd Tryz.prog 114 AY:=fun N h =>
 RL mix (T:=64) (e:=144) (b:=1) Tryz.func114 Tryz.underlying64 (by kernel_rfl) (by decide) (fun O l=>by kernel_rfl) (fun O l=>by kernel_rfl) h
theorem GT:Vd Tryz.prog 115 Al:=fun N h =>
 RL mix (T:=30) (e:=3) (b:=8) Tryz.func115 Tryz.underlying30 (by kernel_rfl) (by decide) (fun O l=>by kernel_rfl) (fun O l=>by kernel_rfl) h
theorem Fo:Vd Tryz.prog 116 Ah:=fun N h =>
 RL mix (T:=65) (e:=4) (b:=1) Tryz.func116 Tryz.underlying65 (by kernel_rfl) (by decide) (fun O l=>by kernel_rfl) (fun O l=>by kernel_rfl) h
theorem Cq:Vd Tryz.prog 89 AS:=vt mix Wa Jw [(114,AY),(115,Al),(116,Ah)] (gs EM (gs GT (gs Fo g0))) rfl (fun _ _=>rfl) fun O x=>by kernel_rfl
theorem py:Vd Tryz.prog 73 JC:=vt mix bH NC [(63,Da),(89,AS)] (gs bT (gs Cq g0)) rfl (fun _ _=>rfl) fun O x=>by kernel_rfl
theorem Sz:Vd Tryz.prog 94 B8:=vt mix bW NT [] g0 rfl (fun _ _=>rfl) fun O x=>by kernel_rfl
theorem R7:Vd Tryz.prog 120 Bz:=vt mix SW Gi [] g0 rfl (fun _ _=>rfl) fun O x=>by kernel_rfl
theorem kv:Vd Tryz.prog 95 Gk:=vt mix W0 Jt [(71,Dc),(90,BT),(94,B8),(120,Bz)] (gs bX (gs NU (gs Sz (gs R7 g0)))) rfl (fun _ _=>rfl) fun O x=>by kernel_rfl
theorem kP:Vd Tryz.prog 117 GV:=vt mix WE Jl [(39,AW),(107,Aq)] (gs C7 (gs En g0)) rfl (fun _ _=>rfl) fun O x=>by kernel_rfl
theorem nY:Vd Tryz.prog 118 Hq:=vt mix ZL LF [(90,BT),(94,B8)] (gs NU (gs Sz g0)) rfl (fun _ _=>rfl) fun O x=>by kernel_rfl
theorem gL:Vd Tryz.prog 148 Es:=vt mix TP Ly [] g0 rfl (fun _ _=>rfl) fun O x=>by kernel_rfl
theorem kq:Vd Tryz.prog 134 Gl:=vt mix WS J3 [(148,Es)] (gs gL g0) rfl (fun _ _=>rfl) fun O x=>by kernel_rfl
theorem H3:Vd Tryz.prog 180 A6:=vt mix eO PA [(114,AY),(115,Al),(116,Ah)] (gs EM (gs GT (gs Fo g0))) rfl (fun _ _=>rfl) fun O x=>by kernel_rfl
theorem j9:Vd Tryz.prog 206 DA:=vt mix Vi NW [] g0 rfl (fun _ _=>rfl) fun O x=>by kernel_rfl
theorem ZM:Vd Tryz.prog 181 CE:=vt mix YO FJ [(206,DA)] (gs j9 g0) rfl (fun _ _=>rfl) fun O x=>by kernel_rfl
theorem H9:Vd Tryz.prog 182 A5:=vt mix YV Lo [] g0 rfl (fun _ _=>rfl) fun O x=>by kernel_rfl
theorem qI:Vd Tryz.prog 149 I6:=vt mix bJ M8 [(180,A6),(181,CE),(182,A5)] (gs H3 (gs ZM (gs H9 g0))) rfl (fun _ _=>rfl) fun O x=>by kernel_rfl
theorem X4:Vd Tryz.prog 183 C2:=vt mix iy Rn [(114,AY),(115,Al),(116,Ah)] (gs EM (gs GT (gs Fo g0))) rfl (fun _ _=>rfl) fun O x=>by kernel_rfl
theorem S4:Vd Tryz.prog 207 B9:=vt mix bZ Mz [] g0 rfl (fun _ _=>rfl) fun O x=>by kernel_rfl
theorem qi:Vd Tryz.prog 208 K4:=vt mix dG Ou [(39,AW),(207,B9)] (gs C7 (gs S4 g0)) rfl (fun _ _=>rfl) fun O x=>by kernel_rfl
theorem uM:Vd Tryz.prog 184 Mf:=vt mix jD RU [(39,AW),(130,Aw),(207,B9),(208,K4)] (gs C7 (gs HQ (gs S4 (gs qi g0)))) rfl (fun _ _=>rfl) fun O x=>by kernel_rfl
theorem tT:Vd Tryz.prog 150 Ko:=vt mix dN Of [(183,C2),(184,Mf)] (gs X4 (gs uM g0)) rfl (fun _ _=>rfl) fun O x=>by kernel_rfl
theorem cT:Vd Tryz.prog 55 Dr:=vt mix QX Fm [] g0 rfl (fun _ _=>rfl) fun O x=>by kernel_rfl
theorem Uu:Vd Tryz.prog 42 Ca:=vt mix U8 Ik [(55,Dr)] (gs cT g0) rfl (fun _ _=>rfl) fun O x=>by kernel_rfl
theorem cg:Vd Tryz.prog 43 Dn:=vt mix QV Fl [] g0 rfl (fun _ _=>rfl) fun O x=>by kernel_rfl
theorem HF:Vd Tryz.prog 30 A3:=vt mix TZ HH [(42,Ca),(43,Dn)] (gs Uu (gs cg g0)) rfl (fun _ _=>rfl) fun O x=>by kernel_rfl
theorem VG:Vd Tryz.prog 31 CY:=vt mix VY VX [] g0 rfl (fun _ _=>rfl) fun O x=>by kernel_rfl
theorem Pi:Vd Tryz.prog 163 BR:=vt mix WL ET [(181,CE)] (gs ZM g0) rfl (fun _ _=>rfl) fun O x=>by kernel_rfl
theorem JA:Vd Tryz.prog 192 BB:=vt mix ar NV [] g0 rfl (fun _ _=>rfl) fun O x=>by kernel_rfl
theorem Ic:Vd Tryz.prog 193 BA:=vt mix Uf Il [(192,BB)] (gs JA g0) rfl (fun _ _=>rfl) fun O x=>by kernel_rfl
theorem lL:Vd Tryz.prog 219 Gm:=vt mix Wd J0 [] g0 rfl (fun _ _=>rfl) fun O x=>by kernel_rfl
theorem qF:Vd Tryz.prog 209 I4:=vt mix bD Mp [(192,BB),(193,BA),(219,Gm)] (gs JA (gs Ic (gs lL g0))) rfl (fun _ _=>rfl) fun O x=>by kernel_rfl
theorem Tc:Vd Tryz.prog 224 Br:=vt mix Tg TO [] g0 rfl (fun _ _=>rfl) fun O x=>by kernel_rfl
theorem ny:Vd Tryz.prog 220 H5:=vt mix Yj LU [(224,Br)] (gs Tc g0) rfl (fun _ _=>rfl) fun O x=>by kernel_rfl
theorem dx:Vd Tryz.prog 225 EI:=vt mix R8 Gj [] g0 rfl (fun _ _=>rfl) fun O x=>by kernel_rfl
theorem ZR:Vd Tryz.prog 221 DE:=vt mix N8 ER [(225,EI)] (gs dx g0) rfl (fun _ _=>rfl) fun O x=>by kernel_rfl
theorem dM:Vd Tryz.prog 226 EE:=vt mix SY Gg [] g0 rfl (fun _ _=>rfl) fun O x=>by kernel_rfl
theorem kK:Vd Tryz.prog 222 Fe:=vt mix Ut Ij [(224,Br),(226,EE)] (gs Tc (gs dM g0)) rfl (fun _ _=>rfl) fun O x=>by kernel_rfl
theorem X7:Vd Tryz.prog 227 Cy:=vt mix Ma Dz [] g0 rfl (fun _ _=>rfl) fun O x=>by kernel_rfl
theorem aY:Vd Tryz.prog 223 DM:=vt mix PG Ey [(227,Cy)] (gs X7 g0) rfl (fun _ _=>rfl) fun O x=>by kernel_rfl
theorem aq:Vd Tryz.prog 210 DY:=vt mix P9 E5 [(220,H5),(221,DE),(222,Fe),(223,DM)] (gs ny (gs ZR (gs kK (gs aY g0)))) rfl (fun _ _=>rfl) fun O x=>by kernel_rfl
theorem pX:Vd Tryz.prog 211 I0:=vt mix bi NE [(192,BB),(193,BA)] (gs JA (gs Ic g0)) rfl (fun _ _=>rfl) fun O x=>by kernel_rfl
theorem gJ:Vd Tryz.prog 185 Ew:=vt mix TX HC [(42,Ca),(163,BR),(209,I4),(210,DY),(211,I0)] (gs Uu (gs Pi (gs qF (gs aq (gs pX g0))))) rfl (fun _ _=>rfl) fun O x=>by kernel_rfl
theorem rz:Vd Tryz.prog 186 Km:=vt mix de Pm [(180,A6),(182,A5)] (gs H3 (gs H9 g0)) rfl (fun _ _=>rfl) fun O x=>by kernel_rfl
theorem sY:Vd Tryz.prog 187 Kq:=vt mix fM O4 [(39,AW),(130,Aw),(183,C2),(207,B9)] (gs C7 (gs HQ (gs X4 (gs S4 g0)))) rfl (fun _ _=>rfl) fun O x=>by kernel_rfl
theorem lW:Vd Tryz.prog 188 GN:=vt mix WW Jp [(180,A6)] (gs H3 g0) rfl (fun _ _=>rfl) fun O x=>by kernel_rfl
theorem nn:Vd Tryz.prog 151 HW:=vt mix YN Le [(30,A3),(31,CY),(89,AS),(185,Ew),(186,Km),(187,Kq),(188,GN)] (gs HF (gs VG (gs Cq (gs gJ (gs rz (gs sY (gs lW g0))))))) rfl (fun _ _=>rfl) fun O x=>by kernel_rfl
theorem eH:Vd Tryz.prog 189 D5:=vt mix dQ PR [(163,BR),(182,A5)] (gs Pi (gs H9 g0)) rfl (fun _ _=>rfl) fun O x=>by kernel_rfl
theorem jM:Vd Tryz.prog 152 Fd:=vt mix Vo IR [(180,A6),(182,A5),(189,D5)] (gs H3 (gs H9 (gs eH g0))) rfl (fun _ _=>rfl) fun O x=>by kernel_rfl
theorem nQ:Vd Tryz.prog 153 HZ:=vt mix YF Lm [(180,A6),(189,D5)] (gs H3 (gs eH g0)) rfl (fun _ _=>rfl) fun O x=>by kernel_rfl
theorem br:Vd Tryz.prog 164 C9:=vt mix bn GB [] g0 rfl (fun _ _=>rfl) fun O x=>by kernel_rfl
theorem lw:Vd Tryz.prog 154 GO:=vt mix XG J4 [(164,C9),(180,A6),(182,A5)] (gs br (gs H3 (gs H9 g0))) rfl (fun _ _=>rfl) fun O x=>by kernel_rfl
theorem XN:Vd Tryz.prog 191 Cz:=vt mix i9 RQ [(114,AY),(115,Al),(116,Ah)] (gs EM (gs GT (gs Fo g0))) rfl (fun _ _=>rfl) fun O x=>by kernel_rfl
theorem mX:Vd Tryz.prog 155 GR:=vt mix XC Jy [(191,Cz)] (gs XN g0) rfl (fun _ _=>rfl) fun O x=>by kernel_rfl
theorem mw:Vd Tryz.prog 156 H8:=vt mix Y6 LZ [(191,Cz),(192,BB),(193,BA)] (gs XN (gs JA (gs Ic g0))) rfl (fun _ _=>rfl) fun O x=>by kernel_rfl
theorem eK:Vd Tryz.prog 157 EH:=vt mix Sg GL [(191,Cz),(192,BB),(193,BA)] (gs XN (gs JA (gs Ic g0))) rfl (fun _ _=>rfl) fun O x=>by kernel_rfl
theorem ma:Vd Tryz.prog 158 Gb:=vt mix WU J7 [(39,AW),(183,C2)] (gs C7 (gs X4 g0)) rfl (fun _ _=>rfl) fun O x=>by kernel_rfl
theorem f8:Vd Tryz.prog 159 Eu:=vt mix TU HK [(89,AS)] (gs Cq g0) rfl (fun _ _=>rfl) fun O x=>by kernel_rfl
theorem Te:Vd Tryz.prog 137 CL:=vt mix Ta HG [(89,AS)] (gs Cq g0) rfl (fun _ _=>rfl) fun O x=>by kernel_rfl
theorem gC:Vd Tryz.prog 160 Er:=vt mix Tb HB [(89,AS),(137,CL)] (gs Cq (gs Te g0)) rfl (fun _ _=>rfl) fun O x=>by kernel_rfl
theorem jH:Vd Tryz.prog 161 FP:=vt mix Vl FN [(89,AS)] (gs Cq g0) rfl (fun _ _=>rfl) fun O x=>by kernel_rfl
theorem mJ:Vd Tryz.prog 54 Gf:=vt mix XI Wk [] g0 rfl (fun _ _=>rfl) fun O x=>by kernel_rfl
theorem j7:Vd Tryz.prog 162 Fi:=vt mix U9 IV [(54,Gf),(89,AS)] (gs mJ (gs Cq g0)) rfl (fun _ _=>rfl) fun O x=>by kernel_rfl
theorem gF:Vd Tryz.prog 135 Eh:=vt mix Td Ee [(149,I6),(150,Ko),(151,HW),(152,Fd),(153,HZ),(154,GO),(155,GR),(156,H8),(157,EH),(158,Gb),(159,Eu),(160,Er),(161,FP),(162,Fi)] (gs qI (gs tT (gs nn (gs jM (gs nQ (gs lw (gs mX (gs mw (gs eK (gs ma (gs f8 (gs gC (gs jH (gs j7 g0)))))))))))))) rfl (fun _ _=>rfl) fun O x=>by kernel_rfl
theorem j6:Vd Tryz.prog 136 Du:=vt mix VH IZ [(82,BS),(163,BR),(164,C9)] (gs OV (gs Pi (gs br g0))) rfl (fun _ _=>rfl) fun O x=>by kernel_rfl
theorem mi:Vd Tryz.prog 119 Ht:=vt mix Yr Ls [(72,Db),(82,BS),(89,AS),(134,Gl),(135,Eh),(136,Du)] (gs bv (gs OV (gs Cq (gs kq (gs gF (gs j6 g0)))))) rfl (fun _ _=>rfl) fun O x=>by kernel_rfl
theorem qj:Vd Tryz.prog 64 PF:=vt mix eo Pr [(71,Dc),(72,Db),(73,JC),(83,Dd),(90,BT),(94,B8),(95,Gk),(117,GV),(118,Hq),(119,Ht),(120,Bz),(137,CL)] (gs bX (gs bv (gs py (gs bU (gs NU (gs Sz (gs kv (gs kP (gs nY (gs mi (gs R7 (gs Te g0)))))))))))) rfl (fun _ _=>rfl) fun O x=>by kernel_rfl
def ka:Cfg:={ gam:=[⟨64,[],true,true,[]⟩],imm:=false,old:=false }
theorem uz (O:Alg) (x:Ags O):XF (O:=O) Tryz.prog ka false false [] 49 [] (xr x aU 0)=Oa O x:=by kernel_rfl
theorem xH {E:Env} {M:Nat} (N:Nat) (h:∀ ls,E 49 [] ls=Ow N ls):VV Tryz.prog E M ⟨49,[],false,false,[]⟩ :=
 BG mix (E:=Hw N) (N:=N) (cfg:=ka) (ci:=⟨49,[],false,false,[]⟩) (ks:=aU) (AK (qj N (fun _=>rfl)) B0) (c:=Ow N) (F:=fun ls=>Oa (std (Hw N) N) (xOf ls)) (fun ls=>rfl) (fun ls=>uz (std (Hw N) N) (xOf ls)) h
theorem l6:Vd Tryz.prog 50 J9:=vt mix WB KB [(30,A3)] (gs HF g0) rfl (fun _ _=>rfl) fun O x=>by kernel_rfl
def lS:Cfg:={ gam:=[⟨48,[],true,true,[]⟩,⟨49,[],false,false,[]⟩,⟨50,[],true,true,[]⟩],imm:=false,old:=true,ie:=[77,27,3,107,45,67,144,4,5,124,140,59,73,190] }
theorem tw (O:Alg) (x:Ags O):XF (O:=O) Tryz.prog lS false false [] 38 [] (xr x aV 0)=PO O x:=by kernel_rfl
theorem wq {E:Env} {M:Nat} (N:Nat) (h:∀ ls,E 38 [] ls=Pa N ls):VV Tryz.prog E M ⟨38,[],false,false,[]⟩ :=
 BG mix (E:=ED N) (N:=N) (cfg:=lS) (ci:=⟨38,[],false,false,[]⟩) (ks:=aV) (AK (u6 N (fun _=>rfl)) (AK (xH N (fun _=>rfl)) (AK (l6 N (fun _=>rfl)) B0))) (c:=Pa N) (F:=fun ls=>PO (std (ED N) N) (xOf ls)) (fun ls=>rfl) (fun ls=>tw (std (ED N) N) (xOf ls)) h
def eC:Cfg:={ gam:=[⟨38,[],false,false,[]⟩],imm:=false,old:=false }
theorem pp (O:Alg) (x:Ags O):XF (O:=O) Tryz.prog eC false false [] 22 [] (xr x VI 0)=KK O x:=by kernel_rfl
theorem rC {E:Env} {M:Nat} (N:Nat) (h:∀ ls,E 22 [] ls=Kr N ls):VV Tryz.prog E M ⟨22,[],false,false,[]⟩ :=
 BG mix (E:=FF N) (N:=N) (cfg:=eC) (ci:=⟨22,[],false,false,[]⟩) (ks:=VI) (AK (wq N (fun _=>rfl)) B0) (c:=Kr N) (F:=fun ls=>KK (std (FF N) N) (xOf ls)) (fun ls=>rfl) (fun ls=>pp (std (FF N) N) (xOf ls)) h
def gd:Cfg:={ gam:=[⟨22,[],false,false,[]⟩,⟨39,[],true,true,[]⟩],imm:=false,old:=false }
theorem tB (O:Alg) (x:Ags O):XF (O:=O) Tryz.prog gd true true [] 23 [] (xr x X6 0)=MO O x:=by kernel_rfl
theorem ge:Vd Tryz.prog 23 D4:=fun N h =>
 BG mix (E:=Ec N) (N:=N) (cfg:=gd) (ci:=⟨23,[],true,true,[]⟩) (ks:=X6) (AK (rC N (fun _=>rfl)) (AK (C7 N (fun _=>rfl)) B0)) (c:=D4 N) (F:=fun ls=>MO (std (Ec N) N) (xOf ls)) (fun ls=>rfl) (fun ls=>tB (std (Ec N) N) (xOf ls)) h
theorem uW:Vd Tryz.prog 29 MT:=vt mix ic R4 [] g0 rfl (fun _ _=>rfl) fun O x=>by kernel_rfl
theorem vG:Vd Tryz.prog 32 JV:=vt mix hC RO [] g0 rfl (fun _ _=>rfl) fun O x=>by kernel_rfl
theorem YU:Vd Tryz.prog 17 DD:=vt mix ZN Lg [(12,BI),(15,I1),(23,D4),(29,MT),(30,A3),(31,CY),(32,JV)] (gs Lc (gs qL (gs ge (gs uW (gs HF (gs VG (gs vG g0))))))) rfl (fun _ _=>rfl) fun O x=>by kernel_rfl
theorem Oh:Vd Tryz.prog 19 B2:=vt mix PU E4 [] g0 rfl (fun _ _=>rfl) fun O x=>by kernel_rfl
theorem kl:Vd Tryz.prog 20 EX:=vt mix Wi Jr [(12,BI),(23,D4),(30,A3)] (gs Lc (gs ge (gs HF g0))) rfl (fun _ _=>rfl) fun O x=>by kernel_rfl
theorem tx:Vd Tryz.prog 25 Md:=vt mix iL hO [] g0 rfl (fun _ _=>rfl) fun O x=>by kernel_rfl
theorem uN:Vd Tryz.prog 41 X1:=vt mix ip gu [] g0 rfl (fun _ _=>rfl) fun O x=>by kernel_rfl
theorem yN:Vd Tryz.prog 26 Sn:=vt mix oi pB [(41,X1)] (gs uN g0) rfl (fun _ _=>rfl) fun O x=>by kernel_rfl
theorem vK:Vd Tryz.prog 9 MR:=vt mix gm Rl [(11,Dk),(12,BI),(17,DD),(19,B2),(20,EX),(25,Md),(26,Sn)] (gs cQ (gs Lc (gs YU (gs Oh (gs kl (gs tx (gs yN g0))))))) rfl (fun _ _=>rfl) fun O x=>by kernel_rfl
def oy:Cfg:={ gam:=[],imm:=false,old:=false }
theorem xT (O:Alg) (x:Ags O):XF (O:=O) Tryz.prog oy false false [] 10 [] (xr x fK 0)=Sl O x:=by kernel_rfl
theorem yh {E:Env} {M:Nat} (N:Nat) (h:∀ ls,E 10 [] ls=SK N ls):VV Tryz.prog E M ⟨10,[],false,false,[]⟩ :=
 BG mix (E:=MY N) (N:=N) (cfg:=oy) (ci:=⟨10,[],false,false,[]⟩) (ks:=fK) B0 (c:=SK N) (F:=fun ls=>Sl (std (MY N) N) (xOf ls)) (fun ls=>rfl) (fun ls=>xT (std (MY N) N) (xOf ls)) h
theorem eh:Vd Tryz.prog 13 D9:=vt mix dc Pz [] g0 rfl (fun _ _=>rfl) fun O x=>by kernel_rfl
theorem u4:Vd Tryz.prog 28 MV:=vt mix iC RS [] g0 rfl (fun _ _=>rfl) fun O x=>by kernel_rfl
theorem uh:Vd Tryz.prog 16 ML:=vt mix iv Rv [(13,D9),(28,MV)] (gs eh (gs u4 g0)) rfl (fun _ _=>rfl) fun O x=>by kernel_rfl
theorem wZ:Vd Tryz.prog 56 Pd:=vt mix mS T4 [] g0 rfl (fun _ _=>rfl) fun O x=>by kernel_rfl
theorem zd:Vd Tryz.prog 57 Ud:=vt mix tK rQ [] g0 rfl (fun _ _=>rfl) fun O x=>by kernel_rfl
theorem Dy:Vd Tryz.prog 44 Aj:=vt mix gP Rw [(56,Pd),(57,Ud)] (gs wZ (gs zd g0)) rfl (fun _ _=>rfl) fun O x=>by kernel_rfl
theorem gt:Vd Tryz.prog 66 FC:=vt mix hZ Ra [] g0 rfl (fun _ _=>rfl) fun O x=>by kernel_rfl
theorem zC:Vd Tryz.prog 58 WN:=vt mix oK Wl [(44,Aj),(66,FC)] (gs Dy (gs gt g0)) rfl (fun _ _=>rfl) fun O x=>by kernel_rfl
theorem CH:Vd Tryz.prog 122 AQ:=vt mix ib Rp [] g0 rfl (fun _ _=>rfl) fun O x=>by kernel_rfl
theorem XZ:Vd Tryz.prog 96 DK:=vt mix gZ Rj [(122,AQ)] (gs CH g0) rfl (fun _ _=>rfl) fun O x=>by kernel_rfl
theorem vO:Vd Tryz.prog 76 Rd:=vt mix iq Ry [(66,FC),(96,DK)] (gs gt (gs XZ g0)) rfl (fun _ _=>rfl) fun O x=>by kernel_rfl
theorem jG:Vd Tryz.prog 138 Fh:=vt mix tF tS [] g0 rfl (fun _ _=>rfl) fun O x=>by kernel_rfl
theorem ya:Vd Tryz.prog 139 So:=vt mix oO W2 [(138,Fh)] (gs jG g0) rfl (fun _ _=>rfl) fun O x=>by kernel_rfl
theorem Rk:Vd Tryz.prog 141 Bj:=vt mix iB JT [] g0 rfl (fun _ _=>rfl) fun O x=>by kernel_rfl
theorem pf:Vd Tryz.prog 140 JB:=vt mix cK Mt [(141,Bj)] (gs Rk g0) rfl (fun _ _=>rfl) fun O x=>by kernel_rfl
theorem XV:Vd Tryz.prog 123 Cw:=vt mix gh RJ [(44,Aj),(138,Fh),(139,So),(140,JB)] (gs Dy (gs jG (gs ya (gs pf g0)))) rfl (fun _ _=>rfl) fun O x=>by kernel_rfl
theorem L5:Vd Tryz.prog 102 CA:=vt mix gX R5 [] g0 rfl (fun _ _=>rfl) fun O x=>by kernel_rfl
theorem dy:Vd Tryz.prog 124 Fb:=vt mix eV Ov [(102,CA)] (gs L5 g0) rfl (fun _ _=>rfl) fun O x=>by kernel_rfl
theorem lB:Vd Tryz.prog 97 GM:=vt mix WD KA [(123,Cw),(124,Fb)] (gs XV (gs dy g0)) rfl (fun _ _=>rfl) fun O x=>by kernel_rfl
theorem XK:Vd Tryz.prog 77 FA:=vt mix gW RV [(44,Aj),(97,GM)] (gs Dy (gs lB g0)) rfl (fun _ _=>rfl) fun O x=>by kernel_rfl
theorem sQ:Vd Tryz.prog 98 KN:=vt mix et Oe [] g0 rfl (fun _ _=>rfl) fun O x=>by kernel_rfl
theorem we:Vd Tryz.prog 99 Po:=vt mix l7 Tk [] g0 rfl (fun _ _=>rfl) fun O x=>by kernel_rfl
theorem AAM:Vd Tryz.prog 100 U3:=vt mix sG jW [] g0 rfl (fun _ _=>rfl) fun O x=>by kernel_rfl
theorem AAN:Vd Tryz.prog 125 Vg:=vt mix qq ja [] g0 rfl (fun _ _=>rfl) fun O x=>by kernel_rfl
theorem u7:Vd Tryz.prog 101 L8:=vt mix iP Rz [(125,Vg)] (gs AAN g0) rfl (fun _ _=>rfl) fun O x=>by kernel_rfl
theorem iV:Vd Tryz.prog 78 JU:=vt mix iz RZ [(98,KN),(99,Po),(100,U3),(101,L8)] (gs sQ (gs we (gs AAM (gs u7 g0)))) rfl (fun _ _=>rfl) fun O x=>by kernel_rfl
theorem Xy:Vd Tryz.prog 105 FE:=vt mix jA Rf [] g0 rfl (fun _ _=>rfl) fun O x=>by kernel_rfl
def mR:Cfg:={ gam:=[],imm:=false,old:=false }
theorem vB (O:Alg) (x:Ags O):XF (O:=O) Tryz.prog mR false false [] 80 [] (xr x ZV 0)=QE O x:=by kernel_rfl
theorem T7 {E:Env} {M:Nat} (N:Nat) (h:∀ ls,E 80 [] ls=DN N ls):VV Tryz.prog E M ⟨80,[],false,false,[]⟩ :=
 BG mix (E:=K5 N) (N:=N) (cfg:=mR) (ci:=⟨80,[],false,false,[]⟩) (ks:=ZV) B0 (c:=DN N) (F:=fun ls=>QE (std (K5 N) N) (xOf ls)) (fun ls=>rfl) (fun ls=>vB (std (K5 N) N) (xOf ls)) h
def be:Cfg:={ gam:=[⟨77,[],true,true,[]⟩,⟨80,[],false,false,[]⟩,⟨124,[],true,true,[]⟩],imm:=false,old:=false }
theorem nU (O:Alg) (x:Ags O):XF (O:=O) Tryz.prog be true true [] 126 [] (xr x TJ 0)=I2 O x:=by kernel_rfl
theorem qD:Vd Tryz.prog 126 I7:=fun N h =>
 BG mix (E:=Cr N) (N:=N) (cfg:=be) (ci:=⟨126,[],true,true,[]⟩) (ks:=TJ) (AK (XK N (fun _=>rfl)) (AK (T7 N (fun _=>rfl)) (AK (dy N (fun _=>rfl)) B0))) (c:=I7 N) (F:=fun ls=>I2 (std (Cr N) N) (xOf ls)) (fun ls=>rfl) (fun ls=>nU (std (Cr N) N) (xOf ls)) h
theorem uj:Vd Tryz.prog 127 RK:=vt mix gx RX [(44,Aj),(138,Fh)] (gs Dy (gs jG g0)) rfl (fun _ _=>rfl) fun O x=>by kernel_rfl
theorem cE:Vd Tryz.prog 129 GD:=vt mix bO M1 [(96,DK)] (gs XZ g0) rfl (fun _ _=>rfl) fun O x=>by kernel_rfl
theorem Pf:Vd Tryz.prog 194 Bg:=vt mix ei Ps [] g0 rfl (fun _ _=>rfl) fun O x=>by kernel_rfl
theorem xW:Vd Tryz.prog 165 Tz:=vt mix lC Tv [(122,AQ),(141,Bj),(194,Bg)] (gs CH (gs Rk (gs Pf g0))) rfl (fun _ _=>rfl) fun O x=>by kernel_rfl
theorem Hg:Vd Tryz.prog 204 A7:=vt mix YG Li [] g0 rfl (fun _ _=>rfl) fun O x=>by kernel_rfl
theorem Uv:Vd Tryz.prog 212 CT:=vt mix cx PX [] g0 rfl (fun _ _=>rfl) fun O x=>by kernel_rfl
theorem xA:Vd Tryz.prog 213 Py:=vt mix lI UP [(44,Aj),(212,CT)] (gs Dy (gs Uv g0)) rfl (fun _ _=>rfl) fun O x=>by kernel_rfl
theorem oF:Vd Tryz.prog 214 II:=vt mix oJ We [] g0 rfl (fun _ _=>rfl) fun O x=>by kernel_rfl
theorem yr:Vd Tryz.prog 195 Sf:=vt mix oz Wp [(44,Aj),(204,A7),(212,CT),(213,Py),(214,II)] (gs Dy (gs Hg (gs Uv (gs xA (gs oF g0))))) rfl (fun _ _=>rfl) fun O x=>by kernel_rfl
theorem xR:Vd Tryz.prog 166 UI:=vt mix lg T8 [(122,AQ),(195,Sf)] (gs CH (gs yr g0)) rfl (fun _ _=>rfl) fun O x=>by kernel_rfl
theorem ik:Vd Tryz.prog 35 G0:=vt mix im ga [] g0 rfl (fun _ _=>rfl) fun O x=>by kernel_rfl
theorem zK:Vd Tryz.prog 68 Vj:=vt mix tJ jL [] g0 rfl (fun _ _=>rfl) fun O x=>by kernel_rfl
theorem nr:Vd Tryz.prog 69 HT:=vt mix Yx Lr [] g0 rfl (fun _ _=>rfl) fun O x=>by kernel_rfl
theorem iQ:Vd Tryz.prog 60 Gy:=vt mix gV R2 [(68,Vj),(69,HT)] (gs zK (gs nr g0)) rfl (fun _ _=>rfl) fun O x=>by kernel_rfl
theorem nA:Vd Tryz.prog 61 Hh:=vt mix ZI LH [] g0 rfl (fun _ _=>rfl) fun O x=>by kernel_rfl
theorem vI:Vd Tryz.prog 62 MH:=vt mix gS Rg [] g0 rfl (fun _ _=>rfl) fun O x=>by kernel_rfl
theorem dg:Vd Tryz.prog 46 FR:=vt mix dR PN [(60,Gy),(61,Hh),(62,MH)] (gs iQ (gs nA (gs vI g0))) rfl (fun _ _=>rfl) fun O x=>by kernel_rfl
theorem VT:Vd Tryz.prog 177 Cb:=vt mix fH Hb [(141,Bj)] (gs Rk g0) rfl (fun _ _=>rfl) fun O x=>by kernel_rfl
theorem Ol:Vd Tryz.prog 203 Bi:=vt mix cu PE [] g0 rfl (fun _ _=>rfl) fun O x=>by kernel_rfl
theorem pj:Vd Tryz.prog 215 JI:=vt mix bm NM [] g0 rfl (fun _ _=>rfl) fun O x=>by kernel_rfl
theorem uD:Vd Tryz.prog 196 R1:=vt mix jC RN [(203,Bi),(204,A7),(215,JI)] (gs Ol (gs Hg (gs pj g0))) rfl (fun _ _=>rfl) fun O x=>by kernel_rfl
theorem nv:Vd Tryz.prog 216 HP:=vt mix YJ LM [] g0 rfl (fun _ _=>rfl) fun O x=>by kernel_rfl
theorem zI:Vd Tryz.prog 217 U6:=vt mix qn ai [] g0 rfl (fun _ _=>rfl) fun O x=>by kernel_rfl
theorem rP:Vd Tryz.prog 218 KS:=vt mix dr P7 [] g0 rfl (fun _ _=>rfl) fun O x=>by kernel_rfl
theorem nW:Vd Tryz.prog 197 LL:=vt mix ZA LV [(216,HP),(217,U6),(218,KS)] (gs nv (gs zI (gs rP g0))) rfl (fun _ _=>rfl) fun O x=>by kernel_rfl
theorem tu:Vd Tryz.prog 198 Ru:=vt mix iS Rx [(203,Bi),(204,A7)] (gs Ol (gs Hg g0)) rfl (fun _ _=>rfl) fun O x=>by kernel_rfl
theorem dP:Vd Tryz.prog 201 Fk:=vt mix eJ P3 [(122,AQ)] (gs CH g0) rfl (fun _ _=>rfl) fun O x=>by kernel_rfl
theorem yy:Vd Tryz.prog 199 Wb:=vt mix pE W1 [(122,AQ),(194,Bg),(201,Fk)] (gs CH (gs Pf (gs dP g0))) rfl (fun _ _=>rfl) fun O x=>by kernel_rfl
theorem v8:Vd Tryz.prog 200 T6:=vt mix kj UK [(44,Aj),(122,AQ),(212,CT),(214,II)] (gs Dy (gs CH (gs Uv (gs oF g0)))) rfl (fun _ _=>rfl) fun O x=>by kernel_rfl
def mA:Cfg:={ gam:=[⟨35,[],true,true,[]⟩,⟨46,[],true,true,[]⟩,⟨60,[],true,true,[]⟩,⟨177,[],true,true,[]⟩,⟨196,[],true,true,[]⟩,⟨197,[],true,true,[]⟩,⟨198,[],true,true,[]⟩,⟨199,[],true,true,[]⟩,⟨200,[],true,true,[]⟩,⟨201,[],true,true,[]⟩],imm:=false,old:=false }
theorem vC (O:Alg) (x:Ags O):XF (O:=O) Tryz.prog mA false false [] 167 [] (xr x aE 0)=PD O x:=by kernel_rfl
theorem xc {E:Env} {M:Nat} (N:Nat) (h:∀ ls,E 167 [] ls=P6 N ls):VV Tryz.prog E M ⟨167,[],false,false,[]⟩ :=
 BG mix (E:=BV N) (N:=N) (cfg:=mA) (ci:=⟨167,[],false,false,[]⟩) (ks:=aE) (AK (ik N (fun _=>rfl)) (AK (dg N (fun _=>rfl)) (AK (iQ N (fun _=>rfl)) (AK (VT N (fun _=>rfl)) (AK (uD N (fun _=>rfl)) (AK (nW N (fun _=>rfl)) (AK (tu N (fun _=>rfl)) (AK (yy N (fun _=>rfl)) (AK (v8 N (fun _=>rfl)) (AK (dP N (fun _=>rfl)) B0)))))))))) (c:=P6 N) (F:=fun ls=>PD (std (BV N) N) (xOf ls)) (fun ls=>rfl) (fun ls=>vC (std (BV N) N) (xOf ls)) h
theorem go:Vd Tryz.prog 202 E7:=vt mix iM R0 [(177,Cb),(194,Bg)] (gs VT (gs Pf g0)) rfl (fun _ _=>rfl) fun O x=>by kernel_rfl
theorem qB:Vd Tryz.prog 168 Mq:=vt mix cJ NL [(122,AQ),(202,E7)] (gs CH (gs go g0)) rfl (fun _ _=>rfl) fun O x=>by kernel_rfl
theorem vF:Vd Tryz.prog 169 Re:=vt mix iA Rh [(122,AQ),(202,E7)] (gs CH (gs go g0)) rfl (fun _ _=>rfl) fun O x=>by kernel_rfl
theorem ke:Vd Tryz.prog 178 E3:=vt mix mI LP [] g0 rfl (fun _ _=>rfl) fun O x=>by kernel_rfl
theorem qk:Vd Tryz.prog 170 PW:=vt mix dH On [(122,AQ),(178,E3),(194,Bg)] (gs CH (gs ke (gs Pf g0))) rfl (fun _ _=>rfl) fun O x=>by kernel_rfl
theorem pT:Vd Tryz.prog 171 NP:=vt mix bC NG [(122,AQ)] (gs CH g0) rfl (fun _ _=>rfl) fun O x=>by kernel_rfl
theorem ql:Vd Tryz.prog 172 O9:=vt mix eE Ot [(122,AQ),(203,Bi),(204,A7)] (gs CH (gs Ol (gs Hg g0))) rfl (fun _ _=>rfl) fun O x=>by kernel_rfl
theorem jK:Vd Tryz.prog 173 IW:=vt mix Uj Ie [(122,AQ),(203,Bi),(204,A7)] (gs CH (gs Ol (gs Hg g0))) rfl (fun _ _=>rfl) fun O x=>by kernel_rfl
theorem pM:Vd Tryz.prog 174 ND:=vt mix bM M7 [(44,Aj),(122,AQ)] (gs Dy (gs CH g0)) rfl (fun _ _=>rfl) fun O x=>by kernel_rfl
def dC:Cfg:={ gam:=[],imm:=false,old:=false }
theorem pF (O:Alg) (x:Ags O):XF (O:=O) Tryz.prog dC false false [] 175 [] (xr x Uw 0)=HX O x:=by kernel_rfl
theorem sn {E:Env} {M:Nat} (N:Nat) (h:∀ ls,E 175 [] ls=Ku N ls):VV Tryz.prog E M ⟨175,[],false,false,[]⟩ :=
 BG mix (E:=IA N) (N:=N) (cfg:=dC) (ci:=⟨175,[],false,false,[]⟩) (ks:=Uw) B0 (c:=Ku N) (F:=fun ls=>HX (std (IA N) N) (xOf ls)) (fun ls=>rfl) (fun ls=>pF (std (IA N) N) (xOf ls)) h
theorem tz:Vd Tryz.prog 205 RI:=vt mix iT hY [] g0 rfl (fun _ _=>rfl) fun O x=>by kernel_rfl
def ep:Cfg:={ gam:=[⟨205,[],true,true,[]⟩],imm:=false,old:=false }
theorem qE (O:Alg) (x:Ags O):XF (O:=O) Tryz.prog ep false false [] 176 [] (xr x VZ 0)=Ka O x:=by kernel_rfl
theorem sU {E:Env} {M:Nat} (N:Nat) (h:∀ ls,E 176 [] ls=KL N ls):VV Tryz.prog E M ⟨176,[],false,false,[]⟩ :=
 BG mix (E:=FI N) (N:=N) (cfg:=ep) (ci:=⟨176,[],false,false,[]⟩) (ks:=VZ) (AK (tz N (fun _=>rfl)) B0) (c:=KL N) (F:=fun ls=>Ka (std (FI N) N) (xOf ls)) (fun ls=>rfl) (fun ls=>qE (std (FI N) N) (xOf ls)) h
def pA:Cfg:={ gam:=[⟨129,[],true,true,[]⟩,⟨165,[],true,true,[]⟩,⟨166,[],true,true,[]⟩,⟨167,[],false,false,[]⟩,⟨168,[],true,true,[]⟩,⟨169,[],true,true,[]⟩,⟨170,[],true,true,[]⟩,⟨171,[],true,true,[]⟩,⟨172,[],true,true,[]⟩,⟨173,[],true,true,[]⟩,⟨174,[],true,true,[]⟩,⟨175,[],false,false,[]⟩,⟨176,[],false,false,[]⟩],imm:=false,old:=false }
theorem xI (O:Alg) (x:Ags O):XF (O:=O) Tryz.prog pA false false [] 142 [] (xr x da 0)=N9 O x:=by kernel_rfl
theorem xp {E:Env} {M:Nat} (N:Nat) (h:∀ ls,E 142 [] ls=SE N ls):VV Tryz.prog E M ⟨142,[],false,false,[]⟩ :=
 BG mix (E:=BL N) (N:=N) (cfg:=pA) (ci:=⟨142,[],false,false,[]⟩) (ks:=da) (AK (cE N (fun _=>rfl)) (AK (xW N (fun _=>rfl)) (AK (xR N (fun _=>rfl)) (AK (xc N (fun _=>rfl)) (AK (qB N (fun _=>rfl)) (AK (vF N (fun _=>rfl)) (AK (qk N (fun _=>rfl)) (AK (pT N (fun _=>rfl)) (AK (ql N (fun _=>rfl)) (AK (jK N (fun _=>rfl)) (AK (pM N (fun _=>rfl)) (AK (sn N (fun _=>rfl)) (AK (sU N (fun _=>rfl)) B0))))))))))))) (c:=SE N) (F:=fun ls=>N9 (std (BL N) N) (xOf ls)) (fun ls=>rfl) (fun ls=>xI (std (BL N) N) (xOf ls)) h
theorem qt:Vd Tryz.prog 143 Kd:=vt mix dB Pn [(123,Cw),(177,Cb),(178,E3)] (gs XV (gs VT (gs ke g0))) rfl (fun _ _=>rfl) fun O x=>by kernel_rfl
def mC:Cfg:={ gam:=[⟨78,[],true,true,[]⟩,⟨96,[],true,true,[]⟩,⟨123,[],true,true,[]⟩,⟨141,[],true,true,[]⟩,⟨142,[],false,false,[]⟩,⟨143,[],true,true,[]⟩],imm:=false,old:=false }
theorem uJ (O:Alg) (x:Ags O):XF (O:=O) Tryz.prog mC false false [] 128 [] (xr x aA 0)=Pv O x:=by kernel_rfl
theorem ki {E:Env} {M:Nat} (N:Nat) (h:∀ ls,E 128 [] ls=Ii N ls):VV Tryz.prog E M ⟨128,[],false,false,[]⟩ :=
 BG mix (E:=CV N) (N:=N) (cfg:=mC) (ci:=⟨128,[],false,false,[]⟩) (ks:=aA) (AK (iV N (fun _=>rfl)) (AK (XZ N (fun _=>rfl)) (AK (XV N (fun _=>rfl)) (AK (Rk N (fun _=>rfl)) (AK (xp N (fun _=>rfl)) (AK (qt N (fun _=>rfl)) B0)))))) (c:=Ii N) (F:=fun ls=>Pv (std (CV N) N) (xOf ls)) (fun ls=>rfl) (fun ls=>uJ (std (CV N) N) (xOf ls)) h
def ll:Cfg:={ gam:=[⟨102,[],true,true,[]⟩,⟨105,[],true,true,[]⟩,⟨126,[],true,true,[]⟩,⟨127,[],true,true,[]⟩,⟨128,[],false,false,[]⟩],imm:=false,old:=false }
theorem uC (O:Alg) (x:Ags O):XF (O:=O) Tryz.prog ll false false [true,false] 103 [] (xr x Zv 0)=QF O x:=by kernel_rfl
theorem wH {E:Env} {M:Nat} (N:Nat) (h:∀ ls,E 103 [] ls=Ob N ls):VV Tryz.prog E M ⟨103,[],false,false,[true,false]⟩ :=
 BG mix (E:=Cx N) (N:=N) (cfg:=ll) (ci:=⟨103,[],false,false,[true,false]⟩) (ks:=Zv) (AK (L5 N (fun _=>rfl)) (AK (Xy N (fun _=>rfl)) (AK (qD N (fun _=>rfl)) (AK (uj N (fun _=>rfl)) (AK (ki N (fun _=>rfl)) B0))))) (c:=Ob N) (F:=fun ls=>QF (std (Cx N) N) (xOf ls)) (fun ls=>rfl) (fun ls=>uC (std (Cx N) N) (xOf ls)) h
def mL:Cfg:={ gam:=[⟨128,[],false,false,[]⟩,⟨129,[],true,true,[]⟩],imm:=true,old:=true }
theorem vP (O:Alg) (x:Ags O):XF (O:=O) Tryz.prog mL false false [true,false] 104 [] (xr x Zw 0)=Pw O x:=by kernel_rfl
theorem wu {E:Env} {M:Nat} (N:Nat) (h:∀ ls,E 104 [] ls=P4 N ls):VV Tryz.prog E M ⟨104,[],false,false,[true,false]⟩ :=
 BG mix (E:=Fa N) (N:=N) (cfg:=mL) (ci:=⟨104,[],false,false,[true,false]⟩) (ks:=Zw) (AK (ki N (fun _=>rfl)) (AK (cE N (fun _=>rfl)) B0)) (c:=P4 N) (F:=fun ls=>Pw (std (Fa N) N) (xOf ls)) (fun ls=>rfl) (fun ls=>vP (std (Fa N) N) (xOf ls)) h
def pD:Cfg:={ gam:=[⟨102,[],true,true,[]⟩,⟨103,[],false,false,[true,false]⟩,⟨104,[],false,false,[true,false]⟩],imm:=false,old:=false }
theorem xS (O:Alg) (x:Ags O):XF (O:=O) Tryz.prog pD false false [true,false] 79 [] (xr x em 0)=SL O x:=by kernel_rfl
theorem yz {E:Env} {M:Nat} (N:Nat) (h:∀ ls,E 79 [] ls=SB N ls):VV Tryz.prog E M ⟨79,[],false,false,[true,false]⟩ :=
 BG mix (E:=FB N) (N:=N) (cfg:=pD) (ci:=⟨79,[],false,false,[true,false]⟩) (ks:=em) (AK (L5 N (fun _=>rfl)) (AK (wH N (fun _=>rfl)) (AK (wu N (fun _=>rfl)) B0))) (c:=SB N) (F:=fun ls=>SL (std (FB N) N) (xOf ls)) (fun ls=>rfl) (fun ls=>xS (std (FB N) N) (xOf ls)) h
def bI:Cfg:={ gam:=[⟨77,[],true,true,[]⟩,⟨80,[],false,false,[]⟩,⟨102,[],true,true,[]⟩,⟨105,[],true,true,[]⟩],imm:=false,old:=false }
theorem ni (O:Alg) (x:Ags O):XF (O:=O) Tryz.prog bI true true [] 106 [] (xr x TE 0)=JH O x:=by kernel_rfl
theorem pu:Vd Tryz.prog 106 It:=fun N h =>
 BG mix (E:=CP N) (N:=N) (cfg:=bI) (ci:=⟨106,[],true,true,[]⟩) (ks:=TE) (AK (XK N (fun _=>rfl)) (AK (T7 N (fun _=>rfl)) (AK (L5 N (fun _=>rfl)) (AK (Xy N (fun _=>rfl)) B0)))) (c:=It N) (F:=fun ls=>JH (std (CP N) N) (xOf ls)) (fun ls=>rfl) (fun ls=>ni (std (CP N) N) (xOf ls)) h
def dv:Cfg:={ gam:=[⟨80,[],false,false,[]⟩,⟨102,[],true,true,[]⟩,⟨105,[],true,true,[]⟩,⟨106,[],true,true,[]⟩],imm:=false,old:=false }
theorem pG (O:Alg) (x:Ags O):XF (O:=O) Tryz.prog dv false false [] 81 [] (xr x U4 0)=LC O x:=by kernel_rfl
theorem tM {E:Env} {M:Nat} (N:Nat) (h:∀ ls,E 81 [] ls=Ks N ls):VV Tryz.prog E M ⟨81,[],false,false,[]⟩ :=
 BG mix (E:=Ce N) (N:=N) (cfg:=dv) (ci:=⟨81,[],false,false,[]⟩) (ks:=U4) (AK (T7 N (fun _=>rfl)) (AK (L5 N (fun _=>rfl)) (AK (Xy N (fun _=>rfl)) (AK (pu N (fun _=>rfl)) B0)))) (c:=Ks N) (F:=fun ls=>LC (std (Ce N) N) (xOf ls)) (fun ls=>rfl) (fun ls=>pG (std (Ce N) N) (xOf ls)) h
def lM:Cfg:={ gam:=[⟨76,[],true,true,[]⟩,⟨77,[],true,true,[]⟩,⟨78,[],true,true,[]⟩,⟨79,[],false,false,[true,false]⟩,⟨80,[],false,false,[]⟩,⟨81,[],false,false,[]⟩],imm:=false,old:=false }
theorem uZ (O:Alg) (x:Ags O):XF (O:=O) Tryz.prog lM false false [] 67 [] (xr x Zb 0)=Og O x:=by kernel_rfl
theorem xD {E:Env} {M:Nat} (N:Nat) (h:∀ ls,E 67 [] ls=PB N ls):VV Tryz.prog E M ⟨67,[],false,false,[]⟩ :=
 BG mix (E:=CW N) (N:=N) (cfg:=lM) (ci:=⟨67,[],false,false,[]⟩) (ks:=Zb) (AK (vO N (fun _=>rfl)) (AK (XK N (fun _=>rfl)) (AK (iV N (fun _=>rfl)) (AK (yz N (fun _=>rfl)) (AK (T7 N (fun _=>rfl)) (AK (tM N (fun _=>rfl)) B0)))))) (c:=PB N) (F:=fun ls=>Og (std (CW N) N) (xOf ls)) (fun ls=>rfl) (fun ls=>uZ (std (CW N) N) (xOf ls)) h
def lZ:Cfg:={ gam:=[⟨67,[],false,false,[]⟩],imm:=true,old:=true }
theorem vJ (O:Alg) (x:Ags O):XF (O:=O) Tryz.prog lZ false false [] 59 [] (xr x Z5 0)=Pq O x:=by kernel_rfl
theorem xF {E:Env} {M:Nat} (N:Nat) (h:∀ ls,E 59 [] ls=Ph N ls):VV Tryz.prog E M ⟨59,[],false,false,[]⟩ :=
 BG mix (E:=Hx N) (N:=N) (cfg:=lZ) (ci:=⟨59,[],false,false,[]⟩) (ks:=Z5) (AK (xD N (fun _=>rfl)) B0) (c:=Ph N) (F:=fun ls=>Pq (std (Hx N) N) (xOf ls)) (fun ls=>rfl) (fun ls=>vJ (std (Hx N) N) (xOf ls)) h
def fG:Cfg:={ gam:=[⟨58,[],true,true,[]⟩,⟨59,[],false,false,[]⟩],imm:=false,old:=false }
theorem pq (O:Alg) (x:Ags O):XF (O:=O) Tryz.prog fG false false [] 45 [] (xr x VM 0)=Kw O x:=by kernel_rfl
theorem rG {E:Env} {M:Nat} (N:Nat) (h:∀ ls,E 45 [] ls=KP N ls):VV Tryz.prog E M ⟨45,[],false,false,[]⟩ :=
 BG mix (E:=Dw N) (N:=N) (cfg:=fG) (ci:=⟨45,[],false,false,[]⟩) (ks:=VM) (AK (zC N (fun _=>rfl)) (AK (xF N (fun _=>rfl)) B0)) (c:=KP N) (F:=fun ls=>Kw (std (Dw N) N) (xOf ls)) (fun ls=>rfl) (fun ls=>pq (std (Dw N) N) (xOf ls)) h
def gk:Cfg:={ gam:=[⟨44,[],true,true,[]⟩,⟨45,[],false,false,[]⟩],imm:=false,old:=false }
theorem sJ (O:Alg) (x:Ags O):XF (O:=O) Tryz.prog gk true true [] 33 [] (xr x XW 0)=MU O x:=by kernel_rfl
theorem uw:Vd Tryz.prog 33 JR:=fun N h =>
 BG mix (E:=Eb N) (N:=N) (cfg:=gk) (ci:=⟨33,[],true,true,[]⟩) (ks:=XW) (AK (Dy N (fun _=>rfl)) (AK (rG N (fun _=>rfl)) B0)) (c:=JR N) (F:=fun ls=>MU (std (Eb N) N) (xOf ls)) (fun ls=>rfl) (fun ls=>sJ (std (Eb N) N) (xOf ls)) h
theorem xz:Vd Tryz.prog 47 Sc:=vt mix oA WP [] g0 rfl (fun _ _=>rfl) fun O x=>by kernel_rfl
theorem pV:Vd Tryz.prog 34 JG:=vt mix bF Mx [(46,FR),(47,Sc)] (gs dg (gs xz g0)) rfl (fun _ _=>rfl) fun O x=>by kernel_rfl
theorem qG:Vd Tryz.prog 36 Iy:=vt mix ax NO [] g0 rfl (fun _ _=>rfl) fun O x=>by kernel_rfl
theorem yU:Vd Tryz.prog 37 Nu:=vt mix oh Wj [] g0 rfl (fun _ _=>rfl) fun O x=>by kernel_rfl
theorem rU:Vd Tryz.prog 18 Om:=vt mix dp PY [(13,D9),(16,ML),(33,JR),(34,JG),(35,G0),(36,Iy),(37,Nu)] (gs eh (gs uh (gs uw (gs pV (gs ik (gs qG (gs yU g0))))))) rfl (fun _ _=>rfl) fun O x=>by kernel_rfl
def TR:Cfg:={ gam:=[⟨9,[],true,true,[]⟩,⟨10,[],false,false,[]⟩,⟨17,[],true,true,[]⟩,⟨18,[],true,true,[]⟩,⟨19,[],true,true,[]⟩],imm:=false,old:=false }
theorem fJ (O:Alg) (x:Ags O):XF (O:=O) Tryz.prog TR true true [] 4 [] (xr x L2 0)=Eg O x:=by kernel_rfl
theorem gA:Vd Tryz.prog 4 Ep:=fun N h =>
 BG mix (E:=BM N) (N:=N) (cfg:=TR) (ci:=⟨4,[],true,true,[]⟩) (ks:=L2) (AK (vK N (fun _=>rfl)) (AK (yh N (fun _=>rfl)) (AK (YU N (fun _=>rfl)) (AK (rU N (fun _=>rfl)) (AK (Oh N (fun _=>rfl)) B0))))) (c:=Ep N) (F:=fun ls=>Eg (std (BM N) N) (xOf ls)) (fun ls=>rfl) (fun ls=>fJ (std (BM N) N) (xOf ls)) h
end Go.Px
