/- Part 18. -/
import Derived.Test.YteeikpbpdlgdfaaGreatDoorPart09
import Derived.Test.YteeikpbpdlgdfaaGreatDoorProg
import Derived.Test.YteeikpbpdlgdfaaGreatDoorPart11
import Derived.KernelRfl
import Derived.WalkKit
import Derived.Lib.Walk
import Derived.BigCall
import Derived.BigGuard
import Derived.Test.YteeikpbpdlgdfaaGreatDoorPart13
import Derived.Test.YteeikpbpdlgdfaaGreatDoorPart17
set_option linter.unusedVariables false
set_option linter.unusedSimpArgs false
namespace Go.Px
open Go.Proofs
set_option maxRecDepth 100000
abbrev zya:=Vd Tryz.prog
theorem mix:Tryz.prog.follows .mixedOrders=true:=by kernel_rfl
theorem NP:zya 34 Bx:=fun N h =>
 Hs mix (T:=22) (e:=46) (b:=24) Tryz.func34 Tryz.underlying22 (by kernel_rfl) (by decide) (fun O l=>by kernel_rfl) (fun O l=>by kernel_rfl) h
theorem N5:zya 16 Cd:=vt mix Nx FP [(34,Bx)] (gs NP g0) rfl (fun _ _=>rfl) fun O x=>by kernel_rfl
theorem Xl:zya 45 Ll:=vt mix Rf Q5 [] g0 rfl (fun _ _=>rfl) fun O x=>by kernel_rfl
theorem KZ:zya 70 C3:=vt mix Kg LE [] g0 rfl (fun _ _=>rfl) fun O x=>by kernel_rfl
theorem Tc:zya 46 GE:=vt mix Kk K7 [(70,C3)] (gs KZ g0) rfl (fun _ _=>rfl) fun O x=>by kernel_rfl
theorem UQ:zya 47 Hb:=vt mix MW Mu [(70,C3)] (gs KZ g0) rfl (fun _ _=>rfl) fun O x=>by kernel_rfl
theorem B5:zya 23 Am:=vt mix OL Nm [(45,Ll),(46,GE),(47,Hb)] (gs Xl (gs Tc (gs UQ g0))) rfl (fun _ _=>rfl) fun O x=>by kernel_rfl
theorem Xk:zya 10 LY:=vt mix Ri RV [(16,Cd),(23,Am)] (gs N5 (gs B5 g0)) rfl (fun _ _=>rfl) fun O x=>by kernel_rfl
theorem ZW:zya 11 P5:=vt mix VB VW [] g0 rfl (fun _ _=>rfl) fun O x=>by kernel_rfl
theorem CW:zya 35 Ai:=fun N h =>
 Hs mix (T:=38) (e:=44) (b:=1) Tryz.func35 Tryz.underlying38 (by kernel_rfl) (by decide) (fun O l=>by kernel_rfl) (fun O l=>by kernel_rfl) h
theorem DA:zya 36 Av:=fun N h =>
 Hs mix (T:=39) (e:=3) (b:=8) Tryz.func36 Tryz.underlying39 (by kernel_rfl) (by decide) (fun O l=>by kernel_rfl) (fun O l=>by kernel_rfl) h
theorem Cw:zya 37 Ap:=fun N h =>
 Hs mix (T:=40) (e:=4) (b:=1) Tryz.func37 Tryz.underlying40 (by kernel_rfl) (by decide) (fun O l=>by kernel_rfl) (fun O l=>by kernel_rfl) h
theorem Bf:zya 17 Ad:=vt mix Kn EE [(35,Ai),(36,Av),(37,Ap)] (gs CW (gs DA (gs Cw g0))) rfl (fun _ _=>rfl) fun O x=>by kernel_rfl
theorem N8:zya 7 Ce:=vt mix N9 FQ [(16,Cd),(17,Ad)] (gs N5 (gs Bf g0)) rfl (fun _ _=>rfl) fun O x=>by kernel_rfl
theorem Cg:zya 71 A1:=vt mix JA Is [] g0 rfl (fun _ _=>rfl) fun O x=>by kernel_rfl
theorem Qj:zya 72 E4:=vt mix Ir Iv [(71,A1)] (gs Cg g0) rfl (fun _ _=>rfl) fun O x=>by kernel_rfl
theorem QF:zya 98 ES:=vt mix Hz IK [] g0 rfl (fun _ _=>rfl) fun O x=>by kernel_rfl
theorem DM:zya 87 BK:=vt mix F6 Fu [(98,ES)] (gs QF g0) rfl (fun _ _=>rfl) fun O x=>by kernel_rfl
theorem Ol:zya 73 D5:=vt mix G9 G8 [(71,A1),(87,BK)] (gs Cg (gs DM g0)) rfl (fun _ _=>rfl) fun O x=>by kernel_rfl
theorem Ob:zya 89 D8:=vt mix G7 G0 [(71,A1)] (gs Cg g0) rfl (fun _ _=>rfl) fun O x=>by kernel_rfl
theorem Qt:zya 74 E1:=vt mix Ip Iq [(89,D8)] (gs Ob g0) rfl (fun _ _=>rfl) fun O x=>by kernel_rfl
theorem Ga:zya 48 Bw:=vt mix K8 LI [(23,Am),(71,A1),(72,E4),(73,D5),(74,E1)] (gs B5 (gs Cg (gs Qj (gs Ol (gs Qt g0))))) rfl (fun _ _=>rfl) fun O x=>by kernel_rfl
theorem FT:zya 55 Bm:=vt mix Nv OM [] g0 rfl (fun _ _=>rfl) fun O x=>by kernel_rfl
theorem OX:zya 49 Dz:=vt mix OO Nu [(55,Bm)] (gs FT g0) rfl (fun _ _=>rfl) fun O x=>by kernel_rfl
theorem V0:zya 50 Ia:=vt mix OH N4 [] g0 rfl (fun _ _=>rfl) fun O x=>by kernel_rfl
theorem IP:zya 24 Cc:=vt mix Nq OJ [(23,Am),(48,Bw),(49,Dz),(50,Ia)] (gs B5 (gs Ga (gs OX (gs V0 g0)))) rfl (fun _ _=>rfl) fun O x=>by kernel_rfl
theorem UX:zya 51 Ha:=vt mix Ma MP [] g0 rfl (fun _ _=>rfl) fun O x=>by kernel_rfl
theorem S9:zya 52 Gc:=vt mix K3 Ky [] g0 rfl (fun _ _=>rfl) fun O x=>by kernel_rfl
open Go.RowKit Go.Lib in
set_option maxHeartbeats 1000000 in
theorem JL (s:ByteArray) (c:Int) (w:World):Calls Tryz.prog 90 #[.string s,.int .u8 c] w fun e w'=>e=.returned (.int .i64 (Lib.indexByte s.data.toList c.toNat.toUInt8))∧w'=w:=by
 go_enter Tryz.func90,Tryz.ntmps90
 go_wp2
 rw [run_callFunc_extern Tryz.func100 (by kernel_rfl) (by kernel_rfl) (by kernel_rfl) (e:=Extern.BytealgIndexByte.indexByte) (by kernel_rfl),Lib.run_indexByteString];simp only [Result.andThen];rw [Oper.upon_value]
 go_wp2
 go_ret
 exact ⟨rfl,rfl⟩
theorem KX:zya 90 Cy:=fun N h =>
 Xx Tryz.func90 (T9:=9) (T5:=5) (T3:=3) rfl rfl Tryz.underlying9 Tryz.underlying5 Tryz.underlying3 (by kernel_rfl) JL h
theorem Ot:zya 75 D9:=vt mix G3 G2 [(90,Cy)] (gs KX g0) rfl (fun _ _=>rfl) fun O x=>by kernel_rfl
theorem Vv:zya 76 IU:=vt mix OW N1 [] g0 rfl (fun _ _=>rfl) fun O x=>by kernel_rfl
theorem WR:zya 53 Jo:=vt mix PH PP [(75,D9),(76,IU)] (gs Ot (gs Vv g0)) rfl (fun _ _=>rfl) fun O x=>by kernel_rfl
theorem O1:zya 77 Eg:=vt mix IL Hy [] g0 rfl (fun _ _=>rfl) fun O x=>by kernel_rfl
theorem R6:zya 54 Fi:=vt mix JW KN [(77,Eg)] (gs O1 g0) rfl (fun _ _=>rfl) fun O x=>by kernel_rfl
theorem OC:zya 25 Dr:=vt mix Nw OT [(51,Ha),(52,Gc),(53,Jo),(54,Fi)] (gs UX (gs S9 (gs WR (gs R6 g0)))) rfl (fun _ _=>rfl) fun O x=>by kernel_rfl
theorem IZ:zya 59 Cb:=vt mix OD OP [] g0 rfl (fun _ _=>rfl) fun O x=>by kernel_rfl
theorem H6:zya 81 CP:=vt mix H3 H5 [] g0 rfl (fun _ _=>rfl) fun O x=>by kernel_rfl
theorem Tz:zya 60 GP:=vt mix LQ Kt [(24,Cc),(55,Bm),(59,Cb),(81,CP)] (gs IP (gs FT (gs IZ (gs H6 g0)))) rfl (fun _ _=>rfl) fun O x=>by kernel_rfl
theorem Sy:zya 78 Gf:=vt mix LM Kz [(23,Am),(71,A1)] (gs B5 (gs Cg g0)) rfl (fun _ _=>rfl) fun O x=>by kernel_rfl
theorem Uz:zya 79 HK:=vt mix MQ MT [(55,Bm),(59,Cb)] (gs FT (gs IZ g0)) rfl (fun _ _=>rfl) fun O x=>by kernel_rfl
theorem Qf:zya 102 E7:=vt mix Ik I2 [] g0 rfl (fun _ _=>rfl) fun O x=>by kernel_rfl
theorem TE:zya 91 GT:=vt mix LP K1 [(102,E7)] (gs Qf g0) rfl (fun _ _=>rfl) fun O x=>by kernel_rfl
theorem DY:zya 124 BG:=vt mix Pv PL [(35,Ai),(36,Av),(37,Ap)] (gs CW (gs DA (gs Cw g0))) rfl (fun _ _=>rfl) fun O x=>by kernel_rfl
theorem SH:zya 145 Fd:=vt mix KA Jp [] g0 rfl (fun _ _=>rfl) fun O x=>by kernel_rfl
theorem MY:zya 125 DW:=vt mix L3 MB [(145,Fd)] (gs SH g0) rfl (fun _ _=>rfl) fun O x=>by kernel_rfl
theorem DQ:zya 126 BJ:=vt mix Lz L8 [] g0 rfl (fun _ _=>rfl) fun O x=>by kernel_rfl
theorem Vy:zya 103 Ib:=vt mix Nr OZ [(124,BG),(125,DW),(126,BJ)] (gs DY (gs MY (gs DQ g0))) rfl (fun _ _=>rfl) fun O x=>by kernel_rfl
theorem Lq:zya 127 DJ:=vt mix RF RN [(35,Ai),(36,Av),(37,Ap)] (gs CW (gs DA (gs Cw g0))) rfl (fun _ _=>rfl) fun O x=>by kernel_rfl
theorem Ic:zya 146 CY:=vt mix Ns Nt [] g0 rfl (fun _ _=>rfl) fun O x=>by kernel_rfl
theorem WY:zya 147 J1:=vt mix Pb O2 [(23,Am),(146,CY)] (gs B5 (gs Ic g0)) rfl (fun _ _=>rfl) fun O x=>by kernel_rfl
theorem Xp:zya 128 Ld:=vt mix Q9 Q4 [(23,Am),(87,BK),(146,CY),(147,J1)] (gs B5 (gs DM (gs Ic (gs WY g0)))) rfl (fun _ _=>rfl) fun O x=>by kernel_rfl
theorem Wo:zya 104 Jr:=vt mix PR PA [(127,DJ),(128,Ld)] (gs Lq (gs Xp g0)) rfl (fun _ _=>rfl) fun O x=>by kernel_rfl
theorem GX:zya 117 Bz:=vt mix K6 Ks [(125,DW)] (gs MY g0) rfl (fun _ _=>rfl) fun O x=>by kernel_rfl
theorem Ds:zya 138 BR:=vt mix OV N6 [] g0 rfl (fun _ _=>rfl) fun O x=>by kernel_rfl
theorem Dl:zya 139 BN:=vt mix Ju Jc [(138,BR)] (gs Ds g0) rfl (fun _ _=>rfl) fun O x=>by kernel_rfl
theorem Sh:zya 155 Gj:=vt mix Kq Ki [] g0 rfl (fun _ _=>rfl) fun O x=>by kernel_rfl
theorem Vr:zya 148 IV:=vt mix N0 OK [(138,BR),(139,BN),(155,Gj)] (gs Ds (gs Dl (gs Sh g0))) rfl (fun _ _=>rfl) fun O x=>by kernel_rfl
theorem On:zya 156 D4:=vt mix G1 G6 [] g0 rfl (fun _ _=>rfl) fun O x=>by kernel_rfl
theorem Jq:zya 149 Cr:=vt mix KB Je [(156,D4)] (gs On g0) rfl (fun _ _=>rfl) fun O x=>by kernel_rfl
theorem I8:zya 161 Cf:=vt mix I4 It [] g0 rfl (fun _ _=>rfl) fun O x=>by kernel_rfl
theorem UD:zya 157 HZ:=vt mix L6 Mw [(161,Cf)] (gs I8 g0) rfl (fun _ _=>rfl) fun O x=>by kernel_rfl
theorem PI:zya 162 EJ:=vt mix II H2 [] g0 rfl (fun _ _=>rfl) fun O x=>by kernel_rfl
theorem MA:zya 158 DN:=vt mix F7 F1 [(162,EJ)] (gs PI g0) rfl (fun _ _=>rfl) fun O x=>by kernel_rfl
theorem PO:zya 163 EH:=vt mix IE H4 [] g0 rfl (fun _ _=>rfl) fun O x=>by kernel_rfl
theorem Sb:zya 159 Fb:=vt mix KL J6 [(161,Cf),(163,EH)] (gs I8 (gs PO g0)) rfl (fun _ _=>rfl) fun O x=>by kernel_rfl
theorem Le:zya 164 DF:=vt mix FI FL [] g0 rfl (fun _ _=>rfl) fun O x=>by kernel_rfl
theorem Nj:zya 160 Dh:=vt mix Gk GU [(164,DF)] (gs Le g0) rfl (fun _ _=>rfl) fun O x=>by kernel_rfl
theorem Nd:zya 150 Dg:=vt mix GW Gi [(157,HZ),(158,DN),(159,Fb),(160,Dh)] (gs UD (gs MA (gs Sb (gs Nj g0)))) rfl (fun _ _=>rfl) fun O x=>by kernel_rfl
theorem Vw:zya 151 Ih:=vt mix OB N3 [(138,BR),(139,BN)] (gs Ds (gs Dl g0)) rfl (fun _ _=>rfl) fun O x=>by kernel_rfl
theorem Qo:zya 129 E8:=vt mix I3 I0 [(117,Bz),(148,IV),(149,Cr),(150,Dg),(151,Ih)] (gs GX (gs Vr (gs Jq (gs Nd (gs Vw g0))))) rfl (fun _ _=>rfl) fun O x=>by kernel_rfl
theorem Og:zya 152 D7:=vt mix Gy HB [] g0 rfl (fun _ _=>rfl) fun O x=>by kernel_rfl
theorem Qd:zya 130 E3:=vt mix Ix Iu [(149,Cr),(152,D7)] (gs Jq (gs Og g0)) rfl (fun _ _=>rfl) fun O x=>by kernel_rfl
theorem Wc:zya 131 J8:=vt mix Pn Ph [(124,BG),(126,BJ)] (gs DY (gs DQ g0)) rfl (fun _ _=>rfl) fun O x=>by kernel_rfl
theorem R9:zya 132 Fh:=vt mix Jh KP [] g0 rfl (fun _ _=>rfl) fun O x=>by kernel_rfl
theorem We:zya 133 JZ:=vt mix PS O8 [(23,Am),(87,BK),(127,DJ),(146,CY)] (gs B5 (gs DM (gs Lq (gs Ic g0)))) rfl (fun _ _=>rfl) fun O x=>by kernel_rfl
theorem TP:zya 134 Gu:=vt mix LJ K4 [(124,BG)] (gs DY g0) rfl (fun _ _=>rfl) fun O x=>by kernel_rfl
theorem UE:zya 105 HG:=vt mix Ml MO [(17,Ad),(129,E8),(130,E3),(131,J8),(132,Fh),(133,JZ),(134,Gu)] (gs Bf (gs Qo (gs Qd (gs Wc (gs R9 (gs We (gs TP g0))))))) rfl (fun _ _=>rfl) fun O x=>by kernel_rfl
theorem PM:zya 135 EZ:=vt mix Pl QK [(117,Bz),(126,BJ)] (gs GX (gs DQ g0)) rfl (fun _ _=>rfl) fun O x=>by kernel_rfl
theorem SV:zya 106 Fa:=vt mix KR KS [(124,BG),(126,BJ),(135,EZ)] (gs DY (gs DQ (gs PM g0))) rfl (fun _ _=>rfl) fun O x=>by kernel_rfl
theorem UU:zya 107 HR:=vt mix Ly MF [(124,BG),(135,EZ)] (gs DY (gs PM g0)) rfl (fun _ _=>rfl) fun O x=>by kernel_rfl
theorem OE:zya 118 Dn:=vt mix OG N2 [] g0 rfl (fun _ _=>rfl) fun O x=>by kernel_rfl
theorem S4:zya 108 Gq:=vt mix LB Km [(118,Dn),(124,BG),(126,BJ)] (gs OE (gs DY (gs DQ g0))) rfl (fun _ _=>rfl) fun O x=>by kernel_rfl
theorem Lm:zya 137 DI:=vt mix RG Q3 [(35,Ai),(36,Av),(37,Ap)] (gs CW (gs DA (gs Cw g0))) rfl (fun _ _=>rfl) fun O x=>by kernel_rfl
theorem TY:zya 109 GR:=vt mix LT Kc [(137,DI)] (gs Lm g0) rfl (fun _ _=>rfl) fun O x=>by kernel_rfl
theorem U4:zya 110 HE:=vt mix My Md [(137,DI),(138,BR),(139,BN)] (gs Lm (gs Ds (gs Dl g0))) rfl (fun _ _=>rfl) fun O x=>by kernel_rfl
theorem O3:zya 111 EN:=vt mix Hw IC [(137,DI),(138,BR),(139,BN)] (gs Lm (gs Ds (gs Dl g0))) rfl (fun _ _=>rfl) fun O x=>by kernel_rfl
theorem UA:zya 112 GQ:=vt mix Kx LX [(23,Am),(127,DJ)] (gs B5 (gs Lq g0)) rfl (fun _ _=>rfl) fun O x=>by kernel_rfl
theorem Qy:zya 113 E9:=vt mix Im I7 [(17,Ad)] (gs Bf g0) rfl (fun _ _=>rfl) fun O x=>by kernel_rfl
theorem Iy:zya 94 Ci:=vt mix Il I5 [(17,Ad)] (gs Bf g0) rfl (fun _ _=>rfl) fun O x=>by kernel_rfl
theorem Qu:zya 114 E5:=vt mix Ij I9 [(17,Ad),(94,Ci)] (gs Bf (gs Iy g0)) rfl (fun _ _=>rfl) fun O x=>by kernel_rfl
theorem R2:zya 115 Fp:=vt mix Jm Jw [(17,Ad)] (gs Bf g0) rfl (fun _ _=>rfl) fun O x=>by kernel_rfl
theorem LN:zya 61 C8:=vt mix Kf Ka [] g0 rfl (fun _ _=>rfl) fun O x=>by kernel_rfl
theorem SX:zya 116 Ff:=vt mix KC Jk [(17,Ad),(61,C8)] (gs Bf (gs LN g0)) rfl (fun _ _=>rfl) fun O x=>by kernel_rfl
theorem Qm:zya 92 E6:=vt mix I6 Iw [(103,Ib),(104,Jr),(105,HG),(106,Fa),(107,HR),(108,Gq),(109,GR),(110,HE),(111,EN),(112,GQ),(113,E9),(114,E5),(115,Fp),(116,Ff)] (gs Vy (gs Wo (gs UE (gs SV (gs UU (gs S4 (gs TY (gs U4 (gs O3 (gs UA (gs Qy (gs Qu (gs R2 (gs SX g0)))))))))))))) rfl (fun _ _=>rfl) fun O x=>by kernel_rfl
theorem SG:zya 93 Fk:=vt mix Jb JX [(48,Bw),(117,Bz),(118,Dn)] (gs Ga (gs GX (gs OE g0))) rfl (fun _ _=>rfl) fun O x=>by kernel_rfl
theorem Uc:zya 80 HC:=vt mix MG Mq [(17,Ad),(25,Dr),(48,Bw),(91,GT),(92,E6),(93,Fk)] (gs Bf (gs OC (gs Ga (gs TE (gs Qm (gs SG g0)))))) rfl (fun _ _=>rfl) fun O x=>by kernel_rfl
theorem XJ:zya 12 Jn:=vt mix O4 Pu [(7,Ce),(24,Cc),(25,Dr),(49,Dz),(55,Bm),(59,Cb),(60,GP),(78,Gf),(79,HK),(80,HC),(81,CP),(94,Ci)] (gs N8 (gs IP (gs OC (gs OX (gs FT (gs IZ (gs Tz (gs Sy (gs Uz (gs Uc (gs H6 (gs Iy g0)))))))))))) rfl (fun _ _=>rfl) fun O x=>by kernel_rfl
theorem U1:zya 28 Hi:=vt mix ME Mv [(61,C8)] (gs LN g0) rfl (fun _ _=>rfl) fun O x=>by kernel_rfl
theorem GC:zya 63 B0:=vt mix Kd Ke [] g0 rfl (fun _ _=>rfl) fun O x=>by kernel_rfl
theorem OI:zya 62 Dp:=vt mix OU OS [(63,B0)] (gs GC g0) rfl (fun _ _=>rfl) fun O x=>by kernel_rfl
theorem Yv:zya 64 Nf:=vt mix Sp Tp [(62,Dp),(63,B0)] (gs OI (gs GC g0)) rfl (fun _ _=>rfl) fun O x=>by kernel_rfl
theorem Ta:zya 83 Gb:=fun N h =>
 Xi Tryz.func83 (T3:=3) (T9:=9) rfl rfl Tryz.underlying3 Tryz.underlying9 (by kernel_rfl) (by kernel_rfl) (fun i h0 hi w ht=>Tryz.internal_strconv_Itoa i h0 hi w ht) h
theorem UP:zya 65 HD:=vt mix Mf Lt [(83,Gb)] (gs Ta g0) rfl (fun _ _=>rfl) fun O x=>by kernel_rfl
theorem Ws:zya 29 KF:=vt mix P3 Pq [(62,Dp),(63,B0),(64,Nf),(65,HD)] (gs OI (gs GC (gs Yv (gs UP g0)))) rfl (fun _ _=>rfl) fun O x=>by kernel_rfl
theorem NU:zya 95 Dm:=fun N h =>
 Yf Tryz.func95 (T2:=2) (T3:=3) (T9:=9) rfl rfl Tryz.underlying2 Tryz.underlying3 Tryz.underlying9 (by kernel_rfl) (by kernel_rfl) (fun i h0 hi w ht=>Tryz.internal_strconv_FormatInt_10 i h0 hi w ht) h
theorem Oq:zya 84 D6:=vt mix HA G4 [(95,Dm)] (gs NU g0) rfl (fun _ _=>rfl) fun O x=>by kernel_rfl
theorem Up:zya 66 Hf:=vt mix MZ Lu [(84,D6)] (gs Oq g0) rfl (fun _ _=>rfl) fun O x=>by kernel_rfl
theorem Mh:zya 30 Da:=vt mix Lx MJ [(66,Hf)] (gs Up g0) rfl (fun _ _=>rfl) fun O x=>by kernel_rfl
theorem Ut:zya 31 HT:=vt mix Mo Me [(30,Da)] (gs Mh g0) rfl (fun _ _=>rfl) fun O x=>by kernel_rfl
theorem Uj:zya 32 HF:=fun N h =>
 Yp Tryz.func32 (T8:=75) (T9:=9) rfl rfl Tryz.underlying75 Tryz.underlying9 (by kernel_rfl) (fun a c sep w=>Tryz.strings_Join_none a c sep w) (fun bk o c xs sep w h1 h2 h3 h4 h5=>Tryz.strings_Join bk o c xs sep w h1 h2 h3 h4 h5) h
theorem Wk:zya 13 KI:=vt mix QB P0 [(24,Cc),(28,Hi),(29,KF),(30,Da),(31,HT),(32,HF)] (gs IP (gs U1 (gs Ws (gs Mh (gs Ut (gs Uj g0)))))) rfl (fun _ _=>rfl) fun O x=>by kernel_rfl
theorem Xq:zya 4 FG:=vt mix Q7 RQ [(10,LY),(11,P5),(12,Jn),(13,KI)] (gs Xk (gs ZW (gs XJ (gs Wk g0)))) rfl (fun _ _=>rfl) fun O x=>by kernel_rfl
def VY:Cfg:={ gam:=[],imm:=false,old:=true }
theorem Yk (O:Alg) (x:Ags O):XF (O:=O) Tryz.prog VY (CI.ow ⟨5,[],false,false,[],[]⟩) false [] 5 [] (xr x O9 0)=IG O x:=by kernel_rfl
theorem Zq {E:Env} {M:Nat} (N:Nat) (h:∀ ls,E 5 [] ls=Fw N ls):VV Tryz.prog E M ⟨5,[],false,false,[],[]⟩ :=
 K9 mix (E:=FA N) (N:=N) (cfg:=VY) (ci:=⟨5,[],false,false,[],[]⟩) (ks:=O9) Um (c:=Fw N) (F:=fun ls=>IG (std (FA N) N) (xOf ls)) (fun ls=>rfl) (fun ls=>Yk (std (FA N) N) (xOf ls)) h
theorem X5:zya 14 FM:=vt mix RW Ho [] g0 rfl (fun _ _=>rfl) fun O x=>by kernel_rfl
theorem Xg:zya 33 FH:=vt mix RX Hn [] g0 rfl (fun _ _=>rfl) fun O x=>by kernel_rfl
theorem Xs:zya 15 FB:=vt mix RC Hl [(33,FH)] (gs Xg g0) rfl (fun _ _=>rfl) fun O x=>by kernel_rfl
theorem Xz:zya 6 FE:=vt mix Q6 Hq [(14,FM),(15,FB)] (gs X5 (gs Xs g0)) rfl (fun _ _=>rfl) fun O x=>by kernel_rfl
theorem Sc:zya 38 C7:=vt mix Kh EB [] g0 rfl (fun _ _=>rfl) fun O x=>by kernel_rfl
theorem NF:zya 39 Bt:=vt mix GL Co [] g0 rfl (fun _ _=>rfl) fun O x=>by kernel_rfl
theorem WT:zya 18 GH:=vt mix PT Gn [(38,C7),(39,Bt)] (gs Sc (gs NF g0)) rfl (fun _ _=>rfl) fun O x=>by kernel_rfl
theorem Mg:zya 40 Bq:=vt mix Fy CS [] g0 rfl (fun _ _=>rfl) fun O x=>by kernel_rfl
theorem PG:zya 41 CO:=vt mix IB C5 [] g0 rfl (fun _ _=>rfl) fun O x=>by kernel_rfl
theorem Om:zya 42 CD:=vt mix Gz Cx [] g0 rfl (fun _ _=>rfl) fun O x=>by kernel_rfl
theorem Rt:zya 43 Cu:=vt mix Jg Df [] g0 rfl (fun _ _=>rfl) fun O x=>by kernel_rfl
theorem UW:zya 20 Em:=vt mix Mm Eh [(40,Bq),(41,CO),(42,CD),(43,Cu)] (gs Mg (gs PG (gs Om (gs Rt g0)))) rfl (fun _ _=>rfl) fun O x=>by kernel_rfl
def Dt:Cfg:={ gam:=[⟨20,[],true,true,[],[]⟩],imm:=false,old:=false }
theorem Hx (O:Alg) (x:Ags O):XF (O:=O) Tryz.prog Dt (CI.ow ⟨19,[20],true,true,[],[]⟩) true [] 19 [20] (xr x CZ 0)=BS O x:=by kernel_rfl
theorem Id {E:Env} {M:Nat} (N:Nat) (h:∀ ls,E 19 [20] ls=BT N ls):VV Tryz.prog E M ⟨19,[20],true,true,[],[]⟩ :=
 K9 mix (E:=A3 N) (N:=N) (cfg:=Dt) (ci:=⟨19,[20],true,true,[],[]⟩) (ks:=CZ) (R3 (UW N (fun _=>rfl)) Um) (c:=BT N) (F:=fun ls=>BS (std (A3 N) N) (xOf ls)) (fun ls=>rfl) (fun ls=>Hx (std (A3 N) N) (xOf ls)) h
def PW:Cfg:={ gam:=[⟨18,[],true,true,[],[]⟩,⟨19,[20],true,true,[],[]⟩],imm:=false,old:=false }
theorem V1 (O:Alg) (x:Ags O):XF (O:=O) Tryz.prog PW (CI.ow ⟨8,[],true,true,[],[]⟩) true [] 8 [] (xr x KQ 0)=Ea O x:=by kernel_rfl
theorem XO:zya 8 DL:=fun N h =>
 K9 mix (E:=CG N) (N:=N) (cfg:=PW) (ci:=⟨8,[],true,true,[],[]⟩) (ks:=KQ) (R3 (WT N (fun _=>rfl)) (R3 (Id N (fun _=>rfl)) Um)) (c:=DL N) (F:=fun ls=>Ea (std (CG N) N) (xOf ls)) (fun ls=>rfl) (fun ls=>V1 (std (CG N) N) (xOf ls)) h
theorem YY:zya 21 GJ:=vt mix Ts JB [] g0 rfl (fun _ _=>rfl) fun O x=>by kernel_rfl
theorem Y7:zya 44 Ge:=vt mix So JH [] g0 rfl (fun _ _=>rfl) fun O x=>by kernel_rfl
theorem ZJ:zya 22 Gv:=vt mix Sj JJ [(44,Ge)] (gs Y7 g0) rfl (fun _ _=>rfl) fun O x=>by kernel_rfl
theorem ZS:zya 9 Gw:=vt mix S7 JD [(21,GJ),(22,Gv)] (gs YY (gs ZJ g0)) rfl (fun _ _=>rfl) fun O x=>by kernel_rfl
theorem Rl:zya 3 Di:=fun N h =>
 X1 (E:=BC N) (N:=N) (Xq N (fun _=>rfl)).2 (Zq N (fun _=>rfl)).2 (Xz N (fun _=>rfl)).2 (N8 N (fun _=>rfl)).2 (XO N (fun _=>rfl)).2 (ZS N (fun _=>rfl)).2 h
end Go.Px
