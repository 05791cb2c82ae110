/- Part 19. -/
import Derived.Test.YtkknkmdpelogmaaGreatDoorPart09
import Derived.Test.YtkknkmdpelogmaaGreatDoorProg
import Derived.Test.YtkknkmdpelogmaaGreatDoorPart11
import Derived.KernelRfl
import Derived.WalkKit
import Derived.Lib.Walk
import Derived.BigCall
import Derived.BigGuard
import Derived.Test.YtkknkmdpelogmaaGreatDoorPart18
set_option linter.unusedVariables false
set_option linter.unusedSimpArgs false
namespace Go.Px
open Go.Proofs
set_option maxRecDepth 100000
abbrev zya:=Vd Tryz.prog
theorem mix:Tryz.prog.follows .mixedOrders=true:=by kernel_rfl
theorem Dy:zya 17 Ay:=vt mix Y9 MV [] g0 rfl (fun _ _=>rfl) fun O x=>by kernel_rfl
theorem wF:zya 61 Mm:=vt mix gm Rq [] g0 rfl (fun _ _=>rfl) fun O x=>by kernel_rfl
theorem Xk:zya 69 DR:=vt mix XQ XK [] g0 rfl (fun _ _=>rfl) fun O x=>by kernel_rfl
theorem lZ:zya 62 HO:=vt mix W4 Ki [(69,DR)] (gs Xk g0) rfl (fun _ _=>rfl) fun O x=>by kernel_rfl
theorem nR:zya 63 Iw:=vt mix YT Lr [(69,DR)] (gs Xk g0) rfl (fun _ _=>rfl) fun O x=>by kernel_rfl
theorem DH:zya 47 Ab:=vt mix bJ NI [(61,Mm),(62,HO),(63,Iw)] (gs wF (gs lZ (gs nR g0))) rfl (fun _ _=>rfl) fun O x=>by kernel_rfl
theorem aO:zya 73 D4:=fun N h=>
 Rp mix (T:=22) (e:=173) (b:=24) Tryz.func73 Tryz.underlying22 (by kernel_rfl) (by decide) (fun O l=>by kernel_rfl) (fun O l=>by kernel_rfl) h
theorem bT:zya 67 EK:=vt mix bm Nf [(73,D4)] (gs aO g0) rfl (fun _ _=>rfl) fun O x=>by kernel_rfl
theorem wa:zya 53 Rr:=vt mix ga Ri [(47,Ab),(67,EK)] (gs DH (gs bT g0)) rfl (fun _ _=>rfl) fun O x=>by kernel_rfl
theorem Fa:zya 106 Az:=vt mix Tb TX [] g0 rfl (fun _ _=>rfl) fun O x=>by kernel_rfl
theorem gF:zya 107 Fc:=vt mix Tg IG [(106,Az)] (gs Fa g0) rfl (fun _ _=>rfl) fun O x=>by kernel_rfl
theorem fJ:zya 130 E7:=vt mix SS HT [] g0 rfl (fun _ _=>rfl) fun O x=>by kernel_rfl
theorem IR:zya 121 A8:=vt mix OM FF [(130,E7)] (gs fJ g0) rfl (fun _ _=>rfl) fun O x=>by kernel_rfl
theorem ck:zya 108 Ea:=vt mix Qa Gj [(106,Az),(121,A8)] (gs Fa (gs IR g0)) rfl (fun _ _=>rfl) fun O x=>by kernel_rfl
theorem cW:zya 123 Ec:=vt mix Qb Gi [(106,Az)] (gs Fa g0) rfl (fun _ _=>rfl) fun O x=>by kernel_rfl
theorem gL:zya 109 Fm:=vt mix TQ IH [(123,Ec)] (gs cW g0) rfl (fun _ _=>rfl) fun O x=>by kernel_rfl
theorem Oy:zya 90 Bl:=vt mix Wn Ke [(47,Ab),(106,Az),(107,Fc),(108,Ea),(109,Fm)] (gs DH (gs Fa (gs gF (gs ck (gs gL g0))))) rfl (fun _ _=>rfl) fun O x=>by kernel_rfl
theorem NO:zya 97 Bm:=vt mix bG bz [] g0 rfl (fun _ _=>rfl) fun O x=>by kernel_rfl
theorem cA:zya 91 EN:=vt mix bK NE [(97,Bm)] (gs NO g0) rfl (fun _ _=>rfl) fun O x=>by kernel_rfl
theorem rG:zya 92 Jw:=vt mix bq NP [] g0 rfl (fun _ _=>rfl) fun O x=>by kernel_rfl
theorem bv:zya 74 EL:=vt mix bM NX [(47,Ab),(90,Bl),(91,EN),(92,Jw)] (gs DH (gs Oy (gs cA (gs rG g0)))) rfl (fun _ _=>rfl) fun O x=>by kernel_rfl
theorem eW:zya 103 E6:=vt mix SZ LH [] g0 rfl (fun _ _=>rfl) fun O x=>by kernel_rfl
theorem VT:zya 79 Dq:=vt mix VJ JE [(103,E6)] (gs eW g0) rfl (fun _ _=>rfl) fun O x=>by kernel_rfl
theorem oC:zya 93 Ik:=vt mix Yj Lu [] g0 rfl (fun _ _=>rfl) fun O x=>by kernel_rfl
theorem kG:zya 94 Hu:=vt mix XT PA [] g0 rfl (fun _ _=>rfl) fun O x=>by kernel_rfl
open Go.RowKit Go.Lib in
set_option maxHeartbeats 1000000 in
theorem UE(s:ByteArray)(c:Int)(w:World):Calls Tryz.prog 124 #[.string s,.int .u8 c] w fun e w'=>e=.returned (.int .i64 (Lib.indexByte s.data.toList c.toNat.toUInt8))∧w'=w:=by
 go_enter Tryz.func124,Tryz.ntmps124
 go_wp2
 rw[run_callFunc_extern Tryz.func132 (by kernel_rfl) (by kernel_rfl) (by kernel_rfl) (e:=Extern.BytealgIndexByte.indexByte) (by kernel_rfl),Lib.run_indexByteString];simp only[Result.andThen];rw[Oper.upon_value]
 go_wp2
 go_ret
 exact⟨rfl,rfl⟩
theorem WV:zya 124 Gw:=fun N h=>
 v8 Tryz.func124 (T9:=9) (T5:=5) (T3:=3) rfl rfl Tryz.underlying9 Tryz.underlying5 Tryz.underlying3 (by kernel_rfl) UE h
theorem cU:zya 110 EY:=vt mix Qc QW [(124,Gw)] (gs WV g0) rfl (fun _ _=>rfl) fun O x=>by kernel_rfl
theorem rJ:zya 111 G1:=vt mix bW cD [] g0 rfl (fun _ _=>rfl) fun O x=>by kernel_rfl
theorem sY:zya 95 K9:=vt mix fB Pp [(110,EY),(111,G1)] (gs cU (gs rJ g0)) rfl (fun _ _=>rfl) fun O x=>by kernel_rfl
theorem bL:zya 75 EJ:=vt mix bR Ju [(79,Dq),(93,Ik),(94,Hu),(95,K9)] (gs VT (gs oC (gs kG (gs sY g0)))) rfl (fun _ _=>rfl) fun O x=>by kernel_rfl
theorem FG:zya 112 Af:=fun N h=>
 Rp mix (T:=122) (e:=228) (b:=1) Tryz.func112 Tryz.underlying122 (by kernel_rfl) (by decide) (fun O l=>by kernel_rfl) (fun O l=>by kernel_rfl) h
theorem Hl:zya 113 As:=fun N h=>
 Rp mix (T:=53) (e:=3) (b:=8) Tryz.func113 Tryz.underlying53 (by kernel_rfl) (by decide) (fun O l=>by kernel_rfl) (fun O l=>by kernel_rfl) h
theorem Gh:zya 114 Al:=fun N h=>
 Rp mix (T:=123) (e:=4) (b:=1) Tryz.func114 Tryz.underlying123 (by kernel_rfl) (by decide) (fun O l=>by kernel_rfl) (fun O l=>by kernel_rfl) h
theorem DT:zya 96 Ac:=vt mix Wm Kr [(112,Af),(113,As),(114,Al)] (gs FG (gs Hl (gs Gh g0))) rfl (fun _ _=>rfl) fun O x=>by kernel_rfl
theorem qg:zya 76 J4:=vt mix bQ NY [(67,EK),(96,Ac)] (gs bT (gs DT g0)) rfl (fun _ _=>rfl) fun O x=>by kernel_rfl
theorem TB:zya 101 Ci:=vt mix cH NG [] g0 rfl (fun _ _=>rfl) fun O x=>by kernel_rfl
theorem Sb:zya 118 Cb:=vt mix Sf G7 [] g0 rfl (fun _ _=>rfl) fun O x=>by kernel_rfl
theorem mV:zya 102 HN:=vt mix XH KR [(74,EL),(97,Bm),(101,Ci),(118,Cb)] (gs bv (gs NO (gs TB (gs Sb g0)))) rfl (fun _ _=>rfl) fun O x=>by kernel_rfl
theorem mq:zya 115 Hc:=vt mix Xf Kk [(47,Ab),(106,Az)] (gs DH (gs Fa g0)) rfl (fun _ _=>rfl) fun O x=>by kernel_rfl
theorem nJ:zya 116 Iy:=vt mix ZO MD [(97,Bm),(101,Ci)] (gs NO (gs TB g0)) rfl (fun _ _=>rfl) fun O x=>by kernel_rfl
theorem gA:zya 134 Fl:=vt mix TL TU [] g0 rfl (fun _ _=>rfl) fun O x=>by kernel_rfl
theorem lu:zya 125 HJ:=vt mix Wt KV [(134,Fl)] (gs gA g0) rfl (fun _ _=>rfl) fun O x=>by kernel_rfl
theorem Is:zya 156 BE:=vt mix dV QD [(112,Af),(113,As),(114,Al)] (gs FG (gs Hl (gs Gh g0))) rfl (fun _ _=>rfl) fun O x=>by kernel_rfl
theorem jx:zya 175 Dm:=vt mix Ut WB [] g0 rfl (fun _ _=>rfl) fun O x=>by kernel_rfl
theorem ZK:zya 157 Cs:=vt mix YZ F8 [(175,Dm)] (gs jx g0) rfl (fun _ _=>rfl) fun O x=>by kernel_rfl
theorem Iv:zya 158 BF:=vt mix ZB MO [] g0 rfl (fun _ _=>rfl) fun O x=>by kernel_rfl
theorem rI:zya 135 Jt:=vt mix cL Na [(156,BE),(157,Cs),(158,BF)] (gs Is (gs ZK (gs Iv g0))) rfl (fun _ _=>rfl) fun O x=>by kernel_rfl
theorem YE:zya 159 DW:=vt mix iC Rk [(112,Af),(113,As),(114,Al)] (gs FG (gs Hl (gs Gh g0))) rfl (fun _ _=>rfl) fun O x=>by kernel_rfl
theorem TC:zya 176 Cm:=vt mix bV NU [] g0 rfl (fun _ _=>rfl) fun O x=>by kernel_rfl
theorem ul:zya 177 K2:=vt mix eU PU [(47,Ab),(176,Cm)] (gs DH (gs TC g0)) rfl (fun _ _=>rfl) fun O x=>by kernel_rfl
theorem wP:zya 160 Mx:=vt mix gS Rt [(47,Ab),(121,A8),(176,Cm),(177,K2)] (gs DH (gs IR (gs TC (gs ul g0)))) rfl (fun _ _=>rfl) fun O x=>by kernel_rfl
theorem tf:zya 136 Lb:=vt mix ez Pr [(159,DW),(160,Mx)] (gs YE (gs wP g0)) rfl (fun _ _=>rfl) fun O x=>by kernel_rfl
theorem cV:zya 64 EZ:=vt mix Qe Gm [] g0 rfl (fun _ _=>rfl) fun O x=>by kernel_rfl
theorem Us:zya 50 C9:=vt mix U1 JT [(64,EZ)] (gs cV g0) rfl (fun _ _=>rfl) fun O x=>by kernel_rfl
theorem cQ:zya 51 EX:=vt mix QY Gk [] g0 rfl (fun _ _=>rfl) fun O x=>by kernel_rfl
theorem Fg:zya 22 A9:=vt mix Tn IA [(50,C9),(51,EX)] (gs Us (gs cQ g0)) rfl (fun _ _=>rfl) fun O x=>by kernel_rfl
theorem GB:zya 23 BB:=vt mix WE VE [] g0 rfl (fun _ _=>rfl) fun O x=>by kernel_rfl
theorem Pd:zya 149 Bp:=vt mix Wo FE [(157,Cs)] (gs ZK g0) rfl (fun _ _=>rfl) fun O x=>by kernel_rfl
theorem Jq:zya 168 BT:=vt mix bU NJ [] g0 rfl (fun _ _=>rfl) fun O x=>by kernel_rfl
theorem JZ:zya 169 BP:=vt mix VR JS [(168,BT)] (gs Jq g0) rfl (fun _ _=>rfl) fun O x=>by kernel_rfl
theorem lR:zya 183 HR:=vt mix XN Km [] g0 rfl (fun _ _=>rfl) fun O x=>by kernel_rfl
theorem rF:zya 178 Jo:=vt mix cC NK [(168,BT),(169,BP),(183,HR)] (gs Jq (gs JZ (gs lR g0))) rfl (fun _ _=>rfl) fun O x=>by kernel_rfl
theorem Te:zya 188 CF:=vt mix TN Tj [] g0 rfl (fun _ _=>rfl) fun O x=>by kernel_rfl
theorem mu:zya 184 Il:=vt mix Y1 MU [(188,CF)] (gs Te g0) rfl (fun _ _=>rfl) fun O x=>by kernel_rfl
theorem dJ:zya 189 E5:=vt mix Sa G6 [] g0 rfl (fun _ _=>rfl) fun O x=>by kernel_rfl
theorem Yr:zya 185 Dw:=vt mix OL FH [(189,E5)] (gs dJ g0) rfl (fun _ _=>rfl) fun O x=>by kernel_rfl
theorem dp:zya 190 Ey:=vt mix R9 HU [] g0 rfl (fun _ _=>rfl) fun O x=>by kernel_rfl
theorem jh:zya 186 GZ:=vt mix U0 JY [(188,CF),(190,Ey)] (gs Te (gs dp g0)) rfl (fun _ _=>rfl) fun O x=>by kernel_rfl
theorem Xq:zya 191 Dd:=vt mix Mr Et [] g0 rfl (fun _ _=>rfl) fun O x=>by kernel_rfl
theorem Z1:zya 187 ED:=vt mix Pv Fy [(191,Dd)] (gs Xq g0) rfl (fun _ _=>rfl) fun O x=>by kernel_rfl
theorem aW:zya 179 D7:=vt mix PY Fu [(184,Il),(185,Dw),(186,GZ),(187,ED)] (gs mu (gs Yr (gs jh (gs Z1 g0)))) rfl (fun _ _=>rfl) fun O x=>by kernel_rfl
theorem qz:zya 180 J7:=vt mix cM NN [(168,BT),(169,BP)] (gs Jq (gs JZ g0)) rfl (fun _ _=>rfl) fun O x=>by kernel_rfl
theorem gN:zya 161 Fk:=vt mix Td IK [(50,C9),(149,Bp),(178,Jo),(179,D7),(180,J7)] (gs Us (gs Pd (gs rF (gs aW (gs qz g0))))) rfl (fun _ _=>rfl) fun O x=>by kernel_rfl
theorem uf:zya 162 Lj:=vt mix dE Oq [(156,BE),(158,BF)] (gs Is (gs Iv g0)) rfl (fun _ _=>rfl) fun O x=>by kernel_rfl
theorem um:zya 163 Ld:=vt mix dT O0 [(47,Ab),(121,A8),(159,DW),(176,Cm)] (gs DH (gs IR (gs YE (gs TC g0)))) rfl (fun _ _=>rfl) fun O x=>by kernel_rfl
theorem mS:zya 164 Hj:=vt mix XJ KY [(156,BE)] (gs Is g0) rfl (fun _ _=>rfl) fun O x=>by kernel_rfl
theorem np:zya 137 Iq:=vt mix Y7 Lw [(22,A9),(23,BB),(96,Ac),(161,Fk),(162,Lj),(163,Ld),(164,Hj)] (gs Fg (gs GB (gs DT (gs gN (gs uf (gs um (gs mS g0))))))) rfl (fun _ _=>rfl) fun O x=>by kernel_rfl
theorem eM:zya 165 Ez:=vt mix dU Pk [(149,Bp),(158,BF)] (gs Pd (gs Iv g0)) rfl (fun _ _=>rfl) fun O x=>by kernel_rfl
theorem i7:zya 138 GX:=vt mix U7 JC [(156,BE),(158,BF),(165,Ez)] (gs Is (gs Iv (gs eM g0))) rfl (fun _ _=>rfl) fun O x=>by kernel_rfl
theorem oN:zya 139 Ia:=vt mix Ys Lt [(156,BE),(165,Ez)] (gs Is (gs eM g0)) rfl (fun _ _=>rfl) fun O x=>by kernel_rfl
theorem bI:zya 150 Df:=vt mix bP Gz [] g0 rfl (fun _ _=>rfl) fun O x=>by kernel_rfl
theorem mH:zya 140 HI:=vt mix Wu Kq [(150,Df),(156,BE),(158,BF)] (gs bI (gs Is (gs Iv g0))) rfl (fun _ _=>rfl) fun O x=>by kernel_rfl
theorem Xz:zya 167 DZ:=vt mix gf Ry [(112,Af),(113,As),(114,Al)] (gs FG (gs Hl (gs Gh g0))) rfl (fun _ _=>rfl) fun O x=>by kernel_rfl
theorem kQ:zya 141 He:=vt mix Wl Kt [(167,DZ)] (gs Xz g0) rfl (fun _ _=>rfl) fun O x=>by kernel_rfl
theorem nO:zya 142 IL:=vt mix ZU MF [(167,DZ),(168,BT),(169,BP)] (gs Xz (gs Jq (gs JZ g0))) rfl (fun _ _=>rfl) fun O x=>by kernel_rfl
theorem cz:zya 143 E0:=vt mix SI HB [(167,DZ),(168,BT),(169,BP)] (gs Xz (gs Jq (gs JZ g0))) rfl (fun _ _=>rfl) fun O x=>by kernel_rfl
theorem kP:zya 144 HX:=vt mix Xm Kg [(47,Ab),(159,DW)] (gs DH (gs YE g0)) rfl (fun _ _=>rfl) fun O x=>by kernel_rfl
theorem gK:zya 145 Fi:=vt mix Ta IE [(96,Ac)] (gs DT g0) rfl (fun _ _=>rfl) fun O x=>by kernel_rfl
theorem Tc:zya 128 Cv:=vt mix TT IC [(96,Ac)] (gs DT g0) rfl (fun _ _=>rfl) fun O x=>by kernel_rfl
theorem f8:zya 146 Fb:=vt mix TK II [(96,Ac),(128,Cv)] (gs DT (gs Tc g0)) rfl (fun _ _=>rfl) fun O x=>by kernel_rfl
theorem jY:zya 147 GA:=vt mix Va GQ [(96,Ac)] (gs DT g0) rfl (fun _ _=>rfl) fun O x=>by kernel_rfl
theorem W9:zya 37 D8:=vt mix Xp XO [] g0 rfl (fun _ _=>rfl) fun O x=>by kernel_rfl
theorem iR:zya 148 GD:=vt mix Vl JJ [(37,D8),(96,Ac)] (gs W9 (gs DT g0)) rfl (fun _ _=>rfl) fun O x=>by kernel_rfl
theorem fp:zya 126 FX:=vt mix Tk Fd [(135,Jt),(136,Lb),(137,Iq),(138,GX),(139,Ia),(140,HI),(141,He),(142,IL),(143,E0),(144,HX),(145,Fi),(146,Fb),(147,GA),(148,GD)] (gs rI (gs tf (gs np (gs i7 (gs oN (gs mH (gs kQ (gs nO (gs cz (gs kP (gs gK (gs f8 (gs jY (gs iR g0)))))))))))))) rfl (fun _ _=>rfl) fun O x=>by kernel_rfl
theorem iG:zya 127 Eo:=vt mix Uy Ja [(90,Bl),(149,Bp),(150,Df)] (gs Oy (gs Pd (gs bI g0))) rfl (fun _ _=>rfl) fun O x=>by kernel_rfl
theorem o5:zya 117 Ic:=vt mix ZD MA [(75,EJ),(90,Bl),(96,Ac),(125,HJ),(126,FX),(127,Eo)] (gs bL (gs Oy (gs DT (gs lu (gs fp (gs iG g0)))))) rfl (fun _ _=>rfl) fun O x=>by kernel_rfl
theorem rt:zya 68 P5:=vt mix dx PR [(74,EL),(75,EJ),(76,J4),(91,EN),(97,Bm),(101,Ci),(102,HN),(115,Hc),(116,Iy),(117,Ic),(118,Cb),(128,Cv)] (gs bv (gs bL (gs qg (gs cA (gs NO (gs TB (gs mV (gs mq (gs nJ (gs o5 (gs Sb (gs Tc g0)))))))))))) rfl (fun _ _=>rfl) fun O x=>by kernel_rfl
def kC:Cfg:={ gam:=[⟨68,[],true,true,[],[]⟩],imm:=false,old:=false }
theorem wQ(O:Alg)(x:Ags O):XF (O:=O) Tryz.prog kC (CI.ow ⟨54,[],false,false,[],[]⟩) false [] 54 [] (xr x Z7 0)=Ow O x:=by kernel_rfl
theorem yi{E:Env}{M:Nat}(N:Nat)(h:∀ls,E 54 [] ls=Pz N ls):VV Tryz.prog E M ⟨54,[],false,false,[],[]⟩:=
 BS mix (E:=Iz N) (N:=N) (cfg:=kC) (ci:=⟨54,[],false,false,[],[]⟩) (ks:=Z7) (AP (rt N (fun _=>rfl)) CD) (c:=Pz N) (F:=fun ls=>Ow (std (Iz N) N) (xOf ls)) (fun ls=>rfl) (fun ls=>wQ (std (Iz N) N) (xOf ls)) h
theorem kX:zya 55 Kp:=vt mix Wh Ks [(22,A9)] (gs Fg g0) rfl (fun _ _=>rfl) fun O x=>by kernel_rfl
def mZ:Cfg:={ gam:=[⟨53,[],true,true,[],[]⟩,⟨54,[],false,false,[],[]⟩,⟨55,[],true,true,[],[]⟩],imm:=false,old:=true,ie:=[173,82,43,69,91,61,130,3,63,65,125,121,1000106,228,4,177,183,5,196,204,212,224,100,78,282] }
theorem v7(O:Alg)(x:Ags O):XF (O:=O) Tryz.prog mZ (CI.ow ⟨27,[],true,false,[],[173,82,43,69,91,61,130,3,63,65,125,121,1000106,228,4,177,183,5,196,204,212,224,100,78,282]⟩) false [] 27 [] (xr x Zk 0)=Pw O x:=by kernel_rfl
theorem HG{E:Env}{M:Nat}(N:Nat)(h:∀ls,E 27 [] ls=Bc N ls):VV Tryz.prog E M ⟨27,[],true,false,[],[173,82,43,69,91,61,130,3,63,65,125,121,1000106,228,4,177,183,5,196,204,212,224,100,78,282]⟩:=
 BS mix (E:=E4 N) (N:=N) (cfg:=mZ) (ci:=⟨27,[],true,false,[],[173,82,43,69,91,61,130,3,63,65,125,121,1000106,228,4,177,183,5,196,204,212,224,100,78,282]⟩) (ks:=Zk) (AP (wa N (fun _=>rfl)) (AP (yi N (fun _=>rfl)) (AP (kX N (fun _=>rfl)) CD))) (c:=Bc N) (F:=fun ls=>Pw (std (E4 N) N) (xOf ls)) (fun ls=>rfl) (fun ls=>v7 (std (E4 N) N) (xOf ls)) h
def eS:Cfg:={ gam:=[⟨27,[],true,false,[],[173,82,43,69,91,61,130,3,63,65,125,121,1000106,228,4,177,183,5,196,204,212,224,100,78,282]⟩],imm:=false,old:=false }
theorem rD(O:Alg)(x:Ags O):XF (O:=O) Tryz.prog eS (CI.ow ⟨48,[],false,false,[],[]⟩) false [] 48 [] (xr x WC 0)=LN O x:=by kernel_rfl
theorem Ur{E:Env}{M:Nat}(N:Nat)(h:∀ls,E 48 [] ls=DB N ls):VV Tryz.prog E M ⟨48,[],false,false,[],[]⟩:=
 BS mix (E:=F4 N) (N:=N) (cfg:=eS) (ci:=⟨48,[],false,false,[],[]⟩) (ks:=WC) (AP (HG N (fun _=>rfl)) CD) (c:=DB N) (F:=fun ls=>LN (std (F4 N) N) (xOf ls)) (fun ls=>rfl) (fun ls=>rD (std (F4 N) N) (xOf ls)) h
def gp:Cfg:={ gam:=[⟨47,[],true,true,[],[]⟩,⟨48,[],false,false,[],[]⟩],imm:=false,old:=false }
theorem vO(O:Alg)(x:Ags O):XF (O:=O) Tryz.prog gp (CI.ow ⟨19,[],true,true,[],[]⟩) true [] 19 [] (xr x X9 0)=M5 O x:=by kernel_rfl
theorem Hy:zya 19 Bb:=fun N h=>
 BS mix (E:=FW N) (N:=N) (cfg:=gp) (ci:=⟨19,[],true,true,[],[]⟩) (ks:=X9) (AP (DH N (fun _=>rfl)) (AP (Ur N (fun _=>rfl)) CD)) (c:=Bb N) (F:=fun ls=>M5 (std (FW N) N) (xOf ls)) (fun ls=>rfl) (fun ls=>vO (std (FW N) N) (xOf ls)) h
theorem qf:zya 49 J3:=vt mix bu NQ [] g0 rfl (fun _ _=>rfl) fun O x=>by kernel_rfl
theorem q9:zya 20 J6:=vt mix cK NW [(17,Ay),(49,J3)] (gs Dy (gs qf g0)) rfl (fun _ _=>rfl) fun O x=>by kernel_rfl
theorem wD:zya 21 Mv:=vt mix gV Rx [] g0 rfl (fun _ _=>rfl) fun O x=>by kernel_rfl
theorem wo:zya 24 KF:=vt mix gR Rj [] g0 rfl (fun _ _=>rfl) fun O x=>by kernel_rfl
theorem YW:zya 4 Dt:=vt mix YQ MQ [(17,Ay),(19,Bb),(20,J6),(21,Mv),(22,A9),(23,BB),(24,KF)] (gs Dy (gs Hy (gs q9 (gs wD (gs Fg (gs GB (gs wo g0))))))) rfl (fun _ _=>rfl) fun O x=>by kernel_rfl
theorem YF:zya 5 D3:=vt mix gQ iB [] g0 rfl (fun _ _=>rfl) fun O x=>by kernel_rfl
theorem wh:zya 25 Xs:=vt mix gu gr [] g0 rfl (fun _ _=>rfl) fun O x=>by kernel_rfl
theorem ej:zya 6 F1:=vt mix qe qV [(25,Xs)] (gs wh g0) rfl (fun _ _=>rfl) fun O x=>by kernel_rfl
theorem lS:zya 30 Kc:=vti mix false false [60000] Xl KU [] g0 rfl (fun _ _=>rfl) fun O x=>by kernel_rfl
def Ji:Cfg:={ gam:=[],imm:=false,old:=false }
theorem R3(O:Alg)(x:Ags O):XF (O:=O) Tryz.prog Ji (CI.ow ⟨32,[33],true,true,[],[]⟩) true [] 32 [33] (xr x FO 0)=Cj O x:=by kernel_rfl
theorem Sx{E:Env}{M:Nat}(N:Nat)(h:∀ls,E 32 [33] ls=Ck N ls):VV Tryz.prog E M ⟨32,[33],true,true,[],[]⟩:=
 BS mix (E:=CN N) (N:=N) (cfg:=Ji) (ci:=⟨32,[33],true,true,[],[]⟩) (ks:=FO) CD (c:=Ck N) (F:=fun ls=>Cj (std (CN N) N) (xOf ls)) (fun ls=>rfl) (fun ls=>R3 (std (CN N) N) (xOf ls)) h
theorem K4:zya 34 DD:=vt mix SH HW [] g0 rfl (fun _ _=>rfl) fun O x=>by kernel_rfl
def ZA:Cfg:={ gam:=[⟨17,[],true,true,[],[]⟩,⟨19,[],true,true,[],[]⟩,⟨27,[],true,false,[],[173,82,43,69,91,61,130,3,63,65,125,121,1000106,228,4,177,183,5,196,204,212,224,100,78,282]⟩,⟨30,[],true,true,[],[]⟩,⟨32,[33],true,true,[],[]⟩,⟨34,[],true,true,[],[]⟩],imm:=false,old:=false,ie:=[60000] }
theorem lY(O:Alg)(x:Ags O):XF (O:=O) Tryz.prog ZA (CI.ow ⟨10,[],true,true,[],[]⟩) true [] 10 [] (xr x RC 0)=IY O x:=by kernel_rfl
theorem Y4:zya 10 DJ:=fun N h=>
 BS mix (E:=Bs N) (N:=N) (cfg:=ZA) (ci:=⟨10,[],true,true,[],[]⟩) (ks:=RC) (AP (Dy N (fun _=>rfl)) (AP (Hy N (fun _=>rfl)) (AP (HG N (fun _=>rfl)) (AP (lS N (fun _=>rfl)) (AP (Sx N (fun _=>rfl)) (AP (K4 N (fun _=>rfl)) CD)))))) (c:=DJ N) (F:=fun ls=>IY (std (Bs N) N) (xOf ls)) (fun ls=>rfl) (fun ls=>lY (std (Bs N) N) (xOf ls)) h
theorem jK:zya 44 JR:=vt mix VS JO [] g0 rfl (fun _ _=>rfl) fun O x=>by kernel_rfl
def TJ:Cfg:={ gam:=[⟨17,[],true,true,[],[]⟩,⟨19,[],true,true,[],[]⟩,⟨27,[],true,false,[],[173,82,43,69,91,61,130,3,63,65,125,121,1000106,228,4,177,183,5,196,204,212,224,100,78,282]⟩,⟨44,[],true,true,[],[]⟩],imm:=false,old:=false,ie:=[60001] }
theorem fD(O:Alg)(x:Ags O):XF (O:=O) Tryz.prog TJ (CI.ow ⟨15,[],true,true,[],[]⟩) true [] 15 [] (xr x Mj 0)=Ff O x:=by kernel_rfl
theorem Th:zya 15 CJ:=fun N h=>
 BS mix (E:=Bu N) (N:=N) (cfg:=TJ) (ci:=⟨15,[],true,true,[],[]⟩) (ks:=Mj) (AP (Dy N (fun _=>rfl)) (AP (Hy N (fun _=>rfl)) (AP (HG N (fun _=>rfl)) (AP (jK N (fun _=>rfl)) CD)))) (c:=CJ N) (F:=fun ls=>Ff (std (Bu N) N) (xOf ls)) (fun ls=>rfl) (fun ls=>fD (std (Bu N) N) (xOf ls)) h
theorem fu:zya 80 Ma:=vt mix Tp TI [] g0 rfl (fun _ _=>rfl) fun O x=>by kernel_rfl
theorem VX:zya 81 GG:=vt mix VQ Vp [] g0 rfl (fun _ _=>rfl) fun O x=>by kernel_rfl
theorem Z6:zya 129 Jc:=fun N h=>
 yZ Tryz.func129 (T2:=2) (T3:=3) (T9:=9) rfl rfl Tryz.underlying2 Tryz.underlying3 Tryz.underlying9 (by kernel_rfl) (by kernel_rfl) (fun i h0 hi w ht=>Tryz.internal_strconv_FormatInt_10 i h0 hi w ht) h
theorem cT:zya 120 KK:=vt mix QX Qd [(129,Jc)] (gs Z6 g0) rfl (fun _ _=>rfl) fun O x=>by kernel_rfl
theorem ZI:zya 104 Ih:=vt mix Yn Yk [(120,KK)] (gs cT g0) rfl (fun _ _=>rfl) fun O x=>by kernel_rfl
theorem f9:zya 82 MY:=vt mix TY TR [(81,GG),(104,Ih)] (gs VX (gs ZI g0)) rfl (fun _ _=>rfl) fun O x=>by kernel_rfl
theorem iI:zya 70 Nu:=vt mix Vg WJ [(79,Dq),(80,Ma),(81,GG),(82,MY)] (gs VT (gs fu (gs VX (gs f9 g0)))) rfl (fun _ _=>rfl) fun O x=>by kernel_rfl
def ZN:Cfg:={ gam:=[⟨19,[],true,true,[],[]⟩,⟨27,[],true,false,[],[173,82,43,69,91,61,130,3,63,65,125,121,1000106,228,4,177,183,5,196,204,212,224,100,78,282]⟩,⟨70,[],true,true,[],[]⟩],imm:=false,old:=false }
theorem lJ(O:Alg)(x:Ags O):XF (O:=O) Tryz.prog ZN (CI.ow ⟨65,[],true,true,[],[]⟩) true [] 65 [] (xr x Qz 0)=Ij O x:=by kernel_rfl
theorem oW:zya 65 Ef:=fun N h=>
 BS mix (E:=DA N) (N:=N) (cfg:=ZN) (ci:=⟨65,[],true,true,[],[]⟩) (ks:=Qz) (AP (Hy N (fun _=>rfl)) (AP (HG N (fun _=>rfl)) (AP (iI N (fun _=>rfl)) CD))) (c:=Ef N) (F:=fun ls=>Ij (std (DA N) N) (xOf ls)) (fun ls=>rfl) (fun ls=>lJ (std (DA N) N) (xOf ls)) h
theorem fm:zya 83 Mk:=vt mix Tl Tf [(22,A9)] (gs Fg g0) rfl (fun _ _=>rfl) fun O x=>by kernel_rfl
theorem VY:zya 105 Gg:=vt mix U4 VI [(104,Ih)] (gs ZI g0) rfl (fun _ _=>rfl) fun O x=>by kernel_rfl
theorem Xx:zya 84 H0:=vt mix NB Mz [(105,Gg)] (gs VY g0) rfl (fun _ _=>rfl) fun O x=>by kernel_rfl
theorem lA:zya 71 P8:=vt mix W8 W0 [(83,Mk),(84,H0)] (gs fm (gs Xx g0)) rfl (fun _ _=>rfl) fun O x=>by kernel_rfl
def IP:Cfg:={ gam:=[],imm:=false,old:=false }
theorem QU(O:Alg)(x:Ags O):XF (O:=O) Tryz.prog IP (CI.ow ⟨59,[88],true,true,[],[]⟩) true [] 59 [88] (xr x Em 0)=Ej O x:=by kernel_rfl
theorem RW{E:Env}{M:Nat}(N:Nat)(h:∀ls,E 59 [88] ls=El N ls):VV Tryz.prog E M ⟨59,[88],true,true,[],[]⟩:=
 BS mix (E:=C0 N) (N:=N) (cfg:=IP) (ci:=⟨59,[88],true,true,[],[]⟩) (ks:=Em) CD (c:=El N) (F:=fun ls=>Ej (std (C0 N) N) (xOf ls)) (fun ls=>rfl) (fun ls=>QU (std (C0 N) N) (xOf ls)) h
def LT:Cfg:={ gam:=[],imm:=false,old:=false }
theorem UA(O:Alg)(x:Ags O):XF (O:=O) Tryz.prog LT (CI.ow ⟨86,[87],true,true,[],[]⟩) true [] 86 [87] (xr x GJ 0)=GC O x:=by kernel_rfl
theorem VW{E:Env}{M:Nat}(N:Nat)(h:∀ls,E 86 [87] ls=GE N ls):VV Tryz.prog E M ⟨86,[87],true,true,[],[]⟩:=
 BS mix (E:=Dj N) (N:=N) (cfg:=LT) (ci:=⟨86,[87],true,true,[],[]⟩) (ks:=GJ) CD (c:=GE N) (F:=fun ls=>GC (std (Dj N) N) (xOf ls)) (fun ls=>rfl) (fun ls=>UA (std (Dj N) N) (xOf ls)) h
theorem j9:zya 89 W5:=vt mix XG W3 [(22,A9),(105,Gg)] (gs Fg (gs VY g0)) rfl (fun _ _=>rfl) fun O x=>by kernel_rfl
def Vt:Cfg:={ gam:=[⟨34,[],true,true,[],[]⟩,⟨59,[88],true,true,[],[]⟩,⟨86,[87],true,true,[],[]⟩,⟨89,[],true,true,[],[]⟩],imm:=false,old:=false,ie:=[60000] }
theorem fq(O:Alg)(x:Ags O):XF (O:=O) Tryz.prog Vt (CI.ow ⟨72,[],true,true,[],[]⟩) true [] 72 [] (xr x Ng 0)=N7 O x:=by kernel_rfl
theorem jM:zya 72 Jg:=fun N h=>
 BS mix (E:=HL N) (N:=N) (cfg:=Vt) (ci:=⟨72,[],true,true,[],[]⟩) (ks:=Ng) (AP (K4 N (fun _=>rfl)) (AP (RW N (fun _=>rfl)) (AP (VW N (fun _=>rfl)) (AP (j9 N (fun _=>rfl)) CD)))) (c:=Jg N) (F:=fun ls=>N7 (std (HL N) N) (xOf ls)) (fun ls=>rfl) (fun ls=>fq (std (HL N) N) (xOf ls)) h
def Wj:Cfg:={ gam:=[⟨4,[],true,true,[],[]⟩,⟨17,[],true,true,[],[]⟩,⟨27,[],true,false,[],[173,82,43,69,91,61,130,3,63,65,125,121,1000106,228,4,177,183,5,196,204,212,224,100,78,282]⟩,⟨71,[],true,true,[],[]⟩,⟨72,[],true,true,[],[]⟩],imm:=false,old:=false }
theorem jw(O:Alg)(x:Ags O):XF (O:=O) Tryz.prog Wj (CI.ow ⟨66,[],true,true,[],[]⟩) true [] 66 [] (xr x P2 0)=HP O x:=by kernel_rfl
theorem lh:zya 66 EC:=fun N h=>
 BS mix (E:=B0 N) (N:=N) (cfg:=Wj) (ci:=⟨66,[],true,true,[],[]⟩) (ks:=P2) (AP (YW N (fun _=>rfl)) (AP (Dy N (fun _=>rfl)) (AP (HG N (fun _=>rfl)) (AP (lA N (fun _=>rfl)) (AP (jM N (fun _=>rfl)) CD))))) (c:=EC N) (F:=fun ls=>HP (std (B0 N) N) (xOf ls)) (fun ls=>rfl) (fun ls=>jw (std (B0 N) N) (xOf ls)) h
theorem oa:zya 52 IW:=vt mix Yf L8 [(65,Ef),(66,EC)] (gs oW (gs lh g0)) rfl (fun _ _=>rfl) fun O x=>by kernel_rfl
def Xh:Cfg:={ gam:=[⟨5,[],true,true,[],[]⟩,⟨6,[],true,true,[],[]⟩,⟨48,[],false,false,[],[]⟩,⟨52,[],true,true,[],[]⟩],imm:=false,old:=false }
theorem jD(O:Alg)(x:Ags O):XF (O:=O) Tryz.prog Xh (CI.ow ⟨26,[],true,true,[],[]⟩) true [] 26 [] (xr x PD 0)=HF O x:=by kernel_rfl
theorem mT:zya 26 FL:=fun N h=>
 BS mix (E:=CK N) (N:=N) (cfg:=Xh) (ci:=⟨26,[],true,true,[],[]⟩) (ks:=PD) (AP (YF N (fun _=>rfl)) (AP (ej N (fun _=>rfl)) (AP (Ur N (fun _=>rfl)) (AP (oa N (fun _=>rfl)) CD)))) (c:=FL N) (F:=fun ls=>HF (std (CK N) N) (xOf ls)) (fun ls=>rfl) (fun ls=>jD (std (CK N) N) (xOf ls)) h
theorem mY:zya 7 HC:=vt mix Wc Kn [(5,D3),(6,F1),(10,DJ),(15,CJ),(26,FL)] (gs YF (gs ej (gs Y4 (gs Th (gs mT g0))))) rfl (fun _ _=>rfl) fun O x=>by kernel_rfl
def bp:Cfg:={ gam:=[],imm:=false,old:=false }
theorem pH(O:Alg)(x:Ags O):XF (O:=O) Tryz.prog bp (CI.ow ⟨8,[],false,false,[],[]⟩) false [] 8 [] (xr x Sr 0)=J0 O x:=by kernel_rfl
theorem rE{E:Env}{M:Nat}(N:Nat)(h:∀ls,E 8 [] ls=Jn N ls):VV Tryz.prog E M ⟨8,[],false,false,[],[]⟩:=
 BS mix (E:=Hi N) (N:=N) (cfg:=bp) (ci:=⟨8,[],false,false,[],[]⟩) (ks:=Sr) CD (c:=Jn N) (F:=fun ls=>J0 (std (Hi N) N) (xOf ls)) (fun ls=>rfl) (fun ls=>pH (std (Hi N) N) (xOf ls)) h
theorem eK:zya 28 HE:=vt mix R2 Hq [] g0 rfl (fun _ _=>rfl) fun O x=>by kernel_rfl
def VC:Cfg:={ gam:=[⟨19,[],true,true,[],[]⟩,⟨23,[],true,true,[],[]⟩,⟨27,[],true,false,[],[173,82,43,69,91,61,130,3,63,65,125,121,1000106,228,4,177,183,5,196,204,212,224,100,78,282]⟩,⟨28,[],true,true,[],[]⟩],imm:=false,old:=false }
theorem fw(O:Alg)(x:Ags O):XF (O:=O) Tryz.prog VC (CI.ow ⟨9,[],true,true,[],[]⟩) true [] 9 [] (xr x N5 0)=GR O x:=by kernel_rfl
theorem jZ:zya 9 F9:=fun N h=>
 BS mix (E:=B6 N) (N:=N) (cfg:=VC) (ci:=⟨9,[],true,true,[],[]⟩) (ks:=N5) (AP (Hy N (fun _=>rfl)) (AP (GB N (fun _=>rfl)) (AP (HG N (fun _=>rfl)) (AP (eK N (fun _=>rfl)) CD)))) (c:=F9 N) (F:=fun ls=>GR (std (B6 N) N) (xOf ls)) (fun ls=>rfl) (fun ls=>fw (std (B6 N) N) (xOf ls)) h
def XI:Cfg:={ gam:=[⟨17,[],true,true,[],[]⟩,⟨19,[],true,true,[],[]⟩,⟨27,[],true,false,[],[173,82,43,69,91,61,130,3,63,65,125,121,1000106,228,4,177,183,5,196,204,212,224,100,78,282]⟩,⟨34,[],true,true,[],[]⟩],imm:=false,old:=true,ie:=[60004] }
theorem jV(O:Alg)(x:Ags O):XF (O:=O) Tryz.prog XI (CI.ow ⟨35,[],false,false,[],[]⟩) false [] 35 [] (xr x Pm 0)=Hd O x:=by kernel_rfl
theorem Wp{E:Env}{M:Nat}(N:Nat)(h:∀ls,E 35 [] ls=EG N ls):VV Tryz.prog E M ⟨35,[],false,false,[],[]⟩:=
 BS mix (E:=CL N) (N:=N) (cfg:=XI) (ci:=⟨35,[],false,false,[],[]⟩) (ks:=Pm) (AP (Dy N (fun _=>rfl)) (AP (Hy N (fun _=>rfl)) (AP (HG N (fun _=>rfl)) (AP (K4 N (fun _=>rfl)) CD)))) (c:=EG N) (F:=fun ls=>Hd (std (CL N) N) (xOf ls)) (fun ls=>rfl) (fun ls=>jV (std (CL N) N) (xOf ls)) h
def tS:Cfg:={ gam:=[⟨47,[],true,true,[],[]⟩,⟨48,[],false,false,[],[]⟩],imm:=false,old:=false }
theorem AA3(O:Alg)(x:Ags O):XF (O:=O) Tryz.prog tS (CI.ow ⟨58,[],false,false,[],[]⟩) false [] 58 [] (xr x jO 0)=WH O x:=by kernel_rfl
theorem ABk{E:Env}{M:Nat}(N:Nat)(h:∀ls,E 58 [] ls=Vm N ls):VV Tryz.prog E M ⟨58,[],false,false,[],[]⟩:=
 BS mix (E:=Jf N) (N:=N) (cfg:=tS) (ci:=⟨58,[],false,false,[],[]⟩) (ks:=jO) (AP (DH N (fun _=>rfl)) (AP (Ur N (fun _=>rfl)) CD)) (c:=Vm N) (F:=fun ls=>WH (std (Jf N) N) (xOf ls)) (fun ls=>rfl) (fun ls=>AA3 (std (Jf N) N) (xOf ls)) h
def XA:Cfg:={ gam:=[⟨58,[],false,false,[],[]⟩],imm:=false,old:=false }
theorem jv(O:Alg)(x:Ags O):XF (O:=O) Tryz.prog XA (CI.ow ⟨36,[],false,false,[],[]⟩) false [] 36 [] (xr x QC 0)=Ha O x:=by kernel_rfl
theorem Xg{E:Env}{M:Nat}(N:Nat)(h:∀ls,E 36 [] ls=D9 N ls):VV Tryz.prog E M ⟨36,[],false,false,[],[]⟩:=
 BS mix (E:=EH N) (N:=N) (cfg:=XA) (ci:=⟨36,[],false,false,[],[]⟩) (ks:=QC) (AP (ABk N (fun _=>rfl)) CD) (c:=D9 N) (F:=fun ls=>Ha (std (EH N) N) (xOf ls)) (fun ls=>rfl) (fun ls=>jv (std (EH N) N) (xOf ls)) h
def WI:Cfg:={ gam:=[⟨23,[],true,true,[],[]⟩,⟨35,[],false,false,[],[]⟩,⟨36,[],false,false,[],[]⟩],imm:=false,old:=false }
theorem fj(O:Alg)(x:Ags O):XF (O:=O) Tryz.prog WI (CI.ow ⟨11,[],true,true,[],[]⟩) true [] 11 [] (xr x N9 0)=GH O x:=by kernel_rfl
theorem ia:zya 11 Gb:=fun N h=>
 BS mix (E:=CX N) (N:=N) (cfg:=WI) (ci:=⟨11,[],true,true,[],[]⟩) (ks:=N9) (AP (GB N (fun _=>rfl)) (AP (Wp N (fun _=>rfl)) (AP (Xg N (fun _=>rfl)) CD))) (c:=Gb N) (F:=fun ls=>GH (std (CX N) N) (xOf ls)) (fun ls=>rfl) (fun ls=>fj (std (CX N) N) (xOf ls)) h
def Wx:Cfg:={ gam:=[⟨35,[],false,false,[],[]⟩,⟨36,[],false,false,[],[]⟩,⟨37,[],true,true,[],[]⟩],imm:=false,old:=false }
theorem iT(O:Alg)(x:Ags O):XF (O:=O) Tryz.prog Wx (CI.ow ⟨12,[],true,true,[],[]⟩) true [] 12 [] (xr x O4 0)=Hg O x:=by kernel_rfl
theorem kh:zya 12 G5:=fun N h=>
 BS mix (E:=Cu N) (N:=N) (cfg:=Wx) (ci:=⟨12,[],true,true,[],[]⟩) (ks:=O4) (AP (Wp N (fun _=>rfl)) (AP (Xg N (fun _=>rfl)) (AP (W9 N (fun _=>rfl)) CD))) (c:=G5 N) (F:=fun ls=>Hg (std (Cu N) N) (xOf ls)) (fun ls=>rfl) (fun ls=>iT (std (Cu N) N) (xOf ls)) h
def bO:Cfg:={ gam:=[⟨17,[],true,true,[],[]⟩,⟨19,[],true,true,[],[]⟩,⟨27,[],true,false,[],[173,82,43,69,91,61,130,3,63,65,125,121,1000106,228,4,177,183,5,196,204,212,224,100,78,282]⟩],imm:=false,old:=false }
theorem nc(O:Alg)(x:Ags O):XF (O:=O) Tryz.prog bO (CI.ow ⟨38,[],true,true,[],[]⟩) true [] 38 [] (xr x TG 0)=Jy O x:=by kernel_rfl
theorem bX:zya 38 Di:=fun N h=>
 BS mix (E:=DS N) (N:=N) (cfg:=bO) (ci:=⟨38,[],true,true,[],[]⟩) (ks:=TG) (AP (Dy N (fun _=>rfl)) (AP (Hy N (fun _=>rfl)) (AP (HG N (fun _=>rfl)) CD))) (c:=Di N) (F:=fun ls=>Jy (std (DS N) N) (xOf ls)) (fun ls=>rfl) (fun ls=>nc (std (DS N) N) (xOf ls)) h
theorem qt:zya 13 ND:=vt mix cJ Nc [(38,Di)] (gs bX g0) rfl (fun _ _=>rfl) fun O x=>by kernel_rfl
theorem oI:zya 39 Ii:=vt mix ZL Lo [(23,BB),(38,Di)] (gs GB (gs bX g0)) rfl (fun _ _=>rfl) fun O x=>by kernel_rfl
theorem vT:zya 14 PF:=vt mix eO O6 [(39,Ii)] (gs oI g0) rfl (fun _ _=>rfl) fun O x=>by kernel_rfl
theorem lH:zya 16 Hp:=vt mix XU Kd [] g0 rfl (fun _ _=>rfl) fun O x=>by kernel_rfl
def Jv:Cfg:={ gam:=[],imm:=false,old:=false }
theorem SV(O:Alg)(x:Ags O):XF (O:=O) Tryz.prog Jv (CI.ow ⟨45,[46],true,true,[],[]⟩) true [] 45 [46] (xr x FR 0)=Co O x:=by kernel_rfl
theorem Sj{E:Env}{M:Nat}(N:Nat)(h:∀ls,E 45 [46] ls=Ch N ls):VV Tryz.prog E M ⟨45,[46],true,true,[],[]⟩:=
 BS mix (E:=CR N) (N:=N) (cfg:=Jv) (ci:=⟨45,[46],true,true,[],[]⟩) (ks:=FR) CD (c:=Ch N) (F:=fun ls=>Co (std (CR N) N) (xOf ls)) (fun ls=>rfl) (fun ls=>SV (std (CR N) N) (xOf ls)) h
def V1:Cfg:={ gam:=[⟨45,[46],true,true,[],[]⟩],imm:=false,old:=false }
theorem f6(O:Alg)(x:Ags O):XF (O:=O) Tryz.prog V1 (CI.ow ⟨18,[],true,true,[],[]⟩) true [] 18 [] (xr x Nk 0)=GV O x:=by kernel_rfl
theorem jQ:zya 18 GT:=fun N h=>
 BS mix (E:=Du N) (N:=N) (cfg:=V1) (ci:=⟨18,[],true,true,[],[]⟩) (ks:=Nk) (AP (Sj N (fun _=>rfl)) CD) (c:=GT N) (F:=fun ls=>GV (std (Du N) N) (xOf ls)) (fun ls=>rfl) (fun ls=>f6 (std (Du N) N) (xOf ls)) h
def Yb:Cfg:={ gam:=[⟨4,[],true,true,[],[]⟩,⟨5,[],true,true,[],[]⟩,⟨6,[],true,true,[],[]⟩,⟨7,[],true,true,[],[]⟩,⟨8,[],false,false,[],[]⟩,⟨9,[],true,true,[],[]⟩,⟨10,[],true,true,[],[]⟩,⟨11,[],true,true,[],[]⟩,⟨12,[],true,true,[],[]⟩,⟨13,[],true,true,[],[]⟩,⟨14,[],true,true,[],[]⟩,⟨15,[],true,true,[],[]⟩,⟨16,[],true,true,[],[]⟩,⟨17,[],true,true,[],[]⟩,⟨18,[],true,true,[],[]⟩],imm:=false,old:=false }
theorem lj(O:Alg)(x:Ags O):XF (O:=O) Tryz.prog Yb (CI.ow ⟨3,[],true,true,[],[]⟩) true [] 3 [] (xr x RS 0)=IX O x:=by kernel_rfl
theorem oj:zya 3 IQ:=fun N h=>
 BS mix (E:=Am N) (N:=N) (cfg:=Yb) (ci:=⟨3,[],true,true,[],[]⟩) (ks:=RS) (AP (YW N (fun _=>rfl)) (AP (YF N (fun _=>rfl)) (AP (ej N (fun _=>rfl)) (AP (mY N (fun _=>rfl)) (AP (rE N (fun _=>rfl)) (AP (jZ N (fun _=>rfl)) (AP (Y4 N (fun _=>rfl)) (AP (ia N (fun _=>rfl)) (AP (kh N (fun _=>rfl)) (AP (qt N (fun _=>rfl)) (AP (vT N (fun _=>rfl)) (AP (Th N (fun _=>rfl)) (AP (lH N (fun _=>rfl)) (AP (Dy N (fun _=>rfl)) (AP (jQ N (fun _=>rfl)) CD))))))))))))))) (c:=IQ N) (F:=fun ls=>IX (std (Am N) N) (xOf ls)) (fun ls=>rfl) (fun ls=>lj (std (Am N) N) (xOf ls)) h
end Go.Px
