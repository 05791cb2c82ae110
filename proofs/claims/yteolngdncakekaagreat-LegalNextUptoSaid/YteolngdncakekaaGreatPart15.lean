/- Part 15. -/
import Derived.Test.YteolngdncakekaaGreatPart07
import Derived.Test.YteolngdncakekaaGreatProg
import Derived.Test.YteolngdncakekaaGreatPart09
import Derived.KernelRfl
import Derived.WalkKit
import Derived.Lib.Walk
import Derived.BigCall
import Derived.BigGuard
set_option linter.unusedVariables false
set_option linter.unusedSimpArgs false
namespace Go.Px
open Go.Proofs
set_option maxRecDepth 100000
theorem mix:Tryz.prog.follows .mixedOrders=true:=by kernel_rfl
theorem nf:Vd Tryz.prog 57 Kf:=vt mix dN Pc [] g0 rfl (fun _ _=>rfl) fun O x=>by kernel_rfl
theorem UU:Vd Tryz.prog 87 CV:=vt mix UF UH [] g0 rfl (fun _ _=>rfl) fun O x=>by kernel_rfl
theorem fB:Vd Tryz.prog 58 FU:=vt mix T4 Ir [(87,CV)] (gs UU g0) rfl (fun _ _=>rfl) fun O x=>by kernel_rfl
theorem iI:Vd Tryz.prog 59 Gl:=vt mix Vt KG [(87,CV)] (gs UU g0) rfl (fun _ _=>rfl) fun O x=>by kernel_rfl
theorem DB:Vd Tryz.prog 32 AS:=vt mix Yl Lk [(57,Kf),(58,FU),(59,Gl)] (gs nf (gs fB (gs iI g0))) rfl (fun _ _=>rfl) fun O x=>by kernel_rfl
theorem EA:Vd Tryz.prog 60 Ag:=vt mix RL RX [] g0 rfl (fun _ _=>rfl) fun O x=>by kernel_rfl
theorem bu:Vd Tryz.prog 61 D2:=vt mix RH GL [(60,Ag)] (gs EA g0) rfl (fun _ _=>rfl) fun O x=>by kernel_rfl
theorem ZE:Vd Tryz.prog 118 Df:=vt mix QA Fr [] g0 rfl (fun _ _=>rfl) fun O x=>by kernel_rfl
theorem Gu:Vd Tryz.prog 88 Al:=vt mix MK Dt [(118,Df)] (gs ZE g0) rfl (fun _ _=>rfl) fun O x=>by kernel_rfl
theorem Yz:Vd Tryz.prog 62 DJ:=vt mix OT E1 [(60,Ag),(88,Al)] (gs EA (gs Gu g0)) rfl (fun _ _=>rfl) fun O x=>by kernel_rfl
theorem Y7:Vd Tryz.prog 90 DK:=vt mix OX E5 [(60,Ag)] (gs EA g0) rfl (fun _ _=>rfl) fun O x=>by kernel_rfl
theorem ba:Vd Tryz.prog 63 D9:=vt mix RS GN [(90,DK)] (gs Y7 g0) rfl (fun _ _=>rfl) fun O x=>by kernel_rfl
theorem NI:Vd Tryz.prog 33 BC:=vt mix UK I1 [(32,AS),(60,Ag),(61,D2),(62,DJ),(63,D9)] (gs DB (gs EA (gs bu (gs Yz (gs ba g0))))) rfl (fun _ _=>rfl) fun O x=>by kernel_rfl
theorem LJ:Vd Tryz.prog 51 BD:=vt mix Yp Ll [] g0 rfl (fun _ _=>rfl) fun O x=>by kernel_rfl
theorem Ye:Vd Tryz.prog 34 C9:=vt mix YY Lc [(51,BD)] (gs LJ g0) rfl (fun _ _=>rfl) fun O x=>by kernel_rfl
theorem kd:Vd Tryz.prog 35 H8:=vt mix Yk LR [] g0 rfl (fun _ _=>rfl) fun O x=>by kernel_rfl
theorem Qz:Vd Tryz.prog 13 CE:=vt mix Yd LY [(32,AS),(33,BC),(34,C9),(35,H8)] (gs DB (gs NI (gs Ye (gs kd g0)))) rfl (fun _ _=>rfl) fun O x=>by kernel_rfl
theorem ib:Vd Tryz.prog 46 G0:=vt mix WG Jq [] g0 rfl (fun _ _=>rfl) fun O x=>by kernel_rfl
theorem fa:Vd Tryz.prog 47 Fh:=vt mix Un OD [] g0 rfl (fun _ _=>rfl) fun O x=>by kernel_rfl
open Go.RowKit Go.Lib in
set_option maxHeartbeats 1000000 in
theorem SH (s:ByteArray) (c:Int) (w:World):Calls Tryz.prog 113 #[.string s,.int .u8 c] w fun e w'=>e=.returned (.int .i64 (Lib.indexByte s.data.toList c.toNat.toUInt8))∧w'=w:=by
 go_enter Tryz.func113,Tryz.ntmps113
 go_wp2
 rw [run_callFunc_extern Tryz.func134 (by kernel_rfl) (by kernel_rfl) (by kernel_rfl) (e:=Extern.BytealgIndexByte.indexByte) (by kernel_rfl),Lib.run_indexByteString]
 simp only [Result.andThen]
 rw [Oper.upon_value]
 go_wp2
 go_ret
 exact ⟨rfl,rfl⟩
theorem Tb:Vd Tryz.prog 113 CO:=fun N h =>
 oX Tryz.func113 (T9:=9) (T5:=5) (T3:=3) rfl rfl Tryz.underlying9 Tryz.underlying5 Tryz.underlying3 (by kernel_rfl) SH h
theorem Y9:Vd Tryz.prog 76 DH:=vt mix OV E4 [(113,CO)] (gs Tb g0) rfl (fun _ _=>rfl) fun O x=>by kernel_rfl
theorem kW:Vd Tryz.prog 77 FG:=vt mix YD YX [] g0 rfl (fun _ _=>rfl) fun O x=>by kernel_rfl
theorem md:Vd Tryz.prog 48 JC:=vt mix aL M6 [(76,DH),(77,FG)] (gs Y9 (gs kW g0)) rfl (fun _ _=>rfl) fun O x=>by kernel_rfl
theorem ZW:Vd Tryz.prog 78 Da:=vt mix QC I9 [] g0 rfl (fun _ _=>rfl) fun O x=>by kernel_rfl
theorem eZ:Vd Tryz.prog 49 Ee:=vt mix TX Hd [(78,Da)] (gs ZW g0) rfl (fun _ _=>rfl) fun O x=>by kernel_rfl
theorem YM:Vd Tryz.prog 28 C7:=vt mix YH IG [(46,G0),(47,Fh),(48,JC),(49,Ee)] (gs ib (gs fa (gs md (gs eZ g0)))) rfl (fun _ _=>rfl) fun O x=>by kernel_rfl
theorem X6:Vd Tryz.prog 74 Cy:=fun N h =>
 Pm mix (T:=22) (e:=118) (b:=24) Tryz.func74 Tryz.underlying22 (by kernel_rfl) (by decide) (fun O l=>by kernel_rfl) (fun O l=>by kernel_rfl) h
theorem YL:Vd Tryz.prog 43 DA:=vt mix Yj LX [(74,Cy)] (gs X6 g0) rfl (fun _ _=>rfl) fun O x=>by kernel_rfl
theorem Dr:Vd Tryz.prog 79 AR:=fun N h =>
 Pm mix (T:=67) (e:=126) (b:=1) Tryz.func79 Tryz.underlying67 (by kernel_rfl) (by decide) (fun O l=>by kernel_rfl) (fun O l=>by kernel_rfl) h
theorem Fg:Vd Tryz.prog 80 Ae:=fun N h =>
 Pm mix (T:=68) (e:=3) (b:=8) Tryz.func80 Tryz.underlying68 (by kernel_rfl) (by decide) (fun O l=>by kernel_rfl) (fun O l=>by kernel_rfl) h
theorem E6:Vd Tryz.prog 81 Ab:=fun N h =>
 Pm mix (T:=69) (e:=4) (b:=1) Tryz.func81 Tryz.underlying69 (by kernel_rfl) (by decide) (fun O l=>by kernel_rfl) (fun O l=>by kernel_rfl) h
theorem CT:Vd Tryz.prog 50 AP:=vt mix UW Iy [(79,AR),(80,Ae),(81,Ab)] (gs Dr (gs Fg (gs E6 g0))) rfl (fun _ _=>rfl) fun O x=>by kernel_rfl
theorem kN:Vd Tryz.prog 29 Hw:=vt mix Yo LD [(43,DA),(50,AP)] (gs YL (gs CT g0)) rfl (fun _ _=>rfl) fun O x=>by kernel_rfl
theorem Q2:Vd Tryz.prog 55 Bj:=vt mix Yc Lm [] g0 rfl (fun _ _=>rfl) fun O x=>by kernel_rfl
theorem QJ:Vd Tryz.prog 85 Bd:=vt mix Qb Fc [] g0 rfl (fun _ _=>rfl) fun O x=>by kernel_rfl
theorem fe:Vd Tryz.prog 56 Fa:=vt mix Uc Ip [(13,CE),(51,BD),(55,Bj),(85,Bd)] (gs Qz (gs LJ (gs Q2 (gs QJ g0)))) rfl (fun _ _=>rfl) fun O x=>by kernel_rfl
theorem gn:Vd Tryz.prog 82 Ft:=vt mix UG Iu [(32,AS),(60,Ag)] (gs DB (gs EA g0)) rfl (fun _ _=>rfl) fun O x=>by kernel_rfl
theorem iu:Vd Tryz.prog 83 Gv:=vt mix V8 J5 [(51,BD),(55,Bj)] (gs LJ (gs Q2 g0)) rfl (fun _ _=>rfl) fun O x=>by kernel_rfl
theorem bq:Vd Tryz.prog 136 Dy:=vt mix RU KP [] g0 rfl (fun _ _=>rfl) fun O x=>by kernel_rfl
theorem g8:Vd Tryz.prog 114 F1:=vt mix Ua Is [(136,Dy)] (gs bq g0) rfl (fun _ _=>rfl) fun O x=>by kernel_rfl
theorem Gf:Vd Tryz.prog 160 Au:=vt mix Z3 NA [(79,AR),(80,Ae),(81,Ab)] (gs Dr (gs Fg (gs E6 g0))) rfl (fun _ _=>rfl) fun O x=>by kernel_rfl
theorem dY:Vd Tryz.prog 191 Cm:=vt mix SZ L3 [] g0 rfl (fun _ _=>rfl) fun O x=>by kernel_rfl
theorem WV:Vd Tryz.prog 161 Bu:=vt mix Wq EU [(191,Cm)] (gs dY g0) rfl (fun _ _=>rfl) fun O x=>by kernel_rfl
theorem GZ:Vd Tryz.prog 162 As:=vt mix WY Jt [] g0 rfl (fun _ _=>rfl) fun O x=>by kernel_rfl
theorem kJ:Vd Tryz.prog 137 H9:=vt mix YV LB [(160,Au),(161,Bu),(162,As)] (gs Gf (gs WV (gs GZ g0))) rfl (fun _ _=>rfl) fun O x=>by kernel_rfl
theorem VF:Vd Tryz.prog 163 Cf:=vt mix cR Py [(79,AR),(80,Ae),(81,Ab)] (gs Dr (gs Fg (gs E6 g0))) rfl (fun _ _=>rfl) fun O x=>by kernel_rfl
theorem Q8:Vd Tryz.prog 192 Bi:=vt mix Yt Lb [] g0 rfl (fun _ _=>rfl) fun O x=>by kernel_rfl
theorem nT:Vd Tryz.prog 193 JF:=vt mix Z1 Mg [(32,AS),(192,Bi)] (gs DB (gs Q8 g0)) rfl (fun _ _=>rfl) fun O x=>by kernel_rfl
theorem oM:Vd Tryz.prog 164 Kz:=vt mix dV Pw [(32,AS),(88,Al),(192,Bi),(193,JF)] (gs DB (gs Gu (gs Q8 (gs nT g0)))) rfl (fun _ _=>rfl) fun O x=>by kernel_rfl
theorem mu:Vd Tryz.prog 138 I7:=vt mix Zl Nw [(163,Cf),(164,Kz)] (gs VF (gs oM g0)) rfl (fun _ _=>rfl) fun O x=>by kernel_rfl
theorem Y4:Vd Tryz.prog 103 DI:=vt mix Oc E0 [] g0 rfl (fun _ _=>rfl) fun O x=>by kernel_rfl
theorem Sn:Vd Tryz.prog 70 B5:=vt mix S9 Hc [(103,DI)] (gs Y4 g0) rfl (fun _ _=>rfl) fun O x=>by kernel_rfl
theorem RE:Vd Tryz.prog 130 BX:=vt mix RO RW [] g0 rfl (fun _ _=>rfl) fun O x=>by kernel_rfl
theorem ij:Vd Tryz.prog 104 HE:=vt mix V9 KA [(130,BX)] (gs RE g0) rfl (fun _ _=>rfl) fun O x=>by kernel_rfl
theorem Zt:Vd Tryz.prog 131 Dh:=vt mix QM FP [] g0 rfl (fun _ _=>rfl) fun O x=>by kernel_rfl
theorem Wi:Vd Tryz.prog 105 Cq:=vt mix MH Dl [(131,Dh)] (gs Zt g0) rfl (fun _ _=>rfl) fun O x=>by kernel_rfl
theorem Zh:Vd Tryz.prog 132 DZ:=vt mix Qh Fq [] g0 rfl (fun _ _=>rfl) fun O x=>by kernel_rfl
theorem ed:Vd Tryz.prog 106 Eg:=vt mix Sc HV [(130,BX),(132,DZ)] (gs RE (gs Zh g0)) rfl (fun _ _=>rfl) fun O x=>by kernel_rfl
theorem VB:Vd Tryz.prog 133 Cd:=vt mix Kr DS [] g0 rfl (fun _ _=>rfl) fun O x=>by kernel_rfl
theorem Xl:Vd Tryz.prog 107 C1:=vt mix Ne EF [(133,Cd)] (gs VB g0) rfl (fun _ _=>rfl) fun O x=>by kernel_rfl
theorem XY:Vd Tryz.prog 71 Cx:=vt mix N3 EC [(104,HE),(105,Cq),(106,Eg),(107,C1)] (gs ij (gs Wi (gs ed (gs Xl g0)))) rfl (fun _ _=>rfl) fun O x=>by kernel_rfl
theorem NS:Vd Tryz.prog 151 BB:=vt mix UD Du [(161,Bu)] (gs WV g0) rfl (fun _ _=>rfl) fun O x=>by kernel_rfl
theorem H0:Vd Tryz.prog 174 Ay:=vt mix YE LN [] g0 rfl (fun _ _=>rfl) fun O x=>by kernel_rfl
theorem HZ:Vd Tryz.prog 175 Aw:=vt mix SY HY [(174,Ay)] (gs H0 g0) rfl (fun _ _=>rfl) fun O x=>by kernel_rfl
theorem gS:Vd Tryz.prog 210 Fb:=vt mix UP I5 [] g0 rfl (fun _ _=>rfl) fun O x=>by kernel_rfl
theorem kl:Vd Tryz.prog 194 H6:=vt mix YZ LF [(174,Ay),(175,Aw),(210,Fb)] (gs H0 (gs HZ (gs gS g0))) rfl (fun _ _=>rfl) fun O x=>by kernel_rfl
theorem km:Vd Tryz.prog 195 H2:=vt mix Yh LU [(174,Ay),(175,Aw)] (gs H0 (gs HZ g0)) rfl (fun _ _=>rfl) fun O x=>by kernel_rfl
theorem bh:Vd Tryz.prog 165 D8:=vt mix RQ GM [(70,B5),(71,Cx),(151,BB),(194,H6),(195,H2)] (gs Sn (gs XY (gs NS (gs kl (gs km g0))))) rfl (fun _ _=>rfl) fun O x=>by kernel_rfl
theorem Yw:Vd Tryz.prog 196 DL:=vt mix Oa E2 [] g0 rfl (fun _ _=>rfl) fun O x=>by kernel_rfl
theorem bv:Vd Tryz.prog 166 D3:=vt mix RJ GH [(70,B5),(196,DL)] (gs Sn (gs Yw g0)) rfl (fun _ _=>rfl) fun O x=>by kernel_rfl
theorem mY:Vd Tryz.prog 167 JI:=vt mix Zn NB [(160,Au),(162,As)] (gs Gf (gs GZ g0)) rfl (fun _ _=>rfl) fun O x=>by kernel_rfl
theorem eC:Vd Tryz.prog 168 Es:=vt mix Sy SR [] g0 rfl (fun _ _=>rfl) fun O x=>by kernel_rfl
theorem nA:Vd Tryz.prog 169 Jh:=vt mix Zv N7 [(32,AS),(88,Al),(163,Cf),(192,Bi)] (gs DB (gs Gu (gs VF (gs Q8 g0)))) rfl (fun _ _=>rfl) fun O x=>by kernel_rfl
theorem ge:Vd Tryz.prog 170 FV:=vt mix T0 Ii [(160,Au)] (gs Gf g0) rfl (fun _ _=>rfl) fun O x=>by kernel_rfl
theorem iB:Vd Tryz.prog 139 HA:=vt mix Wm Jy [(50,AP),(165,D8),(166,D3),(167,JI),(168,Es),(169,Jh),(170,FV)] (gs CT (gs bh (gs bv (gs mY (gs eC (gs nA (gs ge g0))))))) rfl (fun _ _=>rfl) fun O x=>by kernel_rfl
theorem Z2:Vd Tryz.prog 171 De:=vt mix Zm N4 [(151,BB),(162,As)] (gs NS (gs GZ g0)) rfl (fun _ _=>rfl) fun O x=>by kernel_rfl
theorem dc:Vd Tryz.prog 140 El:=vt mix Sw HO [(160,Au),(162,As),(171,De)] (gs Gf (gs GZ (gs Z2 g0))) rfl (fun _ _=>rfl) fun O x=>by kernel_rfl
theorem iq:Vd Tryz.prog 141 Gz:=vt mix Wb J0 [(160,Au),(171,De)] (gs Gf (gs Z2 g0)) rfl (fun _ _=>rfl) fun O x=>by kernel_rfl
theorem Ys:Vd Tryz.prog 152 Cl:=vt mix Yi FO [] g0 rfl (fun _ _=>rfl) fun O x=>by kernel_rfl
theorem gR:Vd Tryz.prog 142 Fo:=vt mix Uq Ik [(152,Cl),(160,Au),(162,As)] (gs Ys (gs Gf (gs GZ g0))) rfl (fun _ _=>rfl) fun O x=>by kernel_rfl
theorem Vg:Vd Tryz.prog 173 Ce:=vt mix cz Pd [(79,AR),(80,Ae),(81,Ab)] (gs Dr (gs Fg (gs E6 g0))) rfl (fun _ _=>rfl) fun O x=>by kernel_rfl
theorem eo:Vd Tryz.prog 143 Fk:=vt mix UR Ij [(173,Ce)] (gs Vg g0) rfl (fun _ _=>rfl) fun O x=>by kernel_rfl
theorem jA:Vd Tryz.prog 144 GW:=vt mix WS KH [(173,Ce),(174,Ay),(175,Aw)] (gs Vg (gs H0 (gs HZ g0))) rfl (fun _ _=>rfl) fun O x=>by kernel_rfl
theorem ZI:Vd Tryz.prog 145 DV:=vt mix Qd F0 [(173,Ce),(174,Ay),(175,Aw)] (gs Vg (gs H0 (gs HZ g0))) rfl (fun _ _=>rfl) fun O x=>by kernel_rfl
theorem gO:Vd Tryz.prog 146 FZ:=vt mix Uf I2 [(32,AS),(163,Cf)] (gs DB (gs VF g0)) rfl (fun _ _=>rfl) fun O x=>by kernel_rfl
theorem bi:Vd Tryz.prog 147 D6:=vt mix RT GF [(50,AP)] (gs CT g0) rfl (fun _ _=>rfl) fun O x=>by kernel_rfl
theorem RK:Vd Tryz.prog 117 Bv:=vt mix RG GO [(50,AP)] (gs CT g0) rfl (fun _ _=>rfl) fun O x=>by kernel_rfl
theorem bl:Vd Tryz.prog 148 D5:=vt mix RY GK [(50,AP),(117,Bv)] (gs CT (gs RK g0)) rfl (fun _ _=>rfl) fun O x=>by kernel_rfl
theorem du:Vd Tryz.prog 149 Eb:=vt mix S8 Ec [(50,AP)] (gs CT g0) rfl (fun _ _=>rfl) fun O x=>by kernel_rfl
theorem gh:Vd Tryz.prog 176 Fu:=vt mix UT Ug [] g0 rfl (fun _ _=>rfl) fun O x=>by kernel_rfl
theorem ej:Vd Tryz.prog 150 EX:=vt mix Sv Hk [(50,AP),(176,Fu)] (gs CT (gs gh g0)) rfl (fun _ _=>rfl) fun O x=>by kernel_rfl
theorem bg:Vd Tryz.prog 115 EB:=vt mix RI D1 [(137,H9),(138,I7),(139,HA),(140,El),(141,Gz),(142,Fo),(143,Fk),(144,GW),(145,DV),(146,FZ),(147,D6),(148,D5),(149,Eb),(150,EX)] (gs kJ (gs mu (gs iB (gs dc (gs iq (gs gR (gs eo (gs jA (gs ZI (gs gO (gs bi (gs bl (gs du (gs ej g0)))))))))))))) rfl (fun _ _=>rfl) fun O x=>by kernel_rfl
theorem eV:Vd Tryz.prog 116 DP:=vt mix TO Hn [(33,BC),(151,BB),(152,Cl)] (gs NI (gs NS (gs Ys g0))) rfl (fun _ _=>rfl) fun O x=>by kernel_rfl
theorem iy:Vd Tryz.prog 84 Gg:=vt mix WM J3 [(28,C7),(33,BC),(50,AP),(114,F1),(115,EB),(116,DP)] (gs YM (gs NI (gs CT (gs g8 (gs bg (gs eV g0)))))) rfl (fun _ _=>rfl) fun O x=>by kernel_rfl
theorem Z7:Vd Tryz.prog 12 Cg:=vt mix aG M2 [(13,CE),(28,C7),(29,Hw),(34,C9),(51,BD),(55,Bj),(56,Fa),(82,Ft),(83,Gv),(84,Gg),(85,Bd),(117,Bv)] (gs Qz (gs YM (gs kN (gs Ye (gs LJ (gs Q2 (gs fe (gs gn (gs iu (gs iy (gs QJ (gs RK g0)))))))))))) rfl (fun _ _=>rfl) fun O x=>by kernel_rfl
theorem Vb:Vd Tryz.prog 15 CF:=vt mix dW PL [(12,Cg)] (gs Z7 g0) rfl (fun _ _=>rfl) fun O x=>by kernel_rfl
theorem nO:Vd Tryz.prog 75 DX:=vt mix Zy NM [] g0 rfl (fun _ _=>rfl) fun O x=>by kernel_rfl
def Wc:Cfg:={ gam:=[⟨75,[],true,true,[]⟩],imm:=false,old:=false }
theorem gP (O:Alg) (x:Ags O):XF (O:=O) Tryz.prog Wc false true [] 44 [] (xr x Oy 0)=G7 O x:=by kernel_rfl
theorem hZ {E:Env} {M:Nat} (N:Nat) (h:∀ ls,E 44 [] ls=Gt N ls):VV Tryz.prog E M ⟨44,[],false,true,[]⟩ :=
 BM mix (E:=DM N) (N:=N) (cfg:=Wc) (ci:=⟨44,[],false,true,[]⟩) (ks:=Oy) (AH (nO N (fun _=>rfl)) Ca) (c:=Gt N) (F:=fun ls=>G7 (std (DM N) N) (xOf ls)) (fun ls=>rfl) (fun ls=>gP (std (DM N) N) (xOf ls)) h
def hO:Cfg:={ gam:=[⟨13,[],true,true,[]⟩,⟨15,[],true,true,[]⟩,⟨44,[],false,true,[]⟩],imm:=false,old:=false,ie:=[60000] }
theorem ni (O:Alg) (x:Ags O):XF (O:=O) Tryz.prog hO true true [] 27 [] (xr x W5 0)=Nj O x:=by kernel_rfl
theorem qC:Vd Tryz.prog 27 Hr:=fun N h =>
 BM mix (E:=Dk N) (N:=N) (cfg:=hO) (ci:=⟨27,[],true,true,[]⟩) (ks:=W5) (AH (Qz N (fun _=>rfl)) (AH (Vb N (fun _=>rfl)) (AH (hZ N (fun _=>rfl)) Ca))) (c:=Hr N) (F:=fun ls=>Nj (std (Dk N) N) (xOf ls)) (fun ls=>rfl) (fun ls=>ni (std (Dk N) N) (xOf ls)) h
theorem aQ:Vd Tryz.prog 11 B7:=vt mix ar N1 [(27,Hr)] (gs qC g0) rfl (fun _ _=>rfl) fun O x=>by kernel_rfl
theorem mU:Vd Tryz.prog 14 Cz:=vt mix au Mc [] g0 rfl (fun _ _=>rfl) fun O x=>by kernel_rfl
theorem na:Vd Tryz.prog 25 F9:=vt mix dL Pg [(32,AS),(43,DA)] (gs DB (gs YL g0)) rfl (fun _ _=>rfl) fun O x=>by kernel_rfl
theorem rx:Vd Tryz.prog 26 QD:=vt mix js jR [] g0 rfl (fun _ _=>rfl) fun O x=>by kernel_rfl
theorem oo:Vd Tryz.prog 9 Ko:=vt mix cP PP [(11,B7),(12,Cg),(14,Cz),(15,CF),(25,F9),(26,QD)] (gs aQ (gs Z7 (gs mU (gs Vb (gs na (gs rx g0)))))) rfl (fun _ _=>rfl) fun O x=>by kernel_rfl
def jP:Cfg:={ gam:=[],imm:=false,old:=true }
theorem qs (O:Alg) (x:Ags O):XF (O:=O) Tryz.prog jP false false [] 10 [] (xr x aF 0)=P8 O x:=by kernel_rfl
theorem rz {E:Env} {M:Nat} (N:Nat) (h:∀ ls,E 10 [] ls=QU N ls):VV Tryz.prog E M ⟨10,[],false,false,[]⟩ :=
 BM mix (E:=Kh N) (N:=N) (cfg:=jP) (ci:=⟨10,[],false,false,[]⟩) (ks:=aF) Ca (c:=QU N) (F:=fun ls=>P8 (std (Kh N) N) (xOf ls)) (fun ls=>rfl) (fun ls=>qs (std (Kh N) N) (xOf ls)) h
theorem oF:Vd Tryz.prog 91 Ky:=vt mix cT PZ [] g0 rfl (fun _ _=>rfl) fun O x=>by kernel_rfl
theorem Bo:Vd Tryz.prog 120 AO:=vt mix cN Pv [] g0 rfl (fun _ _=>rfl) fun O x=>by kernel_rfl
theorem VD:Vd Tryz.prog 92 Cw:=vt mix dJ PT [(120,AO)] (gs Bo g0) rfl (fun _ _=>rfl) fun O x=>by kernel_rfl
theorem om:Vd Tryz.prog 64 PY:=vt mix cf PS [(91,Ky),(92,Cw)] (gs oF (gs VD g0)) rfl (fun _ _=>rfl) fun O x=>by kernel_rfl
theorem pZ:Vd Tryz.prog 121 Ni:=vt mix fp R7 [] g0 rfl (fun _ _=>rfl) fun O x=>by kernel_rfl
theorem sg:Vd Tryz.prog 122 Si:=vt mix mo mb [] g0 rfl (fun _ _=>rfl) fun O x=>by kernel_rfl
theorem F3:Vd Tryz.prog 93 Ak:=vt mix cW Pa [(121,Ni),(122,Si)] (gs pZ (gs sg g0)) rfl (fun _ _=>rfl) fun O x=>by kernel_rfl
theorem eA:Vd Tryz.prog 153 EY:=vt mix nV mT [] g0 rfl (fun _ _=>rfl) fun O x=>by kernel_rfl
theorem rJ:Vd Tryz.prog 154 QZ:=vt mix jK Uj [(153,EY)] (gs eA g0) rfl (fun _ _=>rfl) fun O x=>by kernel_rfl
theorem Pf:Vd Tryz.prog 156 BQ:=vt mix cc IX [] g0 rfl (fun _ _=>rfl) fun O x=>by kernel_rfl
theorem ki:Vd Tryz.prog 155 H3:=vt mix YK Ln [(156,BQ)] (gs Pf g0) rfl (fun _ _=>rfl) fun O x=>by kernel_rfl
theorem Uv:Vd Tryz.prog 123 Cc:=vt mix cg PN [(93,Ak),(153,EY),(154,QZ),(155,H3)] (gs F3 (gs eA (gs rJ (gs ki g0)))) rfl (fun _ _=>rfl) fun O x=>by kernel_rfl
theorem Kg:Vd Tryz.prog 98 Bn:=vt mix cM PU [] g0 rfl (fun _ _=>rfl) fun O x=>by kernel_rfl
theorem ao:Vd Tryz.prog 124 Eh:=vt mix bD NW [(98,Bn)] (gs Kg g0) rfl (fun _ _=>rfl) fun O x=>by kernel_rfl
theorem fo:Vd Tryz.prog 94 FW:=vt mix UY Ix [(123,Cc),(124,Eh)] (gs Uv (gs ao g0)) rfl (fun _ _=>rfl) fun O x=>by kernel_rfl
theorem VJ:Vd Tryz.prog 65 EO:=vt mix dK Pq [(93,Ak),(94,FW)] (gs F3 (gs fo g0)) rfl (fun _ _=>rfl) fun O x=>by kernel_rfl
theorem ZA:Vd Tryz.prog 37 DY:=vt mix aB M4 [] g0 rfl (fun _ _=>rfl) fun O x=>by kernel_rfl
theorem pt:Vd Tryz.prog 95 NJ:=vt mix fV R0 [] g0 rfl (fun _ _=>rfl) fun O x=>by kernel_rfl
theorem tB:Vd Tryz.prog 96 TP:=vt mix lJ eG [] g0 rfl (fun _ _=>rfl) fun O x=>by kernel_rfl
theorem tC:Vd Tryz.prog 125 SQ:=vt mix mw eH [] g0 rfl (fun _ _=>rfl) fun O x=>by kernel_rfl
theorem o3:Vd Tryz.prog 97 Kd:=vt mix cE PW [(125,SQ)] (gs tC g0) rfl (fun _ _=>rfl) fun O x=>by kernel_rfl
theorem cj:Vd Tryz.prog 66 IU:=vt mix dU Ps [(37,DY),(95,NJ),(96,TP),(97,Kd)] (gs ZA (gs pt (gs tB (gs o3 g0)))) rfl (fun _ _=>rfl) fun O x=>by kernel_rfl
theorem Vo:Vd Tryz.prog 101 EN:=vt mix cJ PO [] g0 rfl (fun _ _=>rfl) fun O x=>by kernel_rfl
def hC:Cfg:={ gam:=[],imm:=false,old:=false }
theorem nr (O:Alg) (x:Ags O):XF (O:=O) Tryz.prog hC false false [] 68 [] (xr x Wx 0)=M8 O x:=by kernel_rfl
theorem Rv {E:Env} {M:Nat} (N:Nat) (h:∀ ls,E 68 [] ls=C3 N ls):VV Tryz.prog E M ⟨68,[],false,false,[]⟩ :=
 BM mix (E:=I8 N) (N:=N) (cfg:=hC) (ci:=⟨68,[],false,false,[]⟩) (ks:=Wx) Ca (c:=C3 N) (F:=fun ls=>M8 (std (I8 N) N) (xOf ls)) (fun ls=>rfl) (fun ls=>nr (std (I8 N) N) (xOf ls)) h
def Ym:Cfg:={ gam:=[⟨65,[],true,true,[]⟩,⟨68,[],false,false,[]⟩,⟨124,[],true,true,[]⟩],imm:=false,old:=false }
theorem iX (O:Alg) (x:Ags O):XF (O:=O) Tryz.prog Ym true true [] 126 [] (xr x Qq 0)=IH O x:=by kernel_rfl
theorem j4:Vd Tryz.prog 126 ID:=fun N h =>
 BM mix (E:=CW N) (N:=N) (cfg:=Ym) (ci:=⟨126,[],true,true,[]⟩) (ks:=Qq) (AH (VJ N (fun _=>rfl)) (AH (Rv N (fun _=>rfl)) (AH (ao N (fun _=>rfl)) Ca))) (c:=ID N) (F:=fun ls=>IH (std (CW N) N) (xOf ls)) (fun ls=>rfl) (fun ls=>iX (std (CW N) N) (xOf ls)) h
theorem oG:Vd Tryz.prog 127 Pk:=vt mix dT Pz [(93,Ak),(153,EY)] (gs F3 (gs eA g0)) rfl (fun _ _=>rfl) fun O x=>by kernel_rfl
theorem Yq:Vd Tryz.prog 129 FK:=vt mix Yu LP [(92,Cw)] (gs VD g0) rfl (fun _ _=>rfl) fun O x=>by kernel_rfl
theorem OC:Vd Tryz.prog 197 BO:=vt mix Z8 N6 [] g0 rfl (fun _ _=>rfl) fun O x=>by kernel_rfl
theorem qr:Vd Tryz.prog 177 SJ:=vt mix et R9 [(120,AO),(156,BQ),(197,BO)] (gs Bo (gs Pf (gs OC g0))) rfl (fun _ _=>rfl) fun O x=>by kernel_rfl
theorem Gn:Vd Tryz.prog 208 Av:=vt mix WK KJ [] g0 rfl (fun _ _=>rfl) fun O x=>by kernel_rfl
theorem SX:Vd Tryz.prog 211 CB:=vt mix bC Nr [] g0 rfl (fun _ _=>rfl) fun O x=>by kernel_rfl
theorem qW:Vd Tryz.prog 212 NX:=vt mix fk R6 [(93,Ak),(211,CB)] (gs F3 (gs SX g0)) rfl (fun _ _=>rfl) fun O x=>by kernel_rfl
theorem jt:Vd Tryz.prog 213 HL:=vt mix jY UQ [] g0 rfl (fun _ _=>rfl) fun O x=>by kernel_rfl
theorem rX:Vd Tryz.prog 198 Qc:=vt mix jg T1 [(93,Ak),(208,Av),(211,CB),(212,NX),(213,HL)] (gs F3 (gs Gn (gs SX (gs qW (gs jt g0))))) rfl (fun _ _=>rfl) fun O x=>by kernel_rfl
theorem qn:Vd Tryz.prog 178 Rl:=vt mix fK Ry [(120,AO),(198,Qc)] (gs Bo (gs rX g0)) rfl (fun _ _=>rfl) fun O x=>by kernel_rfl
theorem tL:Vd Tryz.prog 108 Sb:=vt mix lj em [] g0 rfl (fun _ _=>rfl) fun O x=>by kernel_rfl
theorem iY:Vd Tryz.prog 109 Gd:=vt mix WB Js [] g0 rfl (fun _ _=>rfl) fun O x=>by kernel_rfl
theorem ck:Vd Tryz.prog 72 F2:=vt mix cm Pr [(108,Sb),(109,Gd)] (gs tL (gs iY g0)) rfl (fun _ _=>rfl) fun O x=>by kernel_rfl
theorem iV:Vd Tryz.prog 110 G4:=vt mix WL Jx [] g0 rfl (fun _ _=>rfl) fun O x=>by kernel_rfl
theorem tY:Vd Tryz.prog 111 Sr:=vt mix mt Xt [] g0 rfl (fun _ _=>rfl) fun O x=>by kernel_rfl
theorem mD:Vd Tryz.prog 112 Jg:=vt mix al NQ [] g0 rfl (fun _ _=>rfl) fun O x=>by kernel_rfl
theorem hY:Vd Tryz.prog 73 J4:=vt mix V2 J1 [(110,G4),(111,Sr),(112,Jg)] (gs iV (gs tY (gs mD g0))) rfl (fun _ _=>rfl) fun O x=>by kernel_rfl
theorem TN:Vd Tryz.prog 189 CA:=vt mix Z4 Gi [(156,BQ)] (gs Pf g0) rfl (fun _ _=>rfl) fun O x=>by kernel_rfl
theorem NE:Vd Tryz.prog 207 BP:=vt mix ZG N5 [] g0 rfl (fun _ _=>rfl) fun O x=>by kernel_rfl
theorem kD:Vd Tryz.prog 214 II:=vt mix Yr LE [] g0 rfl (fun _ _=>rfl) fun O x=>by kernel_rfl
theorem oO:Vd Tryz.prog 199 PM:=vt mix dG PX [(207,BP),(208,Av),(214,II)] (gs NE (gs Gn (gs kD g0))) rfl (fun _ _=>rfl) fun O x=>by kernel_rfl
theorem oH:Vd Tryz.prog 200 Pi:=vt mix cK Po [(207,BP),(208,Av)] (gs NE (gs Gn g0)) rfl (fun _ _=>rfl) fun O x=>by kernel_rfl
theorem il:Vd Tryz.prog 215 Gh:=vt mix WE Jl [] g0 rfl (fun _ _=>rfl) fun O x=>by kernel_rfl
theorem oi:Vd Tryz.prog 216 Kj:=vt mix cG P1 [] g0 rfl (fun _ _=>rfl) fun O x=>by kernel_rfl
theorem mI:Vd Tryz.prog 201 N2:=vt mix ZP Ny [(72,F2),(215,Gh),(216,Kj)] (gs ck (gs il (gs oi g0))) rfl (fun _ _=>rfl) fun O x=>by kernel_rfl
theorem ZO:Vd Tryz.prog 204 Ep:=vt mix ai ND [(120,AO)] (gs Bo g0) rfl (fun _ _=>rfl) fun O x=>by kernel_rfl
theorem ry:Vd Tryz.prog 202 UA:=vt mix j0 UN [(120,AO),(197,BO),(204,Ep)] (gs Bo (gs OC (gs ZO g0))) rfl (fun _ _=>rfl) fun O x=>by kernel_rfl
theorem qk:Vd Tryz.prog 203 Rx:=vt mix gY SA [(93,Ak),(120,AO),(211,CB),(213,HL)] (gs F3 (gs Bo (gs SX (gs jt g0)))) rfl (fun _ _=>rfl) fun O x=>by kernel_rfl
theorem oV:Vd Tryz.prog 205 Pe:=vt mix cx dA [] g0 rfl (fun _ _=>rfl) fun O x=>by kernel_rfl
def fR:Cfg:={ gam:=[⟨72,[],true,true,[]⟩,⟨73,[],true,true,[]⟩,⟨189,[],true,true,[]⟩,⟨199,[],true,true,[]⟩,⟨200,[],true,true,[]⟩,⟨201,[],true,true,[]⟩,⟨202,[],true,true,[]⟩,⟨203,[],true,true,[]⟩,⟨204,[],true,true,[]⟩,⟨205,[],true,true,[]⟩],imm:=false,old:=false }
theorem oW (O:Alg) (x:Ags O):XF (O:=O) Tryz.prog fR false false [] 179 [] (xr x Wz 0)=Ml O x:=by kernel_rfl
theorem pw {E:Env} {M:Nat} (N:Nat) (h:∀ ls,E 179 [] ls=NG N ls):VV Tryz.prog E M ⟨179,[],false,false,[]⟩ :=
 BM mix (E:=BE N) (N:=N) (cfg:=fR) (ci:=⟨179,[],false,false,[]⟩) (ks:=Wz) (AH (ck N (fun _=>rfl)) (AH (hY N (fun _=>rfl)) (AH (TN N (fun _=>rfl)) (AH (oO N (fun _=>rfl)) (AH (oH N (fun _=>rfl)) (AH (mI N (fun _=>rfl)) (AH (ry N (fun _=>rfl)) (AH (qk N (fun _=>rfl)) (AH (ZO N (fun _=>rfl)) (AH (oV N (fun _=>rfl)) Ca)))))))))) (c:=NG N) (F:=fun ls=>Ml (std (BE N) N) (xOf ls)) (fun ls=>rfl) (fun ls=>oW (std (BE N) N) (xOf ls)) h
theorem cV:Vd Tryz.prog 206 ER:=vt mix cd Pt [(189,CA),(197,BO)] (gs TN (gs OC g0)) rfl (fun _ _=>rfl) fun O x=>by kernel_rfl
theorem ka:Vd Tryz.prog 180 Ld:=vt mix YQ Li [(120,AO),(206,ER)] (gs Bo (gs cV g0)) rfl (fun _ _=>rfl) fun O x=>by kernel_rfl
theorem oZ:Vd Tryz.prog 181 Pp:=vt mix cl Ph [(120,AO),(206,ER)] (gs Bo (gs cV g0)) rfl (fun _ _=>rfl) fun O x=>by kernel_rfl
theorem fN:Vd Tryz.prog 190 ED:=vt mix fI J7 [] g0 rfl (fun _ _=>rfl) fun O x=>by kernel_rfl
theorem lC:Vd Tryz.prog 182 My:=vt mix Zb M0 [(120,AO),(190,ED),(197,BO)] (gs Bo (gs fN (gs OC g0))) rfl (fun _ _=>rfl) fun O x=>by kernel_rfl
theorem kX:Vd Tryz.prog 183 LH:=vt mix YU LW [(120,AO)] (gs Bo g0) rfl (fun _ _=>rfl) fun O x=>by kernel_rfl
theorem lP:Vd Tryz.prog 184 Mx:=vt mix aj NC [(120,AO),(207,BP),(208,Av)] (gs Bo (gs NE (gs Gn g0))) rfl (fun _ _=>rfl) fun O x=>by kernel_rfl
theorem dy:Vd Tryz.prog 185 HR:=vt mix Sk HQ [(120,AO),(207,BP),(208,Av)] (gs Bo (gs NE (gs Gn g0))) rfl (fun _ _=>rfl) fun O x=>by kernel_rfl
theorem kL:Vd Tryz.prog 186 LI:=vt mix YP K8 [(93,Ak),(120,AO)] (gs F3 (gs Bo g0)) rfl (fun _ _=>rfl) fun O x=>by kernel_rfl
def ae:Cfg:={ gam:=[],imm:=false,old:=false }
theorem kE (O:Alg) (x:Ags O):XF (O:=O) Tryz.prog ae false false [] 187 [] (xr x S1 0)=G2 O x:=by kernel_rfl
theorem nW {E:Env} {M:Nat} (N:Nat) (h:∀ ls,E 187 [] ls=JU N ls):VV Tryz.prog E M ⟨187,[],false,false,[]⟩ :=
 BM mix (E:=Ga N) (N:=N) (cfg:=ae) (ci:=⟨187,[],false,false,[]⟩) (ks:=S1) Ca (c:=JU N) (F:=fun ls=>G2 (std (Ga N) N) (xOf ls)) (fun ls=>rfl) (fun ls=>kE (std (Ga N) N) (xOf ls)) h
theorem ow:Vd Tryz.prog 209 Pu:=vt mix dX cy [] g0 rfl (fun _ _=>rfl) fun O x=>by kernel_rfl
def ZV:Cfg:={ gam:=[⟨209,[],true,true,[]⟩],imm:=false,old:=false }
theorem kG (O:Alg) (x:Ags O):XF (O:=O) Tryz.prog ZV false false [] 188 [] (xr x SS 0)=Je O x:=by kernel_rfl
theorem nR {E:Env} {M:Nat} (N:Nat) (h:∀ ls,E 188 [] ls=JG N ls):VV Tryz.prog E M ⟨188,[],false,false,[]⟩ :=
 BM mix (E:=ES N) (N:=N) (cfg:=ZV) (ci:=⟨188,[],false,false,[]⟩) (ks:=SS) (AH (ow N (fun _=>rfl)) Ca) (c:=JG N) (F:=fun ls=>Je (std (ES N) N) (xOf ls)) (fun ls=>rfl) (fun ls=>kG (std (ES N) N) (xOf ls)) h
def jf:Cfg:={ gam:=[⟨129,[],true,true,[]⟩,⟨177,[],true,true,[]⟩,⟨178,[],true,true,[]⟩,⟨179,[],false,false,[]⟩,⟨180,[],true,true,[]⟩,⟨181,[],true,true,[]⟩,⟨182,[],true,true,[]⟩,⟨183,[],true,true,[]⟩,⟨184,[],true,true,[]⟩,⟨185,[],true,true,[]⟩,⟨186,[],true,true,[]⟩,⟨187,[],false,false,[]⟩,⟨188,[],false,false,[]⟩],imm:=false,old:=false }
theorem qZ (O:Alg) (x:Ags O):XF (O:=O) Tryz.prog jf false false [] 157 [] (xr x aI 0)=MN O x:=by kernel_rfl
theorem sU {E:Env} {M:Nat} (N:Nat) (h:∀ ls,E 157 [] ls=QH N ls):VV Tryz.prog E M ⟨157,[],false,false,[]⟩ :=
 BM mix (E:=A5 N) (N:=N) (cfg:=jf) (ci:=⟨157,[],false,false,[]⟩) (ks:=aI) (AH (Yq N (fun _=>rfl)) (AH (qr N (fun _=>rfl)) (AH (qn N (fun _=>rfl)) (AH (pw N (fun _=>rfl)) (AH (ka N (fun _=>rfl)) (AH (oZ N (fun _=>rfl)) (AH (lC N (fun _=>rfl)) (AH (kX N (fun _=>rfl)) (AH (lP N (fun _=>rfl)) (AH (dy N (fun _=>rfl)) (AH (kL N (fun _=>rfl)) (AH (nW N (fun _=>rfl)) (AH (nR N (fun _=>rfl)) Ca))))))))))))) (c:=QH N) (F:=fun ls=>MN (std (A5 N) N) (xOf ls)) (fun ls=>rfl) (fun ls=>qZ (std (A5 N) N) (xOf ls)) h
theorem lf:Vd Tryz.prog 158 JX:=vt mix aU Mt [(123,Cc),(189,CA),(190,ED)] (gs Uv (gs TN (gs fN g0))) rfl (fun _ _=>rfl) fun O x=>by kernel_rfl
def gx:Cfg:={ gam:=[⟨66,[],true,true,[]⟩,⟨92,[],true,true,[]⟩,⟨123,[],true,true,[]⟩,⟨156,[],true,true,[]⟩,⟨157,[],false,false,[]⟩,⟨158,[],true,true,[]⟩],imm:=false,old:=false }
theorem oY (O:Alg) (x:Ags O):XF (O:=O) Tryz.prog gx false false [] 128 [] (xr x XX 0)=Mi O x:=by kernel_rfl
theorem ez {E:Env} {M:Nat} (N:Nat) (h:∀ ls,E 128 [] ls=Hj N ls):VV Tryz.prog E M ⟨128,[],false,false,[]⟩ :=
 BM mix (E:=B9 N) (N:=N) (cfg:=gx) (ci:=⟨128,[],false,false,[]⟩) (ks:=XX) (AH (cj N (fun _=>rfl)) (AH (VD N (fun _=>rfl)) (AH (Uv N (fun _=>rfl)) (AH (Pf N (fun _=>rfl)) (AH (sU N (fun _=>rfl)) (AH (lf N (fun _=>rfl)) Ca)))))) (c:=Hj N) (F:=fun ls=>Mi (std (B9 N) N) (xOf ls)) (fun ls=>rfl) (fun ls=>oY (std (B9 N) N) (xOf ls)) h
def gb:Cfg:={ gam:=[⟨98,[],true,true,[]⟩,⟨101,[],true,true,[]⟩,⟨126,[],true,true,[]⟩,⟨127,[],true,true,[]⟩,⟨128,[],false,false,[]⟩],imm:=false,old:=false }
theorem oA (O:Alg) (x:Ags O):XF (O:=O) Tryz.prog gb false false [true,false] 99 [] (xr x XP 0)=Mb O x:=by kernel_rfl
theorem qh {E:Env} {M:Nat} (N:Nat) (h:∀ ls,E 99 [] ls=OE N ls):VV Tryz.prog E M ⟨99,[],false,false,[true,false]⟩ :=
 BM mix (E:=Ci N) (N:=N) (cfg:=gb) (ci:=⟨99,[],false,false,[true,false]⟩) (ks:=XP) (AH (Kg N (fun _=>rfl)) (AH (Vo N (fun _=>rfl)) (AH (j4 N (fun _=>rfl)) (AH (oG N (fun _=>rfl)) (AH (ez N (fun _=>rfl)) Ca))))) (c:=OE N) (F:=fun ls=>Mb (std (Ci N) N) (xOf ls)) (fun ls=>rfl) (fun ls=>oA (std (Ci N) N) (xOf ls)) h
def gf:Cfg:={ gam:=[⟨128,[],false,false,[]⟩,⟨129,[],true,true,[]⟩],imm:=true,old:=true }
theorem oN (O:Alg) (x:Ags O):XF (O:=O) Tryz.prog gf false false [true,false] 100 [] (xr x YA 0)=Mv O x:=by kernel_rfl
theorem ql {E:Env} {M:Nat} (N:Nat) (h:∀ ls,E 100 [] ls=Nf N ls):VV Tryz.prog E M ⟨100,[],false,false,[true,false]⟩ :=
 BM mix (E:=Ew N) (N:=N) (cfg:=gf) (ci:=⟨100,[],false,false,[true,false]⟩) (ks:=YA) (AH (ez N (fun _=>rfl)) (AH (Yq N (fun _=>rfl)) Ca)) (c:=Nf N) (F:=fun ls=>Mv (std (Ew N) N) (xOf ls)) (fun ls=>rfl) (fun ls=>oN (std (Ew N) N) (xOf ls)) h
def jy:Cfg:={ gam:=[⟨98,[],true,true,[]⟩,⟨99,[],false,false,[true,false]⟩,⟨100,[],false,false,[true,false]⟩],imm:=false,old:=false }
theorem qP (O:Alg) (x:Ags O):XF (O:=O) Tryz.prog jy false false [true,false] 67 [] (xr x ZU 0)=Qe O x:=by kernel_rfl
theorem rH {E:Env} {M:Nat} (N:Nat) (h:∀ ls,E 67 [] ls=QG N ls):VV Tryz.prog E M ⟨67,[],false,false,[true,false]⟩ :=
 BM mix (E:=EP N) (N:=N) (cfg:=jy) (ci:=⟨67,[],false,false,[true,false]⟩) (ks:=ZU) (AH (Kg N (fun _=>rfl)) (AH (qh N (fun _=>rfl)) (AH (ql N (fun _=>rfl)) Ca))) (c:=QG N) (F:=fun ls=>Qe (std (EP N) N) (xOf ls)) (fun ls=>rfl) (fun ls=>qP (std (EP N) N) (xOf ls)) h
def YS:Cfg:={ gam:=[⟨65,[],true,true,[]⟩,⟨68,[],false,false,[]⟩,⟨98,[],true,true,[]⟩,⟨101,[],true,true,[]⟩],imm:=false,old:=false }
theorem ip (O:Alg) (x:Ags O):XF (O:=O) Tryz.prog YS true true [] 102 [] (xr x Qk 0)=H5 O x:=by kernel_rfl
theorem kK:Vd Tryz.prog 102 H1:=fun N h =>
 BM mix (E:=B0 N) (N:=N) (cfg:=YS) (ci:=⟨102,[],true,true,[]⟩) (ks:=Qk) (AH (VJ N (fun _=>rfl)) (AH (Rv N (fun _=>rfl)) (AH (Kg N (fun _=>rfl)) (AH (Vo N (fun _=>rfl)) Ca)))) (c:=H1 N) (F:=fun ls=>H5 (std (B0 N) N) (xOf ls)) (fun ls=>rfl) (fun ls=>ip (std (B0 N) N) (xOf ls)) h
def Z9:Cfg:={ gam:=[⟨68,[],false,false,[]⟩,⟨98,[],true,true,[]⟩,⟨101,[],true,true,[]⟩,⟨102,[],true,true,[]⟩],imm:=false,old:=false }
theorem kP (O:Alg) (x:Ags O):XF (O:=O) Tryz.prog Z9 false false [] 69 [] (xr x S6 0)=JQ O x:=by kernel_rfl
theorem l6 {E:Env} {M:Nat} (N:Nat) (h:∀ ls,E 69 [] ls=JM N ls):VV Tryz.prog E M ⟨69,[],false,false,[]⟩ :=
 BM mix (E:=CH N) (N:=N) (cfg:=Z9) (ci:=⟨69,[],false,false,[]⟩) (ks:=S6) (AH (Rv N (fun _=>rfl)) (AH (Kg N (fun _=>rfl)) (AH (Vo N (fun _=>rfl)) (AH (kK N (fun _=>rfl)) Ca)))) (c:=JM N) (F:=fun ls=>JQ (std (CH N) N) (xOf ls)) (fun ls=>rfl) (fun ls=>kP (std (CH N) N) (xOf ls)) h
def fU:Cfg:={ gam:=[⟨64,[],true,true,[]⟩,⟨65,[],true,true,[]⟩,⟨66,[],true,true,[]⟩,⟨67,[],false,false,[true,false]⟩,⟨68,[],false,false,[]⟩,⟨69,[],false,false,[]⟩],imm:=false,old:=false }
theorem oj (O:Alg) (x:Ags O):XF (O:=O) Tryz.prog fU false false [] 36 [] (xr x XJ 0)=Mo O x:=by kernel_rfl
theorem qi {E:Env} {M:Nat} (N:Nat) (h:∀ ls,E 36 [] ls=Nl N ls):VV Tryz.prog E M ⟨36,[],false,false,[]⟩ :=
 BM mix (E:=CC N) (N:=N) (cfg:=fU) (ci:=⟨36,[],false,false,[]⟩) (ks:=XJ) (AH (om N (fun _=>rfl)) (AH (VJ N (fun _=>rfl)) (AH (cj N (fun _=>rfl)) (AH (rH N (fun _=>rfl)) (AH (Rv N (fun _=>rfl)) (AH (l6 N (fun _=>rfl)) Ca)))))) (c:=Nl N) (F:=fun ls=>Mo (std (CC N) N) (xOf ls)) (fun ls=>rfl) (fun ls=>oj (std (CC N) N) (xOf ls)) h
def jZ:Cfg:={ gam:=[⟨36,[],false,false,[]⟩],imm:=false,old:=false }
theorem qv (O:Alg) (x:Ags O):XF (O:=O) Tryz.prog jZ true true [] 16 [] (xr x ab 0)=QY O x:=by kernel_rfl
theorem jl:Vd Tryz.prog 16 Fi:=fun N h =>
 BM mix (E:=IK N) (N:=N) (cfg:=jZ) (ci:=⟨16,[],true,true,[]⟩) (ks:=ab) (AH (qi N (fun _=>rfl)) Ca) (c:=Fi N) (F:=fun ls=>QY (std (IK N) N) (xOf ls)) (fun ls=>rfl) (fun ls=>qv (std (IK N) N) (xOf ls)) h
theorem X4:Vd Tryz.prog 17 EJ:=vt mix Nt EE [] g0 rfl (fun _ _=>rfl) fun O x=>by kernel_rfl
theorem qI:Vd Tryz.prog 38 OG:=vt mix fD R8 [] g0 rfl (fun _ _=>rfl) fun O x=>by kernel_rfl
theorem sA:Vd Tryz.prog 39 Qj:=vt mix jX Ui [] g0 rfl (fun _ _=>rfl) fun O x=>by kernel_rfl
theorem qX:Vd Tryz.prog 18 Rh:=vt mix gU R1 [(16,Fi),(37,DY),(38,OG),(39,Qj)] (gs jl (gs ZA (gs qI (gs sA g0)))) rfl (fun _ _=>rfl) fun O x=>by kernel_rfl
def Uu:Cfg:={ gam:=[⟨9,[],true,true,[]⟩,⟨10,[],false,false,[]⟩,⟨11,[],true,true,[]⟩,⟨15,[],true,true,[]⟩,⟨16,[],true,true,[]⟩,⟨17,[],true,true,[]⟩,⟨18,[],true,true,[]⟩],imm:=false,old:=false }
theorem db (O:Alg) (x:Ags O):XF (O:=O) Tryz.prog Uu true true [] 5 [] (xr x NP 0)=FR O x:=by kernel_rfl
theorem fg:Vd Tryz.prog 5 Fp:=fun N h =>
 BM mix (E:=A0 N) (N:=N) (cfg:=Uu) (ci:=⟨5,[],true,true,[]⟩) (ks:=NP) (AH (oo N (fun _=>rfl)) (AH (rz N (fun _=>rfl)) (AH (aQ N (fun _=>rfl)) (AH (Vb N (fun _=>rfl)) (AH (jl N (fun _=>rfl)) (AH (X4 N (fun _=>rfl)) (AH (qX N (fun _=>rfl)) Ca))))))) (c:=Fp N) (F:=fun ls=>FR (std (A0 N) N) (xOf ls)) (fun ls=>rfl) (fun ls=>db (std (A0 N) N) (xOf ls)) h
end Go.Px
