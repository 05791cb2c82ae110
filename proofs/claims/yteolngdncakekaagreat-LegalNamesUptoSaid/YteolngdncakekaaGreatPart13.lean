/- Part 13. -/
import Derived.Test.YteolngdncakekaaGreatPart07
import Derived.Test.YteolngdncakekaaGreatProg
import Derived.Test.YteolngdncakekaaGreatPart08
import Derived.KernelRfl
import Derived.WalkKit
import Derived.Lib.Walk
import Derived.BigCall
import Derived.BigGuard
set_option linter.unusedVariables false
set_option linter.unusedSimpArgs false
namespace Go.Px
open Go.Proofs
set_option maxRecDepth 100000
theorem mix:Tryz.prog.follows .mixedOrders=true:=by kernel_rfl
theorem Y2:Vd Tryz.prog 57 H8:=vt mix TI LE [] g0 rfl (fun _ _=>rfl) fun O x=>by kernel_rfl
theorem N2:Vd Tryz.prog 87 Bo:=vt mix N4 Ob [] g0 rfl (fun _ _=>rfl) fun O x=>by kernel_rfl
theorem UX:Vd Tryz.prog 58 ET:=vt mix N8 G0 [(87,Bo)] (gs N2 g0) rfl (fun _ _=>rfl) fun O x=>by kernel_rfl
theorem Vp:Vd Tryz.prog 59 FX:=vt mix PI Hq [(87,Bo)] (gs N2 g0) rfl (fun _ _=>rfl) fun O x=>by kernel_rfl
theorem CK:Vd Tryz.prog 32 AN:=vt mix Qj IW [(57,H8),(58,ET),(59,FX)] (gs Y2 (gs UX (gs Vp g0))) rfl (fun _ _=>rfl) fun O x=>by kernel_rfl
theorem C7:Vd Tryz.prog 60 AZ:=vt mix MW MV [] g0 rfl (fun _ _=>rfl) fun O x=>by kernel_rfl
theorem Sz:Vd Tryz.prog 61 DE:=vt mix MJ E7 [(60,AZ)] (gs C7 g0) rfl (fun _ _=>rfl) fun O x=>by kernel_rfl
theorem SK:Vd Tryz.prog 118 Cs:=vt mix Lj ES [] g0 rfl (fun _ _=>rfl) fun O x=>by kernel_rfl
theorem Fc:Vd Tryz.prog 88 Ac:=vt mix JI Cu [(118,Cs)] (gs SK g0) rfl (fun _ _=>rfl) fun O x=>by kernel_rfl
theorem Q8:Vd Tryz.prog 62 CW:=vt mix KS D0 [(60,AZ),(88,Ac)] (gs C7 (gs Fc g0)) rfl (fun _ _=>rfl) fun O x=>by kernel_rfl
theorem RA:Vd Tryz.prog 90 CU:=vt mix KR Dy [(60,AZ)] (gs C7 g0) rfl (fun _ _=>rfl) fun O x=>by kernel_rfl
theorem S1:Vd Tryz.prog 63 DJ:=vt mix MX E3 [(90,CU)] (gs RA g0) rfl (fun _ _=>rfl) fun O x=>by kernel_rfl
theorem J9:Vd Tryz.prog 33 A0:=vt mix OG Gw [(32,AN),(60,AZ),(61,DE),(62,CW),(63,DJ)] (gs CK (gs C7 (gs Sz (gs Q8 (gs S1 g0))))) rfl (fun _ _=>rfl) fun O x=>by kernel_rfl
theorem IU:Vd Tryz.prog 51 Ax:=vt mix Qh Ij [] g0 rfl (fun _ _=>rfl) fun O x=>by kernel_rfl
theorem Qn:Vd Tryz.prog 34 CO:=vt mix Qq IV [(51,Ax)] (gs IU g0) rfl (fun _ _=>rfl) fun O x=>by kernel_rfl
theorem W1:Vd Tryz.prog 35 F9:=vt mix Qv Ig [] g0 rfl (fun _ _=>rfl) fun O x=>by kernel_rfl
theorem MI:Vd Tryz.prog 13 Bh:=vt mix Qs Ie [(32,AN),(33,A0),(34,CO),(35,F9)] (gs CK (gs J9 (gs Qn (gs W1 g0)))) rfl (fun _ _=>rfl) fun O x=>by kernel_rfl
theorem WB:Vd Tryz.prog 46 FU:=vt mix Pq HU [] g0 rfl (fun _ _=>rfl) fun O x=>by kernel_rfl
theorem Uk:Vd Tryz.prog 47 EM:=vt mix Og JZ [] g0 rfl (fun _ _=>rfl) fun O x=>by kernel_rfl
open Go.RowKit Go.Lib in
set_option maxHeartbeats 1000000 in
theorem Mo (s:ByteArray) (c:Int) (w:World):Calls Tryz.prog 113 #[.string s,.int .u8 c] w fun e w'=>e=.returned (.int .i64 (Lib.indexByte s.data.toList c.toNat.toUInt8))∧w'=w:=by
 go_enter Tryz.func113,Tryz.ntmps113
 go_wp2
 rw [run_callFunc_extern Tryz.func134 (by kernel_rfl) (by kernel_rfl) (by kernel_rfl) (e:=Extern.BytealgIndexByte.indexByte) (by kernel_rfl),Lib.run_indexByteString]
 simp only [Result.andThen]
 rw [Oper.upon_value]
 go_wp2
 go_ret
 exact ⟨rfl,rfl⟩
theorem Nu:Vd Tryz.prog 113 Bk:=fun N h =>
 Yr Tryz.func113 (T9:=9) (T5:=5) (T3:=3) rfl rfl Tryz.underlying9 Tryz.underlying5 Tryz.underlying3 (by kernel_rfl) Mo h
theorem Q2:Vd Tryz.prog 76 CT:=vt mix KU D2 [(113,Bk)] (gs Nu g0) rfl (fun _ _=>rfl) fun O x=>by kernel_rfl
theorem Wk:Vd Tryz.prog 77 EB:=vt mix Qm Qa [] g0 rfl (fun _ _=>rfl) fun O x=>by kernel_rfl
theorem Yb:Vd Tryz.prog 48 HQ:=vt mix SL JW [(76,CT),(77,EB)] (gs Q2 (gs Wk g0)) rfl (fun _ _=>rfl) fun O x=>by kernel_rfl
theorem Rk:Vd Tryz.prog 78 Cj:=vt mix Ll HF [] g0 rfl (fun _ _=>rfl) fun O x=>by kernel_rfl
theorem UG:Vd Tryz.prog 49 DY:=vt mix NG F6 [(78,Cj)] (gs Rk g0) rfl (fun _ _=>rfl) fun O x=>by kernel_rfl
theorem Qp:Vd Tryz.prog 28 CN:=vt mix Qe GC [(46,FU),(47,EM),(48,HQ),(49,DY)] (gs WB (gs Uk (gs Yb (gs UG g0)))) rfl (fun _ _=>rfl) fun O x=>by kernel_rfl
theorem QY:Vd Tryz.prog 74 CH:=fun N h =>
 LG mix (T:=22) (e:=118) (b:=24) Tryz.func74 Tryz.underlying22 (by kernel_rfl) (by decide) (fun O l=>by kernel_rfl) (fun O l=>by kernel_rfl) h
theorem Qw:Vd Tryz.prog 43 CL:=vt mix Qc IZ [(74,CH)] (gs QY g0) rfl (fun _ _=>rfl) fun O x=>by kernel_rfl
theorem Ct:Vd Tryz.prog 79 AM:=fun N h =>
 LG mix (T:=67) (e:=126) (b:=1) Tryz.func79 Tryz.underlying67 (by kernel_rfl) (by decide) (fun O l=>by kernel_rfl) (fun O l=>by kernel_rfl) h
theorem Ej:Vd Tryz.prog 80 AX:=fun N h =>
 LG mix (T:=68) (e:=3) (b:=8) Tryz.func80 Tryz.underlying68 (by kernel_rfl) (by decide) (fun O l=>by kernel_rfl) (fun O l=>by kernel_rfl) h
theorem Dv:Vd Tryz.prog 81 AS:=fun N h =>
 LG mix (T:=69) (e:=4) (b:=1) Tryz.func81 Tryz.underlying69 (by kernel_rfl) (by decide) (fun O l=>by kernel_rfl) (fun O l=>by kernel_rfl) h
theorem Bn:Vd Tryz.prog 50 AK:=vt mix OB Gu [(79,AM),(80,AX),(81,AS)] (gs Ct (gs Ej (gs Dv g0))) rfl (fun _ _=>rfl) fun O x=>by kernel_rfl
theorem Wt:Vd Tryz.prog 29 GD:=vt mix QZ Ii [(43,CL),(50,AK)] (gs Qw (gs Bn g0)) rfl (fun _ _=>rfl) fun O x=>by kernel_rfl
theorem L5:Vd Tryz.prog 55 BM:=vt mix Qk IR [] g0 rfl (fun _ _=>rfl) fun O x=>by kernel_rfl
theorem Lo:Vd Tryz.prog 85 BI:=vt mix LS EI [] g0 rfl (fun _ _=>rfl) fun O x=>by kernel_rfl
theorem Uf:Vd Tryz.prog 56 Eg:=vt mix OT Gv [(13,Bh),(51,Ax),(55,BM),(85,BI)] (gs MI (gs IU (gs L5 (gs Lo g0)))) rfl (fun _ _=>rfl) fun O x=>by kernel_rfl
theorem VT:Vd Tryz.prog 82 Em:=vt mix ON Gl [(32,AN),(60,AZ)] (gs CK (gs C7 g0)) rfl (fun _ _=>rfl) fun O x=>by kernel_rfl
theorem Vc:Vd Tryz.prog 83 FG:=vt mix Pb Hf [(51,Ax),(55,BM)] (gs IU (gs L5 g0)) rfl (fun _ _=>rfl) fun O x=>by kernel_rfl
theorem Sr:Vd Tryz.prog 136 DF:=vt mix Mc Hs [] g0 rfl (fun _ _=>rfl) fun O x=>by kernel_rfl
theorem Uo:Vd Tryz.prog 114 EK:=vt mix Om Gi [(136,DF)] (gs Sr g0) rfl (fun _ _=>rfl) fun O x=>by kernel_rfl
theorem FE:Vd Tryz.prog 160 Ah:=vt mix SM J8 [(79,AM),(80,AX),(81,AS)] (gs Ct (gs Ej (gs Dv g0))) rfl (fun _ _=>rfl) fun O x=>by kernel_rfl
theorem UL:Vd Tryz.prog 191 B3:=vt mix Ne Is [] g0 rfl (fun _ _=>rfl) fun O x=>by kernel_rfl
theorem Pe:Vd Tryz.prog 161 BT:=vt mix Pl DX [(191,B3)] (gs UL g0) rfl (fun _ _=>rfl) fun O x=>by kernel_rfl
theorem FP:Vd Tryz.prog 162 Ag:=vt mix PT Hm [] g0 rfl (fun _ _=>rfl) fun O x=>by kernel_rfl
theorem Wl:Vd Tryz.prog 137 GQ:=vt mix Qg IX [(160,Ah),(161,BT),(162,Ag)] (gs FE (gs Pe (gs FP g0))) rfl (fun _ _=>rfl) fun O x=>by kernel_rfl
theorem Ot:Vd Tryz.prog 163 Br:=vt mix TN LI [(79,AM),(80,AX),(81,AS)] (gs Ct (gs Ej (gs Dv g0))) rfl (fun _ _=>rfl) fun O x=>by kernel_rfl
theorem Ly:Vd Tryz.prog 192 BN:=vt mix Qb IY [] g0 rfl (fun _ _=>rfl) fun O x=>by kernel_rfl
theorem XS:Vd Tryz.prog 193 HD:=vt mix RQ Jp [(32,AN),(192,BN)] (gs CK (gs Ly g0)) rfl (fun _ _=>rfl) fun O x=>by kernel_rfl
theorem Yd:Vd Tryz.prog 164 IB:=vt mix TD LO [(32,AN),(88,Ac),(192,BN),(193,HD)] (gs CK (gs Fc (gs Ly (gs XS g0)))) rfl (fun _ _=>rfl) fun O x=>by kernel_rfl
theorem XO:Vd Tryz.prog 138 HL:=vt mix RL KA [(163,Br),(164,IB)] (gs Ot (gs Yd g0)) rfl (fun _ _=>rfl) fun O x=>by kernel_rfl
theorem Q6:Vd Tryz.prog 103 CX:=vt mix KW D1 [] g0 rfl (fun _ _=>rfl) fun O x=>by kernel_rfl
theorem Nd:Vd Tryz.prog 70 Bg:=vt mix Ni F5 [(103,CX)] (gs Q6 g0) rfl (fun _ _=>rfl) fun O x=>by kernel_rfl
theorem MY:Vd Tryz.prog 130 BC:=vt mix MZ Ma [] g0 rfl (fun _ _=>rfl) fun O x=>by kernel_rfl
theorem V8:Vd Tryz.prog 104 Fd:=vt mix PN Hi [(130,BC)] (gs MY g0) rfl (fun _ _=>rfl) fun O x=>by kernel_rfl
theorem RI:Vd Tryz.prog 131 Cg:=vt mix Lb Ea [] g0 rfl (fun _ _=>rfl) fun O x=>by kernel_rfl
theorem PG:Vd Tryz.prog 105 B6:=vt mix JH Cy [(131,Cg)] (gs RI g0) rfl (fun _ _=>rfl) fun O x=>by kernel_rfl
theorem R7:Vd Tryz.prog 132 Cq:=vt mix LU EY [] g0 rfl (fun _ _=>rfl) fun O x=>by kernel_rfl
theorem UM:Vd Tryz.prog 106 Dc:=vt mix Nh Fy [(130,BC),(132,Cq)] (gs MY (gs R7 g0)) rfl (fun _ _=>rfl) fun O x=>by kernel_rfl
theorem Oq:Vd Tryz.prog 133 Bz:=vt mix H6 Ce [] g0 rfl (fun _ _=>rfl) fun O x=>by kernel_rfl
theorem QF:Vd Tryz.prog 107 CF:=vt mix Jt DP [(133,Bz)] (gs Oq g0) rfl (fun _ _=>rfl) fun O x=>by kernel_rfl
theorem QG:Vd Tryz.prog 71 CE:=vt mix J4 DM [(104,Fd),(105,B6),(106,Dc),(107,CF)] (gs V8 (gs PG (gs UM (gs QF g0)))) rfl (fun _ _=>rfl) fun O x=>by kernel_rfl
theorem Js:Vd Tryz.prog 151 Ay:=vt mix OP Cz [(161,BT)] (gs Pe g0) rfl (fun _ _=>rfl) fun O x=>by kernel_rfl
theorem GM:Vd Tryz.prog 174 Aj:=vt mix Qf Ih [] g0 rfl (fun _ _=>rfl) fun O x=>by kernel_rfl
theorem Fu:Vd Tryz.prog 175 Ai:=vt mix NF F0 [(174,Aj)] (gs GM g0) rfl (fun _ _=>rfl) fun O x=>by kernel_rfl
theorem VQ:Vd Tryz.prog 210 Eb:=vt mix N3 Gt [] g0 rfl (fun _ _=>rfl) fun O x=>by kernel_rfl
theorem W0:Vd Tryz.prog 194 GJ:=vt mix Qz Il [(174,Aj),(175,Ai),(210,Eb)] (gs GM (gs Fu (gs VQ g0))) rfl (fun _ _=>rfl) fun O x=>by kernel_rfl
theorem Wz:Vd Tryz.prog 195 GO:=vt mix Qu IP [(174,Aj),(175,Ai)] (gs GM (gs Fu g0)) rfl (fun _ _=>rfl) fun O x=>by kernel_rfl
theorem Sy:Vd Tryz.prog 165 DH:=vt mix MT Ez [(70,Bg),(71,CE),(151,Ay),(194,GJ),(195,GO)] (gs Nd (gs QG (gs Js (gs W0 (gs Wz g0))))) rfl (fun _ _=>rfl) fun O x=>by kernel_rfl
theorem RB:Vd Tryz.prog 196 CV:=vt mix KV Du [] g0 rfl (fun _ _=>rfl) fun O x=>by kernel_rfl
theorem Sp:Vd Tryz.prog 166 C6:=vt mix MR E8 [(70,Bg),(196,CV)] (gs Nd (gs RB g0)) rfl (fun _ _=>rfl) fun O x=>by kernel_rfl
theorem Xz:Vd Tryz.prog 167 HI:=vt mix Rr Jr [(160,Ah),(162,Ag)] (gs FE (gs FP g0)) rfl (fun _ _=>rfl) fun O x=>by kernel_rfl
theorem UO:Vd Tryz.prog 168 Dl:=vt mix NR Nf [] g0 rfl (fun _ _=>rfl) fun O x=>by kernel_rfl
theorem Yc:Vd Tryz.prog 169 G8:=vt mix RH KC [(32,AN),(88,Ac),(163,Br),(192,BN)] (gs CK (gs Fc (gs Ot (gs Ly g0)))) rfl (fun _ _=>rfl) fun O x=>by kernel_rfl
theorem VW:Vd Tryz.prog 170 EU:=vt mix OJ Gh [(160,Ah)] (gs FE g0) rfl (fun _ _=>rfl) fun O x=>by kernel_rfl
theorem V1:Vd Tryz.prog 139 FH:=vt mix Pd Hj [(50,AK),(165,DH),(166,C6),(167,HI),(168,Dl),(169,G8),(170,EU)] (gs Bn (gs Sy (gs Sp (gs Xz (gs UO (gs Yc (gs VW g0))))))) rfl (fun _ _=>rfl) fun O x=>by kernel_rfl
theorem SD:Vd Tryz.prog 171 Cm:=vt mix Re Jf [(151,Ay),(162,Ag)] (gs Js (gs FP g0)) rfl (fun _ _=>rfl) fun O x=>by kernel_rfl
theorem T1:Vd Tryz.prog 140 Dr:=vt mix NO Fm [(160,Ah),(162,Ag),(171,Cm)] (gs FE (gs FP (gs SD g0))) rfl (fun _ _=>rfl) fun O x=>by kernel_rfl
theorem Vs:Vd Tryz.prog 141 FO:=vt mix Ph Hk [(160,Ah),(171,Cm)] (gs FE (gs SD g0)) rfl (fun _ _=>rfl) fun O x=>by kernel_rfl
theorem Qo:Vd Tryz.prog 152 B0:=vt mix Qx EA [] g0 rfl (fun _ _=>rfl) fun O x=>by kernel_rfl
theorem VJ:Vd Tryz.prog 142 Ec:=vt mix Oi Gm [(152,B0),(160,Ah),(162,Ag)] (gs Qo (gs FE (gs FP g0))) rfl (fun _ _=>rfl) fun O x=>by kernel_rfl
theorem Ow:Vd Tryz.prog 173 Bv:=vt mix TS LB [(79,AM),(80,AX),(81,AS)] (gs Ct (gs Ej (gs Dv g0))) rfl (fun _ _=>rfl) fun O x=>by kernel_rfl
theorem VO:Vd Tryz.prog 143 Ei:=vt mix N6 Gj [(173,Bv)] (gs Ow g0) rfl (fun _ _=>rfl) fun O x=>by kernel_rfl
theorem V9:Vd Tryz.prog 144 FB:=vt mix PH He [(173,Bv),(174,Aj),(175,Ai)] (gs Ow (gs GM (gs Fu g0))) rfl (fun _ _=>rfl) fun O x=>by kernel_rfl
theorem SB:Vd Tryz.prog 145 Co:=vt mix Ld EW [(173,Bv),(174,Aj),(175,Ai)] (gs Ow (gs GM (gs Fu g0))) rfl (fun _ _=>rfl) fun O x=>by kernel_rfl
theorem Uz:Vd Tryz.prog 146 Eh:=vt mix OW Gr [(32,AN),(163,Br)] (gs CK (gs Ot g0)) rfl (fun _ _=>rfl) fun O x=>by kernel_rfl
theorem Sq:Vd Tryz.prog 147 DA:=vt mix MP E9 [(50,AK)] (gs Bn g0) rfl (fun _ _=>rfl) fun O x=>by kernel_rfl
theorem Mb:Vd Tryz.prog 117 BU:=vt mix MQ E0 [(50,AK)] (gs Bn g0) rfl (fun _ _=>rfl) fun O x=>by kernel_rfl
theorem Sw:Vd Tryz.prog 148 DI:=vt mix ML E2 [(50,AK),(117,BU)] (gs Bn (gs Mb g0)) rfl (fun _ _=>rfl) fun O x=>by kernel_rfl
theorem T7:Vd Tryz.prog 149 Dp:=vt mix NT De [(50,AK)] (gs Bn g0) rfl (fun _ _=>rfl) fun O x=>by kernel_rfl
theorem U3:Vd Tryz.prog 176 Ed:=vt mix OK Oe [] g0 rfl (fun _ _=>rfl) fun O x=>by kernel_rfl
theorem Tw:Vd Tryz.prog 150 Dm:=vt mix NU F4 [(50,AK),(176,Ed)] (gs Bn (gs U3 g0)) rfl (fun _ _=>rfl) fun O x=>by kernel_rfl
theorem S6:Vd Tryz.prog 115 C8:=vt mix MN DL [(137,GQ),(138,HL),(139,FH),(140,Dr),(141,FO),(142,Ec),(143,Ei),(144,FB),(145,Co),(146,Eh),(147,DA),(148,DI),(149,Dp),(150,Dm)] (gs Wl (gs XO (gs V1 (gs T1 (gs Vs (gs VJ (gs VO (gs V9 (gs SB (gs Uz (gs Sq (gs Sw (gs T7 (gs Tw g0)))))))))))))) rfl (fun _ _=>rfl) fun O x=>by kernel_rfl
theorem Tt:Vd Tryz.prog 116 CY:=vt mix Ns F3 [(33,A0),(151,Ay),(152,B0)] (gs J9 (gs Js (gs Qo g0))) rfl (fun _ _=>rfl) fun O x=>by kernel_rfl
theorem V5:Vd Tryz.prog 84 FZ:=vt mix Pi Hc [(28,CN),(33,A0),(50,AK),(114,EK),(115,C8),(116,CY)] (gs Qp (gs J9 (gs Bn (gs Uo (gs S6 (gs Tt g0)))))) rfl (fun _ _=>rfl) fun O x=>by kernel_rfl
theorem SJ:Vd Tryz.prog 12 Bs:=vt mix R8 Jv [(13,Bh),(28,CN),(29,GD),(34,CO),(51,Ax),(55,BM),(56,Eg),(82,Em),(83,FG),(84,FZ),(85,BI),(117,BU)] (gs MI (gs Qp (gs Wt (gs Qn (gs IU (gs L5 (gs Uf (gs VT (gs Vc (gs V5 (gs Lo (gs Mb g0)))))))))))) rfl (fun _ _=>rfl) fun O x=>by kernel_rfl
theorem TO:Vd Tryz.prog 15 CB:=vt mix TB LC [(12,Bs)] (gs SJ g0) rfl (fun _ _=>rfl) fun O x=>by kernel_rfl
theorem Xh:Vd Tryz.prog 75 Ci:=vt mix SI J1 [] g0 rfl (fun _ _=>rfl) fun O x=>by kernel_rfl
def PJ:Cfg:={ gam:=[⟨75,[],true,true,[]⟩],imm:=false,old:=false }
theorem Uq (O:Alg) (x:Ags O):XF (O:=O) Tryz.prog PJ false true [] 44 [] (xr x Kf 0)=FC O x:=by kernel_rfl
theorem Vg {E:Env} {M:Nat} (N:Nat) (h:∀ ls,E 44 [] ls=FM N ls):VV Tryz.prog E M ⟨44,[],false,true,[]⟩ :=
 Rb mix (E:=Ca N) (N:=N) (cfg:=PJ) (ci:=⟨44,[],false,true,[]⟩) (ks:=Kf) (P2 (Xh N (fun _=>rfl)) Y6) (c:=FM N) (F:=fun ls=>FC (std (Ca N) N) (xOf ls)) (fun ls=>rfl) (fun ls=>Uq (std (Ca N) N) (xOf ls)) h
def VN:Cfg:={ gam:=[⟨13,[],true,true,[]⟩,⟨15,[],true,true,[]⟩,⟨44,[],false,true,[]⟩],imm:=false,old:=false,ie:=[60000] }
theorem Yu (O:Alg) (x:Ags O):XF (O:=O) Tryz.prog VN true true [] 27 [] (xr x QD 0)=Jx O x:=by kernel_rfl
theorem ZS:Vd Tryz.prog 27 F2:=fun N h =>
 Rb mix (E:=Cr N) (N:=N) (cfg:=VN) (ci:=⟨27,[],true,true,[]⟩) (ks:=QD) (P2 (MI N (fun _=>rfl)) (P2 (TO N (fun _=>rfl)) (P2 (Vg N (fun _=>rfl)) Y6))) (c:=F2 N) (F:=fun ls=>Jx (std (Cr N) N) (xOf ls)) (fun ls=>rfl) (fun ls=>Yu (std (Cr N) N) (xOf ls)) h
theorem Xy:Vd Tryz.prog 11 CD:=vt mix SQ Ju [(27,F2)] (gs ZS g0) rfl (fun _ _=>rfl) fun O x=>by kernel_rfl
theorem R6:Vd Tryz.prog 14 BL:=vt mix SA Jg [] g0 rfl (fun _ _=>rfl) fun O x=>by kernel_rfl
theorem Yp:Vd Tryz.prog 25 Es:=vt mix TT LH [(32,AN),(43,CL)] (gs CK (gs Qw g0)) rfl (fun _ _=>rfl) fun O x=>by kernel_rfl
theorem aW:Vd Tryz.prog 26 Lr:=vt mix WN WU [] g0 rfl (fun _ _=>rfl) fun O x=>by kernel_rfl
theorem Yj:Vd Tryz.prog 9 GY:=vt mix TQ LR [(11,CD),(12,Bs),(14,BL),(15,CB),(25,Es),(26,Lr)] (gs Xy (gs SJ (gs R6 (gs TO (gs Yp (gs aW g0)))))) rfl (fun _ _=>rfl) fun O x=>by kernel_rfl
theorem Tl:Vd Tryz.prog 4 Fx:=vt mix Np F1 [(9,GY),(14,BL)] (gs Yj (gs R6 g0)) rfl (fun _ _=>rfl) fun O x=>by kernel_rfl
end Go.Px
