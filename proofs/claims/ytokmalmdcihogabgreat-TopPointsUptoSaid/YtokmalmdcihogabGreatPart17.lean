/- Part 17. -/
import Derived.Test.YtokmalmdcihogabGreatPart09
import Derived.Test.YtokmalmdcihogabGreatProg
import Derived.Test.YtokmalmdcihogabGreatPart11
import Derived.KernelRfl
import Derived.WalkKit
import Derived.Lib.Walk
import Derived.BigCall
import Derived.BigGuard
import Derived.Test.YtokmalmdcihogabGreatPart16
set_option linter.unusedVariables false
set_option linter.unusedSimpArgs false
namespace Go.Px
open Go.Proofs
set_option maxRecDepth 100000
abbrev zya:=Vd Tryz.prog
theorem mix:Tryz.prog.follows .mixedOrders=true:=by kernel_rfl
def Pu:Cfg:={ gam:=[],imm:=false,old:=false,ie:=[60000],stop:=[41,43,45,42,47,46,44] }
theorem XE (O:Alg) (x:Ags O):XF (O:=O) Tryz.prog Pu (CI.ow ⟨12,[],true,true,[],[]⟩) true [] 12 [] (xr x J9 0)=Jz O x:=by kernel_rfl
theorem YI:zya 12 GG:=fun N h =>
 ET mix (E:=E0 N) (N:=N) (cfg:=Pu) (ci:=⟨12,[],true,true,[],[]⟩) (ks:=J9) Jn (c:=GG N) (F:=fun ls=>Jz (std (E0 N) N) (xOf ls)) (fun ls=>rfl) (fun ls=>XE (std (E0 N) N) (xOf ls)) h
theorem SY:zya 36 Fu:=vt mix Sz Si [] g0 rfl (fun _ _=>rfl) fun O x=>by kernel_rfl
theorem YP:zya 25 Jx:=vt mix Pf PX [(36,Fu)] (gs SY g0) rfl (fun _ _=>rfl) fun O x=>by kernel_rfl
theorem aZ:zya 26 Ml:=vt mix Sl R0 [(36,Fu)] (gs SY g0) rfl (fun _ _=>rfl) fun O x=>by kernel_rfl
theorem eU:zya 13 NZ:=vt mix TU Te [(25,Jx),(26,Ml)] (gs YP (gs aZ g0)) rfl (fun _ _=>rfl) fun O x=>by kernel_rfl
theorem YA:zya 4 D1:=vt mix Pw Pe [(12,GG),(13,NZ)] (gs YI (gs eU g0)) rfl (fun _ _=>rfl) fun O x=>by kernel_rfl
def VZ:Cfg:={ gam:=[],imm:=false,old:=false }
theorem dH (O:Alg) (x:Ags O):XF (O:=O) Tryz.prog VZ (CI.ow ⟨5,[],false,false,[],[]⟩) false [] 5 [] (xr x PH 0)=He O x:=by kernel_rfl
theorem f9 {E:Env} {M:Nat} (N:Nat) (h:∀ ls,E 5 [] ls=Hk N ls):VV Tryz.prog E M ⟨5,[],false,false,[],[]⟩ :=
 ET mix (E:=FR N) (N:=N) (cfg:=VZ) (ci:=⟨5,[],false,false,[],[]⟩) (ks:=PH) Jn (c:=Hk N) (F:=fun ls=>He (std (FR N) N) (xOf ls)) (fun ls=>rfl) (fun ls=>dH (std (FR N) N) (xOf ls)) h
theorem lG:zya 14 KP:=vt mix Yn OO [] g0 rfl (fun _ _=>rfl) fun O x=>by kernel_rfl
theorem R8:zya 27 CX:=vt mix R3 S4 [] g0 rfl (fun _ _=>rfl) fun O x=>by kernel_rfl
theorem bE:zya 15 F2:=vt mix SH IX [(27,CX)] (gs R8 g0) rfl (fun _ _=>rfl) fun O x=>by kernel_rfl
theorem dN:zya 16 Gj:=vt mix Tb JQ [(27,CX)] (gs R8 g0) rfl (fun _ _=>rfl) fun O x=>by kernel_rfl
theorem CN:zya 6 AN:=vt mix Vy Kq [(14,KP),(15,F2),(16,Gj)] (gs lG (gs bE (gs dN g0))) rfl (fun _ _=>rfl) fun O x=>by kernel_rfl
theorem Wh:zya 7 Ga:=vt mix WN MR [(6,AN)] (gs CN g0) rfl (fun _ _=>rfl) fun O x=>by kernel_rfl
theorem VK:zya 62 Cz:=fun N h =>
 OQ mix (T:=22) (e:=84) (b:=24) Tryz.func62 Tryz.underlying22 (by kernel_rfl) (by decide) (fun O l=>by kernel_rfl) (fun O l=>by kernel_rfl) h
theorem Vg:zya 53 DA:=vt mix Vm Ko [(62,Cz)] (gs VK g0) rfl (fun _ _=>rfl) fun O x=>by kernel_rfl
theorem lI:zya 37 OE:=vt mix Yl OM [(6,AN),(53,DA)] (gs CN (gs Vg g0)) rfl (fun _ _=>rfl) fun O x=>by kernel_rfl
theorem D2:zya 86 Ag:=vt mix Py PT [] g0 rfl (fun _ _=>rfl) fun O x=>by kernel_rfl
theorem YN:zya 87 D3:=vt mix PQ GL [(86,Ag)] (gs D2 g0) rfl (fun _ _=>rfl) fun O x=>by kernel_rfl
theorem XI:zya 109 De:=vt mix OV Fi [] g0 rfl (fun _ _=>rfl) fun O x=>by kernel_rfl
theorem Gg:zya 101 Ap:=vt mix LW Dn [(109,De)] (gs XI g0) rfl (fun _ _=>rfl) fun O x=>by kernel_rfl
theorem WB:zya 88 DH:=vt mix NL E2 [(86,Ag),(101,Ap)] (gs D2 (gs Gg g0)) rfl (fun _ _=>rfl) fun O x=>by kernel_rfl
theorem WH:zya 103 DN:=vt mix NI E9 [(86,Ag)] (gs D2 g0) rfl (fun _ _=>rfl) fun O x=>by kernel_rfl
theorem YC:zya 89 D8:=vt mix PU GK [(103,DN)] (gs WH g0) rfl (fun _ _=>rfl) fun O x=>by kernel_rfl
theorem MB:zya 71 BJ:=vt mix SE H7 [(6,AN),(86,Ag),(87,D3),(88,DH),(89,D8)] (gs CN (gs D2 (gs YN (gs WB (gs YC g0))))) rfl (fun _ _=>rfl) fun O x=>by kernel_rfl
theorem Kb:zya 79 BK:=vt mix VW Kd [] g0 rfl (fun _ _=>rfl) fun O x=>by kernel_rfl
theorem Vq:zya 72 C9:=vt mix V2 Km [(79,BK)] (gs Kb g0) rfl (fun _ _=>rfl) fun O x=>by kernel_rfl
theorem gJ:zya 73 Hp:=vt mix VY Kk [] g0 rfl (fun _ _=>rfl) fun O x=>by kernel_rfl
theorem Vs:zya 63 C7:=vt mix Vt Kr [(6,AN),(71,BJ),(72,C9),(73,Hp)] (gs CN (gs MB (gs Vq (gs gJ g0)))) rfl (fun _ _=>rfl) fun O x=>by kernel_rfl
theorem dp:zya 74 GW:=vt mix UN Ji [] g0 rfl (fun _ _=>rfl) fun O x=>by kernel_rfl
theorem bL:zya 75 Fz:=vt mix Ru MN [] g0 rfl (fun _ _=>rfl) fun O x=>by kernel_rfl
open Go.RowKit Go.Lib in
set_option maxHeartbeats 1000000 in
theorem Qb (s:ByteArray) (c:Int) (w:World):Calls Tryz.prog 104 #[.string s,.int .u8 c] w fun e w'=>e=.returned (.int .i64 (Lib.indexByte s.data.toList c.toNat.toUInt8))∧w'=w:=by
 go_enter Tryz.func104,Tryz.ntmps104
 go_wp2
 rw [run_callFunc_extern Tryz.func111 (by kernel_rfl) (by kernel_rfl) (by kernel_rfl) (e:=Extern.BytealgIndexByte.indexByte) (by kernel_rfl),Lib.run_indexByteString];simp only [Result.andThen];rw [Oper.upon_value]
 go_wp2
 go_ret
 exact ⟨rfl,rfl⟩
theorem Rr:zya 104 CT:=fun N h =>
 kX Tryz.func104 (T9:=9) (T5:=5) (T3:=3) rfl rfl Tryz.underlying9 Tryz.underlying5 Tryz.underlying3 (by kernel_rfl) Qb h
theorem WM:zya 90 DK:=vt mix NO E7 [(104,CT)] (gs Rr g0) rfl (fun _ _=>rfl) fun O x=>by kernel_rfl
theorem gG:zya 91 FJ:=vt mix Vv V1 [] g0 rfl (fun _ _=>rfl) fun O x=>by kernel_rfl
theorem jD:zya 76 Ia:=vt mix XG Mm [(90,DK),(91,FJ)] (gs WM (gs gG g0)) rfl (fun _ _=>rfl) fun O x=>by kernel_rfl
theorem We:zya 92 Dd:=vt mix Oq Ic [] g0 rfl (fun _ _=>rfl) fun O x=>by kernel_rfl
theorem Zq:zya 77 Ee:=vt mix Rd HV [(92,Dd)] (gs We g0) rfl (fun _ _=>rfl) fun O x=>by kernel_rfl
theorem Vw:zya 64 C8:=vt mix Vr Hc [(74,GW),(75,Fz),(76,Ia),(77,Ee)] (gs dp (gs bL (gs jD (gs Zq g0)))) rfl (fun _ _=>rfl) fun O x=>by kernel_rfl
theorem Dv:zya 93 AS:=fun N h =>
 OQ mix (T:=88) (e:=182) (b:=1) Tryz.func93 Tryz.underlying88 (by kernel_rfl) (by decide) (fun O l=>by kernel_rfl) (fun O l=>by kernel_rfl) h
theorem Fg:zya 94 Aa:=fun N h =>
 OQ mix (T:=89) (e:=3) (b:=8) Tryz.func94 Tryz.underlying89 (by kernel_rfl) (by decide) (fun O l=>by kernel_rfl) (fun O l=>by kernel_rfl) h
theorem E1:zya 95 AX:=fun N h =>
 OQ mix (T:=90) (e:=4) (b:=1) Tryz.func95 Tryz.underlying90 (by kernel_rfl) (by decide) (fun O l=>by kernel_rfl) (fun O l=>by kernel_rfl) h
theorem CY:zya 78 AQ:=vt mix SN IV [(93,AS),(94,Aa),(95,AX)] (gs Dv (gs Fg (gs E1 g0))) rfl (fun _ _=>rfl) fun O x=>by kernel_rfl
theorem fq:zya 65 Hr:=vt mix V5 Ke [(53,DA),(78,AQ)] (gs Vg (gs CY g0)) rfl (fun _ _=>rfl) fun O x=>by kernel_rfl
theorem O1:zya 83 Bu:=vt mix VX KY [] g0 rfl (fun _ _=>rfl) fun O x=>by kernel_rfl
theorem Oo:zya 99 Bk:=vt mix Oj Fk [] g0 rfl (fun _ _=>rfl) fun O x=>by kernel_rfl
theorem Z8:zya 84 Fa:=vt mix Rz IW [(63,C7),(79,BK),(83,Bu),(99,Bk)] (gs Vs (gs Kb (gs O1 (gs Oo g0)))) rfl (fun _ _=>rfl) fun O x=>by kernel_rfl
theorem cT:zya 96 Fx:=vt mix Sq IJ [(6,AN),(86,Ag)] (gs CN (gs D2 g0)) rfl (fun _ _=>rfl) fun O x=>by kernel_rfl
theorem dC:zya 97 GZ:=vt mix UB Jc [(79,BK),(83,Bu)] (gs Kb (gs O1 g0)) rfl (fun _ _=>rfl) fun O x=>by kernel_rfl
theorem YV:zya 113 EB:=vt mix Pp Ju [] g0 rfl (fun _ _=>rfl) fun O x=>by kernel_rfl
theorem cp:zya 105 FQ:=vt mix SV IY [(113,EB)] (gs YV g0) rfl (fun _ _=>rfl) fun O x=>by kernel_rfl
theorem Gh:zya 131 Au:=vt mix WU Mf [(93,AS),(94,Aa),(95,AX)] (gs Dv (gs Fg (gs E1 g0))) rfl (fun _ _=>rfl) fun O x=>by kernel_rfl
theorem Z1:zya 146 Cr:=vt mix Qn LA [] g0 rfl (fun _ _=>rfl) fun O x=>by kernel_rfl
theorem T6:zya 132 Bz:=vt mix Ti Eb [(146,Cr)] (gs Z1 g0) rfl (fun _ _=>rfl) fun O x=>by kernel_rfl
theorem GY:zya 133 Av:=vt mix UE Jp [] g0 rfl (fun _ _=>rfl) fun O x=>by kernel_rfl
theorem gE:zya 114 Hl:=vt mix Vp Ku [(131,Au),(132,Bz),(133,Av)] (gs Gh (gs T6 (gs GY g0))) rfl (fun _ _=>rfl) fun O x=>by kernel_rfl
theorem TJ:zya 134 Cd:=vt mix Y3 OL [(93,AS),(94,Aa),(95,AX)] (gs Dv (gs Fg (gs E1 g0))) rfl (fun _ _=>rfl) fun O x=>by kernel_rfl
theorem PK:zya 147 Bx:=vt mix Vo Kg [] g0 rfl (fun _ _=>rfl) fun O x=>by kernel_rfl
theorem iW:zya 148 Ip:=vt mix WT MT [(6,AN),(147,Bx)] (gs CN (gs PK g0)) rfl (fun _ _=>rfl) fun O x=>by kernel_rfl
theorem lA:zya 135 KF:=vt mix Ys OJ [(6,AN),(101,Ap),(147,Bx),(148,Ip)] (gs CN (gs Gg (gs PK (gs iW g0)))) rfl (fun _ _=>rfl) fun O x=>by kernel_rfl
theorem ib:zya 115 JB:=vt mix Wm Mz [(134,Cd),(135,KF)] (gs TJ (gs lA g0)) rfl (fun _ _=>rfl) fun O x=>by kernel_rfl
theorem WE:zya 85 DJ:=vt mix NJ Ez [] g0 rfl (fun _ _=>rfl) fun O x=>by kernel_rfl
theorem RQ:zya 68 CF:=vt mix Qk HG [(85,DJ)] (gs WE g0) rfl (fun _ _=>rfl) fun O x=>by kernel_rfl
theorem WK:zya 69 DL:=vt mix NN E5 [] g0 rfl (fun _ _=>rfl) fun O x=>by kernel_rfl
theorem Pb:zya 55 B4:=vt mix PR GH [(68,CF),(69,DL)] (gs RQ (gs WK g0)) rfl (fun _ _=>rfl) fun O x=>by kernel_rfl
theorem MJ:zya 128 BI:=vt mix SF Du [(132,Bz)] (gs T6 g0) rfl (fun _ _=>rfl) fun O x=>by kernel_rfl
theorem Hg:zya 144 A2:=vt mix Vl Kc [] g0 rfl (fun _ _=>rfl) fun O x=>by kernel_rfl
theorem HB:zya 145 Az:=vt mix Rf HX [(144,A2)] (gs Hg g0) rfl (fun _ _=>rfl) fun O x=>by kernel_rfl
theorem cP:zya 152 FU:=vt mix SB IM [] g0 rfl (fun _ _=>rfl) fun O x=>by kernel_rfl
theorem fu:zya 149 Hs:=vt mix Vh Kh [(144,A2),(145,Az),(152,FU)] (gs Hg (gs HB (gs cP g0))) rfl (fun _ _=>rfl) fun O x=>by kernel_rfl
theorem Pm:zya 157 Be:=vt mix PS Pt [] g0 rfl (fun _ _=>rfl) fun O x=>by kernel_rfl
theorem dY:zya 153 G2:=vt mix Tt JM [(157,Be)] (gs Pm g0) rfl (fun _ _=>rfl) fun O x=>by kernel_rfl
theorem W9:zya 158 DZ:=vt mix Ox FP [] g0 rfl (fun _ _=>rfl) fun O x=>by kernel_rfl
theorem Tg:zya 154 Ct:=vt mix Le Ds [(158,DZ)] (gs W9 g0) rfl (fun _ _=>rfl) fun O x=>by kernel_rfl
theorem Xh:zya 159 DW:=vt mix OU FY [] g0 rfl (fun _ _=>rfl) fun O x=>by kernel_rfl
theorem Y6:zya 155 Eo:=vt mix Qt HR [(157,Be),(159,DW)] (gs Pm (gs Xh g0)) rfl (fun _ _=>rfl) fun O x=>by kernel_rfl
theorem TN:zya 160 Ce:=vt mix KO DS [] g0 rfl (fun _ _=>rfl) fun O x=>by kernel_rfl
theorem UP:zya 156 Cy:=vt mix Mu EL [(160,Ce)] (gs TN g0) rfl (fun _ _=>rfl) fun O x=>by kernel_rfl
theorem Ue:zya 150 Cw:=vt mix Mq EK [(153,G2),(154,Ct),(155,Eo),(156,Cy)] (gs dY (gs Tg (gs Y6 (gs UP g0)))) rfl (fun _ _=>rfl) fun O x=>by kernel_rfl
theorem gN:zya 151 Hm:=vt mix V3 Ks [(144,A2),(145,Az)] (gs Hg (gs HB g0)) rfl (fun _ _=>rfl) fun O x=>by kernel_rfl
theorem YQ:zya 136 D6:=vt mix Pa GQ [(68,CF),(128,BI),(149,Hs),(150,Cw),(151,Hm)] (gs RQ (gs MJ (gs fu (gs Ue (gs gN g0))))) rfl (fun _ _=>rfl) fun O x=>by kernel_rfl
theorem hO:zya 137 JE:=vt mix WV MH [(131,Au),(133,Av)] (gs Gh (gs GY g0)) rfl (fun _ _=>rfl) fun O x=>by kernel_rfl
theorem Zz:zya 138 Ed:=vt mix RJ Q8 [] g0 rfl (fun _ _=>rfl) fun O x=>by kernel_rfl
theorem jf:zya 139 Ih:=vt mix Ww MY [(6,AN),(101,Ap),(134,Cd),(147,Bx)] (gs CN (gs Gg (gs TJ (gs PK g0)))) rfl (fun _ _=>rfl) fun O x=>by kernel_rfl
theorem ao:zya 140 Fq:=vt mix R9 IA [(131,Au)] (gs Gh g0) rfl (fun _ _=>rfl) fun O x=>by kernel_rfl
theorem dA:zya 116 GU:=vt mix Tu Jg [(55,B4),(78,AQ),(136,D6),(137,JE),(138,Ed),(139,Ih),(140,Fq)] (gs Pb (gs CY (gs YQ (gs hO (gs Zz (gs jf (gs ao g0))))))) rfl (fun _ _=>rfl) fun O x=>by kernel_rfl
theorem Xd:zya 141 Dh:=vt mix W6 MF [(128,BI),(133,Av)] (gs MJ (gs GY g0)) rfl (fun _ _=>rfl) fun O x=>by kernel_rfl
theorem ZX:zya 117 Ey:=vt mix Q2 HF [(131,Au),(133,Av),(141,Dh)] (gs Gh (gs GY (gs Xd g0))) rfl (fun _ _=>rfl) fun O x=>by kernel_rfl
theorem dh:zya 118 Gt:=vt mix TT Jl [(131,Au),(141,Dh)] (gs Gh (gs Xd g0)) rfl (fun _ _=>rfl) fun O x=>by kernel_rfl
theorem Vc:zya 129 Ck:=vt mix Ve FL [] g0 rfl (fun _ _=>rfl) fun O x=>by kernel_rfl
theorem Z7:zya 119 Ft:=vt mix Sa IH [(129,Ck),(131,Au),(133,Av)] (gs Vc (gs Gh (gs GY g0))) rfl (fun _ _=>rfl) fun O x=>by kernel_rfl
theorem TA:zya 143 Cg:=vt mix Yt ON [(93,AS),(94,Aa),(95,AX)] (gs Dv (gs Fg (gs E1 g0))) rfl (fun _ _=>rfl) fun O x=>by kernel_rfl
theorem cG:zya 120 Fh:=vt mix SZ H6 [(143,Cg)] (gs TA g0) rfl (fun _ _=>rfl) fun O x=>by kernel_rfl
theorem dr:zya 121 Gn:=vt mix Tl JU [(143,Cg),(144,A2),(145,Az)] (gs TA (gs Hg (gs HB g0))) rfl (fun _ _=>rfl) fun O x=>by kernel_rfl
theorem Wy:zya 122 Dc:=vt mix OX Fv [(143,Cg),(144,A2),(145,Az)] (gs TA (gs Hg (gs HB g0))) rfl (fun _ _=>rfl) fun O x=>by kernel_rfl
theorem cR:zya 123 Fc:=vt mix ST IB [(6,AN),(134,Cd)] (gs CN (gs TJ g0)) rfl (fun _ _=>rfl) fun O x=>by kernel_rfl
theorem X9:zya 124 D5:=vt mix PZ GE [(78,AQ)] (gs CY g0) rfl (fun _ _=>rfl) fun O x=>by kernel_rfl
theorem Pi:zya 108 B3:=vt mix Pc GD [(78,AQ)] (gs CY g0) rfl (fun _ _=>rfl) fun O x=>by kernel_rfl
theorem X7:zya 125 EE:=vt mix Pj GJ [(78,AQ),(108,B3)] (gs CY (gs Pi g0)) rfl (fun _ _=>rfl) fun O x=>by kernel_rfl
theorem ZC:zya 126 Ek:=vt mix Q7 Ei [(78,AQ)] (gs CY g0) rfl (fun _ _=>rfl) fun O x=>by kernel_rfl
theorem SR:zya 29 CZ:=vt mix So R5 [] g0 rfl (fun _ _=>rfl) fun O x=>by kernel_rfl
theorem ZT:zya 127 Ep:=vt mix Q0 HI [(29,CZ),(78,AQ)] (gs SR (gs CY g0)) rfl (fun _ _=>rfl) fun O x=>by kernel_rfl
theorem YG:zya 106 EC:=vt mix Pz EA [(114,Hl),(115,JB),(116,GU),(117,Ey),(118,Gt),(119,Ft),(120,Fh),(121,Gn),(122,Dc),(123,Fc),(124,D5),(125,EE),(126,Ek),(127,Ep)] (gs gE (gs ib (gs dA (gs ZX (gs dh (gs Z7 (gs cG (gs dr (gs Wy (gs cR (gs X9 (gs X7 (gs ZC (gs ZT g0)))))))))))))) rfl (fun _ _=>rfl) fun O x=>by kernel_rfl
theorem Zk:zya 107 DR:=vt mix RW HQ [(71,BJ),(128,BI),(129,Ck)] (gs MB (gs MJ (gs Vc g0))) rfl (fun _ _=>rfl) fun O x=>by kernel_rfl
theorem eA:zya 98 Gc:=vt mix UM Jm [(64,C8),(71,BJ),(78,AQ),(105,FQ),(106,EC),(107,DR)] (gs Vw (gs MB (gs CY (gs cp (gs YG (gs Zk g0)))))) rfl (fun _ _=>rfl) fun O x=>by kernel_rfl
theorem jy:zya 54 Lw:=vt mix XV L3 [(63,C7),(64,C8),(65,Hr),(72,C9),(79,BK),(83,Bu),(84,Fa),(96,Fx),(97,GZ),(98,Gc),(99,Bk),(108,B3)] (gs Vs (gs Vw (gs fq (gs Vq (gs Kb (gs O1 (gs Z8 (gs cT (gs dC (gs eA (gs Oo (gs Pi g0)))))))))))) rfl (fun _ _=>rfl) fun O x=>by kernel_rfl
def bJ:Cfg:={ gam:=[⟨54,[],true,true,[],[]⟩],imm:=false,old:=false }
theorem kS (O:Alg) (x:Ags O):XF (O:=O) Tryz.prog bJ (CI.ow ⟨38,[],false,false,[],[]⟩) false [] 38 [] (xr x Un 0)=MK O x:=by kernel_rfl
theorem mb {E:Env} {M:Nat} (N:Nat) (h:∀ ls,E 38 [] ls=M2 N ls):VV Tryz.prog E M ⟨38,[],false,false,[],[]⟩ :=
 ET mix (E:=Gu N) (N:=N) (cfg:=bJ) (ci:=⟨38,[],false,false,[],[]⟩) (ks:=Un) (Bs (jy N (fun _=>rfl)) Jn) (c:=M2 N) (F:=fun ls=>MK (std (Gu N) N) (xOf ls)) (fun ls=>rfl) (fun ls=>kS (std (Gu N) N) (xOf ls)) h
theorem cN:zya 39 IL:=vt mix Ss IP [(55,B4)] (gs Pb g0) rfl (fun _ _=>rfl) fun O x=>by kernel_rfl
def cV:Cfg:={ gam:=[⟨37,[],true,true,[],[]⟩,⟨38,[],false,false,[],[]⟩,⟨39,[],true,true,[],[]⟩],imm:=false,old:=true,ie:=[84,33,35,115,43,77,92,70,5,182,3,4,165,178,61,111,222] }
theorem kr (O:Alg) (x:Ags O):XF (O:=O) Tryz.prog cV (CI.ow ⟨28,[],true,false,[],[84,33,35,115,43,77,92,70,5,182,3,4,165,178,61,111,222]⟩) false [] 28 [] (xr x VO 0)=MS O x:=by kernel_rfl
theorem mt {E:Env} {M:Nat} (N:Nat) (h:∀ ls,E 28 [] ls=Mw N ls):VV Tryz.prog E M ⟨28,[],true,false,[],[84,33,35,115,43,77,92,70,5,182,3,4,165,178,61,111,222]⟩ :=
 ET mix (E:=DV N) (N:=N) (cfg:=cV) (ci:=⟨28,[],true,false,[],[84,33,35,115,43,77,92,70,5,182,3,4,165,178,61,111,222]⟩) (ks:=VO) (Bs (lI N (fun _=>rfl)) (Bs (mb N (fun _=>rfl)) (Bs (cN N (fun _=>rfl)) Jn))) (c:=Mw N) (F:=fun ls=>MS (std (DV N) N) (xOf ls)) (fun ls=>rfl) (fun ls=>kr (std (DV N) N) (xOf ls)) h
def XR:Cfg:={ gam:=[⟨28,[],true,false,[],[84,33,35,115,43,77,92,70,5,182,3,4,165,178,61,111,222]⟩],imm:=false,old:=false }
theorem fp (O:Alg) (x:Ags O):XF (O:=O) Tryz.prog XR (CI.ow ⟨17,[],false,false,[],[]⟩) false [] 17 [] (xr x Q9 0)=I1 O x:=by kernel_rfl
theorem kL {E:Env} {M:Nat} (N:Nat) (h:∀ ls,E 17 [] ls=Iz N ls):VV Tryz.prog E M ⟨17,[],false,false,[],[]⟩ :=
 ET mix (E:=EZ N) (N:=N) (cfg:=XR) (ci:=⟨17,[],false,false,[],[]⟩) (ks:=Q9) (Bs (mt N (fun _=>rfl)) Jn) (c:=Iz N) (F:=fun ls=>I1 (std (EZ N) N) (xOf ls)) (fun ls=>rfl) (fun ls=>fp (std (EZ N) N) (xOf ls)) h
theorem dR:zya 18 Js:=vt mix Tk Jj [(29,CZ)] (gs SR g0) rfl (fun _ _=>rfl) fun O x=>by kernel_rfl
def Om:Cfg:={ gam:=[⟨7,[],true,true,[],[]⟩,⟨17,[],false,false,[],[]⟩,⟨18,[],true,true,[],[]⟩],imm:=false,old:=false }
theorem V7 (O:Alg) (x:Ags O):XF (O:=O) Tryz.prog Om (CI.ow ⟨8,[],true,true,[],[]⟩) true [] 8 [] (xr x I3 0)=Dg O x:=by kernel_rfl
theorem WO:zya 8 CL:=fun N h =>
 ET mix (E:=BW N) (N:=N) (cfg:=Om) (ci:=⟨8,[],true,true,[],[]⟩) (ks:=I3) (Bs (Wh N (fun _=>rfl)) (Bs (kL N (fun _=>rfl)) (Bs (dR N (fun _=>rfl)) Jn))) (c:=CL N) (F:=fun ls=>Dg (std (BW N) N) (xOf ls)) (fun ls=>rfl) (fun ls=>V7 (std (BW N) N) (xOf ls)) h
def fL:Cfg:={ gam:=[],imm:=false,old:=false }
theorem mC (O:Alg) (x:Ags O):XF (O:=O) Tryz.prog fL (CI.ow ⟨9,[],false,false,[],[]⟩) false [] 9 [] (xr x Wk 0)=Oi O x:=by kernel_rfl
theorem o5 {E:Env} {M:Nat} (N:Nat) (h:∀ ls,E 9 [] ls=LR N ls):VV Tryz.prog E M ⟨9,[],false,false,[],[]⟩ :=
 ET mix (E:=KN N) (N:=N) (cfg:=fL) (ci:=⟨9,[],false,false,[],[]⟩) (ks:=Wk) Jn (c:=LR N) (F:=fun ls=>Oi (std (KN N) N) (xOf ls)) (fun ls=>rfl) (fun ls=>mC (std (KN N) N) (xOf ls)) h
theorem aY:zya 22 Fn:=vt mix Rv II [] g0 rfl (fun _ _=>rfl) fun O x=>by kernel_rfl
theorem SK:zya 30 Ca:=vt mix SG IG [] g0 rfl (fun _ _=>rfl) fun O x=>by kernel_rfl
theorem gC:zya 33 Dy:=vt mix V0 Kp [(30,Ca)] (gs SK g0) rfl (fun _ _=>rfl) fun O x=>by kernel_rfl
theorem mR:zya 34 HH:=vt mix bX QF [] g0 rfl (fun _ _=>rfl) fun O x=>by kernel_rfl
theorem kU:zya 50 KM:=vt mix Yg OP [] g0 rfl (fun _ _=>rfl) fun O x=>by kernel_rfl
theorem YR:zya 51 D9:=vt mix Ph GO [] g0 rfl (fun _ _=>rfl) fun O x=>by kernel_rfl
theorem km:zya 52 KL:=fun N h =>
 nH Tryz.func52 (T1:=101) (T2:=101) (T4:=4) (W:=103) (A:=2) (B:=101) (R4:=4) rfl rfl Tryz.underlying101 Tryz.underlying101 Tryz.underlying4 (by kernel_rfl) (by kernel_rfl) (by kernel_rfl) (by kernel_rfl) Tryz.underlying4 (by kernel_rfl) mM h
theorem mG:zya 35 MD:=vt mix cC P8 [(50,KM),(51,D9),(52,KL)] (gs kU (gs YR (gs km g0))) rfl (fun _ _=>rfl) fun O x=>by kernel_rfl
theorem VQ:zya 23 CO:=vt mix Mk ER [(33,Dy),(34,HH),(35,MD)] (gs gC (gs mR (gs mG g0))) rfl (fun _ _=>rfl) fun O x=>by kernel_rfl
theorem Ra:zya 11 CJ:=vt mix Rj HO [(22,Fn),(23,CO)] (gs aY (gs VQ g0)) rfl (fun _ _=>rfl) fun O x=>by kernel_rfl
theorem dq:zya 19 Jh:=vt mix Tq Jo [(30,Ca)] (gs SK g0) rfl (fun _ _=>rfl) fun O x=>by kernel_rfl
theorem YB:zya 48 J4:=vt mix PW PP [] g0 rfl (fun _ _=>rfl) fun O x=>by kernel_rfl
theorem YW:zya 49 J3:=vt mix Pv Po [] g0 rfl (fun _ _=>rfl) fun O x=>by kernel_rfl
theorem cF:zya 32 Fj:=vt mix R1 SD [(48,J4),(49,J3)] (gs YB (gs YW g0)) rfl (fun _ _=>rfl) fun O x=>by kernel_rfl
def Tc:Cfg:={ gam:=[⟨11,[],true,true,[],[]⟩,⟨19,[],true,true,[],[]⟩,⟨32,[],true,true,[],[]⟩],imm:=false,old:=false,ie:=[60000,60002],stop:=[41,43,45,42,47,46,44] }
theorem bN (O:Alg) (x:Ags O):XF (O:=O) Tryz.prog Tc (CI.ow ⟨10,[],true,true,[],[]⟩) true [] 10 [] (xr x N4 0)=Gk O x:=by kernel_rfl
theorem eC:zya 10 Gy:=fun N h =>
 ET mix (E:=CE N) (N:=N) (cfg:=Tc) (ci:=⟨10,[],true,true,[],[]⟩) (ks:=N4) (Bs (Ra N (fun _=>rfl)) (Bs (dq N (fun _=>rfl)) (Bs (cF N (fun _=>rfl)) Jn))) (c:=Gy N) (F:=fun ls=>Gk (std (CE N) N) (xOf ls)) (fun ls=>rfl) (fun ls=>bN (std (CE N) N) (xOf ls)) h
def Sg:Cfg:={ gam:=[⟨4,[],true,true,[],[]⟩,⟨5,[],false,false,[],[]⟩,⟨6,[],true,true,[],[]⟩,⟨7,[],true,true,[],[]⟩,⟨8,[],true,true,[],[]⟩,⟨9,[],false,false,[],[]⟩,⟨10,[],true,true,[],[]⟩,⟨11,[],true,true,[],[]⟩],imm:=false,old:=false }
theorem Zi (O:Alg) (x:Ags O):XF (O:=O) Tryz.prog Sg (CI.ow ⟨3,[],true,true,[],[]⟩) true [] 3 [] (xr x MC 0)=Fe O x:=by kernel_rfl
theorem cf:zya 3 Ff:=fun N h =>
 ET mix (E:=A0 N) (N:=N) (cfg:=Sg) (ci:=⟨3,[],true,true,[],[]⟩) (ks:=MC) (Bs (YA N (fun _=>rfl)) (Bs (f9 N (fun _=>rfl)) (Bs (CN N (fun _=>rfl)) (Bs (Wh N (fun _=>rfl)) (Bs (WO N (fun _=>rfl)) (Bs (o5 N (fun _=>rfl)) (Bs (eC N (fun _=>rfl)) (Bs (Ra N (fun _=>rfl)) Jn)))))))) (c:=Ff N) (F:=fun ls=>Fe (std (A0 N) N) (xOf ls)) (fun ls=>rfl) (fun ls=>Zi (std (A0 N) N) (xOf ls)) h
end Go.Px
