/- Part 14. -/
import Derived.Test.YtfelmmkjeicgoaaGreatDoorPart07
import Derived.Test.YtfelmmkjeicgoaaGreatDoorProg
import Derived.Test.YtfelmmkjeicgoaaGreatDoorPart09
import Derived.KernelRfl
import Derived.WalkKit
import Derived.Lib.Walk
import Derived.BigCall
import Derived.BigGuard
import Derived.Test.YtfelmmkjeicgoaaGreatDoorPart13
set_option linter.unusedVariables false
set_option linter.unusedSimpArgs false
namespace Go.Px
open Go.Proofs
set_option maxRecDepth 100000
theorem mix:Tryz.prog.follows .mixedOrders=true:=by kernel_rfl
theorem Va:Vd Tryz.prog 36 FJ:=vt mix QD HU [] g0 rfl (fun _ _=>rfl) fun O x=>by kernel_rfl
theorem KZ:Vd Tryz.prog 61 Ba:=vt mix J7 Ks [] g0 rfl (fun _ _=>rfl) fun O x=>by kernel_rfl
theorem RW:Vd Tryz.prog 37 Ct:=vt mix KH EI [(61,Ba)] (gs KZ g0) rfl (fun _ _=>rfl) fun O x=>by kernel_rfl
theorem S5:Vd Tryz.prog 38 DH:=vt mix LL Eo [(61,Ba)] (gs KZ g0) rfl (fun _ _=>rfl) fun O x=>by kernel_rfl
theorem Bu:Vd Tryz.prog 17 AY:=vt mix M6 FW [(36,FJ),(37,Ct),(38,DH)] (gs Va (gs RW (gs S5 g0))) rfl (fun _ _=>rfl) fun O x=>by kernel_rfl
theorem CN:Vd Tryz.prog 39 AX:=vt mix IQ Ic [] g0 rfl (fun _ _=>rfl) fun O x=>by kernel_rfl
theorem Po:Vd Tryz.prog 40 CM:=vt mix Ii C5 [(39,AX)] (gs CN g0) rfl (fun _ _=>rfl) fun O x=>by kernel_rfl
theorem Ov:Vd Tryz.prog 83 B7:=vt mix Hg Cm [] g0 rfl (fun _ _=>rfl) fun O x=>by kernel_rfl
theorem DM:Vd Tryz.prog 62 Ai:=vt mix F4 CE [(83,B7)] (gs Ov g0) rfl (fun _ _=>rfl) fun O x=>by kernel_rfl
theorem Nk:Vd Tryz.prog 41 B1:=vt mix G1 Cf [(39,AX),(62,Ai)] (gs CN (gs DM g0)) rfl (fun _ _=>rfl) fun O x=>by kernel_rfl
theorem Na:Vd Tryz.prog 64 B0:=vt mix Gu Ce [(39,AX)] (gs CN g0) rfl (fun _ _=>rfl) fun O x=>by kernel_rfl
theorem Pn:Vd Tryz.prog 42 CO:=vt mix Ib C3 [(64,B0)] (gs Na g0) rfl (fun _ _=>rfl) fun O x=>by kernel_rfl
theorem GG:Vd Tryz.prog 18 BA:=vt mix Kl EA [(17,AY),(39,AX),(40,CM),(41,B1),(42,CO)] (gs Bu (gs CN (gs Po (gs Nk (gs Pn g0))))) rfl (fun _ _=>rfl) fun O x=>by kernel_rfl
theorem FU:Vd Tryz.prog 25 A5:=vt mix NA FM [] g0 rfl (fun _ _=>rfl) fun O x=>by kernel_rfl
theorem H7:Vd Tryz.prog 19 BP:=vt mix M7 FT [(25,A5)] (gs FU g0) rfl (fun _ _=>rfl) fun O x=>by kernel_rfl
theorem Tm:Vd Tryz.prog 20 Dq:=vt mix NF FK [] g0 rfl (fun _ _=>rfl) fun O x=>by kernel_rfl
theorem Dp:Vd Tryz.prog 6 Ao:=vt mix M1 FR [(17,AY),(18,BA),(19,BP),(20,Dq)] (gs Bu (gs GG (gs H7 (gs Tm g0)))) rfl (fun _ _=>rfl) fun O x=>by kernel_rfl
theorem KM:Vd Tryz.prog 27 Bq:=vt mix J9 Kj [] g0 rfl (fun _ _=>rfl) fun O x=>by kernel_rfl
theorem LU:Vd Tryz.prog 10 B2:=vt mix Lr Ew [(27,Bq)] (gs KM g0) rfl (fun _ _=>rfl) fun O x=>by kernel_rfl
theorem GC:Vd Tryz.prog 44 A1:=vt mix KQ EE [] g0 rfl (fun _ _=>rfl) fun O x=>by kernel_rfl
theorem NN:Vd Tryz.prog 43 Bv:=vt mix ND FV [(44,A1)] (gs GC g0) rfl (fun _ _=>rfl) fun O x=>by kernel_rfl
theorem Wp:Vd Tryz.prog 45 GK:=vt mix Rp Iu [(43,Bv),(44,A1)] (gs NN (gs GC g0)) rfl (fun _ _=>rfl) fun O x=>by kernel_rfl
theorem Ro:Vd Tryz.prog 65 Cw:=fun N h =>
 VT Tryz.func65 (T3:=3) (T9:=9) rfl rfl Tryz.underlying3 Tryz.underlying9 (by kernel_rfl) (by kernel_rfl) (fun i h0 hi w ht=>Tryz.internal_strconv_Itoa i h0 hi w ht) h
theorem SY:Vd Tryz.prog 46 DW:=vt mix Ln Ey [(65,Cw)] (gs Ro g0) rfl (fun _ _=>rfl) fun O x=>by kernel_rfl
theorem U1:Vd Tryz.prog 21 ER:=vt mix O9 GM [(43,Bv),(44,A1),(45,GK),(46,DW)] (gs NN (gs GC (gs Wp (gs SY g0)))) rfl (fun _ _=>rfl) fun O x=>by kernel_rfl
theorem Me:Vd Tryz.prog 85 Bp:=fun N h =>
 WV Tryz.func85 (T2:=2) (T3:=3) (T9:=9) rfl rfl Tryz.underlying2 Tryz.underlying3 Tryz.underlying9 (by kernel_rfl) (by kernel_rfl) (fun i h0 hi w ht=>Tryz.internal_strconv_FormatInt_10 i h0 hi w ht) h
theorem Ne:Vd Tryz.prog 66 Bx:=vt mix Gy Cg [(85,Bp)] (gs Me g0) rfl (fun _ _=>rfl) fun O x=>by kernel_rfl
theorem Sb:Vd Tryz.prog 47 DQ:=vt mix Li Ek [(66,Bx)] (gs Ne g0) rfl (fun _ _=>rfl) fun O x=>by kernel_rfl
theorem Lm:Vd Tryz.prog 22 Bl:=vt mix LQ Ep [(47,DQ)] (gs Sb g0) rfl (fun _ _=>rfl) fun O x=>by kernel_rfl
theorem Sx:Vd Tryz.prog 23 DG:=vt mix Lz Es [(22,Bl)] (gs Lm g0) rfl (fun _ _=>rfl) fun O x=>by kernel_rfl
theorem ST:Vd Tryz.prog 24 DD:=fun N h =>
 Wg Tryz.func24 (T8:=72) (T9:=9) rfl rfl Tryz.underlying72 Tryz.underlying9 (by kernel_rfl) (fun a c sep w=>Tryz.strings_Join_none a c sep w) (fun bk o c xs sep w h1 h2 h3 h4 h5=>Tryz.strings_Join bk o c xs sep w h1 h2 h3 h4 h5) h
theorem PA:Vd Tryz.prog 7 DC:=vt mix N4 GS [(6,Ao),(10,B2),(21,ER),(22,Bl),(23,DG),(24,DD)] (gs Dp (gs LU (gs U1 (gs Lm (gs Sx (gs ST g0)))))) rfl (fun _ _=>rfl) fun O x=>by kernel_rfl
theorem MU:Vd Tryz.prog 52 Dj:=fun N h =>
 HW mix (T:=22) (e:=109) (b:=24) Tryz.func52 Tryz.underlying22 (by kernel_rfl) (by decide) (fun O l=>by kernel_rfl) (fun O l=>by kernel_rfl) h
theorem NG:Vd Tryz.prog 31 Du:=vt mix NT NP [(52,Dj)] (gs MU g0) rfl (fun _ _=>rfl) fun O x=>by kernel_rfl
theorem Vc:Vd Tryz.prog 14 LD:=vt mix P2 QE [(17,AY),(31,Du)] (gs Bu (gs NG g0)) rfl (fun _ _=>rfl) fun O x=>by kernel_rfl
theorem Wv:Vd Tryz.prog 15 Ok:=vt mix TD TQ [] g0 rfl (fun _ _=>rfl) fun O x=>by kernel_rfl
theorem FX:Vd Tryz.prog 12 BF:=vt mix M5 FL [] g0 rfl (fun _ _=>rfl) fun O x=>by kernel_rfl
theorem H2:Vd Tryz.prog 26 BM:=vt mix Hl Cv [] g0 rfl (fun _ _=>rfl) fun O x=>by kernel_rfl
theorem Kf:Vd Tryz.prog 9 B9:=vt mix Ku EK [(6,Ao),(12,BF),(25,A5),(26,BM)] (gs Dp (gs FX (gs FU (gs H2 g0)))) rfl (fun _ _=>rfl) fun O x=>by kernel_rfl
theorem SX:Vd Tryz.prog 53 G9:=vt mix Ls L5 [] g0 rfl (fun _ _=>rfl) fun O x=>by kernel_rfl
theorem R4:Vd Tryz.prog 54 Gc:=vt mix Ki Kr [] g0 rfl (fun _ _=>rfl) fun O x=>by kernel_rfl
open Go.RowKit Go.Lib in
set_option maxHeartbeats 1000000 in
theorem I0 (s:ByteArray) (c:Int) (w:World):Calls Tryz.prog 69 #[.string s,.int .u8 c] w fun e w'=>e=.returned (.int .i64 (Lib.indexByte s.data.toList c.toNat.toUInt8))∧w'=w:=by
 go_enter Tryz.func69,Tryz.ntmps69
 go_wp2
 rw [run_callFunc_extern Tryz.func88 (by kernel_rfl) (by kernel_rfl) (by kernel_rfl) (e:=Extern.BytealgIndexByte.indexByte) (by kernel_rfl),Lib.run_indexByteString];simp only [Result.andThen];rw [Oper.upon_value]
 go_wp2
 go_ret
 exact ⟨rfl,rfl⟩
theorem J0:Vd Tryz.prog 69 Ci:=fun N h =>
 VS Tryz.func69 (T9:=9) (T5:=5) (T3:=3) rfl rfl Tryz.underlying9 Tryz.underlying5 Tryz.underlying3 (by kernel_rfl) I0 h
theorem Ni:Vd Tryz.prog 73 D6:=vt mix G0 Gz [(69,Ci)] (gs J0 g0) rfl (fun _ _=>rfl) fun O x=>by kernel_rfl
theorem Th:Vd Tryz.prog 74 H9:=vt mix NM M0 [] g0 rfl (fun _ _=>rfl) fun O x=>by kernel_rfl
theorem VC:Vd Tryz.prog 55 JE:=vt mix Oq Nx [(73,D6),(74,H9)] (gs Ni (gs Th g0)) rfl (fun _ _=>rfl) fun O x=>by kernel_rfl
theorem PB:Vd Tryz.prog 75 Ec:=vt mix Hn H3 [] g0 rfl (fun _ _=>rfl) fun O x=>by kernel_rfl
theorem Qd:Vd Tryz.prog 56 Fk:=vt mix JV Ji [(75,Ec)] (gs PB g0) rfl (fun _ _=>rfl) fun O x=>by kernel_rfl
theorem NC:Vd Tryz.prog 32 Dv:=vt mix Mv M9 [(53,G9),(54,Gc),(55,JE),(56,Fk)] (gs SX (gs R4 (gs VC (gs Qd g0)))) rfl (fun _ _=>rfl) fun O x=>by kernel_rfl
theorem CD:Vd Tryz.prog 76 Ak:=fun N h =>
 HW mix (T:=46) (e:=116) (b:=1) Tryz.func76 Tryz.underlying46 (by kernel_rfl) (by decide) (fun O l=>by kernel_rfl) (fun O l=>by kernel_rfl) h
theorem Cr:Vd Tryz.prog 77 A2:=fun N h =>
 HW mix (T:=47) (e:=3) (b:=8) Tryz.func77 Tryz.underlying47 (by kernel_rfl) (by decide) (fun O l=>by kernel_rfl) (fun O l=>by kernel_rfl) h
theorem Cc:Vd Tryz.prog 78 Ay:=fun N h =>
 HW mix (T:=48) (e:=4) (b:=1) Tryz.func78 Tryz.underlying48 (by kernel_rfl) (by decide) (fun O l=>by kernel_rfl) (fun O l=>by kernel_rfl) h
theorem Bd:Vd Tryz.prog 57 AZ:=vt mix Kb Kh [(76,Ak),(77,A2),(78,Ay)] (gs CD (gs Cr (gs Cc g0))) rfl (fun _ _=>rfl) fun O x=>by kernel_rfl
theorem Tg:Vd Tryz.prog 33 ID:=vt mix Mx NB [(31,Du),(57,AZ)] (gs NG (gs Bd g0)) rfl (fun _ _=>rfl) fun O x=>by kernel_rfl
theorem RE:Vd Tryz.prog 79 Gj:=vt mix Kt J8 [(17,AY),(39,AX)] (gs Bu (gs CN g0)) rfl (fun _ _=>rfl) fun O x=>by kernel_rfl
theorem Sv:Vd Tryz.prog 80 HC:=vt mix LN L2 [(12,BF),(25,A5)] (gs FX (gs FU g0)) rfl (fun _ _=>rfl) fun O x=>by kernel_rfl
theorem PY:Vd Tryz.prog 99 E5:=vt mix Ih IY [] g0 rfl (fun _ _=>rfl) fun O x=>by kernel_rfl
theorem RS:Vd Tryz.prog 90 GU:=vt mix KK KV [(99,E5)] (gs PY g0) rfl (fun _ _=>rfl) fun O x=>by kernel_rfl
theorem DE:Vd Tryz.prog 122 A8:=vt mix OE Nw [(76,Ak),(77,A2),(78,Ay)] (gs CD (gs Cr (gs Cc g0))) rfl (fun _ _=>rfl) fun O x=>by kernel_rfl
theorem QY:Vd Tryz.prog 140 Fh:=vt mix JR Jb [] g0 rfl (fun _ _=>rfl) fun O x=>by kernel_rfl
theorem MA:Vd Tryz.prog 123 DN:=vt mix Lg Le [(140,Fh)] (gs QY g0) rfl (fun _ _=>rfl) fun O x=>by kernel_rfl
theorem DA:Vd Tryz.prog 124 A6:=vt mix Lq LW [] g0 rfl (fun _ _=>rfl) fun O x=>by kernel_rfl
theorem Tv:Vd Tryz.prog 100 IA:=vt mix My M3 [(122,A8),(123,DN),(124,A6)] (gs DE (gs MA (gs DA g0))) rfl (fun _ _=>rfl) fun O x=>by kernel_rfl
theorem LE:Vd Tryz.prog 125 Cy:=vt mix QH P3 [(76,Ak),(77,A2),(78,Ay)] (gs CD (gs Cr (gs Cc g0))) rfl (fun _ _=>rfl) fun O x=>by kernel_rfl
theorem H6:Vd Tryz.prog 141 CK:=vt mix Mp Mr [] g0 rfl (fun _ _=>rfl) fun O x=>by kernel_rfl
theorem VI:Vd Tryz.prog 142 JC:=vt mix Og PD [(17,AY),(141,CK)] (gs Bu (gs H6 g0)) rfl (fun _ _=>rfl) fun O x=>by kernel_rfl
theorem VU:Vd Tryz.prog 126 K5:=vt mix QO QR [(17,AY),(62,Ai),(141,CK),(142,JC)] (gs Bu (gs DM (gs H6 (gs VI g0)))) rfl (fun _ _=>rfl) fun O x=>by kernel_rfl
theorem U9:Vd Tryz.prog 101 JP:=vt mix OZ Of [(125,Cy),(126,K5)] (gs LE (gs VU g0)) rfl (fun _ _=>rfl) fun O x=>by kernel_rfl
theorem GJ:Vd Tryz.prog 114 Bm:=vt mix KO KR [(123,DN)] (gs MA g0) rfl (fun _ _=>rfl) fun O x=>by kernel_rfl
theorem Dt:Vd Tryz.prog 136 BE:=vt mix M4 Mt [] g0 rfl (fun _ _=>rfl) fun O x=>by kernel_rfl
theorem Dd:Vd Tryz.prog 137 BC:=vt mix JG JU [(136,BE)] (gs Dt g0) rfl (fun _ _=>rfl) fun O x=>by kernel_rfl
theorem SC:Vd Tryz.prog 148 Gb:=vt mix KB Kp [] g0 rfl (fun _ _=>rfl) fun O x=>by kernel_rfl
theorem Tq:Vd Tryz.prog 143 IE:=vt mix Mu NQ [(136,BE),(137,BC),(148,Gb)] (gs Dt (gs Dd (gs SC g0))) rfl (fun _ _=>rfl) fun O x=>by kernel_rfl
theorem Nh:Vd Tryz.prog 149 D5:=vt mix Gv Gw [] g0 rfl (fun _ _=>rfl) fun O x=>by kernel_rfl
theorem Jr:Vd Tryz.prog 144 CZ:=vt mix Jw Jf [(149,D5)] (gs Nh g0) rfl (fun _ _=>rfl) fun O x=>by kernel_rfl
theorem Id:Vd Tryz.prog 154 CR:=vt mix IV Il [] g0 rfl (fun _ _=>rfl) fun O x=>by kernel_rfl
theorem Sg:Vd Tryz.prog 150 HE:=vt mix ME L7 [(154,CR)] (gs Id g0) rfl (fun _ _=>rfl) fun O x=>by kernel_rfl
theorem O4:Vd Tryz.prog 155 Ef:=vt mix Hj Hw [] g0 rfl (fun _ _=>rfl) fun O x=>by kernel_rfl
theorem LV:Vd Tryz.prog 151 DB:=vt mix F2 F3 [(155,Ef)] (gs O4 g0) rfl (fun _ _=>rfl) fun O x=>by kernel_rfl
theorem Oa:Vd Tryz.prog 156 Ea:=vt mix Hz Ho [] g0 rfl (fun _ _=>rfl) fun O x=>by kernel_rfl
theorem Q5:Vd Tryz.prog 152 Fg:=vt mix Jk Jc [(154,CR),(156,Ea)] (gs Id (gs Oa g0)) rfl (fun _ _=>rfl) fun O x=>by kernel_rfl
theorem LA:Vd Tryz.prog 157 Cz:=vt mix FI FE [] g0 rfl (fun _ _=>rfl) fun O x=>by kernel_rfl
theorem MI:Vd Tryz.prog 153 De:=vt mix GF Gp [(157,Cz)] (gs LA g0) rfl (fun _ _=>rfl) fun O x=>by kernel_rfl
theorem MZ:Vd Tryz.prog 145 Dg:=vt mix Ge Gf [(150,HE),(151,DB),(152,Fg),(153,De)] (gs Sg (gs LV (gs Q5 (gs MI g0)))) rfl (fun _ _=>rfl) fun O x=>by kernel_rfl
theorem Tk:Vd Tryz.prog 146 H8:=vt mix NR NL [(136,BE),(137,BC)] (gs Dt (gs Dd g0)) rfl (fun _ _=>rfl) fun O x=>by kernel_rfl
theorem Pi:Vd Tryz.prog 127 E4:=vt mix Ik IZ [(114,Bm),(143,IE),(144,CZ),(145,Dg),(146,H8)] (gs GJ (gs Tq (gs Jr (gs MZ (gs Tk g0))))) rfl (fun _ _=>rfl) fun O x=>by kernel_rfl
theorem NW:Vd Tryz.prog 147 D7:=vt mix Gx G2 [] g0 rfl (fun _ _=>rfl) fun O x=>by kernel_rfl
theorem Pa:Vd Tryz.prog 128 E1:=vt mix IW IL [(144,CZ),(147,D7)] (gs Jr (gs NW g0)) rfl (fun _ _=>rfl) fun O x=>by kernel_rfl
theorem UQ:Vd Tryz.prog 129 JY:=vt mix O7 N3 [(122,A8),(124,A6)] (gs DE (gs DA g0)) rfl (fun _ _=>rfl) fun O x=>by kernel_rfl
theorem Qj:Vd Tryz.prog 130 Fb:=vt mix Jy Ju [] g0 rfl (fun _ _=>rfl) fun O x=>by kernel_rfl
theorem VL:Vd Tryz.prog 131 Jp:=vt mix Nv Np [(17,AY),(62,Ai),(125,Cy),(141,CK)] (gs Bu (gs DM (gs LE (gs H6 g0)))) rfl (fun _ _=>rfl) fun O x=>by kernel_rfl
theorem R8:Vd Tryz.prog 132 GX:=vt mix Kv KU [(122,A8)] (gs DE g0) rfl (fun _ _=>rfl) fun O x=>by kernel_rfl
theorem Sr:Vd Tryz.prog 102 G4:=vt mix L6 Lo [(57,AZ),(127,E4),(128,E1),(129,JY),(130,Fb),(131,Jp),(132,GX)] (gs Bd (gs Pi (gs Pa (gs UQ (gs Qj (gs VL (gs R8 g0))))))) rfl (fun _ _=>rfl) fun O x=>by kernel_rfl
theorem Nr:Vd Tryz.prog 133 Eb:=vt mix OV OL [(114,Bm),(124,A6)] (gs GJ (gs DA g0)) rfl (fun _ _=>rfl) fun O x=>by kernel_rfl
theorem Q7:Vd Tryz.prog 103 Ff:=vt mix Jm Ja [(122,A8),(124,A6),(133,Eb)] (gs DE (gs DA (gs Nr g0))) rfl (fun _ _=>rfl) fun O x=>by kernel_rfl
theorem SL:Vd Tryz.prog 104 HH:=vt mix Lu L3 [(122,A8),(133,Eb)] (gs DE (gs Nr g0)) rfl (fun _ _=>rfl) fun O x=>by kernel_rfl
theorem Mz:Vd Tryz.prog 115 Dm:=vt mix M8 NK [] g0 rfl (fun _ _=>rfl) fun O x=>by kernel_rfl
theorem RU:Vd Tryz.prog 105 GQ:=vt mix Kw Ko [(115,Dm),(122,A8),(124,A6)] (gs Mz (gs DE (gs DA g0))) rfl (fun _ _=>rfl) fun O x=>by kernel_rfl
theorem K8:Vd Tryz.prog 135 C0:=vt mix P7 QP [(76,Ak),(77,A2),(78,Ay)] (gs CD (gs Cr (gs Cc g0))) rfl (fun _ _=>rfl) fun O x=>by kernel_rfl
theorem RZ:Vd Tryz.prog 106 GR:=vt mix J6 KC [(135,C0)] (gs K8 g0) rfl (fun _ _=>rfl) fun O x=>by kernel_rfl
theorem SM:Vd Tryz.prog 107 HG:=vt mix Lp Lw [(135,C0),(136,BE),(137,BC)] (gs K8 (gs Dt (gs Dd g0))) rfl (fun _ _=>rfl) fun O x=>by kernel_rfl
theorem N7:Vd Tryz.prog 108 Ee:=vt mix H0 H5 [(135,C0),(136,BE),(137,BC)] (gs K8 (gs Dt (gs Dd g0))) rfl (fun _ _=>rfl) fun O x=>by kernel_rfl
theorem Rg:Vd Tryz.prog 109 GP:=vt mix KG Ky [(17,AY),(125,Cy)] (gs Bu (gs LE g0)) rfl (fun _ _=>rfl) fun O x=>by kernel_rfl
theorem Pl:Vd Tryz.prog 110 E0:=vt mix Ia Ie [(57,AZ)] (gs Bd g0) rfl (fun _ _=>rfl) fun O x=>by kernel_rfl
theorem IP:Vd Tryz.prog 93 CP:=vt mix IM Ij [(57,AZ)] (gs Bd g0) rfl (fun _ _=>rfl) fun O x=>by kernel_rfl
theorem Pp:Vd Tryz.prog 111 E7:=vt mix Im IR [(57,AZ),(93,CP)] (gs Bd (gs IP g0)) rfl (fun _ _=>rfl) fun O x=>by kernel_rfl
theorem Qk:Vd Tryz.prog 112 Fu:=vt mix Jh JQ [(57,AZ)] (gs Bd g0) rfl (fun _ _=>rfl) fun O x=>by kernel_rfl
theorem QX:Vd Tryz.prog 113 Fj:=vt mix JL Jv [(27,Bq),(57,AZ)] (gs KM (gs Bd g0)) rfl (fun _ _=>rfl) fun O x=>by kernel_rfl
theorem Pb:Vd Tryz.prog 91 E3:=vt mix IX IK [(100,IA),(101,JP),(102,G4),(103,Ff),(104,HH),(105,GQ),(106,GR),(107,HG),(108,Ee),(109,GP),(110,E0),(111,E7),(112,Fu),(113,Fj)] (gs Tv (gs U9 (gs Sr (gs Q7 (gs SL (gs RU (gs RZ (gs SM (gs N7 (gs Rg (gs Pl (gs Pp (gs Qk (gs QX g0)))))))))))))) rfl (fun _ _=>rfl) fun O x=>by kernel_rfl
theorem QU:Vd Tryz.prog 92 Fd:=vt mix JH I9 [(18,BA),(114,Bm),(115,Dm)] (gs GG (gs GJ (gs Mz g0))) rfl (fun _ _=>rfl) fun O x=>by kernel_rfl
theorem S4:Vd Tryz.prog 81 HI:=vt mix LJ Lk [(18,BA),(32,Dv),(57,AZ),(90,GU),(91,E3),(92,Fd)] (gs GG (gs NC (gs Bd (gs RS (gs Pb (gs QU g0)))))) rfl (fun _ _=>rfl) fun O x=>by kernel_rfl
theorem UP:Vd Tryz.prog 16 Je:=vt mix OY OQ [(6,Ao),(9,B9),(12,BF),(19,BP),(25,A5),(26,BM),(32,Dv),(33,ID),(79,Gj),(80,HC),(81,HI),(93,CP)] (gs Dp (gs Kf (gs FX (gs H7 (gs FU (gs H2 (gs NC (gs Tg (gs RE (gs Sv (gs S4 (gs IP g0)))))))))))) rfl (fun _ _=>rfl) fun O x=>by kernel_rfl
theorem VQ:Vd Tryz.prog 4 E9:=vt mix P8 Pv [(7,DC),(14,LD),(15,Ok),(16,Je)] (gs PA (gs Vc (gs Wv (gs UP g0)))) rfl (fun _ _=>rfl) fun O x=>by kernel_rfl
def TY:Cfg:={ gam:=[],imm:=false,old:=true }
theorem WZ (O:Alg) (x:Ags O):XF (O:=O) Tryz.prog TY (CI.ow ⟨5,[],false,false,[],[]⟩) false [] 5 [] (xr x ON 0)=Hd O x:=by kernel_rfl
theorem Xe {E:Env} {M:Nat} (N:Nat) (h:∀ ls,E 5 [] ls=Hr N ls):VV Tryz.prog E M ⟨5,[],false,false,[],[]⟩ :=
 Oy mix (E:=FG N) (N:=N) (cfg:=TY) (ci:=⟨5,[],false,false,[],[]⟩) (ks:=ON) Vs (c:=Hr N) (F:=fun ls=>Hd (std (FG N) N) (xOf ls)) (fun ls=>rfl) (fun ls=>WZ (std (FG N) N) (xOf ls)) h
theorem R6:Vd Tryz.prog 8 EC:=vt mix Ka EJ [(6,Ao),(19,BP)] (gs Dp (gs H7 g0)) rfl (fun _ _=>rfl) fun O x=>by kernel_rfl
theorem Vj:Vd Tryz.prog 11 Ha:=vt mix P9 QF [] g0 rfl (fun _ _=>rfl) fun O x=>by kernel_rfl
open Go.RowKit Go.Lib in
set_option maxHeartbeats 1000000 in
theorem Pr (s:ByteArray) (c:UInt8) (w:World):Calls Tryz.prog 13 #[.string s,.string ⟨#[c]⟩] w fun e w'=>e=.returned (.int .i64 (Lib.countByte s.data.toList c))∧w'=w:=by
 go_enter Tryz.func13,Tryz.ntmps13
 go_wp2
 rw [run_callFunc_extern Tryz.func29 (by kernel_rfl) (by kernel_rfl) (by kernel_rfl) (e:=Extern.BytealgCount.count) (by kernel_rfl),Lib.run_countString];simp only [Result.andThen];rw [Oper.upon_value]
 go_wp2
 go_ret
 exact ⟨rfl,rfl⟩
theorem SB:Vd Tryz.prog 13 EH:=fun N h =>
 VZ Tryz.func13 (T9:=9) (T3:=3) rfl rfl Tryz.underlying9 Tryz.underlying3 (by kernel_rfl) Pr h
def IU:Cfg:={ gam:=[⟨4,[],true,true,[],[]⟩,⟨5,[],false,false,[],[]⟩,⟨6,[],true,true,[],[]⟩,⟨7,[],true,true,[],[]⟩,⟨8,[],true,true,[],[]⟩,⟨9,[],true,true,[],[]⟩,⟨10,[],true,true,[],[]⟩,⟨11,[],true,true,[],[]⟩,⟨12,[],true,true,[],[]⟩,⟨13,[],true,true,[],[]⟩],imm:=false,old:=false }
theorem Oj (O:Alg) (x:Ags O):XF (O:=O) Tryz.prog IU (CI.ow ⟨3,[],true,true,[],[]⟩) true [] 3 [] (xr x E2 0)=CS O x:=by kernel_rfl
theorem Pk:Vd Tryz.prog 3 CQ:=fun N h =>
 Oy mix (E:=AQ N) (N:=N) (cfg:=IU) (ci:=⟨3,[],true,true,[],[]⟩) (ks:=E2) (C2 (VQ N (fun _=>rfl)) (C2 (Xe N (fun _=>rfl)) (C2 (Dp N (fun _=>rfl)) (C2 (PA N (fun _=>rfl)) (C2 (R6 N (fun _=>rfl)) (C2 (Kf N (fun _=>rfl)) (C2 (LU N (fun _=>rfl)) (C2 (Vj N (fun _=>rfl)) (C2 (FX N (fun _=>rfl)) (C2 (SB N (fun _=>rfl)) Vs)))))))))) (c:=CQ N) (F:=fun ls=>CS (std (AQ N) N) (xOf ls)) (fun ls=>rfl) (fun ls=>Oj (std (AQ N) N) (xOf ls)) h
end Go.Px
