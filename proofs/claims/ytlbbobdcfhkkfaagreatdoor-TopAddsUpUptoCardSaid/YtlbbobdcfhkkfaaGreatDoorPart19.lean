/- Part 19. -/
import Derived.Test.YtlbbobdcfhkkfaaGreatDoorPart08
import Derived.Test.YtlbbobdcfhkkfaaGreatDoorProg
import Derived.Test.YtlbbobdcfhkkfaaGreatDoorPart11
import Derived.KernelRfl
import Derived.WalkKit
import Derived.Lib.Walk
import Derived.BigCall
import Derived.BigGuard
import Derived.Test.YtlbbobdcfhkkfaaGreatDoorPart18
set_option linter.unusedVariables false
set_option linter.unusedSimpArgs false
namespace Go.Px
open Go.Proofs
set_option maxRecDepth 100000
abbrev zzp:=Vd Tryz.prog
theorem mix:Tryz.prog.follows .mixedOrders=true:=by kernel_rfl
theorem pi:zzp 41 MS:=vt mix cf QT [] g0 rfl (fun _ _=>rfl) fun O x=>by kernel_rfl
theorem Uo:zzp 56 DM:=vt mix Ul VW [] g0 rfl (fun _ _=>rfl) fun O x=>by kernel_rfl
theorem gQ:zzp 42 HP:=vt mix VC KS [(56,DM)] (gs Uo g0) rfl (fun _ _=>rfl) fun O x=>by kernel_rfl
theorem jV:zzp 43 Ib:=vt mix Wi Ll [(56,DM)] (gs Uo g0) rfl (fun _ _=>rfl) fun O x=>by kernel_rfl
theorem De:zzp 32 Ab:=vt mix Yd Mj [(41,MS),(42,HP),(43,Ib)] (gs pi (gs gQ (gs jV g0))) rfl (fun _ _=>rfl) fun O x=>by kernel_rfl
theorem Xl:zzp 48 Dw:=fun N h =>
 QS mix (T:=22) (e:=132) (b:=24) Tryz.func48 Tryz.underlying22 (by kernel_rfl) (by decide) (fun O l=>by kernel_rfl) (fun O l=>by kernel_rfl) h
theorem Yc:zzp 38 D3:=vt mix Yf M1 [(48,Dw)] (gs Xl g0) rfl (fun _ _=>rfl) fun O x=>by kernel_rfl
theorem qT:zzp 29 QV:=vt mix cH Qa [(32,Ab),(38,D3)] (gs De (gs Yc g0)) rfl (fun _ _=>rfl) fun O x=>by kernel_rfl
theorem FE:zzp 90 Az:=vt mix Rz R1 [] g0 rfl (fun _ _=>rfl) fun O x=>by kernel_rfl
theorem cB:zzp 91 FM:=vt mix Rr Hm [(90,Az)] (gs FE g0) rfl (fun _ _=>rfl) fun O x=>by kernel_rfl
theorem aI:zzp 114 Ea:=vt mix Q5 G4 [] g0 rfl (fun _ _=>rfl) fun O x=>by kernel_rfl
theorem Hx:zzp 105 A4:=vt mix Na E3 [(114,Ea)] (gs aI g0) rfl (fun _ _=>rfl) fun O x=>by kernel_rfl
theorem ZG:zzp 92 EM:=vt mix PO GG [(90,Az),(105,A4)] (gs FE (gs Hx g0)) rfl (fun _ _=>rfl) fun O x=>by kernel_rfl
theorem ZA:zzp 107 EI:=vt mix PT GP [(90,Az)] (gs FE g0) rfl (fun _ _=>rfl) fun O x=>by kernel_rfl
theorem bu:zzp 93 FK:=vt mix Ry Hl [(107,EI)] (gs ZA g0) rfl (fun _ _=>rfl) fun O x=>by kernel_rfl
theorem Od:zzp 72 Bm:=vt mix Uv J6 [(32,Ab),(90,Az),(91,FM),(92,EM),(93,FK)] (gs De (gs FE (gs cB (gs ZG (gs bu g0))))) rfl (fun _ _=>rfl) fun O x=>by kernel_rfl
theorem Mh:zzp 79 Bl:=vt mix Yq Mg [] g0 rfl (fun _ _=>rfl) fun O x=>by kernel_rfl
theorem Yu:zzp 73 D8:=vt mix Ye Mz [(79,Bl)] (gs Mh g0) rfl (fun _ _=>rfl) fun O x=>by kernel_rfl
theorem lX:zzp 74 Jf:=vt mix Yr M2 [] g0 rfl (fun _ _=>rfl) fun O x=>by kernel_rfl
theorem Yw:zzp 49 D5:=vt mix Ys Mx [(32,Ab),(72,Bm),(73,D8),(74,Jf)] (gs De (gs Od (gs Yu (gs lX g0)))) rfl (fun _ _=>rfl) fun O x=>by kernel_rfl
theorem Zy:zzp 86 Ei:=vt mix RD K9 [] g0 rfl (fun _ _=>rfl) fun O x=>by kernel_rfl
theorem TA:zzp 57 Dg:=vt mix Tc I7 [(86,Ei)] (gs Zy g0) rfl (fun _ _=>rfl) fun O x=>by kernel_rfl
theorem jR:zzp 75 IU:=vt mix WZ Lx [] g0 rfl (fun _ _=>rfl) fun O x=>by kernel_rfl
theorem fF:zzp 76 Gh:=vt mix Uu Oo [] g0 rfl (fun _ _=>rfl) fun O x=>by kernel_rfl
open Go.RowKit Go.Lib in
set_option maxHeartbeats 1000000 in
theorem SS (s:ByteArray) (c:Int) (w:World):Calls Tryz.prog 108 #[.string s,.int .u8 c] w fun e w'=>e=.returned (.int .i64 (Lib.indexByte s.data.toList c.toNat.toUInt8))∧w'=w:=by
 go_enter Tryz.func108,Tryz.ntmps108
 go_wp2
 rw [run_callFunc_extern Tryz.func116 (by kernel_rfl) (by kernel_rfl) (by kernel_rfl) (e:=Extern.BytealgIndexByte.indexByte) (by kernel_rfl),Lib.run_indexByteString];simp only [Result.andThen];rw [Oper.upon_value]
 go_wp2
 go_ret
 exact ⟨rfl,rfl⟩
theorem Uf:zzp 108 DH:=fun N h =>
 qd Tryz.func108 (T9:=9) (T5:=5) (T3:=3) rfl rfl Tryz.underlying9 Tryz.underlying5 Tryz.underlying3 (by kernel_rfl) SS h
theorem Y3:zzp 94 EL:=vt mix PQ GO [(108,DH)] (gs Uf g0) rfl (fun _ _=>rfl) fun O x=>by kernel_rfl
theorem lg:zzp 95 Gb:=vt mix Ya Yx [] g0 rfl (fun _ _=>rfl) fun O x=>by kernel_rfl
theorem pD:zzp 77 LC:=vt mix ZP OH [(94,EL),(95,Gb)] (gs Y3 (gs lg g0)) rfl (fun _ _=>rfl) fun O x=>by kernel_rfl
theorem Yy:zzp 50 D6:=vt mix Ym Jl [(57,Dg),(75,IU),(76,Gh),(77,LC)] (gs TA (gs jR (gs fF (gs pD g0)))) rfl (fun _ _=>rfl) fun O x=>by kernel_rfl
theorem Ey:zzp 96 Ae:=fun N h =>
 QS mix (T:=41) (e:=187) (b:=1) Tryz.func96 Tryz.underlying41 (by kernel_rfl) (by decide) (fun O l=>by kernel_rfl) (fun O l=>by kernel_rfl) h
theorem Gk:zzp 97 As:=fun N h =>
 QS mix (T:=42) (e:=3) (b:=8) Tryz.func97 Tryz.underlying42 (by kernel_rfl) (by decide) (fun O l=>by kernel_rfl) (fun O l=>by kernel_rfl) h
theorem GK:zzp 98 Ai:=fun N h =>
 QS mix (T:=43) (e:=4) (b:=1) Tryz.func98 Tryz.underlying43 (by kernel_rfl) (by decide) (fun O l=>by kernel_rfl) (fun O l=>by kernel_rfl) h
theorem DP:zzp 78 Aa:=vt mix Ur KG [(96,Ae),(97,As),(98,Ai)] (gs Ey (gs Gk (gs GK g0))) rfl (fun _ _=>rfl) fun O x=>by kernel_rfl
theorem lU:zzp 51 Jk:=vt mix YW Md [(38,D3),(78,Aa)] (gs Yc (gs DP g0)) rfl (fun _ _=>rfl) fun O x=>by kernel_rfl
theorem Rm:zzp 83 Cd:=vt mix Yk Mw [] g0 rfl (fun _ _=>rfl) fun O x=>by kernel_rfl
theorem Qi:zzp 102 CU:=vt mix Qm G3 [] g0 rfl (fun _ _=>rfl) fun O x=>by kernel_rfl
theorem ek:zzp 84 Gq:=vt mix Uw KM [(49,D5),(79,Bl),(83,Cd),(102,CU)] (gs Yw (gs Mh (gs Rm (gs Qi g0)))) rfl (fun _ _=>rfl) fun O x=>by kernel_rfl
theorem gM:zzp 99 Gw:=vt mix VI KF [(32,Ab),(90,Az)] (gs De (gs FE g0)) rfl (fun _ _=>rfl) fun O x=>by kernel_rfl
theorem jk:zzp 100 IW:=vt mix WV Lm [(79,Bl),(83,Cd)] (gs Mh (gs Rm g0)) rfl (fun _ _=>rfl) fun O x=>by kernel_rfl
theorem bm:zzp 118 FI:=vt mix Rx L2 [] g0 rfl (fun _ _=>rfl) fun O x=>by kernel_rfl
theorem hY:zzp 109 HJ:=vt mix Vp KH [(118,FI)] (gs bm g0) rfl (fun _ _=>rfl) fun O x=>by kernel_rfl
theorem IR:zzp 140 BA:=vt mix ah OU [(96,Ae),(97,As),(98,Ai)] (gs Ey (gs Gk (gs GK g0))) rfl (fun _ _=>rfl) fun O x=>by kernel_rfl
theorem dH:zzp 160 Df:=vt mix Tj NI [] g0 rfl (fun _ _=>rfl) fun O x=>by kernel_rfl
theorem W9:zzp 141 Ck:=vt mix WJ Fi [(160,Df)] (gs dH g0) rfl (fun _ _=>rfl) fun O x=>by kernel_rfl
theorem IG:zzp 142 BC:=vt mix W6 LW [] g0 rfl (fun _ _=>rfl) fun O x=>by kernel_rfl
theorem lS:zzp 119 Jn:=vt mix YS Mf [(140,BA),(141,Ck),(142,BC)] (gs IR (gs W9 (gs IG g0))) rfl (fun _ _=>rfl) fun O x=>by kernel_rfl
theorem Vv:zzp 143 DT:=vt mix cT Qf [(96,Ae),(97,As),(98,Ai)] (gs Ey (gs Gk (gs GK g0))) rfl (fun _ _=>rfl) fun O x=>by kernel_rfl
theorem RU:zzp 161 Cf:=vt mix YQ Mp [] g0 rfl (fun _ _=>rfl) fun O x=>by kernel_rfl
theorem oh:zzp 162 LB:=vt mix Z5 OM [(32,Ab),(161,Cf)] (gs De (gs RU g0)) rfl (fun _ _=>rfl) fun O x=>by kernel_rfl
theorem qV:zzp 144 MQ:=vt mix cj QU [(32,Ab),(105,A4),(161,Cf),(162,LB)] (gs De (gs Hx (gs RU (gs oh g0)))) rfl (fun _ _=>rfl) fun O x=>by kernel_rfl
theorem pL:zzp 120 Kp:=vt mix aH Ou [(143,DT),(144,MQ)] (gs Vv (gs qV g0)) rfl (fun _ _=>rfl) fun O x=>by kernel_rfl
theorem Y4:zzp 85 EH:=vt mix PR GQ [] g0 rfl (fun _ _=>rfl) fun O x=>by kernel_rfl
theorem TR:zzp 54 C7:=vt mix TH JJ [(85,EH)] (gs Y4 g0) rfl (fun _ _=>rfl) fun O x=>by kernel_rfl
theorem ZD:zzp 55 EJ:=vt mix PN GJ [] g0 rfl (fun _ _=>rfl) fun O x=>by kernel_rfl
theorem FF:zzp 40 A6:=vt mix SA Hk [(54,C7),(55,EJ)] (gs TR (gs ZD g0)) rfl (fun _ _=>rfl) fun O x=>by kernel_rfl
theorem UX:zzp 63 C8:=vt mix Tx UC [] g0 rfl (fun _ _=>rfl) fun O x=>by kernel_rfl
theorem OE:zzp 133 Bn:=vt mix Vk E0 [(141,Ck)] (gs W9 g0) rfl (fun _ _=>rfl) fun O x=>by kernel_rfl
theorem Jb:zzp 152 BM:=vt mix YY Me [] g0 rfl (fun _ _=>rfl) fun O x=>by kernel_rfl
theorem I0:zzp 153 BE:=vt mix S1 JE [(152,BM)] (gs Jb g0) rfl (fun _ _=>rfl) fun O x=>by kernel_rfl
theorem gm:zzp 168 Gj:=vt mix VN KJ [] g0 rfl (fun _ _=>rfl) fun O x=>by kernel_rfl
theorem lQ:zzp 163 Jd:=vt mix Yo Mn [(152,BM),(153,BE),(168,Gj)] (gs Jb (gs I0 (gs gm g0))) rfl (fun _ _=>rfl) fun O x=>by kernel_rfl
theorem Rv:zzp 173 CJ:=vt mix R8 R4 [] g0 rfl (fun _ _=>rfl) fun O x=>by kernel_rfl
theorem jQ:zzp 169 Ia:=vt mix XI Lo [(173,CJ)] (gs Rv g0) rfl (fun _ _=>rfl) fun O x=>by kernel_rfl
theorem aZ:zzp 174 Ep:=vt mix RH HA [] g0 rfl (fun _ _=>rfl) fun O x=>by kernel_rfl
theorem Wy:zzp 170 Dk:=vt mix Nb Et [(174,Ep)] (gs aZ g0) rfl (fun _ _=>rfl) fun O x=>by kernel_rfl
theorem aJ:zzp 175 Ej:=vt mix Qj Gm [] g0 rfl (fun _ _=>rfl) fun O x=>by kernel_rfl
theorem dz:zzp 171 F6:=vt mix TX Iv [(173,CJ),(175,Ej)] (gs Rv (gs aJ g0)) rfl (fun _ _=>rfl) fun O x=>by kernel_rfl
theorem V4:zzp 176 DV:=vt mix MU EX [] g0 rfl (fun _ _=>rfl) fun O x=>by kernel_rfl
theorem Xe:zzp 172 Dy:=vt mix N4 FZ [(176,DV)] (gs V4 g0) rfl (fun _ _=>rfl) fun O x=>by kernel_rfl
theorem YH:zzp 164 Dz:=vt mix O4 Fc [(169,Ia),(170,Dk),(171,F6),(172,Dy)] (gs jQ (gs Wy (gs dz (gs Xe g0)))) rfl (fun _ _=>rfl) fun O x=>by kernel_rfl
theorem lR:zzp 165 JR:=vt mix Yv Mi [(152,BM),(153,BE)] (gs Jb (gs I0 g0)) rfl (fun _ _=>rfl) fun O x=>by kernel_rfl
theorem bX:zzp 145 FD:=vt mix Ru Hn [(54,C7),(133,Bn),(163,Jd),(164,Dz),(165,JR)] (gs TR (gs OE (gs lQ (gs YH (gs lR g0))))) rfl (fun _ _=>rfl) fun O x=>by kernel_rfl
theorem mq:zzp 146 Ki:=vt mix Zn O0 [(140,BA),(142,BC)] (gs IR (gs IG g0)) rfl (fun _ _=>rfl) fun O x=>by kernel_rfl
theorem nn:zzp 147 Kl:=vt mix ZL OO [(32,Ab),(105,A4),(143,DT),(161,Cf)] (gs De (gs Hx (gs Vv (gs RU g0)))) rfl (fun _ _=>rfl) fun O x=>by kernel_rfl
theorem fN:zzp 148 HK:=vt mix Vh J3 [(140,BA)] (gs IR g0) rfl (fun _ _=>rfl) fun O x=>by kernel_rfl
theorem jK:zzp 121 H9:=vt mix WM LT [(40,A6),(63,C8),(78,Aa),(145,FD),(146,Ki),(147,Kl),(148,HK)] (gs FF (gs UX (gs DP (gs bX (gs mq (gs nn (gs fN g0))))))) rfl (fun _ _=>rfl) fun O x=>by kernel_rfl
theorem aN:zzp 149 Ek:=vt mix aY OV [(133,Bn),(142,BC)] (gs OE (gs IG g0)) rfl (fun _ _=>rfl) fun O x=>by kernel_rfl
theorem eW:zzp 122 GA:=vt mix S5 I4 [(140,BA),(142,BC),(149,Ek)] (gs IR (gs IG (gs aN g0))) rfl (fun _ _=>rfl) fun O x=>by kernel_rfl
theorem jP:zzp 123 ID:=vt mix WL LY [(140,BA),(149,Ek)] (gs IR (gs aN g0)) rfl (fun _ _=>rfl) fun O x=>by kernel_rfl
theorem Yh:zzp 134 Dd:=vt mix Yl Ga [] g0 rfl (fun _ _=>rfl) fun O x=>by kernel_rfl
theorem fP:zzp 124 Gl:=vt mix Vo J4 [(134,Dd),(140,BA),(142,BC)] (gs Yh (gs IR (gs IG g0))) rfl (fun _ _=>rfl) fun O x=>by kernel_rfl
theorem WC:zzp 151 DS:=vt mix cY Qc [(96,Ae),(97,As),(98,Ai)] (gs Ey (gs Gk (gs GK g0))) rfl (fun _ _=>rfl) fun O x=>by kernel_rfl
theorem f9:zzp 125 HN:=vt mix VF KL [(151,DS)] (gs WC g0) rfl (fun _ _=>rfl) fun O x=>by kernel_rfl
theorem ja:zzp 126 IB:=vt mix WW Li [(151,DS),(152,BM),(153,BE)] (gs WC (gs Jb (gs I0 g0))) rfl (fun _ _=>rfl) fun O x=>by kernel_rfl
theorem Z1:zzp 127 En:=vt mix Q2 G5 [(151,DS),(152,BM),(153,BE)] (gs WC (gs Jb (gs I0 g0))) rfl (fun _ _=>rfl) fun O x=>by kernel_rfl
theorem ga:zzp 128 G1:=vt mix VS KK [(32,Ab),(143,DT)] (gs De (gs Vv g0)) rfl (fun _ _=>rfl) fun O x=>by kernel_rfl
theorem bP:zzp 129 FR:=vt mix SE Hq [(78,Aa)] (gs DP g0) rfl (fun _ _=>rfl) fun O x=>by kernel_rfl
theorem R2:zzp 112 Cs:=vt mix Rp Hs [(78,Aa)] (gs DP g0) rfl (fun _ _=>rfl) fun O x=>by kernel_rfl
theorem bW:zzp 130 FO:=vt mix R6 Hr [(78,Aa),(112,Cs)] (gs DP (gs R2 g0)) rfl (fun _ _=>rfl) fun O x=>by kernel_rfl
theorem ec:zzp 131 F3:=vt mix S9 F9 [(78,Aa)] (gs DP g0) rfl (fun _ _=>rfl) fun O x=>by kernel_rfl
theorem fA:zzp 154 HU:=vt mix Uz U6 [] g0 rfl (fun _ _=>rfl) fun O x=>by kernel_rfl
theorem da:zzp 132 Fn:=vt mix UG Is [(78,Aa),(154,HU)] (gs DP (gs fA g0)) rfl (fun _ _=>rfl) fun O x=>by kernel_rfl
theorem br:zzp 110 FL:=vt mix R7 FT [(119,Jn),(120,Kp),(121,H9),(122,GA),(123,ID),(124,Gl),(125,HN),(126,IB),(127,En),(128,G1),(129,FR),(130,FO),(131,F3),(132,Fn)] (gs lS (gs pL (gs jK (gs eW (gs jP (gs fP (gs f9 (gs ja (gs Z1 (gs ga (gs bP (gs bW (gs ec (gs da g0)))))))))))))) rfl (fun _ _=>rfl) fun O x=>by kernel_rfl
theorem dQ:zzp 111 EN:=vt mix TU I2 [(72,Bm),(133,Bn),(134,Dd)] (gs Od (gs OE (gs Yh g0))) rfl (fun _ _=>rfl) fun O x=>by kernel_rfl
theorem jy:zzp 101 IC:=vt mix We Lh [(50,D6),(72,Bm),(78,Aa),(109,HJ),(110,FL),(111,EN)] (gs Yy (gs Od (gs DP (gs hY (gs br (gs dQ g0)))))) rfl (fun _ _=>rfl) fun O x=>by kernel_rfl
theorem o4:zzp 39 OI:=vt mix ZS Oe [(49,D5),(50,D6),(51,Jk),(73,D8),(79,Bl),(83,Cd),(84,Gq),(99,Gw),(100,IW),(101,IC),(102,CU),(112,Cs)] (gs Yw (gs Yy (gs lU (gs Yu (gs Mh (gs Rm (gs ek (gs gM (gs jk (gs jy (gs Qi (gs R2 g0)))))))))))) rfl (fun _ _=>rfl) fun O x=>by kernel_rfl
def fi:Cfg:={ gam:=[⟨39,[],true,true,[],[]⟩],imm:=false,old:=false }
theorem qS (O:Alg) (x:Ags O):XF (O:=O) Tryz.prog fi (CI.ow ⟨30,[],false,false,[],[]⟩) false [] 30 [] (xr x XT 0)=Ox O x:=by kernel_rfl
theorem tZ {E:Env} {M:Nat} (N:Nat) (h:∀ ls,E 30 [] ls=Oc N ls):VV Tryz.prog E M ⟨30,[],false,false,[],[]⟩ :=
 Cp mix (E:=H8 N) (N:=N) (cfg:=fi) (ci:=⟨30,[],false,false,[],[]⟩) (ks:=XT) (Am (o4 N (fun _=>rfl)) EO) (c:=Oc N) (F:=fun ls=>Ox (std (H8 N) N) (xOf ls)) (fun ls=>rfl) (fun ls=>qS (std (H8 N) N) (xOf ls)) h
theorem ge:zzp 31 KP:=vt mix U5 KI [(40,A6)] (gs FF g0) rfl (fun _ _=>rfl) fun O x=>by kernel_rfl
def gU:Cfg:={ gam:=[⟨29,[],true,true,[],[]⟩,⟨30,[],false,false,[],[]⟩,⟨31,[],true,true,[],[]⟩],imm:=false,old:=true,ie:=[132,86,46,187,3,4,56,58,30,118,129,123,153,161,5,169,183,36,54,242] }
theorem qW (O:Alg) (x:Ags O):XF (O:=O) Tryz.prog gU (CI.ow ⟨14,[],true,false,[],[132,86,46,187,3,4,56,58,30,118,129,123,153,161,5,169,183,36,54,242]⟩) false [] 14 [] (xr x YK 0)=OL O x:=by kernel_rfl
theorem OX {E:Env} {M:Nat} (N:Nat) (h:∀ ls,E 14 [] ls=CY N ls):VV Tryz.prog E M ⟨14,[],true,false,[],[132,86,46,187,3,4,56,58,30,118,129,123,153,161,5,169,183,36,54,242]⟩ :=
 Cp mix (E:=Em N) (N:=N) (cfg:=gU) (ci:=⟨14,[],true,false,[],[132,86,46,187,3,4,56,58,30,118,129,123,153,161,5,169,183,36,54,242]⟩) (ks:=YK) (Am (qT N (fun _=>rfl)) (Am (tZ N (fun _=>rfl)) (Am (ge N (fun _=>rfl)) EO))) (c:=CY N) (F:=fun ls=>OL (std (Em N) N) (xOf ls)) (fun ls=>rfl) (fun ls=>qW (std (Em N) N) (xOf ls)) h
def Z9:Cfg:={ gam:=[⟨14,[],true,false,[],[132,86,46,187,3,4,56,58,30,118,129,123,153,161,5,169,183,36,54,242]⟩],imm:=false,old:=false }
theorem mA (O:Alg) (x:Ags O):XF (O:=O) Tryz.prog Z9 (CI.ow ⟨6,[],false,false,[],[]⟩) false [] 6 [] (xr x T1 0)=Kr O x:=by kernel_rfl
theorem T6 {E:Env} {M:Nat} (N:Nat) (h:∀ ls,E 6 [] ls=DU N ls):VV Tryz.prog E M ⟨6,[],false,false,[],[]⟩ :=
 Cp mix (E:=Fl N) (N:=N) (cfg:=Z9) (ci:=⟨6,[],false,false,[],[]⟩) (ks:=T1) (Am (OX N (fun _=>rfl)) EO) (c:=DU N) (F:=fun ls=>Kr (std (Fl N) N) (xOf ls)) (fun ls=>rfl) (fun ls=>mA (std (Fl N) N) (xOf ls)) h
def cO:Cfg:={ gam:=[⟨6,[],false,false,[],[]⟩,⟨32,[],true,true,[],[]⟩],imm:=false,old:=false }
theorem mh (O:Alg) (x:Ags O):XF (O:=O) Tryz.prog cO (CI.ow ⟨15,[],true,true,[],[]⟩) true [] 15 [] (xr x Vu 0)=MN O x:=by kernel_rfl
theorem Qb:zzp 15 Cm:=fun N h =>
 Cp mix (E:=E4 N) (N:=N) (cfg:=cO) (ci:=⟨15,[],true,true,[],[]⟩) (ks:=Vu) (Am (T6 N (fun _=>rfl)) (Am (De N (fun _=>rfl)) EO)) (c:=Cm N) (F:=fun ls=>MN (std (E4 N) N) (xOf ls)) (fun ls=>rfl) (fun ls=>mh (std (E4 N) N) (xOf ls)) h
theorem IX:zzp 16 BT:=vt mix WK LJ [] g0 rfl (fun _ _=>rfl) fun O x=>by kernel_rfl
theorem eh:zzp 17 KC:=vti mix false false [60000] Um KE [] g0 rfl (fun _ _=>rfl) fun O x=>by kernel_rfl
def JS:Cfg:={ gam:=[],imm:=false,old:=false }
theorem Qo (O:Alg) (x:Ags O):XF (O:=O) Tryz.prog JS (CI.ow ⟨19,[20],true,true,[],[]⟩) true [] 19 [20] (xr x FB 0)=Cg O x:=by kernel_rfl
theorem Re {E:Env} {M:Nat} (N:Nat) (h:∀ ls,E 19 [20] ls=Ch N ls):VV Tryz.prog E M ⟨19,[20],true,true,[],[]⟩ :=
 Cp mix (E:=CM N) (N:=N) (cfg:=JS) (ci:=⟨19,[20],true,true,[],[]⟩) (ks:=FB) EO (c:=Ch N) (F:=fun ls=>Cg (std (CM N) N) (xOf ls)) (fun ls=>rfl) (fun ls=>Qo (std (CM N) N) (xOf ls)) h
theorem Qt:zzp 21 Ed:=vt mix Qu HH [] g0 rfl (fun _ _=>rfl) fun O x=>by kernel_rfl
def WT:Cfg:={ gam:=[⟨14,[],true,false,[],[132,86,46,187,3,4,56,58,30,118,129,123,153,161,5,169,183,36,54,242]⟩,⟨15,[],true,true,[],[]⟩,⟨16,[],true,true,[],[]⟩,⟨17,[],true,true,[],[]⟩,⟨19,[20],true,true,[],[]⟩,⟨21,[],true,true,[],[]⟩],imm:=false,old:=false,ie:=[60000] }
theorem fW (O:Alg) (x:Ags O):XF (O:=O) Tryz.prog WT (CI.ow ⟨7,[],true,true,[],[]⟩) true [] 7 [] (xr x Pl 0)=IA O x:=by kernel_rfl
theorem XG:zzp 7 DF:=fun N h =>
 Cp mix (E:=Bs N) (N:=N) (cfg:=WT) (ci:=⟨7,[],true,true,[],[]⟩) (ks:=Pl) (Am (OX N (fun _=>rfl)) (Am (Qb N (fun _=>rfl)) (Am (IX N (fun _=>rfl)) (Am (eh N (fun _=>rfl)) (Am (Re N (fun _=>rfl)) (Am (Qt N (fun _=>rfl)) EO)))))) (c:=DF N) (F:=fun ls=>IA (std (Bs N) N) (xOf ls)) (fun ls=>rfl) (fun ls=>fW (std (Bs N) N) (xOf ls)) h
theorem dP:zzp 26 JN:=vt mix UL Ix [] g0 rfl (fun _ _=>rfl) fun O x=>by kernel_rfl
def SG:Cfg:={ gam:=[⟨14,[],true,false,[],[132,86,46,187,3,4,56,58,30,118,129,123,153,161,5,169,183,36,54,242]⟩,⟨15,[],true,true,[],[]⟩,⟨16,[],true,true,[],[]⟩,⟨26,[],true,true,[],[]⟩],imm:=false,old:=false,ie:=[60001] }
theorem Zw (O:Alg) (x:Ags O):XF (O:=O) Tryz.prog SG (CI.ow ⟨8,[],true,true,[],[]⟩) true [] 8 [] (xr x L3 0)=FH O x:=by kernel_rfl
theorem SF:zzp 8 CG:=fun N h =>
 Cp mix (E:=Bw N) (N:=N) (cfg:=SG) (ci:=⟨8,[],true,true,[],[]⟩) (ks:=L3) (Am (OX N (fun _=>rfl)) (Am (Qb N (fun _=>rfl)) (Am (IX N (fun _=>rfl)) (Am (dP N (fun _=>rfl)) EO)))) (c:=CG N) (F:=fun ls=>FH (std (Bw N) N) (xOf ls)) (fun ls=>rfl) (fun ls=>Zw (std (Bw N) N) (xOf ls)) h
theorem cp:zzp 11 HV:=vt mix cN dD [] g0 rfl (fun _ _=>rfl) fun O x=>by kernel_rfl
theorem qN:zzp 27 V1:=vt mix cV cz [] g0 rfl (fun _ _=>rfl) fun O x=>by kernel_rfl
theorem km:zzp 12 Kc:=vt mix kJ lD [(27,V1)] (gs qN g0) rfl (fun _ _=>rfl) fun O x=>by kernel_rfl
theorem bg:zzp 58 MF:=vt mix R5 R9 [] g0 rfl (fun _ _=>rfl) fun O x=>by kernel_rfl
theorem Ts:zzp 59 Fx:=vt mix TO UY [] g0 rfl (fun _ _=>rfl) fun O x=>by kernel_rfl
theorem XP:zzp 113 JK:=fun N h =>
 sF Tryz.func113 (T2:=2) (T3:=3) (T9:=9) rfl rfl Tryz.underlying2 Tryz.underlying3 Tryz.underlying9 (by kernel_rfl) (by kernel_rfl) (fun i h0 hi w ht=>Tryz.internal_strconv_FormatInt_10 i h0 hi w ht) h
theorem Y7:zzp 104 Ju:=vt mix PP PM [(113,JK)] (gs XP g0) rfl (fun _ _=>rfl) fun O x=>by kernel_rfl
theorem Wp:zzp 87 IV:=vt mix XB Wb [(104,Ju)] (gs Y7 g0) rfl (fun _ _=>rfl) fun O x=>by kernel_rfl
theorem bV:zzp 60 L4:=vt mix Rt SB [(59,Fx),(87,IV)] (gs Ts (gs Wp g0)) rfl (fun _ _=>rfl) fun O x=>by kernel_rfl
theorem dN:zzp 44 NO:=vt mix T8 TC [(57,Dg),(58,MF),(59,Fx),(60,L4)] (gs TA (gs bg (gs Ts (gs bV g0)))) rfl (fun _ _=>rfl) fun O x=>by kernel_rfl
def XD:Cfg:={ gam:=[⟨14,[],true,false,[],[132,86,46,187,3,4,56,58,30,118,129,123,153,161,5,169,183,36,54,242]⟩,⟨15,[],true,true,[],[]⟩,⟨44,[],true,true,[],[]⟩],imm:=false,old:=false }
theorem et (O:Alg) (x:Ags O):XF (O:=O) Tryz.prog XD (CI.ow ⟨36,[],true,true,[],[]⟩) true [] 36 [] (xr x Ps 0)=Hv O x:=by kernel_rfl
theorem jE:zzp 36 ET:=fun N h =>
 Cp mix (E:=C4 N) (N:=N) (cfg:=XD) (ci:=⟨36,[],true,true,[],[]⟩) (ks:=Ps) (Am (OX N (fun _=>rfl)) (Am (Qb N (fun _=>rfl)) (Am (dN N (fun _=>rfl)) EO))) (c:=ET N) (F:=fun ls=>Hv (std (C4 N) N) (xOf ls)) (fun ls=>rfl) (fun ls=>et (std (C4 N) N) (xOf ls)) h
theorem lT:zzp 88 JZ:=vt mix Yz Mo [] g0 rfl (fun _ _=>rfl) fun O x=>by kernel_rfl
theorem lL:zzp 61 Ja:=vt mix Y1 Mu [(16,BT),(88,JZ)] (gs IX (gs lT g0)) rfl (fun _ _=>rfl) fun O x=>by kernel_rfl
theorem qG:zzp 62 MZ:=vt mix dB Qd [] g0 rfl (fun _ _=>rfl) fun O x=>by kernel_rfl
theorem pj:zzp 64 Jr:=vt mix cG QX [] g0 rfl (fun _ _=>rfl) fun O x=>by kernel_rfl
theorem ib:zzp 45 Id:=vt mix Wu LR [(15,Cm),(16,BT),(40,A6),(61,Ja),(62,MZ),(63,C8),(64,Jr)] (gs Qb (gs IX (gs FF (gs lL (gs qG (gs UX (gs pj g0))))))) rfl (fun _ _=>rfl) fun O x=>by kernel_rfl
theorem bp:zzp 65 L5:=vt mix Rw SI [(40,A6)] (gs FF g0) rfl (fun _ _=>rfl) fun O x=>by kernel_rfl
theorem TD:zzp 89 Fp:=vt mix Th Tw [(87,IV)] (gs Wp g0) rfl (fun _ _=>rfl) fun O x=>by kernel_rfl
theorem V3:zzp 66 HW:=vt mix Mc MJ [(89,Fp)] (gs TD g0) rfl (fun _ _=>rfl) fun O x=>by kernel_rfl
theorem gn:zzp 46 OA:=vt mix VK Uy [(65,L5),(66,HW)] (gs bp (gs V3 g0)) rfl (fun _ _=>rfl) fun O x=>by kernel_rfl
def Hy:Cfg:={ gam:=[],imm:=false,old:=false }
theorem PI (O:Alg) (x:Ags O):XF (O:=O) Tryz.prog Hy (CI.ow ⟨35,[70],true,true,[],[]⟩) true [] 35 [70] (xr x ER 0)=EP O x:=by kernel_rfl
theorem QG {E:Env} {M:Nat} (N:Nat) (h:∀ ls,E 35 [70] ls=EV N ls):VV Tryz.prog E M ⟨35,[70],true,true,[],[]⟩ :=
 Cp mix (E:=Cx N) (N:=N) (cfg:=Hy) (ci:=⟨35,[70],true,true,[],[]⟩) (ks:=ER) EO (c:=EV N) (F:=fun ls=>EP (std (Cx N) N) (xOf ls)) (fun ls=>rfl) (fun ls=>PI (std (Cx N) N) (xOf ls)) h
def LF:Cfg:={ gam:=[],imm:=false,old:=false }
theorem Sh (O:Alg) (x:Ags O):XF (O:=O) Tryz.prog LF (CI.ow ⟨68,[69],true,true,[],[]⟩) true [] 68 [69] (xr x Fo 0)=Fz O x:=by kernel_rfl
theorem TW {E:Env} {M:Nat} (N:Nat) (h:∀ ls,E 68 [69] ls=Fm N ls):VV Tryz.prog E M ⟨68,[69],true,true,[],[]⟩ :=
 Cp mix (E:=Da N) (N:=N) (cfg:=LF) (ci:=⟨68,[69],true,true,[],[]⟩) (ks:=Fo) EO (c:=Fm N) (F:=fun ls=>Fz (std (Da N) N) (xOf ls)) (fun ls=>rfl) (fun ls=>Sh (std (Da N) N) (xOf ls)) h
theorem f8:zzp 71 VT:=vt mix Vn Vg [(40,A6),(89,Fp)] (gs FF (gs TD g0)) rfl (fun _ _=>rfl) fun O x=>by kernel_rfl
def S6:Cfg:={ gam:=[⟨21,[],true,true,[],[]⟩,⟨35,[70],true,true,[],[]⟩,⟨68,[69],true,true,[],[]⟩,⟨71,[],true,true,[],[]⟩],imm:=false,old:=false,ie:=[60000] }
theorem bQ (O:Alg) (x:Ags O):XF (O:=O) Tryz.prog S6 (CI.ow ⟨47,[],true,true,[],[]⟩) true [] 47 [] (xr x M5 0)=NM O x:=by kernel_rfl
theorem dT:zzp 47 JA:=fun N h =>
 Cp mix (E:=Gi N) (N:=N) (cfg:=S6) (ci:=⟨47,[],true,true,[],[]⟩) (ks:=M5) (Am (Qt N (fun _=>rfl)) (Am (QG N (fun _=>rfl)) (Am (TW N (fun _=>rfl)) (Am (f8 N (fun _=>rfl)) EO)))) (c:=JA N) (F:=fun ls=>NM (std (Gi N) N) (xOf ls)) (fun ls=>rfl) (fun ls=>bQ (std (Gi N) N) (xOf ls)) h
def Vl:Cfg:={ gam:=[⟨14,[],true,false,[],[132,86,46,187,3,4,56,58,30,118,129,123,153,161,5,169,183,36,54,242]⟩,⟨16,[],true,true,[],[]⟩,⟨45,[],true,true,[],[]⟩,⟨46,[],true,true,[],[]⟩,⟨47,[],true,true,[],[]⟩],imm:=false,old:=false }
theorem ee (O:Alg) (x:Ags O):XF (O:=O) Tryz.prog Vl (CI.ow ⟨37,[],true,true,[],[]⟩) true [] 37 [] (xr x OZ 0)=Gz O x:=by kernel_rfl
theorem fR:zzp 37 Du:=fun N h =>
 Cp mix (E:=B1 N) (N:=N) (cfg:=Vl) (ci:=⟨37,[],true,true,[],[]⟩) (ks:=OZ) (Am (OX N (fun _=>rfl)) (Am (IX N (fun _=>rfl)) (Am (ib N (fun _=>rfl)) (Am (gn N (fun _=>rfl)) (Am (dT N (fun _=>rfl)) EO))))) (c:=Du N) (F:=fun ls=>Gz (std (B1 N) N) (xOf ls)) (fun ls=>rfl) (fun ls=>ee (std (B1 N) N) (xOf ls)) h
theorem ji:zzp 28 H1:=vt mix Wl Lk [(36,ET),(37,Du)] (gs jE (gs fR g0)) rfl (fun _ _=>rfl) fun O x=>by kernel_rfl
def VU:Cfg:={ gam:=[⟨6,[],false,false,[],[]⟩,⟨11,[],true,true,[],[]⟩,⟨12,[],true,true,[],[]⟩,⟨28,[],true,true,[],[]⟩],imm:=false,old:=false }
theorem eY (O:Alg) (x:Ags O):XF (O:=O) Tryz.prog VU (CI.ow ⟨13,[],true,true,[],[]⟩) true [] 13 [] (xr x Of 0)=Gn O x:=by kernel_rfl
theorem hZ:zzp 13 E2:=fun N h =>
 Cp mix (E:=CH N) (N:=N) (cfg:=VU) (ci:=⟨13,[],true,true,[],[]⟩) (ks:=Of) (Am (T6 N (fun _=>rfl)) (Am (cp N (fun _=>rfl)) (Am (km N (fun _=>rfl)) (Am (ji N (fun _=>rfl)) EO)))) (c:=E2 N) (F:=fun ls=>Gn (std (CH N) N) (xOf ls)) (fun ls=>rfl) (fun ls=>eY (std (CH N) N) (xOf ls)) h
theorem fX:zzp 4 Gg:=vt mix Ve J0 [(7,DF),(8,CG),(11,HV),(12,Kc),(13,E2)] (gs XG (gs SF (gs cp (gs km (gs hZ g0))))) rfl (fun _ _=>rfl) fun O x=>by kernel_rfl
def YZ:Cfg:={ gam:=[],imm:=false,old:=false }
theorem jf (O:Alg) (x:Ags O):XF (O:=O) Tryz.prog YZ (CI.ow ⟨5,[],false,false,[],[]⟩) false [] 5 [] (xr x Rk 0)=Jc O x:=by kernel_rfl
theorem lY {E:Env} {M:Nat} (N:Nat) (h:∀ ls,E 5 [] ls=Jm N ls):VV Tryz.prog E M ⟨5,[],false,false,[],[]⟩ :=
 Cp mix (E:=HG N) (N:=N) (cfg:=YZ) (ci:=⟨5,[],false,false,[],[]⟩) (ks:=Rk) EO (c:=Jm N) (F:=fun ls=>Jc (std (HG N) N) (xOf ls)) (fun ls=>rfl) (fun ls=>jf (std (HG N) N) (xOf ls)) h
theorem gS:zzp 9 G0:=vt mix U2 J7 [] g0 rfl (fun _ _=>rfl) fun O x=>by kernel_rfl
theorem hP:zzp 10 HM:=vt mix VB J5 [] g0 rfl (fun _ _=>rfl) fun O x=>by kernel_rfl
def Vb:Cfg:={ gam:=[⟨4,[],true,true,[],[]⟩,⟨5,[],false,false,[],[]⟩,⟨6,[],false,false,[],[]⟩,⟨7,[],true,true,[],[]⟩,⟨8,[],true,true,[],[]⟩,⟨9,[],true,true,[],[]⟩,⟨10,[],true,true,[],[]⟩],imm:=false,old:=false }
theorem dc (O:Alg) (x:Ags O):XF (O:=O) Tryz.prog Vb (CI.ow ⟨3,[],true,true,[],[]⟩) true [] 3 [] (xr x Oq 0)=G2 O x:=by kernel_rfl
theorem gb:zzp 3 HR:=fun N h =>
 Cp mix (E:=BU N) (N:=N) (cfg:=Vb) (ci:=⟨3,[],true,true,[],[]⟩) (ks:=Oq) (Am (fX N (fun _=>rfl)) (Am (lY N (fun _=>rfl)) (Am (T6 N (fun _=>rfl)) (Am (XG N (fun _=>rfl)) (Am (SF N (fun _=>rfl)) (Am (gS N (fun _=>rfl)) (Am (hP N (fun _=>rfl)) EO))))))) (c:=HR N) (F:=fun ls=>G2 (std (BU N) N) (xOf ls)) (fun ls=>rfl) (fun ls=>dc (std (BU N) N) (xOf ls)) h
end Go.Px
