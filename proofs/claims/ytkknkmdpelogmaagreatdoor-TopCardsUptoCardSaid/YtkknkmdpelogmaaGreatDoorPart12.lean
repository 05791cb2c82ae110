/- Part 12. -/
import Derived.Test.YtkknkmdpelogmaaGreatDoorPart11
set_option linter.unusedVariables false
set_option linter.unusedSimpArgs false
variable {s0 s1 s2 s3 s4 s5 s6 s7 s8 s9 s10 s11 s12 s13 s15 s21 s22 s23 s25 s26 s27:Int}
variable {s14 s16 s17 s19 s24:Go.Px.Rows}
variable {r1 r2 r3 r4 r5 r6 r7 r9 r10 r11 r12:Int}
variable {d0 d1 d2 d3 d4 d6 d7 d8 d9 d11:Int}
variable {e0 e1 e2 e3 e5 e6 e7 e8 e9 e10 e11 e13 e14 e15 e16 e18:Int}
section
namespace Go.Px
set_option maxRecDepth 100000
def Ku(v:Int):Bool := !btw v 0 1000000000
def tH(x1 x3 x5 x6 x7 x8 x9 x10 x21 x23 x25 x26:Int):Rows:=[[.int x1],[.int x3],[.int x5],[.int x6],[.int x7],[.int x8],[.int x9],[.int x10],[.int x21],[.int x23],[.int x25],[.int x26]]
section
variable (N:Nat) (L14 L16 L17 L19 L24:Rows) (b18 b20:Bool) (x0 x1 x2 x3 x4 x5 x6 x7 x8 x9 x10 x11 x12 x13 x15 x21 x22 x23 x25 x26 x27:Int)
theorem ep(hN:2097152<N)(hl:L19.length≤1048576):Fm N (lsI L14 L16 L17 L19 L24 b18 b20 x0 x1 x2 x3 x4 x5 x6 x7 x8 x9 x10 x11 x12 x13 x15 x21 x22 x23 x25 x26 x27)=some [.bool (!(Me Ku (tH x1 x3 x5 x6 x7 x8 x9 x10 x21 x23 x25 x26)||Me Ku L19))]:=by
 show IH (std (KJ N) N) (xOf (lsI ..))=_;have e:∀ls,KJ N 123 [] ls=Ec N ls:=fun ls=>rfl
 rw[←vY];simp only[IH,lq9,std,xOf,lsI,PXb,PXc,PXn,AH,tH];generalize hM:([PV.int x1]::[PV.int x3]::[PV.int x5]::[PV.int x6]::[PV.int x7]::[PV.int x8]::[PV.int x9]::[PV.int x10]::[PV.int x21]::[PV.int x23]::[PV.int x25]::[PV.int x26]::L19:Rows)=M;have hM2:M.length≤2097152:=by rw[←hM];simp only[List.length_cons];omega
 rw[Dk (n:=M.length) (by omega) (by omega)];simp only[PXb,PXc,PXn,AH];rw[Option.bind_assoc];refine AQ (DF (len:=M.length) (FM fun i=>Ku (atI M i 0)) ?_ ?_ M.length 0 N (by omega) (by omega)) ?_
 ·intro self;simp only[PXb,PXc,PXn,AH,Aq]
 ·intro i self hi;simp only[PXb,PXc,PXn,AH,BN (show i≤1099511627776 by omega),Ae hi,AM hi,FM,CC,e,Ze,Ku]
  grind
 unfold Me;rw[←Lx];unfold S5;cases Be (FM fun i=>Ku (atI M i 0)) M.length 0<;>rfl
end
def ni(a3 x2:Int):Bool:=cond (a3==0) (x2==0) (btw x2 1 a3)
def eI(s:ByteArray)(a1 a2 a3 a4 a5 a6 a7 a9 a10 a11 a12:Int)(La L14 L16 L17 L19 L24:Rows)(x0 x1 x2 x3 x4 x5 x6 x7 x8 x9 x10 x11 x12 x13 x15 x21 x22 x23 x25 x26 x27:Int):Bool:=
  Oa s a1 a2 a3 a4 a5 a6 a7 a9 a10 a11 a12 La==0&&(btw x0 1 2&&((L14.length:Int)==a1&&((L19.length:Int)==a1&&((L24.length:Int)==a1&&(!iLt 5 x27 &&
    (btw x12 0 a1&&(btw x13 0 a1&&(mK L14 x12 x13 x4&&(btw x15 0 a1&&(btw x22 0 a1&&(Sh L16 a1&&(Sh L17 a1&&(ni a3 x2&&(btw x11 0 (IntKind.i64.wrap (a4-1)) &&
      (!Me Ku (tH x1 x3 x5 x6 x7 x8 x9 x10 x21 x23 x25 x26) && !Me Ku L19)))))))))))))))
theorem AEL{a:Int}(h:0≤a):iLt 0 a = !(a==0):=by
 unfold iLt
 grind
section
variable (N:Nat) (s:ByteArray) (a1 a2 a3 a4 a5 a6 a7 a9 a10 a11 a12:Int) (a8:Bool) (La:Rows) (L14 L16 L17 L19 L24:Rows) (b18 b20:Bool) (x0 x1 x2 x3 x4 x5 x6 x7 x8 x9 x10 x11 x12 x13 x15 x21 x22 x23 x25 x26 x27:Int)
theorem VH(hN:2097152<N)(hs:s.size≤1048576)(h14:L14.length≤1048576)(h16:L16.length≤1048576)(h17:L17.length≤1048576)(h19:L19.length≤1048576):Bl N ([.str s,.int a1,.int a2,.int a3,.int a4,.int a5,.int a6,.int a7,.bool a8,.int a9,.int a10,.int a11,.int a12,.rows La]++lsI L14 L16 L17 L19 L24 b18 b20 x0 x1 x2 x3 x4 x5 x6 x7 x8 x9 x10 x11 x12 x13 x15 x21 x22 x23 x25 x26 x27)=some [.bool (eI s a1 a2 a3 a4 a5 a6 a7 a9 a10 a11 a12 La L14 L16 L17 L19 L24 x0 x1 x2 x3 x4 x5 x6 x7 x8 x9 x10 x11 x12 x13 x15 x21 x22 x23 x25 x26 x27)]:=by
 simp only[lsI,List.cons_append,List.nil_append];show Ke (std (DQ N) N) (xOf _)=_;have e1:∀ls,DQ N 47 [] ls=Ab N ls:=fun ls=>rfl
 have e2:∀ls,DQ N 106 [] ls=Az N ls:=fun ls=>rfl
 have e3:∀ls,DQ N 107 [] ls=Fc N ls:=fun ls=>rfl
 have e4:∀ls,DQ N 108 [] ls=Ea N ls:=fun ls=>rfl
 have e5:∀ls,DQ N 109 [] ls=Fm N ls:=fun ls=>rfl
 have l54:=fE N L14 L16 L17 L19 L24 b18 b20 x0 x1 x2 x3 x4 x5 x6 x7 x8 x9 x10 x11 x12 x13 x15 x21 x22 x23 x25 x26 x27 a1 (by omega) (by omega);have l56:=ep N L14 L16 L17 L19 L24 b18 b20 x0 x1 x2 x3 x4 x5 x6 x7 x8 x9 x10 x11 x12 x13 x15 x21 x22 x23 x25 x26 x27 (by omega) (by omega);simp only[lsI,List.cons_append,List.nil_append]at l54 l56;simp only[Ke,lq9,std,xOf,PXb,PXc,PXn,AH,e1,e2,e3,e4,e5,YV N s _ _ _ _ _ _ _ _ _ _ _ _ _ hN hs,E9,l54,l56,Ph N L16 _ (by omega) (by omega),Ph N L17 _ (by omega) (by omega)];unfold eI ni;cases hc:Oa s a1 a2 a3 a4 a5 a6 a7 a9 a10 a11 a12 La==0<;>try rfl
 cases btw x0 1 2<;>try rfl
 cases h14:(L14.length:Int)==a1<;>try rfl
 cases(L19.length:Int)==a1<;>try rfl
 cases(L24.length:Int)==a1<;>try rfl
 cases iLt 5 x27<;>try rfl
 rw[AE5 L14 x12 x13 x4 a1 (beq_iff_eq.1 h14)];cases btw x12 0 a1<;>try rfl
 cases btw x13 0 a1<;>try rfl
 grind
end
def ABS(v:Bool)(L:Rows)(s n:Int)(x1 x2 x3 x10:Int):Int:=
 cond (!v) 0 (cond (iLt 0 x1&&iLe x1 x3) 3 (cond (J8 L s n&&((Fr L L.length).length:Int)==0) 1 (cond (iLt 0 x2&&iLe x2 x10) 2 0)))
theorem AFo{c:Int}{n:Nat}(hc:0≤c):iRg 0 (cond (iLt c (n:Int)) c (n:Int)) (n:Int)=true:=by
 cases h:iLt c (n:Int)
 ·simp only[cond_false,iRg,decide_eq_true_eq];omega
 simp only[iLt,decide_eq_true_eq]at h;simp only[cond_true,iRg,decide_eq_true_eq];omega
def cut(L:Rows)(c:Int):Rows:=(L.take (cond (iLt c (L.length:Int)) c (L.length:Int)).toNat).drop (0:Int).toNat
section
variable (N:Nat) (s:ByteArray) (a1 a2 a3 a4 a5 a6 a7 a9 a10 a11 a12:Int) (a8:Bool) (La:Rows) (L14 L16 L17 L19 L24:Rows) (b18 b20:Bool) (x0 x1 x2 x3 x4 x5 x6 x7 x8 x9 x10 x11 x12 x13 x15 x21 x22 x23 x25 x26 x27:Int)
theorem gD(hN:2097152<N)(hs:s.size≤1048576)(h14:L14.length≤1048576)(h16:L16.length≤1048576)(h17:L17.length≤1048576)(h19:L19.length≤1048576):Eo N ([.str s,.int a1,.int a2,.int a3,.int a4,.int a5,.int a6,.int a7,.bool a8,.int a9,.int a10,.int a11,.int a12,.rows La]++lsI L14 L16 L17 L19 L24 b18 b20 x0 x1 x2 x3 x4 x5 x6 x7 x8 x9 x10 x11 x12 x13 x15 x21 x22 x23 x25 x26 x27) =
    some [.int (ABS (eI s a1 a2 a3 a4 a5 a6 a7 a9 a10 a11 a12 La L14 L16 L17 L19 L24 x0 x1 x2 x3 x4 x5 x6 x7 x8 x9 x10 x11 x12 x13 x15 x21 x22 x23 x25 x26 x27) L14 x12 x13 x1 x2 x3 x10)]:=by
  simp only[lsI,List.cons_append,List.nil_append];show Ja (std (E3 N) N) (xOf _)=_;have e1:∀ls,E3 N 90 [] ls=Bl N ls:=fun ls=>rfl
  have e2:∀ls,E3 N 149 [] ls=Bp N ls:=fun ls=>rfl
  have e3:∀ls,E3 N 150 [] ls=Df N ls:=fun ls=>rfl
  have l16:=VH N s a1 a2 a3 a4 a5 a6 a7 a9 a10 a11 a12 a8 La L14 L16 L17 L19 L24 b18 b20 x0 x1 x2 x3 x4 x5 x6 x7 x8 x9 x10 x11 x12 x13 x15 x21 x22 x23 x25 x26 x27 hN hs h14 h16 h17 h19;have l61:=jS N L14 L16 L17 L19 L24 b18 b20 x0 x1 x2 x3 x4 x5 x6 x7 x8 x9 x10 x11 x12 x13 x15 x21 x22 x23 x25 x26 x27 (by omega) (by omega);have l62:=oE N L14 L16 L17 L19 L24 b18 b20 x0 x1 x2 x3 x4 x5 x6 x7 x8 x9 x10 x11 x12 x13 x15 x21 x22 x23 x25 x26 x27 (by omega) (by omega);simp only[lsI,List.cons_append,List.nil_append]at l16 l61 l62;simp only[Ja,lq9,std,xOf,PXb,PXc,PXn,AH,e1,e2,e3,l16,l61,l62,ABS]
  grind
end
section
variable (N:Nat) (s:ByteArray) (a1 a2 a3 a4 a5 a6 a7 a9 a10 a11 a12:Int) (a8:Bool) (La:Rows) (L14 L16 L17 L19 L24:Rows) (b18 b20:Bool) (x0 x1 x2 x3 x4 x5 x6 x7 x8 x9 x10 x11 x12 x13 x15 x21 x22 x23 x25 x26 x27:Int)
def Db(a4 x10 x11:Int):Int:=IntKind.i64.wrap (IntKind.i64.wrap (x10*a4)+x11)
end
def B8(r:Rul):Int:=Oa r.name r.side r.innings r.overs r.balls r.quota r.wide r.noball r.newball r.followon r.reviews r.outside r.power
theorem Dl{N:Nat}{r8:Bool}{r0:ByteArray}{r13:Rows}(hN:2097152<N)(hs:r0.size≤1048576):Ab N [.str r0,.int r1,.int r2,.int r3,.int r4,.int r5,.int r6,.int r7,.bool r8,.int r9,.int r10,.int r11,.int r12,.rows r13]=some [.int (B8 (⟨r0,r1,r2,r3,r4,r5,r6,r7,r8,r9,r10,r11,r12,r13⟩:Rul))]:=by
 exact YV N _ _ _ _ _ _ _ _ _ _ _ _ _ _ hN hs
theorem X0{N:Nat}{s18 s20:Bool}(h:Fit s14 s16 s17 s19 s24):DW N [.int s0,.int s1,.int s2,.int s3,.int s4,.int s5,.int s6,.int s7,.int s8,.int s9,.int s10,.int s11,.int s12,.int s13,.rows s14,.int s15,.rows s16,.rows s17,.bool s18,.rows s19,.bool s20,.int s21,.int s22,.int s23,.rows s24,.int s25,.int s26,.int s27]=some [.int s0,.int s1,.int s2,.int s3,.int s4,.int s5,.int s6,.int s7,.int s8,.int s9,.int s10,.int s11,.int s12,.int s13,.rows s14,.int s15,.rows s16,.rows s17,.bool s18,.rows s19,.bool s20,.int s21,.int s22,.int s23,.rows s24,.int s25,.int s26,.int s27]:=by
 show Rk (std (Jx N) N) (xOf _)=_;simp only[Rk,Od,RQ,QR,lq9,std,xOf,PXb,PXc,PXn,PXm,Nat.reduceAdd,Int.reduceBEq,Af,As,Al,CA h.bt (show 1≤4096 by omega),CA h.bw' (show 8≤4096 by omega),CA h.bf (show 8≤4096 by omega),CA h.bd (show 8≤4096 by omega),CA h.sb (show 1≤4096 by omega)]
theorem X8{N:Nat}{s18 s20:Bool}(h:Fit s14 s16 s17 s19 s24):DZ N [.int s0,.int s1,.int s2,.int s3,.int s4,.int s5,.int s6,.int s7,.int s8,.int s9,.int s10,.int s11,.int s12,.int s13,.rows s14,.int s15,.rows s16,.rows s17,.bool s18,.rows s19,.bool s20,.int s21,.int s22,.int s23,.rows s24,.int s25,.int s26,.int s27]=some [.int s0,.int s1,.int s2,.int s3,.int s4,.int s5,.int s6,.int s7,.int s8,.int s9,.int s10,.int s11,.int s12,.int s13,.rows s14,.int s15,.rows s16,.rows s17,.bool s18,.rows s19,.bool s20,.int s21,.int s22,.int s23,.rows s24,.int s25,.int s26,.int s27]:=by
 show Ry (std (Jl N) N) (xOf _)=_;simp only[Ry,Oj,RI,QL,lq9,std,xOf,PXb,PXc,PXn,PXm,Nat.reduceAdd,Int.reduceBEq,Af,As,Al,CA h.bt (show 1≤4096 by omega),CA h.bw' (show 8≤4096 by omega),CA h.bf (show 8≤4096 by omega),CA h.bd (show 8≤4096 by omega),CA h.sb (show 1≤4096 by omega)]
theorem C2{N:Nat}{s18 s20:Bool}(h:Fit s14 s16 s17 s19 s24):Ac N [.int s0,.int s1,.int s2,.int s3,.int s4,.int s5,.int s6,.int s7,.int s8,.int s9,.int s10,.int s11,.int s12,.int s13,.rows s14,.int s15,.rows s16,.rows s17,.bool s18,.rows s19,.bool s20,.int s21,.int s22,.int s23,.rows s24,.int s25,.int s26,.int s27]=some [.int s0,.int s1,.int s2,.int s3,.int s4,.int s5,.int s6,.int s7,.int s8,.int s9,.int s10,.int s11,.int s12,.int s13,.rows s14,.int s15,.rows s16,.rows s17,.bool s18,.rows s19,.bool s20,.int s21,.int s22,.int s23,.rows s24,.int s25,.int s26,.int s27]:=by
 show Kr (std (Fh N) N) (xOf _)=_;simp only[Kr,ME,OD,M6,lq9,std,xOf,PXb,PXc,PXn,PXm,Nat.reduceAdd,Int.reduceBEq,Af,As,Al,CA h.bt (show 1≤4096 by omega),CA h.bw' (show 8≤4096 by omega),CA h.bf (show 8≤4096 by omega),CA h.bd (show 8≤4096 by omega),CA h.sb (show 1≤4096 by omega)]
theorem Sq{N:Nat}{s18 s20:Bool}{p:Int}  : Cm N [.int s0,.int s1,.int s2,.int s3,.int s4,.int s5,.int s6,.int s7,.int s8,.int s9,.int s10,.int s11,.int s12,.int s13,.rows s14,.int s15,.rows s16,.rows s17,.bool s18,.rows s19,.bool s20,.int s21,.int s22,.int s23,.rows s24,.int s25,.int s26,.int s27,.int p]=some [.bool (inR p s19.length)]:=by
 show NU (std (Xc N) N) (xOf _)=_;simp only[NU,lq9,std,xOf,PXb,PXc,PXn,PXm,Nat.reduceAdd,Int.reduceBEq];rfl
theorem Jr{N:Nat}{s18 s20:Bool}{p:Int}  : BT N [.int s0,.int s1,.int s2,.int s3,.int s4,.int s5,.int s6,.int s7,.int s8,.int s9,.int s10,.int s11,.int s12,.int s13,.rows s14,.int s15,.rows s16,.rows s17,.bool s18,.rows s19,.bool s20,.int s21,.int s22,.int s23,.rows s24,.int s25,.int s26,.int s27,.int p]=some [.bool (inR p s24.length)]:=by
 show NJ (std (XM N) N) (xOf _)=_;simp only[NJ,lq9,std,xOf,PXb,PXc,PXn,PXm,Nat.reduceAdd,Int.reduceBEq];rfl
def atB(L:Rows)(i j:Nat):Bool:=pvB (AD L i j)
theorem oT(L:Rows)(i j:Nat):pvB (AD L i j)=atB L i j:=rfl
def NR(s:Inn)(p:Int):Bool:=inR p s.subs.length&&atB s.subs (ix p) 0
theorem JP{N:Nat}{s18 s20:Bool}{p:Int}(h:s24.length≤1048576):BP N [.int s0,.int s1,.int s2,.int s3,.int s4,.int s5,.int s6,.int s7,.int s8,.int s9,.int s10,.int s11,.int s12,.int s13,.rows s14,.int s15,.rows s16,.rows s17,.bool s18,.rows s19,.bool s20,.int s21,.int s22,.int s23,.rows s24,.int s25,.int s26,.int s27,.int p]=some [.bool (NR (⟨s0,s1,s2,s3,s4,s5,s6,s7,s8,s9,s10,s11,s12,s13,s14,s15,s16,s17,s18,s19,s20,s21,s22,s23,s24,s25,s26,s27⟩:Inn) p)]:=by
  show JS (std (LL N) N) (xOf _)=_;generalize hres:(some [.bool (NR (⟨s0,s1,s2,s3,s4,s5,s6,s7,s8,s9,s10,s11,s12,s13,s14,s15,s16,s17,s18,s19,s20,s21,s22,s23,s24,s25,s26,s27⟩:Inn) p)]:Option (List PV))=RR;simp only[JS,RF,lq9,std,xOf,PXb,PXc,PXn,PXm,Nat.reduceAdd,Int.reduceBEq,Jr,AFH h];subst hres;simp only[NR];cases hp:inR p s24.length
  · rfl
  first|rfl|(rw[Nd hp h];rfl)
def yo(x:Int):Int:=cond (iLt x 0) 0 x
def mg(r:Rul)(s:Inn)(p:Int):Int:=
 cond (!inR p s.bowled.length || !(B8 r==0)) 0 (cond (r.quota==0) (-1) (yo (IntKind.i64.wrap (IntKind.i64.wrap (r.quota*r.balls)-yo (atI s.bowled (ix p) 0)))))
theorem rZ{N:Nat}{r8:Bool}{r0:ByteArray}{r13:Rows}{s18 s20:Bool}{p:Int}(h:Fit s14 s16 s17 s19 s24)(hN:2097152<N)(hs:r0.size≤1048576):K2 N [.str r0,.int r1,.int r2,.int r3,.int r4,.int r5,.int r6,.int r7,.bool r8,.int r9,.int r10,.int r11,.int r12,.rows r13,.int s0,.int s1,.int s2,.int s3,.int s4,.int s5,.int s6,.int s7,.int s8,.int s9,.int s10,.int s11,.int s12,.int s13,.rows s14,.int s15,.rows s16,.rows s17,.bool s18,.rows s19,.bool s20,.int s21,.int s22,.int s23,.rows s24,.int s25,.int s26,.int s27,.int p]=some [.int (mg (⟨r0,r1,r2,r3,r4,r5,r6,r7,r8,r9,r10,r11,r12,r13⟩:Rul) (⟨s0,s1,s2,s3,s4,s5,s6,s7,s8,s9,s10,s11,s12,s13,s14,s15,s16,s17,s18,s19,s20,s21,s22,s23,s24,s25,s26,s27⟩:Inn) p)]:=by
 show PU (std (L3 N) N) (xOf _)=_;generalize hres:(some [.int (mg (⟨r0,r1,r2,r3,r4,r5,r6,r7,r8,r9,r10,r11,r12,r13⟩:Rul) (⟨s0,s1,s2,s3,s4,s5,s6,s7,s8,s9,s10,s11,s12,s13,s14,s15,s16,s17,s18,s19,s20,s21,s22,s23,s24,s25,s26,s27⟩:Inn) p)]:Option (List PV))=RR;simp only[PU,WL,V6,lq9,std,xOf,PXb,PXc,PXn,PXm,Nat.reduceAdd,Int.reduceBEq,Dl hN hs,Sq];subst hres;simp only[mg];cases hp:inR p s19.length
 ·rfl
 rw[Nd hp h.bd];cases B8 (⟨r0,r1,r2,r3,r4,r5,r6,r7,r8,r9,r10,r11,r12,r13⟩:Rul)==0<;>cases r5==0<;>rfl
theorem OH{N:Nat}{L:Rows}{v:Int}(hN:2097152<N)(hl:L.length≤1048576):A8 N [.rows L,.int v]=some [.bool (Pt L L.length v)]:=by
 exact NA N L v (by omega) (by omega)
def RO(r:Rul)(s:Inn)(p:Int):Int:=
  cond (!inR p s.bowled.length || !(B8 r==0)) 3 (cond (p==s.keeper||p==s.bowler||NR s p) 7
    (cond (Pt s.before s.before.length p) 8 (cond (!(mg r s p == -1)&&iLt s.inover (IntKind.i64.wrap (r.balls-mg r s p))) 9 0)))
theorem zQ{p:Int}{n m:Nat}(h:inR p n=true):inR p m=iLe p (m:Int):=by
 unfold inR at h⊢
 simp_all
theorem wY{N:Nat}{r8:Bool}{r0:ByteArray}{r13:Rows}{s18 s20:Bool}{p:Int}(h:Fit s14 s16 s17 s19 s24)(hN:2097152<N)(hs:r0.size≤1048576):Mx N [.str r0,.int r1,.int r2,.int r3,.int r4,.int r5,.int r6,.int r7,.bool r8,.int r9,.int r10,.int r11,.int r12,.rows r13,.int s0,.int s1,.int s2,.int s3,.int s4,.int s5,.int s6,.int s7,.int s8,.int s9,.int s10,.int s11,.int s12,.int s13,.rows s14,.int s15,.rows s16,.rows s17,.bool s18,.rows s19,.bool s20,.int s21,.int s22,.int s23,.rows s24,.int s25,.int s26,.int s27,.int p]=some [.int (RO (⟨r0,r1,r2,r3,r4,r5,r6,r7,r8,r9,r10,r11,r12,r13⟩:Rul) (⟨s0,s1,s2,s3,s4,s5,s6,s7,s8,s9,s10,s11,s12,s13,s14,s15,s16,s17,s18,s19,s20,s21,s22,s23,s24,s25,s26,s27⟩:Inn) p)]:=by
 show Rt (std (G3 N) N) (xOf _)=_;generalize hres:(some [.int (RO (⟨r0,r1,r2,r3,r4,r5,r6,r7,r8,r9,r10,r11,r12,r13⟩:Rul) (⟨s0,s1,s2,s3,s4,s5,s6,s7,s8,s9,s10,s11,s12,s13,s14,s15,s16,s17,s18,s19,s20,s21,s22,s23,s24,s25,s26,s27⟩:Inn) p)]:Option (List PV))=RR;simp only[Rt,WX,Ob,WQ,Xy,lq9,std,xOf,PXb,PXc,PXn,PXm,Nat.reduceAdd,Int.reduceBEq,Dl hN hs,Sq,rZ h hN hs,OH hN h.bf];subst hres;simp only[RO,NR];cases hp:inR p s19.length
 ·rfl
 rw[zQ (m:=s24.length) hp];have hq:(!(iLe p (s24.length:Int))||iIn (IntKind.i64.wrap (p-1)) (s24.length:Int))=true:=by
  cases h1:iLe p (s24.length:Int)
  ·rfl
  rw[Nd (by rw[zQ hp];exact h1) h.sb];rfl
 rw[hq];cases B8 (⟨r0,r1,r2,r3,r4,r5,r6,r7,r8,r9,r10,r11,r12,r13⟩:Rul)==0<;>rfl
def aM(r:Rul)(s:Inn)(p:Int):Inn×Int:=(cond (RO r s p==0) { s with bowler:=p } s,RO r s p)
theorem uh{N:Nat}{r8:Bool}{r0:ByteArray}{r13:Rows}{s18 s20:Bool}{p:Int}(h:Fit s14 s16 s17 s19 s24)(hN:2097152<N)(hs:r0.size≤1048576):Lb N [.str r0,.int r1,.int r2,.int r3,.int r4,.int r5,.int r6,.int r7,.bool r8,.int r9,.int r10,.int r11,.int r12,.rows r13,.int s0,.int s1,.int s2,.int s3,.int s4,.int s5,.int s6,.int s7,.int s8,.int s9,.int s10,.int s11,.int s12,.int s13,.rows s14,.int s15,.rows s16,.rows s17,.bool s18,.rows s19,.bool s20,.int s21,.int s22,.int s23,.rows s24,.int s25,.int s26,.int s27,.int p]=some (Bo (aM (⟨r0,r1,r2,r3,r4,r5,r6,r7,r8,r9,r10,r11,r12,r13⟩:Rul) (⟨s0,s1,s2,s3,s4,s5,s6,s7,s8,s9,s10,s11,s12,s13,s14,s15,s16,s17,s18,s19,s20,s21,s22,s23,s24,s25,s26,s27⟩:Inn) p)):=by
 show Pr (std (MM N) N) (xOf _)=_;generalize hres:(some (Bo (aM (⟨r0,r1,r2,r3,r4,r5,r6,r7,r8,r9,r10,r11,r12,r13⟩:Rul) (⟨s0,s1,s2,s3,s4,s5,s6,s7,s8,s9,s10,s11,s12,s13,s14,s15,s16,s17,s18,s19,s20,s21,s22,s23,s24,s25,s26,s27⟩:Inn) p)):Option (List PV))=RR;simp only[Pr,YA,YI,lq9,std,xOf,PXb,PXc,PXn,PXm,Nat.reduceAdd,Int.reduceBEq,X0 h,wY h hN hs];subst hres;simp only[aM];cases RO (⟨r0,r1,r2,r3,r4,r5,r6,r7,r8,r9,r10,r11,r12,r13⟩:Rul) (⟨s0,s1,s2,s3,s4,s5,s6,s7,s8,s9,s10,s11,s12,s13,s14,s15,s16,s17,s18,s19,s20,s21,s22,s23,s24,s25,s26,s27⟩:Inn) p==0<;>rfl
def ACC(x:Inn×Bool):List PV:=[.int x.1.side,.int x.1.target,.int x.1.overs,.int x.1.runs,.int x.1.wickets,.int x.1.wides,.int x.1.noballs,.int x.1.byes,.int x.1.legbyes,.int x.1.pens,.int x.1.complete,.int x.1.inover,.int x.1.striker,.int x.1.other,.rows x.1.batters,.int x.1.bowler,.rows x.1.bowlers,.rows x.1.before,.bool x.1.fresh,.rows x.1.bowled,.bool x.1.freehit,.int x.1.ballage,.int x.1.keeper,.int x.1.outside,.rows x.1.subs,.int x.1.rev1,.int x.1.rev2,.int x.1.ending,.bool x.2]
def inc(x:Int):Int:=IntKind.i64.wrap (x+1)
def BD(r:Rul)(s:Inn)(counts:Bool):Inn×Bool:=
  cond (!inR s.bowler s.bowled.length || !(B8 r==0)) (s,false)
    (let L:=cond (Pt s.bowlers s.bowlers.length s.bowler) s.bowlers (s.bowlers++[[.int s.bowler]])
     let o:=cond counts (inc s.inover) s.inover
     let t:Inn:={ s with bowlers:=L,bowled:=cond counts (Q9 s.bowled s.bowler (inc (atI s.bowled (ix s.bowler) 0))) s.bowled,inover:=o,ballage:=cond counts (inc s.ballage) s.ballage }
     cond (iLt o r.balls) (t,false) ({ t with complete:=inc s.complete,inover:=0,before:=L,bowlers:=[],bowler:=0 },true))
theorem vR{N:Nat}{r8:Bool}{r0:ByteArray}{r13:Rows}{s18 s20:Bool}{b:Bool}(h:Fit s14 s16 s17 s19 s24)(hw:s16.length≤1048575)(hN:2097152<N)(hs:r0.size≤1048576):Ld N [.str r0,.int r1,.int r2,.int r3,.int r4,.int r5,.int r6,.int r7,.bool r8,.int r9,.int r10,.int r11,.int r12,.rows r13,.int s0,.int s1,.int s2,.int s3,.int s4,.int s5,.int s6,.int s7,.int s8,.int s9,.int s10,.int s11,.int s12,.int s13,.rows s14,.int s15,.rows s16,.rows s17,.bool s18,.rows s19,.bool s20,.int s21,.int s22,.int s23,.rows s24,.int s25,.int s26,.int s27,.bool b]=some (ACC (BD (⟨r0,r1,r2,r3,r4,r5,r6,r7,r8,r9,r10,r11,r12,r13⟩:Rul) (⟨s0,s1,s2,s3,s4,s5,s6,s7,s8,s9,s10,s11,s12,s13,s14,s15,s16,s17,s18,s19,s20,s21,s22,s23,s24,s25,s26,s27⟩:Inn) b)):=by
 show O0 (std (F5 N) N) (xOf _)=_;generalize hres:(some (ACC (BD (⟨r0,r1,r2,r3,r4,r5,r6,r7,r8,r9,r10,r11,r12,r13⟩:Rul) (⟨s0,s1,s2,s3,s4,s5,s6,s7,s8,s9,s10,s11,s12,s13,s14,s15,s16,s17,s18,s19,s20,s21,s22,s23,s24,s25,s26,s27⟩:Inn) b)):Option (List PV))=RR;have ha:(s16++[[PV.int s15]]).length≤1048576:=by simp;omega
 simp only[O0,WG,Ns,YL,Vc,lq9,std,xOf,PXb,PXc,PXn,PXm,Nat.reduceAdd,Int.reduceBEq,X0 h,Sq,Dl hN hs,OH hN h.bw',AFN ha (show 8≤4096 by omega)];subst hres;simp only[BD];cases hp:inR s15 s19.length
 ·rfl
 rw[Nd hp h.bd];cases B8 (⟨r0,r1,r2,r3,r4,r5,r6,r7,r8,r9,r10,r11,r12,r13⟩:Rul)==0<;>try rfl
 cases Pt s16 s16.length s15<;>cases b<;>simp only[PXb,PXc,PXn,PXm,Nat.reduceAdd,Int.reduceBEq,inc]
 all_goals first|(cases iLt s11 r4<;>rfl)|(cases iLt (IntKind.i64.wrap (s11+1)) r4<;>rfl)
def N3(r:Rul)(s:Inn):Inn×Int:=
 cond (!(B8 r==0)||r.newball==0||iLt s.ballage (IntKind.i64.wrap (r.newball*r.balls))) (s,22) ({ s with ballage:=0 },0)
theorem lE{N:Nat}{r8:Bool}{r0:ByteArray}{r13:Rows}{s18 s20:Bool}(h:Fit s14 s16 s17 s19 s24)(hN:2097152<N)(hs:r0.size≤1048576):HX N [.str r0,.int r1,.int r2,.int r3,.int r4,.int r5,.int r6,.int r7,.bool r8,.int r9,.int r10,.int r11,.int r12,.rows r13,.int s0,.int s1,.int s2,.int s3,.int s4,.int s5,.int s6,.int s7,.int s8,.int s9,.int s10,.int s11,.int s12,.int s13,.rows s14,.int s15,.rows s16,.rows s17,.bool s18,.rows s19,.bool s20,.int s21,.int s22,.int s23,.rows s24,.int s25,.int s26,.int s27]=some (Bo (N3 (⟨r0,r1,r2,r3,r4,r5,r6,r7,r8,r9,r10,r11,r12,r13⟩:Rul) (⟨s0,s1,s2,s3,s4,s5,s6,s7,s8,s9,s10,s11,s12,s13,s14,s15,s16,s17,s18,s19,s20,s21,s22,s23,s24,s25,s26,s27⟩:Inn))):=by
 show Kg (std (IJ N) N) (xOf _)=_;generalize hres:(some (Bo (N3 (⟨r0,r1,r2,r3,r4,r5,r6,r7,r8,r9,r10,r11,r12,r13⟩:Rul) (⟨s0,s1,s2,s3,s4,s5,s6,s7,s8,s9,s10,s11,s12,s13,s14,s15,s16,s17,s18,s19,s20,s21,s22,s23,s24,s25,s26,s27⟩:Inn))):Option (List PV))=RR;simp only[Kg,Sd,UI,lq9,std,xOf,PXb,PXc,PXn,PXm,Nat.reduceAdd,Int.reduceBEq,X0 h,Dl hN hs];subst hres;simp only[N3];cases(!(B8 (⟨r0,r1,r2,r3,r4,r5,r6,r7,r8,r9,r10,r11,r12,r13⟩:Rul)==0)||r9==0||iLt s21 (IntKind.i64.wrap (r9*r4)))<;>rfl
def tG(r:Rul)(over:Int):Int:=
 match Be (fun i=>cond (iLe (atI r.power i 0) (inc over)&&iLe (inc over) (atI r.power i 1)) (some [.int (atI r.power i 2)]) none) r.power.length 0 with
 |some x=>pvI (AA x 0)
 |none=>r.outside
theorem mi{N:Nat}{r8:Bool}{r0:ByteArray}{r13:Rows}{o:Int}(hN:2097152<N)(h13:r13.length≤1048576):HR N [.str r0,.int r1,.int r2,.int r3,.int r4,.int r5,.int r6,.int r7,.bool r8,.int r9,.int r10,.int r11,.int r12,.rows r13,.int o]=some [.int (tG (⟨r0,r1,r2,r3,r4,r5,r6,r7,r8,r9,r10,r11,r12,r13⟩:Rul) o)]:=by
 show Km (std (To N) N) (xOf _)=_;simp only[Km,lq9,std,xOf,PXb,PXc,PXn,AH];refine AQ (DF (len:=r13.length) (fun i=>cond (iLe (atI r13 i 0) (inc o)&&iLe (inc o) (atI r13 i 1)) (some [.int (atI r13 i 2)]) none) ?_ ?_ r13.length 0 N (by omega) (by omega)) ?_
 ·intro self;simp only[PXb,PXc,PXn,AH,Aq]
 ·intro i self hi;simp only[PXb,PXc,PXn,AH,BN (show i≤1099511627776 by omega),Ae hi,AM hi];cases hq:iLe (atI r13 i 0) (inc o)&&iLe (inc o) (atI r13 i 1)<;>unfold inc atI at hq<;>rw[hq]<;>rfl
 unfold tG;cases Be (fun i=>cond (iLe (atI r13 i 0) (inc o)&&iLe (inc o) (atI r13 i 1)) (some [.int (atI r13 i 2)]) none) r13.length 0<;>rfl
def Qm(s:Inn)(p:Int):Inn×Int:=
 cond (!inR p s.subs.length) (s,3) (cond (NR s p) (s,18) (cond (p==s.bowler||p==s.keeper) (s,17) ({ s with keeper:=p },0)))
theorem ny{N:Nat}{s18 s20:Bool}{p:Int}(h:Fit s14 s16 s17 s19 s24):IL N [.int s0,.int s1,.int s2,.int s3,.int s4,.int s5,.int s6,.int s7,.int s8,.int s9,.int s10,.int s11,.int s12,.int s13,.rows s14,.int s15,.rows s16,.rows s17,.bool s18,.rows s19,.bool s20,.int s21,.int s22,.int s23,.rows s24,.int s25,.int s26,.int s27,.int p]=some (Bo (Qm (⟨s0,s1,s2,s3,s4,s5,s6,s7,s8,s9,s10,s11,s12,s13,s14,s15,s16,s17,s18,s19,s20,s21,s22,s23,s24,s25,s26,s27⟩:Inn) p)):=by
 show MF (std (GF N) N) (xOf _)=_;generalize hres:(some (Bo (Qm (⟨s0,s1,s2,s3,s4,s5,s6,s7,s8,s9,s10,s11,s12,s13,s14,s15,s16,s17,s18,s19,s20,s21,s22,s23,s24,s25,s26,s27⟩:Inn) p)):Option (List PV))=RR;simp only[MF,VK,Sw,QM,lq9,std,xOf,PXb,PXc,PXn,PXm,Nat.reduceAdd,Int.reduceBEq,X8 h,Jr,JP h.sb];subst hres;simp only[Qm];cases inR p s24.length<;>cases NR (⟨s0,s1,s2,s3,s4,s5,s6,s7,s8,s9,s10,s11,s12,s13,s14,s15,s16,s17,s18,s19,s20,s21,s22,s23,s24,s25,s26,s27⟩:Inn) p<;>cases p==s15<;>cases p==s22<;>rfl
def VB(s:Inn)(p:Int)(on:Bool):Inn×Int:=
  cond (!inR p s.subs.length) (s,3) (cond (NR s p==on) (s,18)
    ({ s with subs:=ABU s.subs p on,keeper:=cond (on&&s.keeper==p) 0 s.keeper,bowler:=cond (on&&s.bowler==p) 0 s.bowler },0))
theorem fG{N:Nat}{s18 s20:Bool}{p:Int}{b:Bool}(h:Fit s14 s16 s17 s19 s24):E0 N [.int s0,.int s1,.int s2,.int s3,.int s4,.int s5,.int s6,.int s7,.int s8,.int s9,.int s10,.int s11,.int s12,.int s13,.rows s14,.int s15,.rows s16,.rows s17,.bool s18,.rows s19,.bool s20,.int s21,.int s22,.int s23,.rows s24,.int s25,.int s26,.int s27,.int p,.bool b]=some (Bo (VB (⟨s0,s1,s2,s3,s4,s5,s6,s7,s8,s9,s10,s11,s12,s13,s14,s15,s16,s17,s18,s19,s20,s21,s22,s23,s24,s25,s26,s27⟩:Inn) p b)):=by
 show HB (std (D5 N) N) (xOf _)=_;generalize hres:(some (Bo (VB (⟨s0,s1,s2,s3,s4,s5,s6,s7,s8,s9,s10,s11,s12,s13,s14,s15,s16,s17,s18,s19,s20,s21,s22,s23,s24,s25,s26,s27⟩:Inn) p b)):Option (List PV))=RR;simp only[HB,RG,PO,Mp,lq9,std,xOf,PXb,PXc,PXn,PXm,Nat.reduceAdd,Int.reduceBEq,X8 h,Jr,JP h.sb];subst hres;simp only[VB];cases hp:inR p s24.length<;>try rfl
 rw[Nd hp h.sb];cases NR (⟨s0,s1,s2,s3,s4,s5,s6,s7,s8,s9,s10,s11,s12,s13,s14,s15,s16,s17,s18,s19,s20,s21,s22,s23,s24,s25,s26,s27⟩:Inn) p==b<;>cases b<;>cases s22==p<;>cases s15==p<;>rfl
def Ni(s:Inn)(n:Int):Inn×Int:=
 cond (iLt n 0||iLt (IntKind.i64.wrap ((s.subs.length:Int)-2)) n) (s,16) ({ s with outside:=n },0)
theorem lc{N:Nat}{s18 s20:Bool}{n:Int}(h:Fit s14 s16 s17 s19 s24):He N [.int s0,.int s1,.int s2,.int s3,.int s4,.int s5,.int s6,.int s7,.int s8,.int s9,.int s10,.int s11,.int s12,.int s13,.rows s14,.int s15,.rows s16,.rows s17,.bool s18,.rows s19,.bool s20,.int s21,.int s22,.int s23,.rows s24,.int s25,.int s26,.int s27,.int n]=some (Bo (Ni (⟨s0,s1,s2,s3,s4,s5,s6,s7,s8,s9,s10,s11,s12,s13,s14,s15,s16,s17,s18,s19,s20,s21,s22,s23,s24,s25,s26,s27⟩:Inn) n)):=by
 show Kt (std (Ml N) N) (xOf _)=_;generalize hres:(some (Bo (Ni (⟨s0,s1,s2,s3,s4,s5,s6,s7,s8,s9,s10,s11,s12,s13,s14,s15,s16,s17,s18,s19,s20,s21,s22,s23,s24,s25,s26,s27⟩:Inn) n)):Option (List PV))=RR;simp only[Kt,Tv,lq9,std,xOf,PXb,PXc,PXn,PXm,Nat.reduceAdd,Int.reduceBEq,X8 h];subst hres;simp only[Ni];cases(iLt n 0||iLt (IntKind.i64.wrap ((s24.length:Int)-2)) n)<;>rfl
def ZM(r:Rul)(s:Inn):Int:=
 cond (!inR s.keeper s.subs.length||NR s s.keeper||s.keeper==s.bowler) 17 (cond (iLt (tG r s.complete) s.outside) 16 0)
theorem qw{N:Nat}{r8:Bool}{r0:ByteArray}{r13:Rows}{s18 s20:Bool}(h:Fit s14 s16 s17 s19 s24)(hN:2097152<N)(h13:r13.length≤1048576):Jo N [.str r0,.int r1,.int r2,.int r3,.int r4,.int r5,.int r6,.int r7,.bool r8,.int r9,.int r10,.int r11,.int r12,.rows r13,.int s0,.int s1,.int s2,.int s3,.int s4,.int s5,.int s6,.int s7,.int s8,.int s9,.int s10,.int s11,.int s12,.int s13,.rows s14,.int s15,.rows s16,.rows s17,.bool s18,.rows s19,.bool s20,.int s21,.int s22,.int s23,.rows s24,.int s25,.int s26,.int s27]=some [.int (ZM (⟨r0,r1,r2,r3,r4,r5,r6,r7,r8,r9,r10,r11,r12,r13⟩:Rul) (⟨s0,s1,s2,s3,s4,s5,s6,s7,s8,s9,s10,s11,s12,s13,s14,s15,s16,s17,s18,s19,s20,s21,s22,s23,s24,s25,s26,s27⟩:Inn))]:=by
 show NK (std (HK N) N) (xOf _)=_;generalize hres:(some [.int (ZM (⟨r0,r1,r2,r3,r4,r5,r6,r7,r8,r9,r10,r11,r12,r13⟩:Rul) (⟨s0,s1,s2,s3,s4,s5,s6,s7,s8,s9,s10,s11,s12,s13,s14,s15,s16,s17,s18,s19,s20,s21,s22,s23,s24,s25,s26,s27⟩:Inn))]:Option (List PV))=RR;simp only[NK,Ts,RD,SQ,lq9,std,xOf,PXb,PXc,PXn,PXm,Nat.reduceAdd,Int.reduceBEq,Jr,JP h.sb,mi hN h13];subst hres;simp only[ZM]
 grind
def Yx(s:Inn)(d:Del):Int:=
  cond (iLt 0 d.fielder && !inR d.fielder s.subs.length) 3 (cond (iLt 0 d.fielder && !(d.sub==NR s d.fielder)) 18
    (cond (iLt 0 d.second && !inR d.second s.subs.length) 3 (cond (iLt 0 d.second&&NR s d.second) 18
      (cond (d.how==4 && !(yo d.fielder==s.keeper)) 17 0))))
theorem qk{N:Nat}{s18 s20:Bool}{d5 d10:Bool}(h:Fit s14 s16 s17 s19 s24):J7 N [.int s0,.int s1,.int s2,.int s3,.int s4,.int s5,.int s6,.int s7,.int s8,.int s9,.int s10,.int s11,.int s12,.int s13,.rows s14,.int s15,.rows s16,.rows s17,.bool s18,.rows s19,.bool s20,.int s21,.int s22,.int s23,.rows s24,.int s25,.int s26,.int s27,.int d0,.int d1,.int d2,.int d3,.int d4,.bool d5,.int d6,.int d7,.int d8,.int d9,.bool d10,.int d11]=some [.int (Yx (⟨s0,s1,s2,s3,s4,s5,s6,s7,s8,s9,s10,s11,s12,s13,s14,s15,s16,s17,s18,s19,s20,s21,s22,s23,s24,s25,s26,s27⟩:Inn) (⟨d0,d1,d2,d3,d4,d5,d6,d7,d8,d9,d10,d11⟩:Del))]:=by
 show NN (std (Kf N) N) (xOf _)=_;generalize hres:(some [.int (Yx (⟨s0,s1,s2,s3,s4,s5,s6,s7,s8,s9,s10,s11,s12,s13,s14,s15,s16,s17,s18,s19,s20,s21,s22,s23,s24,s25,s26,s27⟩:Inn) (⟨d0,d1,d2,d3,d4,d5,d6,d7,d8,d9,d10,d11⟩:Del))]:Option (List PV))=RR;simp only[NN,UC,RP,lq9,std,xOf,PXb,PXc,PXn,PXm,Nat.reduceAdd,Int.reduceBEq,Jr,JP h.sb];subst hres;simp only[Yx,yo,AEj]
 grind
structure Cre where
 batter:Int
 wides:Int
 noballs:Int
 byes:Int
 legbyes:Int
 bowler:Int
 counts:Bool
 faced:Bool
 wicket:Bool
 swap:Bool
def Cre.ls(c:Cre):List PV:=[.int c.batter,.int c.wides,.int c.noballs,.int c.byes,.int c.legbyes,.int c.bowler,.bool c.counts,.bool c.faced,.bool c.wicket,.bool c.swap]
def R7(d:Del):Bool:=
  cond (d.type==2) (d.source==0 && !(d.boundary==6)) (cond (d.source==0) (d.runs==0&&d.boundary==0)
    (cond (d.boundary==0) (iLt 0 d.runs) (cond (d.boundary==6) (d.source==1&&d.runs==0) true)))
def D6(d:Del):Int:=
  cond (iLt d.type 1||iLt 3 d.type||iLt 3 d.source||iLt 10 d.how || !btw d.sector 0 8) 11
    (cond (!btw d.runs 0 7 || !btw d.short 0 d.runs||(!(d.boundary==0) && !(d.boundary==4) && !(d.boundary==6))) 12
      (cond (!R7 d) 11 (cond (!(d.sector==0) && !(d.source==1) && !(d.how==2)) 11 (cond (!(d.boundary==0) && !(d.how==0)) 11
        (cond (d.crossed && !(d.how==6) && !(d.how==8)) 11 0)))))
def Rn(d:Del):Bool:=
  cond (d.type==2) (d.source==0 && !(d.boundary==6)) (cond (d.source==0) (d.runs==0&&d.boundary==0)
    (cond (d.source==1) (!(d.boundary==6)||d.runs==0) (!(d.boundary==6)&&(iLt 0 d.runs || !(d.boundary==0)))))
theorem cO{N:Nat}{d5 d10:Bool}  : EZ N [.int d0,.int d1,.int d2,.int d3,.int d4,.bool d5,.int d6,.int d7,.int d8,.int d9,.bool d10,.int d11]=some [.bool (Rn (⟨d0,d1,d2,d3,d4,d5,d6,d7,d8,d9,d10,d11⟩:Del))]:=by
 show Gm (std (OO N) N) (xOf _)=_;generalize hres:(some [.bool (Rn (⟨d0,d1,d2,d3,d4,d5,d6,d7,d8,d9,d10,d11⟩:Del))]:Option (List PV))=RR;simp only[Gm,lq9,std,xOf,PXb,PXc,PXn,PXm,Nat.reduceAdd,Int.reduceBEq];trivial
theorem AF9(x a b:Int):(!btw x a b)=(iLt x a||iLt b x):=by
 unfold btw iLe iLt
 grind
theorem AD4{d:Del}(h:0≤d.runs):(!Rn d || !d.type==2&&d.source==1&&d.runs==0&&d.boundary==0) = !R7 d:=by
 unfold Rn R7;rw[AEL h]
 grind
theorem Vu{N:Nat}{d5 d10:Bool}  : C9 N [.int d0,.int d1,.int d2,.int d3,.int d4,.bool d5,.int d6,.int d7,.int d8,.int d9,.bool d10,.int d11]=some [.int (D6 (⟨d0,d1,d2,d3,d4,d5,d6,d7,d8,d9,d10,d11⟩:Del))]:=by
 show JT (std (Kv N) N) (xOf _)=_;generalize hres:(some [.int (D6 (⟨d0,d1,d2,d3,d4,d5,d6,d7,d8,d9,d10,d11⟩:Del))]:Option (List PV))=RR;simp only[JT,Md,lq9,std,xOf,PXb,PXc,PXn,PXm,Nat.reduceAdd,Int.reduceBEq,cO];subst hres;simp only[D6,AF9,Bool.or_assoc];cases h2:(iLt d2 0||(iLt 7 d2||(iLt d3 0||(iLt d2 d3 || !d4==0 && !d4==4 && !d4==6))))
 ·have h3:0≤d2:=by
   rw[Bool.or_eq_false_iff]at h2;have:=h2.1;simp only[iLt,decide_eq_false_iff_not]at this;omega
  have:=AD4 (d:=(⟨d0,d1,d2,d3,d4,d5,d6,d7,d8,d9,d10,d11⟩:Del)) h3
  simp_all
 rfl
theorem Gd{N:Nat}{a:Int}{b:Int}{c:Int}{d:Int}{e:Int}{x:Int}{p:Bool}{q:Bool}{u:Bool}{v:Bool}  : BB N [.int a,.int b,.int c,.int d,.int e,.int x,.bool p,.bool q,.bool u,.bool v]=some [.int (IntKind.i64.wrap (IntKind.i64.wrap (IntKind.i64.wrap (IntKind.i64.wrap (a+b)+c)+d)+e))]:=by
 rfl
def Bk(c:Cre):Int:=IntKind.i64.wrap (IntKind.i64.wrap (IntKind.i64.wrap (IntKind.i64.wrap (c.batter+c.wides)+c.noballs)+c.byes)+c.legbyes)
def YR(h:Int):Bool:=iLe 1 h&&iLe h 5
theorem cP{N:Nat}{h:Int}  : EX N [.int h]=some [.bool (YR h)]:=by
 show Gk (std (OP N) N) (xOf _)=_;simp only[Gk,lq9,std,xOf,PXb,PXc,PXn,PXm,Nat.reduceAdd,Int.reduceBEq,YR]
def Kb(r:Rul)(d:Del):Cre:=
  let n:=IntKind.i64.wrap (IntKind.i64.wrap (d.runs-d.short)+d.boundary)
  let b:=cond (!(d.type==2)&&d.source==1) n 0
  let w:=cond (d.type==2) (IntKind.i64.wrap (r.wide+n)) 0
  let o:=cond (d.type==3) r.noball 0
  { batter:=b,wides:=w,noballs:=o,byes:=cond (!(d.type==2)&&d.source==2) n 0,legbyes:=cond (!(d.type==2)&&d.source==3) n 0,bowler:=IntKind.i64.wrap (IntKind.i64.wrap (b+w)+o),
    counts:=d.type==1,faced := !(d.type==2),wicket:=YR d.how,swap := !((!(d.runs.tmod 2==0))==d.crossed) }
def AF(r:Rul)(d:Del):Cre:=cond (!(D6 d==0)) ⟨0,0,0,0,0,0,false,false,false,false⟩ (Kb r d)
theorem yb{d:Del}(h:(D6 d==0)=true):0≤d.runs∧d.runs≤7:=by
 unfold D6 at h;cases h1:(iLt d.type 1||iLt 3 d.type||iLt 3 d.source||iLt 10 d.how || !btw d.sector 0 8)
 ·cases h2:(!btw d.runs 0 7 || !btw d.short 0 d.runs||(!(d.boundary==0) && !(d.boundary==4) && !(d.boundary==6)))
  ·rw[Bool.or_eq_false_iff,Bool.or_eq_false_iff]at h2;have:=h2.1.1;simp only[btw,iLe,Bool.not_eq_false',zzk,decide_eq_true_eq]at this;exact this
  simp_all
 simp_all
theorem ADR{n:Int}(h:0≤n∧n≤7)(b:Bool):((cond b (IntKind.i64.wrap (n+1)) n).tmod 2==1) = !((!(n.tmod 2==0))==b):=by
 obtain⟨k,rfl⟩:∃k:Nat,n=k:=⟨n.toNat,by omega⟩;have:k=0∨k=1∨k=2∨k=3∨k=4∨k=5∨k=6∨k=7:=by omega
 rcases this with h|h|h|h|h|h|h|h<;>subst h<;>cases b<;>rfl
theorem Mf{N:Nat}{r8:Bool}{r0:ByteArray}{r13:Rows}{d5 d10:Bool}  : A9 N [.str r0,.int r1,.int r2,.int r3,.int r4,.int r5,.int r6,.int r7,.bool r8,.int r9,.int r10,.int r11,.int r12,.rows r13,.int d0,.int d1,.int d2,.int d3,.int d4,.bool d5,.int d6,.int d7,.int d8,.int d9,.bool d10,.int d11]=some (AF (⟨r0,r1,r2,r3,r4,r5,r6,r7,r8,r9,r10,r11,r12,r13⟩:Rul) (⟨d0,d1,d2,d3,d4,d5,d6,d7,d8,d9,d10,d11⟩:Del)).ls:=by
 show IA (std (Gn N) N) (xOf _)=_;generalize hres:(some (AF (⟨r0,r1,r2,r3,r4,r5,r6,r7,r8,r9,r10,r11,r12,r13⟩:Rul) (⟨d0,d1,d2,d3,d4,d5,d6,d7,d8,d9,d10,d11⟩:Del)).ls:Option (List PV))=RR;simp only[IA,OE,MK,lq9,std,xOf,PXb,PXc,PXn,PXm,Nat.reduceAdd,Int.reduceBEq,Vu,cP];subst hres;simp only[AF,Kb];cases hl:D6 (⟨d0,d1,d2,d3,d4,d5,d6,d7,d8,d9,d10,d11⟩:Del)==0
 ·rfl
 have hs:=ADR (yb hl) d5;simp only at hs;simp only[PXb,PXc,PXn,PXm,Nat.reduceAdd,Int.reduceBEq,hs];cases h0:d0==2<;>cases h3:d0==3<;>cases h1:d1==1<;>cases h2:d1==2<;>cases h4:d1==3<;>first
  |rfl
  |simp_all
  |simp_all
  |simp_all
  |simp_all
def onS(h t:Int):Bool:=
 cond (h==1||h==2||h==3) (t==1) (cond (h==4||h==5) (t==1||t==2) (cond (h==7) (t==1||t==3) (cond (h==6||h==8) (t==1||t==2||t==3) false)))
def ACi(h:Int):Bool:=h==6||h==7||h==8
def Ua(h:Int):Bool:=h==6||h==8
def kd(h:Int):Bool:=h==2||h==4||h==6
def Xj(d:Del)(free:Bool):Int:=
  cond (d.how==0) (cond (!(d.victim==0)) 14 (cond (!(d.fielder==0) || !(d.second==0)||d.sub) 15 0))
    (cond (!onS d.how d.type||free && !ACi d.how) 13 (cond (!Ua d.how&&(!(d.source==0) || !(d.runs==0))) 12
      (cond (!(d.victim==1) && !(d.victim==2&&Ua d.how)) 14
        (cond (kd d.how && !btw d.fielder 1 11 || !kd d.how && !(d.fielder==0)) 15
          (cond (!(d.second==0)&&(!(d.how==6) || !btw d.second 1 11||d.second==d.fielder)) 15
            (cond (d.sub && !(d.how==2) && !(d.how==6)) 18 0))))))
def Dp:Rows:=match CF 0 []with
 |some [.rows l]=>l
 |_=>[]
theorem TZ{N:Nat}:CF N []=some [.rows Dp]:=rfl
theorem je:Dp.length=11:=rfl
theorem eN{N:Nat}{h:Int}{n:ByteArray}{b:Bool}{c:Bool}{d:Bool}{e:Bool}{x:Bool}{t:Int}  : Ey N [.int h,.str n,.bool b,.bool c,.bool d,.bool e,.bool x,.int t]=some [.bool (t==1&&b||t==2&&c||t==3&&d)]:=by
 show HU (std (O1 N) N) (xOf _)=_;simp only[HU,lq9,std,xOf,PXb,PXc,PXn,PXm,Nat.reduceAdd,Int.reduceBEq]
theorem YC{N:Nat}{n:Int}  : Dd N [.int n]=some [.bool (btw n 1 11)]:=by
 show Et (std (K5 N) N) (xOf _)=_;simp only[Et,lq9,std,xOf,PXb,PXc,PXn,PXm,Nat.reduceAdd,Int.reduceBEq];rfl
def xv(i j:Nat):Bool:=pvB (AD Dp i j)
def wOk(t:Int)(free:Bool)(i:Nat):Bool:=
  (t==1&&xv i 2||t==2&&xv i 3||t==3&&xv i 4)&&(!free||atI Dp i 0==6||atI Dp i 0==7||atI Dp i 0==8)
def JL(t:Int)(free:Bool):Nat→Rows
 |0=>[]
 |i+1=>cond (wOk t free i) (JL t free i++[[.int (atI Dp i 0)]]) (JL t free i)
theorem jA(t:Int)(free:Bool):∀i,(JL t free i).length≤i
 |0=>Nat.le_refl _
 |i+1=>by
  have:=jA t free i;unfold JL
  grind
theorem iH{N:Nat}{t:Int}{f:Bool}(hN:2097152<N):GZ N [.int t,.bool f]=some [.rows (JL t f 11)]:=by
 show JY (std (G8 N) N) (xOf _)=_;simp only[JY,Np,M7,lq9,std,xOf,PXb,PXc,PXn,AH,TZ,eN];refine AQ (BC (len:=Dp.length) (fun i=>[.rows (JL t f i),.int (i:Int)]) [.rows (JL t f 11)] ?_ ?_ N (by rw[je];omega)) rfl
 ·intro self;rfl
 intro i self hi;have hi2:i<11:=hi;have h2:(JL t f i++[[PV.int (atI Dp i 0)]]).length≤4194304:=by have:=jA t f i;simp;omega
 simp only[PXb,PXc,AH,BN (show i≤1099511627776 by omega),Ae hi,AM hi,CC,JL,Dk h2 (show 1≤4096 by omega)];unfold wOk xv
 grind
theorem et{N:Nat}{L:Rows}{v:Int}(hN:L.length<N)(hl:L.length≤1048576):E5 N [.rows L,.int v]=some [.int (S5 (fun j=>v==atI L j 0) L.length)]:=by
 show G6 (std (Ot N) N) (xOf _)=_;simp only[G6,lq9,std,xOf,PXb,PXc,PXn,AH];refine AQ (DF (len:=L.length) (FM fun j=>v==atI L j 0) ?_ ?_ L.length 0 N (by omega) (by omega)) ?_
 ·intro self;simp only[PXb,PXc,PXn,AH,Aq]
 ·intro i self hi;simp only[PXb,PXc,PXn,AH,BN (show i≤1099511627776 by omega),Ae hi,AM hi,FM,CC]
  grind
 unfold S5;cases Be (FM fun j=>v==atI L j 0) L.length 0<;>rfl
theorem Ya{N:Nat}{L:Rows}{v:Int}(hN:L.length<N)(hl:L.length≤1048576):Dw N [.rows L,.int v]=some [.bool (Pt L L.length v)]:=by
 show FH (std (Gy N) N) (xOf _)=_;simp only[FH,KH,lq9,std,xOf,PXb,PXc,PXn,AH,et hN hl,Lx,Pt]
theorem ABJ(L:Rows)(v:Int):Pt L L.length v=Me (fun x=>v==x) L:=rfl
theorem AFD(p:Int→Bool)(b:Bool)(L:Rows)(x:Int):Me p (cond b (L++[[.int x]]) L)=(Me p L||(b&&p x)):=by
 cases b
 ·simp
 rw[cond_true,vY,Bool.true_and];congr 1;rw[Q3];simp[AA,pvI]
theorem sG(t:Int)(free:Bool)(p:Int→Bool):∀i,Me p (JL t free i)=CE (fun j=>wOk t free j&&p (atI Dp j 0)) i 0
 |0=>rfl
 |i+1=>by rw[dF,←sG t free p i,JL,AFD,Nat.zero_add]
theorem ACK(t h:Int)(free:Bool):Pt (JL t free 11) (JL t free 11).length h=(onS h t&&(!free||ACi h)):=by
 rw[ABJ,sG];have key:∀j,j<11→atI Dp j 0=j:=by
  trivial
 by_cases hr:0≤h∧h≤10
 ·obtain⟨k,rfl⟩:∃k:Nat,h=k:=⟨h.toNat,by omega⟩;have:k=0∨k=1∨k=2∨k=3∨k=4∨k=5∨k=6∨k=7∨k=8∨k=9∨k=10:=by omega
  rcases this with h|h|h|h|h|h|h|h|h|h|h<;>subst h<;>simp only[CZ,K7,wOk,onS]<;>cases free<;>cases t==1<;>cases t==2<;>cases t==3<;>rfl
 rw[L7.2 fun j _ hj=>by
  grind]
 have e:∀n:Int,0≤n→n≤10→(h==n)=false:=fun n h0 h1=>beq_false_of_ne (by omega)
 unfold onS
 simp_all
def Z3(h:Int):List PV:=match Be (fun i=>cond (atI Dp i 0==h) (some [.int (pvI (AD Dp i 0)),.str (pvS (AD Dp i 1)),.bool (pvB (AD Dp i 2)),.bool (pvB (AD Dp i 3)),.bool (pvB (AD Dp i 4)),.bool (pvB (AD Dp i 5)),.bool (pvB (AD Dp i 6))]) none) 11 0 with
 |some r=>r
 |none=>[.int 0,.str ⟨#[]⟩,.bool false,.bool false,.bool false,.bool false,.bool false]
theorem UD{ans:Nat→Option (List PV)}{r:List PV}:∀(k i:Nat),Be ans k i=some r→∃j,i≤j∧j<i+k∧ans j=some r
 |0,i,h=>by cases h
 |k+1,i,h=>by
  simp only[Be]at h;cases ha:ans i with
  |some x=>grind
  |none=>
   rw[ha]at h;obtain⟨j,h1,h2,h3⟩:=UD k (i+1) h
   grind
theorem ABI(h:Int):∃a b c d e f g,Z3 h=[.int a,.str b,.bool c,.bool d,.bool e,.bool f,.bool g]:=by
 unfold Z3;generalize hf:Be _ 11 0=o;cases o with
 |none=>simp_all
 |some r=>
  obtain⟨j,_,_,h3⟩:=UD _ _ hf
  grind
theorem nf{N:Nat}{h:Int}(hN:2097152<N):Il N [.int h]=some (Z3 h):=by
 show MU (std (Ny N) N) (xOf _)=_;simp only[MU,PG,lq9,std,xOf,PXb,PXc,PXn,AH,TZ];refine AQ (DF (len:=Dp.length) (fun i=>cond (atI Dp i 0==h) (some [.int (pvI (AD Dp i 0)),.str (pvS (AD Dp i 1)),.bool (pvB (AD Dp i 2)),.bool (pvB (AD Dp i 3)),.bool (pvB (AD Dp i 4)),.bool (pvB (AD Dp i 5)),.bool (pvB (AD Dp i 6))]) none) ?_ ?_ Dp.length 0 N (by omega) (by rw[je];omega)) ?_
 ·intro self;rfl
 ·intro i self hi;have hi2:i<11:=hi;simp only[PXb,PXc,PXn,AH,BN (show i≤1099511627776 by omega),Ae hi,AM hi,CC]
  grind
 unfold Z3;rw[je];generalize hf:Be _ 11 0=o;cases o with
 |none=>rfl
 |some r=>
  obtain⟨j,_,_,h3⟩:=UD _ _ hf;cases hb:atI Dp j 0==h
  ·simp_all
  rw[hb]at h3;cases h3;rfl
theorem AAm(h:Int):pvB (AA (Z3 h) 5)=kd h∧pvB (AA (Z3 h) 6)=Ua h:=by
 by_cases hr:0≤h∧h≤10
 ·obtain⟨k,rfl⟩:∃k:Nat,h=k:=⟨h.toNat,by omega⟩;have:k=0∨k=1∨k=2∨k=3∨k=4∨k=5∨k=6∨k=7∨k=8∨k=9∨k=10:=by omega
  rcases this with h|h|h|h|h|h|h|h|h|h|h<;>subst h<;>exact⟨rfl,rfl⟩
 have e:∀n:Int,0≤n→n≤10→(h==n)=false:=fun n h0 h1=>beq_false_of_ne (by omega)
 have key:∀j,j<11→atI Dp j 0=j:=by
  trivial
 unfold Z3;generalize hf:Be _ 11 0=o;cases o with
 |none=>
  unfold kd Ua;rw[e 2 (by omega) (by omega),e 4 (by omega) (by omega),e 6 (by omega) (by omega),e 8 (by omega) (by omega)];trivial
 |some r=>
  obtain⟨j,_,hj,h3⟩:=UD _ _ hf
  grind
def SR(d:Del)(m:Bool):Bool:=
 !(!(m==btw d.fielder 1 11) || !m && !(d.fielder==0))&&(d.second==0||d.how==6&&btw d.second 1 11 && !(d.second==d.fielder))
theorem Zt{N:Nat}{d5 d10:Bool}{a:Int}{n:ByteArray}{b:Bool}{c:Bool}{e:Bool}{f:Bool}{g:Bool}  : ED N [.int d0,.int d1,.int d2,.int d3,.int d4,.bool d5,.int d6,.int d7,.int d8,.int d9,.bool d10,.int d11,.int a,.str n,.bool b,.bool c,.bool e,.bool f,.bool g]=some [.bool (SR (⟨d0,d1,d2,d3,d4,d5,d6,d7,d8,d9,d10,d11⟩:Del) f)]:=by
 show Fy (std (H2 N) N) (xOf _)=_;generalize hres:(some [.bool (SR (⟨d0,d1,d2,d3,d4,d5,d6,d7,d8,d9,d10,d11⟩:Del) f)]:Option (List PV))=RR;simp only[Fy,I1,lq9,std,xOf,PXb,PXc,PXn,PXm,Nat.reduceAdd,Int.reduceBEq,YC];subst hres;simp only[SR];cases d9==0<;>cases d6==6<;>cases f<;>cases btw d8 1 11<;>cases d8==0<;>first|rfl|(cases btw d9 1 11<;>rfl)
theorem AFm{α:Type}(a b:Bool)(x y:α):cond (a||b) x y=cond a x (cond b x y):=by grind
theorem wT(d:Del)(m:Bool):(!SR d m)=((m && !btw d.fielder 1 11 || !m && !(d.fielder==0))||(!(d.second==0)&&(!(d.how==6) || !btw d.second 1 11||d.second==d.fielder))):=by
 unfold SR;cases hb:btw d.fielder 1 11<;>cases hf:d.fielder==0
 ·simp_all
 ·simp_all
 ·simp_all
 rw[beq_iff_eq.1 hf]at hb;trivial
theorem aV{N:Nat}{d5 d10:Bool}{f:Bool}(hN:2097152<N):D7 N [.int d0,.int d1,.int d2,.int d3,.int d4,.bool d5,.int d6,.int d7,.int d8,.int d9,.bool d10,.int d11,.bool f]=some [.int (Xj (⟨d0,d1,d2,d3,d4,d5,d6,d7,d8,d9,d10,d11⟩:Del) f)]:=by
 show Fu (std (Ct N) N) (xOf _)=_;generalize hres:(some [.int (Xj (⟨d0,d1,d2,d3,d4,d5,d6,d7,d8,d9,d10,d11⟩:Del) f)]:Option (List PV))=RR;have hl:=jA d0 f 11;obtain⟨a,b,c,d,e,m,g,hline⟩:=ABI d6;have hbits:=AAm d6;rw[hline]at hbits;have hm:m=kd d6:=hbits.1;have hg:g=Ua d6:=hbits.2;have h1:(JL d0 f 11).length<N:=by omega
 have h2:(JL d0 f 11).length≤1048576:=by omega
 simp only[Fu,Mq,JQ,MP,J5,lq9,std,xOf,PXb,PXc,PXn,PXm,Nat.reduceAdd,Int.reduceBEq,nf hN,hline,iH hN,Ya h1 h2,ACK,Zt,wT];subst hres;simp only[Xj,AFm];rw[hm,hg];unfold Ua
 simp_all
theorem dW{N:Nat}{a:Int}{b:Int}{c:Int}  : E6 N [.int a,.int b,.int c]=some [.bool (btw a b c)]:=by
 show LH (std (P0 N) N) (xOf _)=_;show some [PV.bool (cond (iLe b a) (iLe a c) false)]=_;rw[lK];rfl
theorem ma{N:Nat}{a:Int}{b:Int}{c:Int}  : Hu N [.int a,.int b,.int c]=some [.bool (btw a b c)]:=by
 show PA (std (TP N) N) (xOf _)=_;show some [PV.bool (cond (iLe b a) (iLe a c) false)]=_;rw[lK];rfl
def yN(d:Del):Int:=
  cond (iLt d.type 1||iLt 3 d.type||iLt 3 d.source||iLt 10 d.how) 3
    (cond (!btw d.runs 0 7 || !btw d.short 0 d.runs||(!(d.boundary==0) && !(d.boundary==4) && !(d.boundary==6)) || !btw d.victim 0 2 || !btw d.fielder 0 11 || !btw d.second 0 11 || !btw d.sector 0 8) 2 0)
theorem ig{N:Nat}{d5 d10:Bool}  : Dq N [.int d0,.int d1,.int d2,.int d3,.int d4,.bool d5,.int d6,.int d7,.int d8,.int d9,.bool d10,.int d11]=some [.int (yN (⟨d0,d1,d2,d3,d4,d5,d6,d7,d8,d9,d10,d11⟩:Del))]:=by
 show JE (std (LF N) N) (xOf _)=_;generalize hres:(some [.int (yN (⟨d0,d1,d2,d3,d4,d5,d6,d7,d8,d9,d10,d11⟩:Del))]:Option (List PV))=RR;simp only[JE,M4,lq9,std,xOf,PXb,PXc,PXn,PXm,Nat.reduceAdd,Int.reduceBEq,dW];trivial
def loS(k:Int):Int:=cond (k==7) 0 (cond (k==13) 1 0)
def hiS(k:Int):Int:=cond (k==7) 11 (cond (k==13) 99 100000)
theorem oy{N:Nat}{k:Int}  : Ik N [.int k]=some [.int (loS k),.int (hiS k)]:=by
 show Lu (std (Uk N) N) (xOf _)=_;simp only[Lu,lq9,std,xOf,PXb,PXc,PXn,PXm,Nat.reduceAdd,Int.reduceBEq];unfold loS hiS
 grind
def uS(k:Int):Bool:=k==1||k==12||k==14||k==11||k==13
def uP(k:Int):Bool:=k==2||k==3||k==8||k==5||k==6||k==9
def uO(k:Int):Bool:=k==2
def uY(k:Int):Bool:=k==1||k==12||k==14||k==5||k==6||k==9
def uR(k:Int):Bool:=k==7||k==13||k==15
def uV(k:Int):Bool:=k==15
def uB(k:Int):Bool:=k==4
theorem nL{k:Int}(h:(iLt k 1||iLt 16 k)=false):k=1∨k=2∨k=3∨k=4∨k=5∨k=6∨k=7∨k=8∨k=9∨k=10∨k=11∨k=12∨k=13∨k=14∨k=15∨k=16:=by
 simp only[iLt,Bool.or_eq_false_iff,decide_eq_false_iff_not]at h;omega
def yj:Rows:=match G1 0 []with
 |some [.rows l]=>l
 |_=>[]
theorem qj{N:Nat}:G1 N []=some [.rows yj]:=rfl
def ER(k f:Int):Bool:=iLe 0 (Lib.indexByte (pvS (AD yj (IntKind.u8.wrap (k-1)).toNat 1)).data.toList f.toNat.toUInt8)||(k==5&&f==121)
theorem cR{N:Nat}{s:ByteArray}{f:Int}  : EY N [.str s,.int f]=some [.int (Lib.indexByte s.data.toList f.toNat.toUInt8)]:=by
 rfl
theorem dq{N:Nat}{k:Int}{f:Int}(h:(iLt k 1||iLt 16 k)=false):K9 N [.int k,.int f]=some [.bool (ER k f)]:=by
 show Pp (std (L1 N) N) (xOf _)=_;have hi:iIn (IntKind.u8.wrap (k-1)) (yj.length:Int)=true:=by
  rcases nL h with h|h|h|h|h|h|h|h|h|h|h|h|h|h|h|h<;>subst h<;>rfl
 simp only[Pp,O2,U3,lq9,std,xOf,PXb,PXc,PXn,PXm,Nat.reduceAdd,Int.reduceBEq,qj,cR,hi,ER]
theorem AEd{k:Int}(h:(iLt k 1||iLt 16 k)=false):ER k 115=uS k∧ER k 112=uP k∧ER k 111=uO k∧ER k 121=uY k∧ER k 114=uR k∧ER k 118=uV k∧ER k 98=uB k:=by
 rcases nL h with h|h|h|h|h|h|h|h|h|h|h|h|h|h|h|h<;>subst h<;>exact⟨rfl,rfl,rfl,rfl,rfl,rfl,rfl⟩
def zM(d:Del):Bool:=d.type==0&&(d.source==0&&(d.runs==0&&(d.short==0&&(d.boundary==0&&(d.crossed==false&&(d.how==0&&(d.victim==0&&(d.fielder==0&&(d.second==0&&(d.sub==false&&d.sector==0))))))))))
def sU(e:Ev):Bool:=(!(e.side==0) && !uS e.kind)||((!(e.player==0) && !uP e.kind)||((!(e.other==0) && !uO e.kind)||((e.yes && !uY e.kind)||((!(e.runs==0) && !uR e.kind)||((!(e.overs==0) && !uV e.kind)||(!zM e.ball && !uB e.kind))))))
def im(e:Ev):Bool:=(!btw e.side 1 2&&uS e.kind)||((!btw e.player 1 11&&uP e.kind)||((!btw e.other 1 11&&uO e.kind)||((!btw e.runs (loS e.kind) (hiS e.kind)&&uR e.kind)||(!btw e.overs 0 90&&uV e.kind))))
def evS(e:Ev):Int:=cond (iLt e.kind 1||iLt 16 e.kind) 3 (cond (sU e) 1 (cond (im e) 2 (cond (e.kind==4) (yN e.ball) 0)))
def evT(e:Ev):Rows:=[[.int 115,.bool (e.side==0),.bool (btw e.side 1 2)],[.int 112,.bool (e.player==0),.bool (btw e.player 1 11)],[.int 111,.bool (e.other==0),.bool (btw e.other 1 11)],[.int 121,.bool (!e.yes),.bool true],[.int 114,.bool (e.runs==0),.bool (btw e.runs (loS e.kind) (hiS e.kind))],[.int 118,.bool (e.overs==0),.bool (btw e.overs 0 90)],[.int 98,.bool (zM e.ball),.bool true]]
theorem bC{N:Nat}{e4 e12 e17:Bool}(hN:2097152<N):EJ N [.int e0,.int e1,.int e2,.int e3,.bool e4,.int e5,.int e6,.int e7,.int e8,.int e9,.int e10,.int e11,.bool e12,.int e13,.int e14,.int e15,.int e16,.bool e17,.int e18]=some [.int (evS (⟨e0,e1,e2,e3,e4,e5,e6,⟨e7,e8,e9,e10,e11,e12,e13,e14,e15,e16,e17,e18⟩⟩:Ev))]:=by
 show Ju (std (FJ N) N) (xOf _)=_;generalize hres:(some [.int (evS (⟨e0,e1,e2,e3,e4,e5,e6,⟨e7,e8,e9,e10,e11,e12,e13,e14,e15,e16,e17,e18⟩⟩:Ev))]:Option (List PV))=RR;cases hk:iLt e0 1||iLt 16 e0
 ·simp only[Ju,En,Jz,I2,LB,lq9,std,xOf,PXb,PXc,AH,hk,oy,ma];subst hres;obtain⟨g1,g2,g3,g4,g5,g6,g7⟩:=AEd hk;refine AQ (Nh (len:=7) (fun i => !pvB (AD (evT (⟨e0,e1,e2,e3,e4,e5,e6,⟨e7,e8,e9,e10,e11,e12,e13,e14,e15,e16,e17,e18⟩⟩:Ev)) i 1) && !ER e0 (pvI (AD (evT (⟨e0,e1,e2,e3,e4,e5,e6,⟨e7,e8,e9,e10,e11,e12,e13,e14,e15,e16,e17,e18⟩⟩:Ev)) i 0))) [.int 1] ?_ ?_ N (by omega)) ?_
  ·intro self;rfl
  ·intro i self hi;simp only[PXb,PXc,AH,BN (show i≤1099511627776 by omega),List.length_cons,List.length_nil,Nat.reduceAdd,Ae hi,AM hi,dq hk];change cond (!pvB (AD (evT (⟨e0,e1,e2,e3,e4,e5,e6,⟨e7,e8,e9,e10,e11,e12,e13,e14,e15,e16,e17,e18⟩⟩:Ev)) i 1) && !(!pvB (AD (evT (⟨e0,e1,e2,e3,e4,e5,e6,⟨e7,e8,e9,e10,e11,e12,e13,e14,e15,e16,e17,e18⟩⟩:Ev)) i 1)&&ER e0 (pvI (AD (evT (⟨e0,e1,e2,e3,e4,e5,e6,⟨e7,e8,e9,e10,e11,e12,e13,e14,e15,e16,e17,e18⟩⟩:Ev)) i 0)))) _ _=_
   grind
  have a1:CE (fun i => !pvB (AD (evT (⟨e0,e1,e2,e3,e4,e5,e6,⟨e7,e8,e9,e10,e11,e12,e13,e14,e15,e16,e17,e18⟩⟩:Ev)) i 1) && !ER e0 (pvI (AD (evT (⟨e0,e1,e2,e3,e4,e5,e6,⟨e7,e8,e9,e10,e11,e12,e13,e14,e15,e16,e17,e18⟩⟩:Ev)) i 0))) 7 0=sU (⟨e0,e1,e2,e3,e4,e5,e6,⟨e7,e8,e9,e10,e11,e12,e13,e14,e15,e16,e17,e18⟩⟩:Ev):=by
   simp only[CZ,K7];change(!(e1==0) && !ER e0 115||(!(e2==0) && !ER e0 112||(!(e3==0) && !ER e0 111||(!(!e4) && !ER e0 121||(!(e5==0) && !ER e0 114||(!(e6==0) && !ER e0 118||(!(zM (⟨e0,e1,e2,e3,e4,e5,e6,⟨e7,e8,e9,e10,e11,e12,e13,e14,e15,e16,e17,e18⟩⟩:Ev).ball) && !ER e0 98||false)))))))=_;rw[g1,g2,g3,g4,g5,g6,g7,Bool.not_not,Bool.or_false];rfl
  rw[a1];simp only[evS,hk,cond_false];cases sU (⟨e0,e1,e2,e3,e4,e5,e6,⟨e7,e8,e9,e10,e11,e12,e13,e14,e15,e16,e17,e18⟩⟩:Ev)
  ·simp only[PXb,PXc,AH];refine AQ (Nh (len:=7) (fun i => !pvB (AD (evT (⟨e0,e1,e2,e3,e4,e5,e6,⟨e7,e8,e9,e10,e11,e12,e13,e14,e15,e16,e17,e18⟩⟩:Ev)) i 2)&&ER e0 (pvI (AD (evT (⟨e0,e1,e2,e3,e4,e5,e6,⟨e7,e8,e9,e10,e11,e12,e13,e14,e15,e16,e17,e18⟩⟩:Ev)) i 0))) [.int 2] ?_ ?_ N (by omega)) ?_
   ·intro self;rfl
   ·intro i self hi;simp only[PXb,PXc,AH,BN (show i≤1099511627776 by omega),List.length_cons,List.length_nil,Nat.reduceAdd,Ae hi,AM hi,dq hk];rfl
   have a2:CE (fun i => !pvB (AD (evT (⟨e0,e1,e2,e3,e4,e5,e6,⟨e7,e8,e9,e10,e11,e12,e13,e14,e15,e16,e17,e18⟩⟩:Ev)) i 2)&&ER e0 (pvI (AD (evT (⟨e0,e1,e2,e3,e4,e5,e6,⟨e7,e8,e9,e10,e11,e12,e13,e14,e15,e16,e17,e18⟩⟩:Ev)) i 0))) 7 0=im (⟨e0,e1,e2,e3,e4,e5,e6,⟨e7,e8,e9,e10,e11,e12,e13,e14,e15,e16,e17,e18⟩⟩:Ev):=by
    simp only[CZ,K7];change(!(btw e1 1 2)&&ER e0 115||(!(btw e2 1 11)&&ER e0 112||(!(btw e3 1 11)&&ER e0 111||(!true&&ER e0 121||(!(btw e5 (loS e0) (hiS e0))&&ER e0 114||(!(btw e6 0 90)&&ER e0 118||(!true&&ER e0 98||false)))))))=_;rw[g1,g2,g3,g4,g5,g6,g7];simp only[Bool.not_true,Bool.false_and,Bool.false_or,Bool.or_false];rfl
   rw[a2];cases im (⟨e0,e1,e2,e3,e4,e5,e6,⟨e7,e8,e9,e10,e11,e12,e13,e14,e15,e16,e17,e18⟩⟩:Ev)
   ·simp only[PXb,PXc,PXn,PXm,Nat.reduceAdd,Int.reduceBEq,En,ig]
   rfl
  rfl
 simp only[Ju,En,Jz,I2,LB,lq9,std,xOf,PXb,PXc,AH,hk,←hres,evS]
theorem c4{c x x' y y':Bool}{a b d z z':Int}(h1:x=x')(h2:y=y')(h3:z=z'):(some [PV.int (cond c a (cond x b (cond y d z)))]:Option (List PV))=some [PV.int (cond c a (cond x' b (cond y' d z')))]:=by simp_all
structure Lens(s t:Inn):Prop where
 bt:t.batters.length=s.batters.length
 bd:t.bowled.length=s.bowled.length
 sb:t.subs.length=s.subs.length
 bw:t.bowlers.length≤s.bowlers.length+1
 bf:t.before.length≤s.before.length+s.bowlers.length+1
theorem Lens.refl(s:Inn):Lens s s:=⟨rfl,rfl,rfl,by omega,by omega⟩
theorem P_c{α:Type}{P:α→Prop}(b:Bool)(x y:α)(hx:P x)(hy:P y):P (cond b x y):=by grind
theorem vU(s:Inn)(d:Del):Lens s (A1 s d):=by
 have hb:∀(b:Bool),(cond b (Q9 s.batters s.striker 2) s.batters).length=s.batters.length:=fun b=>by cases b<;>simp[Nq]
 have hc:∀(b:Bool),(cond b (Q9 s.batters s.other 2) s.batters).length=s.batters.length:=fun b=>by cases b<;>simp[Nq]
 unfold A1;cases(!(d.runs.tmod 2==0) != d.crossed)<;>refine P_c _ _ _ ⟨hb _,rfl,rfl,?_,?_⟩ (P_c _ _ _ ⟨hc _,rfl,rfl,?_,?_⟩ ⟨rfl,rfl,rfl,?_,?_⟩)<;>simp<;>omega
theorem pO(r:Rul)(s:Inn)(c:Bool):Lens s (BD r s c).1:=by
 have hl:(cond (Pt s.bowlers s.bowlers.length s.bowler) s.bowlers (s.bowlers++[[.int s.bowler]])).length≤s.bowlers.length+1:=by
  grind
 have hd:(cond c (Q9 s.bowled s.bowler (inc (atI s.bowled (ix s.bowler) 0))) s.bowled).length=s.bowled.length:=by cases c<;>simp[Nq]
 unfold BD;refine P_c (P:=fun x:Inn×Bool=>Lens s x.1) _ _ _ (Lens.refl s) (P_c (P:=fun x:Inn×Bool=>Lens s x.1) _ _ _ ⟨rfl,hd,rfl,hl,by simp;omega⟩ ⟨rfl,hd,rfl,by simp,?_⟩)
 grind
def mP(a b c d:Int):Int:=cond (!(a==0)) a (cond (!(b==0)) b (cond (!(c==0)) c (cond (!(d==0)) d 0)))
def Iu(r:Rul)(s:Inn)(d:Del):Int:=
 cond (J8 s.batters s.striker s.other) 6 (cond (s.bowler==0) 7 (mP (ZM r s) (D6 d) (Xj d s.freehit) (Yx s d)))
theorem gC{N:Nat}{r8:Bool}{r0:ByteArray}{r13:Rows}{s18 s20:Bool}{d5 d10:Bool}(h:Fit s14 s16 s17 s19 s24)(hN:2097152<N)(h13:r13.length≤1048576):Fk N [.str r0,.int r1,.int r2,.int r3,.int r4,.int r5,.int r6,.int r7,.bool r8,.int r9,.int r10,.int r11,.int r12,.rows r13,.int s0,.int s1,.int s2,.int s3,.int s4,.int s5,.int s6,.int s7,.int s8,.int s9,.int s10,.int s11,.int s12,.int s13,.rows s14,.int s15,.rows s16,.rows s17,.bool s18,.rows s19,.bool s20,.int s21,.int s22,.int s23,.rows s24,.int s25,.int s26,.int s27,.int d0,.int d1,.int d2,.int d3,.int d4,.bool d5,.int d6,.int d7,.int d8,.int d9,.bool d10,.int d11]=some [.int (Iu (⟨r0,r1,r2,r3,r4,r5,r6,r7,r8,r9,r10,r11,r12,r13⟩:Rul) (⟨s0,s1,s2,s3,s4,s5,s6,s7,s8,s9,s10,s11,s12,s13,s14,s15,s16,s17,s18,s19,s20,s21,s22,s23,s24,s25,s26,s27⟩:Inn) (⟨d0,d1,d2,d3,d4,d5,d6,d7,d8,d9,d10,d11⟩:Del))]:=by
 show IK (std (Cy N) N) (xOf _)=_;generalize hres:(some [.int (Iu (⟨r0,r1,r2,r3,r4,r5,r6,r7,r8,r9,r10,r11,r12,r13⟩:Rul) (⟨s0,s1,s2,s3,s4,s5,s6,s7,s8,s9,s10,s11,s12,s13,s14,s15,s16,s17,s18,s19,s20,s21,s22,s23,s24,s25,s26,s27⟩:Inn) (⟨d0,d1,d2,d3,d4,d5,d6,d7,d8,d9,d10,d11⟩:Del))]:Option (List PV))=RR;simp only[IK,OC,On,QG,LZ,QJ,lq9,std,xOf,PXb,Wg h.bt hN,qw h hN h13,Vu,aV hN,qk h];subst hres;simp only[Iu];cases J8 s14 s12 s13<;>try rfl
 cases s15==0<;>try rfl
 simp only[PXb];generalize ZM (⟨r0,r1,r2,r3,r4,r5,r6,r7,r8,r9,r10,r11,r12,r13⟩:Rul) (⟨s0,s1,s2,s3,s4,s5,s6,s7,s8,s9,s10,s11,s12,s13,s14,s15,s16,s17,s18,s19,s20,s21,s22,s23,s24,s25,s26,s27⟩:Inn)=a;generalize D6 (⟨d0,d1,d2,d3,d4,d5,d6,d7,d8,d9,d10,d11⟩:Del)=b;generalize Xj (⟨d0,d1,d2,d3,d4,d5,d6,d7,d8,d9,d10,d11⟩:Del) s20=c;generalize Yx (⟨s0,s1,s2,s3,s4,s5,s6,s7,s8,s9,s10,s11,s12,s13,s14,s15,s16,s17,s18,s19,s20,s21,s22,s23,s24,s25,s26,s27⟩:Inn) (⟨d0,d1,d2,d3,d4,d5,d6,d7,d8,d9,d10,d11⟩:Del)=e;refine AQ (DF (len:=4) (fun i=>cond (!(atI [[.int a],[.int b],[.int c],[.int e]] i 0==0)) (some [.int (atI [[.int a],[.int b],[.int c],[.int e]] i 0)]) none) ?_ ?_ 4 0 N (by omega) (by omega)) ?_
 ·intro self;rfl
 ·intro i self hi;simp only[PXb,BN (show i≤1099511627776 by omega),List.length_cons,List.length_nil,Nat.reduceAdd,Ae hi,AM hi,CC]
  grind
 refine(lF _).trans (congrArg (fun z=>some [PV.int z]) ?_);unfold mP;simp only[Be];rw[show atI [[.int a],[.int b],[.int c],[.int e]] 0 0=a from rfl,show atI [[.int a],[.int b],[.int c],[.int e]] (0+1) 0=b from rfl,show atI [[.int a],[.int b],[.int c],[.int e]] (0+1+1) 0=c from rfl,show atI [[.int a],[.int b],[.int c],[.int e]] (0+1+1+1) 0=e from rfl];cases a==0<;>try rfl
 cases b==0<;>try rfl
 cases c==0<;>try rfl
 cases e==0<;>rfl
theorem Vk{s t:Inn}(l:Lens s t)(h:s.Fit)(hw:s.before.length+s.bowlers.length≤1048575):t.Fit:=⟨l.bt▸h.bt,by have:=l.bw;omega,by have:=l.bf;omega,l.bd▸h.bd,l.sb▸h.sb⟩
theorem zp(s:Inn)(d:Del):(A1 s d).bowlers=s.bowlers:=by
 unfold A1
 grind
theorem zn(s:Inn)(d:Del):(A1 s d).before=s.before:=by
 unfold A1
 grind
@[reducible] def ct(t:Inn)(a b e f g:Int):Inn:=⟨t.side,t.target,t.overs,a,t.wickets,b,e,f,g,t.pens,t.complete,t.inover,t.striker,t.other,t.batters,t.bowler,t.bowlers,t.before,t.fresh,t.bowled,t.freehit,t.ballage,t.keeper,t.outside,t.subs,t.rev1,t.rev2,t.ending⟩
def NM(r:Rul)(s:Inn)(d:Del):Inn×Int:=
  cond (!(Iu r s d==0)) (s,Iu r s d)
    (let c:=AF r d
     let t:=A1 s d
     let o:=BD r (ct t (IntKind.i64.wrap (t.runs+Bk c)) (IntKind.i64.wrap (t.wides+c.wides)) (IntKind.i64.wrap (t.noballs+c.noballs)) (IntKind.i64.wrap (t.byes+c.byes)) (IntKind.i64.wrap (t.legbyes+c.legbyes))) c.counts
     let t:Inn:=cond o.2 (L4 o.1) o.1
     ({ t with freehit:=cond (d.type==1) false (cond (d.type==3&&r.freehit) true o.1.freehit) },0))
theorem mv{N:Nat}{r8:Bool}{r0:ByteArray}{r13:Rows}{s18 s20:Bool}{d5 d10:Bool}(h:Fit s14 s16 s17 s19 s24)(hw:s17.length+s16.length≤1000000)(hN:2097152<N)(hs:r0.size≤1048576)(h13:r13.length≤1048576):Iq N [.str r0,.int r1,.int r2,.int r3,.int r4,.int r5,.int r6,.int r7,.bool r8,.int r9,.int r10,.int r11,.int r12,.rows r13,.int s0,.int s1,.int s2,.int s3,.int s4,.int s5,.int s6,.int s7,.int s8,.int s9,.int s10,.int s11,.int s12,.int s13,.rows s14,.int s15,.rows s16,.rows s17,.bool s18,.rows s19,.bool s20,.int s21,.int s22,.int s23,.rows s24,.int s25,.int s26,.int s27,.int d0,.int d1,.int d2,.int d3,.int d4,.bool d5,.int d6,.int d7,.int d8,.int d9,.bool d10,.int d11]=some (Bo (NM (⟨r0,r1,r2,r3,r4,r5,r6,r7,r8,r9,r10,r11,r12,r13⟩:Rul) (⟨s0,s1,s2,s3,s4,s5,s6,s7,s8,s9,s10,s11,s12,s13,s14,s15,s16,s17,s18,s19,s20,s21,s22,s23,s24,s25,s26,s27⟩:Inn) (⟨d0,d1,d2,d3,d4,d5,d6,d7,d8,d9,d10,d11⟩:Del))):=by
 show Lw (std (Cg N) N) (xOf _)=_;generalize hres:(some (Bo (NM (⟨r0,r1,r2,r3,r4,r5,r6,r7,r8,r9,r10,r11,r12,r13⟩:Rul) (⟨s0,s1,s2,s3,s4,s5,s6,s7,s8,s9,s10,s11,s12,s13,s14,s15,s16,s17,s18,s19,s20,s21,s22,s23,s24,s25,s26,s27⟩:Inn) (⟨d0,d1,d2,d3,d4,d5,d6,d7,d8,d9,d10,d11⟩:Del))):Option (List PV))=RR;have l1:=vU (⟨s0,s1,s2,s3,s4,s5,s6,s7,s8,s9,s10,s11,s12,s13,s14,s15,s16,s17,s18,s19,s20,s21,s22,s23,s24,s25,s26,s27⟩:Inn) (⟨d0,d1,d2,d3,d4,d5,d6,d7,d8,d9,d10,d11⟩:Del);have f1:=Vk l1 h (by grind);have w1:(A1 (⟨s0,s1,s2,s3,s4,s5,s6,s7,s8,s9,s10,s11,s12,s13,s14,s15,s16,s17,s18,s19,s20,s21,s22,s23,s24,s25,s26,s27⟩:Inn) (⟨d0,d1,d2,d3,d4,d5,d6,d7,d8,d9,d10,d11⟩:Del)).bowlers.length=s16.length:=congrArg List.length (zp _ _);have w2:(A1 (⟨s0,s1,s2,s3,s4,s5,s6,s7,s8,s9,s10,s11,s12,s13,s14,s15,s16,s17,s18,s19,s20,s21,s22,s23,s24,s25,s26,s27⟩:Inn) (⟨d0,d1,d2,d3,d4,d5,d6,d7,d8,d9,d10,d11⟩:Del)).before.length=s17.length:=congrArg List.length (zn _ _);have l2:=fun(x:Rul) (c:Bool) (a b e f g:Int)=>pO x (ct (A1 (⟨s0,s1,s2,s3,s4,s5,s6,s7,s8,s9,s10,s11,s12,s13,s14,s15,s16,s17,s18,s19,s20,s21,s22,s23,s24,s25,s26,s27⟩:Inn) (⟨d0,d1,d2,d3,d4,d5,d6,d7,d8,d9,d10,d11⟩:Del)) a b e f g) c
 have f2:=fun(x:Rul) (c:Bool) (a b e f g:Int)=>Vk (l2 x c a b e f g) f1 (show(A1 (⟨s0,s1,s2,s3,s4,s5,s6,s7,s8,s9,s10,s11,s12,s13,s14,s15,s16,s17,s18,s19,s20,s21,s22,s23,s24,s25,s26,s27⟩:Inn) (⟨d0,d1,d2,d3,d4,d5,d6,d7,d8,d9,d10,d11⟩:Del)).before.length+(A1 (⟨s0,s1,s2,s3,s4,s5,s6,s7,s8,s9,s10,s11,s12,s13,s14,s15,s16,s17,s18,s19,s20,s21,s22,s23,s24,s25,s26,s27⟩:Inn) (⟨d0,d1,d2,d3,d4,d5,d6,d7,d8,d9,d10,d11⟩:Del)).bowlers.length≤1048575 by omega)
 simp only[Lw,P9,QE,Qj,QA,UL,UM,Q2,lq9,std,xOf,PXb,PXc,PXn,PXm,Nat.reduceAdd,Int.reduceBEq,gC h hN h13,C2 h,Mf,tA h,Gd,Cre.ls,vR f1 (show(A1 (⟨s0,s1,s2,s3,s4,s5,s6,s7,s8,s9,s10,s11,s12,s13,s14,s15,s16,s17,s18,s19,s20,s21,s22,s23,s24,s25,s26,s27⟩:Inn) (⟨d0,d1,d2,d3,d4,d5,d6,d7,d8,d9,d10,d11⟩:Del)).bowlers.length≤1048575 by omega) hN hs,ACC,kY (f2 _ _ _ _ _ _ _)];subst hres;simp only[NM,ct];cases Iu (⟨r0,r1,r2,r3,r4,r5,r6,r7,r8,r9,r10,r11,r12,r13⟩:Rul) (⟨s0,s1,s2,s3,s4,s5,s6,s7,s8,s9,s10,s11,s12,s13,s14,s15,s16,s17,s18,s19,s20,s21,s22,s23,s24,s25,s26,s27⟩:Inn) (⟨d0,d1,d2,d3,d4,d5,d6,d7,d8,d9,d10,d11⟩:Del)==0
 ·rfl
 obtain⟨o,ho⟩:∃o,o=BD (⟨r0,r1,r2,r3,r4,r5,r6,r7,r8,r9,r10,r11,r12,r13⟩:Rul) (ct (A1 (⟨s0,s1,s2,s3,s4,s5,s6,s7,s8,s9,s10,s11,s12,s13,s14,s15,s16,s17,s18,s19,s20,s21,s22,s23,s24,s25,s26,s27⟩:Inn) (⟨d0,d1,d2,d3,d4,d5,d6,d7,d8,d9,d10,d11⟩:Del)) (IntKind.i64.wrap ((A1 (⟨s0,s1,s2,s3,s4,s5,s6,s7,s8,s9,s10,s11,s12,s13,s14,s15,s16,s17,s18,s19,s20,s21,s22,s23,s24,s25,s26,s27⟩:Inn) (⟨d0,d1,d2,d3,d4,d5,d6,d7,d8,d9,d10,d11⟩:Del)).runs+Bk (AF (⟨r0,r1,r2,r3,r4,r5,r6,r7,r8,r9,r10,r11,r12,r13⟩:Rul) (⟨d0,d1,d2,d3,d4,d5,d6,d7,d8,d9,d10,d11⟩:Del)))) (IntKind.i64.wrap ((A1 (⟨s0,s1,s2,s3,s4,s5,s6,s7,s8,s9,s10,s11,s12,s13,s14,s15,s16,s17,s18,s19,s20,s21,s22,s23,s24,s25,s26,s27⟩:Inn) (⟨d0,d1,d2,d3,d4,d5,d6,d7,d8,d9,d10,d11⟩:Del)).wides+(AF (⟨r0,r1,r2,r3,r4,r5,r6,r7,r8,r9,r10,r11,r12,r13⟩:Rul) (⟨d0,d1,d2,d3,d4,d5,d6,d7,d8,d9,d10,d11⟩:Del)).wides)) (IntKind.i64.wrap ((A1 (⟨s0,s1,s2,s3,s4,s5,s6,s7,s8,s9,s10,s11,s12,s13,s14,s15,s16,s17,s18,s19,s20,s21,s22,s23,s24,s25,s26,s27⟩:Inn) (⟨d0,d1,d2,d3,d4,d5,d6,d7,d8,d9,d10,d11⟩:Del)).noballs+(AF (⟨r0,r1,r2,r3,r4,r5,r6,r7,r8,r9,r10,r11,r12,r13⟩:Rul) (⟨d0,d1,d2,d3,d4,d5,d6,d7,d8,d9,d10,d11⟩:Del)).noballs)) (IntKind.i64.wrap ((A1 (⟨s0,s1,s2,s3,s4,s5,s6,s7,s8,s9,s10,s11,s12,s13,s14,s15,s16,s17,s18,s19,s20,s21,s22,s23,s24,s25,s26,s27⟩:Inn) (⟨d0,d1,d2,d3,d4,d5,d6,d7,d8,d9,d10,d11⟩:Del)).byes+(AF (⟨r0,r1,r2,r3,r4,r5,r6,r7,r8,r9,r10,r11,r12,r13⟩:Rul) (⟨d0,d1,d2,d3,d4,d5,d6,d7,d8,d9,d10,d11⟩:Del)).byes)) (IntKind.i64.wrap ((A1 (⟨s0,s1,s2,s3,s4,s5,s6,s7,s8,s9,s10,s11,s12,s13,s14,s15,s16,s17,s18,s19,s20,s21,s22,s23,s24,s25,s26,s27⟩:Inn) (⟨d0,d1,d2,d3,d4,d5,d6,d7,d8,d9,d10,d11⟩:Del)).legbyes+(AF (⟨r0,r1,r2,r3,r4,r5,r6,r7,r8,r9,r10,r11,r12,r13⟩:Rul) (⟨d0,d1,d2,d3,d4,d5,d6,d7,d8,d9,d10,d11⟩:Del)).legbyes))) (AF (⟨r0,r1,r2,r3,r4,r5,r6,r7,r8,r9,r10,r11,r12,r13⟩:Rul) (⟨d0,d1,d2,d3,d4,d5,d6,d7,d8,d9,d10,d11⟩:Del)).counts:=⟨_,rfl⟩;simp only[ct,Bk]at ho⊢;simp only[←ho];obtain⟨o1,o2⟩:=o;cases o2<;>cases d0==1<;>cases d0==3<;>cases r8<;>rfl
theorem uF(r:Rul)(s:Inn)(b:Bool)(a c d e f:Int):BD r (ct s a c d e f) b=(ct (BD r s b).1 a c d e f,(BD r s b).2):=by
 unfold BD ct
 grind
def Nw(r:Rul)(s:Inn)(side:Int):Inn×Int:=cond (!(side==s.side)) (s,2) (cond (!(r.overs==0)) (s,20) ({ s with ending:=4 },0))
theorem gP{N:Nat}{r8:Bool}{r0:ByteArray}{r13:Rows}{s18 s20:Bool}{e4 e12 e17:Bool}(h:Fit s14 s16 s17 s19 s24):Fi N [.str r0,.int r1,.int r2,.int r3,.int r4,.int r5,.int r6,.int r7,.bool r8,.int r9,.int r10,.int r11,.int r12,.rows r13,.int s0,.int s1,.int s2,.int s3,.int s4,.int s5,.int s6,.int s7,.int s8,.int s9,.int s10,.int s11,.int s12,.int s13,.rows s14,.int s15,.rows s16,.rows s17,.bool s18,.rows s19,.bool s20,.int s21,.int s22,.int s23,.rows s24,.int s25,.int s26,.int s27,.int e0,.int e1,.int e2,.int e3,.bool e4,.int e5,.int e6,.int e7,.int e8,.int e9,.int e10,.int e11,.bool e12,.int e13,.int e14,.int e15,.int e16,.bool e17,.int e18]=some (Bo (Nw (⟨r0,r1,r2,r3,r4,r5,r6,r7,r8,r9,r10,r11,r12,r13⟩:Rul) (⟨s0,s1,s2,s3,s4,s5,s6,s7,s8,s9,s10,s11,s12,s13,s14,s15,s16,s17,s18,s19,s20,s21,s22,s23,s24,s25,s26,s27⟩:Inn) e1)):=by
 show IE (std (KM N) N) (xOf _)=_;generalize hres:(some (Bo (Nw (⟨r0,r1,r2,r3,r4,r5,r6,r7,r8,r9,r10,r11,r12,r13⟩:Rul) (⟨s0,s1,s2,s3,s4,s5,s6,s7,s8,s9,s10,s11,s12,s13,s14,s15,s16,s17,s18,s19,s20,s21,s22,s23,s24,s25,s26,s27⟩:Inn) e1)):Option (List PV))=RR;simp only[IE,Ok,lq9,std,xOf,PXb,PXc,PXn,PXm,Nat.reduceAdd,Int.reduceBEq,C2 h];subst hres;simp only[Nw];cases e1==s0<;>cases r3==0<;>rfl
def WM(s:Inn):Inn:={ s with runs:=IntKind.i64.wrap (s.runs+5),pens:=IntKind.i64.wrap (s.pens+5) }
theorem TH{N:Nat}{s18 s20:Bool}(h:Fit s14 s16 s17 s19 s24):Cv N [.int s0,.int s1,.int s2,.int s3,.int s4,.int s5,.int s6,.int s7,.int s8,.int s9,.int s10,.int s11,.int s12,.int s13,.rows s14,.int s15,.rows s16,.rows s17,.bool s18,.rows s19,.bool s20,.int s21,.int s22,.int s23,.rows s24,.int s25,.int s26,.int s27]=some (WM (⟨s0,s1,s2,s3,s4,s5,s6,s7,s8,s9,s10,s11,s12,s13,s14,s15,s16,s17,s18,s19,s20,s21,s22,s23,s24,s25,s26,s27⟩:Inn)).ls:=by
 show IC (std (KQ N) N) (xOf _)=_;generalize hres:(some (WM (⟨s0,s1,s2,s3,s4,s5,s6,s7,s8,s9,s10,s11,s12,s13,s14,s15,s16,s17,s18,s19,s20,s21,s22,s23,s24,s25,s26,s27⟩:Inn)).ls:Option (List PV))=RR;simp only[IC,Oe,lq9,std,xOf,PXb,PXc,PXn,PXm,Nat.reduceAdd,Int.reduceBEq,C2 h];trivial
def JN(s:Inn)(side runs:Int):Inn×Int:=
 cond (!(runs==5)) (s,23) (cond (side==s.side) (WM s,0) ({ s with target:=cond (iLt 0 s.target) (IntKind.i64.wrap (s.target+5)) s.target },0))
theorem gG{N:Nat}{s18 s20:Bool}{e4 e12 e17:Bool}(h:Fit s14 s16 s17 s19 s24):Fb N [.int s0,.int s1,.int s2,.int s3,.int s4,.int s5,.int s6,.int s7,.int s8,.int s9,.int s10,.int s11,.int s12,.int s13,.rows s14,.int s15,.rows s16,.rows s17,.bool s18,.rows s19,.bool s20,.int s21,.int s22,.int s23,.rows s24,.int s25,.int s26,.int s27,.int e0,.int e1,.int e2,.int e3,.bool e4,.int e5,.int e6,.int e7,.int e8,.int e9,.int e10,.int e11,.bool e12,.int e13,.int e14,.int e15,.int e16,.bool e17,.int e18]=some (Bo (JN (⟨s0,s1,s2,s3,s4,s5,s6,s7,s8,s9,s10,s11,s12,s13,s14,s15,s16,s17,s18,s19,s20,s21,s22,s23,s24,s25,s26,s27⟩:Inn) e1 e5)):=by
 show II (std (Gp N) N) (xOf _)=_;generalize hres:(some (Bo (JN (⟨s0,s1,s2,s3,s4,s5,s6,s7,s8,s9,s10,s11,s12,s13,s14,s15,s16,s17,s18,s19,s20,s21,s22,s23,s24,s25,s26,s27⟩:Inn) e1 e5)):Option (List PV))=RR;simp only[II,Oc,My,lq9,std,xOf,PXb,PXc,PXn,PXm,Nat.reduceAdd,Int.reduceBEq,C2 h,TH h];subst hres;simp only[JN];cases e5==5<;>cases e1==s0<;>cases iLt 0 s1<;>rfl
def OX(r:Rul)(s:Inn)(side:Int)(yes:Bool):Inn×Int:=
 cond (!s.fresh||iLe r.reviews (cond (side==2) s.rev2 s.rev1)) (s,24) (cond (!yes) ({ s with rev1:=cond (side==1) (inc s.rev1) s.rev1,rev2:=cond (side==2) (inc s.rev2) s.rev2 },0) (s,0))
theorem wr1:IntKind.i64.wrap (1-1)=0:=rfl
theorem wr2:IntKind.i64.wrap (2-1)=1:=rfl
theorem y7:iIn 0 2=true:=rfl
theorem yq:iIn 1 2=true:=rfl
theorem jo{N:Nat}{r8:Bool}{r0:ByteArray}{r13:Rows}{s18 s20:Bool}{e4 e12 e17:Bool}(h:Fit s14 s16 s17 s19 s24)(he:e1=1∨e1=2):GA N [.str r0,.int r1,.int r2,.int r3,.int r4,.int r5,.int r6,.int r7,.bool r8,.int r9,.int r10,.int r11,.int r12,.rows r13,.int s0,.int s1,.int s2,.int s3,.int s4,.int s5,.int s6,.int s7,.int s8,.int s9,.int s10,.int s11,.int s12,.int s13,.rows s14,.int s15,.rows s16,.rows s17,.bool s18,.rows s19,.bool s20,.int s21,.int s22,.int s23,.rows s24,.int s25,.int s26,.int s27,.int e0,.int e1,.int e2,.int e3,.bool e4,.int e5,.int e6,.int e7,.int e8,.int e9,.int e10,.int e11,.bool e12,.int e13,.int e14,.int e15,.int e16,.bool e17,.int e18]=some (Bo (OX (⟨r0,r1,r2,r3,r4,r5,r6,r7,r8,r9,r10,r11,r12,r13⟩:Rul) (⟨s0,s1,s2,s3,s4,s5,s6,s7,s8,s9,s10,s11,s12,s13,s14,s15,s16,s17,s18,s19,s20,s21,s22,s23,s24,s25,s26,s27⟩:Inn) e1 e4)):=by
 show GQ (std (Lh N) N) (xOf _)=_;generalize hres:(some (Bo (OX (⟨r0,r1,r2,r3,r4,r5,r6,r7,r8,r9,r10,r11,r12,r13⟩:Rul) (⟨s0,s1,s2,s3,s4,s5,s6,s7,s8,s9,s10,s11,s12,s13,s14,s15,s16,s17,s18,s19,s20,s21,s22,s23,s24,s25,s26,s27⟩:Inn) e1 e4)):Option (List PV))=RR
 rcases he with he|he<;>subst he
 ·simp only[GQ,Ho,lq9,std,xOf,PXb,PXc,PXn,PXm,Nat.reduceAdd,Int.reduceBEq,C2 h,wr1,wr2,y7,yq];subst hres;simp only[OX,Int.reduceBEq,beq_self_eq_true,cond_true,cond_false];cases s18<;>cases e4<;>first|rfl|(cases iLe r11 s25<;>rfl)
 simp only[GQ,Ho,lq9,std,xOf,PXb,PXc,PXn,PXm,Nat.reduceAdd,Int.reduceBEq,C2 h,wr1,wr2,y7,yq];subst hres;simp only[OX,Int.reduceBEq,beq_self_eq_true,cond_true,cond_false];cases s18<;>cases e4<;>first|rfl|(cases iLe r11 s26<;>rfl)
theorem Wv{N:Nat}{r8:Bool}{r0:ByteArray}{r13:Rows}{s18 s20:Bool}  : D8 N [.str r0,.int r1,.int r2,.int r3,.int r4,.int r5,.int r6,.int r7,.bool r8,.int r9,.int r10,.int r11,.int r12,.rows r13,.int s0,.int s1,.int s2,.int s3,.int s4,.int s5,.int s6,.int s7,.int s8,.int s9,.int s10,.int s11,.int s12,.int s13,.rows s14,.int s15,.rows s16,.rows s17,.bool s18,.rows s19,.bool s20,.int s21,.int s22,.int s23,.rows s24,.int s25,.int s26,.int s27]=some [.int (Db r4 s10 s11)]:=by
 rfl
def Qy(r:Rul)(s:Inn)(runs overs:Int):Inn×Int:=
  cond (r.overs==0||(runs==0&&overs==0)) (s,25) (cond (iLt 0 runs&&(s.target==0||iLe runs s.runs)) (s,25)
    (cond (iLt 0 overs&&(iLt r.overs overs||iLt (IntKind.i64.wrap (overs*r.balls)) (Db r.balls s.complete s.inover))) (s,25)
      ({ s with target:=cond (iLt 0 runs) runs s.target,overs:=cond (iLt 0 overs) overs s.overs },0)))
theorem jR{N:Nat}{r8:Bool}{r0:ByteArray}{r13:Rows}{s18 s20:Bool}{e4 e12 e17:Bool}(h:Fit s14 s16 s17 s19 s24):GD N [.str r0,.int r1,.int r2,.int r3,.int r4,.int r5,.int r6,.int r7,.bool r8,.int r9,.int r10,.int r11,.int r12,.rows r13,.int s0,.int s1,.int s2,.int s3,.int s4,.int s5,.int s6,.int s7,.int s8,.int s9,.int s10,.int s11,.int s12,.int s13,.rows s14,.int s15,.rows s16,.rows s17,.bool s18,.rows s19,.bool s20,.int s21,.int s22,.int s23,.rows s24,.int s25,.int s26,.int s27,.int e0,.int e1,.int e2,.int e3,.bool e4,.int e5,.int e6,.int e7,.int e8,.int e9,.int e10,.int e11,.bool e12,.int e13,.int e14,.int e15,.int e16,.bool e17,.int e18]=some (Bo (Qy (⟨r0,r1,r2,r3,r4,r5,r6,r7,r8,r9,r10,r11,r12,r13⟩:Rul) (⟨s0,s1,s2,s3,s4,s5,s6,s7,s8,s9,s10,s11,s12,s13,s14,s15,s16,s17,s18,s19,s20,s21,s22,s23,s24,s25,s26,s27⟩:Inn) e5 e6)):=by
 show JJ (std (Hh N) N) (xOf _)=_;generalize hres:(some (Bo (Qy (⟨r0,r1,r2,r3,r4,r5,r6,r7,r8,r9,r10,r11,r12,r13⟩:Rul) (⟨s0,s1,s2,s3,s4,s5,s6,s7,s8,s9,s10,s11,s12,s13,s14,s15,s16,s17,s18,s19,s20,s21,s22,s23,s24,s25,s26,s27⟩:Inn) e5 e6)):Option (List PV))=RR;simp only[JJ,Po,Pa,lq9,std,xOf,PXb,PXc,PXn,PXm,Nat.reduceAdd,Int.reduceBEq,C2 h,Wv];subst hres;simp only[Qy];cases(r3==0||e5==0&&e6==0)<;>try rfl
 cases(iLt 0 e5&&(s1==0||iLe e5 s3))<;>try rfl
 cases iLt 0 e6<;>cases iLt r3 e6<;>try rfl
 simp only[PXb,PXc,PXn,PXm,Nat.reduceAdd,Int.reduceBEq]
 grind
def Cx(r:Rul)(s:Inn)(e:Ev):Inn×Int:=
  cond (e.kind==2) (Rf s e.player e.other) (cond (e.kind==3) (aM r s e.player) (cond (e.kind==4) (NM r s e.ball)
    (cond (e.kind==5) (cond e.yes (GW s e.player) (M3 s e.player)) (cond (e.kind==6) (G2 s e.player e.yes) (cond (e.kind==7) (Ni s e.runs)
      (cond (e.kind==8) (Qm s e.player) (cond (e.kind==9) (VB s e.player e.yes) (cond (e.kind==10) (N3 r s) (cond (e.kind==11) (Nw r s e.side)
        (cond (e.kind==13) (JN s e.side e.runs) (cond (e.kind==14) (OX r s e.side e.yes) (Qy r s e.runs e.overs))))))))))))
theorem o6{e:Ev}(h:(evS e==0)=true):(iLt e.kind 1||iLt 16 e.kind)=false:=by
 unfold evS at h
 grind
theorem AD5{e:Ev}(h:(evS e==0)=true)(hk:e.kind=14):e.side=1∨e.side=2:=by
 have h0:=o6 h;unfold evS at h;rw[h0]at h;cases h1:sU e
 ·cases h2:im e
  ·unfold im at h2;rw[Bool.or_eq_false_iff]at h2;have h3:=h2.1;rw[hk,show uS 14=true from rfl,Bool.and_true]at h3;simp only[btw,iLe,Bool.not_eq_false',zzk,decide_eq_true_eq]at h3;omega
  simp_all
 simp_all
set_option maxHeartbeats 4000000 in
theorem gI{N:Nat}{r8:Bool}{r0:ByteArray}{r13:Rows}{s18 s20:Bool}{e4 e12 e17:Bool}(h:Fit s14 s16 s17 s19 s24)(hw:s17.length+s16.length≤1000000)(hN:2097152<N)(hs:r0.size≤1048576)(h13:r13.length≤1048576)(he:(evS (⟨e0,e1,e2,e3,e4,e5,e6,⟨e7,e8,e9,e10,e11,e12,e13,e14,e15,e16,e17,e18⟩⟩:Ev)==0)=true):FX N [.str r0,.int r1,.int r2,.int r3,.int r4,.int r5,.int r6,.int r7,.bool r8,.int r9,.int r10,.int r11,.int r12,.rows r13,.int s0,.int s1,.int s2,.int s3,.int s4,.int s5,.int s6,.int s7,.int s8,.int s9,.int s10,.int s11,.int s12,.int s13,.rows s14,.int s15,.rows s16,.rows s17,.bool s18,.rows s19,.bool s20,.int s21,.int s22,.int s23,.rows s24,.int s25,.int s26,.int s27,.int e0,.int e1,.int e2,.int e3,.bool e4,.int e5,.int e6,.int e7,.int e8,.int e9,.int e10,.int e11,.bool e12,.int e13,.int e14,.int e15,.int e16,.bool e17,.int e18]=some (Bo (Cx (⟨r0,r1,r2,r3,r4,r5,r6,r7,r8,r9,r10,r11,r12,r13⟩:Rul) (⟨s0,s1,s2,s3,s4,s5,s6,s7,s8,s9,s10,s11,s12,s13,s14,s15,s16,s17,s18,s19,s20,s21,s22,s23,s24,s25,s26,s27⟩:Inn) (⟨e0,e1,e2,e3,e4,e5,e6,⟨e7,e8,e9,e10,e11,e12,e13,e14,e15,e16,e17,e18⟩⟩:Ev))):=by
  show Fd (std (Au N) N) (xOf _)=_;generalize hres:(some (Bo (Cx (⟨r0,r1,r2,r3,r4,r5,r6,r7,r8,r9,r10,r11,r12,r13⟩:Rul) (⟨s0,s1,s2,s3,s4,s5,s6,s7,s8,s9,s10,s11,s12,s13,s14,s15,s16,s17,s18,s19,s20,s21,s22,s23,s24,s25,s26,s27⟩:Inn) (⟨e0,e1,e2,e3,e4,e5,e6,⟨e7,e8,e9,e10,e11,e12,e13,e14,e15,e16,e17,e18⟩⟩:Ev))):Option (List PV))=RR;have hsd:e0=14→e1=1∨e1=2:=AD5 (e:=(⟨e0,e1,e2,e3,e4,e5,e6,⟨e7,e8,e9,e10,e11,e12,e13,e14,e15,e16,e17,e18⟩⟩:Ev)) he
  rcases nL (o6 he)with hk|hk|hk|hk|hk|hk|hk|hk|hk|hk|hk|hk|hk|hk|hk|hk<;>simp only at hk<;>subst hk<;>clear he
  all_goals (first
    | (have hsd := hsd rfl
       simp only[Fd,H5,Ix,Hk,Ge,Hr,Gr,Gq,G9,Fe,Gu,F2,Fz,GU,GS,lq9,std,xOf,PXb,PXc,PXn,PXm,Nat.reduceAdd,Int.reduceBEq,jo h hsd];subst hres;rfl)
    | (simp only [Fd, H5, Ix, Hk, Ge, Hr, Gr, Gq, G9, Fe, Gu, F2, Fz, GU, GS, lq9,std,xOf, PXb, PXc, PXn, PXm, Nat.reduceAdd, Int.reduceBEq, qo h hN, uh h hN hs, mv h hw hN hs h13, iz h hN, oZ h hN, kA h hN, lc h, ny h, fG h, lE h hN hs, gP h, gG h, jR h]
       subst hres
       first
       |rfl
       |(cases e4<;>rfl)))
theorem Lens.of{s t:Inn}(h1:t.batters.length=s.batters.length)(h2:t.bowled.length=s.bowled.length)(h3:t.subs.length=s.subs.length)(h4:t.bowlers=s.bowlers)(h5:t.before=s.before):Lens s t:=⟨h1,h2,h3,by simp_all,by grind⟩
theorem L_c{s:Inn}(b:Bool)(x y:Inn×Int)(hx:Lens s x.1)(hy:Lens s y.1):Lens s (cond b x y).1:=by grind
theorem AAx(s:Inn)(p q:Int):Lens s (Rf s p q).1:=by
 unfold Rf;exact L_c _ _ _ (Lens.refl s) (L_c _ _ _ (Lens.refl s) (L_c _ _ _ (Lens.refl s) (Lens.of (by simp[Nq]) rfl rfl rfl rfl)))
theorem zZ(r:Rul)(s:Inn)(p:Int):Lens s (aM r s p).1:=by
 unfold aM;exact P_c (P:=fun x:Inn=>Lens s x) _ _ _ (Lens.of rfl rfl rfl rfl rfl) (Lens.refl s)
theorem AAM(r:Rul)(s:Inn)(d:Del):Lens s (NM r s d).1:=by
 unfold NM;refine L_c _ _ _ (Lens.refl s) ?_;have l1:=vU s d;have w1:=zp s d;have w2:=zn s d;simp only[uF];have l2:=pO r (A1 s d) (AF r d).counts;cases(BD r (A1 s d) (AF r d).counts).2
 ·exact⟨l2.bt.trans l1.bt,l2.bd.trans l1.bd,l2.sb.trans l1.sb,by have:=l2.bw;simp_all,by have:=l2.bf;simp_all⟩
 exact⟨l2.bt.trans l1.bt,l2.bd.trans l1.bd,l2.sb.trans l1.sb,by have:=l2.bw;rw[w1]at this;exact this,by have:=l2.bf;rw[w1,w2]at this;exact this⟩
theorem sN(s:Inn)(p:Int):Lens s (GW s p).1:=by
 unfold GW;exact L_c _ _ _ (Lens.of (by simp[Nq]) rfl rfl rfl rfl) (Lens.refl s)
theorem yU(s:Inn)(p:Int):Lens s (M3 s p).1:=by
 unfold M3;exact L_c _ _ _ (Lens.of (by simp[Nq]) rfl rfl rfl rfl) (Lens.refl s)
theorem wK(s:Inn)(p:Int)(b:Bool):Lens s (G2 s p b).1:=by
 unfold G2;exact L_c _ _ _ (Lens.refl s) (L_c _ _ _ (Lens.refl s) (L_c _ _ _ (Lens.refl s) (L_c _ _ _ (Lens.refl s) (Lens.of (by simp[Nq]) rfl rfl rfl rfl))))
theorem vN(s:Inn)(n:Int):Lens s (Ni s n).1:=by
 unfold Ni;exact L_c _ _ _ (Lens.refl s) (Lens.of rfl rfl rfl rfl rfl)
theorem wH(s:Inn)(n:Int):Lens s (Qm s n).1:=by
 unfold Qm;exact L_c _ _ _ (Lens.refl s) (L_c _ _ _ (Lens.refl s) (L_c _ _ _ (Lens.refl s) (Lens.of rfl rfl rfl rfl rfl)))
theorem zG(s:Inn)(n:Int)(b:Bool):Lens s (VB s n b).1:=by
 unfold VB;exact L_c _ _ _ (Lens.refl s) (L_c _ _ _ (Lens.refl s) (Lens.of rfl rfl (by simp[AB3]) rfl rfl))
theorem rq(r:Rul)(s:Inn):Lens s (N3 r s).1:=by
 unfold N3;exact L_c _ _ _ (Lens.refl s) (Lens.of rfl rfl rfl rfl rfl)
theorem uU(r:Rul)(s:Inn)(n:Int):Lens s (Nw r s n).1:=by
 unfold Nw;exact L_c _ _ _ (Lens.refl s) (L_c _ _ _ (Lens.refl s) (Lens.of rfl rfl rfl rfl rfl))
theorem vH(s:Inn)(n m:Int):Lens s (JN s n m).1:=by
 unfold JN;exact L_c _ _ _ (Lens.refl s) (L_c _ _ _ (Lens.of rfl rfl rfl rfl rfl) (Lens.of rfl rfl rfl rfl rfl))
theorem wV(r:Rul)(s:Inn)(n:Int)(b:Bool):Lens s (OX r s n b).1:=by
 unfold OX;exact L_c _ _ _ (Lens.refl s) (L_c _ _ _ (Lens.of rfl rfl rfl rfl rfl) (Lens.refl s))
theorem vz(r:Rul)(s:Inn)(n m:Int):Lens s (Qy r s n m).1:=by
 unfold Qy;exact L_c _ _ _ (Lens.refl s) (L_c _ _ _ (Lens.refl s) (L_c _ _ _ (Lens.refl s) (Lens.of rfl rfl rfl rfl rfl)))
theorem eZ(r:Rul)(s:Inn)(e:Ev):Lens s (Cx r s e).1:=by
  unfold Cx;exact L_c _ _ _ (AAx ..) (L_c _ _ _ (zZ ..) (L_c _ _ _ (AAM ..) (L_c _ _ _ (L_c _ _ _ (sN ..) (yU ..)) (L_c _ _ _ (wK ..) (L_c _ _ _ (vN ..)
    (L_c _ _ _ (wH ..) (L_c _ _ _ (zG ..) (L_c _ _ _ (rq ..) (L_c _ _ _ (uU ..) (L_c _ _ _ (vH ..) (L_c _ _ _ (wV ..) (vz ..))))))))))))
def Ll(r:Rul)(s:Inn):Bool:=eI r.name r.side r.innings r.overs r.balls r.quota r.wide r.noball r.newball r.followon r.reviews r.outside r.power s.batters s.bowlers s.before s.bowled s.subs s.side s.target s.overs s.runs s.wickets s.wides s.noballs s.byes s.legbyes s.pens s.complete s.inover s.striker s.other s.bowler s.ballage s.keeper s.outside s.rev1 s.rev2 s.ending
def AEn(r:Rul)(s:Inn):Int:=ABS (Ll r s) s.batters s.striker s.other s.target s.overs s.runs s.complete
theorem W7{N:Nat}{r8:Bool}{r0:ByteArray}{r13:Rows}{s18 s20:Bool}(h:Fit s14 s16 s17 s19 s24)(hN:2097152<N)(hs:r0.size≤1048576):Bl N [.str r0,.int r1,.int r2,.int r3,.int r4,.int r5,.int r6,.int r7,.bool r8,.int r9,.int r10,.int r11,.int r12,.rows r13,.int s0,.int s1,.int s2,.int s3,.int s4,.int s5,.int s6,.int s7,.int s8,.int s9,.int s10,.int s11,.int s12,.int s13,.rows s14,.int s15,.rows s16,.rows s17,.bool s18,.rows s19,.bool s20,.int s21,.int s22,.int s23,.rows s24,.int s25,.int s26,.int s27]=some [.bool (Ll (⟨r0,r1,r2,r3,r4,r5,r6,r7,r8,r9,r10,r11,r12,r13⟩:Rul) (⟨s0,s1,s2,s3,s4,s5,s6,s7,s8,s9,s10,s11,s12,s13,s14,s15,s16,s17,s18,s19,s20,s21,s22,s23,s24,s25,s26,s27⟩:Inn))]:=by
 exact VH N _ _ _ _ _ _ _ _ _ _ _ _ _ _ _ _ _ _ _ _ _ _ _ _ _ _ _ _ _ _ _ _ _ _ _ _ _ _ _ _ _ _ hN hs h.bt h.bw h.bf h.bd
theorem iM{N:Nat}{r8:Bool}{r0:ByteArray}{r13:Rows}{s18 s20:Bool}(h:Fit s14 s16 s17 s19 s24)(hN:2097152<N)(hs:r0.size≤1048576):Eo N [.str r0,.int r1,.int r2,.int r3,.int r4,.int r5,.int r6,.int r7,.bool r8,.int r9,.int r10,.int r11,.int r12,.rows r13,.int s0,.int s1,.int s2,.int s3,.int s4,.int s5,.int s6,.int s7,.int s8,.int s9,.int s10,.int s11,.int s12,.int s13,.rows s14,.int s15,.rows s16,.rows s17,.bool s18,.rows s19,.bool s20,.int s21,.int s22,.int s23,.rows s24,.int s25,.int s26,.int s27]=some [.int (AEn (⟨r0,r1,r2,r3,r4,r5,r6,r7,r8,r9,r10,r11,r12,r13⟩:Rul) (⟨s0,s1,s2,s3,s4,s5,s6,s7,s8,s9,s10,s11,s12,s13,s14,s15,s16,s17,s18,s19,s20,s21,s22,s23,s24,s25,s26,s27⟩:Inn))]:=by
 exact gD N _ _ _ _ _ _ _ _ _ _ _ _ _ _ _ _ _ _ _ _ _ _ _ _ _ _ _ _ _ _ _ _ _ _ _ _ _ _ _ _ _ _ hN hs h.bt h.bw h.bf h.bd
def tQ(t:Inn)(b:Bool):Inn:=⟨t.side,t.target,t.overs,t.runs,t.wickets,t.wides,t.noballs,t.byes,t.legbyes,t.pens,t.complete,t.inover,t.striker,t.other,t.batters,t.bowler,t.bowlers,t.before,b,t.bowled,t.freehit,t.ballage,t.keeper,t.outside,t.subs,t.rev1,t.rev2,t.ending⟩
def Cc(r:Rul)(t:Inn)(b:Bool):Inn:={ tQ t b with ending:=cond (t.ending==0) (AEn r (tQ t b)) t.ending }
def kS(s:Inn)(e:Ev):Bool:=e.kind==1||e.kind==12||e.kind==16||(!Dz s.batters && !(e.kind==2))
def A7(r:Rul)(s:Inn)(e:Ev):Inn×Int:=
  cond (!Ll r s || !(evS e==0)) (s,1) (cond (!(s.ending==0)) (s,26) (cond (kS s e) (s,1)
    (cond (!((Cx r s e).2==0)) (s,(Cx r s e).2) (Cc r (Cx r s e).1 (e.kind==4),0))))
set_option maxHeartbeats 4000000 in
theorem RE{N:Nat}{r8:Bool}{r0:ByteArray}{r13:Rows}{s18 s20:Bool}{e4 e12 e17:Bool}(h:Fit s14 s16 s17 s19 s24)(hw:s17.length+s16.length≤1000000)(hN:2097152<N)(hs:r0.size≤1048576)(h13:r13.length≤1048576):Ic N [.str r0,.int r1,.int r2,.int r3,.int r4,.int r5,.int r6,.int r7,.bool r8,.int r9,.int r10,.int r11,.int r12,.rows r13,.int s0,.int s1,.int s2,.int s3,.int s4,.int s5,.int s6,.int s7,.int s8,.int s9,.int s10,.int s11,.int s12,.int s13,.rows s14,.int s15,.rows s16,.rows s17,.bool s18,.rows s19,.bool s20,.int s21,.int s22,.int s23,.rows s24,.int s25,.int s26,.int s27,.int e0,.int e1,.int e2,.int e3,.bool e4,.int e5,.int e6,.int e7,.int e8,.int e9,.int e10,.int e11,.bool e12,.int e13,.int e14,.int e15,.int e16,.bool e17,.int e18]=some (Bo (A7 (⟨r0,r1,r2,r3,r4,r5,r6,r7,r8,r9,r10,r11,r12,r13⟩:Rul) (⟨s0,s1,s2,s3,s4,s5,s6,s7,s8,s9,s10,s11,s12,s13,s14,s15,s16,s17,s18,s19,s20,s21,s22,s23,s24,s25,s26,s27⟩:Inn) (⟨e0,e1,e2,e3,e4,e5,e6,⟨e7,e8,e9,e10,e11,e12,e13,e14,e15,e16,e17,e18⟩⟩:Ev))):=by
 show MA (std (DC N) N) (xOf _)=_;generalize hres:(some (Bo (A7 (⟨r0,r1,r2,r3,r4,r5,r6,r7,r8,r9,r10,r11,r12,r13⟩:Rul) (⟨s0,s1,s2,s3,s4,s5,s6,s7,s8,s9,s10,s11,s12,s13,s14,s15,s16,s17,s18,s19,s20,s21,s22,s23,s24,s25,s26,s27⟩:Inn) (⟨e0,e1,e2,e3,e4,e5,e6,⟨e7,e8,e9,e10,e11,e12,e13,e14,e15,e16,e17,e18⟩⟩:Ev))):Option (List PV))=RR;have l1:=eZ (⟨r0,r1,r2,r3,r4,r5,r6,r7,r8,r9,r10,r11,r12,r13⟩:Rul) (⟨s0,s1,s2,s3,s4,s5,s6,s7,s8,s9,s10,s11,s12,s13,s14,s15,s16,s17,s18,s19,s20,s21,s22,s23,s24,s25,s26,s27⟩:Inn) (⟨e0,e1,e2,e3,e4,e5,e6,⟨e7,e8,e9,e10,e11,e12,e13,e14,e15,e16,e17,e18⟩⟩:Ev);have f1:=Vk l1 h (by grind);simp only[MA,Sy,RH,Qx,Qt,HZ,H9,lq9,std,xOf,PXb,W7 h hN hs,bC hN,C2 h,lI h.bt hN];subst hres;simp only[A7,kS];cases Ll (⟨r0,r1,r2,r3,r4,r5,r6,r7,r8,r9,r10,r11,r12,r13⟩:Rul) (⟨s0,s1,s2,s3,s4,s5,s6,s7,s8,s9,s10,s11,s12,s13,s14,s15,s16,s17,s18,s19,s20,s21,s22,s23,s24,s25,s26,s27⟩:Inn)
 ·rfl
 cases he:evS (⟨e0,e1,e2,e3,e4,e5,e6,⟨e7,e8,e9,e10,e11,e12,e13,e14,e15,e16,e17,e18⟩⟩:Ev)==0
 ·simp only[PXb,PXc,PXn,PXm,Nat.reduceAdd,Int.reduceBEq,he]
 simp only[PXb,PXc,PXn,PXm,Nat.reduceAdd,Int.reduceBEq,he];cases s27==0<;>try rfl
 cases(e0==1||e0==12||e0==16)<;>cases Dz s14<;>cases e0==2<;>try rfl
 all_goals (simp only[PXb,PXc,PXn,PXm,Nat.reduceAdd,Int.reduceBEq,HZ,H9,gI h hw hN hs h13 he,iM f1 hN hs])
 all_goals (unfold Cc tQ;grind)
theorem AFS(L:Rows)(c:Nat):(cut L c).length≤c:=by
 unfold cut;rw[List.length_drop,List.length_take];cases h:iLt (c:Int) (L.length:Int)
 ·simp only[iLt,decide_eq_false_iff_not]at h;omega
 grind
theorem wN{s t:Inn}(r:Rul)(b:Bool)(h:Lens s t):Lens s (Cc r t b):=⟨h.bt,h.bd,h.sb,h.bw,h.bf⟩
theorem W6(r:Rul)(s:Inn)(e:Ev):Lens s (A7 r s e).1:=by
 unfold A7;exact L_c _ _ _ (Lens.refl s) (L_c _ _ _ (Lens.refl s) (L_c _ _ _ (Lens.refl s) (L_c _ _ _ (Lens.refl s) (wN r _ (eZ r s e)))))
theorem Qq{r:Rul}{s:Inn}{e:Ev}(h:((A7 r s e).2==0)=true) :
    Ll r s=true∧(evS e==0)=true∧(s.ending==0)=true∧kS s e=false∧((Cx r s e).2==0)=true∧(A7 r s e).1=Cc r (Cx r s e).1 (e.kind==4):=by
  unfold A7 at h⊢
  grind
end Go.Px
end
