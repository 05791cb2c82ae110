/- Part 10. -/
import Derived.Test.YtejjoflbpnjohaaGreatDoorPart07
import Derived.Test.YtejjoflbpnjohaaGreatDoorPart09
import Derived.Test.YtejjoflbpnjohaaGreatDoorPart08
set_option linter.unusedVariables false
set_option linter.unusedSimpArgs false
variable {s0 s1 s2 s3 s4 s5 s6 s7 s8 s9 s10 s11 s12 s13 s15 s21 s22 s23 s25 s26 s27:Int}
variable {s14 s16 s17 s19 s24:Go.Px.Rows}
variable {r1 r2 r3 r4 r5 r6 r7 r9 r10 r11 r12:Int}
variable {d0 d1 d2 d3 d4 d6 d7 d8 d9 d11:Int}
section
namespace Go.Px
set_option maxRecDepth 100000
def QX:List Nat:=[0,0,0,0,0,1,0,0,0,1]
def HP (O:Alg) (x:Ags O):O.M:=let u1:=(lq9 O 0);(O.c (O.g 48 [] [.int (x.I 1)]) fun c0=>let u0:=(O.h (O.m c0 0));(O.c (O.b (O.h u0) (O.g 48 [] [.int (x.I 2)]) (O.a [.bool O.f])) fun c1=>(O.b (O.i u0 O.j (O.h (O.m c1 0))) (O.a [.int u1,.int u1,.int (lq9 O 2)]) (O.b (O.e (x.I 2) u1) (O.a [.int u1,.int u1,.int (lq9 O 1)]) (O.c (O.g 54 [] [.int (O.ai .i64 (lq9 O 100) (x.I 1)),.int (x.I 2)]) fun c2=>(O.a (cr O c2 [0,0,0] 0)))))))
def Fy:Nat→Env:=eL [(48,KL),(54,MA)]
theorem O4 {N ls}:Fy N 48 [] ls=KL N ls:=id rfl
theorem Pu {N ls}:Fy N 54 [] ls=MA N ls:=id rfl
def HZ:=oS QX HP Fy
def SX:List Nat:=[3]
def IM (O:Alg) (x:Ags O):O.M:=(O.c (O.w (fun s0 c0=>let u0:=(O.d c0 1);(O.b (O.n u0 (O.l (x.L 0))) (O.k (O.r u0 (O.l (x.L 0))) (s0 [.int (O.q .i64 (O.d c0 0) (O.o (x.L 0) u0 1)),.int (O.q .i64 u0 (lq9 O 1))])) (O.a [.int (O.d c0 0)]))) [.int (lq9 O 0),.int (lq9 O 0)]) fun c0=>(O.a [.int (O.d c0 0)]))
def PJ:Nat→Env:=eL []
def Ic:=oS SX IM PJ
def X8:List Nat:=[3]
def OB (O:Alg) (x:Ags O):O.M:=(O.c (O.w (fun s0 c0=>let u0:=(O.d c0 1);(O.b (O.n u0 (O.l (x.L 0))) (O.k (O.r u0 (O.l (x.L 0))) (s0 [.int (O.q .i64 (O.d c0 0) (O.o (x.L 0) u0 1)),.int (O.q .i64 u0 (lq9 O 1))])) (O.a [.int (O.d c0 0)]))) [.int (lq9 O 0),.int (lq9 O 0)]) fun c0=>(O.a [.int (O.d c0 0)]))
def U1:Nat→Env:=eL []
def N5:=oS X8 OB U1
def I7:List Nat:=[3]
def Dl (O:Alg) (x:Ags O):O.M:=let u1:=(lq9 O 0);(O.c (O.g 8 [] []) fun c0=>(O.b (O.h (O.m c0 0)) (O.a [.bool O.f]) (O.c (O.g 13 [] [.rows (x.L 0)]) fun c1=>let u2:=(O.p c1 0);let u0:=(O.l u2);(O.c (O.w (fun s2 c2=>let u3:=(O.d c2 0);(O.b (O.n u3 u0) (O.k (O.r u3 u0) (O.c (O.g 19 [] (rr O u2 u3 [0,0,0,0,0,1,0,0,0,1] 0)) fun c3=>(O.c (O.g 20 [] (rr O u2 u3 [0,0,0,0,0,1,0,0,0,1] 0)) fun c4=>(O.b (O.i (O.i (O.h (O.z (O.e (O.d c3 0) (O.d c4 0)) (O.e (O.d c3 1) (O.d c4 1)))) O.j (O.h (O.e (O.d c3 2) (O.d c4 2)))) O.j (O.i (O.e (O.d c3 2) u1) (O.h (O.e (O.ai .i64 (O.ai .i64 (lq9 O 100) (O.o u2 u3 1)) (O.d c3 1)) (O.ai .i64 (O.d c3 0) (O.o u2 u3 2)))) O.f)) (O.a [.int u1,.bool O.f]) (s2 [.int (O.q .i64 u3 (lq9 O 1))]))))) (O.a [.int (lq9 O 1)]))) [.int u1]) fun c2=>(O.b (O.ab c2 0) (O.a [.bool (O.m c2 1)]) (O.c (O.g 21 [] [.rows u2]) fun c3=>(O.c (O.g 22 [] [.rows u2]) fun c4=>(O.a [.bool (O.e (O.d c3 0) (O.d c4 0))]))))))))
def Az (N:Nat):Env:=fun f fns ls=>(cond (Nat.beq f 8&&Ae fns []) (KM N ls) (cond (Nat.beq f 13&&Ae fns []) (Oe N ls) (cond (Nat.beq f 19&&Ae fns []) (EP N ls) (cond (Nat.beq f 20&&Ae fns []) (HZ N ls) (cond (Nat.beq f 21&&Ae fns []) (Ic N ls) (cond (Nat.beq f 22&&Ae fns []) (N5 N ls) none))))))
theorem NI {N ls}:Az N 8 [] ls=KM N ls:=id rfl
theorem Oz {N ls}:Az N 13 [] ls=Oe N ls:=id rfl
theorem Ii {N ls}:Az N 19 [] ls=EP N ls:=id rfl
theorem KA {N ls}:Az N 20 [] ls=HZ N ls:=id rfl
theorem LM {N ls}:Az N 21 [] ls=Ic N ls:=id rfl
theorem Nl {N ls}:Az N 22 [] ls=N5 N ls:=id rfl
def DW:=oS I7 Dl Az
theorem GX {N:Nat} {s18 s20:Bool} (h:Fit s14 s16 s17 s19 s24):Av N [.int s0,.int s1,.int s2,.int s3,.int s4,.int s5,.int s6,.int s7,.int s8,.int s9,.int s10,.int s11,.int s12,.int s13,.rows s14,.int s15,.rows s16,.rows s17,.bool s18,.rows s19,.bool s20,.int s21,.int s22,.int s23,.rows s24,.int s25,.int s26,.int s27]=some [.int s0,.int s1,.int s2,.int s3,.int s4,.int s5,.int s6,.int s7,.int s8,.int s9,.int s10,.int s11,.int s12,.int s13,.rows s14,.int s15,.rows s16,.rows s17,.bool s18,.rows s19,.bool s20,.int s21,.int s22,.int s23,.rows s24,.int s25,.int s26,.int s27]:=by
 show MC (std (Ge N) N) (xOf _)=_;simp only [MC,LR,Mw,MU,lq9,std,xOf,PXb,PXc,PXn,PXm,Nat.reduceAdd,Int.reduceBEq,AX,Ag,Aa,BZ h.bt (show 1≤4096 by omega),BZ h.bw' (show 8≤4096 by omega),BZ h.bf (show 8≤4096 by omega),BZ h.bd (show 8≤4096 by omega),BZ h.sb (show 1≤4096 by omega)]
theorem Gr {N:Nat} {s18 s20:Bool} {p:Int}  : Au N [.int s0,.int s1,.int s2,.int s3,.int s4,.int s5,.int s6,.int s7,.int s8,.int s9,.int s10,.int s11,.int s12,.int s13,.rows s14,.int s15,.rows s16,.rows s17,.bool s18,.rows s19,.bool s20,.int s21,.int s22,.int s23,.rows s24,.int s25,.int s26,.int s27,.int p]=some [.bool (inR p s14.length)]:=by
 show Jc (std (RD N) N) (xOf _)=_;simp only [Jc,lq9,std,xOf,PXb,PXc,PXn,PXm,Nat.reduceAdd,Int.reduceBEq];rfl
def Aj (s:Inn) (d:Del):Inn :=
  let odd := !(d.runs.tmod 2==0) != d.crossed
  let t:Inn:=cond odd { s with striker:=s.other,other:=s.striker } s
  let k:Bool:=d.how==0
  cond (!k&&(d.victim==1 && !(s.striker==0)))
    { t with striker:=cond odd t.striker 0,other:=cond odd 0 t.other,batters:=cond (inR s.striker s.batters.length) (Np s.batters s.striker 2) s.batters,wickets:=IntKind.i64.wrap (s.wickets+1) }
    (cond (!k&&(d.victim==2 && !(s.other==0)))
      { t with striker:=cond odd 0 t.striker,other:=cond odd t.other 0,batters:=cond (inR s.other s.batters.length) (Np s.batters s.other 2) s.batters,wickets:=IntKind.i64.wrap (s.wickets+1) }
      t)
theorem jF {N:Nat} {s18 s20:Bool} {d5 d10:Bool} (h:Fit s14 s16 s17 s19 s24):I9 N [.int s0,.int s1,.int s2,.int s3,.int s4,.int s5,.int s6,.int s7,.int s8,.int s9,.int s10,.int s11,.int s12,.int s13,.rows s14,.int s15,.rows s16,.rows s17,.bool s18,.rows s19,.bool s20,.int s21,.int s22,.int s23,.rows s24,.int s25,.int s26,.int s27,.int d0,.int d1,.int d2,.int d3,.int d4,.bool d5,.int d6,.int d7,.int d8,.int d9,.bool d10,.int d11]=some (Aj (⟨s0,s1,s2,s3,s4,s5,s6,s7,s8,s9,s10,s11,s12,s13,s14,s15,s16,s17,s18,s19,s20,s21,s22,s23,s24,s25,s26,s27⟩:Inn) (⟨d0,d1,d2,d3,d4,d5,d6,d7,d8,d9,d10,d11⟩:Del)).ls:=by
 show Mp (std (Ja N) N) (xOf _)=_;simp only [Mp,Rd,Pv,lq9,std,xOf,PXb,PXc,PXn,PXm,Nat.reduceAdd,Int.reduceBEq,GX h,Gr,rp h.bt];unfold Aj;cases d5<;>cases d2.tmod 2==0<;>cases d6==0<;>cases d7==1<;>cases d7==2<;>cases s12==0<;>cases s13==0<;>rfl
def H0 (s:Inn):Inn:={ s with striker:=s.other,other:=s.striker }
theorem Zt {N:Nat} {s18 s20:Bool} (h:Fit s14 s16 s17 s19 s24):Fc N [.int s0,.int s1,.int s2,.int s3,.int s4,.int s5,.int s6,.int s7,.int s8,.int s9,.int s10,.int s11,.int s12,.int s13,.rows s14,.int s15,.rows s16,.rows s17,.bool s18,.rows s19,.bool s20,.int s21,.int s22,.int s23,.rows s24,.int s25,.int s26,.int s27]=some (H0 (⟨s0,s1,s2,s3,s4,s5,s6,s7,s8,s9,s10,s11,s12,s13,s14,s15,s16,s17,s18,s19,s20,s21,s22,s23,s24,s25,s26,s27⟩:Inn)).ls:=by
 show IG (std (J0 N) N) (xOf _)=_;simp only [IG,O3,lq9,std,xOf,PXb,PXc,PXn,PXm,Nat.reduceAdd,Int.reduceBEq,GX h];rfl
theorem Yt {N:Nat} {v:Int}  : Ch N [.int v]=some [.bool (!(v==0))]:=by
 show LQ (std (OS N) N) (xOf _)=_;rfl
theorem Xq {N:Nat} {v:Int}  : EA N [.int v]=some [.bool (!(v==0))]:=by
 show J7 (std (M7 N) N) (xOf _)=_;rfl
theorem TO {N:Nat} {s18 s20:Bool} (h:s14.length≤1048576) (hN:2097152<N):Bu N [.int s0,.int s1,.int s2,.int s3,.int s4,.int s5,.int s6,.int s7,.int s8,.int s9,.int s10,.int s11,.int s12,.int s13,.rows s14,.int s15,.rows s16,.rows s17,.bool s18,.rows s19,.bool s20,.int s21,.int s22,.int s23,.rows s24,.int s25,.int s26,.int s27]=some [.bool (CW s14)]:=by
 show EZ (std (En N) N) (xOf _)=_;simp only [EZ,F8,lq9,std,xOf,PXb,PXc,PXn,AF];rw [show CW s14=iLe 0 (O2 (fun i => !(atI s14 i 0==0)) s14.length) from (JX _ _).symm];rw [Option.bind_assoc];refine Ab (C5 (len:=s14.length) (F1 fun i => !(atI s14 i 0==0)) ?_ ?_ s14.length 0 N (by omega) (by omega)) ?_
 ·intro self;simp only [PXb,PXc,PXn,AF,BE]
 ·intro i self hi;simp only [PXb,PXc,PXn,AF,BD (show i≤1099511627776 by omega),A5 hi,AY hi,F1,DH,F8,Yt];cases atI s14 i 0==0<;>rfl
 ·unfold O2;cases B8 (F1 fun i => !(atI s14 i 0==0)) s14.length 0<;>rfl
theorem bH {N:Nat} {s18 s20:Bool} (h:s14.length≤1048576) (hN:2097152<N):Fv N [.int s0,.int s1,.int s2,.int s3,.int s4,.int s5,.int s6,.int s7,.int s8,.int s9,.int s10,.int s11,.int s12,.int s13,.rows s14,.int s15,.rows s16,.rows s17,.bool s18,.rows s19,.bool s20,.int s21,.int s22,.int s23,.rows s24,.int s25,.int s26,.int s27]=some [.bool (CW s14)]:=by
 show IU (std (J6 N) N) (xOf _)=_;simp only [IU,FA,lq9,std,xOf,PXb,PXc,PXn,AF];rw [show CW s14=iLe 0 (O2 (fun i => !(atI s14 i 0==0)) s14.length) from (JX _ _).symm];rw [Option.bind_assoc];refine Ab (C5 (len:=s14.length) (F1 fun i => !(atI s14 i 0==0)) ?_ ?_ s14.length 0 N (by omega) (by omega)) ?_
 ·intro self;simp only [PXb,PXc,PXn,AF,BE]
 ·intro i self hi;simp only [PXb,PXc,PXn,AF,BD (show i≤1099511627776 by omega),A5 hi,AY hi,F1,DH,FA,Xq];cases atI s14 i 0==0<;>rfl
 ·unfold O2;cases B8 (F1 fun i => !(atI s14 i 0==0)) s14.length 0<;>rfl
theorem SW {N:Nat} {s18 s20:Bool} (h:s14.length≤1048576) (hN:2097152<N):BG N [.int s0,.int s1,.int s2,.int s3,.int s4,.int s5,.int s6,.int s7,.int s8,.int s9,.int s10,.int s11,.int s12,.int s13,.rows s14,.int s15,.rows s16,.rows s17,.bool s18,.rows s19,.bool s20,.int s21,.int s22,.int s23,.rows s24,.int s25,.int s26,.int s27]=some [.bool (Gu s14 s12 s13)]:=by
 show Dq (std (EI N) N) (xOf _)=_;simp only [Dq,NT,lq9,std,xOf,PXb,PXc,PXn,PXm,Nat.reduceAdd,Int.reduceBEq,TO h hN];rfl
theorem fA {N:Nat} {s18 s20:Bool} (h:s14.length≤1048576) (hN:2097152<N):Cg N [.int s0,.int s1,.int s2,.int s3,.int s4,.int s5,.int s6,.int s7,.int s8,.int s9,.int s10,.int s11,.int s12,.int s13,.rows s14,.int s15,.rows s16,.rows s17,.bool s18,.rows s19,.bool s20,.int s21,.int s22,.int s23,.rows s24,.int s25,.int s26,.int s27]=some [.rows (DP s14 s14.length)]:=by
 show FL (std (L1 N) N) (xOf _)=_;simp only [FL,lq9,std,xOf,PXb,PXc,PXn,AF];refine Ab (Cu (len:=s14.length) (fun i=>[.rows (DP s14 i),.int (i:Int)]) [.rows (DP s14 s14.length)] ?_ ?_ N (by omega)) rfl
 ·intro self;simp only [PXb,PXc,PXn,AF,BE]
 ·intro i self hi;have h2:(DP s14 i++[[PV.int ((i:Int)+1)]]).length≤4194304:=by have:=Yn s14 i;simp;omega
  simp only [PXb,PXc,PXn,AF,BD (show i≤1099511627776 by omega),A5 hi,AY hi,DH,DP,ID h2 (show 8≤4096 by omega)];cases (atI s14 i 0==0||atI s14 i 0==3)<;>rfl
def OA (s:Inn) (p q:Int):Inn×Int :=
  cond (CW s.batters) (s,1) (cond (!inR p s.batters.length || !inR q s.batters.length) (s,3) (cond (p==q) (s,4)
    ({ s with batters:=Np (Np s.batters p 1) q 1,striker:=p,other:=q },0)))
theorem ee {N:Nat} {s18 s20:Bool} {p:Int} {q:Int} (h:Fit s14 s16 s17 s19 s24) (hN:2097152<N):Hu N [.int s0,.int s1,.int s2,.int s3,.int s4,.int s5,.int s6,.int s7,.int s8,.int s9,.int s10,.int s11,.int s12,.int s13,.rows s14,.int s15,.rows s16,.rows s17,.bool s18,.rows s19,.bool s20,.int s21,.int s22,.int s23,.rows s24,.int s25,.int s26,.int s27,.int p,.int q]=some (BK (OA (⟨s0,s1,s2,s3,s4,s5,s6,s7,s8,s9,s10,s11,s12,s13,s14,s15,s16,s17,s18,s19,s20,s21,s22,s23,s24,s25,s26,s27⟩:Inn) p q)):=by
 show K4 (std (Ft N) N) (xOf _)=_;generalize hres:(some (BK (OA (⟨s0,s1,s2,s3,s4,s5,s6,s7,s8,s9,s10,s11,s12,s13,s14,s15,s16,s17,s18,s19,s20,s21,s22,s23,s24,s25,s26,s27⟩:Inn) p q)):Option (List PV))=RR;simp only [K4,Qm,O9,PG,lq9,std,xOf,PXb,PXc,PXn,PXm,Nat.reduceAdd,Int.reduceBEq,GX h,TO h.bt hN,Gr];subst hres;simp only [OA];cases CW s14<;>try rfl
 cases hp:inR p s14.length<;>cases hq:inR q s14.length<;>try rfl
 rw [Kh hp h.bt,Kh hq h.bt];cases p==q<;>rfl
def Ix (s:Inn) (p:Int):Int :=
 cond (!inR p s.batters.length) 3 (cond (!Gu s.batters s.striker s.other||atI s.batters (ix p) 0==1) 4 (cond (atI s.batters (ix p) 0==2) 5 0))
theorem V0 {N:Nat} {s18 s20:Bool} {p:Int} (h:s14.length≤1048576) (hN:2097152<N):DT N [.int s0,.int s1,.int s2,.int s3,.int s4,.int s5,.int s6,.int s7,.int s8,.int s9,.int s10,.int s11,.int s12,.int s13,.rows s14,.int s15,.rows s16,.rows s17,.bool s18,.rows s19,.bool s20,.int s21,.int s22,.int s23,.rows s24,.int s25,.int s26,.int s27,.int p]=some [.int (Ix (⟨s0,s1,s2,s3,s4,s5,s6,s7,s8,s9,s10,s11,s12,s13,s14,s15,s16,s17,s18,s19,s20,s21,s22,s23,s24,s25,s26,s27⟩:Inn) p)]:=by
 show MI (std (Js N) N) (xOf _)=_;generalize hres:(some [.int (Ix (⟨s0,s1,s2,s3,s4,s5,s6,s7,s8,s9,s10,s11,s12,s13,s14,s15,s16,s17,s18,s19,s20,s21,s22,s23,s24,s25,s26,s27⟩:Inn) p)]:Option (List PV))=RR;simp only [MI,PC,Pj,lq9,std,xOf,PXb,PXc,PXn,PXm,Nat.reduceAdd,Int.reduceBEq,Gr,SW h hN];subst hres;simp only [Ix];cases hp:inR p s14.length<;>try rfl
 rw [Kh hp h];cases Gu s14 s12 s13<;>try rfl
 simp only [PXb,PXc,PXn,PXm,Nat.reduceAdd,Int.reduceBEq,atI,ix]
theorem XC {s:Inn} {p:Int} (h:(Ix s p==0)=true):inR p s.batters.length=true:=by
 unfold Ix at h;cases hp:inR p s.batters.length with
 | true=>rfl
 | false=>rw [hp] at h;cases h
def Kc (s:Inn) (p:Int):Inn×Int :=
 cond (Ix s p==0) ({ s with batters:=Np s.batters p 1,striker:=cond (s.striker==0) p s.striker,other:=cond (s.striker==0) s.other p },0) (s,Ix s p)
def Ej (s:Inn) (p:Int):Inn×Int :=
 cond (Ix s p==0) ({ s with batters:=Np s.batters p 2,wickets:=IntKind.i64.wrap (s.wickets+1) },0) (s,Ix s p)
theorem dX {N:Nat} {s18 s20:Bool} {p:Int} (h:Fit s14 s16 s17 s19 s24) (hN:2097152<N):GP N [.int s0,.int s1,.int s2,.int s3,.int s4,.int s5,.int s6,.int s7,.int s8,.int s9,.int s10,.int s11,.int s12,.int s13,.rows s14,.int s15,.rows s16,.rows s17,.bool s18,.rows s19,.bool s20,.int s21,.int s22,.int s23,.rows s24,.int s25,.int s26,.int s27,.int p]=some (BK (Kc (⟨s0,s1,s2,s3,s4,s5,s6,s7,s8,s9,s10,s11,s12,s13,s14,s15,s16,s17,s18,s19,s20,s21,s22,s23,s24,s25,s26,s27⟩:Inn) p)):=by
 show Ju (std (HA N) N) (xOf _)=_;generalize hres:(some (BK (Kc (⟨s0,s1,s2,s3,s4,s5,s6,s7,s8,s9,s10,s11,s12,s13,s14,s15,s16,s17,s18,s19,s20,s21,s22,s23,s24,s25,s26,s27⟩:Inn) p)):Option (List PV))=RR;simp only [Ju,QA,QD,lq9,std,xOf,PXb,PXc,PXn,PXm,Nat.reduceAdd,Int.reduceBEq,GX h,V0 h.bt hN];subst hres;simp only [Kc];cases hm:Ix (⟨s0,s1,s2,s3,s4,s5,s6,s7,s8,s9,s10,s11,s12,s13,s14,s15,s16,s17,s18,s19,s20,s21,s22,s23,s24,s25,s26,s27⟩:Inn) p==0<;>try rfl
 rw [Kh (XC hm) h.bt];cases s12==0<;>rfl
theorem ZQ {N:Nat} {s18 s20:Bool} {p:Int} (h:Fit s14 s16 s17 s19 s24) (hN:2097152<N):Ee N [.int s0,.int s1,.int s2,.int s3,.int s4,.int s5,.int s6,.int s7,.int s8,.int s9,.int s10,.int s11,.int s12,.int s13,.rows s14,.int s15,.rows s16,.rows s17,.bool s18,.rows s19,.bool s20,.int s21,.int s22,.int s23,.rows s24,.int s25,.int s26,.int s27,.int p]=some (BK (Ej (⟨s0,s1,s2,s3,s4,s5,s6,s7,s8,s9,s10,s11,s12,s13,s14,s15,s16,s17,s18,s19,s20,s21,s22,s23,s24,s25,s26,s27⟩:Inn) p)):=by
 show HQ (std (De N) N) (xOf _)=_;generalize hres:(some (BK (Ej (⟨s0,s1,s2,s3,s4,s5,s6,s7,s8,s9,s10,s11,s12,s13,s14,s15,s16,s17,s18,s19,s20,s21,s22,s23,s24,s25,s26,s27⟩:Inn) p)):Option (List PV))=RR;simp only [HQ,Oh,Mv,OH,lq9,std,xOf,PXb,PXc,PXn,PXm,Nat.reduceAdd,Int.reduceBEq,GX h,V0 h.bt hN,Gr];subst hres;simp only [Ej];cases hm:Ix (⟨s0,s1,s2,s3,s4,s5,s6,s7,s8,s9,s10,s11,s12,s13,s14,s15,s16,s17,s18,s19,s20,s21,s22,s23,s24,s25,s26,s27⟩:Inn) p==0<;>try rfl
 have hk:inR p s14.length=true:=XC hm;rw [Kh hk h.bt,hk];rfl
def FG (s:Inn) (p:Int) (hurt:Bool):Inn×Int :=
  cond (!inR p s.batters.length) (s,3) (cond (s.striker==0||s.other==0) (s,6) (cond (!(p==s.striker) && !(p==s.other)) (s,4)
    (cond (hurt&&((DP s.batters s.batters.length).length:Int)==0) (s,19)
      ({ s with striker:=cond (p==s.striker) 0 s.striker,other:=cond (p==s.striker) s.other 0,batters:=Np s.batters p (cond hurt 3 2),wickets:=cond hurt s.wickets (IntKind.i64.wrap (s.wickets+1)) },0))))
theorem bn {N:Nat} {s18 s20:Bool} {p:Int} {b:Bool} (h:Fit s14 s16 s17 s19 s24) (hN:2097152<N):FX N [.int s0,.int s1,.int s2,.int s3,.int s4,.int s5,.int s6,.int s7,.int s8,.int s9,.int s10,.int s11,.int s12,.int s13,.rows s14,.int s15,.rows s16,.rows s17,.bool s18,.rows s19,.bool s20,.int s21,.int s22,.int s23,.rows s24,.int s25,.int s26,.int s27,.int p,.bool b]=some (BK (FG (⟨s0,s1,s2,s3,s4,s5,s6,s7,s8,s9,s10,s11,s12,s13,s14,s15,s16,s17,s18,s19,s20,s21,s22,s23,s24,s25,s26,s27⟩:Inn) p b)):=by
 show Ig (std (EK N) N) (xOf _)=_;generalize hres:(some (BK (FG (⟨s0,s1,s2,s3,s4,s5,s6,s7,s8,s9,s10,s11,s12,s13,s14,s15,s16,s17,s18,s19,s20,s21,s22,s23,s24,s25,s26,s27⟩:Inn) p b)):Option (List PV))=RR;simp only [Ig,OQ,Oq,Nr,lq9,std,xOf,PXb,PXc,PXn,PXm,Nat.reduceAdd,Int.reduceBEq,GX h,Gr,fA h.bt hN];subst hres;simp only [FG];cases hp:inR p s14.length<;>try rfl
 rw [Kh hp h.bt];cases s12==0<;>cases s13==0<;>try rfl
 cases p==s12<;>cases p==s13<;>cases b<;>try rfl
 all_goals (simp only [PXb,PXc,PXn,PXm,Nat.reduceAdd,Int.reduceBEq];cases ((DP s14 s14.length).length:Int)==0<;>rfl)
def btw (a b c:Int):Bool:=iLe b a&&iLe a c
theorem Dh (N:Nat) (a b c:Int):Ak N [.int a,.int b,.int c]=some [.bool (btw a b c)]:=by
 show some [PV.bool (cond (iLe b a) (iLe a c) false)]=_;rw [Zj];rfl
theorem LC (N:Nat) (a b c:Int):CO N [.int a,.int b,.int c]=some [.bool (btw a b c)]:=by
 show some [PV.bool (cond (iLe b a) (iLe a c) false)]=_;rw [Zj];rfl
def Na (x1 x2 x3 x4 x5 x6 x7 x9 x10 x11 x12:Int):Bool:=btw x1 2 11&&btw x2 1 2&&btw x3 0 90&&btw x4 4 8&&btw x5 0 90&&btw x6 1 5&&btw x7 1 5&&btw x9 0 200&&btw x10 0 1000&&btw x11 0 9&&btw x12 0 11
theorem ZJ (N : Nat) (x0 : ByteArray) (x1 x2 x3 x4 x5 x6 x7 x9 x10 x11 x12 : Int) (x8 : Bool) (x13 : Rows) :
   Fl N [.str x0,.int x1,.int x2,.int x3,.int x4,.int x5,.int x6,.int x7,.bool x8,.int x9,.int x10,.int x11,.int x12,.rows x13]=some [.bool (Na x1 x2 x3 x4 x5 x6 x7 x9 x10 x11 x12)]:=by
  show IV (std (Jy N) N) (xOf _)=_;have e:∀ ls,Jy N 104 [] ls=CO N ls:=fun ls=>rfl
  simp only [IV,lq9,std,xOf,e,LC,PXb,PXc,PXn,AF,Na]
def XK (s:ByteArray) (i:Nat):Bool := !(iLe 65 (N6 s i)&&iLe (N6 s i) 90)&&((i:Int)==0||((!(N6 s i==95) && !(N6 s i==45))&&(iLt (N6 s i) 48||iLt 57 (N6 s i))))
def W0 (s:ByteArray):Bool := !Bf (XK s) s.size 0&&(iLe 1 s.size&&iLe s.size 16)
theorem sU (s:ByteArray):(CF s).length=s.size:=by
 simp only [CF,List.length_map,Array.length_toList];rfl
theorem tI (s:ByteArray) (i:Nat) (h:i<s.size):pvI (AG (CF s) i 0)=N6 s i:=by
 unfold AG Ac AA CF N6;simp only [zzk,List.getElem?_map];have:i<s.data.toList.length:=by simpa using h
 rw [zzn this];simp [zzn this]
theorem fw (N:Nat) (s:ByteArray) (hN:s.size<N) (hs:s.size≤1048576):F4 N [.str s]=some [.bool (W0 s)]:=by
 show Nw (std (U5 N) N) (xOf _)=_;simp only [Nw,lq9,std,xOf,sU,PXb,PXc,PXn,AF];refine Ab (LP (len:=s.size) (XK s) [.bool false] ?_ ?_ N hN) ?_
 ·intro self;simp only [PXb,PXc,PXn,AF,BE]
 ·intro i self hi;simp only [PXb,PXc,PXn,AF,Int.toNat_natCast,tI s i hi,BD (show i≤1099511627776 by omega),A5 hi,AY hi,XK]
 ·unfold W0;cases Bf (XK s) s.size 0<;>rfl
theorem rU {i len:Nat} (h:i<len) (hl:len≤1099511627776):(!iLt 0 (i:Int)||iIn (IntKind.i64.wrap ((i:Int) - 1)) (len:Int))=true:=by
 rw [B9 (by omega) (by omega)];simp only [iLt,iIn,Bool.or_eq_true,Bool.not_eq_true',decide_eq_false_iff_not,decide_eq_true_eq];omega
def qB (L:Rows) (ov:Int) (i:Nat):Bool:=(iLt (atI L i 0) 1||iLt (atI L i 1) (atI L i 0)||iLt ov (atI L i 1)) || !btw (atI L i 2) 0 11
def mf (L:Rows) (i:Nat):Bool:=iLt 0 (i:Int)&&iLe (atI L i 0) (pvI (AG L (IntKind.i64.wrap ((i:Int) - 1)).toNat 1))
def mN (L:Rows) (ov:Int) (i:Nat):Option (List PV):=cond (qB L ov i) (some [.int 2]) (cond (mf L i) (some [.int 8]) none)
def oE:Option (List PV)→Int
 | none=>0
 | some r=>pvI (AA r 0)
def hP (L:Rows) (ov:Int):Int:=cond (iLt 8 (L.length:Int)) 9 (oE (B8 (mN L ov) L.length 0))
theorem aN (o:Option (List PV)):cond (pvI (AA (XR o) 0)==((0:Nat):Int)) (some [PV.int (pvI (AA (XR o) 1))]) (some [PV.int 0])=some [PV.int (oE o)]:=by
 cases o<;>rfl
theorem Zv (N : Nat) (x0 : ByteArray) (x1 x2 x3 x4 x5 x6 x7 x9 x10 x11 x12 : Int) (x8 : Bool) (L : Rows) (hN : 2097152 < N) :
   GZ N [.str x0,.int x1,.int x2,.int x3,.int x4,.int x5,.int x6,.int x7,.bool x8,.int x9,.int x10,.int x11,.int x12,.rows L]=some [.int (hP L x3)]:=by
  show JY (std (LN N) N) (xOf _)=_;have e:∀ ls,LN N 104 [] ls=CO N ls:=fun ls=>rfl
  simp only [JY,lq9,std,xOf,e,LC,PXb,PXc,PXn,AF,hP];cases h8:iLt 8 (L.length:Int) with
  | true=>rfl
  | false =>
    have hl:L.length≤8:=by simp [iLt] at h8;omega
    simp only [cond_false];refine Ab (C5 (len:=L.length) (mN L x3) ?_ ?_ L.length 0 N (by omega) (by omega)) ?_
    · intro self;simp only [PXb,PXc,PXn,AF,BE]
    · intro i self hi;simp only [PXb,PXc,PXn,AF,Int.toNat_natCast,BD (show i≤1099511627776 by omega),A5 hi,AY hi,LC,e,rU hi (by omega)];simp only [mN,qB,mf,atI];cases (iLt (pvI (AG L i 0)) 1||iLt (pvI (AG L i 1)) (pvI (AG L i 0))||iLt x3 (pvI (AG L i 1)) || !btw (pvI (AG L i 2)) 0 11) <;>
      cases (iLt 0 (i:Int)&&iLe (pvI (AG L i 0)) (pvI (AG L (IntKind.i64.wrap ((i:Int) - 1)).toNat 1)))<;>rfl
    · exact aN _
def Lg (x0:ByteArray) (x1 x2 x3 x4 x5 x6 x7 x9 x10 x11 x12:Int) (L:Rows):Int :=
  cond (!W0 x0) 5 (cond (!Na x1 x2 x3 x4 x5 x6 x7 x9 x10 x11 x12) 2
    (cond ((!(x10==0)&&x2==1)||((!(x5==0)||iLt 0 (L.length:Int))&&x3==0)) 1
      (cond (!(x5==0)&&iLt (IntKind.i64.wrap (x5 * x1)) x3) 13 (hP L x3))))
theorem TX (N : Nat) (x0 : ByteArray) (x1 x2 x3 x4 x5 x6 x7 x9 x10 x11 x12 : Int) (x8 : Bool) (L : Rows) (hN : 2097152 < N) (hs : x0.size ≤ 1048576) :
   AP N [.str x0,.int x1,.int x2,.int x3,.int x4,.int x5,.int x6,.int x7,.bool x8,.int x9,.int x10,.int x11,.int x12,.rows L]=some [.int (Lg x0 x1 x2 x3 x4 x5 x6 x7 x9 x10 x11 x12 L)]:=by
  show Ks (std (Fd N) N) (xOf _)=_;have e:∀ ls,Fd N 73 [] ls=F4 N ls:=fun ls=>rfl
  have e2:∀ ls,Fd N 89 [] ls=Fl N ls:=fun ls=>rfl
  have e3:∀ ls,Fd N 90 [] ls=GZ N ls:=fun ls=>rfl
  simp only [Ks,lq9,std,xOf,e,e2,e3,fw N x0 (by omega) hs,ZJ,Zv N _ _ _ _ _ _ _ _ _ _ _ _ _ _ hN,PXb,PXc,AF,Lg];cases W0 x0<;>cases Na x1 x2 x3 x4 x5 x6 x7 x9 x10 x11 x12<;>try rfl
  simp only [PXb,PXc,AF,Bool.not_true];cases (!(x10==0)&&x2==1)<;>cases ((!(x5==0)||iLt 0 (L.length:Int))&&x3==0)<;>try rfl
  cases (!(x5==0)&&iLt (IntKind.i64.wrap (x5 * x1)) x3)<;>rfl
theorem Vu (N:Nat) (L:Rows) (v:Int) (hN:L.length<N) (hl:L.length≤2097152):Dc N [.rows L,.int v]=some [.int (O2 (fun j=>v==atI L j 0) L.length)]:=by
 show Fo (std (Mt N) N) (xOf _)=_;simp only [Fo,lq9,std,xOf,PXb,PXc,PXn,AF];refine Ab (C5 (len:=L.length) (F1 fun j=>v==atI L j 0) ?_ ?_ L.length 0 N (by omega) (by omega)) ?_
 ·intro self;simp only [PXb,PXc,PXn,AF,BE]
 ·intro i self hi;simp only [PXb,PXc,PXn,AF,BD (show i≤1099511627776 by omega),A5 hi,AY hi,F1,DH];cases v==atI L i 0<;>rfl
 ·unfold O2;cases B8 (F1 fun j=>v==atI L j 0) L.length 0<;>rfl
def Jz (L:Rows) (k:Nat) (v:Int):Bool:=Bf (fun j=>v==atI L j 0) k 0
theorem KV (N:Nat) (L:Rows) (v:Int) (hN:L.length<N) (hl:L.length≤2097152):Ap N [.rows L,.int v]=some [.bool (Jz L L.length v)]:=by
 show Dn (std (FE N) N) (xOf _)=_;have e:∀ ls,FE N 198 [] ls=Dc N ls:=fun ls=>rfl
 simp only [Dn,lq9,std,xOf,PXb,PXc,PXn,AF,e,Vu N L v hN hl,JX,Jz]
theorem ob (L:Rows) (i:Nat) (v:Int) (h:i≤L.length):Jz (L.take i) (L.take i).length v=Jz L i v:=by
 rw [List.length_take,Nat.min_eq_left h];exact aW i 0 (fun j _ hj=>by rw [pV (by omega)])
def QF (L:Rows) (n:Int) (i:Nat):Bool := !btw (atI L i 0) 1 n||Jz L i (atI L i 0)
def Kb (L:Rows) (n:Int):Bool := !Bf (QF L n) L.length 0
theorem ML (N:Nat) (L:Rows) (n:Int) (hN:L.length<N) (hl:L.length≤2097152):DG N [.rows L,.int n]=some [.bool (Kb L n)]:=by
 show E2 (std (Dv N) N) (xOf _)=_;have e:∀ ls,Dv N 159 [] ls=Ak N ls:=fun ls=>rfl
 have e2:∀ ls,Dv N 184 [] ls=Ap N ls:=fun ls=>rfl
 simp only [E2,lq9,std,xOf,PXb,PXc,PXn,AF];refine Ab (LP (len:=L.length) (QF L n) [.bool false] ?_ ?_ N hN) ?_
 ·intro self;simp only [PXb,PXc,PXn,AF,BE]
 ·intro i self hi;have h1:(L.take i).length≤L.length:=List.length_take_le' i L;simp only [PXb,PXc,PXn,AF,BD (show i≤1099511627776 by omega),A5 hi,AY hi,e,e2,Dh,tS (Nat.le_of_lt hi),Int.toNat_zero,List.drop_zero,KV N (L.take i) _ (by omega) (by omega),ob L i _ (by omega),DH,QF];cases btw (atI L i 0) 1 n<;>cases Jz L i (atI L i 0)<;>rfl
 ·unfold Kb;cases Bf (QF L n) L.length 0<;>rfl
theorem Xm (N:Nat) (v:Int):Ch N [.int v]=some [.bool (!(v==0))]:=rfl
def lsI (L14 L16 L17 L19 L24:Rows) (b18 b20:Bool) (x0 x1 x2 x3 x4 x5 x6 x7 x8 x9 x10 x11 x12 x13 x15 x21 x22 x23 x25 x26 x27:Int):List PV :=
 [.int x0,.int x1,.int x2,.int x3,.int x4,.int x5,.int x6,.int x7,.int x8,.int x9,.int x10,.int x11,.int x12,.int x13,.rows L14,.int x15,.rows L16,.rows L17,.bool b18,.rows L19,.bool b20,.int x21,.int x22,.int x23,.rows L24,.int x25,.int x26,.int x27]
section
variable (N:Nat) (L14 L16 L17 L19 L24:Rows) (b18 b20:Bool) (x0 x1 x2 x3 x4 x5 x6 x7 x8 x9 x10 x11 x12 x13 x15 x21 x22 x23 x25 x26 x27:Int)
theorem aZ (hN:L14.length<N) (hl:L14.length≤2097152):Bu N (lsI L14 L16 L17 L19 L24 b18 b20 x0 x1 x2 x3 x4 x5 x6 x7 x8 x9 x10 x11 x12 x13 x15 x21 x22 x23 x25 x26 x27)=some [.bool (CW L14)]:=by
 show EZ (std (En N) N) (xOf (lsI ..))=_;have e:∀ ls,En N 262 [] ls=Ch N ls:=fun ls=>rfl
 simp only [EZ,lq9,std,xOf,lsI,PXb,PXc,PXn,AF];rw [show CW L14=iLe 0 (O2 (fun i => !(atI L14 i 0==0)) L14.length) from (JX _ _).symm];rw [Option.bind_assoc];refine Ab (C5 (len:=L14.length) (F1 fun i => !(atI L14 i 0==0)) ?_ ?_ L14.length 0 N (by omega) (by omega)) ?_
 ·intro self;simp only [PXb,PXc,PXn,AF,BE]
 ·intro i self hi;simp only [PXb,PXc,PXn,AF,BD (show i≤1099511627776 by omega),A5 hi,AY hi,F1,DH,e,Xm];cases atI L14 i 0==0<;>rfl
 ·unfold O2;cases B8 (F1 fun i => !(atI L14 i 0==0)) L14.length 0<;>rfl
theorem ZD (hN:L14.length<N) (hl:L14.length≤2097152):BG N (lsI L14 L16 L17 L19 L24 b18 b20 x0 x1 x2 x3 x4 x5 x6 x7 x8 x9 x10 x11 x12 x13 x15 x21 x22 x23 x25 x26 x27)=some [.bool (Gu L14 x12 x13)]:=by
 show Dq (std (EI N) N) (xOf (lsI ..))=_;have e:∀ ls,EI N 235 [] ls=Bu N ls:=fun ls=>rfl
 have:=aZ N L14 L16 L17 L19 L24 b18 b20 x0 x1 x2 x3 x4 x5 x6 x7 x8 x9 x10 x11 x12 x13 x15 x21 x22 x23 x25 x26 x27 hN hl;simp only [lsI] at this;simp only [Dq,lq9,std,xOf,lsI,PXb,PXc,PXn,AF,e,this,Gu]
theorem cd (hN:L14.length<N) (hl:L14.length≤2097152):Cg N (lsI L14 L16 L17 L19 L24 b18 b20 x0 x1 x2 x3 x4 x5 x6 x7 x8 x9 x10 x11 x12 x13 x15 x21 x22 x23 x25 x26 x27)=some [.rows (DP L14 L14.length)]:=by
 show FL (std (L1 N) N) (xOf (lsI ..))=_;simp only [FL,lq9,std,xOf,lsI,PXb,PXc,PXn,AF];refine Ab (Cu (len:=L14.length) (fun i=>[.rows (DP L14 i),.int (i:Int)]) [.rows (DP L14 L14.length)] ?_ ?_ N hN) rfl
 ·intro self;simp only [PXb,PXc,PXn,AF,BE]
 ·intro i self hi;have h2:(DP L14 i++[[PV.int ((i:Int)+1)]]).length≤4194304:=by have:=Yn L14 i;simp;omega
  simp only [PXb,PXc,PXn,AF,BD (show i≤1099511627776 by omega),A5 hi,AY hi,DH,DP,ID h2 (show 8≤4096 by omega)];cases (atI L14 i 0==0||atI L14 i 0==3)<;>rfl
end
theorem Tz (N:Nat) (v:Int):DD N [.int v]=some [.bool (!btw v 0 1000000000)]:=by
 show E3 (std (GU N) N) (xOf _)=_;have e:∀ ls,GU N 159 [] ls=Ak N ls:=fun ls=>rfl
 simp only [E3,lq9,std,xOf,PXb,PXc,PXn,AF,e,Dh]
def pIs (L:Rows) (v:Int) (i:Nat):Bool:=atI L i 0==v
def W5 (s n:Int) (i:Nat):Bool:=s==(i:Int)+1||n==(i:Int)+1
def P2 (L:Rows) (s n:Int) (i:Nat):Bool:=iLt 3 (atI L i 0)||(pIs L 1 i && !W5 s n i)
def cA (L:Rows) (s n:Int) (i:Nat):Bool:=iLt 3 (atI L i 0) || !(pIs L 1 i==W5 s n i)
def ZU (L:Rows):Int:=CV (pIs L 2) L.length
def ins (L:Rows):Int:=CV (pIs L 1) L.length
def two (s n:Int):Int:=cond (!(n==0)) (IntKind.i64.wrap (cond (!(s==0)) (IntKind.i64.wrap (0+1)) 0+1)) (cond (!(s==0)) (IntKind.i64.wrap (0+1)) 0)
def fI (L:Rows) (s n wk k:Int):Bool :=
 !Bf (P2 L s n) L.length 0&&((btw s 0 k&&btw n 0 k)&&(!(s==n && !(s==0))&&((two s n==ins L&&(!CW L||iLt 0 (two s n)))&&ZU L==wk)))
def Xb (L:Rows) (s n wk:Int):Bool :=
 !Bf (cA L s n) L.length 0&&(!((CW L&&iLt (ins L) 1)||(!(s==0)&&s==n))&&wk==ZU L)
def mV (L:Rows):Nat→Bool
 | 0=>false
 | i+1=>mV L i || !(atI L i 0==0)
theorem kl (L:Rows):∀ i,mV L i=Bf (fun j => !(atI L j 0==0)) i 0
 | 0=>rfl
 | i+1=>by rw [WN,Nat.zero_add,← kl L i];rfl
section
variable (N:Nat) (L14 L16 L17 L19 L24:Rows) (b18 b20:Bool) (x0 x1 x2 x3 x4 x5 x6 x7 x8 x9 x10 x11 x12 x13 x15 x21 x22 x23 x25 x26 x27:Int)
theorem Wg (k:Int) (hN:L14.length<N) (hl:L14.length≤2097152):EF N (lsI L14 L16 L17 L19 L24 b18 b20 x0 x1 x2 x3 x4 x5 x6 x7 x8 x9 x10 x11 x12 x13 x15 x21 x22 x23 x25 x26 x27++[.int k])=some [.bool (fI L14 x12 x13 x4 k)]:=by
  simp only [lsI,List.cons_append,List.nil_append];show GL (std (H7 N) N) (xOf _)=_;have e:∀ ls,H7 N 159 [] ls=Ak N ls:=fun ls=>rfl
  simp only [GL,lq9,std,xOf,lsI,PXb,PXc,PXn,AF];refine Ab (fh (len:=L14.length) (fun i=>[.int (CV (pIs L14 2) i),.int (CV (pIs L14 1) i),.bool (mV L14 i),.int (i:Int)])
    (P2 L14 x12 x13) [.int 0,.bool false] [.int 1,.int (ZU L14),.int (ins L14),.bool (CW L14)] ?_ ?_ N hN) ?_
  · intro self;simp only [PXb,PXc,PXn,AF,BE,kl];rfl
  · intro i self hi;simp only [PXb,PXc,AF,BD (show i≤1099511627776 by omega),A5 hi,AY hi,DH,iL (pIs L14 2) (show i≤1099511627776 by omega),iL (pIs L14 1) (show i≤1099511627776 by omega)];unfold P2 pIs W5;simp only [CV,mV];cases h3:iLt 3 (atI L14 i 0) with
    | true=>rfl
    | false =>
      cases h1:atI L14 i 0==1 with
      | true =>
        rw [qf h1];cases x12==(i:Int)+1<;>cases x13==(i:Int)+1<;>rfl
      | false=>cases h2:atI L14 i 0==2<;>rfl
  · unfold fI;simp only [e,Dh];cases Bf (P2 L14 x12 x13) L14.length 0 with
    | true=>rfl
    | false =>
      simp only [PXb,PXc,PXn,AF];unfold two;cases btw x12 0 k<;>cases btw x13 0 k<;>try rfl
      cases x12==0<;>cases x13==0<;>cases x12==x13<;>try rfl
end
theorem qm (s n:Int):two s n=cond (!(s==0)) 1 0+cond (!(n==0)) 1 0:=by
 unfold two;cases s==0<;>cases n==0<;>rfl
theorem qv {s n:Int} {len:Nat} (h1:0≤s∧s≤(len:Int)) (h2:0≤n∧n≤(len:Int)) (hd:(s==n && !(s==0))=false):two s n=CV (W5 s n) len:=by
 have hs:iLe s (len:Int)=true:=by simp only [iLe,decide_eq_true_eq];omega
 have hn:iLe n (len:Int)=true:=by simp only [iLe,decide_eq_true_eq];omega
 unfold W5;rw [mz (p:=fun i=>s==(i:Int)+1) (q:=fun i=>n==(i:Int)+1) len (fun j _ hp=>by
  have e1:s=(j:Int)+1:=by simpa using hp
  show (n==(j:Int)+1)=false;rw [beq_eq_false_iff_ne];intro e2;have e3:(s==n)=true:=by rw [beq_iff_eq];omega
  have e4:(s==0)=false:=by rw [beq_eq_false_iff_ne];omega
  rw [e3,e4] at hd;cases hd),gt s len h1.1,gt n len h2.1,hs,hn,Bool.and_true,Bool.and_true,qm]
theorem qY (x:Int):iLt 0 x = !iLt x 1:=by
 unfold iLt;rw [Bool.eq_iff_iff];simp only [decide_eq_true_eq,Bool.not_eq_true',decide_eq_false_iff_not];omega
theorem pk {L : Rows} {s n : Int} (h1 : 0 ≤ s ∧ s ≤ (L.length : Int)) (h2 : 0 ≤ n ∧ n ≤ (L.length : Int)) (hd : (s == n && !(s == 0)) = false) :
    (!Bf (P2 L s n) L.length 0&&two s n==ins L) = !Bf (cA L s n) L.length 0:=by
  have h2c:=qv h1 h2 hd;rw [Bool.eq_iff_iff];simp only [zzj,Bool.not_eq_true',Jm,beq_iff_eq];constructor
  · intro ⟨ha,hb⟩ j _ hj;have hm:∀ j,j<L.length→pIs L 1 j=true→W5 s n j=true:=fun j hj hp=>by
      have:=ha j (Nat.zero_le _) (by omega);unfold P2 at this;rw [hp] at this;simp only [Bool.or_eq_false_iff,Bool.true_and,Bool.not_eq_false'] at this;exact this.2
    have he:=nM L.length hm (by rw [← h2c,hb];rfl) j (by omega);have:=ha j (Nat.zero_le _) hj;unfold P2 at this;unfold cA;rw [Bool.or_eq_false_iff] at this ⊢;exact ⟨this.1,by rw [he];simp⟩
  · intro ha;have hm:∀ j,j<L.length→pIs L 1 j=W5 s n j:=fun j hj=>by
      have:=ha j (Nat.zero_le _) (by omega);unfold cA at this;rw [Bool.or_eq_false_iff] at this;simpa using this.2
    refine ⟨fun j h0 hj=>?_,?_⟩
    · have:=ha j h0 hj;unfold cA at this;unfold P2;rw [Bool.or_eq_false_iff] at this ⊢;refine ⟨this.1,?_⟩;rw [hm j (by omega)];cases W5 s n j<;>rfl
    · rw [h2c];exact (eM L.length hm).symm
theorem tB (L:Rows) (s n wk k:Int) (hk:(L.length:Int)=k):fI L s n wk k=(btw s 0 k&&btw n 0 k&&Xb L s n wk):=by
 subst hk;unfold fI Xb;cases hs:btw s 0 (L.length:Int) with
 | false=>simp only [Bool.false_and,Bool.and_false]
 | true =>
  cases hn:btw n 0 (L.length:Int) with
  | false=>simp only [Bool.false_and,Bool.and_false]
  | true =>
   have h1:0≤s∧s≤(L.length:Int):=by simpa [btw,iLe] using hs
   have h2:0≤n∧n≤(L.length:Int):=by simpa [btw,iLe] using hn
   simp only [Bool.true_and];cases hd:(s==n && !(s==0)) with
   | true =>
    have:(!(s==0)&&s==n)=true:=by rw [Bool.and_comm];exact hd
    rw [this];simp only [Bool.or_true,Bool.not_true,Bool.false_and,Bool.and_false]
   | false =>
    have:(!(s==0)&&s==n)=false:=by rw [Bool.and_comm];exact hd
    rw [this,← pk h1 h2 hd];simp only [Bool.or_false,Bool.not_false,Bool.true_and];rw [show (wk==ZU L)=(ZU L==wk) from BEq.comm];cases hA:Bf (P2 L s n) L.length 0 with
    | true=>rfl
    | false =>
     cases hB:two s n==ins L with
     | false=>rfl
     | true =>
      rw [beq_iff_eq.1 hB,qY];simp only [Bool.true_and,Bool.not_false,Bool.not_and]
def I8 (v:Int):Bool := !btw v 0 1000000000
def gI (x1 x3 x5 x6 x7 x8 x9 x10 x21 x23 x25 x26:Int):Rows:=[[.int x1],[.int x3],[.int x5],[.int x6],[.int x7],[.int x8],[.int x9],[.int x10],[.int x21],[.int x23],[.int x25],[.int x26]]
section
variable (N:Nat) (L14 L16 L17 L19 L24:Rows) (b18 b20:Bool) (x0 x1 x2 x3 x4 x5 x6 x7 x8 x9 x10 x11 x12 x13 x15 x21 x22 x23 x25 x26 x27:Int)
theorem Vy (hN:2097152<N) (hl:L19.length≤1048576):EJ N (lsI L14 L16 L17 L19 L24 b18 b20 x0 x1 x2 x3 x4 x5 x6 x7 x8 x9 x10 x11 x12 x13 x15 x21 x22 x23 x25 x26 x27)=some [.bool (!(J3 I8 (gI x1 x3 x5 x6 x7 x8 x9 x10 x21 x23 x25 x26)||J3 I8 L19))]:=by
 show GB (std (IC N) N) (xOf (lsI ..))=_;have e:∀ ls,IC N 186 [] ls=DD N ls:=fun ls=>rfl
 rw [← iM];simp only [GB,lq9,std,xOf,lsI,PXb,PXc,PXn,AF,gI];generalize hM:([PV.int x1]::[PV.int x3]::[PV.int x5]::[PV.int x6]::[PV.int x7]::[PV.int x8]::[PV.int x9]::[PV.int x10]::[PV.int x21]::[PV.int x23]::[PV.int x25]::[PV.int x26]::L19:Rows)=M;have hM2:M.length≤2097152:=by rw [← hM];simp only [List.length_cons];omega
 rw [ID (n:=M.length) (by omega) (by omega)];simp only [PXb,PXc,PXn,AF];rw [Option.bind_assoc];refine Ab (C5 (len:=M.length) (F1 fun i=>I8 (atI M i 0)) ?_ ?_ M.length 0 N (by omega) (by omega)) ?_
 ·intro self;simp only [PXb,PXc,PXn,AF,BE]
 ·intro i self hi;simp only [PXb,PXc,PXn,AF,BD (show i≤1099511627776 by omega),A5 hi,AY hi,F1,DH,e,Tz,I8];cases btw (atI M i 0) 0 1000000000<;>rfl
 ·unfold J3;rw [← JX];unfold O2;cases B8 (F1 fun i=>I8 (atI M i 0)) M.length 0<;>rfl
end
def dJ (a3 x2:Int):Bool:=cond (a3==0) (x2==0) (btw x2 1 a3)
def TW (s:ByteArray) (a1 a2 a3 a4 a5 a6 a7 a9 a10 a11 a12:Int) (La L14 L16 L17 L19 L24:Rows) (x0 x1 x2 x3 x4 x5 x6 x7 x8 x9 x10 x11 x12 x13 x15 x21 x22 x23 x25 x26 x27:Int):Bool :=
  Lg s a1 a2 a3 a4 a5 a6 a7 a9 a10 a11 a12 La==0&&(btw x0 1 2&&((L14.length:Int)==a1&&((L19.length:Int)==a1&&((L24.length:Int)==a1&&(!iLt 5 x27 &&
    (btw x12 0 a1&&(btw x13 0 a1&&(Xb L14 x12 x13 x4&&(btw x15 0 a1&&(btw x22 0 a1&&(Kb L16 a1&&(Kb L17 a1&&(dJ a3 x2&&(btw x11 0 (IntKind.i64.wrap (a4 - 1)) &&
      (!J3 I8 (gI x1 x3 x5 x6 x7 x8 x9 x10 x21 x23 x25 x26) && !J3 I8 L19)))))))))))))))
theorem qk {a:Int} (h:0≤a):iLt 0 a = !(a==0):=by
 unfold iLt;rw [Bool.eq_iff_iff];simp only [decide_eq_true_eq,Bool.not_eq_true',beq_eq_false_iff_ne];omega
section
variable (N:Nat) (s:ByteArray) (a1 a2 a3 a4 a5 a6 a7 a9 a10 a11 a12:Int) (a8:Bool) (La:Rows) (L14 L16 L17 L19 L24:Rows) (b18 b20:Bool) (x0 x1 x2 x3 x4 x5 x6 x7 x8 x9 x10 x11 x12 x13 x15 x21 x22 x23 x25 x26 x27:Int)
theorem QU (hN:2097152<N) (hs:s.size≤1048576) (h14:L14.length≤1048576) (h16:L16.length≤1048576) (h17:L17.length≤1048576) (h19:L19.length≤1048576):BI N ([.str s,.int a1,.int a2,.int a3,.int a4,.int a5,.int a6,.int a7,.bool a8,.int a9,.int a10,.int a11,.int a12,.rows La]++lsI L14 L16 L17 L19 L24 b18 b20 x0 x1 x2 x3 x4 x5 x6 x7 x8 x9 x10 x11 x12 x13 x15 x21 x22 x23 x25 x26 x27)=some [.bool (TW s a1 a2 a3 a4 a5 a6 a7 a9 a10 a11 a12 La L14 L16 L17 L19 L24 x0 x1 x2 x3 x4 x5 x6 x7 x8 x9 x10 x11 x12 x13 x15 x21 x22 x23 x25 x26 x27)]:=by
 simp only [lsI,List.cons_append,List.nil_append];show Ih (std (CL N) N) (xOf _)=_;have e1:∀ ls,CL N 61 [] ls=AP N ls:=fun ls=>rfl
 have e2:∀ ls,CL N 159 [] ls=Ak N ls:=fun ls=>rfl
 have e3:∀ ls,CL N 160 [] ls=EF N ls:=fun ls=>rfl
 have e4:∀ ls,CL N 161 [] ls=DG N ls:=fun ls=>rfl
 have e5:∀ ls,CL N 162 [] ls=EJ N ls:=fun ls=>rfl
 have l54:=Wg N L14 L16 L17 L19 L24 b18 b20 x0 x1 x2 x3 x4 x5 x6 x7 x8 x9 x10 x11 x12 x13 x15 x21 x22 x23 x25 x26 x27 a1 (by omega) (by omega);have l56:=Vy N L14 L16 L17 L19 L24 b18 b20 x0 x1 x2 x3 x4 x5 x6 x7 x8 x9 x10 x11 x12 x13 x15 x21 x22 x23 x25 x26 x27 (by omega) (by omega);simp only [lsI,List.cons_append,List.nil_append] at l54 l56;simp only [Ih,lq9,std,xOf,PXb,PXc,PXn,AF,e1,e2,e3,e4,e5,TX N s _ _ _ _ _ _ _ _ _ _ _ _ _ hN hs,Dh,l54,l56,ML N L16 _ (by omega) (by omega),ML N L17 _ (by omega) (by omega)];unfold TW dJ;cases hc:Lg s a1 a2 a3 a4 a5 a6 a7 a9 a10 a11 a12 La==0<;>try rfl
 cases btw x0 1 2<;>try rfl
 cases h14:(L14.length:Int)==a1<;>try rfl
 cases (L19.length:Int)==a1<;>try rfl
 cases (L24.length:Int)==a1<;>try rfl
 cases iLt 5 x27<;>try rfl
 rw [tB L14 x12 x13 x4 a1 (beq_iff_eq.1 h14)];cases btw x12 0 a1<;>try rfl
 cases btw x13 0 a1<;>try rfl
 cases Xb L14 x12 x13 x4<;>try rfl
 cases btw x15 0 a1<;>try rfl
 cases btw x22 0 a1<;>try rfl
 cases Kb L16 a1<;>try rfl
 cases Kb L17 a1<;>try rfl
 cases a3==0<;>cases x2==0<;>cases btw x2 1 a3<;>rfl
end
def oT (v:Bool) (L:Rows) (s n:Int) (x1 x2 x3 x10:Int):Int :=
 cond (!v) 0 (cond (iLt 0 x1&&iLe x1 x3) 3 (cond (Gu L s n&&((DP L L.length).length:Int)==0) 1 (cond (iLt 0 x2&&iLe x2 x10) 2 0)))
theorem tR {c:Int} {n:Nat} (hc:0≤c):iRg 0 (cond (iLt c (n:Int)) c (n:Int)) (n:Int)=true:=by
 cases h:iLt c (n:Int) with
 | true=>simp only [iLt,decide_eq_true_eq] at h;simp only [cond_true,iRg,decide_eq_true_eq];omega
 | false=>simp only [cond_false,iRg,decide_eq_true_eq];omega
def cut (L:Rows) (c:Int):Rows:=(L.take (cond (iLt c (L.length:Int)) c (L.length:Int)).toNat).drop (0:Int).toNat
section
variable (N:Nat) (s:ByteArray) (a1 a2 a3 a4 a5 a6 a7 a9 a10 a11 a12:Int) (a8:Bool) (La:Rows) (L14 L16 L17 L19 L24:Rows) (b18 b20:Bool) (x0 x1 x2 x3 x4 x5 x6 x7 x8 x9 x10 x11 x12 x13 x15 x21 x22 x23 x25 x26 x27:Int)
theorem X0 (hN : 2097152 < N) (hs : s.size ≤ 1048576) (h14 : L14.length ≤ 1048576) (h16 : L16.length ≤ 1048576) (h17 : L17.length ≤ 1048576) (h19 : L19.length ≤ 1048576) : DK N ([.str s, .int a1, .int a2, .int a3, .int a4, .int a5, .int a6, .int a7, .bool a8, .int a9, .int a10, .int a11, .int a12, .rows La] ++ lsI L14 L16 L17 L19 L24 b18 b20 x0 x1 x2 x3 x4 x5 x6 x7 x8 x9 x10 x11 x12 x13 x15 x21 x22 x23 x25 x26 x27) =
    some [.int (oT (TW s a1 a2 a3 a4 a5 a6 a7 a9 a10 a11 a12 La L14 L16 L17 L19 L24 x0 x1 x2 x3 x4 x5 x6 x7 x8 x9 x10 x11 x12 x13 x15 x21 x22 x23 x25 x26 x27) L14 x12 x13 x1 x2 x3 x10)]:=by
  simp only [lsI,List.cons_append,List.nil_append];show HN (std (DY N) N) (xOf _)=_;have e1:∀ ls,DY N 127 [] ls=BI N ls:=fun ls=>rfl
  have e2:∀ ls,DY N 217 [] ls=BG N ls:=fun ls=>rfl
  have e3:∀ ls,DY N 218 [] ls=Cg N ls:=fun ls=>rfl
  have l16:=QU N s a1 a2 a3 a4 a5 a6 a7 a9 a10 a11 a12 a8 La L14 L16 L17 L19 L24 b18 b20 x0 x1 x2 x3 x4 x5 x6 x7 x8 x9 x10 x11 x12 x13 x15 x21 x22 x23 x25 x26 x27 hN hs h14 h16 h17 h19;have l61:=ZD N L14 L16 L17 L19 L24 b18 b20 x0 x1 x2 x3 x4 x5 x6 x7 x8 x9 x10 x11 x12 x13 x15 x21 x22 x23 x25 x26 x27 (by omega) (by omega);have l62:=cd N L14 L16 L17 L19 L24 b18 b20 x0 x1 x2 x3 x4 x5 x6 x7 x8 x9 x10 x11 x12 x13 x15 x21 x22 x23 x25 x26 x27 (by omega) (by omega);simp only [lsI,List.cons_append,List.nil_append] at l16 l61 l62;simp only [HN,lq9,std,xOf,PXb,PXc,PXn,AF,e1,e2,e3,l16,l61,l62,oT];cases TW s a1 a2 a3 a4 a5 a6 a7 a9 a10 a11 a12 La L14 L16 L17 L19 L24 x0 x1 x2 x3 x4 x5 x6 x7 x8 x9 x10 x11 x12 x13 x15 x21 x22 x23 x25 x26 x27<;>try rfl
  cases (iLt 0 x1&&iLe x1 x3)<;>try rfl
  cases Gu L14 x12 x13
  · cases (iLt 0 x2&&iLe x2 x10)<;>rfl
  · simp only [PXb,PXc,PXn,AF];cases ((DP L14 L14.length).length:Int)==0<;>cases (iLt 0 x2&&iLe x2 x10)<;>rfl
end
section
variable (N:Nat) (s:ByteArray) (a1 a2 a3 a4 a5 a6 a7 a9 a10 a11 a12:Int) (a8:Bool) (La:Rows) (L14 L16 L17 L19 L24:Rows) (b18 b20:Bool) (x0 x1 x2 x3 x4 x5 x6 x7 x8 x9 x10 x11 x12 x13 x15 x21 x22 x23 x25 x26 x27:Int)
def CY (a4 x10 x11:Int):Int:=IntKind.i64.wrap (IntKind.i64.wrap (x10 * a4)+x11)
end
def BF (r:Rul):Int:=Lg r.name r.side r.innings r.overs r.balls r.quota r.wide r.noball r.newball r.followon r.reviews r.outside r.power
theorem C2 {N:Nat} {r8:Bool} {r0:ByteArray} {r13:Rows} (hN:2097152<N) (hs:r0.size≤1048576):AP N [.str r0,.int r1,.int r2,.int r3,.int r4,.int r5,.int r6,.int r7,.bool r8,.int r9,.int r10,.int r11,.int r12,.rows r13]=some [.int (BF (⟨r0,r1,r2,r3,r4,r5,r6,r7,r8,r9,r10,r11,r12,r13⟩:Rul))]:=by
 exact TX N _ _ _ _ _ _ _ _ _ _ _ _ _ _ hN hs
theorem S5 {N:Nat} {s18 s20:Bool} (h:Fit s14 s16 s17 s19 s24):CU N [.int s0,.int s1,.int s2,.int s3,.int s4,.int s5,.int s6,.int s7,.int s8,.int s9,.int s10,.int s11,.int s12,.int s13,.rows s14,.int s15,.rows s16,.rows s17,.bool s18,.rows s19,.bool s20,.int s21,.int s22,.int s23,.rows s24,.int s25,.int s26,.int s27]=some [.int s0,.int s1,.int s2,.int s3,.int s4,.int s5,.int s6,.int s7,.int s8,.int s9,.int s10,.int s11,.int s12,.int s13,.rows s14,.int s15,.rows s16,.rows s17,.bool s18,.rows s19,.bool s20,.int s21,.int s22,.int s23,.rows s24,.int s25,.int s26,.int s27]:=by
 show OG (std (Hb N) N) (xOf _)=_;simp only [OG,Lk,Nu,Mz,lq9,std,xOf,PXb,PXc,PXn,PXm,Nat.reduceAdd,Int.reduceBEq,AX,Ag,Aa,BZ h.bt (show 1≤4096 by omega),BZ h.bw' (show 8≤4096 by omega),BZ h.bf (show 8≤4096 by omega),BZ h.bd (show 8≤4096 by omega),BZ h.sb (show 1≤4096 by omega)]
theorem Sf {N:Nat} {s18 s20:Bool} (h:Fit s14 s16 s17 s19 s24):CS N [.int s0,.int s1,.int s2,.int s3,.int s4,.int s5,.int s6,.int s7,.int s8,.int s9,.int s10,.int s11,.int s12,.int s13,.rows s14,.int s15,.rows s16,.rows s17,.bool s18,.rows s19,.bool s20,.int s21,.int s22,.int s23,.rows s24,.int s25,.int s26,.int s27]=some [.int s0,.int s1,.int s2,.int s3,.int s4,.int s5,.int s6,.int s7,.int s8,.int s9,.int s10,.int s11,.int s12,.int s13,.rows s14,.int s15,.rows s16,.rows s17,.bool s18,.rows s19,.bool s20,.int s21,.int s22,.int s23,.rows s24,.int s25,.int s26,.int s27]:=by
 show N9 (std (Hk N) N) (xOf _)=_;simp only [N9,Lq,Nd,M0,lq9,std,xOf,PXb,PXc,PXn,PXm,Nat.reduceAdd,Int.reduceBEq,AX,Ag,Aa,BZ h.bt (show 1≤4096 by omega),BZ h.bw' (show 8≤4096 by omega),BZ h.bf (show 8≤4096 by omega),BZ h.bd (show 8≤4096 by omega),BZ h.sb (show 1≤4096 by omega)]
theorem B3 {N:Nat} {s18 s20:Bool} (h:Fit s14 s16 s17 s19 s24):AO N [.int s0,.int s1,.int s2,.int s3,.int s4,.int s5,.int s6,.int s7,.int s8,.int s9,.int s10,.int s11,.int s12,.int s13,.rows s14,.int s15,.rows s16,.rows s17,.bool s18,.rows s19,.bool s20,.int s21,.int s22,.int s23,.rows s24,.int s25,.int s26,.int s27]=some [.int s0,.int s1,.int s2,.int s3,.int s4,.int s5,.int s6,.int s7,.int s8,.int s9,.int s10,.int s11,.int s12,.int s13,.rows s14,.int s15,.rows s16,.rows s17,.bool s18,.rows s19,.bool s20,.int s21,.int s22,.int s23,.rows s24,.int s25,.int s26,.int s27]:=by
 show II (std (EB N) N) (xOf _)=_;simp only [II,Jn,K6,J9,lq9,std,xOf,PXb,PXc,PXn,PXm,Nat.reduceAdd,Int.reduceBEq,AX,Ag,Aa,BZ h.bt (show 1≤4096 by omega),BZ h.bw' (show 8≤4096 by omega),BZ h.bf (show 8≤4096 by omega),BZ h.bd (show 8≤4096 by omega),BZ h.sb (show 1≤4096 by omega)]
theorem Ow {N:Nat} {s18 s20:Bool} {p:Int}  : Bq N [.int s0,.int s1,.int s2,.int s3,.int s4,.int s5,.int s6,.int s7,.int s8,.int s9,.int s10,.int s11,.int s12,.int s13,.rows s14,.int s15,.rows s16,.rows s17,.bool s18,.rows s19,.bool s20,.int s21,.int s22,.int s23,.rows s24,.int s25,.int s26,.int s27,.int p]=some [.bool (inR p s19.length)]:=by
 show Kv (std (SG N) N) (xOf _)=_;simp only [Kv,lq9,std,xOf,PXb,PXc,PXn,PXm,Nat.reduceAdd,Int.reduceBEq];rfl
theorem Hf {N:Nat} {s18 s20:Bool} {p:Int}  : A1 N [.int s0,.int s1,.int s2,.int s3,.int s4,.int s5,.int s6,.int s7,.int s8,.int s9,.int s10,.int s11,.int s12,.int s13,.rows s14,.int s15,.rows s16,.rows s17,.bool s18,.rows s19,.bool s20,.int s21,.int s22,.int s23,.rows s24,.int s25,.int s26,.int s27,.int p]=some [.bool (inR p s24.length)]:=by
 show Kl (std (SQ N) N) (xOf _)=_;simp only [Kl,lq9,std,xOf,PXb,PXc,PXn,PXm,Nat.reduceAdd,Int.reduceBEq];rfl
def atB (L:Rows) (i j:Nat):Bool:=pvB (AG L i j)
theorem rA (L:Rows) (i j:Nat):pvB (AG L i j)=atB L i j:=rfl
def HB (s:Inn) (p:Int):Bool:=inR p s.subs.length&&atB s.subs (ix p) 0
theorem HY {N:Nat} {s18 s20:Bool} {p:Int} (h:s24.length≤1048576):A0 N [.int s0,.int s1,.int s2,.int s3,.int s4,.int s5,.int s6,.int s7,.int s8,.int s9,.int s10,.int s11,.int s12,.int s13,.rows s14,.int s15,.rows s16,.rows s17,.bool s18,.rows s19,.bool s20,.int s21,.int s22,.int s23,.rows s24,.int s25,.int s26,.int s27,.int p]=some [.bool (HB (⟨s0,s1,s2,s3,s4,s5,s6,s7,s8,s9,s10,s11,s12,s13,s14,s15,s16,s17,s18,s19,s20,s21,s22,s23,s24,s25,s26,s27⟩:Inn) p)]:=by
 show HV (std (JN N) N) (xOf _)=_;generalize hres:(some [.bool (HB (⟨s0,s1,s2,s3,s4,s5,s6,s7,s8,s9,s10,s11,s12,s13,s14,s15,s16,s17,s18,s19,s20,s21,s22,s23,s24,s25,s26,s27⟩:Inn) p)]:Option (List PV))=RR;simp only [HV,Nh,lq9,std,xOf,PXb,PXc,PXn,PXm,Nat.reduceAdd,Int.reduceBEq,Hf,rp h];subst hres;simp only [HB];cases hp:inR p s24.length with
 | false=>rfl
 | true=>first | rfl | (rw [Kh hp h];rfl)
def mW (x:Int):Int:=cond (iLt x 0) 0 x
def bV (r:Rul) (s:Inn) (p:Int):Int :=
 cond (!inR p s.bowled.length || !(BF r==0)) 0 (cond (r.quota==0) (-1) (mW (IntKind.i64.wrap (IntKind.i64.wrap (r.quota * r.balls) - mW (atI s.bowled (ix p) 0)))))
theorem gE {N:Nat} {r8:Bool} {r0:ByteArray} {r13:Rows} {s18 s20:Bool} {p:Int} (h:Fit s14 s16 s17 s19 s24) (hN:2097152<N) (hs:r0.size≤1048576):I3 N [.str r0,.int r1,.int r2,.int r3,.int r4,.int r5,.int r6,.int r7,.bool r8,.int r9,.int r10,.int r11,.int r12,.rows r13,.int s0,.int s1,.int s2,.int s3,.int s4,.int s5,.int s6,.int s7,.int s8,.int s9,.int s10,.int s11,.int s12,.int s13,.rows s14,.int s15,.rows s16,.rows s17,.bool s18,.rows s19,.bool s20,.int s21,.int s22,.int s23,.rows s24,.int s25,.int s26,.int s27,.int p]=some [.int (bV (⟨r0,r1,r2,r3,r4,r5,r6,r7,r8,r9,r10,r11,r12,r13⟩:Rul) (⟨s0,s1,s2,s3,s4,s5,s6,s7,s8,s9,s10,s11,s12,s13,s14,s15,s16,s17,s18,s19,s20,s21,s22,s23,s24,s25,s26,s27⟩:Inn) p)]:=by
 show Mn (std (Jf N) N) (xOf _)=_;generalize hres:(some [.int (bV (⟨r0,r1,r2,r3,r4,r5,r6,r7,r8,r9,r10,r11,r12,r13⟩:Rul) (⟨s0,s1,s2,s3,s4,s5,s6,s7,s8,s9,s10,s11,s12,s13,s14,s15,s16,s17,s18,s19,s20,s21,s22,s23,s24,s25,s26,s27⟩:Inn) p)]:Option (List PV))=RR;simp only [Mn,Qw,Q4,lq9,std,xOf,PXb,PXc,PXn,PXm,Nat.reduceAdd,Int.reduceBEq,C2 hN hs,Ow];subst hres;simp only [bV];cases hp:inR p s19.length with
 | false=>rfl
 | true=>rw [Kh hp h.bd];cases BF (⟨r0,r1,r2,r3,r4,r5,r6,r7,r8,r9,r10,r11,r12,r13⟩:Rul)==0<;>cases r5==0<;>rfl
theorem LW {N:Nat} {L:Rows} {v:Int} (hN:2097152<N) (hl:L.length≤1048576):Ap N [.rows L,.int v]=some [.bool (Jz L L.length v)]:=by
 exact KV N L v (by omega) (by omega)
def ND (r:Rul) (s:Inn) (p:Int):Int :=
  cond (!inR p s.bowled.length || !(BF r==0)) 3 (cond (p==s.keeper||p==s.bowler||HB s p) 7
    (cond (Jz s.before s.before.length p) 8 (cond (!(bV r s p == -1)&&iLt s.inover (IntKind.i64.wrap (r.balls - bV r s p))) 9 0)))
theorem nT {p:Int} {n m:Nat} (h:inR p n=true):inR p m=iLe p (m:Int):=by
 unfold inR at h ⊢;rw [zzj] at h;rw [h.1,Bool.true_and]
theorem jy {N:Nat} {r8:Bool} {r0:ByteArray} {r13:Rows} {s18 s20:Bool} {p:Int} (h:Fit s14 s16 s17 s19 s24) (hN:2097152<N) (hs:r0.size≤1048576):KI N [.str r0,.int r1,.int r2,.int r3,.int r4,.int r5,.int r6,.int r7,.bool r8,.int r9,.int r10,.int r11,.int r12,.rows r13,.int s0,.int s1,.int s2,.int s3,.int s4,.int s5,.int s6,.int s7,.int s8,.int s9,.int s10,.int s11,.int s12,.int s13,.rows s14,.int s15,.rows s16,.rows s17,.bool s18,.rows s19,.bool s20,.int s21,.int s22,.int s23,.rows s24,.int s25,.int s26,.int s27,.int p]=some [.int (ND (⟨r0,r1,r2,r3,r4,r5,r6,r7,r8,r9,r10,r11,r12,r13⟩:Rul) (⟨s0,s1,s2,s3,s4,s5,s6,s7,s8,s9,s10,s11,s12,s13,s14,s15,s16,s17,s18,s19,s20,s21,s22,s23,s24,s25,s26,s27⟩:Inn) p)]:=by
 show N8 (std (FO N) N) (xOf _)=_;generalize hres:(some [.int (ND (⟨r0,r1,r2,r3,r4,r5,r6,r7,r8,r9,r10,r11,r12,r13⟩:Rul) (⟨s0,s1,s2,s3,s4,s5,s6,s7,s8,s9,s10,s11,s12,s13,s14,s15,s16,s17,s18,s19,s20,s21,s22,s23,s24,s25,s26,s27⟩:Inn) p)]:Option (List PV))=RR;simp only [N8,Re,Ls,Rf,Sc,lq9,std,xOf,PXb,PXc,PXn,PXm,Nat.reduceAdd,Int.reduceBEq,C2 hN hs,Ow,gE h hN hs,LW hN h.bf];subst hres;simp only [ND,HB];cases hp:inR p s19.length with
 | false=>rfl
 | true =>
  rw [nT (m:=s24.length) hp];have hq:(!(iLe p (s24.length:Int))||iIn (IntKind.i64.wrap (p - 1)) (s24.length:Int))=true:=by
   cases h1:iLe p (s24.length:Int) with
   | false=>rfl
   | true=>rw [Kh (by rw [nT hp];exact h1) h.sb];rfl
  rw [hq];cases BF (⟨r0,r1,r2,r3,r4,r5,r6,r7,r8,r9,r10,r11,r12,r13⟩:Rul)==0<;>rfl
def T1 (r:Rul) (s:Inn) (p:Int):Inn×Int:=(cond (ND r s p==0) { s with bowler:=p } s,ND r s p)
theorem jH {N:Nat} {r8:Bool} {r0:ByteArray} {r13:Rows} {s18 s20:Bool} {p:Int} (h:Fit s14 s16 s17 s19 s24) (hN:2097152<N) (hs:r0.size≤1048576):JA N [.str r0,.int r1,.int r2,.int r3,.int r4,.int r5,.int r6,.int r7,.bool r8,.int r9,.int r10,.int r11,.int r12,.rows r13,.int s0,.int s1,.int s2,.int s3,.int s4,.int s5,.int s6,.int s7,.int s8,.int s9,.int s10,.int s11,.int s12,.int s13,.rows s14,.int s15,.rows s16,.rows s17,.bool s18,.rows s19,.bool s20,.int s21,.int s22,.int s23,.rows s24,.int s25,.int s26,.int s27,.int p]=some (BK (T1 (⟨r0,r1,r2,r3,r4,r5,r6,r7,r8,r9,r10,r11,r12,r13⟩:Rul) (⟨s0,s1,s2,s3,s4,s5,s6,s7,s8,s9,s10,s11,s12,s13,s14,s15,s16,s17,s18,s19,s20,s21,s22,s23,s24,s25,s26,s27⟩:Inn) p)):=by
 show L8 (std (Jg N) N) (xOf _)=_;generalize hres:(some (BK (T1 (⟨r0,r1,r2,r3,r4,r5,r6,r7,r8,r9,r10,r11,r12,r13⟩:Rul) (⟨s0,s1,s2,s3,s4,s5,s6,s7,s8,s9,s10,s11,s12,s13,s14,s15,s16,s17,s18,s19,s20,s21,s22,s23,s24,s25,s26,s27⟩:Inn) p)):Option (List PV))=RR;simp only [L8,Sq,Sh,lq9,std,xOf,PXb,PXc,PXn,PXm,Nat.reduceAdd,Int.reduceBEq,S5 h,jy h hN hs];subst hres;simp only [T1];cases ND (⟨r0,r1,r2,r3,r4,r5,r6,r7,r8,r9,r10,r11,r12,r13⟩:Rul) (⟨s0,s1,s2,s3,s4,s5,s6,s7,s8,s9,s10,s11,s12,s13,s14,s15,s16,s17,s18,s19,s20,s21,s22,s23,s24,s25,s26,s27⟩:Inn) p==0<;>rfl
def pF (x:Inn×Bool):List PV:=[.int x.1.side,.int x.1.target,.int x.1.overs,.int x.1.runs,.int x.1.wickets,.int x.1.wides,.int x.1.noballs,.int x.1.byes,.int x.1.legbyes,.int x.1.pens,.int x.1.complete,.int x.1.inover,.int x.1.striker,.int x.1.other,.rows x.1.batters,.int x.1.bowler,.rows x.1.bowlers,.rows x.1.before,.bool x.1.fresh,.rows x.1.bowled,.bool x.1.freehit,.int x.1.ballage,.int x.1.keeper,.int x.1.outside,.rows x.1.subs,.int x.1.rev1,.int x.1.rev2,.int x.1.ending,.bool x.2]
def inc (x:Int):Int:=IntKind.i64.wrap (x+1)
def Ao (r:Rul) (s:Inn) (counts:Bool):Inn×Bool :=
  cond (!inR s.bowler s.bowled.length || !(BF r==0)) (s,false)
    (let L:=cond (Jz s.bowlers s.bowlers.length s.bowler) s.bowlers (s.bowlers++[[.int s.bowler]])
     let o:=cond counts (inc s.inover) s.inover
     let t:Inn:={ s with bowlers:=L,bowled:=cond counts (Np s.bowled s.bowler (inc (atI s.bowled (ix s.bowler) 0))) s.bowled,inover:=o,ballage:=cond counts (inc s.ballage) s.ballage }
     cond (iLt o r.balls) (t,false) ({ t with complete:=inc s.complete,inover:=0,before:=L,bowlers:=[],bowler:=0 },true))
theorem fx {N:Nat} {r8:Bool} {r0:ByteArray} {r13:Rows} {s18 s20:Bool} {b:Bool} (h:Fit s14 s16 s17 s19 s24) (hw:s16.length≤1048575) (hN:2097152<N) (hs:r0.size≤1048576):I1 N [.str r0,.int r1,.int r2,.int r3,.int r4,.int r5,.int r6,.int r7,.bool r8,.int r9,.int r10,.int r11,.int r12,.rows r13,.int s0,.int s1,.int s2,.int s3,.int s4,.int s5,.int s6,.int s7,.int s8,.int s9,.int s10,.int s11,.int s12,.int s13,.rows s14,.int s15,.rows s16,.rows s17,.bool s18,.rows s19,.bool s20,.int s21,.int s22,.int s23,.rows s24,.int s25,.int s26,.int s27,.bool b]=some (pF (Ao (⟨r0,r1,r2,r3,r4,r5,r6,r7,r8,r9,r10,r11,r12,r13⟩:Rul) (⟨s0,s1,s2,s3,s4,s5,s6,s7,s8,s9,s10,s11,s12,s13,s14,s15,s16,s17,s18,s19,s20,s21,s22,s23,s24,s25,s26,s27⟩:Inn) b)):=by
 show L0 (std (EY N) N) (xOf _)=_;generalize hres:(some (pF (Ao (⟨r0,r1,r2,r3,r4,r5,r6,r7,r8,r9,r10,r11,r12,r13⟩:Rul) (⟨s0,s1,s2,s3,s4,s5,s6,s7,s8,s9,s10,s11,s12,s13,s14,s15,s16,s17,s18,s19,s20,s21,s22,s23,s24,s25,s26,s27⟩:Inn) b)):Option (List PV))=RR;have ha:(s16++[[PV.int s15]]).length≤1048576:=by simp;omega
 simp only [L0,Qv,LJ,Ss,Ql,lq9,std,xOf,PXb,PXc,PXn,PXm,Nat.reduceAdd,Int.reduceBEq,S5 h,Ow,C2 hN hs,LW hN h.bw',sZ ha (show 8≤4096 by omega)];subst hres;simp only [Ao];cases hp:inR s15 s19.length with
 | false=>rfl
 | true =>
  rw [Kh hp h.bd];cases BF (⟨r0,r1,r2,r3,r4,r5,r6,r7,r8,r9,r10,r11,r12,r13⟩:Rul)==0<;>try rfl
  cases Jz s16 s16.length s15<;>cases b<;>simp only [PXb,PXc,PXn,PXm,Nat.reduceAdd,Int.reduceBEq,inc]
  all_goals first | (cases iLt s11 r4<;>rfl) | (cases iLt (IntKind.i64.wrap (s11+1)) r4<;>rfl)
def LB (r:Rul) (s:Inn):Inn×Int :=
 cond (!(BF r==0)||r.newball==0||iLt s.ballage (IntKind.i64.wrap (r.newball * r.balls))) (s,22) ({ s with ballage:=0 },0)
theorem Zk {N:Nat} {r8:Bool} {r0:ByteArray} {r13:Rows} {s18 s20:Bool} (h:Fit s14 s16 s17 s19 s24) (hN:2097152<N) (hs:r0.size≤1048576):Fp N [.str r0,.int r1,.int r2,.int r3,.int r4,.int r5,.int r6,.int r7,.bool r8,.int r9,.int r10,.int r11,.int r12,.rows r13,.int s0,.int s1,.int s2,.int s3,.int s4,.int s5,.int s6,.int s7,.int s8,.int s9,.int s10,.int s11,.int s12,.int s13,.rows s14,.int s15,.rows s16,.rows s17,.bool s18,.rows s19,.bool s20,.int s21,.int s22,.int s23,.rows s24,.int s25,.int s26,.int s27]=some (BK (LB (⟨r0,r1,r2,r3,r4,r5,r6,r7,r8,r9,r10,r11,r12,r13⟩:Rul) (⟨s0,s1,s2,s3,s4,s5,s6,s7,s8,s9,s10,s11,s12,s13,s14,s15,s16,s17,s18,s19,s20,s21,s22,s23,s24,s25,s26,s27⟩:Inn))):=by
 show IY (std (GH N) N) (xOf _)=_;generalize hres:(some (BK (LB (⟨r0,r1,r2,r3,r4,r5,r6,r7,r8,r9,r10,r11,r12,r13⟩:Rul) (⟨s0,s1,s2,s3,s4,s5,s6,s7,s8,s9,s10,s11,s12,s13,s14,s15,s16,s17,s18,s19,s20,s21,s22,s23,s24,s25,s26,s27⟩:Inn))):Option (List PV))=RR;simp only [IY,Oj,Pk,lq9,std,xOf,PXb,PXc,PXn,PXm,Nat.reduceAdd,Int.reduceBEq,S5 h,C2 hN hs];subst hres;simp only [LB];cases (!(BF (⟨r0,r1,r2,r3,r4,r5,r6,r7,r8,r9,r10,r11,r12,r13⟩:Rul)==0)||r9==0||iLt s21 (IntKind.i64.wrap (r9 * r4)))<;>rfl
def jI (r:Rul) (over:Int):Int :=
 match B8 (fun i=>cond (iLe (atI r.power i 0) (inc over)&&iLe (inc over) (atI r.power i 1)) (some [.int (atI r.power i 2)]) none) r.power.length 0 with
 | some x=>pvI (AA x 0)
 | none=>r.outside
theorem aQ {N:Nat} {r8:Bool} {r0:ByteArray} {r13:Rows} {o:Int} (hN:2097152<N) (h13:r13.length≤1048576):FT N [.str r0,.int r1,.int r2,.int r3,.int r4,.int r5,.int r6,.int r7,.bool r8,.int r9,.int r10,.int r11,.int r12,.rows r13,.int o]=some [.int (jI (⟨r0,r1,r2,r3,r4,r5,r6,r7,r8,r9,r10,r11,r12,r13⟩:Rul) o)]:=by
 show Ia (std (PM N) N) (xOf _)=_;simp only [Ia,lq9,std,xOf,PXb,PXc,PXn,AF];refine Ab (C5 (len:=r13.length) (fun i=>cond (iLe (atI r13 i 0) (inc o)&&iLe (inc o) (atI r13 i 1)) (some [.int (atI r13 i 2)]) none) ?_ ?_ r13.length 0 N (by omega) (by omega)) ?_
 ·intro self;simp only [PXb,PXc,PXn,AF,BE]
 ·intro i self hi;simp only [PXb,PXc,PXn,AF,BD (show i≤1099511627776 by omega),A5 hi,AY hi];cases hq:iLe (atI r13 i 0) (inc o)&&iLe (inc o) (atI r13 i 1)<;>unfold inc atI at hq<;>rw [hq]<;>rfl
 ·unfold jI;cases B8 (fun i=>cond (iLe (atI r13 i 0) (inc o)&&iLe (inc o) (atI r13 i 1)) (some [.int (atI r13 i 2)]) none) r13.length 0<;>rfl
def NR (s:Inn) (p:Int):Inn×Int :=
 cond (!inR p s.subs.length) (s,3) (cond (HB s p) (s,18) (cond (p==s.bowler||p==s.keeper) (s,17) ({ s with keeper:=p },0)))
theorem cY {N:Nat} {s18 s20:Bool} {p:Int} (h:Fit s14 s16 s17 s19 s24):Gb N [.int s0,.int s1,.int s2,.int s3,.int s4,.int s5,.int s6,.int s7,.int s8,.int s9,.int s10,.int s11,.int s12,.int s13,.rows s14,.int s15,.rows s16,.rows s17,.bool s18,.rows s19,.bool s20,.int s21,.int s22,.int s23,.rows s24,.int s25,.int s26,.int s27,.int p]=some (BK (NR (⟨s0,s1,s2,s3,s4,s5,s6,s7,s8,s9,s10,s11,s12,s13,s14,s15,s16,s17,s18,s19,s20,s21,s22,s23,s24,s25,s26,s27⟩:Inn) p)):=by
 show Jt (std (Ew N) N) (xOf _)=_;generalize hres:(some (BK (NR (⟨s0,s1,s2,s3,s4,s5,s6,s7,s8,s9,s10,s11,s12,s13,s14,s15,s16,s17,s18,s19,s20,s21,s22,s23,s24,s25,s26,s27⟩:Inn) p)):Option (List PV))=RR;simp only [Jt,RQ,PD,Mu,lq9,std,xOf,PXb,PXc,PXn,PXm,Nat.reduceAdd,Int.reduceBEq,Sf h,Hf,HY h.sb];subst hres;simp only [NR];cases inR p s24.length<;>cases HB (⟨s0,s1,s2,s3,s4,s5,s6,s7,s8,s9,s10,s11,s12,s13,s14,s15,s16,s17,s18,s19,s20,s21,s22,s23,s24,s25,s26,s27⟩:Inn) p<;>cases p==s15<;>cases p==s22<;>rfl
def Q2 (s:Inn) (p:Int) (on:Bool):Inn×Int :=
  cond (!inR p s.subs.length) (s,3) (cond (HB s p==on) (s,18)
    ({ s with subs:=p9 s.subs p on,keeper:=cond (on&&s.keeper==p) 0 s.keeper,bowler:=cond (on&&s.bowler==p) 0 s.bowler },0))
theorem Wz {N:Nat} {s18 s20:Bool} {p:Int} {b:Bool} (h:Fit s14 s16 s17 s19 s24):Da N [.int s0,.int s1,.int s2,.int s3,.int s4,.int s5,.int s6,.int s7,.int s8,.int s9,.int s10,.int s11,.int s12,.int s13,.rows s14,.int s15,.rows s16,.rows s17,.bool s18,.rows s19,.bool s20,.int s21,.int s22,.int s23,.rows s24,.int s25,.int s26,.int s27,.int p,.bool b]=some (BK (Q2 (⟨s0,s1,s2,s3,s4,s5,s6,s7,s8,s9,s10,s11,s12,s13,s14,s15,s16,s17,s18,s19,s20,s21,s22,s23,s24,s25,s26,s27⟩:Inn) p b)):=by
 show Fw (std (Cs N) N) (xOf _)=_;generalize hres:(some (BK (Q2 (⟨s0,s1,s2,s3,s4,s5,s6,s7,s8,s9,s10,s11,s12,s13,s14,s15,s16,s17,s18,s19,s20,s21,s22,s23,s24,s25,s26,s27⟩:Inn) p b)):Option (List PV))=RR;simp only [Fw,NN,MG,KX,lq9,std,xOf,PXb,PXc,PXn,PXm,Nat.reduceAdd,Int.reduceBEq,Sf h,Hf,HY h.sb];subst hres;simp only [Q2];cases hp:inR p s24.length<;>try rfl
 rw [Kh hp h.sb];cases HB (⟨s0,s1,s2,s3,s4,s5,s6,s7,s8,s9,s10,s11,s12,s13,s14,s15,s16,s17,s18,s19,s20,s21,s22,s23,s24,s25,s26,s27⟩:Inn) p==b<;>cases b<;>cases s22==p<;>cases s15==p<;>rfl
def LI (s:Inn) (n:Int):Inn×Int :=
 cond (iLt n 0||iLt (IntKind.i64.wrap ((s.subs.length:Int) - 2)) n) (s,16) ({ s with outside:=n },0)
theorem Z6 {N:Nat} {s18 s20:Bool} {n:Int} (h:Fit s14 s16 s17 s19 s24):FR N [.int s0,.int s1,.int s2,.int s3,.int s4,.int s5,.int s6,.int s7,.int s8,.int s9,.int s10,.int s11,.int s12,.int s13,.rows s14,.int s15,.rows s16,.rows s17,.bool s18,.rows s19,.bool s20,.int s21,.int s22,.int s23,.rows s24,.int s25,.int s26,.int s27,.int n]=some (BK (LI (⟨s0,s1,s2,s3,s4,s5,s6,s7,s8,s9,s10,s11,s12,s13,s14,s15,s16,s17,s18,s19,s20,s21,s22,s23,s24,s25,s26,s27⟩:Inn) n)):=by
 show IW (std (Jx N) N) (xOf _)=_;generalize hres:(some (BK (LI (⟨s0,s1,s2,s3,s4,s5,s6,s7,s8,s9,s10,s11,s12,s13,s14,s15,s16,s17,s18,s19,s20,s21,s22,s23,s24,s25,s26,s27⟩:Inn) n)):Option (List PV))=RR;simp only [IW,P0,lq9,std,xOf,PXb,PXc,PXn,PXm,Nat.reduceAdd,Int.reduceBEq,Sf h];subst hres;simp only [LI];cases (iLt n 0||iLt (IntKind.i64.wrap ((s24.length:Int) - 2)) n)<;>rfl
def Qx (r:Rul) (s:Inn):Int :=
 cond (!inR s.keeper s.subs.length||HB s s.keeper||s.keeper==s.bowler) 17 (cond (iLt (jI r s.complete) s.outside) 16 0)
theorem eX {N:Nat} {r8:Bool} {r0:ByteArray} {r13:Rows} {s18 s20:Bool} (h:Fit s14 s16 s17 s19 s24) (hN:2097152<N) (h13:r13.length≤1048576):Hj N [.str r0,.int r1,.int r2,.int r3,.int r4,.int r5,.int r6,.int r7,.bool r8,.int r9,.int r10,.int r11,.int r12,.rows r13,.int s0,.int s1,.int s2,.int s3,.int s4,.int s5,.int s6,.int s7,.int s8,.int s9,.int s10,.int s11,.int s12,.int s13,.rows s14,.int s15,.rows s16,.rows s17,.bool s18,.rows s19,.bool s20,.int s21,.int s22,.int s23,.rows s24,.int s25,.int s26,.int s27]=some [.int (Qx (⟨r0,r1,r2,r3,r4,r5,r6,r7,r8,r9,r10,r11,r12,r13⟩:Rul) (⟨s0,s1,s2,s3,s4,s5,s6,s7,s8,s9,s10,s11,s12,s13,s14,s15,s16,s17,s18,s19,s20,s21,s22,s23,s24,s25,s26,s27⟩:Inn))]:=by
 show Kp (std (Fe N) N) (xOf _)=_;generalize hres:(some [.int (Qx (⟨r0,r1,r2,r3,r4,r5,r6,r7,r8,r9,r10,r11,r12,r13⟩:Rul) (⟨s0,s1,s2,s3,s4,s5,s6,s7,s8,s9,s10,s11,s12,s13,s14,s15,s16,s17,s18,s19,s20,s21,s22,s23,s24,s25,s26,s27⟩:Inn))]:Option (List PV))=RR;simp only [Kp,P4,NS,Oo,lq9,std,xOf,PXb,PXc,PXn,PXm,Nat.reduceAdd,Int.reduceBEq,Hf,HY h.sb,aQ hN h13];subst hres;simp only [Qx];cases inR s22 s24.length<;>cases HB (⟨s0,s1,s2,s3,s4,s5,s6,s7,s8,s9,s10,s11,s12,s13,s14,s15,s16,s17,s18,s19,s20,s21,s22,s23,s24,s25,s26,s27⟩:Inn) s22<;>cases s22==s15<;>rfl
def RB (s:Inn) (d:Del):Int :=
  cond (iLt 0 d.fielder && !inR d.fielder s.subs.length) 3 (cond (iLt 0 d.fielder && !(d.sub==HB s d.fielder)) 18
    (cond (iLt 0 d.second && !inR d.second s.subs.length) 3 (cond (iLt 0 d.second&&HB s d.second) 18
      (cond (d.how==4 && !(mW d.fielder==s.keeper)) 17 0))))
theorem eY {N:Nat} {s18 s20:Bool} {d5 d10:Bool} (h:Fit s14 s16 s17 s19 s24):He N [.int s0,.int s1,.int s2,.int s3,.int s4,.int s5,.int s6,.int s7,.int s8,.int s9,.int s10,.int s11,.int s12,.int s13,.rows s14,.int s15,.rows s16,.rows s17,.bool s18,.rows s19,.bool s20,.int s21,.int s22,.int s23,.rows s24,.int s25,.int s26,.int s27,.int d0,.int d1,.int d2,.int d3,.int d4,.bool d5,.int d6,.int d7,.int d8,.int d9,.bool d10,.int d11]=some [.int (RB (⟨s0,s1,s2,s3,s4,s5,s6,s7,s8,s9,s10,s11,s12,s13,s14,s15,s16,s17,s18,s19,s20,s21,s22,s23,s24,s25,s26,s27⟩:Inn) (⟨d0,d1,d2,d3,d4,d5,d6,d7,d8,d9,d10,d11⟩:Del))]:=by
 show K2 (std (IJ N) N) (xOf _)=_;generalize hres:(some [.int (RB (⟨s0,s1,s2,s3,s4,s5,s6,s7,s8,s9,s10,s11,s12,s13,s14,s15,s16,s17,s18,s19,s20,s21,s22,s23,s24,s25,s26,s27⟩:Inn) (⟨d0,d1,d2,d3,d4,d5,d6,d7,d8,d9,d10,d11⟩:Del))]:Option (List PV))=RR;simp only [K2,Pp,Ne,lq9,std,xOf,PXb,PXc,PXn,PXm,Nat.reduceAdd,Int.reduceBEq,Hf,HY h.sb];subst hres;simp only [RB,mW,sE];cases iLt 0 d8<;>cases iLt 0 d9<;>cases inR d8 s24.length<;>cases inR d9 s24.length<;>cases d10==HB (⟨s0,s1,s2,s3,s4,s5,s6,s7,s8,s9,s10,s11,s12,s13,s14,s15,s16,s17,s18,s19,s20,s21,s22,s23,s24,s25,s26,s27⟩:Inn) d8<;>cases HB (⟨s0,s1,s2,s3,s4,s5,s6,s7,s8,s9,s10,s11,s12,s13,s14,s15,s16,s17,s18,s19,s20,s21,s22,s23,s24,s25,s26,s27⟩:Inn) d9<;>rfl
structure Cre where
 batter:Int
 wides:Int
 noballs:Int
 byes:Int
 legbyes:Int
 bowler:Int
 counts:Bool
 faced:Bool
 wicket:Bool
 swap:Bool
def Cre.ls (c:Cre):List PV:=[.int c.batter,.int c.wides,.int c.noballs,.int c.byes,.int c.legbyes,.int c.bowler,.bool c.counts,.bool c.faced,.bool c.wicket,.bool c.swap]
def WP (d:Del):Bool :=
  cond (d.type==2) (d.source==0 && !(d.boundary==6)) (cond (d.source==0) (d.runs==0&&d.boundary==0)
    (cond (d.boundary==0) (iLt 0 d.runs) (cond (d.boundary==6) (d.source==1&&d.runs==0) true)))
def D7 (d:Del):Int :=
  cond (iLt d.type 1||iLt 3 d.type||iLt 3 d.source||iLt 10 d.how || !btw d.sector 0 8) 11
    (cond (!btw d.runs 0 7 || !btw d.short 0 d.runs||(!(d.boundary==0) && !(d.boundary==4) && !(d.boundary==6))) 12
      (cond (!WP d) 11 (cond (!(d.sector==0) && !(d.source==1) && !(d.how==2)) 11 (cond (!(d.boundary==0) && !(d.how==0)) 11
        (cond (d.crossed && !(d.how==6) && !(d.how==8)) 11 0)))))
def KP (d:Del):Bool :=
  cond (d.type==2) (d.source==0 && !(d.boundary==6)) (cond (d.source==0) (d.runs==0&&d.boundary==0)
    (cond (d.source==1) (!(d.boundary==6)||d.runs==0) (!(d.boundary==6)&&(iLt 0 d.runs || !(d.boundary==0)))))
theorem Vo {N:Nat} {d5 d10:Bool}  : DB N [.int d0,.int d1,.int d2,.int d3,.int d4,.bool d5,.int d6,.int d7,.int d8,.int d9,.bool d10,.int d11]=some [.bool (KP (⟨d0,d1,d2,d3,d4,d5,d6,d7,d8,d9,d10,d11⟩:Del))]:=by
 show E4 (std (Le N) N) (xOf _)=_;generalize hres:(some [.bool (KP (⟨d0,d1,d2,d3,d4,d5,d6,d7,d8,d9,d10,d11⟩:Del))]:Option (List PV))=RR;simp only [E4,lq9,std,xOf,PXb,PXc,PXn,PXm,Nat.reduceAdd,Int.reduceBEq];subst hres;simp only [KP]
theorem tZ (x a b:Int):(!btw x a b)=(iLt x a||iLt b x):=by
 unfold btw iLe iLt;rw [Bool.eq_iff_iff];simp only [Bool.not_eq_true',Bool.and_eq_false_iff,decide_eq_false_iff_not,Bool.or_eq_true,decide_eq_true_eq];omega
theorem qi {d:Del} (h:0≤d.runs):(!KP d || !d.type==2&&d.source==1&&d.runs==0&&d.boundary==0) = !WP d:=by
 unfold KP WP;rw [qk h];cases h1:d.source==0 with
 | true =>
  rw [dG h1 (c:=1) rfl];cases d.type==2<;>cases d.runs==0<;>cases d.boundary==0<;>cases d.boundary==6<;>rfl
 | false =>
  cases h2:d.boundary==0 with
  | true =>
   rw [dG h2 (c:=6) rfl];cases d.type==2<;>cases d.source==1<;>cases d.runs==0<;>rfl
  | false=>cases d.type==2<;>cases d.source==1<;>cases d.runs==0<;>cases d.boundary==6<;>rfl
theorem RU {N:Nat} {d5 d10:Bool}  : CC N [.int d0,.int d1,.int d2,.int d3,.int d4,.bool d5,.int d6,.int d7,.int d8,.int d9,.bool d10,.int d11]=some [.int (D7 (⟨d0,d1,d2,d3,d4,d5,d6,d7,d8,d9,d10,d11⟩:Del))]:=by
 show HJ (std (Ip N) N) (xOf _)=_;generalize hres:(some [.int (D7 (⟨d0,d1,d2,d3,d4,d5,d6,d7,d8,d9,d10,d11⟩:Del))]:Option (List PV))=RR;simp only [HJ,J5,lq9,std,xOf,PXb,PXc,PXn,PXm,Nat.reduceAdd,Int.reduceBEq,Vo];subst hres;simp only [D7,tZ,Bool.or_assoc];cases h2:(iLt d2 0||(iLt 7 d2||(iLt d3 0||(iLt d2 d3 || !d4==0 && !d4==4 && !d4==6)))) with
 | true=>rfl
 | false =>
  have h3:0≤d2:=by
   rw [Bool.or_eq_false_iff] at h2;have:=h2.1;simp only [iLt,decide_eq_false_iff_not] at this;omega
  have:=qi (d:=(⟨d0,d1,d2,d3,d4,d5,d6,d7,d8,d9,d10,d11⟩:Del)) h3;simp only at this;rw [this]
theorem Y8 {N:Nat} {a:Int} {b:Int} {c:Int} {d:Int} {e:Int} {x:Int} {p:Bool} {q:Bool} {u:Bool} {v:Bool}  : Ei N [.int a,.int b,.int c,.int d,.int e,.int x,.bool p,.bool q,.bool u,.bool v]=some [.int (IntKind.i64.wrap (IntKind.i64.wrap (IntKind.i64.wrap (IntKind.i64.wrap (a+b)+c)+d)+e))]:=by
 rfl
def Es (c:Cre):Int:=IntKind.i64.wrap (IntKind.i64.wrap (IntKind.i64.wrap (IntKind.i64.wrap (c.batter+c.wides)+c.noballs)+c.byes)+c.legbyes)
def cV (h:Int):Bool:=iLe 1 h&&iLe h 5
theorem Vt {N:Nat} {h:Int}  : DA N [.int h]=some [.bool (cV h)]:=by
 show E1 (std (Lh N) N) (xOf _)=_;simp only [E1,lq9,std,xOf,PXb,PXc,PXn,PXm,Nat.reduceAdd,Int.reduceBEq,cV]
def Ro (r:Rul) (d:Del):Cre :=
  let n:=IntKind.i64.wrap (IntKind.i64.wrap (d.runs - d.short)+d.boundary)
  let b:=cond (!(d.type==2)&&d.source==1) n 0
  let w:=cond (d.type==2) (IntKind.i64.wrap (r.wide+n)) 0
  let o:=cond (d.type==3) r.noball 0
  { batter:=b,wides:=w,noballs:=o,byes:=cond (!(d.type==2)&&d.source==2) n 0,legbyes:=cond (!(d.type==2)&&d.source==3) n 0,bowler:=IntKind.i64.wrap (IntKind.i64.wrap (b+w)+o),
    counts:=d.type==1,faced := !(d.type==2),wicket:=cV d.how,swap := !((!(d.runs.tmod 2==0))==d.crossed) }
def AD (r:Rul) (d:Del):Cre:=cond (!(D7 d==0)) ⟨0,0,0,0,0,0,false,false,false,false⟩ (Ro r d)
theorem lV {d:Del} (h:(D7 d==0)=true):0≤d.runs∧d.runs≤7:=by
 unfold D7 at h;cases h1:(iLt d.type 1||iLt 3 d.type||iLt 3 d.source||iLt 10 d.how || !btw d.sector 0 8) with
 | true=>rw [h1] at h;cases h
 | false =>
  cases h2:(!btw d.runs 0 7 || !btw d.short 0 d.runs||(!(d.boundary==0) && !(d.boundary==4) && !(d.boundary==6))) with
  | true=>rw [h1,h2] at h;cases h
  | false =>
   rw [Bool.or_eq_false_iff,Bool.or_eq_false_iff] at h2;have:=h2.1.1;simp only [btw,iLe,Bool.not_eq_false',zzj,decide_eq_true_eq] at this;exact this
theorem rE {n:Int} (h:0≤n∧n≤7) (b:Bool):((cond b (IntKind.i64.wrap (n+1)) n).tmod 2==1) = !((!(n.tmod 2==0))==b):=by
 obtain ⟨k,rfl⟩:∃ k:Nat,n=k:=⟨n.toNat,by omega⟩;have:k=0∨k=1∨k=2∨k=3∨k=4∨k=5∨k=6∨k=7:=by omega
 rcases this with h | h | h | h | h | h | h | h<;>subst h<;>cases b<;>rfl
theorem PQ {N:Nat} {r8:Bool} {r0:ByteArray} {r13:Rows} {d5 d10:Bool}  : B0 N [.str r0,.int r1,.int r2,.int r3,.int r4,.int r5,.int r6,.int r7,.bool r8,.int r9,.int r10,.int r11,.int r12,.rows r13,.int d0,.int d1,.int d2,.int d3,.int d4,.bool d5,.int d6,.int d7,.int d8,.int d9,.bool d10,.int d11]=some (AD (⟨r0,r1,r2,r3,r4,r5,r6,r7,r8,r9,r10,r11,r12,r13⟩:Rul) (⟨d0,d1,d2,d3,d4,d5,d6,d7,d8,d9,d10,d11⟩:Del)).ls:=by
 show GJ (std (E8 N) N) (xOf _)=_;generalize hres:(some (AD (⟨r0,r1,r2,r3,r4,r5,r6,r7,r8,r9,r10,r11,r12,r13⟩:Rul) (⟨d0,d1,d2,d3,d4,d5,d6,d7,d8,d9,d10,d11⟩:Del)).ls:Option (List PV))=RR;simp only [GJ,LG,JV,lq9,std,xOf,PXb,PXc,PXn,PXm,Nat.reduceAdd,Int.reduceBEq,RU,Vt];subst hres;simp only [AD,Ro];cases hl:D7 (⟨d0,d1,d2,d3,d4,d5,d6,d7,d8,d9,d10,d11⟩:Del)==0 with
 | false=>rfl
 | true =>
  have hs:=rE (lV hl) d5;simp only at hs;simp only [PXb,PXc,PXn,PXm,Nat.reduceAdd,Int.reduceBEq,hs];cases h0:d0==2<;>cases h3:d0==3<;>cases h1:d1==1<;>cases h2:d1==2<;>cases h4:d1==3<;>first
   | rfl
   | (rw [dG h0 (c:=3) rfl] at h3;exact absurd h3 (by decide))
   | (rw [dG h1 (c:=2) rfl] at h2;exact absurd h2 (by decide))
   | (rw [dG h1 (c:=3) rfl] at h4;exact absurd h4 (by decide))
   | (rw [dG h2 (c:=3) rfl] at h4;exact absurd h4 (by decide))
def onS (h t:Int):Bool :=
 cond (h==1||h==2||h==3) (t==1) (cond (h==4||h==5) (t==1||t==2) (cond (h==7) (t==1||t==3) (cond (h==6||h==8) (t==1||t==2||t==3) false)))
def fN (h:Int):Bool:=h==6||h==7||h==8
def NZ (h:Int):Bool:=h==6||h==8
def bz (h:Int):Bool:=h==2||h==4||h==6
def Py (d:Del) (free:Bool):Int :=
  cond (d.how==0) (cond (!(d.victim==0)) 14 (cond (!(d.fielder==0) || !(d.second==0)||d.sub) 15 0))
    (cond (!onS d.how d.type||free && !fN d.how) 13 (cond (!NZ d.how&&(!(d.source==0) || !(d.runs==0))) 12
      (cond (!(d.victim==1) && !(d.victim==2&&NZ d.how)) 14
        (cond (bz d.how && !btw d.fielder 1 11 || !bz d.how && !(d.fielder==0)) 15
          (cond (!(d.second==0)&&(!(d.how==6) || !btw d.second 1 11||d.second==d.fielder)) 15
            (cond (d.sub && !(d.how==2) && !(d.how==6)) 18 0))))))
def Bn:Rows:=match Bd 0 [] with
 | some [.rows l]=>l
 | _=>[]
theorem PK {N:Nat}:Bd N []=some [.rows Bn]:=rfl
theorem Y2:Bn.length=11:=rfl
theorem Ws {N:Nat} {h:Int} {n:ByteArray} {b:Bool} {c:Bool} {d:Bool} {e:Bool} {x:Bool} {t:Int}  : Df N [.int h,.str n,.bool b,.bool c,.bool d,.bool e,.bool x,.int t]=some [.bool (t==1&&b||t==2&&c||t==3&&d)]:=by
 show Fq (std (MX N) N) (xOf _)=_;simp only [Fq,lq9,std,xOf,PXb,PXc,PXn,PXm,Nat.reduceAdd,Int.reduceBEq]
theorem Se {N:Nat} {n:Int}  : CX N [.int n]=some [.bool (btw n 1 11)]:=by
 show DN (std (It N) N) (xOf _)=_;simp only [DN,lq9,std,xOf,PXb,PXc,PXn,PXm,Nat.reduceAdd,Int.reduceBEq];rfl
def lK (i j:Nat):Bool:=pvB (AG Bn i j)
def wOk (t:Int) (free:Bool) (i:Nat):Bool :=
  (t==1&&lK i 2||t==2&&lK i 3||t==3&&lK i 4)&&(!free||atI Bn i 0==6||atI Bn i 0==7||atI Bn i 0==8)
def HC (t:Int) (free:Bool):Nat→Rows
 | 0=>[]
 | i+1=>cond (wOk t free i) (HC t free i++[[.int (atI Bn i 0)]]) (HC t free i)
theorem ZF (t:Int) (free:Bool):∀ i,(HC t free i).length≤i
 | 0=>Nat.le_refl _
 | i+1=>by
  have:=ZF t free i;unfold HC;cases wOk t free i
  ·exact Nat.le_succ_of_le this
  ·simp;exact this
theorem Y0 {N:Nat} {t:Int} {f:Bool} (hN:2097152<N):Ek N [.int t,.bool f]=some [.rows (HC t f 11)]:=by
 show HR (std (Fg N) N) (xOf _)=_;simp only [HR,LH,J8,lq9,std,xOf,PXb,PXc,PXn,AF,PK,Ws];refine Ab (Cu (len:=Bn.length) (fun i=>[.rows (HC t f i),.int (i:Int)]) [.rows (HC t f 11)] ?_ ?_ N (by rw [Y2];omega)) rfl
 ·intro self;simp only [PXb,PXc,PXn,AF,BE];rfl
 ·intro i self hi;have hi2:i<11:=hi;have h2:(HC t f i++[[PV.int (atI Bn i 0)]]).length≤4194304:=by have:=ZF t f i;simp;omega
  simp only [PXb,PXc,AF,BD (show i≤1099511627776 by omega),A5 hi,AY hi,DH,HC,ID h2 (show 1≤4096 by omega)];unfold wOk lK;cases ((t==1&&pvB (AG Bn i 2)||t==2&&pvB (AG Bn i 3)||t==3&&pvB (AG Bn i 4))&&(!f||atI Bn i 0==6||atI Bn i 0==7||atI Bn i 0==8))<;>rfl
theorem Wx {N:Nat} {L:Rows} {v:Int} (hN:L.length<N) (hl:L.length≤1048576):Dd N [.rows L,.int v]=some [.int (O2 (fun j=>v==atI L j 0) L.length)]:=by
 show FQ (std (Mo N) N) (xOf _)=_;simp only [FQ,lq9,std,xOf,PXb,PXc,PXn,AF];refine Ab (C5 (len:=L.length) (F1 fun j=>v==atI L j 0) ?_ ?_ L.length 0 N (by omega) (by omega)) ?_
 ·intro self;simp only [PXb,PXc,PXn,AF,BE]
 ·intro i self hi;simp only [PXb,PXc,PXn,AF,BD (show i≤1099511627776 by omega),A5 hi,AY hi,F1,DH];cases v==atI L i 0<;>rfl
 ·unfold O2;cases B8 (F1 fun j=>v==atI L j 0) L.length 0<;>rfl
theorem TB {N:Nat} {L:Rows} {v:Int} (hN:L.length<N) (hl:L.length≤1048576):Cm N [.rows L,.int v]=some [.bool (Jz L L.length v)]:=by
 show Dx (std (FF N) N) (xOf _)=_;simp only [Dx,H9,lq9,std,xOf,PXb,PXc,PXn,AF,Wx hN hl,JX,Jz]
theorem oi (L:Rows) (v:Int):Jz L L.length v=J3 (fun x=>v==x) L:=rfl
theorem sL (p:Int→Bool) (b:Bool) (L:Rows) (x:Int):J3 p (cond b (L++[[.int x]]) L)=(J3 p L||(b&&p x)):=by
 cases b with
 | false=>simp
 | true=>rw [cond_true,iM,Bool.true_and];congr 1;rw [NY];simp [AA,pvI]
theorem ip (t:Int) (free:Bool) (p:Int→Bool):∀ i,J3 p (HC t free i)=Bf (fun j=>wOk t free j&&p (atI Bn j 0)) i 0
 | 0=>rfl
 | i+1=>by rw [WN,← ip t free p i,HC,sL,Nat.zero_add]
theorem pP (t h:Int) (free:Bool):Jz (HC t free 11) (HC t free 11).length h=(onS h t&&(!free||fN h)):=by
 rw [oi,ip];have key:∀ j,j<11→atI Bn j 0=j:=by
  intro j hj;have:j=0∨j=1∨j=2∨j=3∨j=4∨j=5∨j=6∨j=7∨j=8∨j=9∨j=10:=by omega
  rcases this with h | h | h | h | h | h | h | h | h | h | h<;>subst h<;>rfl
 by_cases hr:0≤h∧h≤10
 ·obtain ⟨k,rfl⟩:∃ k:Nat,h=k:=⟨h.toNat,by omega⟩;have:k=0∨k=1∨k=2∨k=3∨k=4∨k=5∨k=6∨k=7∨k=8∨k=9∨k=10:=by omega
  rcases this with h | h | h | h | h | h | h | h | h | h | h<;>subst h<;>simp only [B1,JR,wOk,onS]<;>cases free<;>cases t==1<;>cases t==2<;>cases t==3<;>rfl
 ·rw [Jm.2 fun j _ hj=>by
   rw [key j (by omega),show (h==(j:Int))=false from beq_false_of_ne (by omega),Bool.and_false]]
  have e:∀ n:Int,0≤n→n≤10→(h==n)=false:=fun n h0 h1=>beq_false_of_ne (by omega)
  unfold onS;rw [e 1 (by omega) (by omega),e 2 (by omega) (by omega),e 3 (by omega) (by omega),e 4 (by omega) (by omega),e 5 (by omega) (by omega),e 6 (by omega) (by omega),e 7 (by omega) (by omega),e 8 (by omega) (by omega)];rfl
def Uh (h:Int):List PV:=match B8 (fun i=>cond (atI Bn i 0==h) (some [.int (pvI (AG Bn i 0)),.str (pvS (AG Bn i 1)),.bool (pvB (AG Bn i 2)),.bool (pvB (AG Bn i 3)),.bool (pvB (AG Bn i 4)),.bool (pvB (AG Bn i 5)),.bool (pvB (AG Bn i 6))]) none) 11 0 with
 | some r=>r
 | none=>[.int 0,.str ⟨#[]⟩,.bool false,.bool false,.bool false,.bool false,.bool false]
theorem P7 {ans:Nat→Option (List PV)} {r:List PV}:∀ (k i:Nat),B8 ans k i=some r→∃ j,i≤j∧j<i+k∧ans j=some r
 | 0,i,h=>by cases h
 | k+1,i,h=>by
  simp only [B8] at h;cases ha:ans i with
  | some x=>rw [ha] at h;cases h;exact ⟨i,Nat.le_refl _,by omega,ha⟩
  | none =>
   rw [ha] at h;obtain ⟨j,h1,h2,h3⟩:=P7 k (i+1) h;exact ⟨j,by omega,by omega,h3⟩
theorem oj (h:Int):∃ a b c d e f g,Uh h=[.int a,.str b,.bool c,.bool d,.bool e,.bool f,.bool g]:=by
 unfold Uh;generalize hf:B8 _ 11 0=o;cases o with
 | none=>exact ⟨_,_,_,_,_,_,_,rfl⟩
 | some r =>
  obtain ⟨j,_,_,h3⟩:=P7 _ _ hf;cases hb:atI Bn j 0==h with
  | false=>rw [hb] at h3;cases h3
  | true=>rw [hb] at h3;cases h3;exact ⟨_,_,_,_,_,_,_,rfl⟩
theorem cK {N:Nat} {h:Int} (hN:2097152<N):DI N [.int h]=some (Uh h):=by
 show Jb (std (LA N) N) (xOf _)=_;simp only [Jb,MS,lq9,std,xOf,PXb,PXc,PXn,AF,PK];refine Ab (C5 (len:=Bn.length) (fun i=>cond (atI Bn i 0==h) (some [.int (pvI (AG Bn i 0)),.str (pvS (AG Bn i 1)),.bool (pvB (AG Bn i 2)),.bool (pvB (AG Bn i 3)),.bool (pvB (AG Bn i 4)),.bool (pvB (AG Bn i 5)),.bool (pvB (AG Bn i 6))]) none) ?_ ?_ Bn.length 0 N (by omega) (by rw [Y2];omega)) ?_
 ·intro self;simp only [PXb,PXc,PXn,AF,BE]
 ·intro i self hi;have hi2:i<11:=hi;simp only [PXb,PXc,PXn,AF,BD (show i≤1099511627776 by omega),A5 hi,AY hi,DH];cases atI Bn i 0==h<;>rfl
 ·unfold Uh;rw [Y2];generalize hf:B8 _ 11 0=o;cases o with
  | none=>rfl
  | some r =>
   obtain ⟨j,_,_,h3⟩:=P7 _ _ hf;cases hb:atI Bn j 0==h with
   | false=>rw [hb] at h3;cases h3
   | true=>rw [hb] at h3;cases h3;rfl
theorem nN (h:Int):pvB (AA (Uh h) 5)=bz h∧pvB (AA (Uh h) 6)=NZ h:=by
 by_cases hr:0≤h∧h≤10
 ·obtain ⟨k,rfl⟩:∃ k:Nat,h=k:=⟨h.toNat,by omega⟩;have:k=0∨k=1∨k=2∨k=3∨k=4∨k=5∨k=6∨k=7∨k=8∨k=9∨k=10:=by omega
  rcases this with h | h | h | h | h | h | h | h | h | h | h<;>subst h<;>exact ⟨rfl,rfl⟩
 ·have e:∀ n:Int,0≤n→n≤10→(h==n)=false:=fun n h0 h1=>beq_false_of_ne (by omega)
  have key:∀ j,j<11→atI Bn j 0=j:=by
   intro j hj;have:j=0∨j=1∨j=2∨j=3∨j=4∨j=5∨j=6∨j=7∨j=8∨j=9∨j=10:=by omega
   rcases this with h | h | h | h | h | h | h | h | h | h | h<;>subst h<;>rfl
  unfold Uh;generalize hf:B8 _ 11 0=o;cases o with
  | none =>
   unfold bz NZ;rw [e 2 (by omega) (by omega),e 4 (by omega) (by omega),e 6 (by omega) (by omega),e 8 (by omega) (by omega)];exact ⟨rfl,rfl⟩
  | some r =>
   obtain ⟨j,_,hj,h3⟩:=P7 _ _ hf;rw [key j (by omega),show ((j:Int)==h)=false from beq_false_of_ne (by omega)] at h3;cases h3
def Ob (d:Del) (m:Bool):Bool :=
 !(!(m==btw d.fielder 1 11) || !m && !(d.fielder==0))&&(d.second==0||d.how==6&&btw d.second 1 11 && !(d.second==d.fielder))
theorem Ux {N:Nat} {d5 d10:Bool} {a:Int} {n:ByteArray} {b:Bool} {c:Bool} {e:Bool} {f:Bool} {g:Bool}  : Cr N [.int d0,.int d1,.int d2,.int d3,.int d4,.bool d5,.int d6,.int d7,.int d8,.int d9,.bool d10,.int d11,.int a,.str n,.bool b,.bool c,.bool e,.bool f,.bool g]=some [.bool (Ob (⟨d0,d1,d2,d3,d4,d5,d6,d7,d8,d9,d10,d11⟩:Del) f)]:=by
 show EM (std (F3 N) N) (xOf _)=_;generalize hres:(some [.bool (Ob (⟨d0,d1,d2,d3,d4,d5,d6,d7,d8,d9,d10,d11⟩:Del) f)]:Option (List PV))=RR;simp only [EM,Gz,lq9,std,xOf,PXb,PXc,PXn,PXm,Nat.reduceAdd,Int.reduceBEq,Se];subst hres;simp only [Ob];cases d9==0<;>cases d6==6<;>cases f<;>cases btw d8 1 11<;>cases d8==0<;>first | rfl | (cases btw d9 1 11<;>rfl)
theorem tK {α:Type} (a b:Bool) (x y:α):cond (a||b) x y=cond a x (cond b x y):=by cases a<;>rfl
theorem kC (d:Del) (m:Bool):(!Ob d m)=((m && !btw d.fielder 1 11 || !m && !(d.fielder==0))||(!(d.second==0)&&(!(d.how==6) || !btw d.second 1 11||d.second==d.fielder))):=by
 unfold Ob;cases hb:btw d.fielder 1 11<;>cases hf:d.fielder==0
 ·cases m<;>cases d.second==0<;>cases d.how==6<;>cases btw d.second 1 11<;>cases d.second==d.fielder<;>rfl
 ·cases m<;>cases d.second==0<;>cases d.how==6<;>cases btw d.second 1 11<;>cases d.second==d.fielder<;>rfl
 ·cases m<;>cases d.second==0<;>cases d.how==6<;>cases btw d.second 1 11<;>cases d.second==d.fielder<;>rfl
 ·rw [beq_iff_eq.1 hf] at hb;exact absurd hb (by decide)
theorem T4 {N:Nat} {d5 d10:Bool} {f:Bool} (hN:2097152<N):Cw N [.int d0,.int d1,.int d2,.int d3,.int d4,.bool d5,.int d6,.int d7,.int d8,.int d9,.bool d10,.int d11,.bool f]=some [.int (Py (⟨d0,d1,d2,d3,d4,d5,d6,d7,d8,d9,d10,d11⟩:Del) f)]:=by
 show EN (std (Bx N) N) (xOf _)=_;generalize hres:(some [.int (Py (⟨d0,d1,d2,d3,d4,d5,d6,d7,d8,d9,d10,d11⟩:Del) f)]:Option (List PV))=RR;have hl:=ZF d0 f 11;obtain ⟨a,b,c,d,e,m,g,hline⟩:=oj d6;have hbits:=nN d6;rw [hline] at hbits;have hm:m=bz d6:=hbits.1;have hg:g=NZ d6:=hbits.2;have h1:(HC d0 f 11).length<N:=by omega
 have h2:(HC d0 f 11).length≤1048576:=by omega
 simp only [EN,KY,HG,JU,Hi,lq9,std,xOf,PXb,PXc,PXn,PXm,Nat.reduceAdd,Int.reduceBEq,cK hN,hline,Y0 hN,TB h1 h2,pP,Ux,kC];subst hres;simp only [Py,tK];rw [hm,hg];unfold NZ;cases d6==0<;>cases onS d6 d0<;>cases f<;>cases fN d6<;>try rfl
 all_goals (cases d6==6<;>cases d6==8<;>cases d7==2<;>rfl)
theorem W9 {N:Nat} {a:Int} {b:Int} {c:Int}  : Dk N [.int a,.int b,.int c]=some [.bool (btw a b c)]:=by
 show Ij (std (Lw N) N) (xOf _)=_;show some [PV.bool (cond (iLe b a) (iLe a c) false)]=_;rw [Zj];rfl
theorem Zo {N:Nat} {a:Int} {b:Int} {c:Int}  : FW N [.int a,.int b,.int c]=some [.bool (btw a b c)]:=by
 show L7 (std (Pc N) N) (xOf _)=_;show some [PV.bool (cond (iLe b a) (iLe a c) false)]=_;rw [Zj];rfl
def fT (d:Del):Int :=
  cond (iLt d.type 1||iLt 3 d.type||iLt 3 d.source||iLt 10 d.how) 3
    (cond (!btw d.runs 0 7 || !btw d.short 0 d.runs||(!(d.boundary==0) && !(d.boundary==4) && !(d.boundary==6)) || !btw d.victim 0 2 || !btw d.fielder 0 11 || !btw d.second 0 11 || !btw d.sector 0 8) 2 0)
theorem ZO {N:Nat} {d5 d10:Bool}  : Er N [.int d0,.int d1,.int d2,.int d3,.int d4,.bool d5,.int d6,.int d7,.int d8,.int d9,.bool d10,.int d11]=some [.int (fT (⟨d0,d1,d2,d3,d4,d5,d6,d7,d8,d9,d10,d11⟩:Del))]:=by
 show HX (std (JH N) N) (xOf _)=_;generalize hres:(some [.int (fT (⟨d0,d1,d2,d3,d4,d5,d6,d7,d8,d9,d10,d11⟩:Del))]:Option (List PV))=RR;simp only [HX,Kd,lq9,std,xOf,PXb,PXc,PXn,PXm,Nat.reduceAdd,Int.reduceBEq,W9];subst hres;simp only [fT]
def loS (k:Int):Int:=cond (k==7) 0 (cond (k==13) 1 0)
def hiS (k:Int):Int:=cond (k==7) 11 (cond (k==13) 99 100000)
theorem dV {N:Nat} {k:Int}  : Gf N [.int k]=some [.int (loS k),.int (hiS k)]:=by
 show Jq (std (RP N) N) (xOf _)=_;simp only [Jq,lq9,std,xOf,PXb,PXc,PXn,PXm,Nat.reduceAdd,Int.reduceBEq];unfold loS hiS;cases k==7<;>cases k==13<;>rfl
def uS (k:Int):Bool:=k==1||k==12||k==14||k==11||k==13
def uP (k:Int):Bool:=k==2||k==3||k==8||k==5||k==6||k==9
def uO (k:Int):Bool:=k==2
def uY (k:Int):Bool:=k==1||k==12||k==14||k==5||k==6||k==9
def uR (k:Int):Bool:=k==7||k==13||k==15
def uV (k:Int):Bool:=k==15
def uB (k:Int):Bool:=k==4
theorem dL {k:Int} (h:(iLt k 1||iLt 16 k)=false):k=1∨k=2∨k=3∨k=4∨k=5∨k=6∨k=7∨k=8∨k=9∨k=10∨k=11∨k=12∨k=13∨k=14∨k=15∨k=16:=by
 simp only [iLt,Bool.or_eq_false_iff,decide_eq_false_iff_not] at h;omega
def lm:Rows:=match FK 0 [] with
 | some [.rows l]=>l
 | _=>[]
theorem ef {N:Nat}:FK N []=some [.rows lm]:=rfl
def C6 (k f:Int):Bool:=iLe 0 (Lib.indexByte (pvS (AG lm (IntKind.u8.wrap (k - 1)).toNat 1)).data.toList f.toNat.toUInt8)||(k==5&&f==121)
theorem Vr {N:Nat} {s:ByteArray} {f:Int}  : DC N [.str s,.int f]=some [.int (Lib.indexByte s.data.toList f.toNat.toUInt8)]:=by
 show E6 (std (GY N) N) (xOf _)=_;simp only [E6,G0,lq9,std,xOf,PXb,PXc,PXn,PXm,Nat.reduceAdd,Int.reduceBEq,CJ,bP]
theorem Wn {N:Nat} {k:Int} {f:Int} (h:(iLt k 1||iLt 16 k)=false):JC N [.int k,.int f]=some [.bool (C6 k f)]:=by
 show L3 (std (JZ N) N) (xOf _)=_;have hi:iIn (IntKind.u8.wrap (k - 1)) (lm.length:Int)=true:=by
  rcases dL h with h | h | h | h | h | h | h | h | h | h | h | h | h | h | h | h<;>subst h<;>rfl
 simp only [L3,MW,Qq,lq9,std,xOf,PXb,PXc,PXn,PXm,Nat.reduceAdd,Int.reduceBEq,ef,Vr,hi,C6]
theorem sJ {k:Int} (h:(iLt k 1||iLt 16 k)=false):C6 k 115=uS k∧C6 k 112=uP k∧C6 k 111=uO k∧C6 k 121=uY k∧C6 k 114=uR k∧C6 k 118=uV k∧C6 k 98=uB k:=by
 rcases dL h with h | h | h | h | h | h | h | h | h | h | h | h | h | h | h | h<;>subst h<;>exact ⟨rfl,rfl,rfl,rfl,rfl,rfl,rfl⟩
def lN (d:Del):Bool:=d.type==0&&(d.source==0&&(d.runs==0&&(d.short==0&&(d.boundary==0&&(d.crossed==false&&(d.how==0&&(d.victim==0&&(d.fielder==0&&(d.second==0&&(d.sub==false&&d.sector==0))))))))))
def iW (e:Ev):Bool:=(!(e.side==0) && !uS e.kind)||((!(e.player==0) && !uP e.kind)||((!(e.other==0) && !uO e.kind)||((e.yes && !uY e.kind)||((!(e.runs==0) && !uR e.kind)||((!(e.overs==0) && !uV e.kind)||(!lN e.ball && !uB e.kind))))))
def Yu (e:Ev):Bool:=(!btw e.side 1 2&&uS e.kind)||((!btw e.player 1 11&&uP e.kind)||((!btw e.other 1 11&&uO e.kind)||((!btw e.runs (loS e.kind) (hiS e.kind)&&uR e.kind)||(!btw e.overs 0 90&&uV e.kind))))
def evS (e:Ev):Int:=cond (iLt e.kind 1||iLt 16 e.kind) 3 (cond (iW e) 1 (cond (Yu e) 2 (cond (e.kind==4) (fT e.ball) 0)))
def evT (e:Ev):Rows:=[[.int 115,.bool (e.side==0),.bool (btw e.side 1 2)],[.int 112,.bool (e.player==0),.bool (btw e.player 1 11)],[.int 111,.bool (e.other==0),.bool (btw e.other 1 11)],[.int 121,.bool (!e.yes),.bool true],[.int 114,.bool (e.runs==0),.bool (btw e.runs (loS e.kind) (hiS e.kind))],[.int 118,.bool (e.overs==0),.bool (btw e.overs 0 90)],[.int 98,.bool (lN e.ball),.bool true]]
theorem VD {N:Nat} {e0 e1 e2 e3 e5 e6 e7 e8 e9 e10 e11 e13 e14 e15 e16 e18:Int} {e4 e12 e17:Bool} (hN:2097152<N):C0 N [.int e0,.int e1,.int e2,.int e3,.bool e4,.int e5,.int e6,.int e7,.int e8,.int e9,.int e10,.int e11,.bool e12,.int e13,.int e14,.int e15,.int e16,.bool e17,.int e18]=some [.int (evS (⟨e0,e1,e2,e3,e4,e5,e6,⟨e7,e8,e9,e10,e11,e12,e13,e14,e15,e16,e17,e18⟩⟩:Ev))]:=by
 show Hp (std (Du N) N) (xOf _)=_;generalize hres:(some [.int (evS (⟨e0,e1,e2,e3,e4,e5,e6,⟨e7,e8,e9,e10,e11,e12,e13,e14,e15,e16,e17,e18⟩⟩:Ev))]:Option (List PV))=RR;cases hk:iLt e0 1||iLt 16 e0 with
 | true =>
  simp only [Hp,Hn,G6,I5,DJ,lq9,std,xOf,PXb,PXc,AF,hk,← hres,evS]
 | false =>
  simp only [Hp,Hn,G6,I5,DJ,lq9,std,xOf,PXb,PXc,AF,hk,dV,Zo];subst hres;obtain ⟨g1,g2,g3,g4,g5,g6,g7⟩:=sJ hk;refine Ab (LP (len:=7) (fun i => !pvB (AG (evT (⟨e0,e1,e2,e3,e4,e5,e6,⟨e7,e8,e9,e10,e11,e12,e13,e14,e15,e16,e17,e18⟩⟩:Ev)) i 1) && !C6 e0 (pvI (AG (evT (⟨e0,e1,e2,e3,e4,e5,e6,⟨e7,e8,e9,e10,e11,e12,e13,e14,e15,e16,e17,e18⟩⟩:Ev)) i 0))) [.int 1] ?_ ?_ N (by omega)) ?_
  ·intro self;rfl
  ·intro i self hi;simp only [PXb,PXc,AF,BD (show i≤1099511627776 by omega),List.length_cons,List.length_nil,Nat.reduceAdd,A5 hi,AY hi,Wn hk];change cond (!pvB (AG (evT (⟨e0,e1,e2,e3,e4,e5,e6,⟨e7,e8,e9,e10,e11,e12,e13,e14,e15,e16,e17,e18⟩⟩:Ev)) i 1) && !(!pvB (AG (evT (⟨e0,e1,e2,e3,e4,e5,e6,⟨e7,e8,e9,e10,e11,e12,e13,e14,e15,e16,e17,e18⟩⟩:Ev)) i 1)&&C6 e0 (pvI (AG (evT (⟨e0,e1,e2,e3,e4,e5,e6,⟨e7,e8,e9,e10,e11,e12,e13,e14,e15,e16,e17,e18⟩⟩:Ev)) i 0)))) _ _=_;cases pvB (AG (evT (⟨e0,e1,e2,e3,e4,e5,e6,⟨e7,e8,e9,e10,e11,e12,e13,e14,e15,e16,e17,e18⟩⟩:Ev)) i 1)<;>rfl
  ·have a1:Bf (fun i => !pvB (AG (evT (⟨e0,e1,e2,e3,e4,e5,e6,⟨e7,e8,e9,e10,e11,e12,e13,e14,e15,e16,e17,e18⟩⟩:Ev)) i 1) && !C6 e0 (pvI (AG (evT (⟨e0,e1,e2,e3,e4,e5,e6,⟨e7,e8,e9,e10,e11,e12,e13,e14,e15,e16,e17,e18⟩⟩:Ev)) i 0))) 7 0=iW (⟨e0,e1,e2,e3,e4,e5,e6,⟨e7,e8,e9,e10,e11,e12,e13,e14,e15,e16,e17,e18⟩⟩:Ev):=by
    simp only [B1,JR];change (!(e1==0) && !C6 e0 115||(!(e2==0) && !C6 e0 112||(!(e3==0) && !C6 e0 111||(!(!e4) && !C6 e0 121||(!(e5==0) && !C6 e0 114||(!(e6==0) && !C6 e0 118||(!(lN (⟨e0,e1,e2,e3,e4,e5,e6,⟨e7,e8,e9,e10,e11,e12,e13,e14,e15,e16,e17,e18⟩⟩:Ev).ball) && !C6 e0 98||false)))))))=_;rw [g1,g2,g3,g4,g5,g6,g7,Bool.not_not,Bool.or_false];rfl
   rw [a1];simp only [evS,hk,cond_false];cases iW (⟨e0,e1,e2,e3,e4,e5,e6,⟨e7,e8,e9,e10,e11,e12,e13,e14,e15,e16,e17,e18⟩⟩:Ev) with
   | true=>rfl
   | false =>
    simp only [PXb,PXc,AF];refine Ab (LP (len:=7) (fun i => !pvB (AG (evT (⟨e0,e1,e2,e3,e4,e5,e6,⟨e7,e8,e9,e10,e11,e12,e13,e14,e15,e16,e17,e18⟩⟩:Ev)) i 2)&&C6 e0 (pvI (AG (evT (⟨e0,e1,e2,e3,e4,e5,e6,⟨e7,e8,e9,e10,e11,e12,e13,e14,e15,e16,e17,e18⟩⟩:Ev)) i 0))) [.int 2] ?_ ?_ N (by omega)) ?_
    ·intro self;rfl
    ·intro i self hi;simp only [PXb,PXc,AF,BD (show i≤1099511627776 by omega),List.length_cons,List.length_nil,Nat.reduceAdd,A5 hi,AY hi,Wn hk];rfl
    ·have a2:Bf (fun i => !pvB (AG (evT (⟨e0,e1,e2,e3,e4,e5,e6,⟨e7,e8,e9,e10,e11,e12,e13,e14,e15,e16,e17,e18⟩⟩:Ev)) i 2)&&C6 e0 (pvI (AG (evT (⟨e0,e1,e2,e3,e4,e5,e6,⟨e7,e8,e9,e10,e11,e12,e13,e14,e15,e16,e17,e18⟩⟩:Ev)) i 0))) 7 0=Yu (⟨e0,e1,e2,e3,e4,e5,e6,⟨e7,e8,e9,e10,e11,e12,e13,e14,e15,e16,e17,e18⟩⟩:Ev):=by
      simp only [B1,JR];change (!(btw e1 1 2)&&C6 e0 115||(!(btw e2 1 11)&&C6 e0 112||(!(btw e3 1 11)&&C6 e0 111||(!true&&C6 e0 121||(!(btw e5 (loS e0) (hiS e0))&&C6 e0 114||(!(btw e6 0 90)&&C6 e0 118||(!true&&C6 e0 98||false)))))))=_;rw [g1,g2,g3,g4,g5,g6,g7];simp only [Bool.not_true,Bool.false_and,Bool.false_or,Bool.or_false];rfl
     rw [a2];cases Yu (⟨e0,e1,e2,e3,e4,e5,e6,⟨e7,e8,e9,e10,e11,e12,e13,e14,e15,e16,e17,e18⟩⟩:Ev) with
     | true=>rfl
     | false =>
      simp only [PXb,PXc,PXn,PXm,Nat.reduceAdd,Int.reduceBEq,DJ,ZO]
theorem c4 {c x x' y y':Bool} {a b d z z':Int} (h1:x=x') (h2:y=y') (h3:z=z'):(some [PV.int (cond c a (cond x b (cond y d z)))]:Option (List PV))=some [PV.int (cond c a (cond x' b (cond y' d z')))]:=by subst h1;subst h2;subst h3;rfl
end Go.Px
end
