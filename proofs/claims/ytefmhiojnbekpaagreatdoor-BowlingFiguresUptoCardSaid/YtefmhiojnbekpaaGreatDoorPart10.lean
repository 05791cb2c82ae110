/- Part 10. -/
import Derived.Test.YtefmhiojnbekpaaGreatDoorPart07
import Derived.Test.YtefmhiojnbekpaaGreatDoorPart09
set_option linter.unusedVariables false
set_option linter.unusedSimpArgs false
variable {s0 s1 s2 s3 s4 s5 s6 s7 s8 s9 s10 s11 s12 s13 s15 s21 s22 s23 s25 s26 s27:Int}
variable {s14 s16 s17 s19 s24:Go.Px.Rows}
variable {r1 r2 r3 r4 r5 r6 r7 r9 r10 r11 r12:Int}
section
namespace Go.Px
set_option maxRecDepth 100000
theorem H1 {N:Nat} {s18 s20:Bool} (h:Fit s14 s16 s17 s19 s24):A5 N [.int s0,.int s1,.int s2,.int s3,.int s4,.int s5,.int s6,.int s7,.int s8,.int s9,.int s10,.int s11,.int s12,.int s13,.rows s14,.int s15,.rows s16,.rows s17,.bool s18,.rows s19,.bool s20,.int s21,.int s22,.int s23,.rows s24,.int s25,.int s26,.int s27]=some [.int s0,.int s1,.int s2,.int s3,.int s4,.int s5,.int s6,.int s7,.int s8,.int s9,.int s10,.int s11,.int s12,.int s13,.rows s14,.int s15,.rows s16,.rows s17,.bool s18,.rows s19,.bool s20,.int s21,.int s22,.int s23,.rows s24,.int s25,.int s26,.int s27]:=by
 show Pb (std (HY N) N) (xOf _)=_;simp only [Pb,NX,QJ,O2,Alg.q,std,xOf,PXb,PXc,PXn,PXm,Nat.reduceAdd,Int.reduceBEq,Ac,Aq,Aj,Bn h.bt (show 1≤4096 by omega),Bn h.bw' (show 8≤4096 by omega),Bn h.bf (show 8≤4096 by omega),Bn h.bd (show 8≤4096 by omega),Bn h.sb (show 1≤4096 by omega)]
theorem CF {N:Nat} {s18 s20:Bool} (h:Fit s14 s16 s17 s19 s24):AQ N [.int s0,.int s1,.int s2,.int s3,.int s4,.int s5,.int s6,.int s7,.int s8,.int s9,.int s10,.int s11,.int s12,.int s13,.rows s14,.int s15,.rows s16,.rows s17,.bool s18,.rows s19,.bool s20,.int s21,.int s22,.int s23,.rows s24,.int s25,.int s26,.int s27]=some [.int s0,.int s1,.int s2,.int s3,.int s4,.int s5,.int s6,.int s7,.int s8,.int s9,.int s10,.int s11,.int s12,.int s13,.rows s14,.int s15,.rows s16,.rows s17,.bool s18,.rows s19,.bool s20,.int s21,.int s22,.int s23,.rows s24,.int s25,.int s26,.int s27]:=by
 show RL (std (cK N) N) (xOf _)=_;simp only [RL,Alg.q,std,xOf,PXb,PXc,PXn,PXm,Nat.reduceAdd,Int.reduceBEq,K0 h.bt (show 1≤4096 by omega),K0 h.bw' (show 8≤4096 by omega),K0 h.bf (show 8≤4096 by omega),K0 h.bd (show 8≤4096 by omega),K0 h.sb (show 1≤4096 by omega)]
theorem Ho {N:Nat} {s18 s20:Bool} {p:Int}  : A3 N [.int s0,.int s1,.int s2,.int s3,.int s4,.int s5,.int s6,.int s7,.int s8,.int s9,.int s10,.int s11,.int s12,.int s13,.rows s14,.int s15,.rows s16,.rows s17,.bool s18,.rows s19,.bool s20,.int s21,.int s22,.int s23,.rows s24,.int s25,.int s26,.int s27,.int p]=some [.bool (inR p s14.length)]:=by
 show Lk (std (Vf N) N) (xOf _)=_;simp only [Lk,Alg.q,std,xOf,PXb,PXc,PXn,PXm,Nat.reduceAdd,Int.reduceBEq];rfl
theorem On {N:Nat} {s18 s20:Bool} {p:Int}  : Bm N [.int s0,.int s1,.int s2,.int s3,.int s4,.int s5,.int s6,.int s7,.int s8,.int s9,.int s10,.int s11,.int s12,.int s13,.rows s14,.int s15,.rows s16,.rows s17,.bool s18,.rows s19,.bool s20,.int s21,.int s22,.int s23,.rows s24,.int s25,.int s26,.int s27,.int p]=some [.bool (inR p s14.length)]:=by
 show PS (std (ZI N) N) (xOf _)=_;simp only [PS,Alg.q,std,xOf,PXb,PXc,PXn,PXm,Nat.reduceAdd,Int.reduceBEq];rfl
def Ai (s:Inn) (d:Del):Inn :=
  let odd := !(d.runs.tmod 2==0) != d.crossed
  let t:Inn:=cond odd { s with striker:=s.other,other:=s.striker } s
  let k:Bool:=d.how==0
  cond (!k&&(d.victim==1 && !(s.striker==0)))
    { t with striker:=cond odd t.striker 0,other:=cond odd 0 t.other,batters:=cond (inR s.striker s.batters.length) (KQ s.batters s.striker 2) s.batters,wickets:=IntKind.i64.wrap (s.wickets+1) }
    (cond (!k&&(d.victim==2 && !(s.other==0)))
      { t with striker:=cond odd 0 t.striker,other:=cond odd t.other 0,batters:=cond (inR s.other s.batters.length) (KQ s.batters s.other 2) s.batters,wickets:=IntKind.i64.wrap (s.wickets+1) }
      t)
theorem vA {N:Nat} {s18 s20:Bool} {d0 d1 d2 d3 d4 d6 d7 d8 d9 d11:Int} {d5 d10:Bool} (h:Fit s14 s16 s17 s19 s24):KP N [.int s0,.int s1,.int s2,.int s3,.int s4,.int s5,.int s6,.int s7,.int s8,.int s9,.int s10,.int s11,.int s12,.int s13,.rows s14,.int s15,.rows s16,.rows s17,.bool s18,.rows s19,.bool s20,.int s21,.int s22,.int s23,.rows s24,.int s25,.int s26,.int s27,.int d0,.int d1,.int d2,.int d3,.int d4,.bool d5,.int d6,.int d7,.int d8,.int d9,.bool d10,.int d11]=some (Ai (⟨s0,s1,s2,s3,s4,s5,s6,s7,s8,s9,s10,s11,s12,s13,s14,s15,s16,s17,s18,s19,s20,s21,s22,s23,s24,s25,s26,s27⟩:Inn) (⟨d0,d1,d2,d3,d4,d5,d6,d7,d8,d9,d10,d11⟩:Del)).ls:=by
 show Pg (std (LO N) N) (xOf _)=_;simp only [Pg,V4,Tt,Alg.q,std,xOf,PXb,PXc,PXn,PXm,Nat.reduceAdd,Int.reduceBEq,H1 h,Ho,zC h.bt];unfold Ai;cases d5<;>cases d2.tmod 2==0<;>cases d6==0<;>cases d7==1<;>cases d7==2<;>cases s12==0<;>cases s13==0<;>rfl
def F3 (s:Inn):Inn:={ s with striker:=s.other,other:=s.striker }
theorem mF {N:Nat} {s18 s20:Bool} (h:Fit s14 s16 s17 s19 s24):Ga N [.int s0,.int s1,.int s2,.int s3,.int s4,.int s5,.int s6,.int s7,.int s8,.int s9,.int s10,.int s11,.int s12,.int s13,.rows s14,.int s15,.rows s16,.rows s17,.bool s18,.rows s19,.bool s20,.int s21,.int s22,.int s23,.rows s24,.int s25,.int s26,.int s27]=some (F3 (⟨s0,s1,s2,s3,s4,s5,s6,s7,s8,s9,s10,s11,s12,s13,s14,s15,s16,s17,s18,s19,s20,s21,s22,s23,s24,s25,s26,s27⟩:Inn)).ls:=by
 show J7 (std (L6 N) N) (xOf _)=_;simp only [J7,Sw,Alg.q,std,xOf,PXb,PXc,PXn,PXm,Nat.reduceAdd,Int.reduceBEq,H1 h];rfl
theorem eA {N:Nat} {s18 s20:Bool} (h:Fit s14 s16 s17 s19 s24):FL N [.int s0,.int s1,.int s2,.int s3,.int s4,.int s5,.int s6,.int s7,.int s8,.int s9,.int s10,.int s11,.int s12,.int s13,.rows s14,.int s15,.rows s16,.rows s17,.bool s18,.rows s19,.bool s20,.int s21,.int s22,.int s23,.rows s24,.int s25,.int s26,.int s27]=some (F3 (⟨s0,s1,s2,s3,s4,s5,s6,s7,s8,s9,s10,s11,s12,s13,s14,s15,s16,s17,s18,s19,s20,s21,s22,s23,s24,s25,s26,s27⟩:Inn)).ls:=by
 show PX (std (Q5 N) N) (xOf _)=_;simp only [PX,Xo,Alg.q,std,xOf,PXb,PXc,PXn,PXm,Nat.reduceAdd,Int.reduceBEq,CF h];rfl
theorem AAa {N:Nat} {s18 s20:Bool} {d0 d1 d2 d3 d4 d6 d7 d8 d9 d11:Int} {d5 d10:Bool} (h:Fit s14 s16 s17 s19 s24):Wc N [.int s0,.int s1,.int s2,.int s3,.int s4,.int s5,.int s6,.int s7,.int s8,.int s9,.int s10,.int s11,.int s12,.int s13,.rows s14,.int s15,.rows s16,.rows s17,.bool s18,.rows s19,.bool s20,.int s21,.int s22,.int s23,.rows s24,.int s25,.int s26,.int s27,.int d0,.int d1,.int d2,.int d3,.int d4,.bool d5,.int d6,.int d7,.int d8,.int d9,.bool d10,.int d11]=some (Ai (⟨s0,s1,s2,s3,s4,s5,s6,s7,s8,s9,s10,s11,s12,s13,s14,s15,s16,s17,s18,s19,s20,s21,s22,s23,s24,s25,s26,s27⟩:Inn) (⟨d0,d1,d2,d3,d4,d5,d6,d7,d8,d9,d10,d11⟩:Del)).ls:=by
 show WS (std (MZ N) N) (xOf _)=_;simp only [WS,dF,Z3,Z1,Alg.q,std,xOf,PXb,PXc,PXn,PXm,Nat.reduceAdd,Int.reduceBEq,CF h,On,zC h.bt,eA h,F3,Ai];cases h71:d7==1
 ·cases d5<;>cases d2.tmod 2==0<;>cases d6==0<;>cases d7==2<;>cases s12==0<;>cases s13==0<;>rfl
 ·rw [pQ h71];cases d5<;>cases d2.tmod 2==0<;>cases d6==0<;>cases s12==0<;>rfl
theorem kg {N:Nat} {v:Int}  : DC N [.int v]=some [.bool (!(v==0))]:=by
 show Nf (std (R8 N) N) (xOf _)=_;rfl
theorem iG {N:Nat} {v:Int}  : Ek N [.int v]=some [.bool (!(v==0))]:=by
 show L2 (std (QP N) N) (xOf _)=_;rfl
theorem Y7 {N:Nat} {s18 s20:Bool} (h:s14.length≤1048576) (hN:2097152<N):CH N [.int s0,.int s1,.int s2,.int s3,.int s4,.int s5,.int s6,.int s7,.int s8,.int s9,.int s10,.int s11,.int s12,.int s13,.rows s14,.int s15,.rows s16,.rows s17,.bool s18,.rows s19,.bool s20,.int s21,.int s22,.int s23,.rows s24,.int s25,.int s26,.int s27]=some [.bool (Bv s14)]:=by
 show FJ (std (Fh N) N) (xOf _)=_;simp only [FJ,G2,Alg.q,std,xOf,PXb,PXc,PXn,AD];rw [show Bv s14=iLe 0 (Sv (fun i => !(atI s14 i 0==0)) s14.length) from (LR _ _).symm];rw [Option.bind_assoc];refine AM (Cv (len:=s14.length) (Gn fun i => !(atI s14 i 0==0)) ?_ ?_ s14.length 0 N (by omega) (by omega)) ?_
 ·intro self;simp only [PXb,PXc,PXn,AD,Ao]
 ·intro i self hi;simp only [PXb,PXc,PXn,AD,Ag (show i≤1099511627776 by omega),Ad hi,AN hi,Gn,BS,G2,kg];cases atI s14 i 0==0<;>rfl
 ·unfold Sv;cases CS (Gn fun i => !(atI s14 i 0==0)) s14.length 0<;>rfl
theorem mo {N:Nat} {s18 s20:Bool} (h:s14.length≤1048576) (hN:2097152<N):GU N [.int s0,.int s1,.int s2,.int s3,.int s4,.int s5,.int s6,.int s7,.int s8,.int s9,.int s10,.int s11,.int s12,.int s13,.rows s14,.int s15,.rows s16,.rows s17,.bool s18,.rows s19,.bool s20,.int s21,.int s22,.int s23,.rows s24,.int s25,.int s26,.int s27]=some [.bool (Bv s14)]:=by
 show J8 (std (Lx N) N) (xOf _)=_;simp only [J8,Fr,Alg.q,std,xOf,PXb,PXc,PXn,AD];rw [show Bv s14=iLe 0 (Sv (fun i => !(atI s14 i 0==0)) s14.length) from (LR _ _).symm];rw [Option.bind_assoc];refine AM (Cv (len:=s14.length) (Gn fun i => !(atI s14 i 0==0)) ?_ ?_ s14.length 0 N (by omega) (by omega)) ?_
 ·intro self;simp only [PXb,PXc,PXn,AD,Ao]
 ·intro i self hi;simp only [PXb,PXc,PXn,AD,Ag (show i≤1099511627776 by omega),Ad hi,AN hi,Gn,BS,Fr,iG];cases atI s14 i 0==0<;>rfl
 ·unfold Sv;cases CS (Gn fun i => !(atI s14 i 0==0)) s14.length 0<;>rfl
theorem YI {N:Nat} {s18 s20:Bool} (h:s14.length≤1048576) (hN:2097152<N):Bo N [.int s0,.int s1,.int s2,.int s3,.int s4,.int s5,.int s6,.int s7,.int s8,.int s9,.int s10,.int s11,.int s12,.int s13,.rows s14,.int s15,.rows s16,.rows s17,.bool s18,.rows s19,.bool s20,.int s21,.int s22,.int s23,.rows s24,.int s25,.int s26,.int s27]=some [.bool (Bv s14)]:=by
 show JR (std (Sz N) N) (xOf _)=_;simp only [JR,Alg.q,std,xOf,PXb,PXc,PXn,AD];refine AM (Cs (len:=s14.length) (fun i => !(atI s14 i 0==0)) [.bool true] ?_ ?_ N (by omega)) ?_
 ·intro self;simp only [PXb,PXc,PXn,AD,Ao]
 ·intro i self hi;simp only [PXb,PXc,PXn,AD,Ag (show i≤1099511627776 by omega),Ad hi,AN hi,BS]
 ·unfold Bv;cases A1 (fun i => !(atI s14 i 0==0)) s14.length 0<;>rfl
theorem Wj {N:Nat} {s18 s20:Bool} (h:s14.length≤1048576) (hN:2097152<N):BV N [.int s0,.int s1,.int s2,.int s3,.int s4,.int s5,.int s6,.int s7,.int s8,.int s9,.int s10,.int s11,.int s12,.int s13,.rows s14,.int s15,.rows s16,.rows s17,.bool s18,.rows s19,.bool s20,.int s21,.int s22,.int s23,.rows s24,.int s25,.int s26,.int s27]=some [.bool (DS s14 s12 s13)]:=by
 show EO (std (El N) N) (xOf _)=_;simp only [EO,Qo,Alg.q,std,xOf,PXb,PXc,PXn,PXm,Nat.reduceAdd,Int.reduceBEq,Y7 h hN];rfl
theorem fZ {N:Nat} {s18 s20:Bool} (h:s14.length≤1048576) (hN:2097152<N):CX N [.int s0,.int s1,.int s2,.int s3,.int s4,.int s5,.int s6,.int s7,.int s8,.int s9,.int s10,.int s11,.int s12,.int s13,.rows s14,.int s15,.rows s16,.rows s17,.bool s18,.rows s19,.bool s20,.int s21,.int s22,.int s23,.rows s24,.int s25,.int s26,.int s27]=some [.bool (DS s14 s12 s13)]:=by
 show HK (std (HQ N) N) (xOf _)=_;simp only [HK,X3,Alg.q,std,xOf,PXb,PXc,PXn,PXm,Nat.reduceAdd,Int.reduceBEq,YI h hN];rfl
theorem rQ {N:Nat} {s18 s20:Bool} (h:s14.length≤1048576) (hN:2097152<N):DA N [.int s0,.int s1,.int s2,.int s3,.int s4,.int s5,.int s6,.int s7,.int s8,.int s9,.int s10,.int s11,.int s12,.int s13,.rows s14,.int s15,.rows s16,.rows s17,.bool s18,.rows s19,.bool s20,.int s21,.int s22,.int s23,.rows s24,.int s25,.int s26,.int s27]=some [.rows (B8 s14 s14.length)]:=by
 show F8 (std (Pq N) N) (xOf _)=_;simp only [F8,Alg.q,std,xOf,PXb,PXc,PXn,AD];refine AM (Bz (len:=s14.length) (fun i=>[.rows (B8 s14 i),.int (i:Int)]) [.rows (B8 s14 s14.length)] ?_ ?_ N (by omega)) rfl
 ·intro self;simp only [PXb,PXc,PXn,AD,Ao]
 ·intro i self hi;have h2:(B8 s14 i++[[PV.int ((i:Int)+1)]]).length≤4194304:=by have:=VC s14 i;simp;omega
  simp only [PXb,PXc,PXn,AD,Ag (show i≤1099511627776 by omega),Ad hi,AN hi,BS,B8,DP h2 (show 8≤4096 by omega)];cases (atI s14 i 0==0||atI s14 i 0==3)<;>rfl
theorem yn {N:Nat} {s18 s20:Bool} (h:s14.length≤1048576) (hN:2097152<N):Eu N [.int s0,.int s1,.int s2,.int s3,.int s4,.int s5,.int s6,.int s7,.int s8,.int s9,.int s10,.int s11,.int s12,.int s13,.rows s14,.int s15,.rows s16,.rows s17,.bool s18,.rows s19,.bool s20,.int s21,.int s22,.int s23,.rows s24,.int s25,.int s26,.int s27]=some [.rows (B8 s14 s14.length)]:=by
 show Lc (std (Ua N) N) (xOf _)=_;simp only [Lc,Alg.q,std,xOf,PXb,PXc,PXn,AD];refine AM (Bz (len:=s14.length) (fun i=>[.rows (B8 s14 i),.int (i:Int)]) [.rows (B8 s14 s14.length)] ?_ ?_ N (by omega)) rfl
 ·intro self;simp only [PXb,PXc,PXn,AD,Ao]
 ·intro i self hi;have h2:(B8 s14 i++[[PV.int ((i:Int)+1)]]).length≤4194304:=by have:=VC s14 i;simp;omega
  simp only [PXb,PXc,PXn,AD,Ag (show i≤1099511627776 by omega),Ad hi,AN hi,BS,B8,DP h2 (show 8≤4096 by omega)];cases (atI s14 i 0==0||atI s14 i 0==3)<;>rfl
def RE (s:Inn) (p q:Int):Inn×Int :=
  cond (Bv s.batters) (s,1) (cond (!inR p s.batters.length || !inR q s.batters.length) (s,3) (cond (p==q) (s,4)
    ({ s with batters:=KQ (KQ s.batters p 1) q 1,striker:=p,other:=q },0)))
theorem sD {N:Nat} {s18 s20:Bool} {p:Int} {q:Int} (h:Fit s14 s16 s17 s19 s24) (hN:2097152<N):JC N [.int s0,.int s1,.int s2,.int s3,.int s4,.int s5,.int s6,.int s7,.int s8,.int s9,.int s10,.int s11,.int s12,.int s13,.rows s14,.int s15,.rows s16,.rows s17,.bool s18,.rows s19,.bool s20,.int s21,.int s22,.int s23,.rows s24,.int s25,.int s26,.int s27,.int p,.int q]=some (Ah (RE (⟨s0,s1,s2,s3,s4,s5,s6,s7,s8,s9,s10,s11,s12,s13,s14,s15,s16,s17,s18,s19,s20,s21,s22,s23,s24,s25,s26,s27⟩:Inn) p q)):=by
 show NM (std (Ge N) N) (xOf _)=_;generalize hres:(some (Ah (RE (⟨s0,s1,s2,s3,s4,s5,s6,s7,s8,s9,s10,s11,s12,s13,s14,s15,s16,s17,s18,s19,s20,s21,s22,s23,s24,s25,s26,s27⟩:Inn) p q)):Option (List PV))=RR;simp only [NM,UX,Sk,So,Alg.q,std,xOf,PXb,PXc,PXn,PXm,Nat.reduceAdd,Int.reduceBEq,H1 h,Y7 h.bt hN,Ho];subst hres;simp only [RE];cases Bv s14<;>try rfl
 cases hp:inR p s14.length<;>cases hq:inR q s14.length<;>try rfl
 rw [Di hp h.bt,Di hq h.bt];cases p==q<;>rfl
theorem yP {N:Nat} {s18 s20:Bool} {p:Int} {q:Int} (h:Fit s14 s16 s17 s19 s24) (hN:2097152<N):UD N [.int s0,.int s1,.int s2,.int s3,.int s4,.int s5,.int s6,.int s7,.int s8,.int s9,.int s10,.int s11,.int s12,.int s13,.rows s14,.int s15,.rows s16,.rows s17,.bool s18,.rows s19,.bool s20,.int s21,.int s22,.int s23,.rows s24,.int s25,.int s26,.int s27,.int p,.int q]=some (Ah (RE (⟨s0,s1,s2,s3,s4,s5,s6,s7,s8,s9,s10,s11,s12,s13,s14,s15,s16,s17,s18,s19,s20,s21,s22,s23,s24,s25,s26,s27⟩:Inn) p q)):=by
 show T7 (std (LA N) N) (xOf _)=_;generalize hres:(some (Ah (RE (⟨s0,s1,s2,s3,s4,s5,s6,s7,s8,s9,s10,s11,s12,s13,s14,s15,s16,s17,s18,s19,s20,s21,s22,s23,s24,s25,s26,s27⟩:Inn) p q)):Option (List PV))=RR;simp only [T7,Z6,ac,ZQ,Alg.q,std,xOf,PXb,PXc,PXn,PXm,Nat.reduceAdd,Int.reduceBEq,CF h,YI h.bt hN,On];subst hres;simp only [RE];cases Bv s14<;>try rfl
 cases hp:inR p s14.length<;>cases hq:inR q s14.length<;>try rfl
 rw [Di hp h.bt,Di hq h.bt];cases p==q<;>rfl
def Jk (s:Inn) (p:Int):Int :=
 cond (!inR p s.batters.length) 3 (cond (!DS s.batters s.striker s.other||atI s.batters (ix p) 0==1) 4 (cond (atI s.batters (ix p) 0==2) 5 0))
theorem eE {N:Nat} {s18 s20:Bool} {p:Int} (h:s14.length≤1048576) (hN:2097152<N):EE N [.int s0,.int s1,.int s2,.int s3,.int s4,.int s5,.int s6,.int s7,.int s8,.int s9,.int s10,.int s11,.int s12,.int s13,.rows s14,.int s15,.rows s16,.rows s17,.bool s18,.rows s19,.bool s20,.int s21,.int s22,.int s23,.rows s24,.int s25,.int s26,.int s27,.int p]=some [.int (Jk (⟨s0,s1,s2,s3,s4,s5,s6,s7,s8,s9,s10,s11,s12,s13,s14,s15,s16,s17,s18,s19,s20,s21,s22,s23,s24,s25,s26,s27⟩:Inn) p)]:=by
 show Py (std (LN N) N) (xOf _)=_;generalize hres:(some [.int (Jk (⟨s0,s1,s2,s3,s4,s5,s6,s7,s8,s9,s10,s11,s12,s13,s14,s15,s16,s17,s18,s19,s20,s21,s22,s23,s24,s25,s26,s27⟩:Inn) p)]:Option (List PV))=RR;simp only [Py,S6,Tk,Alg.q,std,xOf,PXb,PXc,PXn,PXm,Nat.reduceAdd,Int.reduceBEq,Ho,Wj h hN];subst hres;simp only [Jk];cases hp:inR p s14.length<;>try rfl
 rw [Di hp h];cases DS s14 s12 s13<;>try rfl
 simp only [PXb,PXc,PXn,PXm,Nat.reduceAdd,Int.reduceBEq,atI,ix]
theorem jt {N:Nat} {s18 s20:Bool} {p:Int} (h:s14.length≤1048576) (hN:2097152<N):FD N [.int s0,.int s1,.int s2,.int s3,.int s4,.int s5,.int s6,.int s7,.int s8,.int s9,.int s10,.int s11,.int s12,.int s13,.rows s14,.int s15,.rows s16,.rows s17,.bool s18,.rows s19,.bool s20,.int s21,.int s22,.int s23,.rows s24,.int s25,.int s26,.int s27,.int p]=some [.int (Jk (⟨s0,s1,s2,s3,s4,s5,s6,s7,s8,s9,s10,s11,s12,s13,s14,s15,s16,s17,s18,s19,s20,s21,s22,s23,s24,s25,s26,s27⟩:Inn) p)]:=by
 show RG (std (NN N) N) (xOf _)=_;generalize hres:(some [.int (Jk (⟨s0,s1,s2,s3,s4,s5,s6,s7,s8,s9,s10,s11,s12,s13,s14,s15,s16,s17,s18,s19,s20,s21,s22,s23,s24,s25,s26,s27⟩:Inn) p)]:Option (List PV))=RR;simp only [RG,Xh,X8,Alg.q,std,xOf,PXb,PXc,PXn,PXm,Nat.reduceAdd,Int.reduceBEq,On,fZ h hN];subst hres;simp only [Jk];cases hp:inR p s14.length<;>try rfl
 rw [Di hp h];cases DS s14 s12 s13<;>try rfl
 simp only [PXb,PXc,PXn,PXm,Nat.reduceAdd,Int.reduceBEq,atI,ix]
theorem XK {s:Inn} {p:Int} (h:(Jk s p==0)=true):inR p s.batters.length=true:=by
 unfold Jk at h;cases hp:inR p s.batters.length with
 | true=>rfl
 | false=>rw [hp] at h;cases h
def Kt (s:Inn) (p:Int):Inn×Int :=
 cond (Jk s p==0) ({ s with batters:=KQ s.batters p 1,striker:=cond (s.striker==0) p s.striker,other:=cond (s.striker==0) s.other p },0) (s,Jk s p)
def EY (s:Inn) (p:Int):Inn×Int :=
 cond (Jk s p==0) ({ s with batters:=KQ s.batters p 2,wickets:=IntKind.i64.wrap (s.wickets+1) },0) (s,Jk s p)
theorem oZ {N:Nat} {s18 s20:Bool} {p:Int} (h:Fit s14 s16 s17 s19 s24) (hN:2097152<N):H2 N [.int s0,.int s1,.int s2,.int s3,.int s4,.int s5,.int s6,.int s7,.int s8,.int s9,.int s10,.int s11,.int s12,.int s13,.rows s14,.int s15,.rows s16,.rows s17,.bool s18,.rows s19,.bool s20,.int s21,.int s22,.int s23,.rows s24,.int s25,.int s26,.int s27,.int p]=some (Ah (Kt (⟨s0,s1,s2,s3,s4,s5,s6,s7,s8,s9,s10,s11,s12,s13,s14,s15,s16,s17,s18,s19,s20,s21,s22,s23,s24,s25,s26,s27⟩:Inn) p)):=by
 show Ll (std (IQ N) N) (xOf _)=_;generalize hres:(some (Ah (Kt (⟨s0,s1,s2,s3,s4,s5,s6,s7,s8,s9,s10,s11,s12,s13,s14,s15,s16,s17,s18,s19,s20,s21,s22,s23,s24,s25,s26,s27⟩:Inn) p)):Option (List PV))=RR;simp only [Ll,T0,UH,Alg.q,std,xOf,PXb,PXc,PXn,PXm,Nat.reduceAdd,Int.reduceBEq,H1 h,eE h.bt hN];subst hres;simp only [Kt];cases hm:Jk (⟨s0,s1,s2,s3,s4,s5,s6,s7,s8,s9,s10,s11,s12,s13,s14,s15,s16,s17,s18,s19,s20,s21,s22,s23,s24,s25,s26,s27⟩:Inn) p==0<;>try rfl
 rw [Di (XK hm) h.bt];cases s12==0<;>rfl
theorem wP {N:Nat} {s18 s20:Bool} {p:Int} (h:Fit s14 s16 s17 s19 s24) (hN:2097152<N):Rm N [.int s0,.int s1,.int s2,.int s3,.int s4,.int s5,.int s6,.int s7,.int s8,.int s9,.int s10,.int s11,.int s12,.int s13,.rows s14,.int s15,.rows s16,.rows s17,.bool s18,.rows s19,.bool s20,.int s21,.int s22,.int s23,.rows s24,.int s25,.int s26,.int s27,.int p]=some (Ah (Kt (⟨s0,s1,s2,s3,s4,s5,s6,s7,s8,s9,s10,s11,s12,s13,s14,s15,s16,s17,s18,s19,s20,s21,s22,s23,s24,s25,s26,s27⟩:Inn) p)):=by
 show Re (std (Mp N) N) (xOf _)=_;generalize hres:(some (Ah (Kt (⟨s0,s1,s2,s3,s4,s5,s6,s7,s8,s9,s10,s11,s12,s13,s14,s15,s16,s17,s18,s19,s20,s21,s22,s23,s24,s25,s26,s27⟩:Inn) p)):Option (List PV))=RR;simp only [Re,ZO,ZV,Alg.q,std,xOf,PXb,PXc,PXn,PXm,Nat.reduceAdd,Int.reduceBEq,CF h,jt h.bt hN];subst hres;simp only [Kt];cases hm:Jk (⟨s0,s1,s2,s3,s4,s5,s6,s7,s8,s9,s10,s11,s12,s13,s14,s15,s16,s17,s18,s19,s20,s21,s22,s23,s24,s25,s26,s27⟩:Inn) p==0<;>try rfl
 rw [Di (XK hm) h.bt];cases s12==0<;>rfl
theorem ku {N:Nat} {s18 s20:Bool} {p:Int} (h:Fit s14 s16 s17 s19 s24) (hN:2097152<N):Fd N [.int s0,.int s1,.int s2,.int s3,.int s4,.int s5,.int s6,.int s7,.int s8,.int s9,.int s10,.int s11,.int s12,.int s13,.rows s14,.int s15,.rows s16,.rows s17,.bool s18,.rows s19,.bool s20,.int s21,.int s22,.int s23,.rows s24,.int s25,.int s26,.int s27,.int p]=some (Ah (EY (⟨s0,s1,s2,s3,s4,s5,s6,s7,s8,s9,s10,s11,s12,s13,s14,s15,s16,s17,s18,s19,s20,s21,s22,s23,s24,s25,s26,s27⟩:Inn) p)):=by
 show Ip (std (D2 N) N) (xOf _)=_;generalize hres:(some (Ah (EY (⟨s0,s1,s2,s3,s4,s5,s6,s7,s8,s9,s10,s11,s12,s13,s14,s15,s16,s17,s18,s19,s20,s21,s22,s23,s24,s25,s26,s27⟩:Inn) p)):Option (List PV))=RR;simp only [Ip,SH,QL,SM,Alg.q,std,xOf,PXb,PXc,PXn,PXm,Nat.reduceAdd,Int.reduceBEq,H1 h,eE h.bt hN,Ho];subst hres;simp only [EY];cases hm:Jk (⟨s0,s1,s2,s3,s4,s5,s6,s7,s8,s9,s10,s11,s12,s13,s14,s15,s16,s17,s18,s19,s20,s21,s22,s23,s24,s25,s26,s27⟩:Inn) p==0<;>try rfl
 have hk:inR p s14.length=true:=XK hm;rw [Di hk h.bt,hk];rfl
theorem rM {N:Nat} {s18 s20:Bool} {p:Int} (h:Fit s14 s16 s17 s19 s24) (hN:2097152<N):NP N [.int s0,.int s1,.int s2,.int s3,.int s4,.int s5,.int s6,.int s7,.int s8,.int s9,.int s10,.int s11,.int s12,.int s13,.rows s14,.int s15,.rows s16,.rows s17,.bool s18,.rows s19,.bool s20,.int s21,.int s22,.int s23,.rows s24,.int s25,.int s26,.int s27,.int p]=some (Ah (EY (⟨s0,s1,s2,s3,s4,s5,s6,s7,s8,s9,s10,s11,s12,s13,s14,s15,s16,s17,s18,s19,s20,s21,s22,s23,s24,s25,s26,s27⟩:Inn) p)):=by
 show M4 (std (Jp N) N) (xOf _)=_;generalize hres:(some (Ah (EY (⟨s0,s1,s2,s3,s4,s5,s6,s7,s8,s9,s10,s11,s12,s13,s14,s15,s16,s17,s18,s19,s20,s21,s22,s23,s24,s25,s26,s27⟩:Inn) p)):Option (List PV))=RR;simp only [M4,V9,V6,Alg.q,std,xOf,PXb,PXc,PXn,PXm,Nat.reduceAdd,Int.reduceBEq,CF h,jt h.bt hN];subst hres;simp only [EY];cases hm:Jk (⟨s0,s1,s2,s3,s4,s5,s6,s7,s8,s9,s10,s11,s12,s13,s14,s15,s16,s17,s18,s19,s20,s21,s22,s23,s24,s25,s26,s27⟩:Inn) p==0<;>try rfl
 rw [Di (XK hm) h.bt];rfl
def F4 (s:Inn) (p:Int) (hurt:Bool):Inn×Int :=
  cond (!inR p s.batters.length) (s,3) (cond (s.striker==0||s.other==0) (s,6) (cond (!(p==s.striker) && !(p==s.other)) (s,4)
    (cond (hurt&&((B8 s.batters s.batters.length).length:Int)==0) (s,19)
      ({ s with striker:=cond (p==s.striker) 0 s.striker,other:=cond (p==s.striker) s.other 0,batters:=KQ s.batters p (cond hurt 3 2),wickets:=cond hurt s.wickets (IntKind.i64.wrap (s.wickets+1)) },0))))
theorem nE {N:Nat} {s18 s20:Bool} {p:Int} {b:Bool} (h:Fit s14 s16 s17 s19 s24) (hN:2097152<N):GD N [.int s0,.int s1,.int s2,.int s3,.int s4,.int s5,.int s6,.int s7,.int s8,.int s9,.int s10,.int s11,.int s12,.int s13,.rows s14,.int s15,.rows s16,.rows s17,.bool s18,.rows s19,.bool s20,.int s21,.int s22,.int s23,.rows s24,.int s25,.int s26,.int s27,.int p,.bool b]=some (Ah (F4 (⟨s0,s1,s2,s3,s4,s5,s6,s7,s8,s9,s10,s11,s12,s13,s14,s15,s16,s17,s18,s19,s20,s21,s22,s23,s24,s25,s26,s27⟩:Inn) p b)):=by
 show J6 (std (Eg N) N) (xOf _)=_;generalize hres:(some (Ah (F4 (⟨s0,s1,s2,s3,s4,s5,s6,s7,s8,s9,s10,s11,s12,s13,s14,s15,s16,s17,s18,s19,s20,s21,s22,s23,s24,s25,s26,s27⟩:Inn) p b)):Option (List PV))=RR;simp only [J6,Ry,Su,Qf,Alg.q,std,xOf,PXb,PXc,PXn,PXm,Nat.reduceAdd,Int.reduceBEq,H1 h,Ho,rQ h.bt hN];subst hres;simp only [F4];cases hp:inR p s14.length<;>try rfl
 rw [Di hp h.bt];cases s12==0<;>cases s13==0<;>try rfl
 cases p==s12<;>cases p==s13<;>cases b<;>try rfl
 all_goals (simp only [PXb,PXc,PXn,PXm,Nat.reduceAdd,Int.reduceBEq];cases ((B8 s14 s14.length).length:Int)==0<;>rfl)
theorem AAi (L:Rows) (p a b:Int):KQ (KQ L p a) p b=KQ L p b:=by
 unfold KQ;rw [List.set_set]
 rcases Nat.lt_or_ge (ix p) L.length with h | h
 ·have:AB (L.set (ix p) (BC (AB L (ix p)) 0 [.int a])) (ix p)=BC (AB L (ix p)) 0 [.int a]:=by
   unfold AB;simp [List.getD_eq_getElem?_getD,List.getElem?_set,h]
  rw [this];simp only [BC,List.set_set]
 ·rw [List.set_eq_of_length_le h,List.set_eq_of_length_le h]
theorem vC {N:Nat} {s18 s20:Bool} {p:Int} {b:Bool} (h:Fit s14 s16 s17 s19 s24) (hN:2097152<N):OS N [.int s0,.int s1,.int s2,.int s3,.int s4,.int s5,.int s6,.int s7,.int s8,.int s9,.int s10,.int s11,.int s12,.int s13,.rows s14,.int s15,.rows s16,.rows s17,.bool s18,.rows s19,.bool s20,.int s21,.int s22,.int s23,.rows s24,.int s25,.int s26,.int s27,.int p,.bool b]=some (Ah (F4 (⟨s0,s1,s2,s3,s4,s5,s6,s7,s8,s9,s10,s11,s12,s13,s14,s15,s16,s17,s18,s19,s20,s21,s22,s23,s24,s25,s26,s27⟩:Inn) p b)):=by
 show Ok (std (Hu N) N) (xOf _)=_;generalize hres:(some (Ah (F4 (⟨s0,s1,s2,s3,s4,s5,s6,s7,s8,s9,s10,s11,s12,s13,s14,s15,s16,s17,s18,s19,s20,s21,s22,s23,s24,s25,s26,s27⟩:Inn) p b)):Option (List PV))=RR;simp only [Ok,Xr,Y2,V0,Alg.q,std,xOf,PXb,PXc,PXn,PXm,Nat.reduceAdd,Int.reduceBEq,CF h,On,yn h.bt hN];subst hres;simp only [F4];rw [BEq.comm (a:=s12) (b:=p),BEq.comm (a:=s13) (b:=p)];cases hp:inR p s14.length<;>try rfl
 simp only [Di hp h.bt,PXb,PXc,PXn,PXm,Nat.reduceAdd,Int.reduceBEq];have e:=AAi s14 p 3 2;cases s12==0<;>cases s13==0<;>try rfl
 cases p==s12<;>cases p==s13<;>cases b<;>try rfl
 all_goals (simp only [PXb,PXc,PXn,PXm,Nat.reduceAdd,Int.reduceBEq];first | rfl | (cases ((B8 s14 s14.length).length:Int)==0<;>first | rfl | (rw [← e];rfl)) | (rw [← e];rfl))
end Go.Px
end
section
namespace Go.Px
set_option maxRecDepth 100000
def btw (a b c:Int):Bool:=iLe b a&&iLe a c
theorem EC (N:Nat) (a b c:Int):Av N [.int a,.int b,.int c]=some [.bool (btw a b c)]:=by
 show some [PV.bool (cond (iLe b a) (iLe a c) false)]=_;rw [RX];rfl
theorem NV (N:Nat) (a b c:Int):Cx N [.int a,.int b,.int c]=some [.bool (btw a b c)]:=by
 show some [PV.bool (cond (iLe b a) (iLe a c) false)]=_;rw [RX];rfl
theorem AAv (N:Nat) (a b c:Int):U5 N [.int a,.int b,.int c]=some [.bool (btw a b c)]:=by
 show some [PV.bool (cond (iLe b a) (iLe a c) false)]=_;rw [RX];rfl
theorem eN (N:Nat) (a b c:Int):FX N [.int a,.int b,.int c]=some [.bool (btw a b c)]:=by
 show some [PV.bool (cond (iLe b a) (iLe a c) false)]=_;rw [RX];rfl
def Gt (x1 x2 x3 x4 x5 x6 x7 x9 x10 x11 x12:Int):Bool:=btw x1 2 11&&btw x2 1 2&&btw x3 0 90&&btw x4 4 8&&btw x5 0 90&&btw x6 1 5&&btw x7 1 5&&btw x9 0 200&&btw x10 0 1000&&btw x11 0 9&&btw x12 0 11
theorem kj (N : Nat) (x0 : ByteArray) (x1 x2 x3 x4 x5 x6 x7 x9 x10 x11 x12 : Int) (x8 : Bool) (x13 : Rows) :
   GG N [.str x0,.int x1,.int x2,.int x3,.int x4,.int x5,.int x6,.int x7,.bool x8,.int x9,.int x10,.int x11,.int x12,.rows x13]=some [.bool (Gt x1 x2 x3 x4 x5 x6 x7 x9 x10 x11 x12)]:=by
  show Ju (std (L0 N) N) (xOf _)=_;have e:∀ ls,L0 N 115 [] ls=Cx N ls:=fun ls=>rfl
  simp only [Ju,Alg.q,std,xOf,e,NV,PXb,PXc,PXn,AD,Gt]
def Qr (s:ByteArray) (i:Nat):Bool := !(iLe 65 (M6 s i)&&iLe (M6 s i) 90)&&((i:Int)==0||((!(M6 s i==95) && !(M6 s i==45))&&(iLt (M6 s i) 48||iLt 57 (M6 s i))))
def MC (s:ByteArray):Bool := !A1 (Qr s) s.size 0&&(iLe 1 s.size&&iLe s.size 16)
theorem ADQ (s:ByteArray):(Gh s).length=s.size:=by
 simp only [Gh,List.length_map,Array.length_toList];rfl
theorem ADe (s:ByteArray) (i:Nat) (h:i<s.size):pvI (AK (Gh s) i 0)=M6 s i:=by
 unfold AK AB AA Gh M6;simp only [List.getD_eq_getElem?_getD,List.getElem?_map];have:i<s.data.toList.length:=by simpa using h
 rw [List.getElem?_eq_getElem this];simp [List.getElem?_eq_getElem this]
theorem vT (N:Nat) (s:ByteArray) (hN:s.size<N) (hs:s.size≤1048576):L8 N [.str s]=some [.bool (MC s)]:=by
 show Rb (std (bh N) N) (xOf _)=_;simp only [Rb,Alg.q,std,xOf,ADQ,PXb,PXc,PXn,AD];refine AM (Cs (len:=s.size) (Qr s) [.bool false] ?_ ?_ N hN) ?_
 ·intro self;simp only [PXb,PXc,PXn,AD,Ao]
 ·intro i self hi;simp only [PXb,PXc,PXn,AD,Int.toNat_natCast,ADe s i hi,Ag (show i≤1099511627776 by omega),Ad hi,AN hi,Qr]
 ·unfold MC;cases A1 (Qr s) s.size 0<;>rfl
theorem ABS (bs:ByteArray) (i:Nat) (r:List UInt8):(ByteArray.toList.loop bs i r).length=r.length+(bs.size - i):=by
 induction i,r using ByteArray.toList.loop.induct (bs:=bs) with
 | case1 i r h ih=>unfold ByteArray.toList.loop;rw [if_pos h,ih];simp;omega
 | case2 i r h=>unfold ByteArray.toList.loop;rw [if_neg h];simp;omega
theorem lc (bs:ByteArray):bs.toList.length=bs.size:=by
 unfold ByteArray.toList;rw [ABS];simp
theorem wQ (s:ByteArray):(s.toList==(⟨#[]⟩:ByteArray).toList) = !iLe 1 (s.size:Int):=by
 have h:=lc s;have h0:=lc (⟨#[]⟩:ByteArray);rw [Bool.eq_iff_iff];simp only [beq_iff_eq,iLe,Bool.not_eq_true',decide_eq_false_iff_not];constructor
 ·intro e;rw [e,h0] at h;have:(⟨#[]⟩:ByteArray).size=0:=rfl;omega
 ·intro e;have e1:s.toList=[]:=List.eq_nil_of_length_eq_zero (by omega);have e2:(⟨#[]⟩:ByteArray).toList=[]:=List.eq_nil_of_length_eq_zero h0;rw [e1,e2]
theorem w4 (N:Nat) (s:ByteArray) (hN:s.size<N) (hs:s.size≤1048576):P8 N [.str s]=some [.bool (MC s)]:=by
 show UK (std (dh N) N) (xOf _)=_;simp only [UK,Alg.q,std,xOf,PXb,PXc,PXn,AD,wQ];have e:iLe 1 (s.size:Int)=false∨iLe 1 (s.size:Int)=true:=by cases iLe 1 (s.size:Int)<;>simp
 have e2:iLt 16 (s.size:Int) = !iLe (s.size:Int) 16:=by unfold iLt iLe;rw [Bool.eq_iff_iff];simp
 rw [e2];cases h:iLe 1 (s.size:Int)&&iLe (s.size:Int) 16 with
 | false =>
  have:(!iLe 1 (s.size:Int) || !iLe (s.size:Int) 16)=true:=by rw [← Bool.not_and,h];rfl
  simp only [this,cond_true,MC,h,Bool.and_false]
 | true =>
  have:(!iLe 1 (s.size:Int) || !iLe (s.size:Int) 16)=false:=by rw [← Bool.not_and,h];rfl
  simp only [this,cond_false,MC,h,Bool.and_true];refine AM (Cs (len:=s.size) (Qr s) [.bool false] ?_ ?_ N hN) ?_
  ·intro self;simp only [PXb,PXc,PXn,AD,Ao]
  ·intro i self hi;simp only [PXb,PXc,AD,Int.toNat_natCast,Ag (show i≤1099511627776 by omega),Ad hi,AN hi,Qr];cases (iLe 65 (M6 s i)&&iLe (M6 s i) 90)<;>rfl
  ·cases A1 (Qr s) s.size 0<;>rfl
end Go.Px
end
section
namespace Go.Px
set_option maxRecDepth 100000
theorem xi {i len:Nat} (h:i<len) (hl:len≤1099511627776):(!iLt 0 (i:Int)||iIn (IntKind.i64.wrap ((i:Int) - 1)) (len:Int))=true:=by
 rw [B3 (by omega) (by omega)];simp only [iLt,iIn,Bool.or_eq_true,Bool.not_eq_true',decide_eq_false_iff_not,decide_eq_true_eq];omega
def ze (L:Rows) (ov:Int) (i:Nat):Bool:=(iLt (atI L i 0) 1||iLt (atI L i 1) (atI L i 0)||iLt ov (atI L i 1)) || !btw (atI L i 2) 0 11
def vn (L:Rows) (i:Nat):Bool:=iLt 0 (i:Int)&&iLe (atI L i 0) (pvI (AK L (IntKind.i64.wrap ((i:Int) - 1)).toNat 1))
def nv (L:Rows) (ov:Int) (i:Nat):Option (List PV):=cond (ze L ov i) (some [.int 2]) (cond (vn L i) (some [.int 8]) none)
def AAj:Option (List PV)→Int
 | none=>0
 | some r=>pvI (AA r 0)
def mS (L:Rows) (ov:Int):Int:=cond (iLt 8 (L.length:Int)) 9 (AAj (CS (nv L ov) L.length 0))
theorem bF (o:Option (List PV)):cond (pvI (AA (Tp o) 0)==((0:Nat):Int)) (some [PV.int (pvI (AA (Tp o) 1))]) (some [PV.int 0])=some [PV.int (AAj o)]:=by
 cases o<;>rfl
theorem oK (N : Nat) (x0 : ByteArray) (x1 x2 x3 x4 x5 x6 x7 x9 x10 x11 x12 : Int) (x8 : Bool) (L : Rows) (hN : 2097152 < N) :
   He N [.str x0,.int x1,.int x2,.int x3,.int x4,.int x5,.int x6,.int x7,.bool x8,.int x9,.int x10,.int x11,.int x12,.rows L]=some [.int (mS L x3)]:=by
  show LP (std (Na N) N) (xOf _)=_;have e:∀ ls,Na N 115 [] ls=Cx N ls:=fun ls=>rfl
  simp only [LP,Alg.q,std,xOf,e,NV,PXb,PXc,PXn,AD,mS];cases h8:iLt 8 (L.length:Int) with
  | true=>rfl
  | false =>
    have hl:L.length≤8:=by simp [iLt] at h8;omega
    simp only [cond_false];refine AM (Cv (len:=L.length) (nv L x3) ?_ ?_ L.length 0 N (by omega) (by omega)) ?_
    · intro self;simp only [PXb,PXc,PXn,AD,Ao]
    · intro i self hi;simp only [PXb,PXc,PXn,AD,Int.toNat_natCast,Ag (show i≤1099511627776 by omega),Ad hi,AN hi,NV,e,xi hi (by omega)];simp only [nv,ze,vn,atI];cases (iLt (pvI (AK L i 0)) 1||iLt (pvI (AK L i 1)) (pvI (AK L i 0))||iLt x3 (pvI (AK L i 1)) || !btw (pvI (AK L i 2)) 0 11) <;>
      cases (iLt 0 (i:Int)&&iLe (pvI (AK L i 0)) (pvI (AK L (IntKind.i64.wrap ((i:Int) - 1)).toNat 1)))<;>rfl
    · exact bF _
def D8 (x0:ByteArray) (x1 x2 x3 x4 x5 x6 x7 x9 x10 x11 x12:Int) (L:Rows):Int :=
  cond (!MC x0) 5 (cond (!Gt x1 x2 x3 x4 x5 x6 x7 x9 x10 x11 x12) 2
    (cond ((!(x10==0)&&x2==1)||((!(x5==0)||iLt 0 (L.length:Int))&&x3==0)) 1
      (cond (!(x5==0)&&iLt (IntKind.i64.wrap (x5 * x1)) x3) 13 (mS L x3))))
theorem YM (N : Nat) (x0 : ByteArray) (x1 x2 x3 x4 x5 x6 x7 x9 x10 x11 x12 : Int) (x8 : Bool) (L : Rows) (hN : 2097152 < N) (hs : x0.size ≤ 1048576) :
   AZ N [.str x0,.int x1,.int x2,.int x3,.int x4,.int x5,.int x6,.int x7,.bool x8,.int x9,.int x10,.int x11,.int x12,.rows L]=some [.int (D8 x0 x1 x2 x3 x4 x5 x6 x7 x9 x10 x11 x12 L)]:=by
  show M1 (std (GF N) N) (xOf _)=_;have e:∀ ls,GF N 92 [] ls=L8 N ls:=fun ls=>rfl
  have e2:∀ ls,GF N 93 [] ls=GG N ls:=fun ls=>rfl
  have e3:∀ ls,GF N 94 [] ls=He N ls:=fun ls=>rfl
  simp only [M1,Alg.q,std,xOf,e,e2,e3,vT N x0 (by omega) hs,kj,oK N _ _ _ _ _ _ _ _ _ _ _ _ _ _ hN,PXb,PXc,AD,D8];cases MC x0<;>cases Gt x1 x2 x3 x4 x5 x6 x7 x9 x10 x11 x12<;>try rfl
  simp only [PXb,PXc,AD,Bool.not_true];cases (!(x10==0)&&x2==1)<;>cases ((!(x5==0)||iLt 0 (L.length:Int))&&x3==0)<;>try rfl
  cases (!(x5==0)&&iLt (IntKind.i64.wrap (x5 * x1)) x3)<;>rfl
theorem eF (N : Nat) (x0 : ByteArray) (x1 x2 x3 x4 x5 x6 x7 x9 x10 x11 x12 : Int) (x8 : Bool) (L : Rows) (hN : 2097152 < N) (hs : x0.size ≤ 1048576) :
   Am N [.str x0,.int x1,.int x2,.int x3,.int x4,.int x5,.int x6,.int x7,.bool x8,.int x9,.int x10,.int x11,.int x12,.rows L]=some [.int (D8 x0 x1 x2 x3 x4 x5 x6 x7 x9 x10 x11 x12 L)]:=by
  show RW (std (M8 N) N) (xOf _)=_;have e:∀ ls,M8 N 97 [] ls=P8 N ls:=fun ls=>rfl
  have e2:∀ ls,M8 N 98 [] ls=U5 N ls:=fun ls=>rfl
  simp only [RW,Alg.q,std,xOf,e,e2,w4 N x0 (by omega) hs,AAv,PXb,PXc,PXn,AD];simp only [← Bool.not_and,D8];rw [show (btw x1 2 11&&btw x2 1 2&&btw x3 0 90&&btw x4 4 8&&btw x5 0 90&&btw x6 1 5&&btw x7 1 5&&btw x9 0 200&&btw x10 0 1000&&btw x11 0 9&&btw x12 0 11)=Gt x1 x2 x3 x4 x5 x6 x7 x9 x10 x11 x12 from rfl];rw [Bool.and_comm (x3==0)];cases MC x0<;>cases Gt x1 x2 x3 x4 x5 x6 x7 x9 x10 x11 x12<;>try rfl
  cases (!(x10==0)&&x2==1)||((!(x5==0)||iLt 0 (L.length:Int))&&x3==0)<;>try rfl
  cases (!(x5==0)&&iLt (IntKind.i64.wrap (x5 * x1)) x3)<;>try rfl
  simp only [Bool.not_true,cond_false,mS];cases h8:iLt 8 (L.length:Int) with
  | true=>rfl
  | false =>
    have hl:L.length≤8:=by simp [iLt] at h8;omega
    simp only [cond_false];refine AM (Cv (len:=L.length) (nv L x3) ?_ ?_ L.length 0 N (by omega) (by omega)) ?_
    · intro self;simp only [PXb,PXc,PXn,AD,Ao]
    · intro i self hi;simp only [PXb,PXc,PXn,AD,Int.toNat_natCast,Ag (show i≤1099511627776 by omega),Ad hi,AN hi,xi hi (by omega)];simp only [nv,ze,vn,atI];cases (iLt (pvI (AK L i 0)) 1||iLt (pvI (AK L i 1)) (pvI (AK L i 0))||iLt x3 (pvI (AK L i 1)) || !btw (pvI (AK L i 2)) 0 11) <;>
      cases (iLt 0 (i:Int)&&iLe (pvI (AK L i 0)) (pvI (AK L (IntKind.i64.wrap ((i:Int) - 1)).toNat 1)))<;>rfl
    · exact bF _
end Go.Px
end
section
namespace Go.Px
set_option maxRecDepth 100000
theorem dU (N:Nat) (L:Rows) (v:Int) (hN:L.length<N) (hl:L.length≤2097152):D4 N [.rows L,.int v]=some [.int (Sv (fun j=>v==atI L j 0) L.length)]:=by
 show GZ (std (Po N) N) (xOf _)=_;simp only [GZ,Alg.q,std,xOf,PXb,PXc,PXn,AD];refine AM (Cv (len:=L.length) (Gn fun j=>v==atI L j 0) ?_ ?_ L.length 0 N (by omega) (by omega)) ?_
 ·intro self;simp only [PXb,PXc,PXn,AD,Ao]
 ·intro i self hi;simp only [PXb,PXc,PXn,AD,Ag (show i≤1099511627776 by omega),Ad hi,AN hi,Gn,BS];cases v==atI L i 0<;>rfl
 ·unfold Sv;cases CS (Gn fun j=>v==atI L j 0) L.length 0<;>rfl
def H7 (L:Rows) (k:Nat) (v:Int):Bool:=A1 (fun j=>v==atI L j 0) k 0
theorem Mi (N:Nat) (L:Rows) (v:Int) (hN:L.length<N) (hl:L.length≤2097152):Ay N [.rows L,.int v]=some [.bool (H7 L L.length v)]:=by
 show EP (std (Fz N) N) (xOf _)=_;have e:∀ ls,Fz N 206 [] ls=D4 N ls:=fun ls=>rfl
 simp only [EP,Alg.q,std,xOf,PXb,PXc,PXn,AD,e,dU N L v hN hl,LR,H7]
theorem ABa (L:Rows) (i:Nat) (v:Int) (h:i≤L.length):H7 (L.take i) (L.take i).length v=H7 L i v:=by
 rw [List.length_take,Nat.min_eq_left h];exact mY i 0 (fun j _ hj=>by rw [uI (by omega)])
def Le (L:Rows) (n:Int) (i:Nat):Bool := !btw (atI L i 0) 1 n||H7 L i (atI L i 0)
def GT (L:Rows) (n:Int):Bool := !A1 (Le L n) L.length 0
theorem Oz (N:Nat) (L:Rows) (n:Int) (hN:L.length<N) (hl:L.length≤2097152):Dk N [.rows L,.int n]=some [.bool (GT L n)]:=by
 show Fn (std (ER N) N) (xOf _)=_;have e:∀ ls,ER N 164 [] ls=Av N ls:=fun ls=>rfl
 have e2:∀ ls,ER N 185 [] ls=Ay N ls:=fun ls=>rfl
 simp only [Fn,Alg.q,std,xOf,PXb,PXc,PXn,AD];refine AM (Cs (len:=L.length) (Le L n) [.bool false] ?_ ?_ N hN) ?_
 ·intro self;simp only [PXb,PXc,PXn,AD,Ao]
 ·intro i self hi;have h1:(L.take i).length≤L.length:=List.length_take_le' i L;simp only [PXb,PXc,PXn,AD,Ag (show i≤1099511627776 by omega),Ad hi,AN hi,e,e2,EC,AB4 (Nat.le_of_lt hi),Int.toNat_zero,List.drop_zero,Mi N (L.take i) _ (by omega) (by omega),ABa L i _ (by omega),BS,Le];cases btw (atI L i 0) 1 n<;>cases H7 L i (atI L i 0)<;>rfl
 ·unfold GT;cases A1 (Le L n) L.length 0<;>rfl
theorem oE (N:Nat) (L:Rows) (n:Int) (hN:L.length<N) (hl:L.length≤2097152):SO N [.rows L,.int n]=some [.bool (GT L n)]:=by
 show Wb (std (Xv N) N) (xOf _)=_;have e:∀ ls,Xv N 179 [] ls=FX N ls:=fun ls=>rfl
 simp only [Wb,Alg.q,std,xOf,PXb,PXc,PXn,AD];refine AM (Cs (len:=L.length) (Le L n) [.bool false] ?_ ?_ N hN) ?_
 ·intro self;simp only [PXb,PXc,PXn,AD,Ao]
 ·intro i self hi;have h1:(L.take i).length=i:=by rw [List.length_take];omega
  simp only [PXb,PXc,PXn,AD,Ag (show i≤1099511627776 by omega),Ad hi,AN hi,e,eN,AB4 (Nat.le_of_lt hi),Int.toNat_zero,List.drop_zero,BS,Le,h1];cases btw (atI L i 0) 1 n with
  | false=>rfl
  | true =>
   simp only [PXb,PXc,PXn,AD];refine AM (Z0 (len:=i) (fun j=>[.int (j:Int)]) (fun j=>atI L i 0==atI L j 0) [.int 0,.bool false] [.int 1,.int (i:Int)] ?_ ?_ N (by omega)) ?_
   ·intro self;simp only [PXb,PXc,PXn,AD,Ao]
   ·intro j self hj;simp only [PXb,PXc,PXn,AD,Ag (show j≤1099511627776 by omega),Ad hj,AN hj,uI hj];rfl
   ·unfold H7;cases A1 (fun j=>atI L i 0==atI L j 0) i 0<;>rfl
 ·unfold GT;cases A1 (Le L n) L.length 0<;>rfl
theorem iH (N:Nat) (v:Int):DC N [.int v]=some [.bool (!(v==0))]:=rfl
def lsI (L14 L16 L17 L19 L24:Rows) (b18 b20:Bool) (x0 x1 x2 x3 x4 x5 x6 x7 x8 x9 x10 x11 x12 x13 x15 x21 x22 x23 x25 x26 x27:Int):List PV :=
 [.int x0,.int x1,.int x2,.int x3,.int x4,.int x5,.int x6,.int x7,.int x8,.int x9,.int x10,.int x11,.int x12,.int x13,.rows L14,.int x15,.rows L16,.rows L17,.bool b18,.rows L19,.bool b20,.int x21,.int x22,.int x23,.rows L24,.int x25,.int x26,.int x27]
section
variable (N:Nat) (L14 L16 L17 L19 L24:Rows) (b18 b20:Bool) (x0 x1 x2 x3 x4 x5 x6 x7 x8 x9 x10 x11 x12 x13 x15 x21 x22 x23 x25 x26 x27:Int)
theorem mV (hN:L14.length<N) (hl:L14.length≤2097152):CH N (lsI L14 L16 L17 L19 L24 b18 b20 x0 x1 x2 x3 x4 x5 x6 x7 x8 x9 x10 x11 x12 x13 x15 x21 x22 x23 x25 x26 x27)=some [.bool (Bv L14)]:=by
 show FJ (std (Fh N) N) (xOf (lsI ..))=_;have e:∀ ls,Fh N 262 [] ls=DC N ls:=fun ls=>rfl
 simp only [FJ,Alg.q,std,xOf,lsI,PXb,PXc,PXn,AD];rw [show Bv L14=iLe 0 (Sv (fun i => !(atI L14 i 0==0)) L14.length) from (LR _ _).symm];rw [Option.bind_assoc];refine AM (Cv (len:=L14.length) (Gn fun i => !(atI L14 i 0==0)) ?_ ?_ L14.length 0 N (by omega) (by omega)) ?_
 ·intro self;simp only [PXb,PXc,PXn,AD,Ao]
 ·intro i self hi;simp only [PXb,PXc,PXn,AD,Ag (show i≤1099511627776 by omega),Ad hi,AN hi,Gn,BS,e,iH];cases atI L14 i 0==0<;>rfl
 ·unfold Sv;cases CS (Gn fun i => !(atI L14 i 0==0)) L14.length 0<;>rfl
theorem fH (hN:L14.length<N) (hl:L14.length≤2097152):Bo N (lsI L14 L16 L17 L19 L24 b18 b20 x0 x1 x2 x3 x4 x5 x6 x7 x8 x9 x10 x11 x12 x13 x15 x21 x22 x23 x25 x26 x27)=some [.bool (Bv L14)]:=by
 show JR (std (Sz N) N) (xOf (lsI ..))=_;simp only [JR,Alg.q,std,xOf,lsI,PXb,PXc,PXn,AD];refine AM (Cs (len:=L14.length) (fun i => !(atI L14 i 0==0)) [.bool true] ?_ ?_ N hN) ?_
 ·intro self;simp only [PXb,PXc,PXn,AD,Ao]
 ·intro i self hi;simp only [PXb,PXc,PXn,AD,Ag (show i≤1099511627776 by omega),Ad hi,AN hi,BS]
 ·unfold Bv;cases A1 (fun i => !(atI L14 i 0==0)) L14.length 0<;>rfl
theorem lK (hN:L14.length<N) (hl:L14.length≤2097152):BV N (lsI L14 L16 L17 L19 L24 b18 b20 x0 x1 x2 x3 x4 x5 x6 x7 x8 x9 x10 x11 x12 x13 x15 x21 x22 x23 x25 x26 x27)=some [.bool (DS L14 x12 x13)]:=by
 show EO (std (El N) N) (xOf (lsI ..))=_;have e:∀ ls,El N 241 [] ls=CH N ls:=fun ls=>rfl
 have:=mV N L14 L16 L17 L19 L24 b18 b20 x0 x1 x2 x3 x4 x5 x6 x7 x8 x9 x10 x11 x12 x13 x15 x21 x22 x23 x25 x26 x27 hN hl;simp only [lsI] at this;simp only [EO,Alg.q,std,xOf,lsI,PXb,PXc,PXn,AD,e,this,DS]
theorem rz (hN:L14.length<N) (hl:L14.length≤2097152):CX N (lsI L14 L16 L17 L19 L24 b18 b20 x0 x1 x2 x3 x4 x5 x6 x7 x8 x9 x10 x11 x12 x13 x15 x21 x22 x23 x25 x26 x27)=some [.bool (DS L14 x12 x13)]:=by
 show HK (std (HQ N) N) (xOf (lsI ..))=_;have e:∀ ls,HQ N 182 [] ls=Bo N ls:=fun ls=>rfl
 have:=fH N L14 L16 L17 L19 L24 b18 b20 x0 x1 x2 x3 x4 x5 x6 x7 x8 x9 x10 x11 x12 x13 x15 x21 x22 x23 x25 x26 x27 hN hl;simp only [lsI] at this;simp only [HK,Alg.q,std,xOf,lsI,PXb,PXc,PXn,AD,e,this,DS]
theorem pE (hN:L14.length<N) (hl:L14.length≤2097152):DA N (lsI L14 L16 L17 L19 L24 b18 b20 x0 x1 x2 x3 x4 x5 x6 x7 x8 x9 x10 x11 x12 x13 x15 x21 x22 x23 x25 x26 x27)=some [.rows (B8 L14 L14.length)]:=by
 show F8 (std (Pq N) N) (xOf (lsI ..))=_;simp only [F8,Alg.q,std,xOf,lsI,PXb,PXc,PXn,AD];refine AM (Bz (len:=L14.length) (fun i=>[.rows (B8 L14 i),.int (i:Int)]) [.rows (B8 L14 L14.length)] ?_ ?_ N hN) rfl
 ·intro self;simp only [PXb,PXc,PXn,AD,Ao]
 ·intro i self hi;have h2:(B8 L14 i++[[PV.int ((i:Int)+1)]]).length≤4194304:=by have:=VC L14 i;simp;omega
  simp only [PXb,PXc,PXn,AD,Ag (show i≤1099511627776 by omega),Ad hi,AN hi,BS,B8,DP h2 (show 8≤4096 by omega)];cases (atI L14 i 0==0||atI L14 i 0==3)<;>rfl
theorem wZ (hN:L14.length<N) (hl:L14.length≤2097152):Eu N (lsI L14 L16 L17 L19 L24 b18 b20 x0 x1 x2 x3 x4 x5 x6 x7 x8 x9 x10 x11 x12 x13 x15 x21 x22 x23 x25 x26 x27)=some [.rows (B8 L14 L14.length)]:=by
 show Lc (std (Ua N) N) (xOf (lsI ..))=_;simp only [Lc,Alg.q,std,xOf,lsI,PXb,PXc,PXn,AD];refine AM (Bz (len:=L14.length) (fun i=>[.rows (B8 L14 i),.int (i:Int)]) [.rows (B8 L14 L14.length)] ?_ ?_ N hN) rfl
 ·intro self;simp only [PXb,PXc,PXn,AD,Ao]
 ·intro i self hi;have h2:(B8 L14 i++[[PV.int ((i:Int)+1)]]).length≤4194304:=by have:=VC L14 i;simp;omega
  simp only [PXb,PXc,PXn,AD,Ag (show i≤1099511627776 by omega),Ad hi,AN hi,BS,B8,DP h2 (show 8≤4096 by omega)];cases (atI L14 i 0==0||atI L14 i 0==3)<;>rfl
end
theorem aG (N:Nat) (v:Int):Dq N [.int v]=some [.bool (!btw v 0 1000000000)]:=by
 show Fk (std (Hj N) N) (xOf _)=_;have e:∀ ls,Hj N 164 [] ls=Av N ls:=fun ls=>rfl
 simp only [Fk,Alg.q,std,xOf,PXb,PXc,PXn,AD,e,EC]
end Go.Px
end
section
namespace Go.Px
set_option maxRecDepth 100000
def pIs (L:Rows) (v:Int) (i:Nat):Bool:=atI L i 0==v
def Z4 (s n:Int) (i:Nat):Bool:=s==(i:Int)+1||n==(i:Int)+1
def Tr (L:Rows) (s n:Int) (i:Nat):Bool:=iLt 3 (atI L i 0)||(pIs L 1 i && !Z4 s n i)
def Wp (L:Rows) (s n:Int) (i:Nat):Bool:=iLt 3 (atI L i 0) || !(pIs L 1 i==Z4 s n i)
def eu (L:Rows):Int:=CZ (pIs L 2) L.length
def ins (L:Rows):Int:=CZ (pIs L 1) L.length
def two (s n:Int):Int:=cond (!(n==0)) (IntKind.i64.wrap (cond (!(s==0)) (IntKind.i64.wrap (0+1)) 0+1)) (cond (!(s==0)) (IntKind.i64.wrap (0+1)) 0)
def sO (L:Rows) (s n wk k:Int):Bool :=
 !A1 (Tr L s n) L.length 0&&((btw s 0 k&&btw n 0 k)&&(!(s==n && !(s==0))&&((two s n==ins L&&(!Bv L||iLt 0 (two s n)))&&eu L==wk)))
def Tq (L:Rows) (s n wk:Int):Bool :=
 !A1 (Wp L s n) L.length 0&&(!((Bv L&&iLt (ins L) 1)||(!(s==0)&&s==n))&&wk==eu L)
def ye (L:Rows):Nat→Bool
 | 0=>false
 | i+1=>ye L i || !(atI L i 0==0)
theorem xW (L:Rows):∀ i,ye L i=A1 (fun j => !(atI L j 0==0)) i 0
 | 0=>rfl
 | i+1=>by rw [eI,Nat.zero_add,← xW L i];rfl
section
variable (N:Nat) (L14 L16 L17 L19 L24:Rows) (b18 b20:Bool) (x0 x1 x2 x3 x4 x5 x6 x7 x8 x9 x10 x11 x12 x13 x15 x21 x22 x23 x25 x26 x27:Int)
theorem fB (k:Int) (hN:L14.length<N) (hl:L14.length≤2097152):Ee N (lsI L14 L16 L17 L19 L24 b18 b20 x0 x1 x2 x3 x4 x5 x6 x7 x8 x9 x10 x11 x12 x13 x15 x21 x22 x23 x25 x26 x27++[.int k])=some [.bool (sO L14 x12 x13 x4 k)]:=by
  simp only [lsI,List.cons_append,List.nil_append];show HD (std (Jm N) N) (xOf _)=_;have e:∀ ls,Jm N 164 [] ls=Av N ls:=fun ls=>rfl
  simp only [HD,Alg.q,std,xOf,lsI,PXb,PXc,PXn,AD];refine AM (Z0 (len:=L14.length) (fun i=>[.int (CZ (pIs L14 2) i),.int (CZ (pIs L14 1) i),.bool (ye L14 i),.int (i:Int)])
    (Tr L14 x12 x13) [.int 0,.bool false] [.int 1,.int (eu L14),.int (ins L14),.bool (Bv L14)] ?_ ?_ N hN) ?_
  · intro self;simp only [PXb,PXc,PXn,AD,Ao,xW];rfl
  · intro i self hi;simp only [PXb,PXc,AD,Ag (show i≤1099511627776 by omega),Ad hi,AN hi,BS,aL (pIs L14 2) (show i≤1099511627776 by omega),aL (pIs L14 1) (show i≤1099511627776 by omega)];unfold Tr pIs Z4;simp only [CZ,ye];cases h3:iLt 3 (atI L14 i 0) with
    | true=>rfl
    | false =>
      cases h1:atI L14 i 0==1 with
      | true =>
        rw [pQ h1];cases x12==(i:Int)+1<;>cases x13==(i:Int)+1<;>rfl
      | false=>cases h2:atI L14 i 0==2<;>rfl
  · unfold sO;simp only [e,EC];cases A1 (Tr L14 x12 x13) L14.length 0 with
    | true=>rfl
    | false =>
      simp only [PXb,PXc,PXn,AD];unfold two;cases btw x12 0 k<;>cases btw x13 0 k<;>try rfl
      cases x12==0<;>cases x13==0<;>cases x12==x13<;>try rfl
theorem ox (hN:L14.length<N) (hl:L14.length≤2097152):I1 N (lsI L14 L16 L17 L19 L24 b18 b20 x0 x1 x2 x3 x4 x5 x6 x7 x8 x9 x10 x11 x12 x13 x15 x21 x22 x23 x25 x26 x27)=some [.bool (Tq L14 x12 x13 x4)]:=by
  show Mm (std (Oq N) N) (xOf (lsI ..))=_;have e:∀ ls,Oq N 182 [] ls=Bo N ls:=fun ls=>rfl
  have h70:=fH N L14 L16 L17 L19 L24 b18 b20 x0 x1 x2 x3 x4 x5 x6 x7 x8 x9 x10 x11 x12 x13 x15 x21 x22 x23 x25 x26 x27 hN hl;simp only [lsI] at h70;simp only [Mm,Alg.q,std,xOf,lsI,PXb,PXc,PXn,AD,e,h70];refine AM (Z0 (len:=L14.length) (fun i=>[.int (CZ (pIs L14 2) i),.int (CZ (pIs L14 1) i),.int (i:Int)])
    (Wp L14 x12 x13) [.int 0,.bool false] [.int 1,.int (eu L14),.int (ins L14)] ?_ ?_ N hN) ?_
  · intro self;simp only [PXb,PXc,PXn,AD,Ao];rfl
  · intro i self hi;simp only [PXb,PXc,AD,Ag (show i≤1099511627776 by omega),Ad hi,AN hi,BS,aL (pIs L14 2) (show i≤1099511627776 by omega),aL (pIs L14 1) (show i≤1099511627776 by omega)];unfold Wp pIs Z4;simp only [CZ];cases h3:iLt 3 (atI L14 i 0) with
    | true=>rfl
    | false =>
      cases h1:atI L14 i 0==1 with
      | true =>
        rw [pQ h1];cases x12==(i:Int)+1<;>cases x13==(i:Int)+1<;>rfl
      | false=>cases h2:atI L14 i 0==2<;>cases x12==(i:Int)+1<;>cases x13==(i:Int)+1<;>rfl
  · unfold Tq;cases A1 (Wp L14 x12 x13) L14.length 0 with
    | true=>rfl
    | false =>
      simp only [PXb,PXc,PXn,AD];cases Bv L14<;>cases h:iLt (ins L14) 1<;>cases x12==0<;>cases x12==x13<;>first | rfl | (simp [Tp,AA,h])
end
end Go.Px
end
section
namespace Go.Px
set_option maxRecDepth 100000
theorem ACy (s n:Int):two s n=cond (!(s==0)) 1 0+cond (!(n==0)) 1 0:=by
 unfold two;cases s==0<;>cases n==0<;>rfl
theorem ACG {s n:Int} {len:Nat} (h1:0≤s∧s≤(len:Int)) (h2:0≤n∧n≤(len:Int)) (hd:(s==n && !(s==0))=false):two s n=CZ (Z4 s n) len:=by
 have hs:iLe s (len:Int)=true:=by simp only [iLe,decide_eq_true_eq];omega
 have hn:iLe n (len:Int)=true:=by simp only [iLe,decide_eq_true_eq];omega
 unfold Z4;rw [AAd (p:=fun i=>s==(i:Int)+1) (q:=fun i=>n==(i:Int)+1) len (fun j _ hp=>by
  have e1:s=(j:Int)+1:=by simpa using hp
  show (n==(j:Int)+1)=false;rw [beq_eq_false_iff_ne];intro e2;have e3:(s==n)=true:=by rw [beq_iff_eq];omega
  have e4:(s==0)=false:=by rw [beq_eq_false_iff_ne];omega
  rw [e3,e4] at hd;cases hd),tR s len h1.1,tR n len h2.1,hs,hn,Bool.and_true,Bool.and_true,ACy]
theorem AC1 (x:Int):iLt 0 x = !iLt x 1:=by
 unfold iLt;rw [Bool.eq_iff_iff];simp only [decide_eq_true_eq,Bool.not_eq_true',decide_eq_false_iff_not];omega
theorem ABn {L : Rows} {s n : Int} (h1 : 0 ≤ s ∧ s ≤ (L.length : Int)) (h2 : 0 ≤ n ∧ n ≤ (L.length : Int)) (hd : (s == n && !(s == 0)) = false) :
    (!A1 (Tr L s n) L.length 0&&two s n==ins L) = !A1 (Wp L s n) L.length 0:=by
  have h2c:=ACG h1 h2 hd;rw [Bool.eq_iff_iff];simp only [Bool.and_eq_true,Bool.not_eq_true',LV,beq_iff_eq];constructor
  · intro ⟨ha,hb⟩ j _ hj;have hm:∀ j,j<L.length→pIs L 1 j=true→Z4 s n j=true:=fun j hj hp=>by
      have:=ha j (Nat.zero_le _) (by omega);unfold Tr at this;rw [hp] at this;simp only [Bool.or_eq_false_iff,Bool.true_and,Bool.not_eq_false'] at this;exact this.2
    have he:=zu L.length hm (by rw [← h2c,hb];rfl) j (by omega);have:=ha j (Nat.zero_le _) hj;unfold Tr at this;unfold Wp;rw [Bool.or_eq_false_iff] at this ⊢;exact ⟨this.1,by rw [he];simp⟩
  · intro ha;have hm:∀ j,j<L.length→pIs L 1 j=Z4 s n j:=fun j hj=>by
      have:=ha j (Nat.zero_le _) (by omega);unfold Wp at this;rw [Bool.or_eq_false_iff] at this;simpa using this.2
    refine ⟨fun j h0 hj=>?_,?_⟩
    · have:=ha j h0 hj;unfold Wp at this;unfold Tr;rw [Bool.or_eq_false_iff] at this ⊢;refine ⟨this.1,?_⟩;rw [hm j (by omega)];cases Z4 s n j<;>rfl
    · rw [h2c];exact (qZ L.length hm).symm
theorem AC6 (L:Rows) (s n wk k:Int) (hk:(L.length:Int)=k):sO L s n wk k=(btw s 0 k&&btw n 0 k&&Tq L s n wk):=by
 subst hk;unfold sO Tq;cases hs:btw s 0 (L.length:Int) with
 | false=>simp only [Bool.false_and,Bool.and_false]
 | true =>
  cases hn:btw n 0 (L.length:Int) with
  | false=>simp only [Bool.false_and,Bool.and_false]
  | true =>
   have h1:0≤s∧s≤(L.length:Int):=by simpa [btw,iLe] using hs
   have h2:0≤n∧n≤(L.length:Int):=by simpa [btw,iLe] using hn
   simp only [Bool.true_and];cases hd:(s==n && !(s==0)) with
   | true =>
    have:(!(s==0)&&s==n)=true:=by rw [Bool.and_comm];exact hd
    rw [this];simp only [Bool.or_true,Bool.not_true,Bool.false_and,Bool.and_false]
   | false =>
    have:(!(s==0)&&s==n)=false:=by rw [Bool.and_comm];exact hd
    rw [this,← ABn h1 h2 hd];simp only [Bool.or_false,Bool.not_false,Bool.true_and];rw [show (wk==eu L)=(eu L==wk) from BEq.comm];cases hA:A1 (Tr L s n) L.length 0 with
    | true=>rfl
    | false =>
     cases hB:two s n==ins L with
     | false=>rfl
     | true =>
      rw [beq_iff_eq.1 hB,AC1];simp only [Bool.true_and,Bool.not_false,Bool.not_and]
end Go.Px
end
section
namespace Go.Px
set_option maxRecDepth 100000
def DT (v:Int):Bool := !btw v 0 1000000000
def bN (x1 x3 x5 x6 x7 x8 x9 x10 x21 x23 x25 x26:Int):Rows:=[[.int x1],[.int x3],[.int x5],[.int x6],[.int x7],[.int x8],[.int x9],[.int x10],[.int x21],[.int x23],[.int x25],[.int x26]]
section
variable (N:Nat) (L14 L16 L17 L19 L24:Rows) (b18 b20:Bool) (x0 x1 x2 x3 x4 x5 x6 x7 x8 x9 x10 x11 x12 x13 x15 x21 x22 x23 x25 x26 x27:Int)
theorem gS (hN:2097152<N) (hl:L19.length≤1048576):Eh N (lsI L14 L16 L17 L19 L24 b18 b20 x0 x1 x2 x3 x4 x5 x6 x7 x8 x9 x10 x11 x12 x13 x15 x21 x22 x23 x25 x26 x27)=some [.bool (!(Lz DT (bN x1 x3 x5 x6 x7 x8 x9 x10 x21 x23 x25 x26)||Lz DT L19))]:=by
 show HA (std (Jf N) N) (xOf (lsI ..))=_;have e:∀ ls,Jf N 186 [] ls=Dq N ls:=fun ls=>rfl
 rw [← ue];simp only [HA,Alg.q,std,xOf,lsI,PXb,PXc,PXn,AD,bN];generalize hM:([PV.int x1]::[PV.int x3]::[PV.int x5]::[PV.int x6]::[PV.int x7]::[PV.int x8]::[PV.int x9]::[PV.int x10]::[PV.int x21]::[PV.int x23]::[PV.int x25]::[PV.int x26]::L19:Rows)=M;have hM2:M.length≤2097152:=by rw [← hM];simp only [List.length_cons];omega
 rw [DP (n:=M.length) (by omega) (by omega)];simp only [PXb,PXc,PXn,AD];rw [Option.bind_assoc];refine AM (Cv (len:=M.length) (Gn fun i=>DT (atI M i 0)) ?_ ?_ M.length 0 N (by omega) (by omega)) ?_
 ·intro self;simp only [PXb,PXc,PXn,AD,Ao]
 ·intro i self hi;simp only [PXb,PXc,PXn,AD,Ag (show i≤1099511627776 by omega),Ad hi,AN hi,Gn,BS,e,aG,DT];cases btw (atI M i 0) 0 1000000000<;>rfl
 ·unfold Lz;rw [← LR];unfold Sv;cases CS (Gn fun i=>DT (atI M i 0)) M.length 0<;>rfl
end
def Nr (a3 x2:Int):Bool:=cond (a3==0) (x2==0) (btw x2 1 a3)
def MH (s:ByteArray) (a1 a2 a3 a4 a5 a6 a7 a9 a10 a11 a12:Int) (La L14 L16 L17 L19 L24:Rows) (x0 x1 x2 x3 x4 x5 x6 x7 x8 x9 x10 x11 x12 x13 x15 x21 x22 x23 x25 x26 x27:Int):Bool :=
  D8 s a1 a2 a3 a4 a5 a6 a7 a9 a10 a11 a12 La==0&&(btw x0 1 2&&((L14.length:Int)==a1&&((L19.length:Int)==a1&&((L24.length:Int)==a1&&(!iLt 5 x27 &&
    (btw x12 0 a1&&(btw x13 0 a1&&(Tq L14 x12 x13 x4&&(btw x15 0 a1&&(btw x22 0 a1&&(GT L16 a1&&(GT L17 a1&&(Nr a3 x2&&(btw x11 0 (IntKind.i64.wrap (a4 - 1)) &&
      (!Lz DT (bN x1 x3 x5 x6 x7 x8 x9 x10 x21 x23 x25 x26) && !Lz DT L19)))))))))))))))
theorem zG {s:ByteArray} {a1 a2 a3 a4 a5 a6 a7 a9 a10 a11 a12:Int} {La:Rows} (h:(D8 s a1 a2 a3 a4 a5 a6 a7 a9 a10 a11 a12 La==0)=true):0≤a3:=by
 unfold D8 at h;cases hn:MC s with
 | false=>rw [hn] at h;exact absurd h Bool.false_ne_true
 | true =>
  cases hr:Gt a1 a2 a3 a4 a5 a6 a7 a9 a10 a11 a12 with
  | false=>rw [hn,hr] at h;exact absurd h Bool.false_ne_true
  | true =>
   unfold Gt at hr;simp only [Bool.and_eq_true] at hr;have:=hr.1.1.1.1.1.1.1.1.2;unfold btw iLe at this;simp only [Bool.and_eq_true,decide_eq_true_eq] at this;omega
theorem oV {a:Int} (h:0≤a):iLt 0 a = !(a==0):=by
 unfold iLt;rw [Bool.eq_iff_iff];simp only [decide_eq_true_eq,Bool.not_eq_true',beq_eq_false_iff_ne];omega
section
variable (N:Nat) (s:ByteArray) (a1 a2 a3 a4 a5 a6 a7 a9 a10 a11 a12:Int) (a8:Bool) (La:Rows) (L14 L16 L17 L19 L24:Rows) (b18 b20:Bool) (x0 x1 x2 x3 x4 x5 x6 x7 x8 x9 x10 x11 x12 x13 x15 x21 x22 x23 x25 x26 x27:Int)
theorem VZ (hN:2097152<N) (hs:s.size≤1048576) (h14:L14.length≤1048576) (h16:L16.length≤1048576) (h17:L17.length≤1048576) (h19:L19.length≤1048576):BU N ([.str s,.int a1,.int a2,.int a3,.int a4,.int a5,.int a6,.int a7,.bool a8,.int a9,.int a10,.int a11,.int a12,.rows La]++lsI L14 L16 L17 L19 L24 b18 b20 x0 x1 x2 x3 x4 x5 x6 x7 x8 x9 x10 x11 x12 x13 x15 x21 x22 x23 x25 x26 x27)=some [.bool (MH s a1 a2 a3 a4 a5 a6 a7 a9 a10 a11 a12 La L14 L16 L17 L19 L24 x0 x1 x2 x3 x4 x5 x6 x7 x8 x9 x10 x11 x12 x13 x15 x21 x22 x23 x25 x26 x27)]:=by
 simp only [lsI,List.cons_append,List.nil_append];show Jr (std (Cr N) N) (xOf _)=_;have e1:∀ ls,Cr N 70 [] ls=AZ N ls:=fun ls=>rfl
 have e2:∀ ls,Cr N 164 [] ls=Av N ls:=fun ls=>rfl
 have e3:∀ ls,Cr N 165 [] ls=Ee N ls:=fun ls=>rfl
 have e4:∀ ls,Cr N 166 [] ls=Dk N ls:=fun ls=>rfl
 have e5:∀ ls,Cr N 167 [] ls=Eh N ls:=fun ls=>rfl
 have l54:=fB N L14 L16 L17 L19 L24 b18 b20 x0 x1 x2 x3 x4 x5 x6 x7 x8 x9 x10 x11 x12 x13 x15 x21 x22 x23 x25 x26 x27 a1 (by omega) (by omega);have l56:=gS N L14 L16 L17 L19 L24 b18 b20 x0 x1 x2 x3 x4 x5 x6 x7 x8 x9 x10 x11 x12 x13 x15 x21 x22 x23 x25 x26 x27 (by omega) (by omega);simp only [lsI,List.cons_append,List.nil_append] at l54 l56;simp only [Jr,Alg.q,std,xOf,PXb,PXc,PXn,AD,e1,e2,e3,e4,e5,YM N s _ _ _ _ _ _ _ _ _ _ _ _ _ hN hs,EC,l54,l56,Oz N L16 _ (by omega) (by omega),Oz N L17 _ (by omega) (by omega)];unfold MH Nr;cases hc:D8 s a1 a2 a3 a4 a5 a6 a7 a9 a10 a11 a12 La==0<;>try rfl
 cases btw x0 1 2<;>try rfl
 cases h14:(L14.length:Int)==a1<;>try rfl
 cases (L19.length:Int)==a1<;>try rfl
 cases (L24.length:Int)==a1<;>try rfl
 cases iLt 5 x27<;>try rfl
 rw [AC6 L14 x12 x13 x4 a1 (beq_iff_eq.1 h14)];cases btw x12 0 a1<;>try rfl
 cases btw x13 0 a1<;>try rfl
 cases Tq L14 x12 x13 x4<;>try rfl
 cases btw x15 0 a1<;>try rfl
 cases btw x22 0 a1<;>try rfl
 cases GT L16 a1<;>try rfl
 cases GT L17 a1<;>try rfl
 cases a3==0<;>cases x2==0<;>cases btw x2 1 a3<;>rfl
theorem ed (hN:2097152<N) (hs:s.size≤1048576) (h14:L14.length≤1048576) (h16:L16.length≤1048576) (h17:L17.length≤1048576) (h19:L19.length≤1048576):C0 N ([.str s,.int a1,.int a2,.int a3,.int a4,.int a5,.int a6,.int a7,.bool a8,.int a9,.int a10,.int a11,.int a12,.rows La]++lsI L14 L16 L17 L19 L24 b18 b20 x0 x1 x2 x3 x4 x5 x6 x7 x8 x9 x10 x11 x12 x13 x15 x21 x22 x23 x25 x26 x27)=some [.bool (MH s a1 a2 a3 a4 a5 a6 a7 a9 a10 a11 a12 La L14 L16 L17 L19 L24 x0 x1 x2 x3 x4 x5 x6 x7 x8 x9 x10 x11 x12 x13 x15 x21 x22 x23 x25 x26 x27)]:=by
 simp only [lsI,List.cons_append,List.nil_append];show RV (std (GA N) N) (xOf _)=_;have e1:∀ ls,GA N 80 [] ls=Am N ls:=fun ls=>rfl
 have e2:∀ ls,GA N 179 [] ls=FX N ls:=fun ls=>rfl
 have e3:∀ ls,GA N 181 [] ls=I1 N ls:=fun ls=>rfl
 have e4:∀ ls,GA N 180 [] ls=SO N ls:=fun ls=>rfl
 have l60:=ox N L14 L16 L17 L19 L24 b18 b20 x0 x1 x2 x3 x4 x5 x6 x7 x8 x9 x10 x11 x12 x13 x15 x21 x22 x23 x25 x26 x27 (by omega) (by omega);simp only [lsI,List.cons_append,List.nil_append] at l60;simp only [RV,Alg.q,std,xOf,PXb,PXc,PXn,AD,e1,e2,e3,e4,eF N s _ _ _ _ _ _ _ _ _ _ _ _ _ hN hs,eN,l60,oE N L16 _ (by omega) (by omega),oE N L17 _ (by omega) (by omega)];unfold MH Nr;cases hc:D8 s a1 a2 a3 a4 a5 a6 a7 a9 a10 a11 a12 La==0<;>try rfl
 rw [oV (zG hc)];cases btw x0 1 2<;>try rfl
 cases h14:(L14.length:Int)==a1<;>try rfl
 cases (L19.length:Int)==a1<;>try rfl
 cases (L24.length:Int)==a1<;>try rfl
 cases iLt 5 x27<;>try rfl
 cases btw x12 0 a1<;>try rfl
 cases btw x13 0 a1<;>try rfl
 cases Tq L14 x12 x13 x4
 ·simp only [PXb,PXc,PXn,AD]
 cases btw x15 0 a1<;>try rfl
 cases btw x22 0 a1<;>try rfl
 cases GT L16 a1<;>try rfl
 cases GT L17 a1<;>try rfl
 have ho:(a3==0 && !(x2==0) || !(a3==0)&&(a3==0 && !(x2==0) || !!(a3==0) || !btw x2 1 a3) || !btw x11 0 (IntKind.i64.wrap (a4 - 1))) = !(Nr a3 x2&&btw x11 0 (IntKind.i64.wrap (a4 - 1))):=by
  unfold Nr;cases a3==0<;>cases x2==0<;>cases btw x2 1 a3<;>cases btw x11 0 (IntKind.i64.wrap (a4 - 1))<;>rfl
 rw [ho];show _=some [PV.bool (Nr a3 x2&&(btw x11 0 (IntKind.i64.wrap (a4 - 1))&&_))];rw [← Bool.and_assoc];cases Nr a3 x2&&btw x11 0 (IntKind.i64.wrap (a4 - 1))<;>try rfl
 simp only [PXb,PXc,PXn,AD];change (Ds (fun s11 c11=>cond (iLt (pvI (AA c11 0)) ((bN x1 x3 x5 x6 x7 x8 x9 x10 x21 x23 x25 x26).length:Int)) (cond (iIn (pvI (AA c11 0)) ((bN x1 x3 x5 x6 x7 x8 x9 x10 x21 x23 x25 x26).length:Int)) (cond (!btw (pvI (AK (bN x1 x3 x5 x6 x7 x8 x9 x10 x21 x23 x25 x26) (pvI (AA c11 0)).toNat 0)) 0 1000000000) (some [PV.int 0,PV.bool false]) (s11 [Leaf.int (IntKind.i64.wrap (pvI (AA c11 0)+1))])) none) (some [PV.int 1])) N [PV.int 0]).bind _=_;generalize hM:bN x1 x3 x5 x6 x7 x8 x9 x10 x21 x23 x25 x26=M;have hM2:M.length=12:=by rw [← hM];rfl
 refine AM (Cs (len:=M.length) (fun i=>DT (atI M i 0)) [.bool false] ?_ ?_ N (by omega)) ?_
 ·intro self;simp only [PXb,PXc,PXn,AD,Ao]
 ·intro i self hi;simp only [PXb,PXc,PXn,AD,Ag (show i≤1099511627776 by omega),Ad hi,AN hi,BS,DT]
 ·show _=some [PV.bool (!A1 (fun i=>DT (atI M i 0)) M.length 0&&_)];cases A1 (fun i=>DT (atI M i 0)) M.length 0<;>try rfl
  refine AM (Cs (len:=L19.length) (fun i=>DT (atI L19 i 0)) [.bool false] ?_ ?_ N (by omega)) ?_
  ·intro self;simp only [PXb,PXc,PXn,AD,Ao]
  ·intro i self hi;simp only [PXb,PXc,PXn,AD,Ag (show i≤1099511627776 by omega),Ad hi,AN hi,BS,DT]
  ·show _=some [PV.bool (!A1 (fun i=>DT (atI L19 i 0)) L19.length 0)];cases A1 (fun i=>DT (atI L19 i 0)) L19.length 0<;>rfl
end
end Go.Px
end
section
namespace Go.Px
set_option maxRecDepth 100000
def tp (v:Bool) (L:Rows) (s n:Int) (x1 x2 x3 x10:Int):Int :=
 cond (!v) 0 (cond (iLt 0 x1&&iLe x1 x3) 3 (cond (DS L s n&&((B8 L L.length).length:Int)==0) 1 (cond (iLt 0 x2&&iLe x2 x10) 2 0)))
theorem ADg {c:Int} {n:Nat} (hc:0≤c):iRg 0 (cond (iLt c (n:Int)) c (n:Int)) (n:Int)=true:=by
 cases h:iLt c (n:Int) with
 | true=>simp only [iLt,decide_eq_true_eq] at h;simp only [cond_true,iRg,decide_eq_true_eq];omega
 | false=>simp only [cond_false,iRg,decide_eq_true_eq];omega
def cut (L:Rows) (c:Int):Rows:=(L.take (cond (iLt c (L.length:Int)) c (L.length:Int)).toNat).drop (0:Int).toNat
end Go.Px
end
section
namespace Go.Px
set_option maxRecDepth 100000
section
variable (N:Nat) (s:ByteArray) (a1 a2 a3 a4 a5 a6 a7 a9 a10 a11 a12:Int) (a8:Bool) (La:Rows) (L14 L16 L17 L19 L24:Rows) (b18 b20:Bool) (x0 x1 x2 x3 x4 x5 x6 x7 x8 x9 x10 x11 x12 x13 x15 x21 x22 x23 x25 x26 x27:Int)
theorem hP (hN : 2097152 < N) (hs : s.size ≤ 1048576) (h14 : L14.length ≤ 1048576) (h16 : L16.length ≤ 1048576) (h17 : L17.length ≤ 1048576) (h19 : L19.length ≤ 1048576) : Dr N ([.str s, .int a1, .int a2, .int a3, .int a4, .int a5, .int a6, .int a7, .bool a8, .int a9, .int a10, .int a11, .int a12, .rows La] ++ lsI L14 L16 L17 L19 L24 b18 b20 x0 x1 x2 x3 x4 x5 x6 x7 x8 x9 x10 x11 x12 x13 x15 x21 x22 x23 x25 x26 x27) =
    some [.int (tp (MH s a1 a2 a3 a4 a5 a6 a7 a9 a10 a11 a12 La L14 L16 L17 L19 L24 x0 x1 x2 x3 x4 x5 x6 x7 x8 x9 x10 x11 x12 x13 x15 x21 x22 x23 x25 x26 x27) L14 x12 x13 x1 x2 x3 x10)]:=by
  simp only [lsI,List.cons_append,List.nil_append];show IJ (std (ED N) N) (xOf _)=_;have e1:∀ ls,ED N 140 [] ls=BU N ls:=fun ls=>rfl
  have e2:∀ ls,ED N 224 [] ls=BV N ls:=fun ls=>rfl
  have e3:∀ ls,ED N 225 [] ls=DA N ls:=fun ls=>rfl
  have l16:=VZ N s a1 a2 a3 a4 a5 a6 a7 a9 a10 a11 a12 a8 La L14 L16 L17 L19 L24 b18 b20 x0 x1 x2 x3 x4 x5 x6 x7 x8 x9 x10 x11 x12 x13 x15 x21 x22 x23 x25 x26 x27 hN hs h14 h16 h17 h19;have l61:=lK N L14 L16 L17 L19 L24 b18 b20 x0 x1 x2 x3 x4 x5 x6 x7 x8 x9 x10 x11 x12 x13 x15 x21 x22 x23 x25 x26 x27 (by omega) (by omega);have l62:=pE N L14 L16 L17 L19 L24 b18 b20 x0 x1 x2 x3 x4 x5 x6 x7 x8 x9 x10 x11 x12 x13 x15 x21 x22 x23 x25 x26 x27 (by omega) (by omega);simp only [lsI,List.cons_append,List.nil_append] at l16 l61 l62;simp only [IJ,Alg.q,std,xOf,PXb,PXc,PXn,AD,e1,e2,e3,l16,l61,l62,tp];cases MH s a1 a2 a3 a4 a5 a6 a7 a9 a10 a11 a12 La L14 L16 L17 L19 L24 x0 x1 x2 x3 x4 x5 x6 x7 x8 x9 x10 x11 x12 x13 x15 x21 x22 x23 x25 x26 x27<;>try rfl
  cases (iLt 0 x1&&iLe x1 x3)<;>try rfl
  cases DS L14 x12 x13
  · cases (iLt 0 x2&&iLe x2 x10)<;>rfl
  · simp only [PXb,PXc,PXn,AD];cases ((B8 L14 L14.length).length:Int)==0<;>cases (iLt 0 x2&&iLe x2 x10)<;>rfl
theorem sH (hN : 2097152 < N) (hs : s.size ≤ 1048576) (h14 : L14.length ≤ 1048576) (h16 : L16.length ≤ 1048576) (h17 : L17.length ≤ 1048576) (h19 : L19.length ≤ 1048576) : Ko N ([.str s, .int a1, .int a2, .int a3, .int a4, .int a5, .int a6, .int a7, .bool a8, .int a9, .int a10, .int a11, .int a12, .rows La] ++ lsI L14 L16 L17 L19 L24 b18 b20 x0 x1 x2 x3 x4 x5 x6 x7 x8 x9 x10 x11 x12 x13 x15 x21 x22 x23 x25 x26 x27) =
    some [.int (tp (MH s a1 a2 a3 a4 a5 a6 a7 a9 a10 a11 a12 La L14 L16 L17 L19 L24 x0 x1 x2 x3 x4 x5 x6 x7 x8 x9 x10 x11 x12 x13 x15 x21 x22 x23 x25 x26 x27) L14 x12 x13 x1 x2 x3 x10)]:=by
  simp only [lsI,List.cons_append,List.nil_append];show Oy (std (HM N) N) (xOf _)=_;have e1:∀ ls,HM N 155 [] ls=C0 N ls:=fun ls=>rfl
  have e2:∀ ls,HM N 204 [] ls=CX N ls:=fun ls=>rfl
  have e3:∀ ls,HM N 205 [] ls=Eu N ls:=fun ls=>rfl
  have l16:=ed N s a1 a2 a3 a4 a5 a6 a7 a9 a10 a11 a12 a8 La L14 L16 L17 L19 L24 b18 b20 x0 x1 x2 x3 x4 x5 x6 x7 x8 x9 x10 x11 x12 x13 x15 x21 x22 x23 x25 x26 x27 hN hs h14 h16 h17 h19;have l61:=rz N L14 L16 L17 L19 L24 b18 b20 x0 x1 x2 x3 x4 x5 x6 x7 x8 x9 x10 x11 x12 x13 x15 x21 x22 x23 x25 x26 x27 (by omega) (by omega);have l62:=wZ N L14 L16 L17 L19 L24 b18 b20 x0 x1 x2 x3 x4 x5 x6 x7 x8 x9 x10 x11 x12 x13 x15 x21 x22 x23 x25 x26 x27 (by omega) (by omega);simp only [lsI,List.cons_append,List.nil_append] at l16 l61 l62;simp only [Oy,Alg.q,std,xOf,PXb,PXc,PXn,AD,e1,e2,e3,l16,l61,l62,tp];cases MH s a1 a2 a3 a4 a5 a6 a7 a9 a10 a11 a12 La L14 L16 L17 L19 L24 x0 x1 x2 x3 x4 x5 x6 x7 x8 x9 x10 x11 x12 x13 x15 x21 x22 x23 x25 x26 x27<;>try rfl
  cases (iLt 0 x1&&iLe x1 x3)<;>try rfl
  cases DS L14 x12 x13
  · cases (iLt 0 x2&&iLe x2 x10)<;>rfl
  · simp only [PXb,PXc,PXn,AD];cases ((B8 L14 L14.length).length:Int)==0<;>cases (iLt 0 x2&&iLe x2 x10)<;>rfl
end
end Go.Px
end
section
namespace Go.Px
set_option maxRecDepth 100000
section
variable (N:Nat) (s:ByteArray) (a1 a2 a3 a4 a5 a6 a7 a9 a10 a11 a12:Int) (a8:Bool) (La:Rows) (L14 L16 L17 L19 L24:Rows) (b18 b20:Bool) (x0 x1 x2 x3 x4 x5 x6 x7 x8 x9 x10 x11 x12 x13 x15 x21 x22 x23 x25 x26 x27:Int)
def Cc (a4 x10 x11:Int):Int:=IntKind.i64.wrap (IntKind.i64.wrap (x10 * a4)+x11)
end
end Go.Px
end
section
namespace Go.Px
set_option maxRecDepth 100000
def A2 (r:Rul):Int:=D8 r.name r.side r.innings r.overs r.balls r.quota r.wide r.noball r.newball r.followon r.reviews r.outside r.power
theorem Da {N:Nat} {r8:Bool} {r0:ByteArray} {r13:Rows} (hN:2097152<N) (hs:r0.size≤1048576):AZ N [.str r0,.int r1,.int r2,.int r3,.int r4,.int r5,.int r6,.int r7,.bool r8,.int r9,.int r10,.int r11,.int r12,.rows r13]=some [.int (A2 (⟨r0,r1,r2,r3,r4,r5,r6,r7,r8,r9,r10,r11,r12,r13⟩:Rul))]:=by
 exact YM N _ _ _ _ _ _ _ _ _ _ _ _ _ _ hN hs
theorem FB {N:Nat} {r8:Bool} {r0:ByteArray} {r13:Rows} (hN:2097152<N) (hs:r0.size≤1048576):Am N [.str r0,.int r1,.int r2,.int r3,.int r4,.int r5,.int r6,.int r7,.bool r8,.int r9,.int r10,.int r11,.int r12,.rows r13]=some [.int (A2 (⟨r0,r1,r2,r3,r4,r5,r6,r7,r8,r9,r10,r11,r12,r13⟩:Rul))]:=by
 exact eF N _ _ _ _ _ _ _ _ _ _ _ _ _ _ hN hs
theorem Xg {N:Nat} {s18 s20:Bool} (h:Fit s14 s16 s17 s19 s24):C6 N [.int s0,.int s1,.int s2,.int s3,.int s4,.int s5,.int s6,.int s7,.int s8,.int s9,.int s10,.int s11,.int s12,.int s13,.rows s14,.int s15,.rows s16,.rows s17,.bool s18,.rows s19,.bool s20,.int s21,.int s22,.int s23,.rows s24,.int s25,.int s26,.int s27]=some [.int s0,.int s1,.int s2,.int s3,.int s4,.int s5,.int s6,.int s7,.int s8,.int s9,.int s10,.int s11,.int s12,.int s13,.rows s14,.int s15,.rows s16,.rows s17,.bool s18,.rows s19,.bool s20,.int s21,.int s22,.int s23,.rows s24,.int s25,.int s26,.int s27]:=by
 show Rl (std (JK N) N) (xOf _)=_;simp only [Rl,OM,Q1,QG,Alg.q,std,xOf,PXb,PXc,PXn,PXm,Nat.reduceAdd,Int.reduceBEq,Ac,Aq,Aj,Bn h.bt (show 1≤4096 by omega),Bn h.bw' (show 8≤4096 by omega),Bn h.bf (show 8≤4096 by omega),Bn h.bd (show 8≤4096 by omega),Bn h.sb (show 1≤4096 by omega)]
theorem XQ {N:Nat} {s18 s20:Bool} (h:Fit s14 s16 s17 s19 s24):C4 N [.int s0,.int s1,.int s2,.int s3,.int s4,.int s5,.int s6,.int s7,.int s8,.int s9,.int s10,.int s11,.int s12,.int s13,.rows s14,.int s15,.rows s16,.rows s17,.bool s18,.rows s19,.bool s20,.int s21,.int s22,.int s23,.rows s24,.int s25,.int s26,.int s27]=some [.int s0,.int s1,.int s2,.int s3,.int s4,.int s5,.int s6,.int s7,.int s8,.int s9,.int s10,.int s11,.int s12,.int s13,.rows s14,.int s15,.rows s16,.rows s17,.bool s18,.rows s19,.bool s20,.int s21,.int s22,.int s23,.rows s24,.int s25,.int s26,.int s27]:=by
 show Rp (std (Ix N) N) (xOf _)=_;simp only [Rp,ON,Q9,QF,Alg.q,std,xOf,PXb,PXc,PXn,PXm,Nat.reduceAdd,Int.reduceBEq,Ac,Aq,Aj,Bn h.bt (show 1≤4096 by omega),Bn h.bw' (show 8≤4096 by omega),Bn h.bf (show 8≤4096 by omega),Bn h.bd (show 8≤4096 by omega),Bn h.sb (show 1≤4096 by omega)]
theorem CR {N:Nat} {s18 s20:Bool} (h:Fit s14 s16 s17 s19 s24):AW N [.int s0,.int s1,.int s2,.int s3,.int s4,.int s5,.int s6,.int s7,.int s8,.int s9,.int s10,.int s11,.int s12,.int s13,.rows s14,.int s15,.rows s16,.rows s17,.bool s18,.rows s19,.bool s20,.int s21,.int s22,.int s23,.rows s24,.int s25,.int s26,.int s27]=some [.int s0,.int s1,.int s2,.int s3,.int s4,.int s5,.int s6,.int s7,.int s8,.int s9,.int s10,.int s11,.int s12,.int s13,.rows s14,.int s15,.rows s16,.rows s17,.bool s18,.rows s19,.bool s20,.int s21,.int s22,.int s23,.rows s24,.int s25,.int s26,.int s27]:=by
 show Jq (std (Ea N) N) (xOf _)=_;simp only [Jq,Lp,NW,MW,Alg.q,std,xOf,PXb,PXc,PXn,PXm,Nat.reduceAdd,Int.reduceBEq,Ac,Aq,Aj,Bn h.bt (show 1≤4096 by omega),Bn h.bw' (show 8≤4096 by omega),Bn h.bf (show 8≤4096 by omega),Bn h.bd (show 8≤4096 by omega),Bn h.sb (show 1≤4096 by omega)]
theorem Xn {N:Nat} {s18 s20:Bool} (h:Fit s14 s16 s17 s19 s24):DH N [.int s0,.int s1,.int s2,.int s3,.int s4,.int s5,.int s6,.int s7,.int s8,.int s9,.int s10,.int s11,.int s12,.int s13,.rows s14,.int s15,.rows s16,.rows s17,.bool s18,.rows s19,.bool s20,.int s21,.int s22,.int s23,.rows s24,.int s25,.int s26,.int s27]=some [.int s0,.int s1,.int s2,.int s3,.int s4,.int s5,.int s6,.int s7,.int s8,.int s9,.int s10,.int s11,.int s12,.int s13,.rows s14,.int s15,.rows s16,.rows s17,.bool s18,.rows s19,.bool s20,.int s21,.int s22,.int s23,.rows s24,.int s25,.int s26,.int s27]:=by
 show Ro (std (S8 N) N) (xOf _)=_;simp only [Ro,ZF,Alg.q,std,xOf,PXb,PXc,PXn,PXm,Nat.reduceAdd,Int.reduceBEq,CF h]
theorem S1 {N:Nat} {s18 s20:Bool} {p:Int}  : CB N [.int s0,.int s1,.int s2,.int s3,.int s4,.int s5,.int s6,.int s7,.int s8,.int s9,.int s10,.int s11,.int s12,.int s13,.rows s14,.int s15,.rows s16,.rows s17,.bool s18,.rows s19,.bool s20,.int s21,.int s22,.int s23,.rows s24,.int s25,.int s26,.int s27,.int p]=some [.bool (inR p s19.length)]:=by
 show NB (std (XH N) N) (xOf _)=_;simp only [NB,Alg.q,std,xOf,PXb,PXc,PXn,PXm,Nat.reduceAdd,Int.reduceBEq];rfl
theorem Uv {N:Nat} {s18 s20:Bool} {p:Int}  : Ce N [.int s0,.int s1,.int s2,.int s3,.int s4,.int s5,.int s6,.int s7,.int s8,.int s9,.int s10,.int s11,.int s12,.int s13,.rows s14,.int s15,.rows s16,.rows s17,.bool s18,.rows s19,.bool s20,.int s21,.int s22,.int s23,.rows s24,.int s25,.int s26,.int s27,.int p]=some [.bool (inR p s19.length)]:=by
 show Pj (std (ZK N) N) (xOf _)=_;simp only [Pj,Alg.q,std,xOf,PXb,PXc,PXn,PXm,Nat.reduceAdd,Int.reduceBEq];rfl
theorem JL {N:Nat} {s18 s20:Bool} {p:Int}  : BA N [.int s0,.int s1,.int s2,.int s3,.int s4,.int s5,.int s6,.int s7,.int s8,.int s9,.int s10,.int s11,.int s12,.int s13,.rows s14,.int s15,.rows s16,.rows s17,.bool s18,.rows s19,.bool s20,.int s21,.int s22,.int s23,.rows s24,.int s25,.int s26,.int s27,.int p]=some [.bool (inR p s24.length)]:=by
 show M5 (std (XG N) N) (xOf _)=_;simp only [M5,Alg.q,std,xOf,PXb,PXc,PXn,PXm,Nat.reduceAdd,Int.reduceBEq];rfl
theorem P5 {N:Nat} {s18 s20:Bool} {p:Int}  : Bl N [.int s0,.int s1,.int s2,.int s3,.int s4,.int s5,.int s6,.int s7,.int s8,.int s9,.int s10,.int s11,.int s12,.int s13,.rows s14,.int s15,.rows s16,.rows s17,.bool s18,.rows s19,.bool s20,.int s21,.int s22,.int s23,.rows s24,.int s25,.int s26,.int s27,.int p]=some [.bool (inR p s24.length)]:=by
 show Pt (std (Yc N) N) (xOf _)=_;simp only [Pt,Alg.q,std,xOf,PXb,PXc,PXn,PXm,Nat.reduceAdd,Int.reduceBEq];rfl
def atB (L:Rows) (i j:Nat):Bool:=pvB (AK L i j)
theorem oq (L:Rows) (i j:Nat):pvB (AK L i j)=atB L i j:=rfl
def DF (s:Inn) (p:Int):Bool:=inR p s.subs.length&&atB s.subs (ix p) 0
theorem Is {N:Nat} {s18 s20:Bool} {p:Int} (h:s24.length≤1048576):A9 N [.int s0,.int s1,.int s2,.int s3,.int s4,.int s5,.int s6,.int s7,.int s8,.int s9,.int s10,.int s11,.int s12,.int s13,.rows s14,.int s15,.rows s16,.rows s17,.bool s18,.rows s19,.bool s20,.int s21,.int s22,.int s23,.rows s24,.int s25,.int s26,.int s27,.int p]=some [.bool (DF (⟨s0,s1,s2,s3,s4,s5,s6,s7,s8,s9,s10,s11,s12,s13,s14,s15,s16,s17,s18,s19,s20,s21,s22,s23,s24,s25,s26,s27⟩:Inn) p)]:=by
 show It (std (K3 N) N) (xOf _)=_;generalize hres:(some [.bool (DF (⟨s0,s1,s2,s3,s4,s5,s6,s7,s8,s9,s10,s11,s12,s13,s14,s15,s16,s17,s18,s19,s20,s21,s22,s23,s24,s25,s26,s27⟩:Inn) p)]:Option (List PV))=RR;simp only [It,Qz,Alg.q,std,xOf,PXb,PXc,PXn,PXm,Nat.reduceAdd,Int.reduceBEq,JL,zC h];subst hres;simp only [DF];cases hp:inR p s24.length with
 | false=>rfl
 | true=>first | rfl | (rw [Di hp h];rfl)
theorem H4 {N:Nat} {s18 s20:Bool} {p:Int} (h:s24.length≤1048576):A4 N [.int s0,.int s1,.int s2,.int s3,.int s4,.int s5,.int s6,.int s7,.int s8,.int s9,.int s10,.int s11,.int s12,.int s13,.rows s14,.int s15,.rows s16,.rows s17,.bool s18,.rows s19,.bool s20,.int s21,.int s22,.int s23,.rows s24,.int s25,.int s26,.int s27,.int p]=some [.bool (DF (⟨s0,s1,s2,s3,s4,s5,s6,s7,s8,s9,s10,s11,s12,s13,s14,s15,s16,s17,s18,s19,s20,s21,s22,s23,s24,s25,s26,s27⟩:Inn) p)]:=by
 show LZ (std (VE N) N) (xOf _)=_;generalize hres:(some [.bool (DF (⟨s0,s1,s2,s3,s4,s5,s6,s7,s8,s9,s10,s11,s12,s13,s14,s15,s16,s17,s18,s19,s20,s21,s22,s23,s24,s25,s26,s27⟩:Inn) p)]:Option (List PV))=RR;simp only [LZ,Alg.q,std,xOf,PXb,PXc,PXn,PXm,Nat.reduceAdd,Int.reduceBEq,zC h];subst hres;simp only [DF];cases hp:inR p s24.length with
 | false =>
  unfold inR at hp;have hq:(!iLe 1 p || !iLe p (s24.length:Int)||iIn (IntKind.i64.wrap (p - 1)) (s24.length:Int))=true:=by rw [← Bool.not_and,hp];rfl
  simp only [hp,hq,PXb,PXc,PXn,PXm,Nat.reduceAdd,Int.reduceBEq]
 | true=>have hk:=Di hp h;unfold inR at hp;simp only [hp,hk,PXb,PXc,PXn,PXm,Nat.reduceAdd,Int.reduceBEq,atB,ix]
def lT (x:Int):Int:=cond (iLt x 0) 0 x
def PU (r:Rul) (s:Inn) (p:Int):Int :=
 cond (!inR p s.bowled.length || !(A2 r==0)) 0 (cond (r.quota==0) (-1) (lT (IntKind.i64.wrap (IntKind.i64.wrap (r.quota * r.balls) - lT (atI s.bowled (ix p) 0)))))
theorem yU (r:Rul) (s:Inn) (p:Int):iLe 0 (PU r s p) = !(PU r s p == -1):=by
 unfold PU;cases (!inR p s.bowled.length || !(A2 r==0)) with
 | true=>rfl
 | false =>
  cases r.quota==0 with
  | true=>rfl
  | false =>
   simp only [cond_false];generalize IntKind.i64.wrap (IntKind.i64.wrap (r.quota * r.balls) - lT (atI s.bowled (ix p) 0))=x;unfold lT;cases h:iLt x 0 with
   | true=>rfl
   | false =>
    simp only [iLt,decide_eq_false_iff_not] at h;simp only [cond_false];have h1:iLe 0 x=true:=by simp only [iLe,decide_eq_true_eq];omega
    have h2:(x == -1)=false:=by simp only [beq_eq_false_iff_ne];omega
    rw [h1,h2];rfl
theorem vu {N:Nat} {r8:Bool} {r0:ByteArray} {r13:Rows} {s18 s20:Bool} {p:Int} (h:Fit s14 s16 s17 s19 s24) (hN:2097152<N) (hs:r0.size≤1048576):LB N [.str r0,.int r1,.int r2,.int r3,.int r4,.int r5,.int r6,.int r7,.bool r8,.int r9,.int r10,.int r11,.int r12,.rows r13,.int s0,.int s1,.int s2,.int s3,.int s4,.int s5,.int s6,.int s7,.int s8,.int s9,.int s10,.int s11,.int s12,.int s13,.rows s14,.int s15,.rows s16,.rows s17,.bool s18,.rows s19,.bool s20,.int s21,.int s22,.int s23,.rows s24,.int s25,.int s26,.int s27,.int p]=some [.int (PU (⟨r0,r1,r2,r3,r4,r5,r6,r7,r8,r9,r10,r11,r12,r13⟩:Rul) (⟨s0,s1,s2,s3,s4,s5,s6,s7,s8,s9,s10,s11,s12,s13,s14,s15,s16,s17,s18,s19,s20,s21,s22,s23,s24,s25,s26,s27⟩:Inn) p)]:=by
 show O3 (std (LY N) N) (xOf _)=_;generalize hres:(some [.int (PU (⟨r0,r1,r2,r3,r4,r5,r6,r7,r8,r9,r10,r11,r12,r13⟩:Rul) (⟨s0,s1,s2,s3,s4,s5,s6,s7,s8,s9,s10,s11,s12,s13,s14,s15,s16,s17,s18,s19,s20,s21,s22,s23,s24,s25,s26,s27⟩:Inn) p)]:Option (List PV))=RR;simp only [O3,Um,Uj,Alg.q,std,xOf,PXb,PXc,PXn,PXm,Nat.reduceAdd,Int.reduceBEq,Da hN hs,S1];subst hres;simp only [PU];cases hp:inR p s19.length with
 | false=>rfl
 | true=>rw [Di hp h.bd];cases A2 (⟨r0,r1,r2,r3,r4,r5,r6,r7,r8,r9,r10,r11,r12,r13⟩:Rul)==0<;>cases r5==0<;>rfl
theorem xv {N:Nat} {r8:Bool} {r0:ByteArray} {r13:Rows} {s18 s20:Bool} {p:Int} (h:Fit s14 s16 s17 s19 s24) (hN:2097152<N) (hs:r0.size≤1048576):OX N [.str r0,.int r1,.int r2,.int r3,.int r4,.int r5,.int r6,.int r7,.bool r8,.int r9,.int r10,.int r11,.int r12,.rows r13,.int s0,.int s1,.int s2,.int s3,.int s4,.int s5,.int s6,.int s7,.int s8,.int s9,.int s10,.int s11,.int s12,.int s13,.rows s14,.int s15,.rows s16,.rows s17,.bool s18,.rows s19,.bool s20,.int s21,.int s22,.int s23,.rows s24,.int s25,.int s26,.int s27,.int p]=some [.int (PU (⟨r0,r1,r2,r3,r4,r5,r6,r7,r8,r9,r10,r11,r12,r13⟩:Rul) (⟨s0,s1,s2,s3,s4,s5,s6,s7,s8,s9,s10,s11,s12,s13,s14,s15,s16,s17,s18,s19,s20,s21,s22,s23,s24,s25,s26,s27⟩:Inn) p)]:=by
 show Th (std (PZ N) N) (xOf _)=_;generalize hres:(some [.int (PU (⟨r0,r1,r2,r3,r4,r5,r6,r7,r8,r9,r10,r11,r12,r13⟩:Rul) (⟨s0,s1,s2,s3,s4,s5,s6,s7,s8,s9,s10,s11,s12,s13,s14,s15,s16,s17,s18,s19,s20,s21,s22,s23,s24,s25,s26,s27⟩:Inn) p)]:Option (List PV))=RR;simp only [Th,aQ,Ya,Alg.q,std,xOf,PXb,PXc,PXn,PXm,Nat.reduceAdd,Int.reduceBEq,FB hN hs,Uv];subst hres;simp only [PU];cases hp:inR p s19.length with
 | false=>cases A2 (⟨r0,r1,r2,r3,r4,r5,r6,r7,r8,r9,r10,r11,r12,r13⟩:Rul)==0<;>rfl
 | true=>rw [Di hp h.bd];cases A2 (⟨r0,r1,r2,r3,r4,r5,r6,r7,r8,r9,r10,r11,r12,r13⟩:Rul)==0<;>cases r5==0<;>rfl
theorem qQ {N:Nat} {L:Rows} {v:Int} (hN:2097152<N) (hl:L.length≤1048576):IE N [.rows L,.int v]=some [.bool (H7 L L.length v)]:=by
 show WZ (std (jH N) N) (xOf _)=_;simp only [WZ,Alg.q,std,xOf,PXb,PXc,PXn,AD];refine AM (Cs (len:=L.length) (fun j=>v==atI L j 0) [.bool true] ?_ ?_ N (by omega)) ?_
 ·intro self;simp only [PXb,PXc,PXn,AD,Ao]
 ·intro i self hi;simp only [PXb,PXc,PXn,AD,Ag (show i≤1099511627776 by omega),Ad hi,AN hi,BS];rw [BEq.comm (a:=v)]
 ·unfold H7;cases A1 (fun j=>v==atI L j 0) L.length 0<;>rfl
theorem OA {N:Nat} {L:Rows} {v:Int} (hN:2097152<N) (hl:L.length≤1048576):Ay N [.rows L,.int v]=some [.bool (H7 L L.length v)]:=by
 exact Mi N L v (by omega) (by omega)
def Hp (r:Rul) (s:Inn) (p:Int):Int :=
  cond (!inR p s.bowled.length || !(A2 r==0)) 3 (cond (p==s.keeper||p==s.bowler||DF s p) 7
    (cond (H7 s.before s.before.length p) 8 (cond (!(PU r s p == -1)&&iLt s.inover (IntKind.i64.wrap (r.balls - PU r s p))) 9 0)))
theorem z7 {p:Int} {n m:Nat} (h:inR p n=true):inR p m=iLe p (m:Int):=by
 unfold inR at h ⊢;rw [Bool.and_eq_true] at h;rw [h.1,Bool.true_and]
theorem xC {N:Nat} {r8:Bool} {r0:ByteArray} {r13:Rows} {s18 s20:Bool} {p:Int} (h:Fit s14 s16 s17 s19 s24) (hN:2097152<N) (hs:r0.size≤1048576):MJ N [.str r0,.int r1,.int r2,.int r3,.int r4,.int r5,.int r6,.int r7,.bool r8,.int r9,.int r10,.int r11,.int r12,.rows r13,.int s0,.int s1,.int s2,.int s3,.int s4,.int s5,.int s6,.int s7,.int s8,.int s9,.int s10,.int s11,.int s12,.int s13,.rows s14,.int s15,.rows s16,.rows s17,.bool s18,.rows s19,.bool s20,.int s21,.int s22,.int s23,.rows s24,.int s25,.int s26,.int s27,.int p]=some [.int (Hp (⟨r0,r1,r2,r3,r4,r5,r6,r7,r8,r9,r10,r11,r12,r13⟩:Rul) (⟨s0,s1,s2,s3,s4,s5,s6,s7,s8,s9,s10,s11,s12,s13,s14,s15,s16,s17,s18,s19,s20,s21,s22,s23,s24,s25,s26,s27⟩:Inn) p)]:=by
 show Rv (std (F2 N) N) (xOf _)=_;generalize hres:(some [.int (Hp (⟨r0,r1,r2,r3,r4,r5,r6,r7,r8,r9,r10,r11,r12,r13⟩:Rul) (⟨s0,s1,s2,s3,s4,s5,s6,s7,s8,s9,s10,s11,s12,s13,s14,s15,s16,s17,s18,s19,s20,s21,s22,s23,s24,s25,s26,s27⟩:Inn) p)]:Option (List PV))=RR;simp only [Rv,V1,OO,WG,Xw,Alg.q,std,xOf,PXb,PXc,PXn,PXm,Nat.reduceAdd,Int.reduceBEq,Da hN hs,S1,vu h hN hs,OA hN h.bf];subst hres;simp only [Hp,DF];cases hp:inR p s19.length with
 | false=>rfl
 | true =>
  rw [z7 (m:=s24.length) hp];have hq:(!(iLe p (s24.length:Int))||iIn (IntKind.i64.wrap (p - 1)) (s24.length:Int))=true:=by
   cases h1:iLe p (s24.length:Int) with
   | false=>rfl
   | true=>rw [Di (by rw [z7 hp];exact h1) h.sb];rfl
  rw [hq];cases A2 (⟨r0,r1,r2,r3,r4,r5,r6,r7,r8,r9,r10,r11,r12,r13⟩:Rul)==0<;>rfl
theorem AAQ {N:Nat} {r8:Bool} {r0:ByteArray} {r13:Rows} {s18 s20:Bool} {p:Int} (h:Fit s14 s16 s17 s19 s24) (hN:2097152<N) (hs:r0.size≤1048576):SQ N [.str r0,.int r1,.int r2,.int r3,.int r4,.int r5,.int r6,.int r7,.bool r8,.int r9,.int r10,.int r11,.int r12,.rows r13,.int s0,.int s1,.int s2,.int s3,.int s4,.int s5,.int s6,.int s7,.int s8,.int s9,.int s10,.int s11,.int s12,.int s13,.rows s14,.int s15,.rows s16,.rows s17,.bool s18,.rows s19,.bool s20,.int s21,.int s22,.int s23,.rows s24,.int s25,.int s26,.int s27,.int p]=some [.int (Hp (⟨r0,r1,r2,r3,r4,r5,r6,r7,r8,r9,r10,r11,r12,r13⟩:Rul) (⟨s0,s1,s2,s3,s4,s5,s6,s7,s8,s9,s10,s11,s12,s13,s14,s15,s16,s17,s18,s19,s20,s21,s22,s23,s24,s25,s26,s27⟩:Inn) p)]:=by
 show WL (std (Gy N) N) (xOf _)=_;generalize hres:(some [.int (Hp (⟨r0,r1,r2,r3,r4,r5,r6,r7,r8,r9,r10,r11,r12,r13⟩:Rul) (⟨s0,s1,s2,s3,s4,s5,s6,s7,s8,s9,s10,s11,s12,s13,s14,s15,s16,s17,s18,s19,s20,s21,s22,s23,s24,s25,s26,s27⟩:Inn) p)]:Option (List PV))=RR;simp only [WL,dN,X9,ao,fw,iA,Alg.q,std,xOf,PXb,PXc,PXn,PXm,Nat.reduceAdd,Int.reduceBEq,FB hN hs,Uv,xv h hN hs,qQ hN h.bf,H4 h.sb,yU];subst hres;simp only [Hp];cases hp:inR p s19.length<;>cases A2 (⟨r0,r1,r2,r3,r4,r5,r6,r7,r8,r9,r10,r11,r12,r13⟩:Rul)==0<;>cases p==s22<;>cases p==s15<;>rfl
def Rd (r:Rul) (s:Inn) (p:Int):Inn×Int:=(cond (Hp r s p==0) { s with bowler:=p } s,Hp r s p)
theorem vF {N:Nat} {r8:Bool} {r0:ByteArray} {r13:Rows} {s18 s20:Bool} {p:Int} (h:Fit s14 s16 s17 s19 s24) (hN:2097152<N) (hs:r0.size≤1048576):Kx N [.str r0,.int r1,.int r2,.int r3,.int r4,.int r5,.int r6,.int r7,.bool r8,.int r9,.int r10,.int r11,.int r12,.rows r13,.int s0,.int s1,.int s2,.int s3,.int s4,.int s5,.int s6,.int s7,.int s8,.int s9,.int s10,.int s11,.int s12,.int s13,.rows s14,.int s15,.rows s16,.rows s17,.bool s18,.rows s19,.bool s20,.int s21,.int s22,.int s23,.rows s24,.int s25,.int s26,.int s27,.int p]=some (Ah (Rd (⟨r0,r1,r2,r3,r4,r5,r6,r7,r8,r9,r10,r11,r12,r13⟩:Rul) (⟨s0,s1,s2,s3,s4,s5,s6,s7,s8,s9,s10,s11,s12,s13,s14,s15,s16,s17,s18,s19,s20,s21,s22,s23,s24,s25,s26,s27⟩:Inn) p)):=by
 show O6 (std (Ld N) N) (xOf _)=_;generalize hres:(some (Ah (Rd (⟨r0,r1,r2,r3,r4,r5,r6,r7,r8,r9,r10,r11,r12,r13⟩:Rul) (⟨s0,s1,s2,s3,s4,s5,s6,s7,s8,s9,s10,s11,s12,s13,s14,s15,s16,s17,s18,s19,s20,s21,s22,s23,s24,s25,s26,s27⟩:Inn) p)):Option (List PV))=RR;simp only [O6,XW,Xu,Alg.q,std,xOf,PXb,PXc,PXn,PXm,Nat.reduceAdd,Int.reduceBEq,Xg h,xC h hN hs];subst hres;simp only [Rd];cases Hp (⟨r0,r1,r2,r3,r4,r5,r6,r7,r8,r9,r10,r11,r12,r13⟩:Rul) (⟨s0,s1,s2,s3,s4,s5,s6,s7,s8,s9,s10,s11,s12,s13,s14,s15,s16,s17,s18,s19,s20,s21,s22,s23,s24,s25,s26,s27⟩:Inn) p==0<;>rfl
theorem zJ {N:Nat} {r8:Bool} {r0:ByteArray} {r13:Rows} {s18 s20:Bool} {p:Int} (h:Fit s14 s16 s17 s19 s24) (hN:2097152<N) (hs:r0.size≤1048576):Ts N [.str r0,.int r1,.int r2,.int r3,.int r4,.int r5,.int r6,.int r7,.bool r8,.int r9,.int r10,.int r11,.int r12,.rows r13,.int s0,.int s1,.int s2,.int s3,.int s4,.int s5,.int s6,.int s7,.int s8,.int s9,.int s10,.int s11,.int s12,.int s13,.rows s14,.int s15,.rows s16,.rows s17,.bool s18,.rows s19,.bool s20,.int s21,.int s22,.int s23,.rows s24,.int s25,.int s26,.int s27,.int p]=some (Ah (Rd (⟨r0,r1,r2,r3,r4,r5,r6,r7,r8,r9,r10,r11,r12,r13⟩:Rul) (⟨s0,s1,s2,s3,s4,s5,s6,s7,s8,s9,s10,s11,s12,s13,s14,s15,s16,s17,s18,s19,s20,s21,s22,s23,s24,s25,s26,s27⟩:Inn) p)):=by
 show UE (std (PQ N) N) (xOf _)=_;generalize hres:(some (Ah (Rd (⟨r0,r1,r2,r3,r4,r5,r6,r7,r8,r9,r10,r11,r12,r13⟩:Rul) (⟨s0,s1,s2,s3,s4,s5,s6,s7,s8,s9,s10,s11,s12,s13,s14,s15,s16,s17,s18,s19,s20,s21,s22,s23,s24,s25,s26,s27⟩:Inn) p)):Option (List PV))=RR;simp only [UE,aE,eT,Alg.q,std,xOf,PXb,PXc,PXn,PXm,Nat.reduceAdd,Int.reduceBEq,CF h,AAQ h hN hs];subst hres;simp only [Rd];cases Hp (⟨r0,r1,r2,r3,r4,r5,r6,r7,r8,r9,r10,r11,r12,r13⟩:Rul) (⟨s0,s1,s2,s3,s4,s5,s6,s7,s8,s9,s10,s11,s12,s13,s14,s15,s16,s17,s18,s19,s20,s21,s22,s23,s24,s25,s26,s27⟩:Inn) p==0<;>rfl
def pb (x:Inn×Bool):List PV:=[.int x.1.side,.int x.1.target,.int x.1.overs,.int x.1.runs,.int x.1.wickets,.int x.1.wides,.int x.1.noballs,.int x.1.byes,.int x.1.legbyes,.int x.1.pens,.int x.1.complete,.int x.1.inover,.int x.1.striker,.int x.1.other,.rows x.1.batters,.int x.1.bowler,.rows x.1.bowlers,.rows x.1.before,.bool x.1.fresh,.rows x.1.bowled,.bool x.1.freehit,.int x.1.ballage,.int x.1.keeper,.int x.1.outside,.rows x.1.subs,.int x.1.rev1,.int x.1.rev2,.int x.1.ending,.bool x.2]
def inc (x:Int):Int:=IntKind.i64.wrap (x+1)
def Ap (r:Rul) (s:Inn) (counts:Bool):Inn×Bool :=
  cond (!inR s.bowler s.bowled.length || !(A2 r==0)) (s,false)
    (let L:=cond (H7 s.bowlers s.bowlers.length s.bowler) s.bowlers (s.bowlers++[[.int s.bowler]])
     let o:=cond counts (inc s.inover) s.inover
     let t:Inn:={ s with bowlers:=L,bowled:=cond counts (KQ s.bowled s.bowler (inc (atI s.bowled (ix s.bowler) 0))) s.bowled,inover:=o,ballage:=cond counts (inc s.ballage) s.ballage }
     cond (iLt o r.balls) (t,false) ({ t with complete:=inc s.complete,inover:=0,before:=L,bowlers:=[],bowler:=0 },true))
theorem vW {N:Nat} {r8:Bool} {r0:ByteArray} {r13:Rows} {s18 s20:Bool} {b:Bool} (h:Fit s14 s16 s17 s19 s24) (hw:s16.length≤1048575) (hN:2097152<N) (hs:r0.size≤1048576):Kc N [.str r0,.int r1,.int r2,.int r3,.int r4,.int r5,.int r6,.int r7,.bool r8,.int r9,.int r10,.int r11,.int r12,.rows r13,.int s0,.int s1,.int s2,.int s3,.int s4,.int s5,.int s6,.int s7,.int s8,.int s9,.int s10,.int s11,.int s12,.int s13,.rows s14,.int s15,.rows s16,.rows s17,.bool s18,.rows s19,.bool s20,.int s21,.int s22,.int s23,.rows s24,.int s25,.int s26,.int s27,.bool b]=some (pb (Ap (⟨r0,r1,r2,r3,r4,r5,r6,r7,r8,r9,r10,r11,r12,r13⟩:Rul) (⟨s0,s1,s2,s3,s4,s5,s6,s7,s8,s9,s10,s11,s12,s13,s14,s15,s16,s17,s18,s19,s20,s21,s22,s23,s24,s25,s26,s27⟩:Inn) b)):=by
 show QC (std (FH N) N) (xOf _)=_;generalize hres:(some (pb (Ap (⟨r0,r1,r2,r3,r4,r5,r6,r7,r8,r9,r10,r11,r12,r13⟩:Rul) (⟨s0,s1,s2,s3,s4,s5,s6,s7,s8,s9,s10,s11,s12,s13,s14,s15,s16,s17,s18,s19,s20,s21,s22,s23,s24,s25,s26,s27⟩:Inn) b)):Option (List PV))=RR;have ha:(s16++[[PV.int s15]]).length≤1048576:=by simp;omega
 simp only [QC,Vt,Nm,XX,VT,Alg.q,std,xOf,PXb,PXc,PXn,PXm,Nat.reduceAdd,Int.reduceBEq,Xg h,S1,Da hN hs,OA hN h.bw',K0 ha (show 8≤4096 by omega)];subst hres;simp only [Ap];cases hp:inR s15 s19.length with
 | false=>rfl
 | true =>
  rw [Di hp h.bd];cases A2 (⟨r0,r1,r2,r3,r4,r5,r6,r7,r8,r9,r10,r11,r12,r13⟩:Rul)==0<;>try rfl
  cases H7 s16 s16.length s15<;>cases b<;>simp only [PXb,PXc,PXn,PXm,Nat.reduceAdd,Int.reduceBEq,inc]
  all_goals first | (cases iLt s11 r4<;>rfl) | (cases iLt (IntKind.i64.wrap (s11+1)) r4<;>rfl)
theorem y3 {N:Nat} {r8:Bool} {r0:ByteArray} {r13:Rows} {s18 s20:Bool} {b:Bool} (h:Fit s14 s16 s17 s19 s24) (hw:s16.length≤1048575) (hN:2097152<N) (hs:r0.size≤1048576):Tl N [.str r0,.int r1,.int r2,.int r3,.int r4,.int r5,.int r6,.int r7,.bool r8,.int r9,.int r10,.int r11,.int r12,.rows r13,.int s0,.int s1,.int s2,.int s3,.int s4,.int s5,.int s6,.int s7,.int s8,.int s9,.int s10,.int s11,.int s12,.int s13,.rows s14,.int s15,.rows s16,.rows s17,.bool s18,.rows s19,.bool s20,.int s21,.int s22,.int s23,.rows s24,.int s25,.int s26,.int s27,.bool b]=some (pb (Ap (⟨r0,r1,r2,r3,r4,r5,r6,r7,r8,r9,r10,r11,r12,r13⟩:Rul) (⟨s0,s1,s2,s3,s4,s5,s6,s7,s8,s9,s10,s11,s12,s13,s14,s15,s16,s17,s18,s19,s20,s21,s22,s23,s24,s25,s26,s27⟩:Inn) b)):=by
 show T6 (std (Hy N) N) (xOf _)=_;generalize hres:(some (pb (Ap (⟨r0,r1,r2,r3,r4,r5,r6,r7,r8,r9,r10,r11,r12,r13⟩:Rul) (⟨s0,s1,s2,s3,s4,s5,s6,s7,s8,s9,s10,s11,s12,s13,s14,s15,s16,s17,s18,s19,s20,s21,s22,s23,s24,s25,s26,s27⟩:Inn) b)):Option (List PV))=RR;have ha:(s16++[[PV.int s15]]).length≤1048576:=by simp;omega
 simp only [T6,aw,Z2,ZP,gM,Alg.q,std,xOf,PXb,PXc,PXn,PXm,Nat.reduceAdd,Int.reduceBEq,CF h,Uv,FB hN hs,qQ hN h.bw',K0 ha (show 8≤4096 by omega)];subst hres;simp only [Ap];cases hp:inR s15 s19.length with
 | false=>cases A2 (⟨r0,r1,r2,r3,r4,r5,r6,r7,r8,r9,r10,r11,r12,r13⟩:Rul)==0<;>rfl
 | true =>
  rw [Di hp h.bd];cases A2 (⟨r0,r1,r2,r3,r4,r5,r6,r7,r8,r9,r10,r11,r12,r13⟩:Rul)==0<;>try rfl
  cases H7 s16 s16.length s15<;>cases b<;>simp only [PXb,PXc,PXn,PXm,Nat.reduceAdd,Int.reduceBEq,inc]
  all_goals first | (cases iLt s11 r4<;>rfl) | (cases iLt (IntKind.i64.wrap (s11+1)) r4<;>rfl)
def Gl (r:Rul) (s:Inn):Inn×Int :=
 cond (!(A2 r==0)||r.newball==0||iLt s.ballage (IntKind.i64.wrap (r.newball * r.balls))) (s,22) ({ s with ballage:=0 },0)
theorem ml {N:Nat} {r8:Bool} {r0:ByteArray} {r13:Rows} {s18 s20:Bool} (h:Fit s14 s16 s17 s19 s24) (hN:2097152<N) (hs:r0.size≤1048576):GQ N [.str r0,.int r1,.int r2,.int r3,.int r4,.int r5,.int r6,.int r7,.bool r8,.int r9,.int r10,.int r11,.int r12,.rows r13,.int s0,.int s1,.int s2,.int s3,.int s4,.int s5,.int s6,.int s7,.int s8,.int s9,.int s10,.int s11,.int s12,.int s13,.rows s14,.int s15,.rows s16,.rows s17,.bool s18,.rows s19,.bool s20,.int s21,.int s22,.int s23,.rows s24,.int s25,.int s26,.int s27]=some (Ah (Gl (⟨r0,r1,r2,r3,r4,r5,r6,r7,r8,r9,r10,r11,r12,r13⟩:Rul) (⟨s0,s1,s2,s3,s4,s5,s6,s7,s8,s9,s10,s11,s12,s13,s14,s15,s16,s17,s18,s19,s20,s21,s22,s23,s24,s25,s26,s27⟩:Inn))):=by
 show KE (std (HE N) N) (xOf _)=_;generalize hres:(some (Ah (Gl (⟨r0,r1,r2,r3,r4,r5,r6,r7,r8,r9,r10,r11,r12,r13⟩:Rul) (⟨s0,s1,s2,s3,s4,s5,s6,s7,s8,s9,s10,s11,s12,s13,s14,s15,s16,s17,s18,s19,s20,s21,s22,s23,s24,s25,s26,s27⟩:Inn))):Option (List PV))=RR;simp only [KE,Rz,T8,Alg.q,std,xOf,PXb,PXc,PXn,PXm,Nat.reduceAdd,Int.reduceBEq,Xg h,Da hN hs];subst hres;simp only [Gl];cases (!(A2 (⟨r0,r1,r2,r3,r4,r5,r6,r7,r8,r9,r10,r11,r12,r13⟩:Rul)==0)||r9==0||iLt s21 (IntKind.i64.wrap (r9 * r4)))<;>rfl
theorem qy {N:Nat} {r8:Bool} {r0:ByteArray} {r13:Rows} {s18 s20:Bool} (h:Fit s14 s16 s17 s19 s24) (hN:2097152<N) (hs:r0.size≤1048576):M2 N [.str r0,.int r1,.int r2,.int r3,.int r4,.int r5,.int r6,.int r7,.bool r8,.int r9,.int r10,.int r11,.int r12,.rows r13,.int s0,.int s1,.int s2,.int s3,.int s4,.int s5,.int s6,.int s7,.int s8,.int s9,.int s10,.int s11,.int s12,.int s13,.rows s14,.int s15,.rows s16,.rows s17,.bool s18,.rows s19,.bool s20,.int s21,.int s22,.int s23,.rows s24,.int s25,.int s26,.int s27]=some (Ah (Gl (⟨r0,r1,r2,r3,r4,r5,r6,r7,r8,r9,r10,r11,r12,r13⟩:Rul) (⟨s0,s1,s2,s3,s4,s5,s6,s7,s8,s9,s10,s11,s12,s13,s14,s15,s16,s17,s18,s19,s20,s21,s22,s23,s24,s25,s26,s27⟩:Inn))):=by
 show Mr (std (J3 N) N) (xOf _)=_;generalize hres:(some (Ah (Gl (⟨r0,r1,r2,r3,r4,r5,r6,r7,r8,r9,r10,r11,r12,r13⟩:Rul) (⟨s0,s1,s2,s3,s4,s5,s6,s7,s8,s9,s10,s11,s12,s13,s14,s15,s16,s17,s18,s19,s20,s21,s22,s23,s24,s25,s26,s27⟩:Inn))):Option (List PV))=RR;simp only [Mr,WI,V2,Alg.q,std,xOf,PXb,PXc,PXn,PXm,Nat.reduceAdd,Int.reduceBEq,CF h,FB hN hs];subst hres;simp only [Gl];cases (!(A2 (⟨r0,r1,r2,r3,r4,r5,r6,r7,r8,r9,r10,r11,r12,r13⟩:Rul)==0)||r9==0||iLt s21 (IntKind.i64.wrap (r9 * r4)))<;>rfl
end Go.Px
end
