/- Part 9. -/
import Derived.Test.YtdpnocjfbplgjaaGreatPart07
import Derived.Test.YtdpnocjfbplgjaaGreatPart08
set_option linter.unusedVariables false
set_option linter.unusedSimpArgs false
section
namespace Go.Px
set_option maxRecDepth 100000
theorem F2 {N:Nat} {s0 s1 s2 s3 s4 s5 s6 s7 s8 s9 s10 s11 s12 s13 s15 s21 s22 s23 s25 s26 s27:Int} {s18 s20:Bool} {s14 s16 s17 s19 s24:Rows} (h:Fit s14 s16 s17 s19 s24):Aq N [.int s0,.int s1,.int s2,.int s3,.int s4,.int s5,.int s6,.int s7,.int s8,.int s9,.int s10,.int s11,.int s12,.int s13,.rows s14,.int s15,.rows s16,.rows s17,.bool s18,.rows s19,.bool s20,.int s21,.int s22,.int s23,.rows s24,.int s25,.int s26,.int s27]=some [.int s0,.int s1,.int s2,.int s3,.int s4,.int s5,.int s6,.int s7,.int s8,.int s9,.int s10,.int s11,.int s12,.int s13,.rows s14,.int s15,.rows s16,.rows s17,.bool s18,.rows s19,.bool s20,.int s21,.int s22,.int s23,.rows s24,.int s25,.int s26,.int s27]:=by
 show Kt (std (GH N) N) (xOf _)=_
 simp only [Kt,J5,Lg,LD,std,xOf,PXb,PXc,PXn,PXm,Nat.reduceAdd,Int.reduceBEq,AN,AZ,AU,BL h.bt (show 1≤4096 by omega),BL h.bw' (show 8≤4096 by omega),BL h.bf (show 8≤4096 by omega),BL h.bd (show 8≤4096 by omega),BL h.sb (show 1≤4096 by omega)]
theorem Fz {N:Nat} {s0 s1 s2 s3 s4 s5 s6 s7 s8 s9 s10 s11 s12 s13 s15 s21 s22 s23 s25 s26 s27:Int} {s18 s20:Bool} {s14 s16 s17 s19 s24:Rows} {p:Int}  : Ap N [.int s0,.int s1,.int s2,.int s3,.int s4,.int s5,.int s6,.int s7,.int s8,.int s9,.int s10,.int s11,.int s12,.int s13,.rows s14,.int s15,.rows s16,.rows s17,.bool s18,.rows s19,.bool s20,.int s21,.int s22,.int s23,.rows s24,.int s25,.int s26,.int s27,.int p]=some [.bool (inR p s14.length)]:=by
 show Ia (std (PQ N) N) (xOf _)=_
 simp only [Ia,std,xOf,PXb,PXc,PXn,PXm,Nat.reduceAdd,Int.reduceBEq]
 rfl
def Ad (s:Inn) (d:Del):Inn :=
  let odd := !(d.runs.tmod 2==0) != d.crossed
  let t:Inn:=cond odd { s with striker:=s.other,other:=s.striker } s
  let k:Bool:=d.how==0
  cond (!k&&(d.victim==1 && !(s.striker==0)))
    { t with striker:=cond odd t.striker 0,other:=cond odd 0 t.other,batters:=cond (inR s.striker s.batters.length) (L8 s.batters s.striker 2) s.batters,wickets:=IntKind.i64.wrap (s.wickets+1) }
    (cond (!k&&(d.victim==2 && !(s.other==0)))
      { t with striker:=cond odd 0 t.striker,other:=cond odd t.other 0,batters:=cond (inR s.other s.batters.length) (L8 s.batters s.other 2) s.batters,wickets:=IntKind.i64.wrap (s.wickets+1) }
      t)
theorem bT {N:Nat} {s0 s1 s2 s3 s4 s5 s6 s7 s8 s9 s10 s11 s12 s13 s15 s21 s22 s23 s25 s26 s27:Int} {s18 s20:Bool} {s14 s16 s17 s19 s24:Rows} {d0 d1 d2 d3 d4 d6 d7 d8 d9 d11:Int} {d5 d10:Bool} (h:Fit s14 s16 s17 s19 s24):H1 N [.int s0,.int s1,.int s2,.int s3,.int s4,.int s5,.int s6,.int s7,.int s8,.int s9,.int s10,.int s11,.int s12,.int s13,.rows s14,.int s15,.rows s16,.rows s17,.bool s18,.rows s19,.bool s20,.int s21,.int s22,.int s23,.rows s24,.int s25,.int s26,.int s27,.int d0,.int d1,.int d2,.int d3,.int d4,.bool d5,.int d6,.int d7,.int d8,.int d9,.bool d10,.int d11]=some (Ad (⟨s0,s1,s2,s3,s4,s5,s6,s7,s8,s9,s10,s11,s12,s13,s14,s15,s16,s17,s18,s19,s20,s21,s22,s23,s24,s25,s26,s27⟩:Inn) (⟨d0,d1,d2,d3,d4,d5,d6,d7,d8,d9,d10,d11⟩:Del)).ls:=by
 show LU (std (Il N) N) (xOf _)=_
 simp only [LU,Pi,OH,std,xOf,PXb,PXc,PXn,PXm,Nat.reduceAdd,Int.reduceBEq,F2 h,Fz,kY h.bt]
 unfold Ad
 cases d5<;>cases d2.tmod 2==0<;>cases d6==0<;>cases d7==1<;>cases d7==2<;>cases s12==0<;>cases s13==0<;>rfl
def HE (s:Inn):Inn:={ s with striker:=s.other,other:=s.striker }
theorem W6 {N:Nat} {s0 s1 s2 s3 s4 s5 s6 s7 s8 s9 s10 s11 s12 s13 s15 s21 s22 s23 s25 s26 s27:Int} {s18 s20:Bool} {s14 s16 s17 s19 s24:Rows} (h:Fit s14 s16 s17 s19 s24):E2 N [.int s0,.int s1,.int s2,.int s3,.int s4,.int s5,.int s6,.int s7,.int s8,.int s9,.int s10,.int s11,.int s12,.int s13,.rows s14,.int s15,.rows s16,.rows s17,.bool s18,.rows s19,.bool s20,.int s21,.int s22,.int s23,.rows s24,.int s25,.int s26,.int s27]=some (HE (⟨s0,s1,s2,s3,s4,s5,s6,s7,s8,s9,s10,s11,s12,s13,s14,s15,s16,s17,s18,s19,s20,s21,s22,s23,s24,s25,s26,s27⟩:Inn)).ls:=by
 show Ha (std (I3 N) N) (xOf _)=_
 simp only [Ha,NV,std,xOf,PXb,PXc,PXn,PXm,Nat.reduceAdd,Int.reduceBEq,F2 h]
 rfl
theorem Vw {N:Nat} {v:Int}  : CT N [.int v]=some [.bool (!(v==0))]:=by
 show Jy (std (Mr N) N) (xOf _)=_
 rfl
theorem U3 {N:Nat} {v:Int}  : De N [.int v]=some [.bool (!(v==0))]:=by
 show Iy (std (Lp N) N) (xOf _)=_
 rfl
theorem RI {N:Nat} {s0 s1 s2 s3 s4 s5 s6 s7 s8 s9 s10 s11 s12 s13 s15 s21 s22 s23 s25 s26 s27:Int} {s18 s20:Bool} {s14 s16 s17 s19 s24:Rows} (h:s14.length≤1048576) (hN:2097152<N):Bi N [.int s0,.int s1,.int s2,.int s3,.int s4,.int s5,.int s6,.int s7,.int s8,.int s9,.int s10,.int s11,.int s12,.int s13,.rows s14,.int s15,.rows s16,.rows s17,.bool s18,.rows s19,.bool s20,.int s21,.int s22,.int s23,.rows s24,.int s25,.int s26,.int s27]=some [.bool (CU s14)]:=by
 show D4 (std (EA N) N) (xOf _)=_
 simp only [D4,Fb,std,xOf,PXb,PXc,PXn,AG]
 rw [show CU s14=iLe 0 (Nb (fun i => !(atI s14 i 0==0)) s14.length) from (IR _ _).symm]
 rw [Option.bind_assoc]
 refine Ae (Cm (len:=s14.length) (FX fun i => !(atI s14 i 0==0)) ?_ ?_ s14.length 0 N (by omega) (by omega)) ?_
 ·intro self
  simp only [PXb,PXc,PXn,AG,Bc]
 ·intro i self hi
  simp only [PXb,PXc,PXn,AG,Ax (show i≤1099511627776 by omega),BG hi,Al hi,FX,Bv,Fb,Vw]
  cases atI s14 i 0==0<;>rfl
 ·unfold Nb
  cases Bw (FX fun i => !(atI s14 i 0==0)) s14.length 0<;>rfl
theorem Xh {N:Nat} {s0 s1 s2 s3 s4 s5 s6 s7 s8 s9 s10 s11 s12 s13 s15 s21 s22 s23 s25 s26 s27:Int} {s18 s20:Bool} {s14 s16 s17 s19 s24:Rows} (h:s14.length≤1048576) (hN:2097152<N):Ez N [.int s0,.int s1,.int s2,.int s3,.int s4,.int s5,.int s6,.int s7,.int s8,.int s9,.int s10,.int s11,.int s12,.int s13,.rows s14,.int s15,.rows s16,.rows s17,.bool s18,.rows s19,.bool s20,.int s21,.int s22,.int s23,.rows s24,.int s25,.int s26,.int s27]=some [.bool (CU s14)]:=by
 show HZ (std (I1 N) N) (xOf _)=_
 simp only [HZ,Ea,std,xOf,PXb,PXc,PXn,AG]
 rw [show CU s14=iLe 0 (Nb (fun i => !(atI s14 i 0==0)) s14.length) from (IR _ _).symm]
 rw [Option.bind_assoc]
 refine Ae (Cm (len:=s14.length) (FX fun i => !(atI s14 i 0==0)) ?_ ?_ s14.length 0 N (by omega) (by omega)) ?_
 ·intro self
  simp only [PXb,PXc,PXn,AG,Bc]
 ·intro i self hi
  simp only [PXb,PXc,PXn,AG,Ax (show i≤1099511627776 by omega),BG hi,Al hi,FX,Bv,Ea,U3]
  cases atI s14 i 0==0<;>rfl
 ·unfold Nb
  cases Bw (FX fun i => !(atI s14 i 0==0)) s14.length 0<;>rfl
theorem Qb {N:Nat} {s0 s1 s2 s3 s4 s5 s6 s7 s8 s9 s10 s11 s12 s13 s15 s21 s22 s23 s25 s26 s27:Int} {s18 s20:Bool} {s14 s16 s17 s19 s24:Rows} (h:s14.length≤1048576) (hN:2097152<N):A7 N [.int s0,.int s1,.int s2,.int s3,.int s4,.int s5,.int s6,.int s7,.int s8,.int s9,.int s10,.int s11,.int s12,.int s13,.rows s14,.int s15,.rows s16,.rows s17,.bool s18,.rows s19,.bool s20,.int s21,.int s22,.int s23,.rows s24,.int s25,.int s26,.int s27]=some [.bool (GJ s14 s12 s13)]:=by
 show DR (std (Dd N) N) (xOf _)=_
 simp only [DR,MQ,std,xOf,PXb,PXc,PXn,PXm,Nat.reduceAdd,Int.reduceBEq,RI h hN]
 rfl
theorem ZX {N:Nat} {s0 s1 s2 s3 s4 s5 s6 s7 s8 s9 s10 s11 s12 s13 s15 s21 s22 s23 s25 s26 s27:Int} {s18 s20:Bool} {s14 s16 s17 s19 s24:Rows} (h:s14.length≤1048576) (hN:2097152<N):CR N [.int s0,.int s1,.int s2,.int s3,.int s4,.int s5,.int s6,.int s7,.int s8,.int s9,.int s10,.int s11,.int s12,.int s13,.rows s14,.int s15,.rows s16,.rows s17,.bool s18,.rows s19,.bool s20,.int s21,.int s22,.int s23,.rows s24,.int s25,.int s26,.int s27]=some [.rows (Dw s14 s14.length)]:=by
 show Ej (std (LJ N) N) (xOf _)=_
 simp only [Ej,std,xOf,PXb,PXc,PXn,AG]
 refine Ae (Da (len:=s14.length) (fun i=>[.rows (Dw s14 i),.int (i:Int)]) [.rows (Dw s14 s14.length)] ?_ ?_ N (by omega)) rfl
 ·intro self
  simp only [PXb,PXc,PXn,AG,Bc]
 ·intro i self hi
  have h2:(Dw s14 i++[[PV.int ((i:Int)+1)]]).length≤4194304:=by have:=WR s14 i;simp;omega
  simp only [PXb,PXc,PXn,AG,Ax (show i≤1099511627776 by omega),BG hi,Al hi,Bv,Dw,Fd h2 (show 8≤4096 by omega)]
  cases (atI s14 i 0==0||atI s14 i 0==3)<;>rfl
def SR (s:Inn) (p q:Int):Inn×Int :=
  cond (CU s.batters) (s,1) (cond (!inR p s.batters.length || !inR q s.batters.length) (s,3) (cond (p==q) (s,4)
    ({ s with batters:=L8 (L8 s.batters p 1) q 1,striker:=p,other:=q },0)))
theorem ZN {N:Nat} {s0 s1 s2 s3 s4 s5 s6 s7 s8 s9 s10 s11 s12 s13 s15 s21 s22 s23 s25 s26 s27:Int} {s18 s20:Bool} {s14 s16 s17 s19 s24:Rows} {p:Int} {q:Int} (h:Fit s14 s16 s17 s19 s24) (hN:2097152<N):G9 N [.int s0,.int s1,.int s2,.int s3,.int s4,.int s5,.int s6,.int s7,.int s8,.int s9,.int s10,.int s11,.int s12,.int s13,.rows s14,.int s15,.rows s16,.rows s17,.bool s18,.rows s19,.bool s20,.int s21,.int s22,.int s23,.rows s24,.int s25,.int s26,.int s27,.int p,.int q]=some (A9 (SR (⟨s0,s1,s2,s3,s4,s5,s6,s7,s8,s9,s10,s11,s12,s13,s14,s15,s16,s17,s18,s19,s20,s21,s22,s23,s24,s25,s26,s27⟩:Inn) p q)):=by
 show Jl (std (E4 N) N) (xOf _)=_
 generalize hres:(some (A9 (SR (⟨s0,s1,s2,s3,s4,s5,s6,s7,s8,s9,s10,s11,s12,s13,s14,s15,s16,s17,s18,s19,s20,s21,s22,s23,s24,s25,s26,s27⟩:Inn) p q)):Option (List PV))=RR
 simp only [Jl,Oz,NU,Nh,std,xOf,PXb,PXc,PXn,PXm,Nat.reduceAdd,Int.reduceBEq,F2 h,RI h.bt hN,Fz]
 subst hres;simp only [SR]
 cases CU s14<;>try rfl
 cases hp:inR p s14.length<;>cases hq:inR q s14.length<;>try rfl
 rw [JW hp h.bt,JW hq h.bt]
 cases p==q<;>rfl
def MF (s:Inn) (p:Int):Int :=
 cond (!inR p s.batters.length) 3 (cond (!GJ s.batters s.striker s.other||atI s.batters (ix p) 0==1) 4 (cond (atI s.batters (ix p) 0==2) 5 0))
theorem TY {N:Nat} {s0 s1 s2 s3 s4 s5 s6 s7 s8 s9 s10 s11 s12 s13 s15 s21 s22 s23 s25 s26 s27:Int} {s18 s20:Bool} {s14 s16 s17 s19 s24:Rows} {p:Int} (h:s14.length≤1048576) (hN:2097152<N):DB N [.int s0,.int s1,.int s2,.int s3,.int s4,.int s5,.int s6,.int s7,.int s8,.int s9,.int s10,.int s11,.int s12,.int s13,.rows s14,.int s15,.rows s16,.rows s17,.bool s18,.rows s19,.bool s20,.int s21,.int s22,.int s23,.rows s24,.int s25,.int s26,.int s27,.int p]=some [.int (MF (⟨s0,s1,s2,s3,s4,s5,s6,s7,s8,s9,s10,s11,s12,s13,s14,s15,s16,s17,s18,s19,s20,s21,s22,s23,s24,s25,s26,s27⟩:Inn) p)]:=by
 show K3 (std (Im N) N) (xOf _)=_
 generalize hres:(some [.int (MF (⟨s0,s1,s2,s3,s4,s5,s6,s7,s8,s9,s10,s11,s12,s13,s14,s15,s16,s17,s18,s19,s20,s21,s22,s23,s24,s25,s26,s27⟩:Inn) p)]:Option (List PV))=RR
 simp only [K3,Nf,OX,std,xOf,PXb,PXc,PXn,PXm,Nat.reduceAdd,Int.reduceBEq,Fz,Qb h hN]
 subst hres;simp only [MF]
 cases hp:inR p s14.length<;>try rfl
 rw [JW hp h]
 cases GJ s14 s12 s13<;>try rfl
 simp only [PXb,PXc,PXn,PXm,Nat.reduceAdd,Int.reduceBEq,atI,ix]
theorem Yt {s:Inn} {p:Int} (h:(MF s p==0)=true):inR p s.batters.length=true:=by
 unfold MF at h
 cases hp:inR p s.batters.length with
 | true=>rfl
 | false=>rw [hp] at h;cases h
def M1 (s:Inn) (p:Int):Inn×Int :=
 cond (MF s p==0) ({ s with batters:=L8 s.batters p 1,striker:=cond (s.striker==0) p s.striker,other:=cond (s.striker==0) s.other p },0) (s,MF s p)
def Gj (s:Inn) (p:Int):Inn×Int :=
 cond (MF s p==0) ({ s with batters:=L8 s.batters p 2,wickets:=IntKind.i64.wrap (s.wickets+1) },0) (s,MF s p)
theorem Yf {N:Nat} {s0 s1 s2 s3 s4 s5 s6 s7 s8 s9 s10 s11 s12 s13 s15 s21 s22 s23 s25 s26 s27:Int} {s18 s20:Bool} {s14 s16 s17 s19 s24:Rows} {p:Int} (h:Fit s14 s16 s17 s19 s24) (hN:2097152<N):Fp N [.int s0,.int s1,.int s2,.int s3,.int s4,.int s5,.int s6,.int s7,.int s8,.int s9,.int s10,.int s11,.int s12,.int s13,.rows s14,.int s15,.rows s16,.rows s17,.bool s18,.rows s19,.bool s20,.int s21,.int s22,.int s23,.rows s24,.int s25,.int s26,.int s27,.int p]=some (A9 (M1 (⟨s0,s1,s2,s3,s4,s5,s6,s7,s8,s9,s10,s11,s12,s13,s14,s15,s16,s17,s18,s19,s20,s21,s22,s23,s24,s25,s26,s27⟩:Inn) p)):=by
 show Iq (std (GW N) N) (xOf _)=_
 generalize hres:(some (A9 (M1 (⟨s0,s1,s2,s3,s4,s5,s6,s7,s8,s9,s10,s11,s12,s13,s14,s15,s16,s17,s18,s19,s20,s21,s22,s23,s24,s25,s26,s27⟩:Inn) p)):Option (List PV))=RR
 simp only [Iq,OV,OI,std,xOf,PXb,PXc,PXn,PXm,Nat.reduceAdd,Int.reduceBEq,F2 h,TY h.bt hN]
 subst hres;simp only [M1]
 cases hm:MF (⟨s0,s1,s2,s3,s4,s5,s6,s7,s8,s9,s10,s11,s12,s13,s14,s15,s16,s17,s18,s19,s20,s21,s22,s23,s24,s25,s26,s27⟩:Inn) p==0<;>try rfl
 rw [JW (Yt hm) h.bt]
 cases s12==0<;>rfl
theorem WJ {N:Nat} {s0 s1 s2 s3 s4 s5 s6 s7 s8 s9 s10 s11 s12 s13 s15 s21 s22 s23 s25 s26 s27:Int} {s18 s20:Bool} {s14 s16 s17 s19 s24:Rows} {p:Int} (h:Fit s14 s16 s17 s19 s24) (hN:2097152<N):EC N [.int s0,.int s1,.int s2,.int s3,.int s4,.int s5,.int s6,.int s7,.int s8,.int s9,.int s10,.int s11,.int s12,.int s13,.rows s14,.int s15,.rows s16,.rows s17,.bool s18,.rows s19,.bool s20,.int s21,.int s22,.int s23,.rows s24,.int s25,.int s26,.int s27,.int p]=some (A9 (Gj (⟨s0,s1,s2,s3,s4,s5,s6,s7,s8,s9,s10,s11,s12,s13,s14,s15,s16,s17,s18,s19,s20,s21,s22,s23,s24,s25,s26,s27⟩:Inn) p)):=by
 show Gk (std (DL N) N) (xOf _)=_
 generalize hres:(some (A9 (Gj (⟨s0,s1,s2,s3,s4,s5,s6,s7,s8,s9,s10,s11,s12,s13,s14,s15,s16,s17,s18,s19,s20,s21,s22,s23,s24,s25,s26,s27⟩:Inn) p)):Option (List PV))=RR
 simp only [Gk,M3,Lc,M5,std,xOf,PXb,PXc,PXn,PXm,Nat.reduceAdd,Int.reduceBEq,F2 h,TY h.bt hN,Fz]
 subst hres;simp only [Gj]
 cases hm:MF (⟨s0,s1,s2,s3,s4,s5,s6,s7,s8,s9,s10,s11,s12,s13,s14,s15,s16,s17,s18,s19,s20,s21,s22,s23,s24,s25,s26,s27⟩:Inn) p==0<;>try rfl
 have hk:inR p s14.length=true:=Yt hm
 rw [JW hk h.bt,hk]
 rfl
def IP (s:Inn) (p:Int) (hurt:Bool):Inn×Int :=
  cond (!inR p s.batters.length) (s,3) (cond (s.striker==0||s.other==0) (s,6) (cond (!(p==s.striker) && !(p==s.other)) (s,4)
    (cond (hurt&&((Dw s.batters s.batters.length).length:Int)==0) (s,19)
      ({ s with striker:=cond (p==s.striker) 0 s.striker,other:=cond (p==s.striker) s.other 0,batters:=L8 s.batters p (cond hurt 3 2),wickets:=cond hurt s.wickets (IntKind.i64.wrap (s.wickets+1)) },0))))
theorem Wd {N:Nat} {s0 s1 s2 s3 s4 s5 s6 s7 s8 s9 s10 s11 s12 s13 s15 s21 s22 s23 s25 s26 s27:Int} {s18 s20:Bool} {s14 s16 s17 s19 s24:Rows} {p:Int} {b:Bool} (h:Fit s14 s16 s17 s19 s24) (hN:2097152<N):E0 N [.int s0,.int s1,.int s2,.int s3,.int s4,.int s5,.int s6,.int s7,.int s8,.int s9,.int s10,.int s11,.int s12,.int s13,.rows s14,.int s15,.rows s16,.rows s17,.bool s18,.rows s19,.bool s20,.int s21,.int s22,.int s23,.rows s24,.int s25,.int s26,.int s27,.int p,.bool b]=some (A9 (IP (⟨s0,s1,s2,s3,s4,s5,s6,s7,s8,s9,s10,s11,s12,s13,s14,s15,s16,s17,s18,s19,s20,s21,s22,s23,s24,s25,s26,s27⟩:Inn) p b)):=by
 show Hi (std (Df N) N) (xOf _)=_
 generalize hres:(some (A9 (IP (⟨s0,s1,s2,s3,s4,s5,s6,s7,s8,s9,s10,s11,s12,s13,s14,s15,s16,s17,s18,s19,s20,s21,s22,s23,s24,s25,s26,s27⟩:Inn) p b)):Option (List PV))=RR
 simp only [Hi,M6,NW,Lx,std,xOf,PXb,PXc,PXn,PXm,Nat.reduceAdd,Int.reduceBEq,F2 h,Fz,ZX h.bt hN]
 subst hres;simp only [IP]
 cases hp:inR p s14.length<;>try rfl
 rw [JW hp h.bt]
 cases s12==0<;>cases s13==0<;>try rfl
 cases p==s12<;>cases p==s13<;>cases b<;>try rfl
 all_goals (simp only [PXb,PXc,PXn,PXm,Nat.reduceAdd,Int.reduceBEq];cases ((Dw s14 s14.length).length:Int)==0<;>rfl)
end Go.Px
end
section
namespace Go.Px
set_option maxRecDepth 100000
def btw (a b c:Int):Bool:=iLe b a&&iLe a c
theorem DF (N:Nat) (a b c:Int):Af N [.int a,.int b,.int c]=some [.bool (btw a b c)]:=by
 show some [PV.bool (cond (iLe b a) (iLe a c) false)]=_
 rw [Ww];rfl
theorem J1 (N:Nat) (a b c:Int):CB N [.int a,.int b,.int c]=some [.bool (btw a b c)]:=by
 show some [PV.bool (cond (iLe b a) (iLe a c) false)]=_
 rw [Ww];rfl
def L5 (x1 x2 x3 x4 x5 x6 x7 x9 x10 x11 x12:Int):Bool:=btw x1 2 11&&btw x2 1 2&&btw x3 0 90&&btw x4 4 8&&btw x5 0 90&&btw x6 1 5&&btw x7 1 5&&btw x9 0 200&&btw x10 0 1000&&btw x11 0 9&&btw x12 0 11
theorem WB (N : Nat) (x0 : ByteArray) (x1 x2 x3 x4 x5 x6 x7 x9 x10 x11 x12 : Int) (x8 : Bool) (x13 : Rows) :
   Ey N [.str x0,.int x1,.int x2,.int x3,.int x4,.int x5,.int x6,.int x7,.bool x8,.int x9,.int x10,.int x11,.int x12,.rows x13]=some [.bool (L5 x1 x2 x3 x4 x5 x6 x7 x9 x10 x11 x12)]:=by
  show Hk (std (Iw N) N) (xOf _)=_
  have e:∀ ls,Iw N 73 [] ls=CB N ls:=fun ls=>rfl
  simp only [Hk,std,xOf,e,J1,PXb,PXc,PXn,AG,L5]
def Ue (s:ByteArray) (i:Nat):Bool := !(iLe 65 (Mc s i)&&iLe (Mc s i) 90)&&((i:Int)==0||((!(Mc s i==95) && !(Mc s i==45))&&(iLt (Mc s i) 48||iLt 57 (Mc s i))))
def TW (s:ByteArray):Bool := !BI (Ue s) s.size 0&&(iLe 1 s.size&&iLe s.size 16)
theorem jq (s:ByteArray):(E3 s).length=s.size:=by
 simp only [E3,List.length_map,Array.length_toList];rfl
theorem kf (s:ByteArray) (i:Nat) (h:i<s.size):pvI (AH (E3 s) i 0)=Mc s i:=by
 unfold AH AY AA E3 Mc
 simp only [List.getD_eq_getElem?_getD,List.getElem?_map]
 have:i<s.data.toList.length:=by simpa using h
 rw [List.getElem?_eq_getElem this]
 simp [List.getElem?_eq_getElem this]
theorem aA (N:Nat) (s:ByteArray) (hN:s.size<N) (hs:s.size≤1048576):JL N [.str s]=some [.bool (TW s)]:=by
 show Mk (std (S0 N) N) (xOf _)=_
 simp only [Mk,std,xOf,jq,PXb,PXc,PXn,AG]
 refine Ae (IC (len:=s.size) (Ue s) [.bool false] ?_ ?_ N hN) ?_
 ·intro self
  simp only [PXb,PXc,PXn,AG,Bc]
 ·intro i self hi
  simp only [PXb,PXc,PXn,AG,Int.toNat_natCast,kf s i hi,Ax (show i≤1099511627776 by omega),BG hi,Al hi,Ue]
 ·unfold TW
  cases BI (Ue s) s.size 0<;>rfl
end Go.Px
end
section
namespace Go.Px
set_option maxRecDepth 100000
theorem jA {i len:Nat} (h:i<len) (hl:len≤1099511627776):(!iLt 0 (i:Int)||iIn (IntKind.i64.wrap ((i:Int) - 1)) (len:Int))=true:=by
 rw [CV (by omega) (by omega)]
 simp only [iLt,iIn,Bool.or_eq_true,Bool.not_eq_true',decide_eq_false_iff_not,decide_eq_true_eq]
 omega
def ib (L:Rows) (ov:Int) (i:Nat):Bool:=(iLt (atI L i 0) 1||iLt (atI L i 1) (atI L i 0)||iLt ov (atI L i 1)) || !btw (atI L i 2) 0 11
def fo (L:Rows) (i:Nat):Bool:=iLt 0 (i:Int)&&iLe (atI L i 0) (pvI (AH L (IntKind.i64.wrap ((i:Int) - 1)).toNat 1))
def eI (L:Rows) (ov:Int) (i:Nat):Option (List PV):=cond (ib L ov i) (some [.int 2]) (cond (fo L i) (some [.int 8]) none)
def fE:Option (List PV)→Int
 | none=>0
 | some r=>pvI (AA r 0)
def Z2 (L:Rows) (ov:Int):Int:=cond (iLt 8 (L.length:Int)) 9 (fE (Bw (eI L ov) L.length 0))
theorem Wo (o:Option (List PV)):cond (pvI (AA (Um o) 0)==((0:Nat):Int)) (some [PV.int (pvI (AA (Um o) 1))]) (some [PV.int 0])=some [PV.int (fE o)]:=by
 cases o<;>rfl
theorem Wy (N : Nat) (x0 : ByteArray) (x1 x2 x3 x4 x5 x6 x7 x9 x10 x11 x12 : Int) (x8 : Bool) (L : Rows) (hN : 2097152 < N) :
   GM N [.str x0,.int x1,.int x2,.int x3,.int x4,.int x5,.int x6,.int x7,.bool x8,.int x9,.int x10,.int x11,.int x12,.rows L]=some [.int (Z2 L x3)]:=by
  show Ic (std (J8 N) N) (xOf _)=_
  have e:∀ ls,J8 N 73 [] ls=CB N ls:=fun ls=>rfl
  simp only [Ic,std,xOf,e,J1,PXb,PXc,PXn,AG,Z2]
  cases h8:iLt 8 (L.length:Int) with
  | true=>rfl
  | false =>
    have hl:L.length≤8:=by simp [iLt] at h8;omega
    simp only [cond_false]
    refine Ae (Cm (len:=L.length) (eI L x3) ?_ ?_ L.length 0 N (by omega) (by omega)) ?_
    · intro self
      simp only [PXb,PXc,PXn,AG,Bc]
    · intro i self hi
      simp only [PXb,PXc,PXn,AG,Int.toNat_natCast,Ax (show i≤1099511627776 by omega),BG hi,Al hi,J1,e,jA hi (by omega)]
      simp only [eI,ib,fo,atI]
      cases (iLt (pvI (AH L i 0)) 1||iLt (pvI (AH L i 1)) (pvI (AH L i 0))||iLt x3 (pvI (AH L i 1)) || !btw (pvI (AH L i 2)) 0 11) <;>
      cases (iLt 0 (i:Int)&&iLe (pvI (AH L i 0)) (pvI (AH L (IntKind.i64.wrap ((i:Int) - 1)).toNat 1)))<;>rfl
    · exact Wo _
def KK (x0:ByteArray) (x1 x2 x3 x4 x5 x6 x7 x9 x10 x11 x12:Int) (L:Rows):Int :=
  cond (!TW x0) 5 (cond (!L5 x1 x2 x3 x4 x5 x6 x7 x9 x10 x11 x12) 2
    (cond ((!(x10==0)&&x2==1)||((!(x5==0)||iLt 0 (L.length:Int))&&x3==0)) 1
      (cond (!(x5==0)&&iLt (IntKind.i64.wrap (x5 * x1)) x3) 13 (Z2 L x3))))
theorem RX (N : Nat) (x0 : ByteArray) (x1 x2 x3 x4 x5 x6 x7 x9 x10 x11 x12 : Int) (x8 : Bool) (L : Rows) (hN : 2097152 < N) (hs : x0.size ≤ 1048576) :
   AM N [.str x0,.int x1,.int x2,.int x3,.int x4,.int x5,.int x6,.int x7,.bool x8,.int x9,.int x10,.int x11,.int x12,.rows L]=some [.int (KK x0 x1 x2 x3 x4 x5 x6 x7 x9 x10 x11 x12 L)]:=by
  show Jr (std (FT N) N) (xOf _)=_
  have e:∀ ls,FT N 54 [] ls=JL N ls:=fun ls=>rfl
  have e2:∀ ls,FT N 55 [] ls=Ey N ls:=fun ls=>rfl
  have e3:∀ ls,FT N 56 [] ls=GM N ls:=fun ls=>rfl
  simp only [Jr,std,xOf,e,e2,e3,aA N x0 (by omega) hs,WB,Wy N _ _ _ _ _ _ _ _ _ _ _ _ _ _ hN,PXb,PXc,AG,KK]
  cases TW x0<;>cases L5 x1 x2 x3 x4 x5 x6 x7 x9 x10 x11 x12<;>try rfl
  simp only [PXb,PXc,AG,Bool.not_true]
  cases (!(x10==0)&&x2==1)<;>cases ((!(x5==0)||iLt 0 (L.length:Int))&&x3==0)<;>try rfl
  cases (!(x5==0)&&iLt (IntKind.i64.wrap (x5 * x1)) x3)<;>rfl
end Go.Px
end
section
namespace Go.Px
set_option maxRecDepth 100000
theorem S9 (N:Nat) (L:Rows) (v:Int) (hN:L.length<N) (hl:L.length≤2097152):C9 N [.rows L,.int v]=some [.int (Nb (fun j=>v==atI L j 0) L.length)]:=by
 show Et (std (Kn N) N) (xOf _)=_
 simp only [Et,std,xOf,PXb,PXc,PXn,AG]
 refine Ae (Cm (len:=L.length) (FX fun j=>v==atI L j 0) ?_ ?_ L.length 0 N (by omega) (by omega)) ?_
 ·intro self
  simp only [PXb,PXc,PXn,AG,Bc]
 ·intro i self hi
  simp only [PXb,PXc,PXn,AG,Ax (show i≤1099511627776 by omega),BG hi,Al hi,FX,Bv]
  cases v==atI L i 0<;>rfl
 ·unfold Nb
  cases Bw (FX fun j=>v==atI L j 0) L.length 0<;>rfl
def Iz (L:Rows) (k:Nat) (v:Int):Bool:=BI (fun j=>v==atI L j 0) k 0
theorem JB (N:Nat) (L:Rows) (v:Int) (hN:L.length<N) (hl:L.length≤2097152):Ai N [.rows L,.int v]=some [.bool (Iz L L.length v)]:=by
 show DP (std (Ef N) N) (xOf _)=_
 have e:∀ ls,Ef N 158 [] ls=C9 N ls:=fun ls=>rfl
 simp only [DP,std,xOf,PXb,PXc,PXn,AG,e,S9 N L v hN hl,IR,Iz]
theorem gf (L:Rows) (i:Nat) (v:Int) (h:i≤L.length):Iz (L.take i) (L.take i).length v=Iz L i v:=by
 rw [List.length_take,Nat.min_eq_left h]
 exact XQ i 0 (fun j _ hj=>by rw [gQ (by omega)])
def Of (L:Rows) (n:Int) (i:Nat):Bool := !btw (atI L i 0) 1 n||Iz L i (atI L i 0)
def JH (L:Rows) (n:Int):Bool := !BI (Of L n) L.length 0
theorem LW (N:Nat) (L:Rows) (n:Int) (hN:L.length<N) (hl:L.length≤2097152):Cw N [.rows L,.int n]=some [.bool (JH L n)]:=by
 show EV (std (DV N) N) (xOf _)=_
 have e:∀ ls,DV N 115 [] ls=Af N ls:=fun ls=>rfl
 have e2:∀ ls,DV N 136 [] ls=Ai N ls:=fun ls=>rfl
 simp only [EV,std,xOf,PXb,PXc,PXn,AG]
 refine Ae (IC (len:=L.length) (Of L n) [.bool false] ?_ ?_ N hN) ?_
 ·intro self
  simp only [PXb,PXc,PXn,AG,Bc]
 ·intro i self hi
  have h1:(L.take i).length≤L.length:=List.length_take_le' i L
  simp only [PXb,PXc,PXn,AG,Ax (show i≤1099511627776 by omega),BG hi,Al hi,e,e2,DF,kl (Nat.le_of_lt hi),Int.toNat_zero,List.drop_zero,JB N (L.take i) _ (by omega) (by omega),gf L i _ (by omega),Bv,Of]
  cases btw (atI L i 0) 1 n<;>cases Iz L i (atI L i 0)<;>rfl
 ·unfold JH
  cases BI (Of L n) L.length 0<;>rfl
theorem Ux (N:Nat) (v:Int):CT N [.int v]=some [.bool (!(v==0))]:=rfl
def lsI (L14 L16 L17 L19 L24:Rows) (b18 b20:Bool) (x0 x1 x2 x3 x4 x5 x6 x7 x8 x9 x10 x11 x12 x13 x15 x21 x22 x23 x25 x26 x27:Int):List PV :=
 [.int x0,.int x1,.int x2,.int x3,.int x4,.int x5,.int x6,.int x7,.int x8,.int x9,.int x10,.int x11,.int x12,.int x13,.rows L14,.int x15,.rows L16,.rows L17,.bool b18,.rows L19,.bool b20,.int x21,.int x22,.int x23,.rows L24,.int x25,.int x26,.int x27]
section
variable (N:Nat) (L14 L16 L17 L19 L24:Rows) (b18 b20:Bool) (x0 x1 x2 x3 x4 x5 x6 x7 x8 x9 x10 x11 x12 x13 x15 x21 x22 x23 x25 x26 x27:Int)
theorem W2 (hN:L14.length<N) (hl:L14.length≤2097152):Bi N (lsI L14 L16 L17 L19 L24 b18 b20 x0 x1 x2 x3 x4 x5 x6 x7 x8 x9 x10 x11 x12 x13 x15 x21 x22 x23 x25 x26 x27)=some [.bool (CU L14)]:=by
 show D4 (std (EA N) N) (xOf (lsI ..))=_
 have e:∀ ls,EA N 214 [] ls=CT N ls:=fun ls=>rfl
 simp only [D4,std,xOf,lsI,PXb,PXc,PXn,AG]
 rw [show CU L14=iLe 0 (Nb (fun i => !(atI L14 i 0==0)) L14.length) from (IR _ _).symm]
 rw [Option.bind_assoc]
 refine Ae (Cm (len:=L14.length) (FX fun i => !(atI L14 i 0==0)) ?_ ?_ L14.length 0 N (by omega) (by omega)) ?_
 ·intro self
  simp only [PXb,PXc,PXn,AG,Bc]
 ·intro i self hi
  simp only [PXb,PXc,PXn,AG,Ax (show i≤1099511627776 by omega),BG hi,Al hi,FX,Bv,e,Ux]
  cases atI L14 i 0==0<;>rfl
 ·unfold Nb
  cases Bw (FX fun i => !(atI L14 i 0==0)) L14.length 0<;>rfl
theorem Vn (hN:L14.length<N) (hl:L14.length≤2097152):A7 N (lsI L14 L16 L17 L19 L24 b18 b20 x0 x1 x2 x3 x4 x5 x6 x7 x8 x9 x10 x11 x12 x13 x15 x21 x22 x23 x25 x26 x27)=some [.bool (GJ L14 x12 x13)]:=by
 show DR (std (Dd N) N) (xOf (lsI ..))=_
 have e:∀ ls,Dd N 193 [] ls=Bi N ls:=fun ls=>rfl
 have:=W2 N L14 L16 L17 L19 L24 b18 b20 x0 x1 x2 x3 x4 x5 x6 x7 x8 x9 x10 x11 x12 x13 x15 x21 x22 x23 x25 x26 x27 hN hl
 simp only [lsI] at this
 simp only [DR,std,xOf,lsI,PXb,PXc,PXn,AG,e,this,GJ]
theorem Ya (hN:L14.length<N) (hl:L14.length≤2097152):CR N (lsI L14 L16 L17 L19 L24 b18 b20 x0 x1 x2 x3 x4 x5 x6 x7 x8 x9 x10 x11 x12 x13 x15 x21 x22 x23 x25 x26 x27)=some [.rows (Dw L14 L14.length)]:=by
 show Ej (std (LJ N) N) (xOf (lsI ..))=_
 simp only [Ej,std,xOf,lsI,PXb,PXc,PXn,AG]
 refine Ae (Da (len:=L14.length) (fun i=>[.rows (Dw L14 i),.int (i:Int)]) [.rows (Dw L14 L14.length)] ?_ ?_ N hN) rfl
 ·intro self
  simp only [PXb,PXc,PXn,AG,Bc]
 ·intro i self hi
  have h2:(Dw L14 i++[[PV.int ((i:Int)+1)]]).length≤4194304:=by have:=WR L14 i;simp;omega
  simp only [PXb,PXc,PXn,AG,Ax (show i≤1099511627776 by omega),BG hi,Al hi,Bv,Dw,Fd h2 (show 8≤4096 by omega)]
  cases (atI L14 i 0==0||atI L14 i 0==3)<;>rfl
end
theorem ST (N:Nat) (v:Int):Cz N [.int v]=some [.bool (!btw v 0 1000000000)]:=by
 show EU (std (F6 N) N) (xOf _)=_
 have e:∀ ls,F6 N 115 [] ls=Af N ls:=fun ls=>rfl
 simp only [EU,std,xOf,PXb,PXc,PXn,AG,e,DF]
end Go.Px
end
section
namespace Go.Px
set_option maxRecDepth 100000
def pIs (L:Rows) (v:Int) (i:Nat):Bool:=atI L i 0==v
def T4 (s n:Int) (i:Nat):Bool:=s==(i:Int)+1||n==(i:Int)+1
def OJ (L:Rows) (s n:Int) (i:Nat):Bool:=iLt 3 (atI L i 0)||(pIs L 1 i && !T4 s n i)
def XA (L:Rows) (s n:Int) (i:Nat):Bool:=iLt 3 (atI L i 0) || !(pIs L 1 i==T4 s n i)
def V3 (L:Rows):Int:=CK (pIs L 2) L.length
def ins (L:Rows):Int:=CK (pIs L 1) L.length
def two (s n:Int):Int:=cond (!(n==0)) (IntKind.i64.wrap (cond (!(s==0)) (IntKind.i64.wrap (0+1)) 0+1)) (cond (!(s==0)) (IntKind.i64.wrap (0+1)) 0)
def Zc (L:Rows) (s n wk k:Int):Bool :=
 !BI (OJ L s n) L.length 0&&((btw s 0 k&&btw n 0 k)&&(!(s==n && !(s==0))&&((two s n==ins L&&(!CU L||iLt 0 (two s n)))&&V3 L==wk)))
def Uc (L:Rows) (s n wk:Int):Bool :=
 !BI (XA L s n) L.length 0&&(!((CU L&&iLt (ins L) 1)||(!(s==0)&&s==n))&&wk==V3 L)
def dh (L:Rows):Nat→Bool
 | 0=>false
 | i+1=>dh L i || !(atI L i 0==0)
theorem dP (L:Rows):∀ i,dh L i=BI (fun j => !(atI L j 0==0)) i 0
 | 0=>rfl
 | i+1=>by rw [Tl,Nat.zero_add,← dP L i];rfl
section
variable (N:Nat) (L14 L16 L17 L19 L24:Rows) (b18 b20:Bool) (x0 x1 x2 x3 x4 x5 x6 x7 x8 x9 x10 x11 x12 x13 x15 x21 x22 x23 x25 x26 x27:Int)
theorem UA (k:Int) (hN:L14.length<N) (hl:L14.length≤2097152):Dr N (lsI L14 L16 L17 L19 L24 b18 b20 x0 x1 x2 x3 x4 x5 x6 x7 x8 x9 x10 x11 x12 x13 x15 x21 x22 x23 x25 x26 x27++[.int k])=some [.bool (Zc L14 x12 x13 x4 k)]:=by
  simp only [lsI,List.cons_append,List.nil_append]
  show Fc (std (HO N) N) (xOf _)=_
  have e:∀ ls,HO N 115 [] ls=Af N ls:=fun ls=>rfl
  simp only [Fc,std,xOf,lsI,PXb,PXc,PXn,AG]
  refine Ae (aq (len:=L14.length) (fun i=>[.int (CK (pIs L14 2) i),.int (CK (pIs L14 1) i),.bool (dh L14 i),.int (i:Int)])
    (OJ L14 x12 x13) [.int 0,.bool false] [.int 1,.int (V3 L14),.int (ins L14),.bool (CU L14)] ?_ ?_ N hN) ?_
  · intro self
    simp only [PXb,PXc,PXn,AG,Bc,dP]
    rfl
  · intro i self hi
    simp only [PXb,PXc,AG,Ax (show i≤1099511627776 by omega),BG hi,Al hi,Bv,bc (pIs L14 2) (show i≤1099511627776 by omega),bc (pIs L14 1) (show i≤1099511627776 by omega)]
    unfold OJ pIs T4
    simp only [CK,dh]
    cases h3:iLt 3 (atI L14 i 0) with
    | true=>rfl
    | false =>
      cases h1:atI L14 i 0==1 with
      | true =>
        rw [jK h1]
        cases x12==(i:Int)+1<;>cases x13==(i:Int)+1<;>rfl
      | false=>cases h2:atI L14 i 0==2<;>rfl
  · unfold Zc
    simp only [e,DF]
    cases BI (OJ L14 x12 x13) L14.length 0 with
    | true=>rfl
    | false =>
      simp only [PXb,PXc,PXn,AG]
      unfold two
      cases btw x12 0 k<;>cases btw x13 0 k<;>try rfl
      cases x12==0<;>cases x13==0<;>cases x12==x13<;>try rfl
end
end Go.Px
end
section
namespace Go.Px
set_option maxRecDepth 100000
theorem jf (s n:Int):two s n=cond (!(s==0)) 1 0+cond (!(n==0)) 1 0:=by
 unfold two
 cases s==0<;>cases n==0<;>rfl
theorem jk {s n:Int} {len:Nat} (h1:0≤s∧s≤(len:Int)) (h2:0≤n∧n≤(len:Int)) (hd:(s==n && !(s==0))=false):two s n=CK (T4 s n) len:=by
 have hs:iLe s (len:Int)=true:=by simp only [iLe,decide_eq_true_eq];omega
 have hn:iLe n (len:Int)=true:=by simp only [iLe,decide_eq_true_eq];omega
 unfold T4
 rw [fP (p:=fun i=>s==(i:Int)+1) (q:=fun i=>n==(i:Int)+1) len (fun j _ hp=>by
  have e1:s=(j:Int)+1:=by simpa using hp
  show (n==(j:Int)+1)=false
  rw [beq_eq_false_iff_ne]
  intro e2
  have e3:(s==n)=true:=by rw [beq_iff_eq];omega
  have e4:(s==0)=false:=by rw [beq_eq_false_iff_ne];omega
  rw [e3,e4] at hd;cases hd),Z7 s len h1.1,Z7 n len h2.1,hs,hn,Bool.and_true,Bool.and_true,jf]
theorem jR (x:Int):iLt 0 x = !iLt x 1:=by
 unfold iLt
 rw [Bool.eq_iff_iff]
 simp only [decide_eq_true_eq,Bool.not_eq_true',decide_eq_false_iff_not]
 omega
theorem gh {L : Rows} {s n : Int} (h1 : 0 ≤ s ∧ s ≤ (L.length : Int)) (h2 : 0 ≤ n ∧ n ≤ (L.length : Int)) (hd : (s == n && !(s == 0)) = false) :
    (!BI (OJ L s n) L.length 0&&two s n==ins L) = !BI (XA L s n) L.length 0:=by
  have h2c:=jk h1 h2 hd
  rw [Bool.eq_iff_iff]
  simp only [Bool.and_eq_true,Bool.not_eq_true',Eu,beq_iff_eq]
  constructor
  · intro ⟨ha,hb⟩ j _ hj
    have hm:∀ j,j<L.length→pIs L 1 j=true→T4 s n j=true:=fun j hj hp=>by
      have:=ha j (Nat.zero_le _) (by omega)
      unfold OJ at this
      rw [hp] at this
      simp only [Bool.or_eq_false_iff,Bool.true_and,Bool.not_eq_false'] at this
      exact this.2
    have he:=fe L.length hm (by rw [← h2c,hb];rfl) j (by omega)
    have:=ha j (Nat.zero_le _) hj
    unfold OJ at this
    unfold XA
    rw [Bool.or_eq_false_iff] at this ⊢
    exact ⟨this.1,by rw [he];simp⟩
  · intro ha
    have hm:∀ j,j<L.length→pIs L 1 j=T4 s n j:=fun j hj=>by
      have:=ha j (Nat.zero_le _) (by omega)
      unfold XA at this
      rw [Bool.or_eq_false_iff] at this
      simpa using this.2
    refine ⟨fun j h0 hj=>?_,?_⟩
    · have:=ha j h0 hj
      unfold XA at this
      unfold OJ
      rw [Bool.or_eq_false_iff] at this ⊢
      refine ⟨this.1,?_⟩
      rw [hm j (by omega)]
      cases T4 s n j<;>rfl
    · rw [h2c]
      exact (Y3 L.length hm).symm
theorem jy (L:Rows) (s n wk k:Int) (hk:(L.length:Int)=k):Zc L s n wk k=(btw s 0 k&&btw n 0 k&&Uc L s n wk):=by
 subst hk
 unfold Zc Uc
 cases hs:btw s 0 (L.length:Int) with
 | false=>simp only [Bool.false_and,Bool.and_false]
 | true =>
  cases hn:btw n 0 (L.length:Int) with
  | false=>simp only [Bool.false_and,Bool.and_false]
  | true =>
   have h1:0≤s∧s≤(L.length:Int):=by simpa [btw,iLe] using hs
   have h2:0≤n∧n≤(L.length:Int):=by simpa [btw,iLe] using hn
   simp only [Bool.true_and]
   cases hd:(s==n && !(s==0)) with
   | true =>
    have:(!(s==0)&&s==n)=true:=by rw [Bool.and_comm];exact hd
    rw [this]
    simp only [Bool.or_true,Bool.not_true,Bool.false_and,Bool.and_false]
   | false =>
    have:(!(s==0)&&s==n)=false:=by rw [Bool.and_comm];exact hd
    rw [this,← gh h1 h2 hd]
    simp only [Bool.or_false,Bool.not_false,Bool.true_and]
    rw [show (wk==V3 L)=(V3 L==wk) from BEq.comm]
    cases hA:BI (OJ L s n) L.length 0 with
    | true=>rfl
    | false =>
     cases hB:two s n==ins L with
     | false=>rfl
     | true =>
      rw [beq_iff_eq.1 hB,jR]
      simp only [Bool.true_and,Bool.not_false,Bool.not_and]
end Go.Px
end
section
namespace Go.Px
set_option maxRecDepth 100000
def H7 (v:Int):Bool := !btw v 0 1000000000
def bG (x1 x3 x5 x6 x7 x8 x9 x10 x21 x23 x25 x26:Int):Rows:=[[.int x1],[.int x3],[.int x5],[.int x6],[.int x7],[.int x8],[.int x9],[.int x10],[.int x21],[.int x23],[.int x25],[.int x26]]
section
variable (N:Nat) (L14 L16 L17 L19 L24:Rows) (b18 b20:Bool) (x0 x1 x2 x3 x4 x5 x6 x7 x8 x9 x10 x11 x12 x13 x15 x21 x22 x23 x25 x26 x27:Int)
theorem Te (hN:2097152<N) (hl:L19.length≤1048576):Di N (lsI L14 L16 L17 L19 L24 b18 b20 x0 x1 x2 x3 x4 x5 x6 x7 x8 x9 x10 x11 x12 x13 x15 x21 x22 x23 x25 x26 x27)=some [.bool (!(I6 H7 (bG x1 x3 x5 x6 x7 x8 x9 x10 x21 x23 x25 x26)||I6 H7 L19))]:=by
 show Fi (std (HU N) N) (xOf (lsI ..))=_
 have e:∀ ls,HU N 138 [] ls=Cz N ls:=fun ls=>rfl
 rw [← bL]
 simp only [Fi,std,xOf,lsI,PXb,PXc,PXn,AG,bG]
 generalize hM:([PV.int x1]::[PV.int x3]::[PV.int x5]::[PV.int x6]::[PV.int x7]::[PV.int x8]::[PV.int x9]::[PV.int x10]::[PV.int x21]::[PV.int x23]::[PV.int x25]::[PV.int x26]::L19:Rows)=M
 have hM2:M.length≤2097152:=by rw [← hM];simp only [List.length_cons];omega
 rw [Fd (n:=M.length) (by omega) (by omega)]
 simp only [PXb,PXc,PXn,AG]
 rw [Option.bind_assoc]
 refine Ae (Cm (len:=M.length) (FX fun i=>H7 (atI M i 0)) ?_ ?_ M.length 0 N (by omega) (by omega)) ?_
 ·intro self
  simp only [PXb,PXc,PXn,AG,Bc]
 ·intro i self hi
  simp only [PXb,PXc,PXn,AG,Ax (show i≤1099511627776 by omega),BG hi,Al hi,FX,Bv,e,ST,H7]
  cases btw (atI M i 0) 0 1000000000<;>rfl
 ·unfold I6
  rw [← IR]
  unfold Nb
  cases Bw (FX fun i=>H7 (atI M i 0)) M.length 0<;>rfl
end
def X3 (a3 x2:Int):Bool:=cond (a3==0) (x2==0) (btw x2 1 a3)
def Ri (s:ByteArray) (a1 a2 a3 a4 a5 a6 a7 a9 a10 a11 a12:Int) (La L14 L16 L17 L19 L24:Rows) (x0 x1 x2 x3 x4 x5 x6 x7 x8 x9 x10 x11 x12 x13 x15 x21 x22 x23 x25 x26 x27:Int):Bool :=
  KK s a1 a2 a3 a4 a5 a6 a7 a9 a10 a11 a12 La==0&&(btw x0 1 2&&((L14.length:Int)==a1&&((L19.length:Int)==a1&&((L24.length:Int)==a1&&(!iLt 5 x27 &&
    (btw x12 0 a1&&(btw x13 0 a1&&(Uc L14 x12 x13 x4&&(btw x15 0 a1&&(btw x22 0 a1&&(JH L16 a1&&(JH L17 a1&&(X3 a3 x2&&(btw x11 0 (IntKind.i64.wrap (a4 - 1)) &&
      (!I6 H7 (bG x1 x3 x5 x6 x7 x8 x9 x10 x21 x23 x25 x26) && !I6 H7 L19)))))))))))))))
theorem jI {a:Int} (h:0≤a):iLt 0 a = !(a==0):=by
 unfold iLt
 rw [Bool.eq_iff_iff]
 simp only [decide_eq_true_eq,Bool.not_eq_true',beq_eq_false_iff_ne]
 omega
section
variable (N:Nat) (s:ByteArray) (a1 a2 a3 a4 a5 a6 a7 a9 a10 a11 a12:Int) (a8:Bool) (La:Rows) (L14 L16 L17 L19 L24:Rows) (b18 b20:Bool) (x0 x1 x2 x3 x4 x5 x6 x7 x8 x9 x10 x11 x12 x13 x15 x21 x22 x23 x25 x26 x27:Int)
theorem PY (hN:2097152<N) (hs:s.size≤1048576) (h14:L14.length≤1048576) (h16:L16.length≤1048576) (h17:L17.length≤1048576) (h19:L19.length≤1048576):A8 N ([.str s,.int a1,.int a2,.int a3,.int a4,.int a5,.int a6,.int a7,.bool a8,.int a9,.int a10,.int a11,.int a12,.rows La]++lsI L14 L16 L17 L19 L24 b18 b20 x0 x1 x2 x3 x4 x5 x6 x7 x8 x9 x10 x11 x12 x13 x15 x21 x22 x23 x25 x26 x27)=some [.bool (Ri s a1 a2 a3 a4 a5 a6 a7 a9 a10 a11 a12 La L14 L16 L17 L19 L24 x0 x1 x2 x3 x4 x5 x6 x7 x8 x9 x10 x11 x12 x13 x15 x21 x22 x23 x25 x26 x27)]:=by
 simp only [lsI,List.cons_append,List.nil_append]
 show Hf (std (B8 N) N) (xOf _)=_
 have e1:∀ ls,B8 N 40 [] ls=AM N ls:=fun ls=>rfl
 have e2:∀ ls,B8 N 115 [] ls=Af N ls:=fun ls=>rfl
 have e3:∀ ls,B8 N 116 [] ls=Dr N ls:=fun ls=>rfl
 have e4:∀ ls,B8 N 117 [] ls=Cw N ls:=fun ls=>rfl
 have e5:∀ ls,B8 N 118 [] ls=Di N ls:=fun ls=>rfl
 have l54:=UA N L14 L16 L17 L19 L24 b18 b20 x0 x1 x2 x3 x4 x5 x6 x7 x8 x9 x10 x11 x12 x13 x15 x21 x22 x23 x25 x26 x27 a1 (by omega) (by omega)
 have l56:=Te N L14 L16 L17 L19 L24 b18 b20 x0 x1 x2 x3 x4 x5 x6 x7 x8 x9 x10 x11 x12 x13 x15 x21 x22 x23 x25 x26 x27 (by omega) (by omega)
 simp only [lsI,List.cons_append,List.nil_append] at l54 l56
 simp only [Hf,std,xOf,PXb,PXc,PXn,AG,e1,e2,e3,e4,e5,RX N s _ _ _ _ _ _ _ _ _ _ _ _ _ hN hs,DF,l54,l56,LW N L16 _ (by omega) (by omega),LW N L17 _ (by omega) (by omega)]
 unfold Ri X3
 cases hc:KK s a1 a2 a3 a4 a5 a6 a7 a9 a10 a11 a12 La==0<;>try rfl
 cases btw x0 1 2<;>try rfl
 cases h14:(L14.length:Int)==a1<;>try rfl
 cases (L19.length:Int)==a1<;>try rfl
 cases (L24.length:Int)==a1<;>try rfl
 cases iLt 5 x27<;>try rfl
 rw [jy L14 x12 x13 x4 a1 (beq_iff_eq.1 h14)]
 cases btw x12 0 a1<;>try rfl
 cases btw x13 0 a1<;>try rfl
 cases Uc L14 x12 x13 x4<;>try rfl
 cases btw x15 0 a1<;>try rfl
 cases btw x22 0 a1<;>try rfl
 cases JH L16 a1<;>try rfl
 cases JH L17 a1<;>try rfl
 cases a3==0<;>cases x2==0<;>cases btw x2 1 a3<;>rfl
end
end Go.Px
end
section
namespace Go.Px
set_option maxRecDepth 100000
def hZ (v:Bool) (L:Rows) (s n:Int) (x1 x2 x3 x10:Int):Int :=
 cond (!v) 0 (cond (iLt 0 x1&&iLe x1 x3) 3 (cond (GJ L s n&&((Dw L L.length).length:Int)==0) 1 (cond (iLt 0 x2&&iLe x2 x10) 2 0)))
theorem ku {c:Int} {n:Nat} (hc:0≤c):iRg 0 (cond (iLt c (n:Int)) c (n:Int)) (n:Int)=true:=by
 cases h:iLt c (n:Int) with
 | true=>simp only [iLt,decide_eq_true_eq] at h;simp only [cond_true,iRg,decide_eq_true_eq];omega
 | false=>simp only [cond_false,iRg,decide_eq_true_eq];omega
def cut (L:Rows) (c:Int):Rows:=(L.take (cond (iLt c (L.length:Int)) c (L.length:Int)).toNat).drop (0:Int).toNat
end Go.Px
end
section
namespace Go.Px
set_option maxRecDepth 100000
section
variable (N:Nat) (s:ByteArray) (a1 a2 a3 a4 a5 a6 a7 a9 a10 a11 a12:Int) (a8:Bool) (La:Rows) (L14 L16 L17 L19 L24:Rows) (b18 b20:Bool) (x0 x1 x2 x3 x4 x5 x6 x7 x8 x9 x10 x11 x12 x13 x15 x21 x22 x23 x25 x26 x27:Int)
theorem Uz (hN : 2097152 < N) (hs : s.size ≤ 1048576) (h14 : L14.length ≤ 1048576) (h16 : L16.length ≤ 1048576) (h17 : L17.length ≤ 1048576) (h19 : L19.length ≤ 1048576) : C3 N ([.str s, .int a1, .int a2, .int a3, .int a4, .int a5, .int a6, .int a7, .bool a8, .int a9, .int a10, .int a11, .int a12, .rows La] ++ lsI L14 L16 L17 L19 L24 b18 b20 x0 x1 x2 x3 x4 x5 x6 x7 x8 x9 x10 x11 x12 x13 x15 x21 x22 x23 x25 x26 x27) =
    some [.int (hZ (Ri s a1 a2 a3 a4 a5 a6 a7 a9 a10 a11 a12 La L14 L16 L17 L19 L24 x0 x1 x2 x3 x4 x5 x6 x7 x8 x9 x10 x11 x12 x13 x15 x21 x22 x23 x25 x26 x27) L14 x12 x13 x1 x2 x3 x10)]:=by
  simp only [lsI,List.cons_append,List.nil_append]
  show Gf (std (DI N) N) (xOf _)=_
  have e1:∀ ls,DI N 93 [] ls=A8 N ls:=fun ls=>rfl
  have e2:∀ ls,DI N 177 [] ls=A7 N ls:=fun ls=>rfl
  have e3:∀ ls,DI N 178 [] ls=CR N ls:=fun ls=>rfl
  have l16:=PY N s a1 a2 a3 a4 a5 a6 a7 a9 a10 a11 a12 a8 La L14 L16 L17 L19 L24 b18 b20 x0 x1 x2 x3 x4 x5 x6 x7 x8 x9 x10 x11 x12 x13 x15 x21 x22 x23 x25 x26 x27 hN hs h14 h16 h17 h19
  have l61:=Vn N L14 L16 L17 L19 L24 b18 b20 x0 x1 x2 x3 x4 x5 x6 x7 x8 x9 x10 x11 x12 x13 x15 x21 x22 x23 x25 x26 x27 (by omega) (by omega)
  have l62:=Ya N L14 L16 L17 L19 L24 b18 b20 x0 x1 x2 x3 x4 x5 x6 x7 x8 x9 x10 x11 x12 x13 x15 x21 x22 x23 x25 x26 x27 (by omega) (by omega)
  simp only [lsI,List.cons_append,List.nil_append] at l16 l61 l62
  simp only [Gf,std,xOf,PXb,PXc,PXn,AG,e1,e2,e3,l16,l61,l62,hZ]
  cases Ri s a1 a2 a3 a4 a5 a6 a7 a9 a10 a11 a12 La L14 L16 L17 L19 L24 x0 x1 x2 x3 x4 x5 x6 x7 x8 x9 x10 x11 x12 x13 x15 x21 x22 x23 x25 x26 x27<;>try rfl
  cases (iLt 0 x1&&iLe x1 x3)<;>try rfl
  cases GJ L14 x12 x13
  · cases (iLt 0 x2&&iLe x2 x10)<;>rfl
  · simp only [PXb,PXc,PXn,AG]
    cases ((Dw L14 L14.length).length:Int)==0<;>cases (iLt 0 x2&&iLe x2 x10)<;>rfl
end
end Go.Px
end
section
namespace Go.Px
set_option maxRecDepth 100000
section
variable (N:Nat) (s:ByteArray) (a1 a2 a3 a4 a5 a6 a7 a9 a10 a11 a12:Int) (a8:Bool) (La:Rows) (L14 L16 L17 L19 L24:Rows) (b18 b20:Bool) (x0 x1 x2 x3 x4 x5 x6 x7 x8 x9 x10 x11 x12 x13 x15 x21 x22 x23 x25 x26 x27:Int)
def CF (a4 x10 x11:Int):Int:=IntKind.i64.wrap (IntKind.i64.wrap (x10 * a4)+x11)
end
end Go.Px
end
section
namespace Go.Px
set_option maxRecDepth 100000
def A1 (r:Rul):Int:=KK r.name r.side r.innings r.overs r.balls r.quota r.wide r.noball r.newball r.followon r.reviews r.outside r.power
theorem Cl {N:Nat} {r1 r2 r3 r4 r5 r6 r7 r9 r10 r11 r12:Int} {r8:Bool} {r0:ByteArray} {r13:Rows} (hN:2097152<N) (hs:r0.size≤1048576):AM N [.str r0,.int r1,.int r2,.int r3,.int r4,.int r5,.int r6,.int r7,.bool r8,.int r9,.int r10,.int r11,.int r12,.rows r13]=some [.int (A1 (⟨r0,r1,r2,r3,r4,r5,r6,r7,r8,r9,r10,r11,r12,r13⟩:Rul))]:=by
 exact RX N _ _ _ _ _ _ _ _ _ _ _ _ _ _ hN hs
theorem Qe {N:Nat} {s0 s1 s2 s3 s4 s5 s6 s7 s8 s9 s10 s11 s12 s13 s15 s21 s22 s23 s25 s26 s27:Int} {s18 s20:Bool} {s14 s16 s17 s19 s24:Rows} (h:Fit s14 s16 s17 s19 s24):CJ N [.int s0,.int s1,.int s2,.int s3,.int s4,.int s5,.int s6,.int s7,.int s8,.int s9,.int s10,.int s11,.int s12,.int s13,.rows s14,.int s15,.rows s16,.rows s17,.bool s18,.rows s19,.bool s20,.int s21,.int s22,.int s23,.rows s24,.int s25,.int s26,.int s27]=some [.int s0,.int s1,.int s2,.int s3,.int s4,.int s5,.int s6,.int s7,.int s8,.int s9,.int s10,.int s11,.int s12,.int s13,.rows s14,.int s15,.rows s16,.rows s17,.bool s18,.rows s19,.bool s20,.int s21,.int s22,.int s23,.rows s24,.int s25,.int s26,.int s27]:=by
 show Md (std (HA N) N) (xOf _)=_
 simp only [Md,Ka,L2,Ld,std,xOf,PXb,PXc,PXn,PXm,Nat.reduceAdd,Int.reduceBEq,AN,AZ,AU,BL h.bt (show 1≤4096 by omega),BL h.bw' (show 8≤4096 by omega),BL h.bf (show 8≤4096 by omega),BL h.bd (show 8≤4096 by omega),BL h.sb (show 1≤4096 by omega)]
theorem Qf {N:Nat} {s0 s1 s2 s3 s4 s5 s6 s7 s8 s9 s10 s11 s12 s13 s15 s21 s22 s23 s25 s26 s27:Int} {s18 s20:Bool} {s14 s16 s17 s19 s24:Rows} (h:Fit s14 s16 s17 s19 s24):CM N [.int s0,.int s1,.int s2,.int s3,.int s4,.int s5,.int s6,.int s7,.int s8,.int s9,.int s10,.int s11,.int s12,.int s13,.rows s14,.int s15,.rows s16,.rows s17,.bool s18,.rows s19,.bool s20,.int s21,.int s22,.int s23,.rows s24,.int s25,.int s26,.int s27]=some [.int s0,.int s1,.int s2,.int s3,.int s4,.int s5,.int s6,.int s7,.int s8,.int s9,.int s10,.int s11,.int s12,.int s13,.rows s14,.int s15,.rows s16,.rows s17,.bool s18,.rows s19,.bool s20,.int s21,.int s22,.int s23,.rows s24,.int s25,.int s26,.int s27]:=by
 show Mn (std (G4 N) N) (xOf _)=_
 simp only [Mn,KU,MH,Lk,std,xOf,PXb,PXc,PXn,PXm,Nat.reduceAdd,Int.reduceBEq,AN,AZ,AU,BL h.bt (show 1≤4096 by omega),BL h.bw' (show 8≤4096 by omega),BL h.bf (show 8≤4096 by omega),BL h.bd (show 8≤4096 by omega),BL h.sb (show 1≤4096 by omega)]
theorem Bq {N:Nat} {s0 s1 s2 s3 s4 s5 s6 s7 s8 s9 s10 s11 s12 s13 s15 s21 s22 s23 s25 s26 s27:Int} {s18 s20:Bool} {s14 s16 s17 s19 s24:Rows} (h:Fit s14 s16 s17 s19 s24):AL N [.int s0,.int s1,.int s2,.int s3,.int s4,.int s5,.int s6,.int s7,.int s8,.int s9,.int s10,.int s11,.int s12,.int s13,.rows s14,.int s15,.rows s16,.rows s17,.bool s18,.rows s19,.bool s20,.int s21,.int s22,.int s23,.rows s24,.int s25,.int s26,.int s27]=some [.int s0,.int s1,.int s2,.int s3,.int s4,.int s5,.int s6,.int s7,.int s8,.int s9,.int s10,.int s11,.int s12,.int s13,.rows s14,.int s15,.rows s16,.rows s17,.bool s18,.rows s19,.bool s20,.int s21,.int s22,.int s23,.rows s24,.int s25,.int s26,.int s27]:=by
 show Hc (std (Dc N) N) (xOf _)=_
 simp only [Hc,IQ,Jv,JP,std,xOf,PXb,PXc,PXn,PXm,Nat.reduceAdd,Int.reduceBEq,AN,AZ,AU,BL h.bt (show 1≤4096 by omega),BL h.bw' (show 8≤4096 by omega),BL h.bf (show 8≤4096 by omega),BL h.bd (show 8≤4096 by omega),BL h.sb (show 1≤4096 by omega)]
theorem NN {N:Nat} {s0 s1 s2 s3 s4 s5 s6 s7 s8 s9 s10 s11 s12 s13 s15 s21 s22 s23 s25 s26 s27:Int} {s18 s20:Bool} {s14 s16 s17 s19 s24:Rows} {p:Int}  : Bd N [.int s0,.int s1,.int s2,.int s3,.int s4,.int s5,.int s6,.int s7,.int s8,.int s9,.int s10,.int s11,.int s12,.int s13,.rows s14,.int s15,.rows s16,.rows s17,.bool s18,.rows s19,.bool s20,.int s21,.int s22,.int s23,.rows s24,.int s25,.int s26,.int s27,.int p]=some [.bool (inR p s19.length)]:=by
 show Jj (std (QH N) N) (xOf _)=_
 simp only [Jj,std,xOf,PXb,PXc,PXn,PXm,Nat.reduceAdd,Int.reduceBEq]
 rfl
theorem Gt {N:Nat} {s0 s1 s2 s3 s4 s5 s6 s7 s8 s9 s10 s11 s12 s13 s15 s21 s22 s23 s25 s26 s27:Int} {s18 s20:Bool} {s14 s16 s17 s19 s24:Rows} {p:Int}  : Au N [.int s0,.int s1,.int s2,.int s3,.int s4,.int s5,.int s6,.int s7,.int s8,.int s9,.int s10,.int s11,.int s12,.int s13,.rows s14,.int s15,.rows s16,.rows s17,.bool s18,.rows s19,.bool s20,.int s21,.int s22,.int s23,.rows s24,.int s25,.int s26,.int s27,.int p]=some [.bool (inR p s24.length)]:=by
 show Jf (std (P2 N) N) (xOf _)=_
 simp only [Jf,std,xOf,PXb,PXc,PXn,PXm,Nat.reduceAdd,Int.reduceBEq]
 rfl
def atB (L:Rows) (i j:Nat):Bool:=pvB (AH L i j)
theorem jO (L:Rows) (i j:Nat):pvB (AH L i j)=atB L i j:=rfl
def GY (s:Inn) (p:Int):Bool:=inR p s.subs.length&&atB s.subs (ix p) 0
theorem Ga {N:Nat} {s0 s1 s2 s3 s4 s5 s6 s7 s8 s9 s10 s11 s12 s13 s15 s21 s22 s23 s25 s26 s27:Int} {s18 s20:Bool} {s14 s16 s17 s19 s24:Rows} {p:Int} (h:s24.length≤1048576):As N [.int s0,.int s1,.int s2,.int s3,.int s4,.int s5,.int s6,.int s7,.int s8,.int s9,.int s10,.int s11,.int s12,.int s13,.rows s14,.int s15,.rows s16,.rows s17,.bool s18,.rows s19,.bool s20,.int s21,.int s22,.int s23,.rows s24,.int s25,.int s26,.int s27,.int p]=some [.bool (GY (⟨s0,s1,s2,s3,s4,s5,s6,s7,s8,s9,s10,s11,s12,s13,s14,s15,s16,s17,s18,s19,s20,s21,s22,s23,s24,s25,s26,s27⟩:Inn) p)]:=by
 show GV (std (Hz N) N) (xOf _)=_
 generalize hres:(some [.bool (GY (⟨s0,s1,s2,s3,s4,s5,s6,s7,s8,s9,s10,s11,s12,s13,s14,s15,s16,s17,s18,s19,s20,s21,s22,s23,s24,s25,s26,s27⟩:Inn) p)]:Option (List PV))=RR
 simp only [GV,MK,std,xOf,PXb,PXc,PXn,PXm,Nat.reduceAdd,Int.reduceBEq,Gt,kY h]
 subst hres;simp only [GY]
 cases hp:inR p s24.length with
 | false=>rfl
 | true=>first | rfl | (rw [JW hp h];rfl)
def eO (x:Int):Int:=cond (iLt x 0) 0 x
def XR (r:Rul) (s:Inn) (p:Int):Int :=
 cond (!inR p s.bowled.length || !(A1 r==0)) 0 (cond (r.quota==0) (-1) (eO (IntKind.i64.wrap (IntKind.i64.wrap (r.quota * r.balls) - eO (atI s.bowled (ix p) 0)))))
theorem bB {N:Nat} {r1 r2 r3 r4 r5 r6 r7 r9 r10 r11 r12:Int} {r8:Bool} {r0:ByteArray} {r13:Rows} {s0 s1 s2 s3 s4 s5 s6 s7 s8 s9 s10 s11 s12 s13 s15 s21 s22 s23 s25 s26 s27:Int} {s18 s20:Bool} {s14 s16 s17 s19 s24:Rows} {p:Int} (h:Fit s14 s16 s17 s19 s24) (hN:2097152<N) (hs:r0.size≤1048576):IE N [.str r0,.int r1,.int r2,.int r3,.int r4,.int r5,.int r6,.int r7,.bool r8,.int r9,.int r10,.int r11,.int r12,.rows r13,.int s0,.int s1,.int s2,.int s3,.int s4,.int s5,.int s6,.int s7,.int s8,.int s9,.int s10,.int s11,.int s12,.int s13,.rows s14,.int s15,.rows s16,.rows s17,.bool s18,.rows s19,.bool s20,.int s21,.int s22,.int s23,.rows s24,.int s25,.int s26,.int s27,.int p]=some [.int (XR (⟨r0,r1,r2,r3,r4,r5,r6,r7,r8,r9,r10,r11,r12,r13⟩:Rul) (⟨s0,s1,s2,s3,s4,s5,s6,s7,s8,s9,s10,s11,s12,s13,s14,s15,s16,s17,s18,s19,s20,s21,s22,s23,s24,s25,s26,s27⟩:Inn) p)]:=by
 show Ki (std (Ib N) N) (xOf _)=_
 generalize hres:(some [.int (XR (⟨r0,r1,r2,r3,r4,r5,r6,r7,r8,r9,r10,r11,r12,r13⟩:Rul) (⟨s0,s1,s2,s3,s4,s5,s6,s7,s8,s9,s10,s11,s12,s13,s14,s15,s16,s17,s18,s19,s20,s21,s22,s23,s24,s25,s26,s27⟩:Inn) p)]:Option (List PV))=RR
 simp only [Ki,Pd,Oj,std,xOf,PXb,PXc,PXn,PXm,Nat.reduceAdd,Int.reduceBEq,Cl hN hs,NN]
 subst hres;simp only [XR]
 cases hp:inR p s19.length with
 | false=>rfl
 | true=>rw [JW hp h.bd];cases A1 (⟨r0,r1,r2,r3,r4,r5,r6,r7,r8,r9,r10,r11,r12,r13⟩:Rul)==0<;>cases r5==0<;>rfl
theorem KL {N:Nat} {L:Rows} {v:Int} (hN:2097152<N) (hl:L.length≤1048576):Ai N [.rows L,.int v]=some [.bool (Iz L L.length v)]:=by
 exact JB N L v (by omega) (by omega)
def Ls (r:Rul) (s:Inn) (p:Int):Int :=
  cond (!inR p s.bowled.length || !(A1 r==0)) 3 (cond (p==s.keeper||p==s.bowler||GY s p) 7
    (cond (Iz s.before s.before.length p) 8 (cond (!(XR r s p == -1)&&iLt s.inover (IntKind.i64.wrap (r.balls - XR r s p))) 9 0)))
theorem gC {p:Int} {n m:Nat} (h:inR p n=true):inR p m=iLe p (m:Int):=by
 unfold inR at h ⊢
 rw [Bool.and_eq_true] at h
 rw [h.1,Bool.true_and]
theorem cO {N:Nat} {r1 r2 r3 r4 r5 r6 r7 r9 r10 r11 r12:Int} {r8:Bool} {r0:ByteArray} {r13:Rows} {s0 s1 s2 s3 s4 s5 s6 s7 s8 s9 s10 s11 s12 s13 s15 s21 s22 s23 s25 s26 s27:Int} {s18 s20:Bool} {s14 s16 s17 s19 s24:Rows} {p:Int} (h:Fit s14 s16 s17 s19 s24) (hN:2097152<N) (hs:r0.size≤1048576):JE N [.str r0,.int r1,.int r2,.int r3,.int r4,.int r5,.int r6,.int r7,.bool r8,.int r9,.int r10,.int r11,.int r12,.rows r13,.int s0,.int s1,.int s2,.int s3,.int s4,.int s5,.int s6,.int s7,.int s8,.int s9,.int s10,.int s11,.int s12,.int s13,.rows s14,.int s15,.rows s16,.rows s17,.bool s18,.rows s19,.bool s20,.int s21,.int s22,.int s23,.rows s24,.int s25,.int s26,.int s27,.int p]=some [.int (Ls (⟨r0,r1,r2,r3,r4,r5,r6,r7,r8,r9,r10,r11,r12,r13⟩:Rul) (⟨s0,s1,s2,s3,s4,s5,s6,s7,s8,s9,s10,s11,s12,s13,s14,s15,s16,s17,s18,s19,s20,s21,s22,s23,s24,s25,s26,s27⟩:Inn) p)]:=by
 show Me (std (Ei N) N) (xOf _)=_
 generalize hres:(some [.int (Ls (⟨r0,r1,r2,r3,r4,r5,r6,r7,r8,r9,r10,r11,r12,r13⟩:Rul) (⟨s0,s1,s2,s3,s4,s5,s6,s7,s8,s9,s10,s11,s12,s13,s14,s15,s16,s17,s18,s19,s20,s21,s22,s23,s24,s25,s26,s27⟩:Inn) p)]:Option (List PV))=RR
 simp only [Me,Pl,KZ,Pm,Ql,std,xOf,PXb,PXc,PXn,PXm,Nat.reduceAdd,Int.reduceBEq,Cl hN hs,NN,bB h hN hs,KL hN h.bf]
 subst hres;simp only [Ls,GY]
 cases hp:inR p s19.length with
 | false=>rfl
 | true =>
  rw [gC (m:=s24.length) hp]
  have hq:(!(iLe p (s24.length:Int))||iIn (IntKind.i64.wrap (p - 1)) (s24.length:Int))=true:=by
   cases h1:iLe p (s24.length:Int) with
   | false=>rfl
   | true=>rw [JW (by rw [gC hp];exact h1) h.sb];rfl
  rw [hq]
  cases A1 (⟨r0,r1,r2,r3,r4,r5,r6,r7,r8,r9,r10,r11,r12,r13⟩:Rul)==0<;>rfl
def SN (r:Rul) (s:Inn) (p:Int):Inn×Int:=(cond (Ls r s p==0) { s with bowler:=p } s,Ls r s p)
theorem bu {N:Nat} {r1 r2 r3 r4 r5 r6 r7 r9 r10 r11 r12:Int} {r8:Bool} {r0:ByteArray} {r13:Rows} {s0 s1 s2 s3 s4 s5 s6 s7 s8 s9 s10 s11 s12 s13 s15 s21 s22 s23 s25 s26 s27:Int} {s18 s20:Bool} {s14 s16 s17 s19 s24:Rows} {p:Int} (h:Fit s14 s16 s17 s19 s24) (hN:2097152<N) (hs:r0.size≤1048576):H4 N [.str r0,.int r1,.int r2,.int r3,.int r4,.int r5,.int r6,.int r7,.bool r8,.int r9,.int r10,.int r11,.int r12,.rows r13,.int s0,.int s1,.int s2,.int s3,.int s4,.int s5,.int s6,.int s7,.int s8,.int s9,.int s10,.int s11,.int s12,.int s13,.rows s14,.int s15,.rows s16,.rows s17,.bool s18,.rows s19,.bool s20,.int s21,.int s22,.int s23,.rows s24,.int s25,.int s26,.int s27,.int p]=some (A9 (SN (⟨r0,r1,r2,r3,r4,r5,r6,r7,r8,r9,r10,r11,r12,r13⟩:Rul) (⟨s0,s1,s2,s3,s4,s5,s6,s7,s8,s9,s10,s11,s12,s13,s14,s15,s16,s17,s18,s19,s20,s21,s22,s23,s24,s25,s26,s27⟩:Inn) p)):=by
 show Kv (std (IM N) N) (xOf _)=_
 generalize hres:(some (A9 (SN (⟨r0,r1,r2,r3,r4,r5,r6,r7,r8,r9,r10,r11,r12,r13⟩:Rul) (⟨s0,s1,s2,s3,s4,s5,s6,s7,s8,s9,s10,s11,s12,s13,s14,s15,s16,s17,s18,s19,s20,s21,s22,s23,s24,s25,s26,s27⟩:Inn) p)):Option (List PV))=RR
 simp only [Kv,Qh,Q0,std,xOf,PXb,PXc,PXn,PXm,Nat.reduceAdd,Int.reduceBEq,Qe h,cO h hN hs]
 subst hres;simp only [SN]
 cases Ls (⟨r0,r1,r2,r3,r4,r5,r6,r7,r8,r9,r10,r11,r12,r13⟩:Rul) (⟨s0,s1,s2,s3,s4,s5,s6,s7,s8,s9,s10,s11,s12,s13,s14,s15,s16,s17,s18,s19,s20,s21,s22,s23,s24,s25,s26,s27⟩:Inn) p==0<;>rfl
def gN (x:Inn×Bool):List PV:=[.int x.1.side,.int x.1.target,.int x.1.overs,.int x.1.runs,.int x.1.wickets,.int x.1.wides,.int x.1.noballs,.int x.1.byes,.int x.1.legbyes,.int x.1.pens,.int x.1.complete,.int x.1.inover,.int x.1.striker,.int x.1.other,.rows x.1.batters,.int x.1.bowler,.rows x.1.bowlers,.rows x.1.before,.bool x.1.fresh,.rows x.1.bowled,.bool x.1.freehit,.int x.1.ballage,.int x.1.keeper,.int x.1.outside,.rows x.1.subs,.int x.1.rev1,.int x.1.rev2,.int x.1.ending,.bool x.2]
def inc (x:Int):Int:=IntKind.i64.wrap (x+1)
def Ah (r:Rul) (s:Inn) (counts:Bool):Inn×Bool :=
  cond (!inR s.bowler s.bowled.length || !(A1 r==0)) (s,false)
    (let L:=cond (Iz s.bowlers s.bowlers.length s.bowler) s.bowlers (s.bowlers++[[.int s.bowler]])
     let o:=cond counts (inc s.inover) s.inover
     let t:Inn:={ s with bowlers:=L,bowled:=cond counts (L8 s.bowled s.bowler (inc (atI s.bowled (ix s.bowler) 0))) s.bowled,inover:=o,ballage:=cond counts (inc s.ballage) s.ballage }
     cond (iLt o r.balls) (t,false) ({ t with complete:=inc s.complete,inover:=0,before:=L,bowlers:=[],bowler:=0 },true))
theorem aS {N:Nat} {r1 r2 r3 r4 r5 r6 r7 r9 r10 r11 r12:Int} {r8:Bool} {r0:ByteArray} {r13:Rows} {s0 s1 s2 s3 s4 s5 s6 s7 s8 s9 s10 s11 s12 s13 s15 s21 s22 s23 s25 s26 s27:Int} {s18 s20:Bool} {s14 s16 s17 s19 s24:Rows} {b:Bool} (h:Fit s14 s16 s17 s19 s24) (hw:s16.length≤1048575) (hN:2097152<N) (hs:r0.size≤1048576):IA N [.str r0,.int r1,.int r2,.int r3,.int r4,.int r5,.int r6,.int r7,.bool r8,.int r9,.int r10,.int r11,.int r12,.rows r13,.int s0,.int s1,.int s2,.int s3,.int s4,.int s5,.int s6,.int s7,.int s8,.int s9,.int s10,.int s11,.int s12,.int s13,.rows s14,.int s15,.rows s16,.rows s17,.bool s18,.rows s19,.bool s20,.int s21,.int s22,.int s23,.rows s24,.int s25,.int s26,.int s27,.bool b]=some (gN (Ah (⟨r0,r1,r2,r3,r4,r5,r6,r7,r8,r9,r10,r11,r12,r13⟩:Rul) (⟨s0,s1,s2,s3,s4,s5,s6,s7,s8,s9,s10,s11,s12,s13,s14,s15,s16,s17,s18,s19,s20,s21,s22,s23,s24,s25,s26,s27⟩:Inn) b)):=by
 show LN (std (D5 N) N) (xOf _)=_
 generalize hres:(some (gN (Ah (⟨r0,r1,r2,r3,r4,r5,r6,r7,r8,r9,r10,r11,r12,r13⟩:Rul) (⟨s0,s1,s2,s3,s4,s5,s6,s7,s8,s9,s10,s11,s12,s13,s14,s15,s16,s17,s18,s19,s20,s21,s22,s23,s24,s25,s26,s27⟩:Inn) b)):Option (List PV))=RR
 have ha:(s16++[[PV.int s15]]).length≤1048576:=by simp;omega
 simp only [LN,Ov,J4,Qw,PX,std,xOf,PXb,PXc,PXn,PXm,Nat.reduceAdd,Int.reduceBEq,Qe h,NN,Cl hN hs,KL hN h.bw',kG ha (show 8≤4096 by omega)]
 subst hres;simp only [Ah]
 cases hp:inR s15 s19.length with
 | false=>rfl
 | true =>
  rw [JW hp h.bd]
  cases A1 (⟨r0,r1,r2,r3,r4,r5,r6,r7,r8,r9,r10,r11,r12,r13⟩:Rul)==0<;>try rfl
  cases Iz s16 s16.length s15<;>cases b<;>simp only [PXb,PXc,PXn,PXm,Nat.reduceAdd,Int.reduceBEq,inc]
  all_goals first | (cases iLt s11 r4<;>rfl) | (cases iLt (IntKind.i64.wrap (s11+1)) r4<;>rfl)
def Jz (r:Rul) (s:Inn):Inn×Int :=
 cond (!(A1 r==0)||r.newball==0||iLt s.ballage (IntKind.i64.wrap (r.newball * r.balls))) (s,22) ({ s with ballage:=0 },0)
theorem W7 {N:Nat} {r1 r2 r3 r4 r5 r6 r7 r9 r10 r11 r12:Int} {r8:Bool} {r0:ByteArray} {r13:Rows} {s0 s1 s2 s3 s4 s5 s6 s7 s8 s9 s10 s11 s12 s13 s15 s21 s22 s23 s25 s26 s27:Int} {s18 s20:Bool} {s14 s16 s17 s19 s24:Rows} (h:Fit s14 s16 s17 s19 s24) (hN:2097152<N) (hs:r0.size≤1048576):FG N [.str r0,.int r1,.int r2,.int r3,.int r4,.int r5,.int r6,.int r7,.bool r8,.int r9,.int r10,.int r11,.int r12,.rows r13,.int s0,.int s1,.int s2,.int s3,.int s4,.int s5,.int s6,.int s7,.int s8,.int s9,.int s10,.int s11,.int s12,.int s13,.rows s14,.int s15,.rows s16,.rows s17,.bool s18,.rows s19,.bool s20,.int s21,.int s22,.int s23,.rows s24,.int s25,.int s26,.int s27]=some (A9 (Jz (⟨r0,r1,r2,r3,r4,r5,r6,r7,r8,r9,r10,r11,r12,r13⟩:Rul) (⟨s0,s1,s2,s3,s4,s5,s6,s7,s8,s9,s10,s11,s12,s13,s14,s15,s16,s17,s18,s19,s20,s21,s22,s23,s24,s25,s26,s27⟩:Inn))):=by
 show HY (std (Fn N) N) (xOf _)=_
 generalize hres:(some (A9 (Jz (⟨r0,r1,r2,r3,r4,r5,r6,r7,r8,r9,r10,r11,r12,r13⟩:Rul) (⟨s0,s1,s2,s3,s4,s5,s6,s7,s8,s9,s10,s11,s12,s13,s14,s15,s16,s17,s18,s19,s20,s21,s22,s23,s24,s25,s26,s27⟩:Inn))):Option (List PV))=RR
 simp only [HY,M2,OK,std,xOf,PXb,PXc,PXn,PXm,Nat.reduceAdd,Int.reduceBEq,Qe h,Cl hN hs]
 subst hres;simp only [Jz]
 cases (!(A1 (⟨r0,r1,r2,r3,r4,r5,r6,r7,r8,r9,r10,r11,r12,r13⟩:Rul)==0)||r9==0||iLt s21 (IntKind.i64.wrap (r9 * r4)))<;>rfl
end Go.Px
end
section
namespace Go.Px
set_option maxRecDepth 100000
def aO (r:Rul) (over:Int):Int :=
 match Bw (fun i=>cond (iLe (atI r.power i 0) (inc over)&&iLe (inc over) (atI r.power i 1)) (some [.int (atI r.power i 2)]) none) r.power.length 0 with
 | some x=>pvI (AA x 0)
 | none=>r.outside
theorem Wq {N:Nat} {r1 r2 r3 r4 r5 r6 r7 r9 r10 r11 r12:Int} {r8:Bool} {r0:ByteArray} {r13:Rows} {o:Int} (hN:2097152<N) (h13:r13.length≤1048576):E9 N [.str r0,.int r1,.int r2,.int r3,.int r4,.int r5,.int r6,.int r7,.bool r8,.int r9,.int r10,.int r11,.int r12,.rows r13,.int o]=some [.int (aO (⟨r0,r1,r2,r3,r4,r5,r6,r7,r8,r9,r10,r11,r12,r13⟩:Rul) o)]:=by
 show Hh (std (Ny N) N) (xOf _)=_
 simp only [Hh,std,xOf,PXb,PXc,PXn,AG]
 refine Ae (Cm (len:=r13.length) (fun i=>cond (iLe (atI r13 i 0) (inc o)&&iLe (inc o) (atI r13 i 1)) (some [.int (atI r13 i 2)]) none) ?_ ?_ r13.length 0 N (by omega) (by omega)) ?_
 ·intro self
  simp only [PXb,PXc,PXn,AG,Bc]
 ·intro i self hi
  simp only [PXb,PXc,PXn,AG,Ax (show i≤1099511627776 by omega),BG hi,Al hi]
  cases hq:iLe (atI r13 i 0) (inc o)&&iLe (inc o) (atI r13 i 1)<;>unfold inc atI at hq<;>rw [hq]<;>rfl
 ·unfold aO
  cases Bw (fun i=>cond (iLe (atI r13 i 0) (inc o)&&iLe (inc o) (atI r13 i 1)) (some [.int (atI r13 i 2)]) none) r13.length 0<;>rfl
def MM (s:Inn) (p:Int):Inn×Int :=
 cond (!inR p s.subs.length) (s,3) (cond (GY s p) (s,18) (cond (p==s.bowler||p==s.keeper) (s,17) ({ s with keeper:=p },0)))
theorem YI {N:Nat} {s0 s1 s2 s3 s4 s5 s6 s7 s8 s9 s10 s11 s12 s13 s15 s21 s22 s23 s25 s26 s27:Int} {s18 s20:Bool} {s14 s16 s17 s19 s24:Rows} {p:Int} (h:Fit s14 s16 s17 s19 s24):Fo N [.int s0,.int s1,.int s2,.int s3,.int s4,.int s5,.int s6,.int s7,.int s8,.int s9,.int s10,.int s11,.int s12,.int s13,.rows s14,.int s15,.rows s16,.rows s17,.bool s18,.rows s19,.bool s20,.int s21,.int s22,.int s23,.rows s24,.int s25,.int s26,.int s27,.int p]=some (A9 (MM (⟨s0,s1,s2,s3,s4,s5,s6,s7,s8,s9,s10,s11,s12,s13,s14,s15,s16,s17,s18,s19,s20,s21,s22,s23,s24,s25,s26,s27⟩:Inn) p)):=by
 show Id (std (D9 N) N) (xOf _)=_
 generalize hres:(some (A9 (MM (⟨s0,s1,s2,s3,s4,s5,s6,s7,s8,s9,s10,s11,s12,s13,s14,s15,s16,s17,s18,s19,s20,s21,s22,s23,s24,s25,s26,s27⟩:Inn) p)):Option (List PV))=RR
 simp only [Id,PP,Nd,Lb,std,xOf,PXb,PXc,PXn,PXm,Nat.reduceAdd,Int.reduceBEq,Qf h,Gt,Ga h.sb]
 subst hres;simp only [MM]
 cases inR p s24.length<;>cases GY (⟨s0,s1,s2,s3,s4,s5,s6,s7,s8,s9,s10,s11,s12,s13,s14,s15,s16,s17,s18,s19,s20,s21,s22,s23,s24,s25,s26,s27⟩:Inn) p<;>cases p==s15<;>cases p==s22<;>rfl
def Om (s:Inn) (p:Int) (on:Bool):Inn×Int :=
  cond (!inR p s.subs.length) (s,3) (cond (GY s p==on) (s,18)
    ({ s with subs:=gJ s.subs p on,keeper:=cond (on&&s.keeper==p) 0 s.keeper,bowler:=cond (on&&s.bowler==p) 0 s.bowler },0))
theorem UD {N:Nat} {s0 s1 s2 s3 s4 s5 s6 s7 s8 s9 s10 s11 s12 s13 s15 s21 s22 s23 s25 s26 s27:Int} {s18 s20:Bool} {s14 s16 s17 s19 s24:Rows} {p:Int} {b:Bool} (h:Fit s14 s16 s17 s19 s24):DN N [.int s0,.int s1,.int s2,.int s3,.int s4,.int s5,.int s6,.int s7,.int s8,.int s9,.int s10,.int s11,.int s12,.int s13,.rows s14,.int s15,.rows s16,.rows s17,.bool s18,.rows s19,.bool s20,.int s21,.int s22,.int s23,.rows s24,.int s25,.int s26,.int s27,.int p,.bool b]=some (A9 (Om (⟨s0,s1,s2,s3,s4,s5,s6,s7,s8,s9,s10,s11,s12,s13,s14,s15,s16,s17,s18,s19,s20,s21,s22,s23,s24,s25,s26,s27⟩:Inn) p b)):=by
 show E7 (std (Ci N) N) (xOf _)=_
 generalize hres:(some (A9 (Om (⟨s0,s1,s2,s3,s4,s5,s6,s7,s8,s9,s10,s11,s12,s13,s14,s15,s16,s17,s18,s19,s20,s21,s22,s23,s24,s25,s26,s27⟩:Inn) p b)):Option (List PV))=RR
 simp only [E7,Lu,K4,JD,std,xOf,PXb,PXc,PXn,PXm,Nat.reduceAdd,Int.reduceBEq,Qf h,Gt,Ga h.sb]
 subst hres;simp only [Om]
 cases hp:inR p s24.length<;>try rfl
 rw [JW hp h.sb]
 cases GY (⟨s0,s1,s2,s3,s4,s5,s6,s7,s8,s9,s10,s11,s12,s13,s14,s15,s16,s17,s18,s19,s20,s21,s22,s23,s24,s25,s26,s27⟩:Inn) p==b<;>cases b<;>cases s22==p<;>cases s15==p<;>rfl
def KA (s:Inn) (n:Int):Inn×Int :=
 cond (iLt n 0||iLt (IntKind.i64.wrap ((s.subs.length:Int) - 2)) n) (s,16) ({ s with outside:=n },0)
theorem XJ {N:Nat} {s0 s1 s2 s3 s4 s5 s6 s7 s8 s9 s10 s11 s12 s13 s15 s21 s22 s23 s25 s26 s27:Int} {s18 s20:Bool} {s14 s16 s17 s19 s24:Rows} {n:Int} (h:Fit s14 s16 s17 s19 s24):FD N [.int s0,.int s1,.int s2,.int s3,.int s4,.int s5,.int s6,.int s7,.int s8,.int s9,.int s10,.int s11,.int s12,.int s13,.rows s14,.int s15,.rows s16,.rows s17,.bool s18,.rows s19,.bool s20,.int s21,.int s22,.int s23,.rows s24,.int s25,.int s26,.int s27,.int n]=some (A9 (KA (⟨s0,s1,s2,s3,s4,s5,s6,s7,s8,s9,s10,s11,s12,s13,s14,s15,s16,s17,s18,s19,s20,s21,s22,s23,s24,s25,s26,s27⟩:Inn) n)):=by
 show Hj (std (Ix N) N) (xOf _)=_
 generalize hres:(some (A9 (KA (⟨s0,s1,s2,s3,s4,s5,s6,s7,s8,s9,s10,s11,s12,s13,s14,s15,s16,s17,s18,s19,s20,s21,s22,s23,s24,s25,s26,s27⟩:Inn) n)):Option (List PV))=RR
 simp only [Hj,OL,std,xOf,PXb,PXc,PXn,PXm,Nat.reduceAdd,Int.reduceBEq,Qf h]
 subst hres;simp only [KA]
 cases (iLt n 0||iLt (IntKind.i64.wrap ((s24.length:Int) - 2)) n)<;>rfl
def PH (r:Rul) (s:Inn):Int :=
 cond (!inR s.keeper s.subs.length||GY s s.keeper||s.keeper==s.bowler) 17 (cond (iLt (aO r s.complete) s.outside) 16 0)
theorem ZC {N:Nat} {r1 r2 r3 r4 r5 r6 r7 r9 r10 r11 r12:Int} {r8:Bool} {r0:ByteArray} {r13:Rows} {s0 s1 s2 s3 s4 s5 s6 s7 s8 s9 s10 s11 s12 s13 s15 s21 s22 s23 s25 s26 s27:Int} {s18 s20:Bool} {s14 s16 s17 s19 s24:Rows} (h:Fit s14 s16 s17 s19 s24) (hN:2097152<N) (h13:r13.length≤1048576):Gy N [.str r0,.int r1,.int r2,.int r3,.int r4,.int r5,.int r6,.int r7,.bool r8,.int r9,.int r10,.int r11,.int r12,.rows r13,.int s0,.int s1,.int s2,.int s3,.int s4,.int s5,.int s6,.int s7,.int s8,.int s9,.int s10,.int s11,.int s12,.int s13,.rows s14,.int s15,.rows s16,.rows s17,.bool s18,.rows s19,.bool s20,.int s21,.int s22,.int s23,.rows s24,.int s25,.int s26,.int s27]=some [.int (PH (⟨r0,r1,r2,r3,r4,r5,r6,r7,r8,r9,r10,r11,r12,r13⟩:Rul) (⟨s0,s1,s2,s3,s4,s5,s6,s7,s8,s9,s10,s11,s12,s13,s14,s15,s16,s17,s18,s19,s20,s21,s22,s23,s24,s25,s26,s27⟩:Inn))]:=by
 show Je (std (FK N) N) (xOf _)=_
 generalize hres:(some [.int (PH (⟨r0,r1,r2,r3,r4,r5,r6,r7,r8,r9,r10,r11,r12,r13⟩:Rul) (⟨s0,s1,s2,s3,s4,s5,s6,s7,s8,s9,s10,s11,s12,s13,s14,s15,s16,s17,s18,s19,s20,s21,s22,s23,s24,s25,s26,s27⟩:Inn))]:Option (List PV))=RR
 simp only [Je,OD,MU,M7,std,xOf,PXb,PXc,PXn,PXm,Nat.reduceAdd,Int.reduceBEq,Gt,Ga h.sb,Wq hN h13]
 subst hres;simp only [PH]
 cases inR s22 s24.length<;>cases GY (⟨s0,s1,s2,s3,s4,s5,s6,s7,s8,s9,s10,s11,s12,s13,s14,s15,s16,s17,s18,s19,s20,s21,s22,s23,s24,s25,s26,s27⟩:Inn) s22<;>cases s22==s15<;>rfl
def O4 (s:Inn) (d:Del):Int :=
  cond (iLt 0 d.fielder && !inR d.fielder s.subs.length) 3 (cond (iLt 0 d.fielder && !(d.sub==GY s d.fielder)) 18
    (cond (iLt 0 d.second && !inR d.second s.subs.length) 3 (cond (iLt 0 d.second&&GY s d.second) 18
      (cond (d.how==4 && !(eO d.fielder==s.keeper)) 17 0))))
theorem ZW {N:Nat} {s0 s1 s2 s3 s4 s5 s6 s7 s8 s9 s10 s11 s12 s13 s15 s21 s22 s23 s25 s26 s27:Int} {s18 s20:Bool} {s14 s16 s17 s19 s24:Rows} {d0 d1 d2 d3 d4 d6 d7 d8 d9 d11:Int} {d5 d10:Bool} (h:Fit s14 s16 s17 s19 s24):Gu N [.int s0,.int s1,.int s2,.int s3,.int s4,.int s5,.int s6,.int s7,.int s8,.int s9,.int s10,.int s11,.int s12,.int s13,.rows s14,.int s15,.rows s16,.rows s17,.bool s18,.rows s19,.bool s20,.int s21,.int s22,.int s23,.rows s24,.int s25,.int s26,.int s27,.int d0,.int d1,.int d2,.int d3,.int d4,.bool d5,.int d6,.int d7,.int d8,.int d9,.bool d10,.int d11]=some [.int (O4 (⟨s0,s1,s2,s3,s4,s5,s6,s7,s8,s9,s10,s11,s12,s13,s14,s15,s16,s17,s18,s19,s20,s21,s22,s23,s24,s25,s26,s27⟩:Inn) (⟨d0,d1,d2,d3,d4,d5,d6,d7,d8,d9,d10,d11⟩:Del))]:=by
 show JX (std (Hb N) N) (xOf _)=_
 generalize hres:(some [.int (O4 (⟨s0,s1,s2,s3,s4,s5,s6,s7,s8,s9,s10,s11,s12,s13,s14,s15,s16,s17,s18,s19,s20,s21,s22,s23,s24,s25,s26,s27⟩:Inn) (⟨d0,d1,d2,d3,d4,d5,d6,d7,d8,d9,d10,d11⟩:Del))]:Option (List PV))=RR
 simp only [JX,OG,L1,std,xOf,PXb,PXc,PXn,PXm,Nat.reduceAdd,Int.reduceBEq,Gt,Ga h.sb]
 subst hres;simp only [O4,eO,jo]
 cases iLt 0 d8<;>cases iLt 0 d9<;>cases inR d8 s24.length<;>cases inR d9 s24.length<;>cases d10==GY (⟨s0,s1,s2,s3,s4,s5,s6,s7,s8,s9,s10,s11,s12,s13,s14,s15,s16,s17,s18,s19,s20,s21,s22,s23,s24,s25,s26,s27⟩:Inn) d8<;>cases GY (⟨s0,s1,s2,s3,s4,s5,s6,s7,s8,s9,s10,s11,s12,s13,s14,s15,s16,s17,s18,s19,s20,s21,s22,s23,s24,s25,s26,s27⟩:Inn) d9<;>rfl
end Go.Px
end
section
namespace Go.Px
set_option maxRecDepth 100000
structure Cre where
 batter:Int
 wides:Int
 noballs:Int
 byes:Int
 legbyes:Int
 bowler:Int
 counts:Bool
 faced:Bool
 wicket:Bool
 swap:Bool
def Cre.ls (c:Cre):List PV:=[.int c.batter,.int c.wides,.int c.noballs,.int c.byes,.int c.legbyes,.int c.bowler,.bool c.counts,.bool c.faced,.bool c.wicket,.bool c.swap]
def UH (d:Del):Bool :=
  cond (d.type==2) (d.source==0 && !(d.boundary==6)) (cond (d.source==0) (d.runs==0&&d.boundary==0)
    (cond (d.boundary==0) (iLt 0 d.runs) (cond (d.boundary==6) (d.source==1&&d.runs==0) true)))
def Dk (d:Del):Int :=
  cond (iLt d.type 1||iLt 3 d.type||iLt 3 d.source||iLt 10 d.how || !btw d.sector 0 8) 11
    (cond (!btw d.runs 0 7 || !btw d.short 0 d.runs||(!(d.boundary==0) && !(d.boundary==4) && !(d.boundary==6))) 12
      (cond (!UH d) 11 (cond (!(d.sector==0) && !(d.source==1) && !(d.how==2)) 11 (cond (!(d.boundary==0) && !(d.how==0)) 11
        (cond (d.crossed && !(d.how==6) && !(d.how==8)) 11 0)))))
def JQ (d:Del):Bool :=
  cond (d.type==2) (d.source==0 && !(d.boundary==6)) (cond (d.source==0) (d.runs==0&&d.boundary==0)
    (cond (d.source==1) (!(d.boundary==6)||d.runs==0) (!(d.boundary==6)&&(iLt 0 d.runs || !(d.boundary==0)))))
theorem TE {N:Nat} {d0 d1 d2 d3 d4 d6 d7 d8 d9 d11:Int} {d5 d10:Bool}  : C0 N [.int d0,.int d1,.int d2,.int d3,.int d4,.bool d5,.int d6,.int d7,.int d8,.int d9,.bool d10,.int d11]=some [.bool (JQ (⟨d0,d1,d2,d3,d4,d5,d6,d7,d8,d9,d10,d11⟩:Del))]:=by
 show ER (std (KJ N) N) (xOf _)=_
 generalize hres:(some [.bool (JQ (⟨d0,d1,d2,d3,d4,d5,d6,d7,d8,d9,d10,d11⟩:Del))]:Option (List PV))=RR
 simp only [ER,std,xOf,PXb,PXc,PXn,PXm,Nat.reduceAdd,Int.reduceBEq]
 subst hres;simp only [JQ]
theorem lF (x a b:Int):(!btw x a b)=(iLt x a||iLt b x):=by
 unfold btw iLe iLt
 rw [Bool.eq_iff_iff]
 simp only [Bool.not_eq_true',Bool.and_eq_false_iff,decide_eq_false_iff_not,Bool.or_eq_true,decide_eq_true_eq]
 omega
theorem ik {d:Del} (h:0≤d.runs):(!JQ d || !d.type==2&&d.source==1&&d.runs==0&&d.boundary==0) = !UH d:=by
 unfold JQ UH
 rw [jI h]
 cases h1:d.source==0 with
 | true =>
  rw [YN h1 (c:=1) rfl]
  cases d.type==2<;>cases d.runs==0<;>cases d.boundary==0<;>cases d.boundary==6<;>rfl
 | false =>
  cases h2:d.boundary==0 with
  | true =>
   rw [YN h2 (c:=6) rfl]
   cases d.type==2<;>cases d.source==1<;>cases d.runs==0<;>rfl
  | false=>cases d.type==2<;>cases d.source==1<;>cases d.runs==0<;>cases d.boundary==6<;>rfl
theorem PW {N:Nat} {d0 d1 d2 d3 d4 d6 d7 d8 d9 d11:Int} {d5 d10:Bool}  : B2 N [.int d0,.int d1,.int d2,.int d3,.int d4,.bool d5,.int d6,.int d7,.int d8,.int d9,.bool d10,.int d11]=some [.int (Dk (⟨d0,d1,d2,d3,d4,d5,d6,d7,d8,d9,d10,d11⟩:Del))]:=by
 show Gn (std (Hp N) N) (xOf _)=_
 generalize hres:(some [.int (Dk (⟨d0,d1,d2,d3,d4,d5,d6,d7,d8,d9,d10,d11⟩:Del))]:Option (List PV))=RR
 simp only [Gn,I0,std,xOf,PXb,PXc,PXn,PXm,Nat.reduceAdd,Int.reduceBEq,TE]
 subst hres;simp only [Dk,lF,Bool.or_assoc]
 cases h2:(iLt d2 0||(iLt 7 d2||(iLt d3 0||(iLt d2 d3 || !d4==0 && !d4==4 && !d4==6)))) with
 | true=>rfl
 | false =>
  have h3:0≤d2:=by
   rw [Bool.or_eq_false_iff] at h2
   have:=h2.1
   simp only [iLt,decide_eq_false_iff_not] at this
   omega
  have:=ik (d:=(⟨d0,d1,d2,d3,d4,d5,d6,d7,d8,d9,d10,d11⟩:Del)) h3
  simp only at this
  rw [this]
theorem PA {N:Nat} {a:Int} {b:Int} {c:Int} {d:Int} {e:Int} {x:Int} {p:Bool} {q:Bool} {u:Bool} {v:Bool}  : Bz N [.int a,.int b,.int c,.int d,.int e,.int x,.bool p,.bool q,.bool u,.bool v]=some [.int (IntKind.i64.wrap (IntKind.i64.wrap (IntKind.i64.wrap (IntKind.i64.wrap (a+b)+c)+d)+e))]:=by
 rfl
def Cy (c:Cre):Int:=IntKind.i64.wrap (IntKind.i64.wrap (IntKind.i64.wrap (IntKind.i64.wrap (c.batter+c.wides)+c.noballs)+c.byes)+c.legbyes)
def YX (h:Int):Bool:=iLe 1 h&&iLe h 5
theorem TB {N:Nat} {h:Int}  : Cx N [.int h]=some [.bool (YX h)]:=by
 show EP (std (KF N) N) (xOf _)=_
 simp only [EP,std,xOf,PXb,PXc,PXn,PXm,Nat.reduceAdd,Int.reduceBEq,YX]
def Ps (r:Rul) (d:Del):Cre :=
  let n:=IntKind.i64.wrap (IntKind.i64.wrap (d.runs - d.short)+d.boundary)
  let b:=cond (!(d.type==2)&&d.source==1) n 0
  let w:=cond (d.type==2) (IntKind.i64.wrap (r.wide+n)) 0
  let o:=cond (d.type==3) r.noball 0
  { batter:=b,wides:=w,noballs:=o,byes:=cond (!(d.type==2)&&d.source==2) n 0,legbyes:=cond (!(d.type==2)&&d.source==3) n 0,bowler:=IntKind.i64.wrap (IntKind.i64.wrap (b+w)+o),
    counts:=d.type==1,faced := !(d.type==2),wicket:=YX d.how,swap := !((!(d.runs.tmod 2==0))==d.crossed) }
def AB (r:Rul) (d:Del):Cre:=cond (!(Dk d==0)) ⟨0,0,0,0,0,0,false,false,false,false⟩ (Ps r d)
theorem eY {d:Del} (h:(Dk d==0)=true):0≤d.runs∧d.runs≤7:=by
 unfold Dk at h
 cases h1:(iLt d.type 1||iLt 3 d.type||iLt 3 d.source||iLt 10 d.how || !btw d.sector 0 8) with
 | true=>rw [h1] at h;cases h
 | false =>
  cases h2:(!btw d.runs 0 7 || !btw d.short 0 d.runs||(!(d.boundary==0) && !(d.boundary==4) && !(d.boundary==6))) with
  | true=>rw [h1,h2] at h;cases h
  | false =>
   rw [Bool.or_eq_false_iff,Bool.or_eq_false_iff] at h2
   have:=h2.1.1
   simp only [btw,iLe,Bool.not_eq_false',Bool.and_eq_true,decide_eq_true_eq] at this
   exact this
theorem iu {n:Int} (h:0≤n∧n≤7) (b:Bool):((cond b (IntKind.i64.wrap (n+1)) n).tmod 2==1) = !((!(n.tmod 2==0))==b):=by
 obtain ⟨k,rfl⟩:∃ k:Nat,n=k:=⟨n.toNat,by omega⟩
 have:k=0∨k=1∨k=2∨k=3∨k=4∨k=5∨k=6∨k=7:=by omega
 rcases this with h | h | h | h | h | h | h | h<;>subst h<;>cases b<;>rfl
theorem N6 {N:Nat} {r1 r2 r3 r4 r5 r6 r7 r9 r10 r11 r12:Int} {r8:Bool} {r0:ByteArray} {r13:Rows} {d0 d1 d2 d3 d4 d6 d7 d8 d9 d11:Int} {d5 d10:Bool}  : Bl N [.str r0,.int r1,.int r2,.int r3,.int r4,.int r5,.int r6,.int r7,.bool r8,.int r9,.int r10,.int r11,.int r12,.rows r13,.int d0,.int d1,.int d2,.int d3,.int d4,.bool d5,.int d6,.int d7,.int d8,.int d9,.bool d10,.int d11]=some (AB (⟨r0,r1,r2,r3,r4,r5,r6,r7,r8,r9,r10,r11,r12,r13⟩:Rul) (⟨d0,d1,d2,d3,d4,d5,d6,d7,d8,d9,d10,d11⟩:Del)).ls:=by
 show Fe (std (EY N) N) (xOf _)=_
 generalize hres:(some (AB (⟨r0,r1,r2,r3,r4,r5,r6,r7,r8,r9,r10,r11,r12,r13⟩:Rul) (⟨d0,d1,d2,d3,d4,d5,d6,d7,d8,d9,d10,d11⟩:Del)).ls:Option (List PV))=RR
 simp only [Fe,J9,Ii,std,xOf,PXb,PXc,PXn,PXm,Nat.reduceAdd,Int.reduceBEq,PW,TB]
 subst hres;simp only [AB,Ps]
 cases hl:Dk (⟨d0,d1,d2,d3,d4,d5,d6,d7,d8,d9,d10,d11⟩:Del)==0 with
 | false=>rfl
 | true =>
  have hs:=iu (eY hl) d5
  simp only at hs
  simp only [PXb,PXc,PXn,PXm,Nat.reduceAdd,Int.reduceBEq,hs]
  cases h0:d0==2<;>cases h3:d0==3<;>cases h1:d1==1<;>cases h2:d1==2<;>cases h4:d1==3<;>first
   | rfl
   | (rw [YN h0 (c:=3) rfl] at h3;exact absurd h3 (by decide))
   | (rw [YN h1 (c:=2) rfl] at h2;exact absurd h2 (by decide))
   | (rw [YN h1 (c:=3) rfl] at h4;exact absurd h4 (by decide))
   | (rw [YN h2 (c:=3) rfl] at h4;exact absurd h4 (by decide))
end Go.Px
end
section
namespace Go.Px
set_option maxRecDepth 100000
def onS (h t:Int):Bool :=
 cond (h==1||h==2||h==3) (t==1) (cond (h==4||h==5) (t==1||t==2) (cond (h==7) (t==1||t==3) (cond (h==6||h==8) (t==1||t==2||t==3) false)))
def Zl (h:Int):Bool:=h==6||h==7||h==8
def MR (h:Int):Bool:=h==6||h==8
def Wc (h:Int):Bool:=h==2||h==4||h==6
def OB (d:Del) (free:Bool):Int :=
  cond (d.how==0) (cond (!(d.victim==0)) 14 (cond (!(d.fielder==0) || !(d.second==0)||d.sub) 15 0))
    (cond (!onS d.how d.type||free && !Zl d.how) 13 (cond (!MR d.how&&(!(d.source==0) || !(d.runs==0))) 12
      (cond (!(d.victim==1) && !(d.victim==2&&MR d.how)) 14
        (cond (Wc d.how && !btw d.fielder 1 11 || !Wc d.how && !(d.fielder==0)) 15
          (cond (!(d.second==0)&&(!(d.how==6) || !btw d.second 1 11||d.second==d.fielder)) 15
            (cond (d.sub && !(d.how==2) && !(d.how==6)) 18 0))))))
def Bb:Rows:=match BO 0 [] with
 | some [.rows l]=>l
 | _=>[]
theorem N4 {N:Nat}:BO N []=some [.rows Bb]:=rfl
theorem Vp:Bb.length=11:=rfl
theorem UE {N:Nat} {h:Int} {n:ByteArray} {b:Bool} {c:Bool} {d:Bool} {e:Bool} {x:Bool} {t:Int}  : DG N [.int h,.str n,.bool b,.bool c,.bool d,.bool e,.bool x,.int t]=some [.bool (t==1&&b||t==2&&c||t==3&&d)]:=by
 show Ew (std (LE N) N) (xOf _)=_
 simp only [Ew,std,xOf,PXb,PXc,PXn,PXm,Nat.reduceAdd,Int.reduceBEq]
theorem Qp {N:Nat} {n:Int}  : CL N [.int n]=some [.bool (btw n 1 11)]:=by
 show C6 (std (IB N) N) (xOf _)=_
 simp only [C6,std,xOf,PXb,PXc,PXn,PXm,Nat.reduceAdd,Int.reduceBEq]
 rfl
def dk (i j:Nat):Bool:=pvB (AH Bb i j)
def wOk (t:Int) (free:Bool) (i:Nat):Bool :=
  (t==1&&dk i 2||t==2&&dk i 3||t==3&&dk i 4)&&(!free||atI Bb i 0==6||atI Bb i 0==7||atI Bb i 0==8)
def Gg (t:Int) (free:Bool):Nat→Rows
 | 0=>[]
 | i+1=>cond (wOk t free i) (Gg t free i++[[.int (atI Bb i 0)]]) (Gg t free i)
theorem WC (t:Int) (free:Bool):∀ i,(Gg t free i).length≤i
 | 0=>Nat.le_refl _
 | i+1=>by
  have:=WC t free i
  unfold Gg
  cases wOk t free i
  ·exact Nat.le_succ_of_le this
  ·simp;exact this
theorem WU {N:Nat} {t:Int} {f:Bool} (hN:2097152<N):EI N [.int t,.bool f]=some [.rows (Gg t f 11)]:=by
 show GX (std (FN N) N) (xOf _)=_
 simp only [GX,J7,JR,std,xOf,PXb,PXc,PXn,AG,N4,UE]
 refine Ae (Da (len:=Bb.length) (fun i=>[.rows (Gg t f i),.int (i:Int)]) [.rows (Gg t f 11)] ?_ ?_ N (by rw [Vp];omega)) rfl
 ·intro self
  simp only [PXb,PXc,PXn,AG,Bc]
  rfl
 ·intro i self hi
  have hi2:i<11:=hi
  have h2:(Gg t f i++[[PV.int (atI Bb i 0)]]).length≤4194304:=by have:=WC t f i;simp;omega
  simp only [PXb,PXc,AG,Ax (show i≤1099511627776 by omega),BG hi,Al hi,Bv,Gg,Fd h2 (show 1≤4096 by omega)]
  unfold wOk dk
  cases ((t==1&&pvB (AH Bb i 2)||t==2&&pvB (AH Bb i 3)||t==3&&pvB (AH Bb i 4))&&(!f||atI Bb i 0==6||atI Bb i 0==7||atI Bb i 0==8))<;>rfl
theorem UK {N:Nat} {L:Rows} {v:Int} (hN:L.length<N) (hl:L.length≤1048576):DH N [.rows L,.int v]=some [.int (Nb (fun j=>v==atI L j 0) L.length)]:=by
 show E6 (std (LM N) N) (xOf _)=_
 simp only [E6,std,xOf,PXb,PXc,PXn,AG]
 refine Ae (Cm (len:=L.length) (FX fun j=>v==atI L j 0) ?_ ?_ L.length 0 N (by omega) (by omega)) ?_
 ·intro self
  simp only [PXb,PXc,PXn,AG,Bc]
 ·intro i self hi
  simp only [PXb,PXc,PXn,AG,Ax (show i≤1099511627776 by omega),BG hi,Al hi,FX,Bv]
  cases v==atI L i 0<;>rfl
 ·unfold Nb
  cases Bw (FX fun j=>v==atI L j 0) L.length 0<;>rfl
theorem Q2 {N:Nat} {L:Rows} {v:Int} (hN:L.length<N) (hl:L.length≤1048576):CW N [.rows L,.int v]=some [.bool (Iz L L.length v)]:=by
 show DX (std (Ee N) N) (xOf _)=_
 simp only [DX,HN,std,xOf,PXb,PXc,PXn,AG,UK hN hl,IR,Iz]
theorem iI (L:Rows) (v:Int):Iz L L.length v=I6 (fun x=>v==x) L:=rfl
theorem js (p:Int→Bool) (b:Bool) (L:Rows) (x:Int):I6 p (cond b (L++[[.int x]]) L)=(I6 p L||(b&&p x)):=by
 cases b with
 | false=>simp
 | true=>rw [cond_true,bL,Bool.true_and];congr 1;rw [MO];simp [AA,pvI]
theorem Z3 (t:Int) (free:Bool) (p:Int→Bool):∀ i,I6 p (Gg t free i)=BI (fun j=>wOk t free j&&p (atI Bb j 0)) i 0
 | 0=>rfl
 | i+1=>by rw [Tl,← Z3 t free p i,Gg,js,Nat.zero_add]
theorem gr (t h:Int) (free:Bool):Iz (Gg t free 11) (Gg t free 11).length h=(onS h t&&(!free||Zl h)):=by
 rw [iI,Z3]
 have key:∀ j,j<11→atI Bb j 0=j:=by
  intro j hj
  have:j=0∨j=1∨j=2∨j=3∨j=4∨j=5∨j=6∨j=7∨j=8∨j=9∨j=10:=by omega
  rcases this with h | h | h | h | h | h | h | h | h | h | h<;>subst h<;>rfl
 by_cases hr:0≤h∧h≤10
 ·obtain ⟨k,rfl⟩:∃ k:Nat,h=k:=⟨h.toNat,by omega⟩
  have:k=0∨k=1∨k=2∨k=3∨k=4∨k=5∨k=6∨k=7∨k=8∨k=9∨k=10:=by omega
  rcases this with h | h | h | h | h | h | h | h | h | h | h<;>subst h<;>simp only [Bn,IL,wOk,onS]<;>cases free<;>cases t==1<;>cases t==2<;>cases t==3<;>rfl
 ·rw [Eu.2 fun j _ hj=>by
   rw [key j (by omega),show (h==(j:Int))=false from beq_false_of_ne (by omega),Bool.and_false]]
  have e:∀ n:Int,0≤n→n≤10→(h==n)=false:=fun n h0 h1=>beq_false_of_ne (by omega)
  unfold onS
  rw [e 1 (by omega) (by omega),e 2 (by omega) (by omega),e 3 (by omega) (by omega),e 4 (by omega) (by omega),e 5 (by omega) (by omega),e 6 (by omega) (by omega),e 7 (by omega) (by omega),e 8 (by omega) (by omega)]
  rfl
def R7 (h:Int):List PV:=match Bw (fun i=>cond (atI Bb i 0==h) (some [.int (pvI (AH Bb i 0)),.str (pvS (AH Bb i 1)),.bool (pvB (AH Bb i 2)),.bool (pvB (AH Bb i 3)),.bool (pvB (AH Bb i 4)),.bool (pvB (AH Bb i 5)),.bool (pvB (AH Bb i 6))]) none) 11 0 with
 | some r=>r
 | none=>[.int 0,.str ⟨#[]⟩,.bool false,.bool false,.bool false,.bool false,.bool false]
theorem OU {ans:Nat→Option (List PV)} {r:List PV}:∀ (k i:Nat),Bw ans k i=some r→∃ j,i≤j∧j<i+k∧ans j=some r
 | 0,i,h=>by cases h
 | k+1,i,h=>by
  simp only [Bw] at h
  cases ha:ans i with
  | some x=>rw [ha] at h;cases h;exact ⟨i,Nat.le_refl _,by omega,ha⟩
  | none =>
   rw [ha] at h
   obtain ⟨j,h1,h2,h3⟩:=OU k (i+1) h
   exact ⟨j,by omega,by omega,h3⟩
theorem gp (h:Int):∃ a b c d e f g,R7 h=[.int a,.str b,.bool c,.bool d,.bool e,.bool f,.bool g]:=by
 unfold R7
 generalize hf:Bw _ 11 0=o
 cases o with
 | none=>exact ⟨_,_,_,_,_,_,_,rfl⟩
 | some r =>
  obtain ⟨j,_,_,h3⟩:=OU _ _ hf
  cases hb:atI Bb j 0==h with
  | false=>rw [hb] at h3;cases h3
  | true=>rw [hb] at h3;cases h3;exact ⟨_,_,_,_,_,_,_,rfl⟩
theorem YU {N:Nat} {h:Int} (hN:2097152<N):Fv N [.int h]=some (R7 h):=by
 show Ij (std (J0 N) N) (xOf _)=_
 simp only [Ij,LQ,std,xOf,PXb,PXc,PXn,AG,N4]
 refine Ae (Cm (len:=Bb.length) (fun i=>cond (atI Bb i 0==h) (some [.int (pvI (AH Bb i 0)),.str (pvS (AH Bb i 1)),.bool (pvB (AH Bb i 2)),.bool (pvB (AH Bb i 3)),.bool (pvB (AH Bb i 4)),.bool (pvB (AH Bb i 5)),.bool (pvB (AH Bb i 6))]) none) ?_ ?_ Bb.length 0 N (by omega) (by rw [Vp];omega)) ?_
 ·intro self
  simp only [PXb,PXc,PXn,AG,Bc]
 ·intro i self hi
  have hi2:i<11:=hi
  simp only [PXb,PXc,PXn,AG,Ax (show i≤1099511627776 by omega),BG hi,Al hi,Bv]
  cases atI Bb i 0==h<;>rfl
 ·unfold R7
  rw [Vp]
  generalize hf:Bw _ 11 0=o
  cases o with
  | none=>rfl
  | some r =>
   obtain ⟨j,_,_,h3⟩:=OU _ _ hf
   cases hb:atI Bb j 0==h with
   | false=>rw [hb] at h3;cases h3
   | true=>rw [hb] at h3;cases h3;rfl
theorem ep (h:Int):pvB (AA (R7 h) 5)=Wc h∧pvB (AA (R7 h) 6)=MR h:=by
 by_cases hr:0≤h∧h≤10
 ·obtain ⟨k,rfl⟩:∃ k:Nat,h=k:=⟨h.toNat,by omega⟩
  have:k=0∨k=1∨k=2∨k=3∨k=4∨k=5∨k=6∨k=7∨k=8∨k=9∨k=10:=by omega
  rcases this with h | h | h | h | h | h | h | h | h | h | h<;>subst h<;>exact ⟨rfl,rfl⟩
 ·have e:∀ n:Int,0≤n→n≤10→(h==n)=false:=fun n h0 h1=>beq_false_of_ne (by omega)
  have key:∀ j,j<11→atI Bb j 0=j:=by
   intro j hj
   have:j=0∨j=1∨j=2∨j=3∨j=4∨j=5∨j=6∨j=7∨j=8∨j=9∨j=10:=by omega
   rcases this with h | h | h | h | h | h | h | h | h | h | h<;>subst h<;>rfl
  unfold R7
  generalize hf:Bw _ 11 0=o
  cases o with
  | none =>
   unfold Wc MR
   rw [e 2 (by omega) (by omega),e 4 (by omega) (by omega),e 6 (by omega) (by omega),e 8 (by omega) (by omega)]
   exact ⟨rfl,rfl⟩
  | some r =>
   obtain ⟨j,_,hj,h3⟩:=OU _ _ hf
   rw [key j (by omega),show ((j:Int)==h)=false from beq_false_of_ne (by omega)] at h3
   cases h3
def NF (d:Del) (m:Bool):Bool :=
 !(!(m==btw d.fielder 1 11) || !m && !(d.fielder==0))&&(d.second==0||d.how==6&&btw d.second 1 11 && !(d.second==d.fielder))
theorem Ry {N:Nat} {d0 d1 d2 d3 d4 d6 d7 d8 d9 d11:Int} {d5 d10:Bool} {a:Int} {n:ByteArray} {b:Bool} {c:Bool} {e:Bool} {f:Bool} {g:Bool}  : Ch N [.int d0,.int d1,.int d2,.int d3,.int d4,.bool d5,.int d6,.int d7,.int d8,.int d9,.bool d10,.int d11,.int a,.str n,.bool b,.bool c,.bool e,.bool f,.bool g]=some [.bool (NF (⟨d0,d1,d2,d3,d4,d5,d6,d7,d8,d9,d10,d11⟩:Del) f)]:=by
 show Du (std (FU N) N) (xOf _)=_
 generalize hres:(some [.bool (NF (⟨d0,d1,d2,d3,d4,d5,d6,d7,d8,d9,d10,d11⟩:Del) f)]:Option (List PV))=RR
 simp only [Du,GO,std,xOf,PXb,PXc,PXn,PXm,Nat.reduceAdd,Int.reduceBEq,Qp]
 subst hres;simp only [NF]
 cases d9==0<;>cases d6==6<;>cases f<;>cases btw d8 1 11<;>cases d8==0<;>first | rfl | (cases btw d9 1 11<;>rfl)
theorem km {α:Type} (a b:Bool) (x y:α):cond (a||b) x y=cond a x (cond b x y):=by cases a<;>rfl
theorem cG (d:Del) (m:Bool):(!NF d m)=((m && !btw d.fielder 1 11 || !m && !(d.fielder==0))||(!(d.second==0)&&(!(d.how==6) || !btw d.second 1 11||d.second==d.fielder))):=by
 unfold NF
 cases hb:btw d.fielder 1 11<;>cases hf:d.fielder==0
 ·cases m<;>cases d.second==0<;>cases d.how==6<;>cases btw d.second 1 11<;>cases d.second==d.fielder<;>rfl
 ·cases m<;>cases d.second==0<;>cases d.how==6<;>cases btw d.second 1 11<;>cases d.second==d.fielder<;>rfl
 ·cases m<;>cases d.second==0<;>cases d.how==6<;>cases btw d.second 1 11<;>cases d.second==d.fielder<;>rfl
 ·rw [beq_iff_eq.1 hf] at hb;exact absurd hb (by decide)
theorem R4 {N:Nat} {d0 d1 d2 d3 d4 d6 d7 d8 d9 d11:Int} {d5 d10:Bool} {f:Bool} (hN:2097152<N):Cb N [.int d0,.int d1,.int d2,.int d3,.int d4,.bool d5,.int d6,.int d7,.int d8,.int d9,.bool d10,.int d11,.bool f]=some [.int (OB (⟨d0,d1,d2,d3,d4,d5,d6,d7,d8,d9,d10,d11⟩:Del) f)]:=by
 show Ds (std (Bk N) N) (xOf _)=_
 generalize hres:(some [.int (OB (⟨d0,d1,d2,d3,d4,d5,d6,d7,d8,d9,d10,d11⟩:Del) f)]:Option (List PV))=RR
 have hl:=WC d0 f 11
 obtain ⟨a,b,c,d,e,m,g,hline⟩:=gp d6
 have hbits:=ep d6
 rw [hline] at hbits
 have hm:m=Wc d6:=hbits.1
 have hg:g=MR d6:=hbits.2
 have h1:(Gg d0 f 11).length<N:=by omega
 have h2:(Gg d0 f 11).length≤1048576:=by omega
 simp only [Ds,JF,Gl,Ih,Gx,std,xOf,PXb,PXc,PXn,PXm,Nat.reduceAdd,Int.reduceBEq,YU hN,hline,WU hN,Q2 h1 h2,gr,Ry,cG]
 subst hres;simp only [OB,km]
 rw [hm,hg]
 unfold MR
 cases d6==0<;>cases onS d6 d0<;>cases f<;>cases Zl d6<;>try rfl
 all_goals (cases d6==6<;>cases d6==8<;>cases d7==2<;>rfl)
end Go.Px
end
section
namespace Go.Px
set_option maxRecDepth 100000
theorem Tv {N:Nat} {a:Int} {b:Int} {c:Int}  : DA N [.int a,.int b,.int c]=some [.bool (btw a b c)]:=by
 show Hs (std (LV N) N) (xOf _)=_
 show some [PV.bool (cond (iLe b a) (iLe a c) false)]=_
 rw [Ww];rfl
theorem XY {N:Nat} {a:Int} {b:Int} {c:Int}  : FL N [.int a,.int b,.int c]=some [.bool (btw a b c)]:=by
 show K6 (std (Nx N) N) (xOf _)=_
 show some [PV.bool (cond (iLe b a) (iLe a c) false)]=_
 rw [Ww];rfl
def Zk (d:Del):Int :=
  cond (iLt d.type 1||iLt 3 d.type||iLt 3 d.source||iLt 10 d.how) 3
    (cond (!btw d.runs 0 7 || !btw d.short 0 d.runs||(!(d.boundary==0) && !(d.boundary==4) && !(d.boundary==6)) || !btw d.victim 0 2 || !btw d.fielder 0 11 || !btw d.second 0 11 || !btw d.sector 0 8) 2 0)
theorem Vr {N:Nat} {d0 d1 d2 d3 d4 d6 d7 d8 d9 d11:Int} {d5 d10:Bool}  : EB N [.int d0,.int d1,.int d2,.int d3,.int d4,.bool d5,.int d6,.int d7,.int d8,.int d9,.bool d10,.int d11]=some [.int (Zk (⟨d0,d1,d2,d3,d4,d5,d6,d7,d8,d9,d10,d11⟩:Del))]:=by
 show GZ (std (IJ N) N) (xOf _)=_
 generalize hres:(some [.int (Zk (⟨d0,d1,d2,d3,d4,d5,d6,d7,d8,d9,d10,d11⟩:Del))]:Option (List PV))=RR
 simp only [GZ,JG,std,xOf,PXb,PXc,PXn,PXm,Nat.reduceAdd,Int.reduceBEq,Tv]
 subst hres;simp only [Zk]
def loS (k:Int):Int:=cond (k==7) 0 (cond (k==13) 1 0)
def hiS (k:Int):Int:=cond (k==7) 11 (cond (k==13) 99 100000)
theorem YW {N:Nat} {k:Int}  : GG N [.int k]=some [.int (loS k),.int (hiS k)]:=by
 show Ie (std (PJ N) N) (xOf _)=_
 simp only [Ie,std,xOf,PXb,PXc,PXn,PXm,Nat.reduceAdd,Int.reduceBEq]
 unfold loS hiS
 cases k==7<;>cases k==13<;>rfl
def uS (k:Int):Bool:=k==1||k==12||k==14||k==11||k==13
def uP (k:Int):Bool:=k==2||k==3||k==8||k==5||k==6||k==9
def uO (k:Int):Bool:=k==2
def uY (k:Int):Bool:=k==1||k==12||k==14||k==5||k==6||k==9
def uR (k:Int):Bool:=k==7||k==13||k==15
def uV (k:Int):Bool:=k==15
def uB (k:Int):Bool:=k==4
theorem YB {k:Int} (h:(iLt k 1||iLt 16 k)=false):k=1∨k=2∨k=3∨k=4∨k=5∨k=6∨k=7∨k=8∨k=9∨k=10∨k=11∨k=12∨k=13∨k=14∨k=15∨k=16:=by
 simp only [iLt,Bool.or_eq_false_iff,decide_eq_false_iff_not] at h
 omega
def eX:Rows:=match El 0 [] with
 | some [.rows l]=>l
 | _=>[]
theorem ZM {N:Nat}:El N []=some [.rows eX]:=rfl
def Cs (k f:Int):Bool:=iLe 0 (Lib.indexByte (pvS (AH eX (IntKind.u8.wrap (k - 1)).toNat 1)).data.toList f.toNat.toUInt8)||(k==5&&f==121)
theorem TC {N:Nat} {s:ByteArray} {f:Int}  : C1 N [.str s,.int f]=some [.int (Lib.indexByte s.data.toList f.toNat.toUInt8)]:=by
 show EW (std (F0 N) N) (xOf _)=_
 simp only [EW,GN,std,xOf,PXb,PXc,PXn,PXm,Nat.reduceAdd,Int.reduceBEq,B6,Xl]
theorem Ta {N:Nat} {k:Int} {f:Int} (h:(iLt k 1||iLt 16 k)=false):H8 N [.int k,.int f]=some [.bool (Cs k f)]:=by
 show K1 (std (Ik N) N) (xOf _)=_
 have hi:iIn (IntKind.u8.wrap (k - 1)) (eX.length:Int)=true:=by
  rcases YB h with h | h | h | h | h | h | h | h | h | h | h | h | h | h | h | h<;>subst h<;>rfl
 simp only [K1,K5,O7,std,xOf,PXb,PXc,PXn,PXm,Nat.reduceAdd,Int.reduceBEq,ZM,TC,hi,Cs]
theorem jv {k:Int} (h:(iLt k 1||iLt 16 k)=false):Cs k 115=uS k∧Cs k 112=uP k∧Cs k 111=uO k∧Cs k 121=uY k∧Cs k 114=uR k∧Cs k 118=uV k∧Cs k 98=uB k:=by
 rcases YB h with h | h | h | h | h | h | h | h | h | h | h | h | h | h | h | h<;>subst h<;>exact ⟨rfl,rfl,rfl,rfl,rfl,rfl,rfl⟩
def eR (d:Del):Bool:=d.type==0&&(d.source==0&&(d.runs==0&&(d.short==0&&(d.boundary==0&&(d.crossed==false&&(d.how==0&&(d.victim==0&&(d.fielder==0&&(d.second==0&&(d.sub==false&&d.sector==0))))))))))
def bO (e:Ev):Bool:=(!(e.side==0) && !uS e.kind)||((!(e.player==0) && !uP e.kind)||((!(e.other==0) && !uO e.kind)||((e.yes && !uY e.kind)||((!(e.runs==0) && !uR e.kind)||((!(e.overs==0) && !uV e.kind)||(!eR e.ball && !uB e.kind))))))
def WE (e:Ev):Bool:=(!btw e.side 1 2&&uS e.kind)||((!btw e.player 1 11&&uP e.kind)||((!btw e.other 1 11&&uO e.kind)||((!btw e.runs (loS e.kind) (hiS e.kind)&&uR e.kind)||(!btw e.overs 0 90&&uV e.kind))))
def evS (e:Ev):Int:=cond (iLt e.kind 1||iLt 16 e.kind) 3 (cond (bO e) 1 (cond (WE e) 2 (cond (e.kind==4) (Zk e.ball) 0)))
def evT (e:Ev):Rows:=[[.int 115,.bool (e.side==0),.bool (btw e.side 1 2)],[.int 112,.bool (e.player==0),.bool (btw e.player 1 11)],[.int 111,.bool (e.other==0),.bool (btw e.other 1 11)],[.int 121,.bool (!e.yes),.bool true],[.int 114,.bool (e.runs==0),.bool (btw e.runs (loS e.kind) (hiS e.kind))],[.int 118,.bool (e.overs==0),.bool (btw e.overs 0 90)],[.int 98,.bool (eR e.ball),.bool true]]
theorem Sw {N:Nat} {e0 e1 e2 e3 e5 e6 e7 e8 e9 e10 e11 e13 e14 e15 e16 e18:Int} {e4 e12 e17:Bool} (hN:2097152<N):Cp N [.int e0,.int e1,.int e2,.int e3,.bool e4,.int e5,.int e6,.int e7,.int e8,.int e9,.int e10,.int e11,.bool e12,.int e13,.int e14,.int e15,.int e16,.bool e17,.int e18]=some [.int (evS (⟨e0,e1,e2,e3,e4,e5,e6,⟨e7,e8,e9,e10,e11,e12,e13,e14,e15,e16,e17,e18⟩⟩:Ev))]:=by
 show G7 (std (DS N) N) (xOf _)=_
 generalize hres:(some [.int (evS (⟨e0,e1,e2,e3,e4,e5,e6,⟨e7,e8,e9,e10,e11,e12,e13,e14,e15,e16,e17,e18⟩⟩:Ev))]:Option (List PV))=RR
 cases hk:iLt e0 1||iLt 16 e0 with
 | true =>
  simp only [G7,G8,GQ,Hq,C2,std,xOf,PXb,PXc,AG,hk,← hres,evS]
 | false =>
  simp only [G7,G8,GQ,Hq,C2,std,xOf,PXb,PXc,AG,hk,YW,XY]
  subst hres
  obtain ⟨g1,g2,g3,g4,g5,g6,g7⟩:=jv hk
  refine Ae (IC (len:=7) (fun i => !pvB (AH (evT (⟨e0,e1,e2,e3,e4,e5,e6,⟨e7,e8,e9,e10,e11,e12,e13,e14,e15,e16,e17,e18⟩⟩:Ev)) i 1) && !Cs e0 (pvI (AH (evT (⟨e0,e1,e2,e3,e4,e5,e6,⟨e7,e8,e9,e10,e11,e12,e13,e14,e15,e16,e17,e18⟩⟩:Ev)) i 0))) [.int 1] ?_ ?_ N (by omega)) ?_
  ·intro self
   rfl
  ·intro i self hi
   simp only [PXb,PXc,AG,Ax (show i≤1099511627776 by omega),List.length_cons,List.length_nil,Nat.reduceAdd,BG hi,Al hi,Ta hk]
   change cond (!pvB (AH (evT (⟨e0,e1,e2,e3,e4,e5,e6,⟨e7,e8,e9,e10,e11,e12,e13,e14,e15,e16,e17,e18⟩⟩:Ev)) i 1) && !(!pvB (AH (evT (⟨e0,e1,e2,e3,e4,e5,e6,⟨e7,e8,e9,e10,e11,e12,e13,e14,e15,e16,e17,e18⟩⟩:Ev)) i 1)&&Cs e0 (pvI (AH (evT (⟨e0,e1,e2,e3,e4,e5,e6,⟨e7,e8,e9,e10,e11,e12,e13,e14,e15,e16,e17,e18⟩⟩:Ev)) i 0)))) _ _=_
   cases pvB (AH (evT (⟨e0,e1,e2,e3,e4,e5,e6,⟨e7,e8,e9,e10,e11,e12,e13,e14,e15,e16,e17,e18⟩⟩:Ev)) i 1)<;>rfl
  ·have a1:BI (fun i => !pvB (AH (evT (⟨e0,e1,e2,e3,e4,e5,e6,⟨e7,e8,e9,e10,e11,e12,e13,e14,e15,e16,e17,e18⟩⟩:Ev)) i 1) && !Cs e0 (pvI (AH (evT (⟨e0,e1,e2,e3,e4,e5,e6,⟨e7,e8,e9,e10,e11,e12,e13,e14,e15,e16,e17,e18⟩⟩:Ev)) i 0))) 7 0=bO (⟨e0,e1,e2,e3,e4,e5,e6,⟨e7,e8,e9,e10,e11,e12,e13,e14,e15,e16,e17,e18⟩⟩:Ev):=by
    simp only [Bn,IL]
    change (!(e1==0) && !Cs e0 115||(!(e2==0) && !Cs e0 112||(!(e3==0) && !Cs e0 111||(!(!e4) && !Cs e0 121||(!(e5==0) && !Cs e0 114||(!(e6==0) && !Cs e0 118||(!(eR (⟨e0,e1,e2,e3,e4,e5,e6,⟨e7,e8,e9,e10,e11,e12,e13,e14,e15,e16,e17,e18⟩⟩:Ev).ball) && !Cs e0 98||false)))))))=_
    rw [g1,g2,g3,g4,g5,g6,g7,Bool.not_not,Bool.or_false]
    rfl
   rw [a1]
   simp only [evS,hk,cond_false]
   cases bO (⟨e0,e1,e2,e3,e4,e5,e6,⟨e7,e8,e9,e10,e11,e12,e13,e14,e15,e16,e17,e18⟩⟩:Ev) with
   | true=>rfl
   | false =>
    simp only [PXb,PXc,AG]
    refine Ae (IC (len:=7) (fun i => !pvB (AH (evT (⟨e0,e1,e2,e3,e4,e5,e6,⟨e7,e8,e9,e10,e11,e12,e13,e14,e15,e16,e17,e18⟩⟩:Ev)) i 2)&&Cs e0 (pvI (AH (evT (⟨e0,e1,e2,e3,e4,e5,e6,⟨e7,e8,e9,e10,e11,e12,e13,e14,e15,e16,e17,e18⟩⟩:Ev)) i 0))) [.int 2] ?_ ?_ N (by omega)) ?_
    ·intro self
     rfl
    ·intro i self hi
     simp only [PXb,PXc,AG,Ax (show i≤1099511627776 by omega),List.length_cons,List.length_nil,Nat.reduceAdd,BG hi,Al hi,Ta hk]
     rfl
    ·have a2:BI (fun i => !pvB (AH (evT (⟨e0,e1,e2,e3,e4,e5,e6,⟨e7,e8,e9,e10,e11,e12,e13,e14,e15,e16,e17,e18⟩⟩:Ev)) i 2)&&Cs e0 (pvI (AH (evT (⟨e0,e1,e2,e3,e4,e5,e6,⟨e7,e8,e9,e10,e11,e12,e13,e14,e15,e16,e17,e18⟩⟩:Ev)) i 0))) 7 0=WE (⟨e0,e1,e2,e3,e4,e5,e6,⟨e7,e8,e9,e10,e11,e12,e13,e14,e15,e16,e17,e18⟩⟩:Ev):=by
      simp only [Bn,IL]
      change (!(btw e1 1 2)&&Cs e0 115||(!(btw e2 1 11)&&Cs e0 112||(!(btw e3 1 11)&&Cs e0 111||(!true&&Cs e0 121||(!(btw e5 (loS e0) (hiS e0))&&Cs e0 114||(!(btw e6 0 90)&&Cs e0 118||(!true&&Cs e0 98||false)))))))=_
      rw [g1,g2,g3,g4,g5,g6,g7]
      simp only [Bool.not_true,Bool.false_and,Bool.false_or,Bool.or_false]
      rfl
     rw [a2]
     cases WE (⟨e0,e1,e2,e3,e4,e5,e6,⟨e7,e8,e9,e10,e11,e12,e13,e14,e15,e16,e17,e18⟩⟩:Ev) with
     | true=>rfl
     | false =>
      simp only [PXb,PXc,PXn,PXm,Nat.reduceAdd,Int.reduceBEq,C2,Vr]
theorem c4 {c x x' y y':Bool} {a b d z z':Int} (h1:x=x') (h2:y=y') (h3:z=z'):(some [PV.int (cond c a (cond x b (cond y d z)))]:Option (List PV))=some [PV.int (cond c a (cond x' b (cond y' d z')))]:=by subst h1;subst h2;subst h3;rfl
end Go.Px
end
