/- Part 9. -/
import Derived.Test.YteolngdncakekaaGreatPart07
import Derived.Test.YteolngdncakekaaGreatPart08
set_option linter.unusedVariables false
set_option linter.unusedSimpArgs false
section
namespace Go.Px
set_option maxRecDepth 100000
theorem FQ {N:Nat} {s0 s1 s2 s3 s4 s5 s6 s7 s8 s9 s10 s11 s12 s13 s15 s21 s22 s23 s25 s26 s27:Int} {s18 s20:Bool} {s14 s16 s17 s19 s24:Rows} (h:Fit s14 s16 s17 s19 s24):Aj N [.int s0,.int s1,.int s2,.int s3,.int s4,.int s5,.int s6,.int s7,.int s8,.int s9,.int s10,.int s11,.int s12,.int s13,.rows s14,.int s15,.rows s16,.rows s17,.bool s18,.rows s19,.bool s20,.int s21,.int s22,.int s23,.rows s24,.int s25,.int s26,.int s27]=some [.int s0,.int s1,.int s2,.int s3,.int s4,.int s5,.int s6,.int s7,.int s8,.int s9,.int s10,.int s11,.int s12,.int s13,.rows s14,.int s15,.rows s16,.rows s17,.bool s18,.rows s19,.bool s20,.int s21,.int s22,.int s23,.rows s24,.int s25,.int s26,.int s27]:=by
 show Ka (std (Fb N) N) (xOf _)=_
 simp only [Ka,JE,Ki,KE,std,xOf,PXb,PXc,PXn,PXm,Nat.reduceAdd,Int.reduceBEq,AM,AX,AS,BE h.bt (show 1≤4096 by omega),BE h.bw' (show 8≤4096 by omega),BE h.bf (show 8≤4096 by omega),BE h.bd (show 8≤4096 by omega),BE h.sb (show 1≤4096 by omega)]
theorem FY {N:Nat} {s0 s1 s2 s3 s4 s5 s6 s7 s8 s9 s10 s11 s12 s13 s15 s21 s22 s23 s25 s26 s27:Int} {s18 s20:Bool} {s14 s16 s17 s19 s24:Rows} {p:Int}  : Ai N [.int s0,.int s1,.int s2,.int s3,.int s4,.int s5,.int s6,.int s7,.int s8,.int s9,.int s10,.int s11,.int s12,.int s13,.rows s14,.int s15,.rows s16,.rows s17,.bool s18,.rows s19,.bool s20,.int s21,.int s22,.int s23,.rows s24,.int s25,.int s26,.int s27,.int p]=some [.bool (inR p s14.length)]:=by
 show H1 (std (N1 N) N) (xOf _)=_
 simp only [H1,std,xOf,PXb,PXc,PXn,PXm,Nat.reduceAdd,Int.reduceBEq]
 rfl
def D2 (s:Inn) (d:Del):Inn :=
  let odd := !(d.runs.tmod 2==0) != d.crossed
  let t:Inn:=cond odd { s with striker:=s.other,other:=s.striker } s
  let k:Bool:=d.how==0
  cond (!k&&(d.victim==1 && !(s.striker==0)))
    { t with striker:=cond odd t.striker 0,other:=cond odd 0 t.other,batters:=cond (inR s.striker s.batters.length) (Kx s.batters s.striker 2) s.batters,wickets:=IntKind.i64.wrap (s.wickets+1) }
    (cond (!k&&(d.victim==2 && !(s.other==0)))
      { t with striker:=cond odd 0 t.striker,other:=cond odd t.other 0,batters:=cond (inR s.other s.batters.length) (Kx s.batters s.other 2) s.batters,wickets:=IntKind.i64.wrap (s.wickets+1) }
      t)
theorem YU {N:Nat} {s0 s1 s2 s3 s4 s5 s6 s7 s8 s9 s10 s11 s12 s13 s15 s21 s22 s23 s25 s26 s27:Int} {s18 s20:Bool} {s14 s16 s17 s19 s24:Rows} {d0 d1 d2 d3 d4 d6 d7 d8 d9 d11:Int} {d5 d10:Bool} (h:Fit s14 s16 s17 s19 s24):HP N [.int s0,.int s1,.int s2,.int s3,.int s4,.int s5,.int s6,.int s7,.int s8,.int s9,.int s10,.int s11,.int s12,.int s13,.rows s14,.int s15,.rows s16,.rows s17,.bool s18,.rows s19,.bool s20,.int s21,.int s22,.int s23,.rows s24,.int s25,.int s26,.int s27,.int d0,.int d1,.int d2,.int d3,.int d4,.bool d5,.int d6,.int d7,.int d8,.int d9,.bool d10,.int d11]=some (D2 (⟨s0,s1,s2,s3,s4,s5,s6,s7,s8,s9,s10,s11,s12,s13,s14,s15,s16,s17,s18,s19,s20,s21,s22,s23,s24,s25,s26,s27⟩:Inn) (⟨d0,d1,d2,d3,d4,d5,d6,d7,d8,d9,d10,d11⟩:Del)).ls:=by
 show Jy (std (H3 N) N) (xOf _)=_
 simp only [Jy,OQ,NP,std,xOf,PXb,PXc,PXn,PXm,Nat.reduceAdd,Int.reduceBEq,FQ h,FY,gC h.bt]
 unfold D2
 cases d5<;>cases d2.tmod 2==0<;>cases d6==0<;>cases d7==1<;>cases d7==2<;>cases s12==0<;>cases s13==0<;>rfl
def Z0 (s:Inn):Inn:={ s with striker:=s.other,other:=s.striker }
theorem V5 {N:Nat} {s0 s1 s2 s3 s4 s5 s6 s7 s8 s9 s10 s11 s12 s13 s15 s21 s22 s23 s25 s26 s27:Int} {s18 s20:Bool} {s14 s16 s17 s19 s24:Rows} (h:Fit s14 s16 s17 s19 s24):EZ N [.int s0,.int s1,.int s2,.int s3,.int s4,.int s5,.int s6,.int s7,.int s8,.int s9,.int s10,.int s11,.int s12,.int s13,.rows s14,.int s15,.rows s16,.rows s17,.bool s18,.rows s19,.bool s20,.int s21,.int s22,.int s23,.rows s24,.int s25,.int s26,.int s27]=some (Z0 (⟨s0,s1,s2,s3,s4,s5,s6,s7,s8,s9,s10,s11,s12,s13,s14,s15,s16,s17,s18,s19,s20,s21,s22,s23,s24,s25,s26,s27⟩:Inn)).ls:=by
 show Gr (std (H9 N) N) (xOf _)=_
 simp only [Gr,MX,std,xOf,PXb,PXc,PXn,PXm,Nat.reduceAdd,Int.reduceBEq,FQ h]
 rfl
theorem Uv {N:Nat} {v:Int}  : B9 N [.int v]=some [.bool (!(v==0))]:=by
 show I7 (std (MI N) N) (xOf _)=_
 rfl
theorem TY {N:Nat} {v:Int}  : DH N [.int v]=some [.bool (!(v==0))]:=by
 show H4 (std (Kn N) N) (xOf _)=_
 rfl
theorem Po {N:Nat} {s0 s1 s2 s3 s4 s5 s6 s7 s8 s9 s10 s11 s12 s13 s15 s21 s22 s23 s25 s26 s27:Int} {s18 s20:Bool} {s14 s16 s17 s19 s24:Rows} (h:s14.length≤1048576) (hN:2097152<N):BW N [.int s0,.int s1,.int s2,.int s3,.int s4,.int s5,.int s6,.int s7,.int s8,.int s9,.int s10,.int s11,.int s12,.int s13,.rows s14,.int s15,.rows s16,.rows s17,.bool s18,.rows s19,.bool s20,.int s21,.int s22,.int s23,.rows s24,.int s25,.int s26,.int s27]=some [.bool (Du s14)]:=by
 show Df (std (Dz N) N) (xOf _)=_
 simp only [Df,E8,std,xOf,PXb,PXc,PXn,AG]
 rw [show Du s14=iLe 0 (Mf (fun i => !(atI s14 i 0==0)) s14.length) from (Hz _ _).symm]
 rw [Option.bind_assoc]
 refine AZ (CT (len:=s14.length) (E5 fun i => !(atI s14 i 0==0)) ?_ ?_ s14.length 0 N (by omega) (by omega)) ?_
 ·intro self
  simp only [PXb,PXc,PXn,AG,BT]
 ·intro i self hi
  simp only [PXb,PXc,PXn,AG,Av (show i≤1099511627776 by omega),A9 hi,Ak hi,E5,De,E8,Uv]
  cases atI s14 i 0==0<;>rfl
 ·unfold Mf
  cases Bj (E5 fun i => !(atI s14 i 0==0)) s14.length 0<;>rfl
theorem WI {N:Nat} {s0 s1 s2 s3 s4 s5 s6 s7 s8 s9 s10 s11 s12 s13 s15 s21 s22 s23 s25 s26 s27:Int} {s18 s20:Bool} {s14 s16 s17 s19 s24:Rows} (h:s14.length≤1048576) (hN:2097152<N):Ew N [.int s0,.int s1,.int s2,.int s3,.int s4,.int s5,.int s6,.int s7,.int s8,.int s9,.int s10,.int s11,.int s12,.int s13,.rows s14,.int s15,.rows s16,.rows s17,.bool s18,.rows s19,.bool s20,.int s21,.int s22,.int s23,.rows s24,.int s25,.int s26,.int s27]=some [.bool (Du s14)]:=by
 show G8 (std (H6 N) N) (xOf _)=_
 simp only [G8,EE,std,xOf,PXb,PXc,PXn,AG]
 rw [show Du s14=iLe 0 (Mf (fun i => !(atI s14 i 0==0)) s14.length) from (Hz _ _).symm]
 rw [Option.bind_assoc]
 refine AZ (CT (len:=s14.length) (E5 fun i => !(atI s14 i 0==0)) ?_ ?_ s14.length 0 N (by omega) (by omega)) ?_
 ·intro self
  simp only [PXb,PXc,PXn,AG,BT]
 ·intro i self hi
  simp only [PXb,PXc,PXn,AG,Av (show i≤1099511627776 by omega),A9 hi,Ak hi,E5,De,EE,TY]
  cases atI s14 i 0==0<;>rfl
 ·unfold Mf
  cases Bj (E5 fun i => !(atI s14 i 0==0)) s14.length 0<;>rfl
theorem Ou {N:Nat} {s0 s1 s2 s3 s4 s5 s6 s7 s8 s9 s10 s11 s12 s13 s15 s21 s22 s23 s25 s26 s27:Int} {s18 s20:Bool} {s14 s16 s17 s19 s24:Rows} (h:s14.length≤1048576) (hN:2097152<N):A0 N [.int s0,.int s1,.int s2,.int s3,.int s4,.int s5,.int s6,.int s7,.int s8,.int s9,.int s10,.int s11,.int s12,.int s13,.rows s14,.int s15,.rows s16,.rows s17,.bool s18,.rows s19,.bool s20,.int s21,.int s22,.int s23,.rows s24,.int s25,.int s26,.int s27]=some [.bool (Jm s14 s12 s13)]:=by
 show C9 (std (DK N) N) (xOf _)=_
 simp only [C9,LI,std,xOf,PXb,PXc,PXn,PXm,Nat.reduceAdd,Int.reduceBEq,Po h hN]
 rfl
theorem XX {N:Nat} {s0 s1 s2 s3 s4 s5 s6 s7 s8 s9 s10 s11 s12 s13 s15 s21 s22 s23 s25 s26 s27:Int} {s18 s20:Bool} {s14 s16 s17 s19 s24:Rows} (h:s14.length≤1048576) (hN:2097152<N):B7 N [.int s0,.int s1,.int s2,.int s3,.int s4,.int s5,.int s6,.int s7,.int s8,.int s9,.int s10,.int s11,.int s12,.int s13,.rows s14,.int s15,.rows s16,.rows s17,.bool s18,.rows s19,.bool s20,.int s21,.int s22,.int s23,.rows s24,.int s25,.int s26,.int s27]=some [.rows (EB s14 s14.length)]:=by
 show ES (std (KJ N) N) (xOf _)=_
 simp only [ES,std,xOf,PXb,PXc,PXn,AG]
 refine AZ (CO (len:=s14.length) (fun i=>[.rows (EB s14 i),.int (i:Int)]) [.rows (EB s14 s14.length)] ?_ ?_ N (by omega)) rfl
 ·intro self
  simp only [PXb,PXc,PXn,AG,BT]
 ·intro i self hi
  have h2:(EB s14 i++[[PV.int ((i:Int)+1)]]).length≤4194304:=by have:=UW s14 i;simp;omega
  simp only [PXb,PXc,PXn,AG,Av (show i≤1099511627776 by omega),A9 hi,Ak hi,De,EB,G7 h2 (show 8≤4096 by omega)]
  cases (atI s14 i 0==0||atI s14 i 0==3)<;>rfl
def S8 (s:Inn) (p q:Int):Inn×Int :=
  cond (Du s.batters) (s,1) (cond (!inR p s.batters.length || !inR q s.batters.length) (s,3) (cond (p==q) (s,4)
    ({ s with batters:=Kx (Kx s.batters p 1) q 1,striker:=p,other:=q },0)))
theorem Xf {N:Nat} {s0 s1 s2 s3 s4 s5 s6 s7 s8 s9 s10 s11 s12 s13 s15 s21 s22 s23 s25 s26 s27:Int} {s18 s20:Bool} {s14 s16 s17 s19 s24:Rows} {p:Int} {q:Int} (h:Fit s14 s16 s17 s19 s24) (hN:2097152<N):GH N [.int s0,.int s1,.int s2,.int s3,.int s4,.int s5,.int s6,.int s7,.int s8,.int s9,.int s10,.int s11,.int s12,.int s13,.rows s14,.int s15,.rows s16,.rows s17,.bool s18,.rows s19,.bool s20,.int s21,.int s22,.int s23,.rows s24,.int s25,.int s26,.int s27,.int p,.int q]=some (A2 (S8 (⟨s0,s1,s2,s3,s4,s5,s6,s7,s8,s9,s10,s11,s12,s13,s14,s15,s16,s17,s18,s19,s20,s21,s22,s23,s24,s25,s26,s27⟩:Inn) p q)):=by
 show Im (std (Ec N) N) (xOf _)=_
 generalize hres:(some (A2 (S8 (⟨s0,s1,s2,s3,s4,s5,s6,s7,s8,s9,s10,s11,s12,s13,s14,s15,s16,s17,s18,s19,s20,s21,s22,s23,s24,s25,s26,s27⟩:Inn) p q)):Option (List PV))=RR
 simp only [Im,OL,MT,MU,std,xOf,PXb,PXc,PXn,PXm,Nat.reduceAdd,Int.reduceBEq,FQ h,Po h.bt hN,FY]
 subst hres;simp only [S8]
 cases Du s14<;>try rfl
 cases hp:inR p s14.length<;>cases hq:inR q s14.length<;>try rfl
 rw [It hp h.bt,It hq h.bt]
 cases p==q<;>rfl
def Nn (s:Inn) (p:Int):Int :=
 cond (!inR p s.batters.length) 3 (cond (!Jm s.batters s.striker s.other||atI s.batters (ix p) 0==1) 4 (cond (atI s.batters (ix p) 0==2) 5 0))
theorem Sv {N:Nat} {s0 s1 s2 s3 s4 s5 s6 s7 s8 s9 s10 s11 s12 s13 s15 s21 s22 s23 s25 s26 s27:Int} {s18 s20:Bool} {s14 s16 s17 s19 s24:Rows} {p:Int} (h:s14.length≤1048576) (hN:2097152<N):Ct N [.int s0,.int s1,.int s2,.int s3,.int s4,.int s5,.int s6,.int s7,.int s8,.int s9,.int s10,.int s11,.int s12,.int s13,.rows s14,.int s15,.rows s16,.rows s17,.bool s18,.rows s19,.bool s20,.int s21,.int s22,.int s23,.rows s24,.int s25,.int s26,.int s27,.int p]=some [.int (Nn (⟨s0,s1,s2,s3,s4,s5,s6,s7,s8,s9,s10,s11,s12,s13,s14,s15,s16,s17,s18,s19,s20,s21,s22,s23,s24,s25,s26,s27⟩:Inn) p)]:=by
 show Jw (std (Hq N) N) (xOf _)=_
 generalize hres:(some [.int (Nn (⟨s0,s1,s2,s3,s4,s5,s6,s7,s8,s9,s10,s11,s12,s13,s14,s15,s16,s17,s18,s19,s20,s21,s22,s23,s24,s25,s26,s27⟩:Inn) p)]:Option (List PV))=RR
 simp only [Jw,MO,M8,std,xOf,PXb,PXc,PXn,PXm,Nat.reduceAdd,Int.reduceBEq,FY,Ou h hN]
 subst hres;simp only [Nn]
 cases hp:inR p s14.length<;>try rfl
 rw [It hp h]
 cases Jm s14 s12 s13<;>try rfl
 simp only [PXb,PXc,PXn,PXm,Nat.reduceAdd,Int.reduceBEq,atI,ix]
theorem XU {s:Inn} {p:Int} (h:(Nn s p==0)=true):inR p s.batters.length=true:=by
 unfold Nn at h
 cases hp:inR p s.batters.length with
 | true=>rfl
 | false=>rw [hp] at h;cases h
def QO (s:Inn) (p:Int):Inn×Int :=
 cond (Nn s p==0) ({ s with batters:=Kx s.batters p 1,striker:=cond (s.striker==0) p s.striker,other:=cond (s.striker==0) s.other p },0) (s,Nn s p)
def K0 (s:Inn) (p:Int):Inn×Int :=
 cond (Nn s p==0) ({ s with batters:=Kx s.batters p 2,wickets:=IntKind.i64.wrap (s.wickets+1) },0) (s,Nn s p)
theorem WY {N:Nat} {s0 s1 s2 s3 s4 s5 s6 s7 s8 s9 s10 s11 s12 s13 s15 s21 s22 s23 s25 s26 s27:Int} {s18 s20:Bool} {s14 s16 s17 s19 s24:Rows} {p:Int} (h:Fit s14 s16 s17 s19 s24) (hN:2097152<N):FR N [.int s0,.int s1,.int s2,.int s3,.int s4,.int s5,.int s6,.int s7,.int s8,.int s9,.int s10,.int s11,.int s12,.int s13,.rows s14,.int s15,.rows s16,.rows s17,.bool s18,.rows s19,.bool s20,.int s21,.int s22,.int s23,.rows s24,.int s25,.int s26,.int s27,.int p]=some (A2 (QO (⟨s0,s1,s2,s3,s4,s5,s6,s7,s8,s9,s10,s11,s12,s13,s14,s15,s16,s17,s18,s19,s20,s21,s22,s23,s24,s25,s26,s27⟩:Inn) p)):=by
 show Hi (std (GF N) N) (xOf _)=_
 generalize hres:(some (A2 (QO (⟨s0,s1,s2,s3,s4,s5,s6,s7,s8,s9,s10,s11,s12,s13,s14,s15,s16,s17,s18,s19,s20,s21,s22,s23,s24,s25,s26,s27⟩:Inn) p)):Option (List PV))=RR
 simp only [Hi,M9,ND,std,xOf,PXb,PXc,PXn,PXm,Nat.reduceAdd,Int.reduceBEq,FQ h,Sv h.bt hN]
 subst hres;simp only [QO]
 cases hm:Nn (⟨s0,s1,s2,s3,s4,s5,s6,s7,s8,s9,s10,s11,s12,s13,s14,s15,s16,s17,s18,s19,s20,s21,s22,s23,s24,s25,s26,s27⟩:Inn) p==0<;>try rfl
 rw [It (XU hm) h.bt]
 cases s12==0<;>rfl
theorem Uj {N:Nat} {s0 s1 s2 s3 s4 s5 s6 s7 s8 s9 s10 s11 s12 s13 s15 s21 s22 s23 s25 s26 s27:Int} {s18 s20:Bool} {s14 s16 s17 s19 s24:Rows} {p:Int} (h:Fit s14 s16 s17 s19 s24) (hN:2097152<N):Dt N [.int s0,.int s1,.int s2,.int s3,.int s4,.int s5,.int s6,.int s7,.int s8,.int s9,.int s10,.int s11,.int s12,.int s13,.rows s14,.int s15,.rows s16,.rows s17,.bool s18,.rows s19,.bool s20,.int s21,.int s22,.int s23,.rows s24,.int s25,.int s26,.int s27,.int p]=some (A2 (K0 (⟨s0,s1,s2,s3,s4,s5,s6,s7,s8,s9,s10,s11,s12,s13,s14,s15,s16,s17,s18,s19,s20,s21,s22,s23,s24,s25,s26,s27⟩:Inn) p)):=by
 show Fy (std (Cu N) N) (xOf _)=_
 generalize hres:(some (A2 (K0 (⟨s0,s1,s2,s3,s4,s5,s6,s7,s8,s9,s10,s11,s12,s13,s14,s15,s16,s17,s18,s19,s20,s21,s22,s23,s24,s25,s26,s27⟩:Inn) p)):Option (List PV))=RR
 simp only [Fy,Lt,Ke,MF,std,xOf,PXb,PXc,PXn,PXm,Nat.reduceAdd,Int.reduceBEq,FQ h,Sv h.bt hN,FY]
 subst hres;simp only [K0]
 cases hm:Nn (⟨s0,s1,s2,s3,s4,s5,s6,s7,s8,s9,s10,s11,s12,s13,s14,s15,s16,s17,s18,s19,s20,s21,s22,s23,s24,s25,s26,s27⟩:Inn) p==0<;>try rfl
 have hk:inR p s14.length=true:=XU hm
 rw [It hk h.bt,hk]
 rfl
def NU (s:Inn) (p:Int) (hurt:Bool):Inn×Int :=
  cond (!inR p s.batters.length) (s,3) (cond (s.striker==0||s.other==0) (s,6) (cond (!(p==s.striker) && !(p==s.other)) (s,4)
    (cond (hurt&&((EB s.batters s.batters.length).length:Int)==0) (s,19)
      ({ s with striker:=cond (p==s.striker) 0 s.striker,other:=cond (p==s.striker) s.other 0,batters:=Kx s.batters p (cond hurt 3 2),wickets:=cond hurt s.wickets (IntKind.i64.wrap (s.wickets+1)) },0))))
theorem VD {N:Nat} {s0 s1 s2 s3 s4 s5 s6 s7 s8 s9 s10 s11 s12 s13 s15 s21 s22 s23 s25 s26 s27:Int} {s18 s20:Bool} {s14 s16 s17 s19 s24:Rows} {p:Int} {b:Bool} (h:Fit s14 s16 s17 s19 s24) (hN:2097152<N):Er N [.int s0,.int s1,.int s2,.int s3,.int s4,.int s5,.int s6,.int s7,.int s8,.int s9,.int s10,.int s11,.int s12,.int s13,.rows s14,.int s15,.rows s16,.rows s17,.bool s18,.rows s19,.bool s20,.int s21,.int s22,.int s23,.rows s24,.int s25,.int s26,.int s27,.int p,.bool b]=some (A2 (NU (⟨s0,s1,s2,s3,s4,s5,s6,s7,s8,s9,s10,s11,s12,s13,s14,s15,s16,s17,s18,s19,s20,s21,s22,s23,s24,s25,s26,s27⟩:Inn) p b)):=by
 show G0 (std (DV N) N) (xOf _)=_
 generalize hres:(some (A2 (NU (⟨s0,s1,s2,s3,s4,s5,s6,s7,s8,s9,s10,s11,s12,s13,s14,s15,s16,s17,s18,s19,s20,s21,s22,s23,s24,s25,s26,s27⟩:Inn) p b)):Option (List PV))=RR
 simp only [G0,Lx,Mg,K7,std,xOf,PXb,PXc,PXn,PXm,Nat.reduceAdd,Int.reduceBEq,FQ h,FY,XX h.bt hN]
 subst hres;simp only [NU]
 cases hp:inR p s14.length<;>try rfl
 rw [It hp h.bt]
 cases s12==0<;>cases s13==0<;>try rfl
 cases p==s12<;>cases p==s13<;>cases b<;>try rfl
 all_goals (simp only [PXb,PXc,PXn,PXm,Nat.reduceAdd,Int.reduceBEq];cases ((EB s14 s14.length).length:Int)==0<;>rfl)
end Go.Px
end
section
namespace Go.Px
set_option maxRecDepth 100000
def btw (a b c:Int):Bool:=iLe b a&&iLe a c
theorem C0 (N:Nat) (a b c:Int):Aa N [.int a,.int b,.int c]=some [.bool (btw a b c)]:=by
 show some [PV.bool (cond (iLe b a) (iLe a c) false)]=_
 rw [Ve];rfl
theorem JB (N:Nat) (a b c:Int):Bu N [.int a,.int b,.int c]=some [.bool (btw a b c)]:=by
 show some [PV.bool (cond (iLe b a) (iLe a c) false)]=_
 rw [Ve];rfl
def LB (x1 x2 x3 x4 x5 x6 x7 x9 x10 x11 x12:Int):Bool:=btw x1 2 11&&btw x2 1 2&&btw x3 0 90&&btw x4 4 8&&btw x5 0 90&&btw x6 1 5&&btw x7 1 5&&btw x9 0 200&&btw x10 0 1000&&btw x11 0 9&&btw x12 0 11
theorem Uq (N : Nat) (x0 : ByteArray) (x1 x2 x3 x4 x5 x6 x7 x9 x10 x11 x12 : Int) (x8 : Bool) (x13 : Rows) :
   Eb N [.str x0,.int x1,.int x2,.int x3,.int x4,.int x5,.int x6,.int x7,.bool x8,.int x9,.int x10,.int x11,.int x12,.rows x13]=some [.bool (LB x1 x2 x3 x4 x5 x6 x7 x9 x10 x11 x12)]:=by
  show G6 (std (IA N) N) (xOf _)=_
  have e:∀ ls,IA N 87 [] ls=Bu N ls:=fun ls=>rfl
  simp only [G6,std,xOf,e,JB,PXb,PXc,PXn,AG,LB]
def TK (s:ByteArray) (i:Nat):Bool := !(iLe 65 (Li s i)&&iLe (Li s i) 90)&&((i:Int)==0||((!(Li s i==95) && !(Li s i==45))&&(iLt (Li s i) 48||iLt 57 (Li s i))))
def S0 (s:ByteArray):Bool := !BL (TK s) s.size 0&&(iLe 1 s.size&&iLe s.size 16)
theorem gO (s:ByteArray):(Ei s).length=s.size:=by
 simp only [Ei,List.length_map,Array.length_toList];rfl
theorem gj (s:ByteArray) (i:Nat) (h:i<s.size):pvI (AA (Ei s) i 0)=Li s i:=by
 unfold AA Am AB Ei Li
 simp only [List.getD_eq_getElem?_getD,List.getElem?_map]
 have:i<s.data.toList.length:=by simpa using h
 rw [List.getElem?_eq_getElem this]
 simp [List.getElem?_eq_getElem this]
theorem ZF (N:Nat) (s:ByteArray) (hN:s.size<N) (hs:s.size≤1048576):IL N [.str s]=some [.bool (S0 s)]:=by
 show LZ (std (RI N) N) (xOf _)=_
 simp only [LZ,std,xOf,gO,PXb,PXc,PXn,AG]
 refine AZ (I9 (len:=s.size) (TK s) [.bool false] ?_ ?_ N hN) ?_
 ·intro self
  simp only [PXb,PXc,PXn,AG,BT]
 ·intro i self hi
  simp only [PXb,PXc,PXn,AG,Int.toNat_natCast,gj s i hi,Av (show i≤1099511627776 by omega),A9 hi,Ak hi,TK]
 ·unfold S0
  cases BL (TK s) s.size 0<;>rfl
end Go.Px
end
section
namespace Go.Px
set_option maxRecDepth 100000
theorem ew {i len:Nat} (h:i<len) (hl:len≤1099511627776):(!iLt 0 (i:Int)||iIn (IntKind.i64.wrap ((i:Int) - 1)) (len:Int))=true:=by
 rw [HI (by omega) (by omega)]
 simp only [iLt,iIn,Bool.or_eq_true,Bool.not_eq_true',decide_eq_false_iff_not,decide_eq_true_eq]
 omega
def eB (L:Rows) (ov:Int) (i:Nat):Bool:=(iLt (atI L i 0) 1||iLt (atI L i 1) (atI L i 0)||iLt ov (atI L i 1)) || !btw (atI L i 2) 0 11
def cg (L:Rows) (i:Nat):Bool:=iLt 0 (i:Int)&&iLe (atI L i 0) (pvI (AA L (IntKind.i64.wrap ((i:Int) - 1)).toNat 1))
def aq (L:Rows) (ov:Int) (i:Nat):Option (List PV):=cond (eB L ov i) (some [.int 2]) (cond (cg L i) (some [.int 8]) none)
def bL:Option (List PV)→Int
 | none=>0
 | some r=>pvI (AB r 0)
def YT (L:Rows) (ov:Int):Int:=cond (iLt 8 (L.length:Int)) 9 (bL (Bj (aq L ov) L.length 0))
theorem VB (o:Option (List PV)):cond (pvI (AB (TH o) 0)==((0:Nat):Int)) (some [PV.int (pvI (AB (TH o) 1))]) (some [PV.int 0])=some [PV.int (bL o)]:=by
 cases o<;>rfl
theorem Vo (N : Nat) (x0 : ByteArray) (x1 x2 x3 x4 x5 x6 x7 x9 x10 x11 x12 : Int) (x8 : Bool) (L : Rows) (hN : 2097152 < N) :
   FU N [.str x0,.int x1,.int x2,.int x3,.int x4,.int x5,.int x6,.int x7,.bool x8,.int x9,.int x10,.int x11,.int x12,.rows L]=some [.int (YT L x3)]:=by
  show Hh (std (JG N) N) (xOf _)=_
  have e:∀ ls,JG N 87 [] ls=Bu N ls:=fun ls=>rfl
  simp only [Hh,std,xOf,e,JB,PXb,PXc,PXn,AG,YT]
  cases h8:iLt 8 (L.length:Int) with
  | true=>rfl
  | false =>
    have hl:L.length≤8:=by simp [iLt] at h8;omega
    simp only [cond_false]
    refine AZ (CT (len:=L.length) (aq L x3) ?_ ?_ L.length 0 N (by omega) (by omega)) ?_
    · intro self
      simp only [PXb,PXc,PXn,AG,BT]
    · intro i self hi
      simp only [PXb,PXc,PXn,AG,Int.toNat_natCast,Av (show i≤1099511627776 by omega),A9 hi,Ak hi,JB,e,ew hi (by omega)]
      simp only [aq,eB,cg,atI]
      cases (iLt (pvI (AA L i 0)) 1||iLt (pvI (AA L i 1)) (pvI (AA L i 0))||iLt x3 (pvI (AA L i 1)) || !btw (pvI (AA L i 2)) 0 11) <;>
      cases (iLt 0 (i:Int)&&iLe (pvI (AA L i 0)) (pvI (AA L (IntKind.i64.wrap ((i:Int) - 1)).toNat 1)))<;>rfl
    · exact VB _
def Ja (x0:ByteArray) (x1 x2 x3 x4 x5 x6 x7 x9 x10 x11 x12:Int) (L:Rows):Int :=
  cond (!S0 x0) 5 (cond (!LB x1 x2 x3 x4 x5 x6 x7 x9 x10 x11 x12) 2
    (cond ((!(x10==0)&&x2==1)||((!(x5==0)||iLt 0 (L.length:Int))&&x3==0)) 1
      (cond (!(x5==0)&&iLt (IntKind.i64.wrap (x5 * x1)) x3) 13 (YT L x3))))
theorem P4 (N : Nat) (x0 : ByteArray) (x1 x2 x3 x4 x5 x6 x7 x9 x10 x11 x12 : Int) (x8 : Bool) (L : Rows) (hN : 2097152 < N) (hs : x0.size ≤ 1048576) :
   AN N [.str x0,.int x1,.int x2,.int x3,.int x4,.int x5,.int x6,.int x7,.bool x8,.int x9,.int x10,.int x11,.int x12,.rows L]=some [.int (Ja x0 x1 x2 x3 x4 x5 x6 x7 x9 x10 x11 x12 L)]:=by
  show Il (std (Eh N) N) (xOf _)=_
  have e:∀ ls,Eh N 57 [] ls=IL N ls:=fun ls=>rfl
  have e2:∀ ls,Eh N 58 [] ls=Eb N ls:=fun ls=>rfl
  have e3:∀ ls,Eh N 59 [] ls=FU N ls:=fun ls=>rfl
  simp only [Il,std,xOf,e,e2,e3,ZF N x0 (by omega) hs,Uq,Vo N _ _ _ _ _ _ _ _ _ _ _ _ _ _ hN,PXb,PXc,AG,Ja]
  cases S0 x0<;>cases LB x1 x2 x3 x4 x5 x6 x7 x9 x10 x11 x12<;>try rfl
  simp only [PXb,PXc,AG,Bool.not_true]
  cases (!(x10==0)&&x2==1)<;>cases ((!(x5==0)||iLt 0 (L.length:Int))&&x3==0)<;>try rfl
  cases (!(x5==0)&&iLt (IntKind.i64.wrap (x5 * x1)) x3)<;>rfl
end Go.Px
end
section
namespace Go.Px
set_option maxRecDepth 100000
theorem Rp (N:Nat) (L:Rows) (v:Int) (hN:L.length<N) (hl:L.length≤2097152):Cx N [.rows L,.int v]=some [.int (Mf (fun j=>v==atI L j 0) L.length)]:=by
 show Eg (std (KP N) N) (xOf _)=_
 simp only [Eg,std,xOf,PXb,PXc,PXn,AG]
 refine AZ (CT (len:=L.length) (E5 fun j=>v==atI L j 0) ?_ ?_ L.length 0 N (by omega) (by omega)) ?_
 ·intro self
  simp only [PXb,PXc,PXn,AG,BT]
 ·intro i self hi
  simp only [PXb,PXc,PXn,AG,Av (show i≤1099511627776 by omega),A9 hi,Ak hi,E5,De]
  cases v==atI L i 0<;>rfl
 ·unfold Mf
  cases Bj (E5 fun j=>v==atI L j 0) L.length 0<;>rfl
def H5 (L:Rows) (k:Nat) (v:Int):Bool:=BL (fun j=>v==atI L j 0) k 0
theorem Ia (N:Nat) (L:Rows) (v:Int) (hN:L.length<N) (hl:L.length≤2097152):Ae N [.rows L,.int v]=some [.bool (H5 L L.length v)]:=by
 show C3 (std (EJ N) N) (xOf _)=_
 have e:∀ ls,EJ N 118 [] ls=Cx N ls:=fun ls=>rfl
 simp only [C3,std,xOf,PXb,PXc,PXn,AG,e,Rp N L v hN hl,Hz,H5]
theorem dM (L:Rows) (i:Nat) (v:Int) (h:i≤L.length):H5 (L.take i) (L.take i).length v=H5 L i v:=by
 rw [List.length_take,Nat.min_eq_left h]
 exact VT i 0 (fun j _ hj=>by rw [dT (by omega)])
def NX (L:Rows) (n:Int) (i:Nat):Bool := !btw (atI L i 0) 1 n||H5 L i (atI L i 0)
def Ic (L:Rows) (n:Int):Bool := !BL (NX L n) L.length 0
theorem KU (N:Nat) (L:Rows) (n:Int) (hN:L.length<N) (hl:L.length≤2097152):Cc N [.rows L,.int n]=some [.bool (Ic L n)]:=by
 show D7 (std (C5 N) N) (xOf _)=_
 have e:∀ ls,C5 N 60 [] ls=Aa N ls:=fun ls=>rfl
 have e2:∀ ls,C5 N 88 [] ls=Ae N ls:=fun ls=>rfl
 simp only [D7,std,xOf,PXb,PXc,PXn,AG]
 refine AZ (I9 (len:=L.length) (NX L n) [.bool false] ?_ ?_ N hN) ?_
 ·intro self
  simp only [PXb,PXc,PXn,AG,BT]
 ·intro i self hi
  have h1:(L.take i).length≤L.length:=List.length_take_le' i L
  simp only [PXb,PXc,PXn,AG,Av (show i≤1099511627776 by omega),A9 hi,Ak hi,e,e2,C0,go (Nat.le_of_lt hi),Int.toNat_zero,List.drop_zero,Ia N (L.take i) _ (by omega) (by omega),dM L i _ (by omega),De,NX]
  cases btw (atI L i 0) 1 n<;>cases H5 L i (atI L i 0)<;>rfl
 ·unfold Ic
  cases BL (NX L n) L.length 0<;>rfl
theorem TZ (N:Nat) (v:Int):B9 N [.int v]=some [.bool (!(v==0))]:=rfl
def lsI (L14 L16 L17 L19 L24:Rows) (b18 b20:Bool) (x0 x1 x2 x3 x4 x5 x6 x7 x8 x9 x10 x11 x12 x13 x15 x21 x22 x23 x25 x26 x27:Int):List PV :=
 [.int x0,.int x1,.int x2,.int x3,.int x4,.int x5,.int x6,.int x7,.int x8,.int x9,.int x10,.int x11,.int x12,.int x13,.rows L14,.int x15,.rows L16,.rows L17,.bool b18,.rows L19,.bool b20,.int x21,.int x22,.int x23,.rows L24,.int x25,.int x26,.int x27]
section
variable (N:Nat) (L14 L16 L17 L19 L24:Rows) (b18 b20:Bool) (x0 x1 x2 x3 x4 x5 x6 x7 x8 x9 x10 x11 x12 x13 x15 x21 x22 x23 x25 x26 x27:Int)
theorem Vm (hN:L14.length<N) (hl:L14.length≤2097152):BW N (lsI L14 L16 L17 L19 L24 b18 b20 x0 x1 x2 x3 x4 x5 x6 x7 x8 x9 x10 x11 x12 x13 x15 x21 x22 x23 x25 x26 x27)=some [.bool (Du L14)]:=by
 show Df (std (Dz N) N) (xOf (lsI ..))=_
 have e:∀ ls,Dz N 191 [] ls=B9 N ls:=fun ls=>rfl
 simp only [Df,std,xOf,lsI,PXb,PXc,PXn,AG]
 rw [show Du L14=iLe 0 (Mf (fun i => !(atI L14 i 0==0)) L14.length) from (Hz _ _).symm]
 rw [Option.bind_assoc]
 refine AZ (CT (len:=L14.length) (E5 fun i => !(atI L14 i 0==0)) ?_ ?_ L14.length 0 N (by omega) (by omega)) ?_
 ·intro self
  simp only [PXb,PXc,PXn,AG,BT]
 ·intro i self hi
  simp only [PXb,PXc,PXn,AG,Av (show i≤1099511627776 by omega),A9 hi,Ak hi,E5,De,e,TZ]
  cases atI L14 i 0==0<;>rfl
 ·unfold Mf
  cases Bj (E5 fun i => !(atI L14 i 0==0)) L14.length 0<;>rfl
theorem Ud (hN:L14.length<N) (hl:L14.length≤2097152):A0 N (lsI L14 L16 L17 L19 L24 b18 b20 x0 x1 x2 x3 x4 x5 x6 x7 x8 x9 x10 x11 x12 x13 x15 x21 x22 x23 x25 x26 x27)=some [.bool (Jm L14 x12 x13)]:=by
 show C9 (std (DK N) N) (xOf (lsI ..))=_
 have e:∀ ls,DK N 161 [] ls=BW N ls:=fun ls=>rfl
 have:=Vm N L14 L16 L17 L19 L24 b18 b20 x0 x1 x2 x3 x4 x5 x6 x7 x8 x9 x10 x11 x12 x13 x15 x21 x22 x23 x25 x26 x27 hN hl
 simp only [lsI] at this
 simp only [C9,std,xOf,lsI,PXb,PXc,PXn,AG,e,this,Jm]
theorem WV (hN:L14.length<N) (hl:L14.length≤2097152):B7 N (lsI L14 L16 L17 L19 L24 b18 b20 x0 x1 x2 x3 x4 x5 x6 x7 x8 x9 x10 x11 x12 x13 x15 x21 x22 x23 x25 x26 x27)=some [.rows (EB L14 L14.length)]:=by
 show ES (std (KJ N) N) (xOf (lsI ..))=_
 simp only [ES,std,xOf,lsI,PXb,PXc,PXn,AG]
 refine AZ (CO (len:=L14.length) (fun i=>[.rows (EB L14 i),.int (i:Int)]) [.rows (EB L14 L14.length)] ?_ ?_ N hN) rfl
 ·intro self
  simp only [PXb,PXc,PXn,AG,BT]
 ·intro i self hi
  have h2:(EB L14 i++[[PV.int ((i:Int)+1)]]).length≤4194304:=by have:=UW L14 i;simp;omega
  simp only [PXb,PXc,PXn,AG,Av (show i≤1099511627776 by omega),A9 hi,Ak hi,De,EB,G7 h2 (show 8≤4096 by omega)]
  cases (atI L14 i 0==0||atI L14 i 0==3)<;>rfl
end
theorem Q8 (N:Nat) (v:Int):Ce N [.int v]=some [.bool (!btw v 0 1000000000)]:=by
 show D4 (std (FV N) N) (xOf _)=_
 have e:∀ ls,FV N 60 [] ls=Aa N ls:=fun ls=>rfl
 simp only [D4,std,xOf,PXb,PXc,PXn,AG,e,C0]
end Go.Px
end
section
namespace Go.Px
set_option maxRecDepth 100000
def pIs (L:Rows) (v:Int) (i:Nat):Bool:=atI L i 0==v
def Rv (s n:Int) (i:Nat):Bool:=s==(i:Int)+1||n==(i:Int)+1
def NQ (L:Rows) (s n:Int) (i:Nat):Bool:=iLt 3 (atI L i 0)||(pIs L 1 i && !Rv s n i)
def WJ (L:Rows) (s n:Int) (i:Nat):Bool:=iLt 3 (atI L i 0) || !(pIs L 1 i==Rv s n i)
def WX (L:Rows):Int:=B4 (pIs L 2) L.length
def ins (L:Rows):Int:=B4 (pIs L 1) L.length
def two (s n:Int):Int:=cond (!(n==0)) (IntKind.i64.wrap (cond (!(s==0)) (IntKind.i64.wrap (0+1)) 0+1)) (cond (!(s==0)) (IntKind.i64.wrap (0+1)) 0)
def Xw (L:Rows) (s n wk k:Int):Bool :=
 !BL (NQ L s n) L.length 0&&((btw s 0 k&&btw n 0 k)&&(!(s==n && !(s==0))&&((two s n==ins L&&(!Du L||iLt 0 (two s n)))&&WX L==wk)))
def VU (L:Rows) (s n wk:Int):Bool :=
 !BL (WJ L s n) L.length 0&&(!((Du L&&iLt (ins L) 1)||(!(s==0)&&s==n))&&wk==WX L)
def ah (L:Rows):Nat→Bool
 | 0=>false
 | i+1=>ah L i || !(atI L i 0==0)
theorem Z6 (L:Rows):∀ i,ah L i=BL (fun j => !(atI L j 0==0)) i 0
 | 0=>rfl
 | i+1=>by rw [SE,Nat.zero_add,← Z6 L i];rfl
section
variable (N:Nat) (L14 L16 L17 L19 L24:Rows) (b18 b20:Bool) (x0 x1 x2 x3 x4 x5 x6 x7 x8 x9 x10 x11 x12 x13 x15 x21 x22 x23 x25 x26 x27:Int)
theorem SU (k:Int) (hN:L14.length<N) (hl:L14.length≤2097152):DJ N (lsI L14 L16 L17 L19 L24 b18 b20 x0 x1 x2 x3 x4 x5 x6 x7 x8 x9 x10 x11 x12 x13 x15 x21 x22 x23 x25 x26 x27++[.int k])=some [.bool (Xw L14 x12 x13 x4 k)]:=by
  simp only [lsI,List.cons_append,List.nil_append]
  show FA (std (Gj N) N) (xOf _)=_
  have e:∀ ls,Gj N 60 [] ls=Aa N ls:=fun ls=>rfl
  simp only [FA,std,xOf,lsI,PXb,PXc,PXn,AG]
  refine AZ (ZJ (len:=L14.length) (fun i=>[.int (B4 (pIs L14 2) i),.int (B4 (pIs L14 1) i),.bool (ah L14 i),.int (i:Int)])
    (NQ L14 x12 x13) [.int 0,.bool false] [.int 1,.int (WX L14),.int (ins L14),.bool (Du L14)] ?_ ?_ N hN) ?_
  · intro self
    simp only [PXb,PXc,PXn,AG,BT,Z6]
    rfl
  · intro i self hi
    simp only [PXb,PXc,AG,Av (show i≤1099511627776 by omega),A9 hi,Ak hi,De,Yc (pIs L14 2) (show i≤1099511627776 by omega),Yc (pIs L14 1) (show i≤1099511627776 by omega)]
    unfold NQ pIs Rv
    simp only [B4,ah]
    cases h3:iLt 3 (atI L14 i 0) with
    | true=>rfl
    | false =>
      cases h1:atI L14 i 0==1 with
      | true =>
        rw [fK h1]
        cases x12==(i:Int)+1<;>cases x13==(i:Int)+1<;>rfl
      | false=>cases h2:atI L14 i 0==2<;>rfl
  · unfold Xw
    simp only [e,C0]
    cases BL (NQ L14 x12 x13) L14.length 0 with
    | true=>rfl
    | false =>
      simp only [PXb,PXc,PXn,AG]
      unfold two
      cases btw x12 0 k<;>cases btw x13 0 k<;>try rfl
      cases x12==0<;>cases x13==0<;>cases x12==x13<;>try rfl
end
end Go.Px
end
section
namespace Go.Px
set_option maxRecDepth 100000
theorem eP (s n:Int):two s n=cond (!(s==0)) 1 0+cond (!(n==0)) 1 0:=by
 unfold two
 cases s==0<;>cases n==0<;>rfl
theorem ee {s n:Int} {len:Nat} (h1:0≤s∧s≤(len:Int)) (h2:0≤n∧n≤(len:Int)) (hd:(s==n && !(s==0))=false):two s n=B4 (Rv s n) len:=by
 have hs:iLe s (len:Int)=true:=by simp only [iLe,decide_eq_true_eq];omega
 have hn:iLe n (len:Int)=true:=by simp only [iLe,decide_eq_true_eq];omega
 unfold Rv
 rw [cf (p:=fun i=>s==(i:Int)+1) (q:=fun i=>n==(i:Int)+1) len (fun j _ hp=>by
  have e1:s=(j:Int)+1:=by simpa using hp
  show (n==(j:Int)+1)=false
  rw [beq_eq_false_iff_ne]
  intro e2
  have e3:(s==n)=true:=by rw [beq_iff_eq];omega
  have e4:(s==0)=false:=by rw [beq_eq_false_iff_ne];omega
  rw [e3,e4] at hd;cases hd),X4 s len h1.1,X4 n len h2.1,hs,hn,Bool.and_true,Bool.and_true,eP]
theorem eu (x:Int):iLt 0 x = !iLt x 1:=by
 unfold iLt
 rw [Bool.eq_iff_iff]
 simp only [decide_eq_true_eq,Bool.not_eq_true',decide_eq_false_iff_not]
 omega
theorem dY {L : Rows} {s n : Int} (h1 : 0 ≤ s ∧ s ≤ (L.length : Int)) (h2 : 0 ≤ n ∧ n ≤ (L.length : Int)) (hd : (s == n && !(s == 0)) = false) :
    (!BL (NQ L s n) L.length 0&&two s n==ins L) = !BL (WJ L s n) L.length 0:=by
  have h2c:=ee h1 h2 hd
  rw [Bool.eq_iff_iff]
  simp only [Bool.and_eq_true,Bool.not_eq_true',Ht,beq_iff_eq]
  constructor
  · intro ⟨ha,hb⟩ j _ hj
    have hm:∀ j,j<L.length→pIs L 1 j=true→Rv s n j=true:=fun j hj hp=>by
      have:=ha j (Nat.zero_le _) (by omega)
      unfold NQ at this
      rw [hp] at this
      simp only [Bool.or_eq_false_iff,Bool.true_and,Bool.not_eq_false'] at this
      exact this.2
    have he:=bM L.length hm (by rw [← h2c,hb];rfl) j (by omega)
    have:=ha j (Nat.zero_le _) hj
    unfold NQ at this
    unfold WJ
    rw [Bool.or_eq_false_iff] at this ⊢
    exact ⟨this.1,by rw [he];simp⟩
  · intro ha
    have hm:∀ j,j<L.length→pIs L 1 j=Rv s n j:=fun j hj=>by
      have:=ha j (Nat.zero_le _) (by omega)
      unfold WJ at this
      rw [Bool.or_eq_false_iff] at this
      simpa using this.2
    refine ⟨fun j h0 hj=>?_,?_⟩
    · have:=ha j h0 hj
      unfold WJ at this
      unfold NQ
      rw [Bool.or_eq_false_iff] at this ⊢
      refine ⟨this.1,?_⟩
      rw [hm j (by omega)]
      cases Rv s n j<;>rfl
    · rw [h2c]
      exact (XQ L.length hm).symm
theorem gG (L:Rows) (s n wk k:Int) (hk:(L.length:Int)=k):Xw L s n wk k=(btw s 0 k&&btw n 0 k&&VU L s n wk):=by
 subst hk
 unfold Xw VU
 cases hs:btw s 0 (L.length:Int) with
 | false=>simp only [Bool.false_and,Bool.and_false]
 | true =>
  cases hn:btw n 0 (L.length:Int) with
  | false=>simp only [Bool.false_and,Bool.and_false]
  | true =>
   have h1:0≤s∧s≤(L.length:Int):=by simpa [btw,iLe] using hs
   have h2:0≤n∧n≤(L.length:Int):=by simpa [btw,iLe] using hn
   simp only [Bool.true_and]
   cases hd:(s==n && !(s==0)) with
   | true =>
    have:(!(s==0)&&s==n)=true:=by rw [Bool.and_comm];exact hd
    rw [this]
    simp only [Bool.or_true,Bool.not_true,Bool.false_and,Bool.and_false]
   | false =>
    have:(!(s==0)&&s==n)=false:=by rw [Bool.and_comm];exact hd
    rw [this,← dY h1 h2 hd]
    simp only [Bool.or_false,Bool.not_false,Bool.true_and]
    rw [show (wk==WX L)=(WX L==wk) from BEq.comm]
    cases hA:BL (NQ L s n) L.length 0 with
    | true=>rfl
    | false =>
     cases hB:two s n==ins L with
     | false=>rfl
     | true =>
      rw [beq_iff_eq.1 hB,eu]
      simp only [Bool.true_and,Bool.not_false,Bool.not_and]
end Go.Px
end
section
namespace Go.Px
set_option maxRecDepth 100000
def HY (v:Int):Bool := !btw v 0 1000000000
def Ya (x1 x3 x5 x6 x7 x8 x9 x10 x21 x23 x25 x26:Int):Rows:=[[.int x1],[.int x3],[.int x5],[.int x6],[.int x7],[.int x8],[.int x9],[.int x10],[.int x21],[.int x23],[.int x25],[.int x26]]
section
variable (N:Nat) (L14 L16 L17 L19 L24:Rows) (b18 b20:Bool) (x0 x1 x2 x3 x4 x5 x6 x7 x8 x9 x10 x11 x12 x13 x15 x21 x22 x23 x25 x26 x27:Int)
theorem S4 (hN:2097152<N) (hl:L19.length≤1048576):DT N (lsI L14 L16 L17 L19 L24 b18 b20 x0 x1 x2 x3 x4 x5 x6 x7 x8 x9 x10 x11 x12 x13 x15 x21 x22 x23 x25 x26 x27)=some [.bool (!(IC HY (Ya x1 x3 x5 x6 x7 x8 x9 x10 x21 x23 x25 x26)||IC HY L19))]:=by
 show FH (std (Gq N) N) (xOf (lsI ..))=_
 have e:∀ ls,Gq N 90 [] ls=Ce N ls:=fun ls=>rfl
 rw [← YD]
 simp only [FH,std,xOf,lsI,PXb,PXc,PXn,AG,Ya]
 generalize hM:([PV.int x1]::[PV.int x3]::[PV.int x5]::[PV.int x6]::[PV.int x7]::[PV.int x8]::[PV.int x9]::[PV.int x10]::[PV.int x21]::[PV.int x23]::[PV.int x25]::[PV.int x26]::L19:Rows)=M
 have hM2:M.length≤2097152:=by rw [← hM];simp only [List.length_cons];omega
 rw [G7 (n:=M.length) (by omega) (by omega)]
 simp only [PXb,PXc,PXn,AG]
 rw [Option.bind_assoc]
 refine AZ (CT (len:=M.length) (E5 fun i=>HY (atI M i 0)) ?_ ?_ M.length 0 N (by omega) (by omega)) ?_
 ·intro self
  simp only [PXb,PXc,PXn,AG,BT]
 ·intro i self hi
  simp only [PXb,PXc,PXn,AG,Av (show i≤1099511627776 by omega),A9 hi,Ak hi,E5,De,e,Q8,HY]
  cases btw (atI M i 0) 0 1000000000<;>rfl
 ·unfold IC
  rw [← Hz]
  unfold Mf
  cases Bj (E5 fun i=>HY (atI M i 0)) M.length 0<;>rfl
end
def Wg (a3 x2:Int):Bool:=cond (a3==0) (x2==0) (btw x2 1 a3)
def Pr (s:ByteArray) (a1 a2 a3 a4 a5 a6 a7 a9 a10 a11 a12:Int) (La L14 L16 L17 L19 L24:Rows) (x0 x1 x2 x3 x4 x5 x6 x7 x8 x9 x10 x11 x12 x13 x15 x21 x22 x23 x25 x26 x27:Int):Bool :=
  Ja s a1 a2 a3 a4 a5 a6 a7 a9 a10 a11 a12 La==0&&(btw x0 1 2&&((L14.length:Int)==a1&&((L19.length:Int)==a1&&((L24.length:Int)==a1&&(!iLt 5 x27 &&
    (btw x12 0 a1&&(btw x13 0 a1&&(VU L14 x12 x13 x4&&(btw x15 0 a1&&(btw x22 0 a1&&(Ic L16 a1&&(Ic L17 a1&&(Wg a3 x2&&(btw x11 0 (IntKind.i64.wrap (a4 - 1)) &&
      (!IC HY (Ya x1 x3 x5 x6 x7 x8 x9 x10 x21 x23 x25 x26) && !IC HY L19)))))))))))))))
theorem eo {a:Int} (h:0≤a):iLt 0 a = !(a==0):=by
 unfold iLt
 rw [Bool.eq_iff_iff]
 simp only [decide_eq_true_eq,Bool.not_eq_true',beq_eq_false_iff_ne]
 omega
section
variable (N:Nat) (s:ByteArray) (a1 a2 a3 a4 a5 a6 a7 a9 a10 a11 a12:Int) (a8:Bool) (La:Rows) (L14 L16 L17 L19 L24:Rows) (b18 b20:Bool) (x0 x1 x2 x3 x4 x5 x6 x7 x8 x9 x10 x11 x12 x13 x15 x21 x22 x23 x25 x26 x27:Int)
theorem OM (hN:2097152<N) (hs:s.size≤1048576) (h14:L14.length≤1048576) (h16:L16.length≤1048576) (h17:L17.length≤1048576) (h19:L19.length≤1048576):A3 N ([.str s,.int a1,.int a2,.int a3,.int a4,.int a5,.int a6,.int a7,.bool a8,.int a9,.int a10,.int a11,.int a12,.rows La]++lsI L14 L16 L17 L19 L24 b18 b20 x0 x1 x2 x3 x4 x5 x6 x7 x8 x9 x10 x11 x12 x13 x15 x21 x22 x23 x25 x26 x27)=some [.bool (Pr s a1 a2 a3 a4 a5 a6 a7 a9 a10 a11 a12 La L14 L16 L17 L19 L24 x0 x1 x2 x3 x4 x5 x6 x7 x8 x9 x10 x11 x12 x13 x15 x21 x22 x23 x25 x26 x27)]:=by
 simp only [lsI,List.cons_append,List.nil_append]
 show G9 (std (Bt N) N) (xOf _)=_
 have e1:∀ ls,Bt N 32 [] ls=AN N ls:=fun ls=>rfl
 have e2:∀ ls,Bt N 60 [] ls=Aa N ls:=fun ls=>rfl
 have e3:∀ ls,Bt N 61 [] ls=DJ N ls:=fun ls=>rfl
 have e4:∀ ls,Bt N 62 [] ls=Cc N ls:=fun ls=>rfl
 have e5:∀ ls,Bt N 63 [] ls=DT N ls:=fun ls=>rfl
 have l54:=SU N L14 L16 L17 L19 L24 b18 b20 x0 x1 x2 x3 x4 x5 x6 x7 x8 x9 x10 x11 x12 x13 x15 x21 x22 x23 x25 x26 x27 a1 (by omega) (by omega)
 have l56:=S4 N L14 L16 L17 L19 L24 b18 b20 x0 x1 x2 x3 x4 x5 x6 x7 x8 x9 x10 x11 x12 x13 x15 x21 x22 x23 x25 x26 x27 (by omega) (by omega)
 simp only [lsI,List.cons_append,List.nil_append] at l54 l56
 simp only [G9,std,xOf,PXb,PXc,PXn,AG,e1,e2,e3,e4,e5,P4 N s _ _ _ _ _ _ _ _ _ _ _ _ _ hN hs,C0,l54,l56,KU N L16 _ (by omega) (by omega),KU N L17 _ (by omega) (by omega)]
 unfold Pr Wg
 cases hc:Ja s a1 a2 a3 a4 a5 a6 a7 a9 a10 a11 a12 La==0<;>try rfl
 cases btw x0 1 2<;>try rfl
 cases h14:(L14.length:Int)==a1<;>try rfl
 cases (L19.length:Int)==a1<;>try rfl
 cases (L24.length:Int)==a1<;>try rfl
 cases iLt 5 x27<;>try rfl
 rw [gG L14 x12 x13 x4 a1 (beq_iff_eq.1 h14)]
 cases btw x12 0 a1<;>try rfl
 cases btw x13 0 a1<;>try rfl
 cases VU L14 x12 x13 x4<;>try rfl
 cases btw x15 0 a1<;>try rfl
 cases btw x22 0 a1<;>try rfl
 cases Ic L16 a1<;>try rfl
 cases Ic L17 a1<;>try rfl
 cases a3==0<;>cases x2==0<;>cases btw x2 1 a3<;>rfl
end
end Go.Px
end
section
namespace Go.Px
set_option maxRecDepth 100000
def dD (v:Bool) (L:Rows) (s n:Int) (x1 x2 x3 x10:Int):Int :=
 cond (!v) 0 (cond (iLt 0 x1&&iLe x1 x3) 3 (cond (Jm L s n&&((EB L L.length).length:Int)==0) 1 (cond (iLt 0 x2&&iLe x2 x10) 2 0)))
theorem ao {c:Int} {n:Nat} (hc:0≤c):iRg 0 (cond (iLt c (n:Int)) c (n:Int)) (n:Int)=true:=by
 cases h:iLt c (n:Int) with
 | true=>simp only [iLt,decide_eq_true_eq] at h;simp only [cond_true,iRg,decide_eq_true_eq];omega
 | false=>simp only [cond_false,iRg,decide_eq_true_eq];omega
def cut (L:Rows) (c:Int):Rows:=(L.take (cond (iLt c (L.length:Int)) c (L.length:Int)).toNat).drop (0:Int).toNat
def dA (s:ByteArray) (c:Int):ByteArray:=s.extract (0:Int).toNat (cond (iLt c (s.size:Int)) c (s.size:Int)).toNat
theorem de (s:ByteArray) (c:Int):(dA s c).size≤s.size:=by
 unfold dA
 rw [ByteArray.size_extract]
 omega
end Go.Px
end
section
namespace Go.Px
set_option maxRecDepth 100000
section
variable (N:Nat) (s:ByteArray) (a1 a2 a3 a4 a5 a6 a7 a9 a10 a11 a12:Int) (a8:Bool) (La:Rows) (L14 L16 L17 L19 L24:Rows) (b18 b20:Bool) (x0 x1 x2 x3 x4 x5 x6 x7 x8 x9 x10 x11 x12 x13 x15 x21 x22 x23 x25 x26 x27:Int)
theorem Tc (hN : 2097152 < N) (hs : s.size ≤ 1048576) (h14 : L14.length ≤ 1048576) (h16 : L16.length ≤ 1048576) (h17 : L17.length ≤ 1048576) (h19 : L19.length ≤ 1048576) : Cf N ([.str s, .int a1, .int a2, .int a3, .int a4, .int a5, .int a6, .int a7, .bool a8, .int a9, .int a10, .int a11, .int a12, .rows La] ++ lsI L14 L16 L17 L19 L24 b18 b20 x0 x1 x2 x3 x4 x5 x6 x7 x8 x9 x10 x11 x12 x13 x15 x21 x22 x23 x25 x26 x27) =
    some [.int (dD (Pr s a1 a2 a3 a4 a5 a6 a7 a9 a10 a11 a12 La L14 L16 L17 L19 L24 x0 x1 x2 x3 x4 x5 x6 x7 x8 x9 x10 x11 x12 x13 x15 x21 x22 x23 x25 x26 x27) L14 x12 x13 x1 x2 x3 x10)]:=by
  simp only [lsI,List.cons_append,List.nil_append]
  show GB (std (Cs N) N) (xOf _)=_
  have e1:∀ ls,Cs N 33 [] ls=A3 N ls:=fun ls=>rfl
  have e2:∀ ls,Cs N 151 [] ls=A0 N ls:=fun ls=>rfl
  have e3:∀ ls,Cs N 152 [] ls=B7 N ls:=fun ls=>rfl
  have l16:=OM N s a1 a2 a3 a4 a5 a6 a7 a9 a10 a11 a12 a8 La L14 L16 L17 L19 L24 b18 b20 x0 x1 x2 x3 x4 x5 x6 x7 x8 x9 x10 x11 x12 x13 x15 x21 x22 x23 x25 x26 x27 hN hs h14 h16 h17 h19
  have l61:=Ud N L14 L16 L17 L19 L24 b18 b20 x0 x1 x2 x3 x4 x5 x6 x7 x8 x9 x10 x11 x12 x13 x15 x21 x22 x23 x25 x26 x27 (by omega) (by omega)
  have l62:=WV N L14 L16 L17 L19 L24 b18 b20 x0 x1 x2 x3 x4 x5 x6 x7 x8 x9 x10 x11 x12 x13 x15 x21 x22 x23 x25 x26 x27 (by omega) (by omega)
  simp only [lsI,List.cons_append,List.nil_append] at l16 l61 l62
  simp only [GB,std,xOf,PXb,PXc,PXn,AG,e1,e2,e3,l16,l61,l62,dD]
  cases Pr s a1 a2 a3 a4 a5 a6 a7 a9 a10 a11 a12 La L14 L16 L17 L19 L24 x0 x1 x2 x3 x4 x5 x6 x7 x8 x9 x10 x11 x12 x13 x15 x21 x22 x23 x25 x26 x27<;>try rfl
  cases (iLt 0 x1&&iLe x1 x3)<;>try rfl
  cases Jm L14 x12 x13
  · cases (iLt 0 x2&&iLe x2 x10)<;>rfl
  · simp only [PXb,PXc,PXn,AG]
    cases ((EB L14 L14.length).length:Int)==0<;>cases (iLt 0 x2&&iLe x2 x10)<;>rfl
end
end Go.Px
end
section
namespace Go.Px
set_option maxRecDepth 100000
section
variable (N:Nat) (s:ByteArray) (a1 a2 a3 a4 a5 a6 a7 a9 a10 a11 a12:Int) (a8:Bool) (La:Rows) (L14 L16 L17 L19 L24:Rows) (b18 b20:Bool) (x0 x1 x2 x3 x4 x5 x6 x7 x8 x9 x10 x11 x12 x13 x15 x21 x22 x23 x25 x26 x27:Int)
def Ym (a4 x10 x11:Int):Int:=IntKind.i64.wrap (IntKind.i64.wrap (x10 * a4)+x11)
end
end Go.Px
end
section
namespace Go.Px
set_option maxRecDepth 100000
def CD (r:Rul):Int:=Ja r.name r.side r.innings r.overs r.balls r.quota r.wide r.noball r.newball r.followon r.reviews r.outside r.power
theorem DB {N:Nat} {r1 r2 r3 r4 r5 r6 r7 r9 r10 r11 r12:Int} {r8:Bool} {r0:ByteArray} {r13:Rows} (hN:2097152<N) (hs:r0.size≤1048576):AN N [.str r0,.int r1,.int r2,.int r3,.int r4,.int r5,.int r6,.int r7,.bool r8,.int r9,.int r10,.int r11,.int r12,.rows r13]=some [.int (CD (⟨r0,r1,r2,r3,r4,r5,r6,r7,r8,r9,r10,r11,r12,r13⟩:Rul))]:=by
 exact P4 N _ _ _ _ _ _ _ _ _ _ _ _ _ _ hN hs
theorem PN {N:Nat} {s0 s1 s2 s3 s4 s5 s6 s7 s8 s9 s10 s11 s12 s13 s15 s21 s22 s23 s25 s26 s27:Int} {s18 s20:Bool} {s14 s16 s17 s19 s24:Rows} (h:Fit s14 s16 s17 s19 s24):B0 N [.int s0,.int s1,.int s2,.int s3,.int s4,.int s5,.int s6,.int s7,.int s8,.int s9,.int s10,.int s11,.int s12,.int s13,.rows s14,.int s15,.rows s16,.rows s17,.bool s18,.rows s19,.bool s20,.int s21,.int s22,.int s23,.rows s24,.int s25,.int s26,.int s27]=some [.int s0,.int s1,.int s2,.int s3,.int s4,.int s5,.int s6,.int s7,.int s8,.int s9,.int s10,.int s11,.int s12,.int s13,.rows s14,.int s15,.rows s16,.rows s17,.bool s18,.rows s19,.bool s20,.int s21,.int s22,.int s23,.rows s24,.int s25,.int s26,.int s27]:=by
 show Lh (std (Gb N) N) (xOf _)=_
 simp only [Lh,Jd,LP,Kh,std,xOf,PXb,PXc,PXn,PXm,Nat.reduceAdd,Int.reduceBEq,AM,AX,AS,BE h.bt (show 1≤4096 by omega),BE h.bw' (show 8≤4096 by omega),BE h.bf (show 8≤4096 by omega),BE h.bd (show 8≤4096 by omega),BE h.sb (show 1≤4096 by omega)]
theorem PX {N:Nat} {s0 s1 s2 s3 s4 s5 s6 s7 s8 s9 s10 s11 s12 s13 s15 s21 s22 s23 s25 s26 s27:Int} {s18 s20:Bool} {s14 s16 s17 s19 s24:Rows} (h:Fit s14 s16 s17 s19 s24):B2 N [.int s0,.int s1,.int s2,.int s3,.int s4,.int s5,.int s6,.int s7,.int s8,.int s9,.int s10,.int s11,.int s12,.int s13,.rows s14,.int s15,.rows s16,.rows s17,.bool s18,.rows s19,.bool s20,.int s21,.int s22,.int s23,.rows s24,.int s25,.int s26,.int s27]=some [.int s0,.int s1,.int s2,.int s3,.int s4,.int s5,.int s6,.int s7,.int s8,.int s9,.int s10,.int s11,.int s12,.int s13,.rows s14,.int s15,.rows s16,.rows s17,.bool s18,.rows s19,.bool s20,.int s21,.int s22,.int s23,.rows s24,.int s25,.int s26,.int s27]:=by
 show Lp (std (GS N) N) (xOf _)=_
 simp only [Lp,Je,K2,Kg,std,xOf,PXb,PXc,PXn,PXm,Nat.reduceAdd,Int.reduceBEq,AM,AX,AS,BE h.bt (show 1≤4096 by omega),BE h.bw' (show 8≤4096 by omega),BE h.bf (show 8≤4096 by omega),BE h.bd (show 8≤4096 by omega),BE h.sb (show 1≤4096 by omega)]
theorem Bg {N:Nat} {s0 s1 s2 s3 s4 s5 s6 s7 s8 s9 s10 s11 s12 s13 s15 s21 s22 s23 s25 s26 s27:Int} {s18 s20:Bool} {s14 s16 s17 s19 s24:Rows} (h:Fit s14 s16 s17 s19 s24):AK N [.int s0,.int s1,.int s2,.int s3,.int s4,.int s5,.int s6,.int s7,.int s8,.int s9,.int s10,.int s11,.int s12,.int s13,.rows s14,.int s15,.rows s16,.rows s17,.bool s18,.rows s19,.bool s20,.int s21,.int s22,.int s23,.rows s24,.int s25,.int s26,.int s27]=some [.int s0,.int s1,.int s2,.int s3,.int s4,.int s5,.int s6,.int s7,.int s8,.int s9,.int s10,.int s11,.int s12,.int s13,.rows s14,.int s15,.rows s16,.rows s17,.bool s18,.rows s19,.bool s20,.int s21,.int s22,.int s23,.rows s24,.int s25,.int s26,.int s27]:=by
 show G5 (std (DS N) N) (xOf _)=_
 simp only [G5,Hk,JF,IG,std,xOf,PXb,PXc,PXn,PXm,Nat.reduceAdd,Int.reduceBEq,AM,AX,AS,BE h.bt (show 1≤4096 by omega),BE h.bw' (show 8≤4096 by omega),BE h.bf (show 8≤4096 by omega),BE h.bd (show 8≤4096 by omega),BE h.sb (show 1≤4096 by omega)]
theorem MM {N:Nat} {s0 s1 s2 s3 s4 s5 s6 s7 s8 s9 s10 s11 s12 s13 s15 s21 s22 s23 s25 s26 s27:Int} {s18 s20:Bool} {s14 s16 s17 s19 s24:Rows} {p:Int}  : BU N [.int s0,.int s1,.int s2,.int s3,.int s4,.int s5,.int s6,.int s7,.int s8,.int s9,.int s10,.int s11,.int s12,.int s13,.rows s14,.int s15,.rows s16,.rows s17,.bool s18,.rows s19,.bool s20,.int s21,.int s22,.int s23,.rows s24,.int s25,.int s26,.int s27,.int p]=some [.bool (inR p s19.length)]:=by
 show I6 (std (Oy N) N) (xOf _)=_
 simp only [I6,std,xOf,PXb,PXc,PXn,PXm,Nat.reduceAdd,Int.reduceBEq]
 rfl
theorem GO {N:Nat} {s0 s1 s2 s3 s4 s5 s6 s7 s8 s9 s10 s11 s12 s13 s15 s21 s22 s23 s25 s26 s27:Int} {s18 s20:Bool} {s14 s16 s17 s19 s24:Rows} {p:Int}  : Ao N [.int s0,.int s1,.int s2,.int s3,.int s4,.int s5,.int s6,.int s7,.int s8,.int s9,.int s10,.int s11,.int s12,.int s13,.rows s14,.int s15,.rows s16,.rows s17,.bool s18,.rows s19,.bool s20,.int s21,.int s22,.int s23,.rows s24,.int s25,.int s26,.int s27,.int p]=some [.bool (inR p s24.length)]:=by
 show Iv (std (Ow N) N) (xOf _)=_
 simp only [Iv,std,xOf,PXb,PXc,PXn,PXm,Nat.reduceAdd,Int.reduceBEq]
 rfl
def atB (L:Rows) (i j:Nat):Bool:=pvB (AA L i j)
def F2 (s:Inn) (p:Int):Bool:=inR p s.subs.length&&atB s.subs (ix p) 0
theorem Fx {N:Nat} {s0 s1 s2 s3 s4 s5 s6 s7 s8 s9 s10 s11 s12 s13 s15 s21 s22 s23 s25 s26 s27:Int} {s18 s20:Bool} {s14 s16 s17 s19 s24:Rows} {p:Int} (h:s24.length≤1048576):Al N [.int s0,.int s1,.int s2,.int s3,.int s4,.int s5,.int s6,.int s7,.int s8,.int s9,.int s10,.int s11,.int s12,.int s13,.rows s14,.int s15,.rows s16,.rows s17,.bool s18,.rows s19,.bool s20,.int s21,.int s22,.int s23,.rows s24,.int s25,.int s26,.int s27,.int p]=some [.bool (F2 (⟨s0,s1,s2,s3,s4,s5,s6,s7,s8,s9,s10,s11,s12,s13,s14,s15,s16,s17,s18,s19,s20,s21,s22,s23,s24,s25,s26,s27⟩:Inn) p)]:=by
 show F0 (std (HV N) N) (xOf _)=_
 generalize hres:(some [.bool (F2 (⟨s0,s1,s2,s3,s4,s5,s6,s7,s8,s9,s10,s11,s12,s13,s14,s15,s16,s17,s18,s19,s20,s21,s22,s23,s24,s25,s26,s27⟩:Inn) p)]:Option (List PV))=RR
 simp only [F0,LD,std,xOf,PXb,PXc,PXn,PXm,Nat.reduceAdd,Int.reduceBEq,GO,gC h]
 subst hres;simp only [F2]
 cases hp:inR p s24.length with
 | false=>rfl
 | true=>first | rfl | (rw [It hp h];rfl)
def aw (x:Int):Int:=cond (iLt x 0) 0 x
def WC (r:Rul) (s:Inn) (p:Int):Int :=
 cond (!inR p s.bowled.length || !(CD r==0)) 0 (cond (r.quota==0) (-1) (aw (IntKind.i64.wrap (IntKind.i64.wrap (r.quota * r.balls) - aw (atI s.bowled (ix p) 0)))))
theorem YO {N:Nat} {r1 r2 r3 r4 r5 r6 r7 r9 r10 r11 r12:Int} {r8:Bool} {r0:ByteArray} {r13:Rows} {s0 s1 s2 s3 s4 s5 s6 s7 s8 s9 s10 s11 s12 s13 s15 s21 s22 s23 s25 s26 s27:Int} {s18 s20:Bool} {s14 s16 s17 s19 s24:Rows} {p:Int} (h:Fit s14 s16 s17 s19 s24) (hN:2097152<N) (hs:r0.size≤1048576):HL N [.str r0,.int r1,.int r2,.int r3,.int r4,.int r5,.int r6,.int r7,.bool r8,.int r9,.int r10,.int r11,.int r12,.rows r13,.int s0,.int s1,.int s2,.int s3,.int s4,.int s5,.int s6,.int s7,.int s8,.int s9,.int s10,.int s11,.int s12,.int s13,.rows s14,.int s15,.rows s16,.rows s17,.bool s18,.rows s19,.bool s20,.int s21,.int s22,.int s23,.rows s24,.int s25,.int s26,.int s27,.int p]=some [.int (WC (⟨r0,r1,r2,r3,r4,r5,r6,r7,r8,r9,r10,r11,r12,r13⟩:Rul) (⟨s0,s1,s2,s3,s4,s5,s6,s7,s8,s9,s10,s11,s12,s13,s14,s15,s16,s17,s18,s19,s20,s21,s22,s23,s24,s25,s26,s27⟩:Inn) p)]:=by
 show KB (std (Hg N) N) (xOf _)=_
 generalize hres:(some [.int (WC (⟨r0,r1,r2,r3,r4,r5,r6,r7,r8,r9,r10,r11,r12,r13⟩:Rul) (⟨s0,s1,s2,s3,s4,s5,s6,s7,s8,s9,s10,s11,s12,s13,s14,s15,s16,s17,s18,s19,s20,s21,s22,s23,s24,s25,s26,s27⟩:Inn) p)]:Option (List PV))=RR
 simp only [KB,OJ,Nt,std,xOf,PXb,PXc,PXn,PXm,Nat.reduceAdd,Int.reduceBEq,DB hN hs,MM]
 subst hres;simp only [WC]
 cases hp:inR p s19.length with
 | false=>rfl
 | true=>rw [It hp h.bd];cases CD (⟨r0,r1,r2,r3,r4,r5,r6,r7,r8,r9,r10,r11,r12,r13⟩:Rul)==0<;>cases r5==0<;>rfl
theorem JZ {N:Nat} {L:Rows} {v:Int} (hN:2097152<N) (hl:L.length≤1048576):Ae N [.rows L,.int v]=some [.bool (H5 L L.length v)]:=by
 exact Ia N L v (by omega) (by omega)
def Nb (r:Rul) (s:Inn) (p:Int):Int :=
  cond (!inR p s.bowled.length || !(CD r==0)) 3 (cond (p==s.keeper||p==s.bowler||F2 s p) 7
    (cond (H5 s.before s.before.length p) 8 (cond (!(WC r s p == -1)&&iLt s.inover (IntKind.i64.wrap (r.balls - WC r s p))) 9 0)))
theorem bp {p:Int} {n m:Nat} (h:inR p n=true):inR p m=iLe p (m:Int):=by
 unfold inR at h ⊢
 rw [Bool.and_eq_true] at h
 rw [h.1,Bool.true_and]
theorem Ze {N:Nat} {r1 r2 r3 r4 r5 r6 r7 r9 r10 r11 r12:Int} {r8:Bool} {r0:ByteArray} {r13:Rows} {s0 s1 s2 s3 s4 s5 s6 s7 s8 s9 s10 s11 s12 s13 s15 s21 s22 s23 s25 s26 s27:Int} {s18 s20:Bool} {s14 s16 s17 s19 s24:Rows} {p:Int} (h:Fit s14 s16 s17 s19 s24) (hN:2097152<N) (hs:r0.size≤1048576):IV N [.str r0,.int r1,.int r2,.int r3,.int r4,.int r5,.int r6,.int r7,.bool r8,.int r9,.int r10,.int r11,.int r12,.rows r13,.int s0,.int s1,.int s2,.int s3,.int s4,.int s5,.int s6,.int s7,.int s8,.int s9,.int s10,.int s11,.int s12,.int s13,.rows s14,.int s15,.rows s16,.rows s17,.bool s18,.rows s19,.bool s20,.int s21,.int s22,.int s23,.rows s24,.int s25,.int s26,.int s27,.int p]=some [.int (Nb (⟨r0,r1,r2,r3,r4,r5,r6,r7,r8,r9,r10,r11,r12,r13⟩:Rul) (⟨s0,s1,s2,s3,s4,s5,s6,s7,s8,s9,s10,s11,s12,s13,s14,s15,s16,s17,s18,s19,s20,s21,s22,s23,s24,s25,s26,s27⟩:Inn) p)]:=by
 show Lb (std (EN N) N) (xOf _)=_
 generalize hres:(some [.int (Nb (⟨r0,r1,r2,r3,r4,r5,r6,r7,r8,r9,r10,r11,r12,r13⟩:Rul) (⟨s0,s1,s2,s3,s4,s5,s6,s7,s8,s9,s10,s11,s12,s13,s14,s15,s16,s17,s18,s19,s20,s21,s22,s23,s24,s25,s26,s27⟩:Inn) p)]:Option (List PV))=RR
 simp only [Lb,OU,Jg,OT,Pl,std,xOf,PXb,PXc,PXn,PXm,Nat.reduceAdd,Int.reduceBEq,DB hN hs,MM,YO h hN hs,JZ hN h.bf]
 subst hres;simp only [Nb,F2]
 cases hp:inR p s19.length with
 | false=>rfl
 | true =>
  rw [bp (m:=s24.length) hp]
  have hq:(!(iLe p (s24.length:Int))||iIn (IntKind.i64.wrap (p - 1)) (s24.length:Int))=true:=by
   cases h1:iLe p (s24.length:Int) with
   | false=>rfl
   | true=>rw [It (by rw [bp hp];exact h1) h.sb];rfl
  rw [hq]
  cases CD (⟨r0,r1,r2,r3,r4,r5,r6,r7,r8,r9,r10,r11,r12,r13⟩:Rul)==0<;>rfl
def TP (r:Rul) (s:Inn) (p:Int):Inn×Int:=(cond (Nb r s p==0) { s with bowler:=p } s,Nb r s p)
theorem X5 {N:Nat} {r1 r2 r3 r4 r5 r6 r7 r9 r10 r11 r12:Int} {r8:Bool} {r0:ByteArray} {r13:Rows} {s0 s1 s2 s3 s4 s5 s6 s7 s8 s9 s10 s11 s12 s13 s15 s21 s22 s23 s25 s26 s27:Int} {s18 s20:Bool} {s14 s16 s17 s19 s24:Rows} {p:Int} (h:Fit s14 s16 s17 s19 s24) (hN:2097152<N) (hs:r0.size≤1048576):HZ N [.str r0,.int r1,.int r2,.int r3,.int r4,.int r5,.int r6,.int r7,.bool r8,.int r9,.int r10,.int r11,.int r12,.rows r13,.int s0,.int s1,.int s2,.int s3,.int s4,.int s5,.int s6,.int s7,.int s8,.int s9,.int s10,.int s11,.int s12,.int s13,.rows s14,.int s15,.rows s16,.rows s17,.bool s18,.rows s19,.bool s20,.int s21,.int s22,.int s23,.rows s24,.int s25,.int s26,.int s27,.int p]=some (A2 (TP (⟨r0,r1,r2,r3,r4,r5,r6,r7,r8,r9,r10,r11,r12,r13⟩:Rul) (⟨s0,s1,s2,s3,s4,s5,s6,s7,s8,s9,s10,s11,s12,s13,s14,s15,s16,s17,s18,s19,s20,s21,s22,s23,s24,s25,s26,s27⟩:Inn) p)):=by
 show KH (std (Hx N) N) (xOf _)=_
 generalize hres:(some (A2 (TP (⟨r0,r1,r2,r3,r4,r5,r6,r7,r8,r9,r10,r11,r12,r13⟩:Rul) (⟨s0,s1,s2,s3,s4,s5,s6,s7,s8,s9,s10,s11,s12,s13,s14,s15,s16,s17,s18,s19,s20,s21,s22,s23,s24,s25,s26,s27⟩:Inn) p)):Option (List PV))=RR
 simp only [KH,PW,PZ,std,xOf,PXb,PXc,PXn,PXm,Nat.reduceAdd,Int.reduceBEq,PN h,Ze h hN hs]
 subst hres;simp only [TP]
 cases Nb (⟨r0,r1,r2,r3,r4,r5,r6,r7,r8,r9,r10,r11,r12,r13⟩:Rul) (⟨s0,s1,s2,s3,s4,s5,s6,s7,s8,s9,s10,s11,s12,s13,s14,s15,s16,s17,s18,s19,s20,s21,s22,s23,s24,s25,s26,s27⟩:Inn) p==0<;>rfl
def dU (x:Inn×Bool):List PV:=[.int x.1.side,.int x.1.target,.int x.1.overs,.int x.1.runs,.int x.1.wickets,.int x.1.wides,.int x.1.noballs,.int x.1.byes,.int x.1.legbyes,.int x.1.pens,.int x.1.complete,.int x.1.inover,.int x.1.striker,.int x.1.other,.rows x.1.batters,.int x.1.bowler,.rows x.1.bowlers,.rows x.1.before,.bool x.1.fresh,.rows x.1.bowled,.bool x.1.freehit,.int x.1.ballage,.int x.1.keeper,.int x.1.outside,.rows x.1.subs,.int x.1.rev1,.int x.1.rev2,.int x.1.ending,.bool x.2]
def inc (x:Int):Int:=IntKind.i64.wrap (x+1)
def Ik (r:Rul) (s:Inn) (counts:Bool):Inn×Bool :=
  cond (!inR s.bowler s.bowled.length || !(CD r==0)) (s,false)
    (let L:=cond (H5 s.bowlers s.bowlers.length s.bowler) s.bowlers (s.bowlers++[[.int s.bowler]])
     let o:=cond counts (inc s.inover) s.inover
     let t:Inn:={ s with bowlers:=L,bowled:=cond counts (Kx s.bowled s.bowler (inc (atI s.bowled (ix s.bowler) 0))) s.bowled,inover:=o,ballage:=cond counts (inc s.ballage) s.ballage }
     cond (iLt o r.balls) (t,false) ({ t with complete:=inc s.complete,inover:=0,before:=L,bowlers:=[],bowler:=0 },true))
theorem Yh {N:Nat} {r1 r2 r3 r4 r5 r6 r7 r9 r10 r11 r12:Int} {r8:Bool} {r0:ByteArray} {r13:Rows} {s0 s1 s2 s3 s4 s5 s6 s7 s8 s9 s10 s11 s12 s13 s15 s21 s22 s23 s25 s26 s27:Int} {s18 s20:Bool} {s14 s16 s17 s19 s24:Rows} {b:Bool} (h:Fit s14 s16 s17 s19 s24) (hw:s16.length≤1048575) (hN:2097152<N) (hs:r0.size≤1048576):HA N [.str r0,.int r1,.int r2,.int r3,.int r4,.int r5,.int r6,.int r7,.bool r8,.int r9,.int r10,.int r11,.int r12,.rows r13,.int s0,.int s1,.int s2,.int s3,.int s4,.int s5,.int s6,.int s7,.int s8,.int s9,.int s10,.int s11,.int s12,.int s13,.rows s14,.int s15,.rows s16,.rows s17,.bool s18,.rows s19,.bool s20,.int s21,.int s22,.int s23,.rows s24,.int s25,.int s26,.int s27,.bool b]=some (dU (Ik (⟨r0,r1,r2,r3,r4,r5,r6,r7,r8,r9,r10,r11,r12,r13⟩:Rul) (⟨s0,s1,s2,s3,s4,s5,s6,s7,s8,s9,s10,s11,s12,s13,s14,s15,s16,s17,s18,s19,s20,s21,s22,s23,s24,s25,s26,s27⟩:Inn) b)):=by
 show KZ (std (Dg N) N) (xOf _)=_
 generalize hres:(some (dU (Ik (⟨r0,r1,r2,r3,r4,r5,r6,r7,r8,r9,r10,r11,r12,r13⟩:Rul) (⟨s0,s1,s2,s3,s4,s5,s6,s7,s8,s9,s10,s11,s12,s13,s14,s15,s16,s17,s18,s19,s20,s21,s22,s23,s24,s25,s26,s27⟩:Inn) b)):Option (List PV))=RR
 have ha:(s16++[[PV.int s15]]).length≤1048576:=by simp;omega
 simp only [KZ,OD,JO,PQ,Ns,std,xOf,PXb,PXc,PXn,PXm,Nat.reduceAdd,Int.reduceBEq,PN h,MM,DB hN hs,JZ hN h.bw',fq ha (show 8≤4096 by omega)]
 subst hres;simp only [Ik]
 cases hp:inR s15 s19.length with
 | false=>rfl
 | true =>
  rw [It hp h.bd]
  cases CD (⟨r0,r1,r2,r3,r4,r5,r6,r7,r8,r9,r10,r11,r12,r13⟩:Rul)==0<;>try rfl
  cases H5 s16 s16.length s15<;>cases b<;>simp only [PXb,PXc,PXn,PXm,Nat.reduceAdd,Int.reduceBEq,inc]
  all_goals first | (cases iLt s11 r4<;>rfl) | (cases iLt (IntKind.i64.wrap (s11+1)) r4<;>rfl)
def K5 (r:Rul) (s:Inn):Inn×Int :=
 cond (!(CD r==0)||r.newball==0||iLt s.ballage (IntKind.i64.wrap (r.newball * r.balls))) (s,22) ({ s with ballage:=0 },0)
theorem WB {N:Nat} {r1 r2 r3 r4 r5 r6 r7 r9 r10 r11 r12:Int} {r8:Bool} {r0:ByteArray} {r13:Rows} {s0 s1 s2 s3 s4 s5 s6 s7 s8 s9 s10 s11 s12 s13 s15 s21 s22 s23 s25 s26 s27:Int} {s18 s20:Bool} {s14 s16 s17 s19 s24:Rows} (h:Fit s14 s16 s17 s19 s24) (hN:2097152<N) (hs:r0.size≤1048576):En N [.str r0,.int r1,.int r2,.int r3,.int r4,.int r5,.int r6,.int r7,.bool r8,.int r9,.int r10,.int r11,.int r12,.rows r13,.int s0,.int s1,.int s2,.int s3,.int s4,.int s5,.int s6,.int s7,.int s8,.int s9,.int s10,.int s11,.int s12,.int s13,.rows s14,.int s15,.rows s16,.rows s17,.bool s18,.rows s19,.bool s20,.int s21,.int s22,.int s23,.rows s24,.int s25,.int s26,.int s27]=some (A2 (K5 (⟨r0,r1,r2,r3,r4,r5,r6,r7,r8,r9,r10,r11,r12,r13⟩:Rul) (⟨s0,s1,s2,s3,s4,s5,s6,s7,s8,s9,s10,s11,s12,s13,s14,s15,s16,s17,s18,s19,s20,s21,s22,s23,s24,s25,s26,s27⟩:Inn))):=by
 show Gu (std (FC N) N) (xOf _)=_
 generalize hres:(some (A2 (K5 (⟨r0,r1,r2,r3,r4,r5,r6,r7,r8,r9,r10,r11,r12,r13⟩:Rul) (⟨s0,s1,s2,s3,s4,s5,s6,s7,s8,s9,s10,s11,s12,s13,s14,s15,s16,s17,s18,s19,s20,s21,s22,s23,s24,s25,s26,s27⟩:Inn))):Option (List PV))=RR
 simp only [Gu,L1,NI,std,xOf,PXb,PXc,PXn,PXm,Nat.reduceAdd,Int.reduceBEq,PN h,DB hN hs]
 subst hres;simp only [K5]
 cases (!(CD (⟨r0,r1,r2,r3,r4,r5,r6,r7,r8,r9,r10,r11,r12,r13⟩:Rul)==0)||r9==0||iLt s21 (IntKind.i64.wrap (r9 * r4)))<;>rfl
end Go.Px
end
section
namespace Go.Px
set_option maxRecDepth 100000
def YB (r:Rul) (over:Int):Int :=
 match Bj (fun i=>cond (iLe (atI r.power i 0) (inc over)&&iLe (inc over) (atI r.power i 1)) (some [.int (atI r.power i 2)]) none) r.power.length 0 with
 | some x=>pvI (AB x 0)
 | none=>r.outside
theorem VS {N:Nat} {r1 r2 r3 r4 r5 r6 r7 r9 r10 r11 r12:Int} {r8:Bool} {r0:ByteArray} {r13:Rows} {o:Int} (hN:2097152<N) (h13:r13.length≤1048576):E2 N [.str r0,.int r1,.int r2,.int r3,.int r4,.int r5,.int r6,.int r7,.bool r8,.int r9,.int r10,.int r11,.int r12,.rows r13,.int o]=some [.int (YB (⟨r0,r1,r2,r3,r4,r5,r6,r7,r8,r9,r10,r11,r12,r13⟩:Rul) o)]:=by
 show Gy (std (Mr N) N) (xOf _)=_
 simp only [Gy,std,xOf,PXb,PXc,PXn,AG]
 refine AZ (CT (len:=r13.length) (fun i=>cond (iLe (atI r13 i 0) (inc o)&&iLe (inc o) (atI r13 i 1)) (some [.int (atI r13 i 2)]) none) ?_ ?_ r13.length 0 N (by omega) (by omega)) ?_
 ·intro self
  simp only [PXb,PXc,PXn,AG,BT]
 ·intro i self hi
  simp only [PXb,PXc,PXn,AG,Av (show i≤1099511627776 by omega),A9 hi,Ak hi]
  cases hq:iLe (atI r13 i 0) (inc o)&&iLe (inc o) (atI r13 i 1)<;>unfold inc atI at hq<;>rw [hq]<;>rfl
 ·unfold YB
  cases Bj (fun i=>cond (iLe (atI r13 i 0) (inc o)&&iLe (inc o) (atI r13 i 1)) (some [.int (atI r13 i 2)]) none) r13.length 0<;>rfl
def Nd (s:Inn) (p:Int):Inn×Int :=
 cond (!inR p s.subs.length) (s,3) (cond (F2 s p) (s,18) (cond (p==s.bowler||p==s.keeper) (s,17) ({ s with keeper:=p },0)))
theorem We {N:Nat} {s0 s1 s2 s3 s4 s5 s6 s7 s8 s9 s10 s11 s12 s13 s15 s21 s22 s23 s25 s26 s27:Int} {s18 s20:Bool} {s14 s16 s17 s19 s24:Rows} {p:Int} (h:Fit s14 s16 s17 s19 s24):Fc N [.int s0,.int s1,.int s2,.int s3,.int s4,.int s5,.int s6,.int s7,.int s8,.int s9,.int s10,.int s11,.int s12,.int s13,.rows s14,.int s15,.rows s16,.rows s17,.bool s18,.rows s19,.bool s20,.int s21,.int s22,.int s23,.rows s24,.int s25,.int s26,.int s27,.int p]=some (A2 (Nd (⟨s0,s1,s2,s3,s4,s5,s6,s7,s8,s9,s10,s11,s12,s13,s14,s15,s16,s17,s18,s19,s20,s21,s22,s23,s24,s25,s26,s27⟩:Inn) p)):=by
 show H0 (std (Dl N) N) (xOf _)=_
 generalize hres:(some (A2 (Nd (⟨s0,s1,s2,s3,s4,s5,s6,s7,s8,s9,s10,s11,s12,s13,s14,s15,s16,s17,s18,s19,s20,s21,s22,s23,s24,s25,s26,s27⟩:Inn) p)):Option (List PV))=RR
 simp only [H0,N2,ML,Kd,std,xOf,PXb,PXc,PXn,PXm,Nat.reduceAdd,Int.reduceBEq,PX h,GO,Fx h.sb]
 subst hres;simp only [Nd]
 cases inR p s24.length<;>cases F2 (⟨s0,s1,s2,s3,s4,s5,s6,s7,s8,s9,s10,s11,s12,s13,s14,s15,s16,s17,s18,s19,s20,s21,s22,s23,s24,s25,s26,s27⟩:Inn) p<;>cases p==s15<;>cases p==s22<;>rfl
def P5 (s:Inn) (p:Int) (on:Bool):Inn×Int :=
  cond (!inR p s.subs.length) (s,3) (cond (F2 s p==on) (s,18)
    ({ s with subs:=dB s.subs p on,keeper:=cond (on&&s.keeper==p) 0 s.keeper,bowler:=cond (on&&s.bowler==p) 0 s.bowler },0))
theorem Sh {N:Nat} {s0 s1 s2 s3 s4 s5 s6 s7 s8 s9 s10 s11 s12 s13 s15 s21 s22 s23 s25 s26 s27:Int} {s18 s20:Bool} {s14 s16 s17 s19 s24:Rows} {p:Int} {b:Bool} (h:Fit s14 s16 s17 s19 s24):Cy N [.int s0,.int s1,.int s2,.int s3,.int s4,.int s5,.int s6,.int s7,.int s8,.int s9,.int s10,.int s11,.int s12,.int s13,.rows s14,.int s15,.rows s16,.rows s17,.bool s18,.rows s19,.bool s20,.int s21,.int s22,.int s23,.rows s24,.int s25,.int s26,.int s27,.int p,.bool b]=some (A2 (P5 (⟨s0,s1,s2,s3,s4,s5,s6,s7,s8,s9,s10,s11,s12,s13,s14,s15,s16,s17,s18,s19,s20,s21,s22,s23,s24,s25,s26,s27⟩:Inn) p b)):=by
 show Em (std (CN N) N) (xOf _)=_
 generalize hres:(some (A2 (P5 (⟨s0,s1,s2,s3,s4,s5,s6,s7,s8,s9,s10,s11,s12,s13,s14,s15,s16,s17,s18,s19,s20,s21,s22,s23,s24,s25,s26,s27⟩:Inn) p b)):Option (List PV))=RR
 simp only [Em,Ks,Jr,IP,std,xOf,PXb,PXc,PXn,PXm,Nat.reduceAdd,Int.reduceBEq,PX h,GO,Fx h.sb]
 subst hres;simp only [P5]
 cases hp:inR p s24.length<;>try rfl
 rw [It hp h.sb]
 cases F2 (⟨s0,s1,s2,s3,s4,s5,s6,s7,s8,s9,s10,s11,s12,s13,s14,s15,s16,s17,s18,s19,s20,s21,s22,s23,s24,s25,s26,s27⟩:Inn) p==b<;>cases b<;>cases s22==p<;>cases s15==p<;>rfl
def LT (s:Inn) (n:Int):Inn×Int :=
 cond (iLt n 0||iLt (IntKind.i64.wrap ((s.subs.length:Int) - 2)) n) (s,16) ({ s with outside:=n },0)
theorem U7 {N:Nat} {s0 s1 s2 s3 s4 s5 s6 s7 s8 s9 s10 s11 s12 s13 s15 s21 s22 s23 s25 s26 s27:Int} {s18 s20:Bool} {s14 s16 s17 s19 s24:Rows} {n:Int} (h:Fit s14 s16 s17 s19 s24):E1 N [.int s0,.int s1,.int s2,.int s3,.int s4,.int s5,.int s6,.int s7,.int s8,.int s9,.int s10,.int s11,.int s12,.int s13,.rows s14,.int s15,.rows s16,.rows s17,.bool s18,.rows s19,.bool s20,.int s21,.int s22,.int s23,.rows s24,.int s25,.int s26,.int s27,.int n]=some (A2 (LT (⟨s0,s1,s2,s3,s4,s5,s6,s7,s8,s9,s10,s11,s12,s13,s14,s15,s16,s17,s18,s19,s20,s21,s22,s23,s24,s25,s26,s27⟩:Inn) n)):=by
 show Gw (std (IB N) N) (xOf _)=_
 generalize hres:(some (A2 (LT (⟨s0,s1,s2,s3,s4,s5,s6,s7,s8,s9,s10,s11,s12,s13,s14,s15,s16,s17,s18,s19,s20,s21,s22,s23,s24,s25,s26,s27⟩:Inn) n)):Option (List PV))=RR
 simp only [Gw,NO,std,xOf,PXb,PXc,PXn,PXm,Nat.reduceAdd,Int.reduceBEq,PX h]
 subst hres;simp only [LT]
 cases (iLt n 0||iLt (IntKind.i64.wrap ((s24.length:Int) - 2)) n)<;>rfl
def SI (r:Rul) (s:Inn):Int :=
 cond (!inR s.keeper s.subs.length||F2 s s.keeper||s.keeper==s.bowler) 17 (cond (iLt (YB r s.complete) s.outside) 16 0)
theorem Xa {N:Nat} {r1 r2 r3 r4 r5 r6 r7 r9 r10 r11 r12:Int} {r8:Bool} {r0:ByteArray} {r13:Rows} {s0 s1 s2 s3 s4 s5 s6 s7 s8 s9 s10 s11 s12 s13 s15 s21 s22 s23 s25 s26 s27:Int} {s18 s20:Bool} {s14 s16 s17 s19 s24:Rows} (h:Fit s14 s16 s17 s19 s24) (hN:2097152<N) (h13:r13.length≤1048576):GZ N [.str r0,.int r1,.int r2,.int r3,.int r4,.int r5,.int r6,.int r7,.bool r8,.int r9,.int r10,.int r11,.int r12,.rows r13,.int s0,.int s1,.int s2,.int s3,.int s4,.int s5,.int s6,.int s7,.int s8,.int s9,.int s10,.int s11,.int s12,.int s13,.rows s14,.int s15,.rows s16,.rows s17,.bool s18,.rows s19,.bool s20,.int s21,.int s22,.int s23,.rows s24,.int s25,.int s26,.int s27]=some [.int (SI (⟨r0,r1,r2,r3,r4,r5,r6,r7,r8,r9,r10,r11,r12,r13⟩:Rul) (⟨s0,s1,s2,s3,s4,s5,s6,s7,s8,s9,s10,s11,s12,s13,s14,s15,s16,s17,s18,s19,s20,s21,s22,s23,s24,s25,s26,s27⟩:Inn))]:=by
 show I1 (std (Eo N) N) (xOf _)=_
 generalize hres:(some [.int (SI (⟨r0,r1,r2,r3,r4,r5,r6,r7,r8,r9,r10,r11,r12,r13⟩:Rul) (⟨s0,s1,s2,s3,s4,s5,s6,s7,s8,s9,s10,s11,s12,s13,s14,s15,s16,s17,s18,s19,s20,s21,s22,s23,s24,s25,s26,s27⟩:Inn))]:Option (List PV))=RR
 simp only [I1,NC,LV,L6,std,xOf,PXb,PXc,PXn,PXm,Nat.reduceAdd,Int.reduceBEq,GO,Fx h.sb,VS hN h13]
 subst hres;simp only [SI]
 cases inR s22 s24.length<;>cases F2 (⟨s0,s1,s2,s3,s4,s5,s6,s7,s8,s9,s10,s11,s12,s13,s14,s15,s16,s17,s18,s19,s20,s21,s22,s23,s24,s25,s26,s27⟩:Inn) s22<;>cases s22==s15<;>rfl
def Sc (s:Inn) (d:Del):Int :=
  cond (iLt 0 d.fielder && !inR d.fielder s.subs.length) 3 (cond (iLt 0 d.fielder && !(d.sub==F2 s d.fielder)) 18
    (cond (iLt 0 d.second && !inR d.second s.subs.length) 3 (cond (iLt 0 d.second&&F2 s d.second) 18
      (cond (d.how==4 && !(aw d.fielder==s.keeper)) 17 0))))
theorem Xj {N:Nat} {s0 s1 s2 s3 s4 s5 s6 s7 s8 s9 s10 s11 s12 s13 s15 s21 s22 s23 s25 s26 s27:Int} {s18 s20:Bool} {s14 s16 s17 s19 s24:Rows} {d0 d1 d2 d3 d4 d6 d7 d8 d9 d11:Int} {d5 d10:Bool} (h:Fit s14 s16 s17 s19 s24):GY N [.int s0,.int s1,.int s2,.int s3,.int s4,.int s5,.int s6,.int s7,.int s8,.int s9,.int s10,.int s11,.int s12,.int s13,.rows s14,.int s15,.rows s16,.rows s17,.bool s18,.rows s19,.bool s20,.int s21,.int s22,.int s23,.rows s24,.int s25,.int s26,.int s27,.int d0,.int d1,.int d2,.int d3,.int d4,.bool d5,.int d6,.int d7,.int d8,.int d9,.bool d10,.int d11]=some [.int (Sc (⟨s0,s1,s2,s3,s4,s5,s6,s7,s8,s9,s10,s11,s12,s13,s14,s15,s16,s17,s18,s19,s20,s21,s22,s23,s24,s25,s26,s27⟩:Inn) (⟨d0,d1,d2,d3,d4,d5,d6,d7,d8,d9,d10,d11⟩:Del))]:=by
 show Is (std (Gx N) N) (xOf _)=_
 generalize hres:(some [.int (Sc (⟨s0,s1,s2,s3,s4,s5,s6,s7,s8,s9,s10,s11,s12,s13,s14,s15,s16,s17,s18,s19,s20,s21,s22,s23,s24,s25,s26,s27⟩:Inn) (⟨d0,d1,d2,d3,d4,d5,d6,d7,d8,d9,d10,d11⟩:Del))]:Option (List PV))=RR
 simp only [Is,NG,LL,std,xOf,PXb,PXc,PXn,PXm,Nat.reduceAdd,Int.reduceBEq,GO,Fx h.sb]
 subst hres;simp only [Sc,aw,gR]
 cases iLt 0 d8<;>cases iLt 0 d9<;>cases inR d8 s24.length<;>cases inR d9 s24.length<;>cases d10==F2 (⟨s0,s1,s2,s3,s4,s5,s6,s7,s8,s9,s10,s11,s12,s13,s14,s15,s16,s17,s18,s19,s20,s21,s22,s23,s24,s25,s26,s27⟩:Inn) d8<;>cases F2 (⟨s0,s1,s2,s3,s4,s5,s6,s7,s8,s9,s10,s11,s12,s13,s14,s15,s16,s17,s18,s19,s20,s21,s22,s23,s24,s25,s26,s27⟩:Inn) d9<;>rfl
end Go.Px
end
section
namespace Go.Px
set_option maxRecDepth 100000
structure Cre where
 batter:Int
 wides:Int
 noballs:Int
 byes:Int
 legbyes:Int
 bowler:Int
 counts:Bool
 faced:Bool
 wicket:Bool
 swap:Bool
def Cre.ls (c:Cre):List PV:=[.int c.batter,.int c.wides,.int c.noballs,.int c.byes,.int c.legbyes,.int c.bowler,.bool c.counts,.bool c.faced,.bool c.wicket,.bool c.swap]
def SR (d:Del):Bool :=
  cond (d.type==2) (d.source==0 && !(d.boundary==6)) (cond (d.source==0) (d.runs==0&&d.boundary==0)
    (cond (d.boundary==0) (iLt 0 d.runs) (cond (d.boundary==6) (d.source==1&&d.runs==0) true)))
def HX (d:Del):Int :=
  cond (iLt d.type 1||iLt 3 d.type||iLt 3 d.source||iLt 10 d.how || !btw d.sector 0 8) 11
    (cond (!btw d.runs 0 7 || !btw d.short 0 d.runs||(!(d.boundary==0) && !(d.boundary==4) && !(d.boundary==6))) 12
      (cond (!SR d) 11 (cond (!(d.sector==0) && !(d.source==1) && !(d.how==2)) 11 (cond (!(d.boundary==0) && !(d.how==0)) 11
        (cond (d.crossed && !(d.how==6) && !(d.how==8)) 11 0)))))
def Id (d:Del):Bool :=
  cond (d.type==2) (d.source==0 && !(d.boundary==6)) (cond (d.source==0) (d.runs==0&&d.boundary==0)
    (cond (d.source==1) (!(d.boundary==6)||d.runs==0) (!(d.boundary==6)&&(iLt 0 d.runs || !(d.boundary==0)))))
theorem Rs {N:Nat} {d0 d1 d2 d3 d4 d6 d7 d8 d9 d11:Int} {d5 d10:Bool}  : Cb N [.int d0,.int d1,.int d2,.int d3,.int d4,.bool d5,.int d6,.int d7,.int d8,.int d9,.bool d10,.int d11]=some [.bool (Id (⟨d0,d1,d2,d3,d4,d5,d6,d7,d8,d9,d10,d11⟩:Del))]:=by
 show EC (std (JV N) N) (xOf _)=_
 generalize hres:(some [.bool (Id (⟨d0,d1,d2,d3,d4,d5,d6,d7,d8,d9,d10,d11⟩:Del))]:Option (List PV))=RR
 simp only [EC,std,xOf,PXb,PXc,PXn,PXm,Nat.reduceAdd,Int.reduceBEq]
 subst hres;simp only [Id]
theorem gx (x a b:Int):(!btw x a b)=(iLt x a||iLt b x):=by
 unfold btw iLe iLt
 rw [Bool.eq_iff_iff]
 simp only [Bool.not_eq_true',Bool.and_eq_false_iff,decide_eq_false_iff_not,Bool.or_eq_true,decide_eq_true_eq]
 omega
theorem ej {d:Del} (h:0≤d.runs):(!Id d || !d.type==2&&d.source==1&&d.runs==0&&d.boundary==0) = !SR d:=by
 unfold Id SR
 rw [eo h]
 cases h1:d.source==0 with
 | true =>
  rw [Wc h1 (c:=1) rfl]
  cases d.type==2<;>cases d.runs==0<;>cases d.boundary==0<;>cases d.boundary==6<;>rfl
 | false =>
  cases h2:d.boundary==0 with
  | true =>
   rw [Wc h2 (c:=6) rfl]
   cases d.type==2<;>cases d.source==1<;>cases d.runs==0<;>rfl
  | false=>cases d.type==2<;>cases d.source==1<;>cases d.runs==0<;>cases d.boundary==6<;>rfl
theorem Nw {N:Nat} {d0 d1 d2 d3 d4 d6 d7 d8 d9 d11:Int} {d5 d10:Bool}  : Bl N [.int d0,.int d1,.int d2,.int d3,.int d4,.bool d5,.int d6,.int d7,.int d8,.int d9,.bool d10,.int d11]=some [.int (HX (⟨d0,d1,d2,d3,d4,d5,d6,d7,d8,d9,d10,d11⟩:Del))]:=by
 show Fz (std (HJ N) N) (xOf _)=_
 generalize hres:(some [.int (HX (⟨d0,d1,d2,d3,d4,d5,d6,d7,d8,d9,d10,d11⟩:Del))]:Option (List PV))=RR
 simp only [Fz,H8,std,xOf,PXb,PXc,PXn,PXm,Nat.reduceAdd,Int.reduceBEq,Rs]
 subst hres;simp only [HX,gx,Bool.or_assoc]
 cases h2:(iLt d2 0||(iLt 7 d2||(iLt d3 0||(iLt d2 d3 || !d4==0 && !d4==4 && !d4==6)))) with
 | true=>rfl
 | false =>
  have h3:0≤d2:=by
   rw [Bool.or_eq_false_iff] at h2
   have:=h2.1
   simp only [iLt,decide_eq_false_iff_not] at this
   omega
  have:=ej (d:=(⟨d0,d1,d2,d3,d4,d5,d6,d7,d8,d9,d10,d11⟩:Del)) h3
  simp only at this
  rw [this]
theorem UZ {N:Nat} {a:Int} {b:Int} {c:Int} {d:Int} {e:Int} {x:Int} {p:Bool} {q:Bool} {u:Bool} {v:Bool}  : Dn N [.int a,.int b,.int c,.int d,.int e,.int x,.bool p,.bool q,.bool u,.bool v]=some [.int (IntKind.i64.wrap (IntKind.i64.wrap (IntKind.i64.wrap (IntKind.i64.wrap (a+b)+c)+d)+e))]:=by
 rfl
def YM (c:Cre):Int:=IntKind.i64.wrap (IntKind.i64.wrap (IntKind.i64.wrap (IntKind.i64.wrap (c.batter+c.wides)+c.noballs)+c.byes)+c.legbyes)
def Wi (h:Int):Bool:=iLe 1 h&&iLe h 5
theorem Ri {N:Nat} {h:Int}  : Cd N [.int h]=some [.bool (Wi h)]:=by
 show ED (std (JS N) N) (xOf _)=_
 simp only [ED,std,xOf,PXb,PXc,PXn,PXm,Nat.reduceAdd,Int.reduceBEq,Wi]
def dz (r:Rul) (d:Del):Cre :=
  let n:=IntKind.i64.wrap (IntKind.i64.wrap (d.runs - d.short)+d.boundary)
  let b:=cond (!(d.type==2)&&d.source==1) n 0
  let w:=cond (d.type==2) (IntKind.i64.wrap (r.wide+n)) 0
  let o:=cond (d.type==3) r.noball 0
  { batter:=b,wides:=w,noballs:=o,byes:=cond (!(d.type==2)&&d.source==2) n 0,legbyes:=cond (!(d.type==2)&&d.source==3) n 0,bowler:=IntKind.i64.wrap (IntKind.i64.wrap (b+w)+o),
    counts:=d.type==1,faced := !(d.type==2),wicket:=Wi d.how,swap := !((!(d.runs.tmod 2==0))==d.crossed) }
def EK (r:Rul) (d:Del):Cre:=cond (!(HX d==0)) ⟨0,0,0,0,0,0,false,false,false,false⟩ (dz r d)
theorem aL {d:Del} (h:(HX d==0)=true):0≤d.runs∧d.runs≤7:=by
 unfold HX at h
 cases h1:(iLt d.type 1||iLt 3 d.type||iLt 3 d.source||iLt 10 d.how || !btw d.sector 0 8) with
 | true=>rw [h1] at h;cases h
 | false =>
  cases h2:(!btw d.runs 0 7 || !btw d.short 0 d.runs||(!(d.boundary==0) && !(d.boundary==4) && !(d.boundary==6))) with
  | true=>rw [h1,h2] at h;cases h
  | false =>
   rw [Bool.or_eq_false_iff,Bool.or_eq_false_iff] at h2
   have:=h2.1.1
   simp only [btw,iLe,Bool.not_eq_false',Bool.and_eq_true,decide_eq_true_eq] at this
   exact this
theorem eX {n:Int} (h:0≤n∧n≤7) (b:Bool):((cond b (IntKind.i64.wrap (n+1)) n).tmod 2==1) = !((!(n.tmod 2==0))==b):=by
 obtain ⟨k,rfl⟩:∃ k:Nat,n=k:=⟨n.toNat,by omega⟩
 have:k=0∨k=1∨k=2∨k=3∨k=4∨k=5∨k=6∨k=7:=by omega
 rcases this with h | h | h | h | h | h | h | h<;>subst h<;>cases b<;>rfl
theorem Tf {N:Nat} {r1 r2 r3 r4 r5 r6 r7 r9 r10 r11 r12:Int} {r8:Bool} {r0:ByteArray} {r13:Rows} {d0 d1 d2 d3 d4 d6 d7 d8 d9 d11:Int} {d5 d10:Bool}  : DW N [.str r0,.int r1,.int r2,.int r3,.int r4,.int r5,.int r6,.int r7,.bool r8,.int r9,.int r10,.int r11,.int r12,.rows r13,.int d0,.int d1,.int d2,.int d3,.int d4,.bool d5,.int d6,.int d7,.int d8,.int d9,.bool d10,.int d11]=some (EK (⟨r0,r1,r2,r3,r4,r5,r6,r7,r8,r9,r10,r11,r12,r13⟩:Rul) (⟨d0,d1,d2,d3,d4,d5,d6,d7,d8,d9,d10,d11⟩:Del)).ls:=by
 show E9 (std (D6 N) N) (xOf _)=_
 generalize hres:(some (EK (⟨r0,r1,r2,r3,r4,r5,r6,r7,r8,r9,r10,r11,r12,r13⟩:Rul) (⟨d0,d1,d2,d3,d4,d5,d6,d7,d8,d9,d10,d11⟩:Del)).ls:Option (List PV))=RR
 simp only [E9,JM,Hf,std,xOf,PXb,PXc,PXn,PXm,Nat.reduceAdd,Int.reduceBEq,Nw,Ri]
 subst hres;simp only [EK,dz]
 cases hl:HX (⟨d0,d1,d2,d3,d4,d5,d6,d7,d8,d9,d10,d11⟩:Del)==0 with
 | false=>rfl
 | true =>
  have hs:=eX (aL hl) d5
  simp only at hs
  simp only [PXb,PXc,PXn,PXm,Nat.reduceAdd,Int.reduceBEq,hs]
  cases h0:d0==2<;>cases h3:d0==3<;>cases h1:d1==1<;>cases h2:d1==2<;>cases h4:d1==3<;>first
   | rfl
   | (rw [Wc h0 (c:=3) rfl] at h3;exact absurd h3 (by decide))
   | (rw [Wc h1 (c:=2) rfl] at h2;exact absurd h2 (by decide))
   | (rw [Wc h1 (c:=3) rfl] at h4;exact absurd h4 (by decide))
   | (rw [Wc h2 (c:=3) rfl] at h4;exact absurd h4 (by decide))
end Go.Px
end
section
namespace Go.Px
set_option maxRecDepth 100000
def onS (h t:Int):Bool :=
 cond (h==1||h==2||h==3) (t==1) (cond (h==4||h==5) (t==1||t==2) (cond (h==7) (t==1||t==3) (cond (h==6||h==8) (t==1||t==2||t==3) false)))
def aO (h:Int):Bool:=h==6||h==7||h==8
def Ne (h:Int):Bool:=h==6||h==8
def V4 (h:Int):Bool:=h==2||h==4||h==6
def Of (d:Del) (free:Bool):Int :=
  cond (d.how==0) (cond (!(d.victim==0)) 14 (cond (!(d.fielder==0) || !(d.second==0)||d.sub) 15 0))
    (cond (!onS d.how d.type||free && !aO d.how) 13 (cond (!Ne d.how&&(!(d.source==0) || !(d.runs==0))) 12
      (cond (!(d.victim==1) && !(d.victim==2&&Ne d.how)) 14
        (cond (V4 d.how && !btw d.fielder 1 11 || !V4 d.how && !(d.fielder==0)) 15
          (cond (!(d.second==0)&&(!(d.how==6) || !btw d.second 1 11||d.second==d.fielder)) 15
            (cond (d.sub && !(d.how==2) && !(d.how==6)) 18 0))))))
def BQ:Rows:=match BJ 0 [] with
 | some [.rows l]=>l
 | _=>[]
theorem M1 {N:Nat}:BJ N []=some [.rows BQ]:=rfl
theorem UO:BQ.length=11:=rfl
theorem R6 {N:Nat} {h:Int} {n:ByteArray} {b:Bool} {c:Bool} {d:Bool} {e:Bool} {x:Bool} {t:Int}  : Cv N [.int h,.str n,.bool b,.bool c,.bool d,.bool e,.bool x,.int t]=some [.bool (t==1&&b||t==2&&c||t==3&&d)]:=by
 show Ek (std (KL N) N) (xOf _)=_
 simp only [Ek,std,xOf,PXb,PXc,PXn,PXm,Nat.reduceAdd,Int.reduceBEq]
theorem PY {N:Nat} {n:Int}  : B3 N [.int n]=some [.bool (btw n 1 11)]:=by
 show Cj (std (Hd N) N) (xOf _)=_
 simp only [Cj,std,xOf,PXb,PXc,PXn,PXm,Nat.reduceAdd,Int.reduceBEq]
 rfl
def bI (i j:Nat):Bool:=pvB (AA BQ i j)
def wOk (t:Int) (free:Bool) (i:Nat):Bool :=
  (t==1&&bI i 2||t==2&&bI i 3||t==3&&bI i 4)&&(!free||atI BQ i 0==6||atI BQ i 0==7||atI BQ i 0==8)
def GD (t:Int) (free:Bool):Nat→Rows
 | 0=>[]
 | i+1=>cond (wOk t free i) (GD t free i++[[.int (atI BQ i 0)]]) (GD t free i)
theorem Uc (t:Int) (free:Bool):∀ i,(GD t free i).length≤i
 | 0=>Nat.le_refl _
 | i+1=>by
  have:=Uc t free i
  unfold GD
  cases wOk t free i
  ·exact Nat.le_succ_of_le this
  ·simp;exact this
theorem Ug {N:Nat} {t:Int} {f:Bool} (hN:2097152<N):Dq N [.int t,.bool f]=some [.rows (GD t f 11)]:=by
 show GA (std (EU N) N) (xOf _)=_
 simp only [GA,JJ,Ie,std,xOf,PXb,PXc,PXn,AG,M1,R6]
 refine AZ (CO (len:=BQ.length) (fun i=>[.rows (GD t f i),.int (i:Int)]) [.rows (GD t f 11)] ?_ ?_ N (by rw [UO];omega)) rfl
 ·intro self
  simp only [PXb,PXc,PXn,AG,BT]
  rfl
 ·intro i self hi
  have hi2:i<11:=hi
  have h2:(GD t f i++[[PV.int (atI BQ i 0)]]).length≤4194304:=by have:=Uc t f i;simp;omega
  simp only [PXb,PXc,AG,Av (show i≤1099511627776 by omega),A9 hi,Ak hi,De,GD,G7 h2 (show 1≤4096 by omega)]
  unfold wOk bI
  cases ((t==1&&pvB (AA BQ i 2)||t==2&&pvB (AA BQ i 3)||t==3&&pvB (AA BQ i 4))&&(!f||atI BQ i 0==6||atI BQ i 0==7||atI BQ i 0==8))<;>rfl
theorem SX {N:Nat} {L:Rows} {v:Int} (hN:L.length<N) (hl:L.length≤1048576):Cz N [.rows L,.int v]=some [.int (Mf (fun j=>v==atI L j 0) L.length)]:=by
 show EW (std (Js N) N) (xOf _)=_
 simp only [EW,std,xOf,PXb,PXc,PXn,AG]
 refine AZ (CT (len:=L.length) (E5 fun j=>v==atI L j 0) ?_ ?_ L.length 0 N (by omega) (by omega)) ?_
 ·intro self
  simp only [PXb,PXc,PXn,AG,BT]
 ·intro i self hi
  simp only [PXb,PXc,PXn,AG,Av (show i≤1099511627776 by omega),A9 hi,Ak hi,E5,De]
  cases v==atI L i 0<;>rfl
 ·unfold Mf
  cases Bj (E5 fun j=>v==atI L j 0) L.length 0<;>rfl
theorem QV {N:Nat} {L:Rows} {v:Int} (hN:L.length<N) (hl:L.length≤1048576):CC N [.rows L,.int v]=some [.bool (H5 L L.length v)]:=by
 show C6 (std (EI N) N) (xOf _)=_
 simp only [C6,Gn,std,xOf,PXb,PXc,PXn,AG,SX hN hl,Hz,H5]
theorem dP (L:Rows) (v:Int):H5 L L.length v=IC (fun x=>v==x) L:=rfl
theorem fg (p:Int→Bool) (b:Bool) (L:Rows) (x:Int):IC p (cond b (L++[[.int x]]) L)=(IC p L||(b&&p x)):=by
 cases b with
 | false=>simp
 | true=>rw [cond_true,YD,Bool.true_and];congr 1;rw [K9];simp [AB,pvI]
theorem ZK (t:Int) (free:Bool) (p:Int→Bool):∀ i,IC p (GD t free i)=BL (fun j=>wOk t free j&&p (atI BQ j 0)) i 0
 | 0=>rfl
 | i+1=>by rw [SE,← ZK t free p i,GD,fg,Nat.zero_add]
theorem dN (t h:Int) (free:Bool):H5 (GD t free 11) (GD t free 11).length h=(onS h t&&(!free||aO h)):=by
 rw [dP,ZK]
 have key:∀ j,j<11→atI BQ j 0=j:=by
  intro j hj
  have:j=0∨j=1∨j=2∨j=3∨j=4∨j=5∨j=6∨j=7∨j=8∨j=9∨j=10:=by omega
  rcases this with h | h | h | h | h | h | h | h | h | h | h<;>subst h<;>rfl
 by_cases hr:0≤h∧h≤10
 ·obtain ⟨k,rfl⟩:∃ k:Nat,h=k:=⟨h.toNat,by omega⟩
  have:k=0∨k=1∨k=2∨k=3∨k=4∨k=5∨k=6∨k=7∨k=8∨k=9∨k=10:=by omega
  rcases this with h | h | h | h | h | h | h | h | h | h | h<;>subst h<;>simp only [Bd,Ha,wOk,onS]<;>cases free<;>cases t==1<;>cases t==2<;>cases t==3<;>rfl
 ·rw [Ht.2 fun j _ hj=>by
   rw [key j (by omega),show (h==(j:Int))=false from beq_false_of_ne (by omega),Bool.and_false]]
  have e:∀ n:Int,0≤n→n≤10→(h==n)=false:=fun n h0 h1=>beq_false_of_ne (by omega)
  unfold onS
  rw [e 1 (by omega) (by omega),e 2 (by omega) (by omega),e 3 (by omega) (by omega),e 4 (by omega) (by omega),e 5 (by omega) (by omega),e 6 (by omega) (by omega),e 7 (by omega) (by omega),e 8 (by omega) (by omega)]
  rfl
def Q2 (h:Int):List PV:=match Bj (fun i=>cond (atI BQ i 0==h) (some [.int (pvI (AA BQ i 0)),.str (pvS (AA BQ i 1)),.bool (pvB (AA BQ i 2)),.bool (pvB (AA BQ i 3)),.bool (pvB (AA BQ i 4)),.bool (pvB (AA BQ i 5)),.bool (pvB (AA BQ i 6))]) none) 11 0 with
 | some r=>r
 | none=>[.int 0,.str ⟨#[]⟩,.bool false,.bool false,.bool false,.bool false,.bool false]
theorem M5 {ans:Nat→Option (List PV)} {r:List PV}:∀ (k i:Nat),Bj ans k i=some r→∃ j,i≤j∧j<i+k∧ans j=some r
 | 0,i,h=>by cases h
 | k+1,i,h=>by
  simp only [Bj] at h
  cases ha:ans i with
  | some x=>rw [ha] at h;cases h;exact ⟨i,Nat.le_refl _,by omega,ha⟩
  | none =>
   rw [ha] at h
   obtain ⟨j,h1,h2,h3⟩:=M5 k (i+1) h
   exact ⟨j,by omega,by omega,h3⟩
theorem ct (h:Int):∃ a b c d e f g,Q2 h=[.int a,.str b,.bool c,.bool d,.bool e,.bool f,.bool g]:=by
 unfold Q2
 generalize hf:Bj _ 11 0=o
 cases o with
 | none=>exact ⟨_,_,_,_,_,_,_,rfl⟩
 | some r =>
  obtain ⟨j,_,_,h3⟩:=M5 _ _ hf
  cases hb:atI BQ j 0==h with
  | false=>rw [hb] at h3;cases h3
  | true=>rw [hb] at h3;cases h3;exact ⟨_,_,_,_,_,_,_,rfl⟩
theorem Wk {N:Nat} {h:Int} (hN:2097152<N):FZ N [.int h]=some (Q2 h):=by
 show Hv (std (JA N) N) (xOf _)=_
 simp only [Hv,J7,std,xOf,PXb,PXc,PXn,AG,M1]
 refine AZ (CT (len:=BQ.length) (fun i=>cond (atI BQ i 0==h) (some [.int (pvI (AA BQ i 0)),.str (pvS (AA BQ i 1)),.bool (pvB (AA BQ i 2)),.bool (pvB (AA BQ i 3)),.bool (pvB (AA BQ i 4)),.bool (pvB (AA BQ i 5)),.bool (pvB (AA BQ i 6))]) none) ?_ ?_ BQ.length 0 N (by omega) (by rw [UO];omega)) ?_
 ·intro self
  simp only [PXb,PXc,PXn,AG,BT]
 ·intro i self hi
  have hi2:i<11:=hi
  simp only [PXb,PXc,PXn,AG,Av (show i≤1099511627776 by omega),A9 hi,Ak hi,De]
  cases atI BQ i 0==h<;>rfl
 ·unfold Q2
  rw [UO]
  generalize hf:Bj _ 11 0=o
  cases o with
  | none=>rfl
  | some r =>
   obtain ⟨j,_,_,h3⟩:=M5 _ _ hf
   cases hb:atI BQ j 0==h with
   | false=>rw [hb] at h3;cases h3
   | true=>rw [hb] at h3;cases h3;rfl
theorem cU (h:Int):pvB (AB (Q2 h) 5)=V4 h∧pvB (AB (Q2 h) 6)=Ne h:=by
 by_cases hr:0≤h∧h≤10
 ·obtain ⟨k,rfl⟩:∃ k:Nat,h=k:=⟨h.toNat,by omega⟩
  have:k=0∨k=1∨k=2∨k=3∨k=4∨k=5∨k=6∨k=7∨k=8∨k=9∨k=10:=by omega
  rcases this with h | h | h | h | h | h | h | h | h | h | h<;>subst h<;>exact ⟨rfl,rfl⟩
 ·have e:∀ n:Int,0≤n→n≤10→(h==n)=false:=fun n h0 h1=>beq_false_of_ne (by omega)
  have key:∀ j,j<11→atI BQ j 0=j:=by
   intro j hj
   have:j=0∨j=1∨j=2∨j=3∨j=4∨j=5∨j=6∨j=7∨j=8∨j=9∨j=10:=by omega
   rcases this with h | h | h | h | h | h | h | h | h | h | h<;>subst h<;>rfl
  unfold Q2
  generalize hf:Bj _ 11 0=o
  cases o with
  | none =>
   unfold V4 Ne
   rw [e 2 (by omega) (by omega),e 4 (by omega) (by omega),e 6 (by omega) (by omega),e 8 (by omega) (by omega)]
   exact ⟨rfl,rfl⟩
  | some r =>
   obtain ⟨j,_,hj,h3⟩:=M5 _ _ hf
   rw [key j (by omega),show ((j:Int)==h)=false from beq_false_of_ne (by omega)] at h3
   cases h3
def MC (d:Del) (m:Bool):Bool :=
 !(!(m==btw d.fielder 1 11) || !m && !(d.fielder==0))&&(d.second==0||d.how==6&&btw d.second 1 11 && !(d.second==d.fielder))
theorem Qq {N:Nat} {d0 d1 d2 d3 d4 d6 d7 d8 d9 d11:Int} {d5 d10:Bool} {a:Int} {n:ByteArray} {b:Bool} {c:Bool} {e:Bool} {f:Bool} {g:Bool}  : CK N [.int d0,.int d1,.int d2,.int d3,.int d4,.bool d5,.int d6,.int d7,.int d8,.int d9,.bool d10,.int d11,.int a,.str n,.bool b,.bool c,.bool e,.bool f,.bool g]=some [.bool (MC (⟨d0,d1,d2,d3,d4,d5,d6,d7,d8,d9,d10,d11⟩:Del) f)]:=by
 show DZ (std (E3 N) N) (xOf _)=_
 generalize hres:(some [.bool (MC (⟨d0,d1,d2,d3,d4,d5,d6,d7,d8,d9,d10,d11⟩:Del) f)]:Option (List PV))=RR
 simp only [DZ,Fq,std,xOf,PXb,PXc,PXn,PXm,Nat.reduceAdd,Int.reduceBEq,PY]
 subst hres;simp only [MC]
 cases d9==0<;>cases d6==6<;>cases f<;>cases btw d8 1 11<;>cases d8==0<;>first | rfl | (cases btw d9 1 11<;>rfl)
theorem gw {α:Type} (a b:Bool) (x y:α):cond (a||b) x y=cond a x (cond b x y):=by cases a<;>rfl
theorem Zi (d:Del) (m:Bool):(!MC d m)=((m && !btw d.fielder 1 11 || !m && !(d.fielder==0))||(!(d.second==0)&&(!(d.how==6) || !btw d.second 1 11||d.second==d.fielder))):=by
 unfold MC
 cases hb:btw d.fielder 1 11<;>cases hf:d.fielder==0
 ·cases m<;>cases d.second==0<;>cases d.how==6<;>cases btw d.second 1 11<;>cases d.second==d.fielder<;>rfl
 ·cases m<;>cases d.second==0<;>cases d.how==6<;>cases btw d.second 1 11<;>cases d.second==d.fielder<;>rfl
 ·cases m<;>cases d.second==0<;>cases d.how==6<;>cases btw d.second 1 11<;>cases d.second==d.fielder<;>rfl
 ·rw [beq_iff_eq.1 hf] at hb;exact absurd hb (by decide)
theorem Qp {N:Nat} {d0 d1 d2 d3 d4 d6 d7 d8 d9 d11:Int} {d5 d10:Bool} {f:Bool} (hN:2097152<N):CP N [.int d0,.int d1,.int d2,.int d3,.int d4,.bool d5,.int d6,.int d7,.int d8,.int d9,.bool d10,.int d11,.bool f]=some [.int (Of (⟨d0,d1,d2,d3,d4,d5,d6,d7,d8,d9,d10,d11⟩:Del) f)]:=by
 show DY (std (BZ N) N) (xOf _)=_
 generalize hres:(some [.int (Of (⟨d0,d1,d2,d3,d4,d5,d6,d7,d8,d9,d10,d11⟩:Del) f)]:Option (List PV))=RR
 have hl:=Uc d0 f 11
 obtain ⟨a,b,c,d,e,m,g,hline⟩:=ct d6
 have hbits:=cU d6
 rw [hline] at hbits
 have hm:m=V4 d6:=hbits.1
 have hg:g=Ne d6:=hbits.2
 have h1:(GD d0 f 11).length<N:=by omega
 have h2:(GD d0 f 11).length≤1048576:=by omega
 simp only [DY,IH,F5,Hu,GU,std,xOf,PXb,PXc,PXn,PXm,Nat.reduceAdd,Int.reduceBEq,Wk hN,hline,Ug hN,QV h1 h2,dN,Qq,Zi]
 subst hres;simp only [Of,gw]
 rw [hm,hg]
 unfold Ne
 cases d6==0<;>cases onS d6 d0<;>cases f<;>cases aO d6<;>try rfl
 all_goals (cases d6==6<;>cases d6==8<;>cases d7==2<;>rfl)
end Go.Px
end
section
namespace Go.Px
set_option maxRecDepth 100000
theorem R4 {N:Nat} {a:Int} {b:Int} {c:Int}  : Cq N [.int a,.int b,.int c]=some [.bool (btw a b c)]:=by
 show HG (std (Ju N) N) (xOf _)=_
 show some [PV.bool (cond (iLe b a) (iLe a c) false)]=_
 rw [Ve];rfl
theorem VO {N:Nat} {a:Int} {b:Int} {c:Int}  : EX N [.int a,.int b,.int c]=some [.bool (btw a b c)]:=by
 show KN (std (Mp N) N) (xOf _)=_
 show some [PV.bool (cond (iLe b a) (iLe a c) false)]=_
 rw [Ve];rfl
def Xu (d:Del):Int :=
  cond (iLt d.type 1||iLt 3 d.type||iLt 3 d.source||iLt 10 d.how) 3
    (cond (!btw d.runs 0 7 || !btw d.short 0 d.runs||(!(d.boundary==0) && !(d.boundary==4) && !(d.boundary==6)) || !btw d.victim 0 2 || !btw d.fielder 0 11 || !btw d.second 0 11 || !btw d.sector 0 8) 2 0)
theorem UP {N:Nat} {d0 d1 d2 d3 d4 d6 d7 d8 d9 d11:Int} {d5 d10:Bool}  : Dy N [.int d0,.int d1,.int d2,.int d3,.int d4,.bool d5,.int d6,.int d7,.int d8,.int d9,.bool d10,.int d11]=some [.int (Xu (⟨d0,d1,d2,d3,d4,d5,d6,d7,d8,d9,d10,d11⟩:Del))]:=by
 show F6 (std (HU N) N) (xOf _)=_
 generalize hres:(some [.int (Xu (⟨d0,d1,d2,d3,d4,d5,d6,d7,d8,d9,d10,d11⟩:Del))]:Option (List PV))=RR
 simp only [F6,ID,std,xOf,PXb,PXc,PXn,PXm,Nat.reduceAdd,Int.reduceBEq,R4]
 subst hres;simp only [Xu]
def loS (k:Int):Int:=cond (k==7) 0 (cond (k==13) 1 0)
def hiS (k:Int):Int:=cond (k==7) 11 (cond (k==13) 99 100000)
theorem WL {N:Nat} {k:Int}  : Ff N [.int k]=some [.int (loS k),.int (hiS k)]:=by
 show Hj (std (N5 N) N) (xOf _)=_
 simp only [Hj,std,xOf,PXb,PXc,PXn,PXm,Nat.reduceAdd,Int.reduceBEq]
 unfold loS hiS
 cases k==7<;>cases k==13<;>rfl
def uS (k:Int):Bool:=k==1||k==12||k==14||k==11||k==13
def uP (k:Int):Bool:=k==2||k==3||k==8||k==5||k==6||k==9
def uO (k:Int):Bool:=k==2
def uY (k:Int):Bool:=k==1||k==12||k==14||k==5||k==6||k==9
def uR (k:Int):Bool:=k==7||k==13||k==15
def uV (k:Int):Bool:=k==15
def uB (k:Int):Bool:=k==4
theorem QR {k:Int} (h:(iLt k 1||iLt 16 k)=false):k=1∨k=2∨k=3∨k=4∨k=5∨k=6∨k=7∨k=8∨k=9∨k=10∨k=11∨k=12∨k=13∨k=14∨k=15∨k=16:=by
 simp only [iLt,Bool.or_eq_false_iff,decide_eq_false_iff_not] at h
 omega
theorem dE {k:Int} (h:(iLt k 1||iLt 16 k)=true) (n:Int) (h1:1≤n) (h2:n≤16):(k==n)=false:=by
 simp only [iLt,Bool.or_eq_true,decide_eq_true_eq] at h
 exact beq_false_of_ne (by omega)
def aI:Rows:=match EM 0 [] with
 | some [.rows l]=>l
 | _=>[]
theorem XY {N:Nat}:EM N []=some [.rows aI]:=rfl
def CY (k f:Int):Bool:=iLe 0 (Lib.indexByte (pvS (AA aI (IntKind.u8.wrap (k - 1)).toNat 1)).data.toList f.toNat.toUInt8)||(k==5&&f==121)
theorem Rq {N:Nat} {s:ByteArray} {f:Int}  : Ca N [.str s,.int f]=some [.int (Lib.indexByte s.data.toList f.toNat.toUInt8)]:=by
 show EA (std (Fe N) N) (xOf _)=_
 simp only [EA,Fp,std,xOf,PXb,PXc,PXn,PXm,Nat.reduceAdd,Int.reduceBEq,Br,Vq]
theorem Ss {N:Nat} {k:Int} {f:Int} (h:(iLt k 1||iLt 16 k)=false):HW N [.int k,.int f]=some [.bool (CY k f)]:=by
 show J3 (std (Hr N) N) (xOf _)=_
 have hi:iIn (IntKind.u8.wrap (k - 1)) (aI.length:Int)=true:=by
  rcases QR h with h | h | h | h | h | h | h | h | h | h | h | h | h | h | h | h<;>subst h<;>rfl
 simp only [J3,Jo,Nx,std,xOf,PXb,PXc,PXn,PXm,Nat.reduceAdd,Int.reduceBEq,XY,Rq,hi,CY]
theorem fR {k:Int} (h:(iLt k 1||iLt 16 k)=false):CY k 115=uS k∧CY k 112=uP k∧CY k 111=uO k∧CY k 121=uY k∧CY k 114=uR k∧CY k 118=uV k∧CY k 98=uB k:=by
 rcases QR h with h | h | h | h | h | h | h | h | h | h | h | h | h | h | h | h<;>subst h<;>exact ⟨rfl,rfl,rfl,rfl,rfl,rfl,rfl⟩
def Qf (d:Del):Bool:=d.type==0&&(d.source==0&&(d.runs==0&&(d.short==0&&(d.boundary==0&&(d.crossed==false&&(d.how==0&&(d.victim==0&&(d.fielder==0&&(d.second==0&&(d.sub==false&&d.sector==0))))))))))
def Uy (e:Ev):Bool:=(!(e.side==0) && !uS e.kind)||((!(e.player==0) && !uP e.kind)||((!(e.other==0) && !uO e.kind)||((e.yes && !uY e.kind)||((!(e.runs==0) && !uR e.kind)||((!(e.overs==0) && !uV e.kind)||(!Qf e.ball && !uB e.kind))))))
def RC (e:Ev):Bool:=(!btw e.side 1 2&&uS e.kind)||((!btw e.player 1 11&&uP e.kind)||((!btw e.other 1 11&&uO e.kind)||((!btw e.runs (loS e.kind) (hiS e.kind)&&uR e.kind)||(!btw e.overs 0 90&&uV e.kind))))
def evS (e:Ev):Int:=cond (iLt e.kind 1||iLt 16 e.kind) 3 (cond (Uy e) 1 (cond (RC e) 2 (cond (e.kind==4) (Xu e.ball) 0)))
def evT (e:Ev):Rows:=[[.int 115,.bool (e.side==0),.bool (btw e.side 1 2)],[.int 112,.bool (e.player==0),.bool (btw e.player 1 11)],[.int 111,.bool (e.other==0),.bool (btw e.other 1 11)],[.int 121,.bool (!e.yes),.bool true],[.int 114,.bool (e.runs==0),.bool (btw e.runs (loS e.kind) (hiS e.kind))],[.int 118,.bool (e.overs==0),.bool (btw e.overs 0 90)],[.int 98,.bool (Qf e.ball),.bool true]]
theorem RU {N:Nat} {e0 e1 e2 e3 e5 e6 e7 e8 e9 e10 e11 e13 e14 e15 e16 e18:Int} {e4 e12 e17:Bool} (hN:2097152<N):CR N [.int e0,.int e1,.int e2,.int e3,.bool e4,.int e5,.int e6,.int e7,.int e8,.int e9,.int e10,.int e11,.bool e12,.int e13,.int e14,.int e15,.int e16,.bool e17,.int e18]=some [.int (evS (⟨e0,e1,e2,e3,e4,e5,e6,⟨e7,e8,e9,e10,e11,e12,e13,e14,e15,e16,e17,e18⟩⟩:Ev))]:=by
 show GL (std (DA N) N) (xOf _)=_
 generalize hres:(some [.int (evS (⟨e0,e1,e2,e3,e4,e5,e6,⟨e7,e8,e9,e10,e11,e12,e13,e14,e15,e16,e17,e18⟩⟩:Ev))]:Option (List PV))=RR
 cases hk:iLt e0 1||iLt 16 e0 with
 | true =>
  simp only [GL,GV,Fr,HM,Cg,std,xOf,PXb,PXc,AG,hk,← hres,evS]
 | false =>
  simp only [GL,GV,Fr,HM,Cg,std,xOf,PXb,PXc,AG,hk,WL,VO]
  subst hres
  obtain ⟨g1,g2,g3,g4,g5,g6,g7⟩:=fR hk
  refine AZ (I9 (len:=7) (fun i => !pvB (AA (evT (⟨e0,e1,e2,e3,e4,e5,e6,⟨e7,e8,e9,e10,e11,e12,e13,e14,e15,e16,e17,e18⟩⟩:Ev)) i 1) && !CY e0 (pvI (AA (evT (⟨e0,e1,e2,e3,e4,e5,e6,⟨e7,e8,e9,e10,e11,e12,e13,e14,e15,e16,e17,e18⟩⟩:Ev)) i 0))) [.int 1] ?_ ?_ N (by omega)) ?_
  ·intro self
   rfl
  ·intro i self hi
   simp only [PXb,PXc,AG,Av (show i≤1099511627776 by omega),List.length_cons,List.length_nil,Nat.reduceAdd,A9 hi,Ak hi,Ss hk]
   change cond (!pvB (AA (evT (⟨e0,e1,e2,e3,e4,e5,e6,⟨e7,e8,e9,e10,e11,e12,e13,e14,e15,e16,e17,e18⟩⟩:Ev)) i 1) && !(!pvB (AA (evT (⟨e0,e1,e2,e3,e4,e5,e6,⟨e7,e8,e9,e10,e11,e12,e13,e14,e15,e16,e17,e18⟩⟩:Ev)) i 1)&&CY e0 (pvI (AA (evT (⟨e0,e1,e2,e3,e4,e5,e6,⟨e7,e8,e9,e10,e11,e12,e13,e14,e15,e16,e17,e18⟩⟩:Ev)) i 0)))) _ _=_
   cases pvB (AA (evT (⟨e0,e1,e2,e3,e4,e5,e6,⟨e7,e8,e9,e10,e11,e12,e13,e14,e15,e16,e17,e18⟩⟩:Ev)) i 1)<;>rfl
  ·have a1:BL (fun i => !pvB (AA (evT (⟨e0,e1,e2,e3,e4,e5,e6,⟨e7,e8,e9,e10,e11,e12,e13,e14,e15,e16,e17,e18⟩⟩:Ev)) i 1) && !CY e0 (pvI (AA (evT (⟨e0,e1,e2,e3,e4,e5,e6,⟨e7,e8,e9,e10,e11,e12,e13,e14,e15,e16,e17,e18⟩⟩:Ev)) i 0))) 7 0=Uy (⟨e0,e1,e2,e3,e4,e5,e6,⟨e7,e8,e9,e10,e11,e12,e13,e14,e15,e16,e17,e18⟩⟩:Ev):=by
    simp only [Bd,Ha]
    change (!(e1==0) && !CY e0 115||(!(e2==0) && !CY e0 112||(!(e3==0) && !CY e0 111||(!(!e4) && !CY e0 121||(!(e5==0) && !CY e0 114||(!(e6==0) && !CY e0 118||(!(Qf (⟨e0,e1,e2,e3,e4,e5,e6,⟨e7,e8,e9,e10,e11,e12,e13,e14,e15,e16,e17,e18⟩⟩:Ev).ball) && !CY e0 98||false)))))))=_
    rw [g1,g2,g3,g4,g5,g6,g7,Bool.not_not,Bool.or_false]
    rfl
   rw [a1]
   simp only [evS,hk,cond_false]
   cases Uy (⟨e0,e1,e2,e3,e4,e5,e6,⟨e7,e8,e9,e10,e11,e12,e13,e14,e15,e16,e17,e18⟩⟩:Ev) with
   | true=>rfl
   | false =>
    simp only [PXb,PXc,AG]
    refine AZ (I9 (len:=7) (fun i => !pvB (AA (evT (⟨e0,e1,e2,e3,e4,e5,e6,⟨e7,e8,e9,e10,e11,e12,e13,e14,e15,e16,e17,e18⟩⟩:Ev)) i 2)&&CY e0 (pvI (AA (evT (⟨e0,e1,e2,e3,e4,e5,e6,⟨e7,e8,e9,e10,e11,e12,e13,e14,e15,e16,e17,e18⟩⟩:Ev)) i 0))) [.int 2] ?_ ?_ N (by omega)) ?_
    ·intro self
     rfl
    ·intro i self hi
     simp only [PXb,PXc,AG,Av (show i≤1099511627776 by omega),List.length_cons,List.length_nil,Nat.reduceAdd,A9 hi,Ak hi,Ss hk]
     rfl
    ·have a2:BL (fun i => !pvB (AA (evT (⟨e0,e1,e2,e3,e4,e5,e6,⟨e7,e8,e9,e10,e11,e12,e13,e14,e15,e16,e17,e18⟩⟩:Ev)) i 2)&&CY e0 (pvI (AA (evT (⟨e0,e1,e2,e3,e4,e5,e6,⟨e7,e8,e9,e10,e11,e12,e13,e14,e15,e16,e17,e18⟩⟩:Ev)) i 0))) 7 0=RC (⟨e0,e1,e2,e3,e4,e5,e6,⟨e7,e8,e9,e10,e11,e12,e13,e14,e15,e16,e17,e18⟩⟩:Ev):=by
      simp only [Bd,Ha]
      change (!(btw e1 1 2)&&CY e0 115||(!(btw e2 1 11)&&CY e0 112||(!(btw e3 1 11)&&CY e0 111||(!true&&CY e0 121||(!(btw e5 (loS e0) (hiS e0))&&CY e0 114||(!(btw e6 0 90)&&CY e0 118||(!true&&CY e0 98||false)))))))=_
      rw [g1,g2,g3,g4,g5,g6,g7]
      simp only [Bool.not_true,Bool.false_and,Bool.false_or,Bool.or_false]
      rfl
     rw [a2]
     cases RC (⟨e0,e1,e2,e3,e4,e5,e6,⟨e7,e8,e9,e10,e11,e12,e13,e14,e15,e16,e17,e18⟩⟩:Ev) with
     | true=>rfl
     | false =>
      simp only [PXb,PXc,PXn,PXm,Nat.reduceAdd,Int.reduceBEq,Cg,UP]
theorem c4 {c x x' y y':Bool} {a b d z z':Int} (h1:x=x') (h2:y=y') (h3:z=z'):(some [PV.int (cond c a (cond x b (cond y d z)))]:Option (List PV))=some [PV.int (cond c a (cond x' b (cond y' d z')))]:=by subst h1;subst h2;subst h3;rfl
end Go.Px
end
