/- Part 10. -/
import Derived.Test.YtefmhiojnbekpaaGreatDoorPart08
import Derived.Test.YtefmhiojnbekpaaGreatDoorPart09
set_option linter.unusedVariables false
set_option linter.unusedSimpArgs false
variable {s0 s1 s2 s3 s4 s5 s6 s7 s8 s9 s10 s11 s12 s13 s15 s21 s22 s23 s25 s26 s27:Int}
variable {s14 s16 s17 s19 s24:Go.Px.Rows}
variable {r1 r2 r3 r4 r5 r6 r7 r9 r10 r11 r12:Int}
variable {d0 d1 d2 d3 d4 d6 d7 d8 d9 d11:Int}
section
namespace Go.Px
set_option maxRecDepth 100000
theorem GS {N:Nat} {s18 s20:Bool} (h:Fit s14 s16 s17 s19 s24):Av N [.int s0,.int s1,.int s2,.int s3,.int s4,.int s5,.int s6,.int s7,.int s8,.int s9,.int s10,.int s11,.int s12,.int s13,.rows s14,.int s15,.rows s16,.rows s17,.bool s18,.rows s19,.bool s20,.int s21,.int s22,.int s23,.rows s24,.int s25,.int s26,.int s27]=some [.int s0,.int s1,.int s2,.int s3,.int s4,.int s5,.int s6,.int s7,.int s8,.int s9,.int s10,.int s11,.int s12,.int s13,.rows s14,.int s15,.rows s16,.rows s17,.bool s18,.rows s19,.bool s20,.int s21,.int s22,.int s23,.rows s24,.int s25,.int s26,.int s27]:=by
 show Lk (std (Gi N) N) (xOf _)=_;simp only [Lk,Ks,Mf,Lg,q9,std,xOf,PXb,PXc,PXn,PXm,Nat.reduceAdd,Int.reduceBEq,AW,Ac,AZ,BZ h.bt (show 1≤4096 by omega),BZ h.bw' (show 8≤4096 by omega),BZ h.bf (show 8≤4096 by omega),BZ h.bd (show 8≤4096 by omega),BZ h.sb (show 1≤4096 by omega)]
theorem Gl {N:Nat} {s18 s20:Bool} {p:Int}  : Aw N [.int s0,.int s1,.int s2,.int s3,.int s4,.int s5,.int s6,.int s7,.int s8,.int s9,.int s10,.int s11,.int s12,.int s13,.rows s14,.int s15,.rows s16,.rows s17,.bool s18,.rows s19,.bool s20,.int s21,.int s22,.int s23,.rows s24,.int s25,.int s26,.int s27,.int p]=some [.bool (inR p s14.length)]:=by
 show JX (std (Qq N) N) (xOf _)=_;simp only [JX,q9,std,xOf,PXb,PXc,PXn,PXm,Nat.reduceAdd,Int.reduceBEq];rfl
def Ag (s:Inn) (d:Del):Inn :=
  let odd := !(d.runs.tmod 2==0) != d.crossed
  let t:Inn:=cond odd { s with striker:=s.other,other:=s.striker } s
  let k:Bool:=d.how==0
  cond (!k&&(d.victim==1 && !(s.striker==0)))
    { t with striker:=cond odd t.striker 0,other:=cond odd 0 t.other,batters:=cond (inR s.striker s.batters.length) (NO s.batters s.striker 2) s.batters,wickets:=IntKind.i64.wrap (s.wickets+1) }
    (cond (!k&&(d.victim==2 && !(s.other==0)))
      { t with striker:=cond odd 0 t.striker,other:=cond odd t.other 0,batters:=cond (inR s.other s.batters.length) (NO s.batters s.other 2) s.batters,wickets:=IntKind.i64.wrap (s.wickets+1) }
      t)
theorem fu {N:Nat} {s18 s20:Bool} {d5 d10:Bool} (h:Fit s14 s16 s17 s19 s24):Ii N [.int s0,.int s1,.int s2,.int s3,.int s4,.int s5,.int s6,.int s7,.int s8,.int s9,.int s10,.int s11,.int s12,.int s13,.rows s14,.int s15,.rows s16,.rows s17,.bool s18,.rows s19,.bool s20,.int s21,.int s22,.int s23,.rows s24,.int s25,.int s26,.int s27,.int d0,.int d1,.int d2,.int d3,.int d4,.bool d5,.int d6,.int d7,.int d8,.int d9,.bool d10,.int d11]=some (Ag (⟨s0,s1,s2,s3,s4,s5,s6,s7,s8,s9,s10,s11,s12,s13,s14,s15,s16,s17,s18,s19,s20,s21,s22,s23,s24,s25,s26,s27⟩:Inn) (⟨d0,d1,d2,d3,d4,d5,d6,d7,d8,d9,d10,d11⟩:Del)).ls:=by
 show L1 (std (JD N) N) (xOf _)=_;simp only [L1,Q1,PM,q9,std,xOf,PXb,PXc,PXn,PXm,Nat.reduceAdd,Int.reduceBEq,GS h,Gl,qv h.bt];unfold Ag;cases d5<;>cases d2.tmod 2==0<;>cases d6==0<;>cases d7==1<;>cases d7==2<;>cases s12==0<;>cases s13==0<;>rfl
def Hn (s:Inn):Inn:={ s with striker:=s.other,other:=s.striker }
theorem Z3 {N:Nat} {s18 s20:Bool} (h:Fit s14 s16 s17 s19 s24):FU N [.int s0,.int s1,.int s2,.int s3,.int s4,.int s5,.int s6,.int s7,.int s8,.int s9,.int s10,.int s11,.int s12,.int s13,.rows s14,.int s15,.rows s16,.rows s17,.bool s18,.rows s19,.bool s20,.int s21,.int s22,.int s23,.rows s24,.int s25,.int s26,.int s27]=some (Hn (⟨s0,s1,s2,s3,s4,s5,s6,s7,s8,s9,s10,s11,s12,s13,s14,s15,s16,s17,s18,s19,s20,s21,s22,s23,s24,s25,s26,s27⟩:Inn)).ls:=by
 show H0 (std (Jh N) N) (xOf _)=_;simp only [H0,Oc,q9,std,xOf,PXb,PXc,PXn,PXm,Nat.reduceAdd,Int.reduceBEq,GS h];rfl
theorem YV {N:Nat} {v:Int}  : Ci N [.int v]=some [.bool (!(v==0))]:=by
 show K6 (std (OC N) N) (xOf _)=_;rfl
theorem XH {N:Nat} {v:Int}  : ED N [.int v]=some [.bool (!(v==0))]:=by
 show Jm (std (Ml N) N) (xOf _)=_;rfl
theorem TF {N:Nat} {s18 s20:Bool} (h:s14.length≤1048576) (hN:2097152<N):Bv N [.int s0,.int s1,.int s2,.int s3,.int s4,.int s5,.int s6,.int s7,.int s8,.int s9,.int s10,.int s11,.int s12,.int s13,.rows s14,.int s15,.rows s16,.rows s17,.bool s18,.rows s19,.bool s20,.int s21,.int s22,.int s23,.rows s24,.int s25,.int s26,.int s27]=some [.bool (Cy s14)]:=by
 show EZ (std (Ei N) N) (xOf _)=_;simp only [EZ,F0,q9,std,xOf,PXb,PXc,PXn,AH];rw [show Cy s14=iLe 0 (Ob (fun i => !(atI s14 i 0==0)) s14.length) from (Ja _ _).symm];rw [Option.bind_assoc];refine Ab (Cp (len:=s14.length) (Fr fun i => !(atI s14 i 0==0)) ?_ ?_ s14.length 0 N (by omega) (by omega)) ?_
 ·intro self;simp only [PXb,PXc,PXn,AH,BM]
 ·intro i self hi;simp only [PXb,PXc,PXn,AH,A7 (show i≤1099511627776 by omega),Az hi,AY hi,Fr,Cl,F0,YV];cases atI s14 i 0==0<;>rfl
 ·unfold Ob;cases BR (Fr fun i => !(atI s14 i 0==0)) s14.length 0<;>rfl
theorem ZX {N:Nat} {s18 s20:Bool} (h:s14.length≤1048576) (hN:2097152<N):FN N [.int s0,.int s1,.int s2,.int s3,.int s4,.int s5,.int s6,.int s7,.int s8,.int s9,.int s10,.int s11,.int s12,.int s13,.rows s14,.int s15,.rows s16,.rows s17,.bool s18,.rows s19,.bool s20,.int s21,.int s22,.int s23,.rows s24,.int s25,.int s26,.int s27]=some [.bool (Cy s14)]:=by
 show H3 (std (Jn N) N) (xOf _)=_;simp only [H3,E5,q9,std,xOf,PXb,PXc,PXn,AH];rw [show Cy s14=iLe 0 (Ob (fun i => !(atI s14 i 0==0)) s14.length) from (Ja _ _).symm];rw [Option.bind_assoc];refine Ab (Cp (len:=s14.length) (Fr fun i => !(atI s14 i 0==0)) ?_ ?_ s14.length 0 N (by omega) (by omega)) ?_
 ·intro self;simp only [PXb,PXc,PXn,AH,BM]
 ·intro i self hi;simp only [PXb,PXc,PXn,AH,A7 (show i≤1099511627776 by omega),Az hi,AY hi,Fr,Cl,E5,XH];cases atI s14 i 0==0<;>rfl
 ·unfold Ob;cases BR (Fr fun i => !(atI s14 i 0==0)) s14.length 0<;>rfl
theorem RY {N:Nat} {s18 s20:Bool} (h:s14.length≤1048576) (hN:2097152<N):BG N [.int s0,.int s1,.int s2,.int s3,.int s4,.int s5,.int s6,.int s7,.int s8,.int s9,.int s10,.int s11,.int s12,.int s13,.rows s14,.int s15,.rows s16,.rows s17,.bool s18,.rows s19,.bool s20,.int s21,.int s22,.int s23,.rows s24,.int s25,.int s26,.int s27]=some [.bool (Gf s14 s12 s13)]:=by
 show Ds (std (D4 N) N) (xOf _)=_;simp only [Ds,Mw,q9,std,xOf,PXb,PXc,PXn,PXm,Nat.reduceAdd,Int.reduceBEq,TF h hN];rfl
theorem de {N:Nat} {s18 s20:Bool} (h:s14.length≤1048576) (hN:2097152<N):Ch N [.int s0,.int s1,.int s2,.int s3,.int s4,.int s5,.int s6,.int s7,.int s8,.int s9,.int s10,.int s11,.int s12,.int s13,.rows s14,.int s15,.rows s16,.rows s17,.bool s18,.rows s19,.bool s20,.int s21,.int s22,.int s23,.rows s24,.int s25,.int s26,.int s27]=some [.rows (EK s14 s14.length)]:=by
 show FC (std (ML N) N) (xOf _)=_;simp only [FC,q9,std,xOf,PXb,PXc,PXn,AH];refine Ab (D3 (len:=s14.length) (fun i=>[.rows (EK s14 i),.int (i:Int)]) [.rows (EK s14 s14.length)] ?_ ?_ N (by omega)) rfl
 ·intro self;simp only [PXb,PXc,PXn,AH,BM]
 ·intro i self hi;have h2:(EK s14 i++[[PV.int ((i:Int)+1)]]).length≤4194304:=by have:=Yh s14 i;simp;omega
  simp only [PXb,PXc,PXn,AH,A7 (show i≤1099511627776 by omega),Az hi,AY hi,Cl,EK,GA h2 (show 8≤4096 by omega)];cases (atI s14 i 0==0||atI s14 i 0==3)<;>rfl
def TK (s:Inn) (p q:Int):Inn×Int :=
  cond (Cy s.batters) (s,1) (cond (!inR p s.batters.length || !inR q s.batters.length) (s,3) (cond (p==q) (s,4)
    ({ s with batters:=NO (NO s.batters p 1) q 1,striker:=p,other:=q },0)))
theorem dp {N:Nat} {s18 s20:Bool} {p:Int} {q:Int} (h:Fit s14 s16 s17 s19 s24) (hN:2097152<N):HX N [.int s0,.int s1,.int s2,.int s3,.int s4,.int s5,.int s6,.int s7,.int s8,.int s9,.int s10,.int s11,.int s12,.int s13,.rows s14,.int s15,.rows s16,.rows s17,.bool s18,.rows s19,.bool s20,.int s21,.int s22,.int s23,.rows s24,.int s25,.int s26,.int s27,.int p,.int q]=some (BI (TK (⟨s0,s1,s2,s3,s4,s5,s6,s7,s8,s9,s10,s11,s12,s13,s14,s15,s16,s17,s18,s19,s20,s21,s22,s23,s24,s25,s26,s27⟩:Inn) p q)):=by
 show Kc (std (Fg N) N) (xOf _)=_;generalize hres:(some (BI (TK (⟨s0,s1,s2,s3,s4,s5,s6,s7,s8,s9,s10,s11,s12,s13,s14,s15,s16,s17,s18,s19,s20,s21,s22,s23,s24,s25,s26,s27⟩:Inn) p q)):Option (List PV))=RR;simp only [Kc,Qo,OV,OZ,q9,std,xOf,PXb,PXc,PXn,PXm,Nat.reduceAdd,Int.reduceBEq,GS h,TF h.bt hN,Gl];subst hres;simp only [TK];cases Cy s14<;>try rfl
 cases hp:inR p s14.length<;>cases hq:inR q s14.length<;>try rfl
 rw [KY hp h.bt,KY hq h.bt];cases p==q<;>rfl
def NA (s:Inn) (p:Int):Int :=
 cond (!inR p s.batters.length) 3 (cond (!Gf s.batters s.striker s.other||atI s.batters (ix p) 0==1) 4 (cond (atI s.batters (ix p) 0==2) 5 0))
theorem WV {N:Nat} {s18 s20:Bool} {p:Int} (h:s14.length≤1048576) (hN:2097152<N):DX N [.int s0,.int s1,.int s2,.int s3,.int s4,.int s5,.int s6,.int s7,.int s8,.int s9,.int s10,.int s11,.int s12,.int s13,.rows s14,.int s15,.rows s16,.rows s17,.bool s18,.rows s19,.bool s20,.int s21,.int s22,.int s23,.rows s24,.int s25,.int s26,.int s27,.int p]=some [.int (NA (⟨s0,s1,s2,s3,s4,s5,s6,s7,s8,s9,s10,s11,s12,s13,s14,s15,s16,s17,s18,s19,s20,s21,s22,s23,s24,s25,s26,s27⟩:Inn) p)]:=by
 show L2 (std (JY N) N) (xOf _)=_;generalize hres:(some [.int (NA (⟨s0,s1,s2,s3,s4,s5,s6,s7,s8,s9,s10,s11,s12,s13,s14,s15,s16,s17,s18,s19,s20,s21,s22,s23,s24,s25,s26,s27⟩:Inn) p)]:Option (List PV))=RR;simp only [L2,OO,PH,q9,std,xOf,PXb,PXc,PXn,PXm,Nat.reduceAdd,Int.reduceBEq,Gl,RY h hN];subst hres;simp only [NA];cases hp:inR p s14.length<;>try rfl
 rw [KY hp h];cases Gf s14 s12 s13<;>try rfl
 simp only [PXb,PXc,PXn,PXm,Nat.reduceAdd,Int.reduceBEq,atI,ix]
theorem cn {s:Inn} {p:Int} (h:(NA s p==0)=true):inR p s.batters.length=true:=by
 unfold NA at h;cases hp:inR p s.batters.length with
 | true=>rfl
 | false=>rw [hp] at h;cases h
def OJ (s:Inn) (p:Int):Inn×Int :=
 cond (NA s p==0) ({ s with batters:=NO s.batters p 1,striker:=cond (s.striker==0) p s.striker,other:=cond (s.striker==0) s.other p },0) (s,NA s p)
def Gx (s:Inn) (p:Int):Inn×Int :=
 cond (NA s p==0) ({ s with batters:=NO s.batters p 2,wickets:=IntKind.i64.wrap (s.wickets+1) },0) (s,NA s p)
theorem cG {N:Nat} {s18 s20:Bool} {p:Int} (h:Fit s14 s16 s17 s19 s24) (hN:2097152<N):GQ N [.int s0,.int s1,.int s2,.int s3,.int s4,.int s5,.int s6,.int s7,.int s8,.int s9,.int s10,.int s11,.int s12,.int s13,.rows s14,.int s15,.rows s16,.rows s17,.bool s18,.rows s19,.bool s20,.int s21,.int s22,.int s23,.rows s24,.int s25,.int s26,.int s27,.int p]=some (BI (OJ (⟨s0,s1,s2,s3,s4,s5,s6,s7,s8,s9,s10,s11,s12,s13,s14,s15,s16,s17,s18,s19,s20,s21,s22,s23,s24,s25,s26,s27⟩:Inn) p)):=by
 show Je (std (G7 N) N) (xOf _)=_;generalize hres:(some (BI (OJ (⟨s0,s1,s2,s3,s4,s5,s6,s7,s8,s9,s10,s11,s12,s13,s14,s15,s16,s17,s18,s19,s20,s21,s22,s23,s24,s25,s26,s27⟩:Inn) p)):Option (List PV))=RR;simp only [Je,PN,Pc,q9,std,xOf,PXb,PXc,PXn,PXm,Nat.reduceAdd,Int.reduceBEq,GS h,WV h.bt hN];subst hres;simp only [OJ];cases hm:NA (⟨s0,s1,s2,s3,s4,s5,s6,s7,s8,s9,s10,s11,s12,s13,s14,s15,s16,s17,s18,s19,s20,s21,s22,s23,s24,s25,s26,s27⟩:Inn) p==0<;>try rfl
 rw [KY (cn hm) h.bt];cases s12==0<;>rfl
theorem Yn {N:Nat} {s18 s20:Bool} {p:Int} (h:Fit s14 s16 s17 s19 s24) (hN:2097152<N):Eh N [.int s0,.int s1,.int s2,.int s3,.int s4,.int s5,.int s6,.int s7,.int s8,.int s9,.int s10,.int s11,.int s12,.int s13,.rows s14,.int s15,.rows s16,.rows s17,.bool s18,.rows s19,.bool s20,.int s21,.int s22,.int s23,.rows s24,.int s25,.int s26,.int s27,.int p]=some (BI (Gx (⟨s0,s1,s2,s3,s4,s5,s6,s7,s8,s9,s10,s11,s12,s13,s14,s15,s16,s17,s18,s19,s20,s21,s22,s23,s24,s25,s26,s27⟩:Inn) p)):=by
 show HI (std (DZ N) N) (xOf _)=_;generalize hres:(some (BI (Gx (⟨s0,s1,s2,s3,s4,s5,s6,s7,s8,s9,s10,s11,s12,s13,s14,s15,s16,s17,s18,s19,s20,s21,s22,s23,s24,s25,s26,s27⟩:Inn) p)):Option (List PV))=RR;simp only [HI,OD,Me,N0,q9,std,xOf,PXb,PXc,PXn,PXm,Nat.reduceAdd,Int.reduceBEq,GS h,WV h.bt hN,Gl];subst hres;simp only [Gx];cases hm:NA (⟨s0,s1,s2,s3,s4,s5,s6,s7,s8,s9,s10,s11,s12,s13,s14,s15,s16,s17,s18,s19,s20,s21,s22,s23,s24,s25,s26,s27⟩:Inn) p==0<;>try rfl
 have hk:inR p s14.length=true:=cn hm;rw [KY hk h.bt,hk];rfl
def JK (s:Inn) (p:Int) (hurt:Bool):Inn×Int :=
  cond (!inR p s.batters.length) (s,3) (cond (s.striker==0||s.other==0) (s,6) (cond (!(p==s.striker) && !(p==s.other)) (s,4)
    (cond (hurt&&((EK s.batters s.batters.length).length:Int)==0) (s,19)
      ({ s with striker:=cond (p==s.striker) 0 s.striker,other:=cond (p==s.striker) s.other 0,batters:=NO s.batters p (cond hurt 3 2),wickets:=cond hurt s.wickets (IntKind.i64.wrap (s.wickets+1)) },0))))
theorem Zp {N:Nat} {s18 s20:Bool} {p:Int} {b:Bool} (h:Fit s14 s16 s17 s19 s24) (hN:2097152<N):FH N [.int s0,.int s1,.int s2,.int s3,.int s4,.int s5,.int s6,.int s7,.int s8,.int s9,.int s10,.int s11,.int s12,.int s13,.rows s14,.int s15,.rows s16,.rows s17,.bool s18,.rows s19,.bool s20,.int s21,.int s22,.int s23,.rows s24,.int s25,.int s26,.int s27,.int p,.bool b]=some (BI (JK (⟨s0,s1,s2,s3,s4,s5,s6,s7,s8,s9,s10,s11,s12,s13,s14,s15,s16,s17,s18,s19,s20,s21,s22,s23,s24,s25,s26,s27⟩:Inn) p b)):=by
 show IM (std (EH N) N) (xOf _)=_;generalize hres:(some (BI (JK (⟨s0,s1,s2,s3,s4,s5,s6,s7,s8,s9,s10,s11,s12,s13,s14,s15,s16,s17,s18,s19,s20,s21,s22,s23,s24,s25,s26,s27⟩:Inn) p b)):Option (List PV))=RR;simp only [IM,N8,Oe,NU,q9,std,xOf,PXb,PXc,PXn,PXm,Nat.reduceAdd,Int.reduceBEq,GS h,Gl,de h.bt hN];subst hres;simp only [JK];cases hp:inR p s14.length<;>try rfl
 rw [KY hp h.bt];cases s12==0<;>cases s13==0<;>try rfl
 cases p==s12<;>cases p==s13<;>cases b<;>try rfl
 all_goals (simp only [PXb,PXc,PXn,PXm,Nat.reduceAdd,Int.reduceBEq];cases ((EK s14 s14.length).length:Int)==0<;>rfl)
end Go.Px
end
section
namespace Go.Px
set_option maxRecDepth 100000
def btw (a b c:Int):Bool:=iLe b a&&iLe a c
theorem DV (N:Nat) (a b c:Int):Ak N [.int a,.int b,.int c]=some [.bool (btw a b c)]:=by
 show some [PV.bool (cond (iLe b a) (iLe a c) false)]=_;rw [Z8];rfl
theorem K5 (N:Nat) (a b c:Int):CR N [.int a,.int b,.int c]=some [.bool (btw a b c)]:=by
 show some [PV.bool (cond (iLe b a) (iLe a c) false)]=_;rw [Z8];rfl
def NB (x1 x2 x3 x4 x5 x6 x7 x9 x10 x11 x12:Int):Bool:=btw x1 2 11&&btw x2 1 2&&btw x3 0 90&&btw x4 4 8&&btw x5 0 90&&btw x6 1 5&&btw x7 1 5&&btw x9 0 200&&btw x10 0 1000&&btw x11 0 9&&btw x12 0 11
theorem YG (N : Nat) (x0 : ByteArray) (x1 x2 x3 x4 x5 x6 x7 x9 x10 x11 x12 : Int) (x8 : Bool) (x13 : Rows) :
   Fp N [.str x0,.int x1,.int x2,.int x3,.int x4,.int x5,.int x6,.int x7,.bool x8,.int x9,.int x10,.int x11,.int x12,.rows x13]=some [.bool (NB x1 x2 x3 x4 x5 x6 x7 x9 x10 x11 x12)]:=by
  show II (std (Jp N) N) (xOf _)=_;have e:∀ ls,Jp N 115 [] ls=CR N ls:=fun ls=>rfl
  simp only [II,q9,std,xOf,e,K5,PXb,PXc,PXn,AH,NB]
def Wx (s:ByteArray) (i:Nat):Bool := !(iLe 65 (NY s i)&&iLe (NY s i) 90)&&((i:Int)==0||((!(NY s i==95) && !(NY s i==45))&&(iLt (NY s i) 48||iLt 57 (NY s i))))
def WA (s:ByteArray):Bool := !Bb (Wx s) s.size 0&&(iLe 1 s.size&&iLe s.size 16)
theorem rC (s:ByteArray):(Fo s).length=s.size:=by
 simp only [Fo,List.length_map,Array.length_toList];rfl
theorem sL (s:ByteArray) (i:Nat) (h:i<s.size):pvI (AE (Fo s) i 0)=NY s i:=by
 unfold AE AB AA Fo NY;simp only [List.getD_eq_getElem?_getD,List.getElem?_map];have:i<s.data.toList.length:=by simpa using h
 rw [List.getElem?_eq_getElem this];simp [List.getElem?_eq_getElem this]
theorem iK (N:Nat) (s:ByteArray) (hN:s.size<N) (hs:s.size≤1048576):J5 N [.str s]=some [.bool (WA s)]:=by
 show Nj (std (Ui N) N) (xOf _)=_;simp only [Nj,q9,std,xOf,rC,PXb,PXc,PXn,AH];refine Ab (Kw (len:=s.size) (Wx s) [.bool false] ?_ ?_ N hN) ?_
 ·intro self;simp only [PXb,PXc,PXn,AH,BM]
 ·intro i self hi;simp only [PXb,PXc,PXn,AH,Int.toNat_natCast,sL s i hi,A7 (show i≤1099511627776 by omega),Az hi,AY hi,Wx]
 ·unfold WA;cases Bb (Wx s) s.size 0<;>rfl
end Go.Px
end
section
namespace Go.Px
set_option maxRecDepth 100000
theorem pt {i len:Nat} (h:i<len) (hl:len≤1099511627776):(!iLt 0 (i:Int)||iIn (IntKind.i64.wrap ((i:Int) - 1)) (len:Int))=true:=by
 rw [CG (by omega) (by omega)];simp only [iLt,iIn,Bool.or_eq_true,Bool.not_eq_true',decide_eq_false_iff_not,decide_eq_true_eq];omega
def pQ (L:Rows) (ov:Int) (i:Nat):Bool:=(iLt (atI L i 0) 1||iLt (atI L i 1) (atI L i 0)||iLt ov (atI L i 1)) || !btw (atI L i 2) 0 11
def mZ (L:Rows) (i:Nat):Bool:=iLt 0 (i:Int)&&iLe (atI L i 0) (pvI (AE L (IntKind.i64.wrap ((i:Int) - 1)).toNat 1))
def lW (L:Rows) (ov:Int) (i:Nat):Option (List PV):=cond (pQ L ov i) (some [.int 2]) (cond (mZ L i) (some [.int 8]) none)
def mz:Option (List PV)→Int
 | none=>0
 | some r=>pvI (AA r 0)
def fg (L:Rows) (ov:Int):Int:=cond (iLt 8 (L.length:Int)) 9 (mz (BR (lW L ov) L.length 0))
theorem Zk (o:Option (List PV)):cond (pvI (AA (PP o) 0)==((0:Nat):Int)) (some [PV.int (pvI (AA (PP o) 1))]) (some [PV.int 0])=some [PV.int (mz o)]:=by
 cases o<;>rfl
theorem ZU (N : Nat) (x0 : ByteArray) (x1 x2 x3 x4 x5 x6 x7 x9 x10 x11 x12 : Int) (x8 : Bool) (L : Rows) (hN : 2097152 < N) :
   GG N [.str x0,.int x1,.int x2,.int x3,.int x4,.int x5,.int x6,.int x7,.bool x8,.int x9,.int x10,.int x11,.int x12,.rows L]=some [.int (fg L x3)]:=by
  show I8 (std (Ko N) N) (xOf _)=_;have e:∀ ls,Ko N 115 [] ls=CR N ls:=fun ls=>rfl
  simp only [I8,q9,std,xOf,e,K5,PXb,PXc,PXn,AH,fg];cases h8:iLt 8 (L.length:Int) with
  | true=>rfl
  | false =>
    have hl:L.length≤8:=by simp [iLt] at h8;omega
    simp only [cond_false];refine Ab (Cp (len:=L.length) (lW L x3) ?_ ?_ L.length 0 N (by omega) (by omega)) ?_
    · intro self;simp only [PXb,PXc,PXn,AH,BM]
    · intro i self hi;simp only [PXb,PXc,PXn,AH,Int.toNat_natCast,A7 (show i≤1099511627776 by omega),Az hi,AY hi,K5,e,pt hi (by omega)];simp only [lW,pQ,mZ,atI];cases (iLt (pvI (AE L i 0)) 1||iLt (pvI (AE L i 1)) (pvI (AE L i 0))||iLt x3 (pvI (AE L i 1)) || !btw (pvI (AE L i 2)) 0 11) <;>
      cases (iLt 0 (i:Int)&&iLe (pvI (AE L i 0)) (pvI (AE L (IntKind.i64.wrap ((i:Int) - 1)).toNat 1)))<;>rfl
    · exact Zk _
def K8 (x0:ByteArray) (x1 x2 x3 x4 x5 x6 x7 x9 x10 x11 x12:Int) (L:Rows):Int :=
  cond (!WA x0) 5 (cond (!NB x1 x2 x3 x4 x5 x6 x7 x9 x10 x11 x12) 2
    (cond ((!(x10==0)&&x2==1)||((!(x5==0)||iLt 0 (L.length:Int))&&x3==0)) 1
      (cond (!(x5==0)&&iLt (IntKind.i64.wrap (x5 * x1)) x3) 13 (fg L x3))))
theorem SZ (N : Nat) (x0 : ByteArray) (x1 x2 x3 x4 x5 x6 x7 x9 x10 x11 x12 : Int) (x8 : Bool) (L : Rows) (hN : 2097152 < N) (hs : x0.size ≤ 1048576) :
   AR N [.str x0,.int x1,.int x2,.int x3,.int x4,.int x5,.int x6,.int x7,.bool x8,.int x9,.int x10,.int x11,.int x12,.rows L]=some [.int (K8 x0 x1 x2 x3 x4 x5 x6 x7 x9 x10 x11 x12 L)]:=by
  show Kg (std (Fi N) N) (xOf _)=_;have e:∀ ls,Fi N 92 [] ls=J5 N ls:=fun ls=>rfl
  have e2:∀ ls,Fi N 93 [] ls=Fp N ls:=fun ls=>rfl
  have e3:∀ ls,Fi N 94 [] ls=GG N ls:=fun ls=>rfl
  simp only [Kg,q9,std,xOf,e,e2,e3,iK N x0 (by omega) hs,YG,ZU N _ _ _ _ _ _ _ _ _ _ _ _ _ _ hN,PXb,PXc,AH,K8];cases WA x0<;>cases NB x1 x2 x3 x4 x5 x6 x7 x9 x10 x11 x12<;>try rfl
  simp only [PXb,PXc,AH,Bool.not_true];cases (!(x10==0)&&x2==1)<;>cases ((!(x5==0)||iLt 0 (L.length:Int))&&x3==0)<;>try rfl
  cases (!(x5==0)&&iLt (IntKind.i64.wrap (x5 * x1)) x3)<;>rfl
end Go.Px
end
section
namespace Go.Px
set_option maxRecDepth 100000
theorem VF (N:Nat) (L:Rows) (v:Int) (hN:L.length<N) (hl:L.length≤2097152):DW N [.rows L,.int v]=some [.int (Ob (fun j=>v==atI L j 0) L.length)]:=by
 show FG (std (MS N) N) (xOf _)=_;simp only [FG,q9,std,xOf,PXb,PXc,PXn,AH];refine Ab (Cp (len:=L.length) (Fr fun j=>v==atI L j 0) ?_ ?_ L.length 0 N (by omega) (by omega)) ?_
 ·intro self;simp only [PXb,PXc,PXn,AH,BM]
 ·intro i self hi;simp only [PXb,PXc,PXn,AH,A7 (show i≤1099511627776 by omega),Az hi,AY hi,Fr,Cl];cases v==atI L i 0<;>rfl
 ·unfold Ob;cases BR (Fr fun j=>v==atI L j 0) L.length 0<;>rfl
def Jl (L:Rows) (k:Nat) (v:Int):Bool:=Bb (fun j=>v==atI L j 0) k 0
theorem Jv (N:Nat) (L:Rows) (v:Int) (hN:L.length<N) (hl:L.length≤2097152):Ap N [.rows L,.int v]=some [.bool (Jl L L.length v)]:=by
 show Dt (std (FA N) N) (xOf _)=_;have e:∀ ls,FA N 206 [] ls=DW N ls:=fun ls=>rfl
 simp only [Dt,q9,std,xOf,PXb,PXc,PXn,AH,e,VF N L v hN hl,Ja,Jl]
theorem ny (L:Rows) (i:Nat) (v:Int) (h:i≤L.length):Jl (L.take i) (L.take i).length v=Jl L i v:=by
 rw [List.length_take,Nat.min_eq_left h];exact Z9 i 0 (fun j _ hj=>by rw [oA (by omega)])
def Pq (L:Rows) (n:Int) (i:Nat):Bool := !btw (atI L i 0) 1 n||Jl L i (atI L i 0)
def J1 (L:Rows) (n:Int):Bool := !Bb (Pq L n) L.length 0
theorem Lt (N:Nat) (L:Rows) (n:Int) (hN:L.length<N) (hl:L.length≤2097152):DC N [.rows L,.int n]=some [.bool (J1 L n)]:=by
 show E0 (std (Dr N) N) (xOf _)=_;have e:∀ ls,Dr N 164 [] ls=Ak N ls:=fun ls=>rfl
 have e2:∀ ls,Dr N 185 [] ls=Ap N ls:=fun ls=>rfl
 simp only [E0,q9,std,xOf,PXb,PXc,PXn,AH];refine Ab (Kw (len:=L.length) (Pq L n) [.bool false] ?_ ?_ N hN) ?_
 ·intro self;simp only [PXb,PXc,PXn,AH,BM]
 ·intro i self hi;have h1:(L.take i).length≤L.length:=List.length_take_le' i L;simp only [PXb,PXc,PXn,AH,A7 (show i≤1099511627776 by omega),Az hi,AY hi,e,e2,DV,sQ (Nat.le_of_lt hi),Int.toNat_zero,List.drop_zero,Jv N (L.take i) _ (by omega) (by omega),ny L i _ (by omega),Cl,Pq];cases btw (atI L i 0) 1 n<;>cases Jl L i (atI L i 0)<;>rfl
 ·unfold J1;cases Bb (Pq L n) L.length 0<;>rfl
theorem XG (N:Nat) (v:Int):Ci N [.int v]=some [.bool (!(v==0))]:=rfl
def lsI (L14 L16 L17 L19 L24:Rows) (b18 b20:Bool) (x0 x1 x2 x3 x4 x5 x6 x7 x8 x9 x10 x11 x12 x13 x15 x21 x22 x23 x25 x26 x27:Int):List PV :=
 [.int x0,.int x1,.int x2,.int x3,.int x4,.int x5,.int x6,.int x7,.int x8,.int x9,.int x10,.int x11,.int x12,.int x13,.rows L14,.int x15,.rows L16,.rows L17,.bool b18,.rows L19,.bool b20,.int x21,.int x22,.int x23,.rows L24,.int x25,.int x26,.int x27]
section
variable (N:Nat) (L14 L16 L17 L19 L24:Rows) (b18 b20:Bool) (x0 x1 x2 x3 x4 x5 x6 x7 x8 x9 x10 x11 x12 x13 x15 x21 x22 x23 x25 x26 x27:Int)
theorem ZT (hN:L14.length<N) (hl:L14.length≤2097152):Bv N (lsI L14 L16 L17 L19 L24 b18 b20 x0 x1 x2 x3 x4 x5 x6 x7 x8 x9 x10 x11 x12 x13 x15 x21 x22 x23 x25 x26 x27)=some [.bool (Cy L14)]:=by
 show EZ (std (Ei N) N) (xOf (lsI ..))=_;have e:∀ ls,Ei N 262 [] ls=Ci N ls:=fun ls=>rfl
 simp only [EZ,q9,std,xOf,lsI,PXb,PXc,PXn,AH];rw [show Cy L14=iLe 0 (Ob (fun i => !(atI L14 i 0==0)) L14.length) from (Ja _ _).symm];rw [Option.bind_assoc];refine Ab (Cp (len:=L14.length) (Fr fun i => !(atI L14 i 0==0)) ?_ ?_ L14.length 0 N (by omega) (by omega)) ?_
 ·intro self;simp only [PXb,PXc,PXn,AH,BM]
 ·intro i self hi;simp only [PXb,PXc,PXn,AH,A7 (show i≤1099511627776 by omega),Az hi,AY hi,Fr,Cl,e,XG];cases atI L14 i 0==0<;>rfl
 ·unfold Ob;cases BR (Fr fun i => !(atI L14 i 0==0)) L14.length 0<;>rfl
theorem YL (hN:L14.length<N) (hl:L14.length≤2097152):BG N (lsI L14 L16 L17 L19 L24 b18 b20 x0 x1 x2 x3 x4 x5 x6 x7 x8 x9 x10 x11 x12 x13 x15 x21 x22 x23 x25 x26 x27)=some [.bool (Gf L14 x12 x13)]:=by
 show Ds (std (D4 N) N) (xOf (lsI ..))=_;have e:∀ ls,D4 N 241 [] ls=Bv N ls:=fun ls=>rfl
 have:=ZT N L14 L16 L17 L19 L24 b18 b20 x0 x1 x2 x3 x4 x5 x6 x7 x8 x9 x10 x11 x12 x13 x15 x21 x22 x23 x25 x26 x27 hN hl;simp only [lsI] at this;simp only [Ds,q9,std,xOf,lsI,PXb,PXc,PXn,AH,e,this,Gf]
theorem bJ (hN:L14.length<N) (hl:L14.length≤2097152):Ch N (lsI L14 L16 L17 L19 L24 b18 b20 x0 x1 x2 x3 x4 x5 x6 x7 x8 x9 x10 x11 x12 x13 x15 x21 x22 x23 x25 x26 x27)=some [.rows (EK L14 L14.length)]:=by
 show FC (std (ML N) N) (xOf (lsI ..))=_;simp only [FC,q9,std,xOf,lsI,PXb,PXc,PXn,AH];refine Ab (D3 (len:=L14.length) (fun i=>[.rows (EK L14 i),.int (i:Int)]) [.rows (EK L14 L14.length)] ?_ ?_ N hN) rfl
 ·intro self;simp only [PXb,PXc,PXn,AH,BM]
 ·intro i self hi;have h2:(EK L14 i++[[PV.int ((i:Int)+1)]]).length≤4194304:=by have:=Yh L14 i;simp;omega
  simp only [PXb,PXc,PXn,AH,A7 (show i≤1099511627776 by omega),Az hi,AY hi,Cl,EK,GA h2 (show 8≤4096 by omega)];cases (atI L14 i 0==0||atI L14 i 0==3)<;>rfl
end
theorem TQ (N:Nat) (v:Int):DH N [.int v]=some [.bool (!btw v 0 1000000000)]:=by
 show Ez (std (GE N) N) (xOf _)=_;have e:∀ ls,GE N 164 [] ls=Ak N ls:=fun ls=>rfl
 simp only [Ez,q9,std,xOf,PXb,PXc,PXn,AH,e,DV]
end Go.Px
end
section
namespace Go.Px
set_option maxRecDepth 100000
def pIs (L:Rows) (v:Int) (i:Nat):Bool:=atI L i 0==v
def Vr (s n:Int) (i:Nat):Bool:=s==(i:Int)+1||n==(i:Int)+1
def Pb (L:Rows) (s n:Int) (i:Nat):Bool:=iLt 3 (atI L i 0)||(pIs L 1 i && !Vr s n i)
def ZI (L:Rows) (s n:Int) (i:Nat):Bool:=iLt 3 (atI L i 0) || !(pIs L 1 i==Vr s n i)
def Yp (L:Rows):Int:=Ca (pIs L 2) L.length
def ins (L:Rows):Int:=Ca (pIs L 1) L.length
def two (s n:Int):Int:=cond (!(n==0)) (IntKind.i64.wrap (cond (!(s==0)) (IntKind.i64.wrap (0+1)) 0+1)) (cond (!(s==0)) (IntKind.i64.wrap (0+1)) 0)
def eY (L:Rows) (s n wk k:Int):Bool :=
 !Bb (Pb L s n) L.length 0&&((btw s 0 k&&btw n 0 k)&&(!(s==n && !(s==0))&&((two s n==ins L&&(!Cy L||iLt 0 (two s n)))&&Yp L==wk)))
def Ww (L:Rows) (s n wk:Int):Bool :=
 !Bb (ZI L s n) L.length 0&&(!((Cy L&&iLt (ins L) 1)||(!(s==0)&&s==n))&&wk==Yp L)
def lV (L:Rows):Nat→Bool
 | 0=>false
 | i+1=>lV L i || !(atI L i 0==0)
theorem jt (L:Rows):∀ i,lV L i=Bb (fun j => !(atI L j 0==0)) i 0
 | 0=>rfl
 | i+1=>by rw [WT,Nat.zero_add,← jt L i];rfl
section
variable (N:Nat) (L14 L16 L17 L19 L24:Rows) (b18 b20:Bool) (x0 x1 x2 x3 x4 x5 x6 x7 x8 x9 x10 x11 x12 x13 x15 x21 x22 x23 x25 x26 x27:Int)
theorem VZ (k:Int) (hN:L14.length<N) (hl:L14.length≤2097152):EI N (lsI L14 L16 L17 L19 L24 b18 b20 x0 x1 x2 x3 x4 x5 x6 x7 x8 x9 x10 x11 x12 x13 x15 x21 x22 x23 x25 x26 x27++[.int k])=some [.bool (eY L14 x12 x13 x4 k)]:=by
  simp only [lsI,List.cons_append,List.nil_append];show F9 (std (Hs N) N) (xOf _)=_;have e:∀ ls,Hs N 164 [] ls=Ak N ls:=fun ls=>rfl
  simp only [F9,q9,std,xOf,lsI,PXb,PXc,PXn,AH];refine Ab (ge (len:=L14.length) (fun i=>[.int (Ca (pIs L14 2) i),.int (Ca (pIs L14 1) i),.bool (lV L14 i),.int (i:Int)])
    (Pb L14 x12 x13) [.int 0,.bool false] [.int 1,.int (Yp L14),.int (ins L14),.bool (Cy L14)] ?_ ?_ N hN) ?_
  · intro self;simp only [PXb,PXc,PXn,AH,BM,jt];rfl
  · intro i self hi;simp only [PXb,PXc,AH,A7 (show i≤1099511627776 by omega),Az hi,AY hi,Cl,gZ (pIs L14 2) (show i≤1099511627776 by omega),gZ (pIs L14 1) (show i≤1099511627776 by omega)];unfold Pb pIs Vr;simp only [Ca,lV];cases h3:iLt 3 (atI L14 i 0) with
    | true=>rfl
    | false =>
      cases h1:atI L14 i 0==1 with
      | true =>
        rw [qL h1];cases x12==(i:Int)+1<;>cases x13==(i:Int)+1<;>rfl
      | false=>cases h2:atI L14 i 0==2<;>rfl
  · unfold eY;simp only [e,DV];cases Bb (Pb L14 x12 x13) L14.length 0 with
    | true=>rfl
    | false =>
      simp only [PXb,PXc,PXn,AH];unfold two;cases btw x12 0 k<;>cases btw x13 0 k<;>try rfl
      cases x12==0<;>cases x13==0<;>cases x12==x13<;>try rfl
end
end Go.Px
end
section
namespace Go.Px
set_option maxRecDepth 100000
theorem pZ (s n:Int):two s n=cond (!(s==0)) 1 0+cond (!(n==0)) 1 0:=by
 unfold two;cases s==0<;>cases n==0<;>rfl
theorem qU {s n:Int} {len:Nat} (h1:0≤s∧s≤(len:Int)) (h2:0≤n∧n≤(len:Int)) (hd:(s==n && !(s==0))=false):two s n=Ca (Vr s n) len:=by
 have hs:iLe s (len:Int)=true:=by simp only [iLe,decide_eq_true_eq];omega
 have hn:iLe n (len:Int)=true:=by simp only [iLe,decide_eq_true_eq];omega
 unfold Vr;rw [my (p:=fun i=>s==(i:Int)+1) (q:=fun i=>n==(i:Int)+1) len (fun j _ hp=>by
  have e1:s=(j:Int)+1:=by simpa using hp
  show (n==(j:Int)+1)=false;rw [beq_eq_false_iff_ne];intro e2;have e3:(s==n)=true:=by rw [beq_iff_eq];omega
  have e4:(s==0)=false:=by rw [beq_eq_false_iff_ne];omega
  rw [e3,e4] at hd;cases hd),iP s len h1.1,iP n len h2.1,hs,hn,Bool.and_true,Bool.and_true,pZ]
theorem qC (x:Int):iLt 0 x = !iLt x 1:=by
 unfold iLt;rw [Bool.eq_iff_iff];simp only [decide_eq_true_eq,Bool.not_eq_true',decide_eq_false_iff_not];omega
theorem o8 {L : Rows} {s n : Int} (h1 : 0 ≤ s ∧ s ≤ (L.length : Int)) (h2 : 0 ≤ n ∧ n ≤ (L.length : Int)) (hd : (s == n && !(s == 0)) = false) :
    (!Bb (Pb L s n) L.length 0&&two s n==ins L) = !Bb (ZI L s n) L.length 0:=by
  have h2c:=qU h1 h2 hd;rw [Bool.eq_iff_iff];simp only [Bool.and_eq_true,Bool.not_eq_true',JI,beq_iff_eq];constructor
  · intro ⟨ha,hb⟩ j _ hj;have hm:∀ j,j<L.length→pIs L 1 j=true→Vr s n j=true:=fun j hj hp=>by
      have:=ha j (Nat.zero_le _) (by omega);unfold Pb at this;rw [hp] at this;simp only [Bool.or_eq_false_iff,Bool.true_and,Bool.not_eq_false'] at this;exact this.2
    have he:=mP L.length hm (by rw [← h2c,hb];rfl) j (by omega);have:=ha j (Nat.zero_le _) hj;unfold Pb at this;unfold ZI;rw [Bool.or_eq_false_iff] at this ⊢;exact ⟨this.1,by rw [he];simp⟩
  · intro ha;have hm:∀ j,j<L.length→pIs L 1 j=Vr s n j:=fun j hj=>by
      have:=ha j (Nat.zero_le _) (by omega);unfold ZI at this;rw [Bool.or_eq_false_iff] at this;simpa using this.2
    refine ⟨fun j h0 hj=>?_,?_⟩
    · have:=ha j h0 hj;unfold ZI at this;unfold Pb;rw [Bool.or_eq_false_iff] at this ⊢;refine ⟨this.1,?_⟩;rw [hm j (by omega)];cases Vr s n j<;>rfl
    · rw [h2c];exact (dY L.length hm).symm
theorem qp (L:Rows) (s n wk k:Int) (hk:(L.length:Int)=k):eY L s n wk k=(btw s 0 k&&btw n 0 k&&Ww L s n wk):=by
 subst hk;unfold eY Ww;cases hs:btw s 0 (L.length:Int) with
 | false=>simp only [Bool.false_and,Bool.and_false]
 | true =>
  cases hn:btw n 0 (L.length:Int) with
  | false=>simp only [Bool.false_and,Bool.and_false]
  | true =>
   have h1:0≤s∧s≤(L.length:Int):=by simpa [btw,iLe] using hs
   have h2:0≤n∧n≤(L.length:Int):=by simpa [btw,iLe] using hn
   simp only [Bool.true_and];cases hd:(s==n && !(s==0)) with
   | true =>
    have:(!(s==0)&&s==n)=true:=by rw [Bool.and_comm];exact hd
    rw [this];simp only [Bool.or_true,Bool.not_true,Bool.false_and,Bool.and_false]
   | false =>
    have:(!(s==0)&&s==n)=false:=by rw [Bool.and_comm];exact hd
    rw [this,← o8 h1 h2 hd];simp only [Bool.or_false,Bool.not_false,Bool.true_and];rw [show (wk==Yp L)=(Yp L==wk) from BEq.comm];cases hA:Bb (Pb L s n) L.length 0 with
    | true=>rfl
    | false =>
     cases hB:two s n==ins L with
     | false=>rfl
     | true =>
      rw [beq_iff_eq.1 hB,qC];simp only [Bool.true_and,Bool.not_false,Bool.not_and]
end Go.Px
end
section
namespace Go.Px
set_option maxRecDepth 100000
def I0 (v:Int):Bool := !btw v 0 1000000000
def gd (x1 x3 x5 x6 x7 x8 x9 x10 x21 x23 x25 x26:Int):Rows:=[[.int x1],[.int x3],[.int x5],[.int x6],[.int x7],[.int x8],[.int x9],[.int x10],[.int x21],[.int x23],[.int x25],[.int x26]]
section
variable (N:Nat) (L14 L16 L17 L19 L24:Rows) (b18 b20:Bool) (x0 x1 x2 x3 x4 x5 x6 x7 x8 x9 x10 x11 x12 x13 x15 x21 x22 x23 x25 x26 x27:Int)
theorem V9 (hN:2097152<N) (hl:L19.length≤1048576):D7 N (lsI L14 L16 L17 L19 L24 b18 b20 x0 x1 x2 x3 x4 x5 x6 x7 x8 x9 x10 x11 x12 x13 x15 x21 x22 x23 x25 x26 x27)=some [.bool (!(Jg I0 (gd x1 x3 x5 x6 x7 x8 x9 x10 x21 x23 x25 x26)||Jg I0 L19))]:=by
 show F6 (std (Ht N) N) (xOf (lsI ..))=_;have e:∀ ls,Ht N 186 [] ls=DH N ls:=fun ls=>rfl
 rw [← gy];simp only [F6,q9,std,xOf,lsI,PXb,PXc,PXn,AH,gd];generalize hM:([PV.int x1]::[PV.int x3]::[PV.int x5]::[PV.int x6]::[PV.int x7]::[PV.int x8]::[PV.int x9]::[PV.int x10]::[PV.int x21]::[PV.int x23]::[PV.int x25]::[PV.int x26]::L19:Rows)=M;have hM2:M.length≤2097152:=by rw [← hM];simp only [List.length_cons];omega
 rw [GA (n:=M.length) (by omega) (by omega)];simp only [PXb,PXc,PXn,AH];rw [Option.bind_assoc];refine Ab (Cp (len:=M.length) (Fr fun i=>I0 (atI M i 0)) ?_ ?_ M.length 0 N (by omega) (by omega)) ?_
 ·intro self;simp only [PXb,PXc,PXn,AH,BM]
 ·intro i self hi;simp only [PXb,PXc,PXn,AH,A7 (show i≤1099511627776 by omega),Az hi,AY hi,Fr,Cl,e,TQ,I0];cases btw (atI M i 0) 0 1000000000<;>rfl
 ·unfold Jg;rw [← Ja];unfold Ob;cases BR (Fr fun i=>I0 (atI M i 0)) M.length 0<;>rfl
end
def cP (a3 x2:Int):Bool:=cond (a3==0) (x2==0) (btw x2 1 a3)
def Sk (s:ByteArray) (a1 a2 a3 a4 a5 a6 a7 a9 a10 a11 a12:Int) (La L14 L16 L17 L19 L24:Rows) (x0 x1 x2 x3 x4 x5 x6 x7 x8 x9 x10 x11 x12 x13 x15 x21 x22 x23 x25 x26 x27:Int):Bool :=
  K8 s a1 a2 a3 a4 a5 a6 a7 a9 a10 a11 a12 La==0&&(btw x0 1 2&&((L14.length:Int)==a1&&((L19.length:Int)==a1&&((L24.length:Int)==a1&&(!iLt 5 x27 &&
    (btw x12 0 a1&&(btw x13 0 a1&&(Ww L14 x12 x13 x4&&(btw x15 0 a1&&(btw x22 0 a1&&(J1 L16 a1&&(J1 L17 a1&&(cP a3 x2&&(btw x11 0 (IntKind.i64.wrap (a4 - 1)) &&
      (!Jg I0 (gd x1 x3 x5 x6 x7 x8 x9 x10 x21 x23 x25 x26) && !Jg I0 L19)))))))))))))))
theorem qY {a:Int} (h:0≤a):iLt 0 a = !(a==0):=by
 unfold iLt;rw [Bool.eq_iff_iff];simp only [decide_eq_true_eq,Bool.not_eq_true',beq_eq_false_iff_ne];omega
section
variable (N:Nat) (s:ByteArray) (a1 a2 a3 a4 a5 a6 a7 a9 a10 a11 a12:Int) (a8:Bool) (La:Rows) (L14 L16 L17 L19 L24:Rows) (b18 b20:Bool) (x0 x1 x2 x3 x4 x5 x6 x7 x8 x9 x10 x11 x12 x13 x15 x21 x22 x23 x25 x26 x27:Int)
theorem QF (hN:2097152<N) (hs:s.size≤1048576) (h14:L14.length≤1048576) (h16:L16.length≤1048576) (h17:L17.length≤1048576) (h19:L19.length≤1048576):BH N ([.str s,.int a1,.int a2,.int a3,.int a4,.int a5,.int a6,.int a7,.bool a8,.int a9,.int a10,.int a11,.int a12,.rows La]++lsI L14 L16 L17 L19 L24 b18 b20 x0 x1 x2 x3 x4 x5 x6 x7 x8 x9 x10 x11 x12 x13 x15 x21 x22 x23 x25 x26 x27)=some [.bool (Sk s a1 a2 a3 a4 a5 a6 a7 a9 a10 a11 a12 La L14 L16 L17 L19 L24 x0 x1 x2 x3 x4 x5 x6 x7 x8 x9 x10 x11 x12 x13 x15 x21 x22 x23 x25 x26 x27)]:=by
 simp only [lsI,List.cons_append,List.nil_append];show H4 (std (CO N) N) (xOf _)=_;have e1:∀ ls,CO N 70 [] ls=AR N ls:=fun ls=>rfl
 have e2:∀ ls,CO N 164 [] ls=Ak N ls:=fun ls=>rfl
 have e3:∀ ls,CO N 165 [] ls=EI N ls:=fun ls=>rfl
 have e4:∀ ls,CO N 166 [] ls=DC N ls:=fun ls=>rfl
 have e5:∀ ls,CO N 167 [] ls=D7 N ls:=fun ls=>rfl
 have l54:=VZ N L14 L16 L17 L19 L24 b18 b20 x0 x1 x2 x3 x4 x5 x6 x7 x8 x9 x10 x11 x12 x13 x15 x21 x22 x23 x25 x26 x27 a1 (by omega) (by omega);have l56:=V9 N L14 L16 L17 L19 L24 b18 b20 x0 x1 x2 x3 x4 x5 x6 x7 x8 x9 x10 x11 x12 x13 x15 x21 x22 x23 x25 x26 x27 (by omega) (by omega);simp only [lsI,List.cons_append,List.nil_append] at l54 l56;simp only [H4,q9,std,xOf,PXb,PXc,PXn,AH,e1,e2,e3,e4,e5,SZ N s _ _ _ _ _ _ _ _ _ _ _ _ _ hN hs,DV,l54,l56,Lt N L16 _ (by omega) (by omega),Lt N L17 _ (by omega) (by omega)];unfold Sk cP;cases hc:K8 s a1 a2 a3 a4 a5 a6 a7 a9 a10 a11 a12 La==0<;>try rfl
 cases btw x0 1 2<;>try rfl
 cases h14:(L14.length:Int)==a1<;>try rfl
 cases (L19.length:Int)==a1<;>try rfl
 cases (L24.length:Int)==a1<;>try rfl
 cases iLt 5 x27<;>try rfl
 rw [qp L14 x12 x13 x4 a1 (beq_iff_eq.1 h14)];cases btw x12 0 a1<;>try rfl
 cases btw x13 0 a1<;>try rfl
 cases Ww L14 x12 x13 x4<;>try rfl
 cases btw x15 0 a1<;>try rfl
 cases btw x22 0 a1<;>try rfl
 cases J1 L16 a1<;>try rfl
 cases J1 L17 a1<;>try rfl
 cases a3==0<;>cases x2==0<;>cases btw x2 1 a3<;>rfl
end
end Go.Px
end
section
namespace Go.Px
set_option maxRecDepth 100000
def nv (v:Bool) (L:Rows) (s n:Int) (x1 x2 x3 x10:Int):Int :=
 cond (!v) 0 (cond (iLt 0 x1&&iLe x1 x3) 3 (cond (Gf L s n&&((EK L L.length).length:Int)==0) 1 (cond (iLt 0 x2&&iLe x2 x10) 2 0)))
theorem sF {c:Int} {n:Nat} (hc:0≤c):iRg 0 (cond (iLt c (n:Int)) c (n:Int)) (n:Int)=true:=by
 cases h:iLt c (n:Int) with
 | true=>simp only [iLt,decide_eq_true_eq] at h;simp only [cond_true,iRg,decide_eq_true_eq];omega
 | false=>simp only [cond_false,iRg,decide_eq_true_eq];omega
def cut (L:Rows) (c:Int):Rows:=(L.take (cond (iLt c (L.length:Int)) c (L.length:Int)).toNat).drop (0:Int).toNat
end Go.Px
end
section
namespace Go.Px
set_option maxRecDepth 100000
section
variable (N:Nat) (s:ByteArray) (a1 a2 a3 a4 a5 a6 a7 a9 a10 a11 a12:Int) (a8:Bool) (La:Rows) (L14 L16 L17 L19 L24:Rows) (b18 b20:Bool) (x0 x1 x2 x3 x4 x5 x6 x7 x8 x9 x10 x11 x12 x13 x15 x21 x22 x23 x25 x26 x27:Int)
theorem XU (hN : 2097152 < N) (hs : s.size ≤ 1048576) (h14 : L14.length ≤ 1048576) (h16 : L16.length ≤ 1048576) (h17 : L17.length ≤ 1048576) (h19 : L19.length ≤ 1048576) : DL N ([.str s, .int a1, .int a2, .int a3, .int a4, .int a5, .int a6, .int a7, .bool a8, .int a9, .int a10, .int a11, .int a12, .rows La] ++ lsI L14 L16 L17 L19 L24 b18 b20 x0 x1 x2 x3 x4 x5 x6 x7 x8 x9 x10 x11 x12 x13 x15 x21 x22 x23 x25 x26 x27) =
    some [.int (nv (Sk s a1 a2 a3 a4 a5 a6 a7 a9 a10 a11 a12 La L14 L16 L17 L19 L24 x0 x1 x2 x3 x4 x5 x6 x7 x8 x9 x10 x11 x12 x13 x15 x21 x22 x23 x25 x26 x27) L14 x12 x13 x1 x2 x3 x10)]:=by
  simp only [lsI,List.cons_append,List.nil_append];show G1 (std (Da N) N) (xOf _)=_;have e1:∀ ls,Da N 140 [] ls=BH N ls:=fun ls=>rfl
  have e2:∀ ls,Da N 224 [] ls=BG N ls:=fun ls=>rfl
  have e3:∀ ls,Da N 225 [] ls=Ch N ls:=fun ls=>rfl
  have l16:=QF N s a1 a2 a3 a4 a5 a6 a7 a9 a10 a11 a12 a8 La L14 L16 L17 L19 L24 b18 b20 x0 x1 x2 x3 x4 x5 x6 x7 x8 x9 x10 x11 x12 x13 x15 x21 x22 x23 x25 x26 x27 hN hs h14 h16 h17 h19;have l61:=YL N L14 L16 L17 L19 L24 b18 b20 x0 x1 x2 x3 x4 x5 x6 x7 x8 x9 x10 x11 x12 x13 x15 x21 x22 x23 x25 x26 x27 (by omega) (by omega);have l62:=bJ N L14 L16 L17 L19 L24 b18 b20 x0 x1 x2 x3 x4 x5 x6 x7 x8 x9 x10 x11 x12 x13 x15 x21 x22 x23 x25 x26 x27 (by omega) (by omega);simp only [lsI,List.cons_append,List.nil_append] at l16 l61 l62;simp only [G1,q9,std,xOf,PXb,PXc,PXn,AH,e1,e2,e3,l16,l61,l62,nv];cases Sk s a1 a2 a3 a4 a5 a6 a7 a9 a10 a11 a12 La L14 L16 L17 L19 L24 x0 x1 x2 x3 x4 x5 x6 x7 x8 x9 x10 x11 x12 x13 x15 x21 x22 x23 x25 x26 x27<;>try rfl
  cases (iLt 0 x1&&iLe x1 x3)<;>try rfl
  cases Gf L14 x12 x13
  · cases (iLt 0 x2&&iLe x2 x10)<;>rfl
  · simp only [PXb,PXc,PXn,AH];cases ((EK L14 L14.length).length:Int)==0<;>cases (iLt 0 x2&&iLe x2 x10)<;>rfl
end
end Go.Px
end
section
namespace Go.Px
set_option maxRecDepth 100000
section
variable (N:Nat) (s:ByteArray) (a1 a2 a3 a4 a5 a6 a7 a9 a10 a11 a12:Int) (a8:Bool) (La:Rows) (L14 L16 L17 L19 L24:Rows) (b18 b20:Bool) (x0 x1 x2 x3 x4 x5 x6 x7 x8 x9 x10 x11 x12 x13 x15 x21 x22 x23 x25 x26 x27:Int)
def CV (a4 x10 x11:Int):Int:=IntKind.i64.wrap (IntKind.i64.wrap (x10 * a4)+x11)
end
end Go.Px
end
section
namespace Go.Px
set_option maxRecDepth 100000
def BA (r:Rul):Int:=K8 r.name r.side r.innings r.overs r.balls r.quota r.wide r.noball r.newball r.followon r.reviews r.outside r.power
theorem C1 {N:Nat} {r8:Bool} {r0:ByteArray} {r13:Rows} (hN:2097152<N) (hs:r0.size≤1048576):AR N [.str r0,.int r1,.int r2,.int r3,.int r4,.int r5,.int r6,.int r7,.bool r8,.int r9,.int r10,.int r11,.int r12,.rows r13]=some [.int (BA (⟨r0,r1,r2,r3,r4,r5,r6,r7,r8,r9,r10,r11,r12,r13⟩:Rul))]:=by
 exact SZ N _ _ _ _ _ _ _ _ _ _ _ _ _ _ hN hs
theorem SD {N:Nat} {s18 s20:Bool} (h:Fit s14 s16 s17 s19 s24):CY N [.int s0,.int s1,.int s2,.int s3,.int s4,.int s5,.int s6,.int s7,.int s8,.int s9,.int s10,.int s11,.int s12,.int s13,.rows s14,.int s15,.rows s16,.rows s17,.bool s18,.rows s19,.bool s20,.int s21,.int s22,.int s23,.rows s24,.int s25,.int s26,.int s27]=some [.int s0,.int s1,.int s2,.int s3,.int s4,.int s5,.int s6,.int s7,.int s8,.int s9,.int s10,.int s11,.int s12,.int s13,.rows s14,.int s15,.rows s16,.rows s17,.bool s18,.rows s19,.bool s20,.int s21,.int s22,.int s23,.rows s24,.int s25,.int s26,.int s27]:=by
 show Nc (std (HY N) N) (xOf _)=_;simp only [Nc,LS,Mv,Mb,q9,std,xOf,PXb,PXc,PXn,PXm,Nat.reduceAdd,Int.reduceBEq,AW,Ac,AZ,BZ h.bt (show 1≤4096 by omega),BZ h.bw' (show 8≤4096 by omega),BZ h.bf (show 8≤4096 by omega),BZ h.bd (show 8≤4096 by omega),BZ h.sb (show 1≤4096 by omega)]
theorem SB {N:Nat} {s18 s20:Bool} (h:Fit s14 s16 s17 s19 s24):Cb N [.int s0,.int s1,.int s2,.int s3,.int s4,.int s5,.int s6,.int s7,.int s8,.int s9,.int s10,.int s11,.int s12,.int s13,.rows s14,.int s15,.rows s16,.rows s17,.bool s18,.rows s19,.bool s20,.int s21,.int s22,.int s23,.rows s24,.int s25,.int s26,.int s27]=some [.int s0,.int s1,.int s2,.int s3,.int s4,.int s5,.int s6,.int s7,.int s8,.int s9,.int s10,.int s11,.int s12,.int s13,.rows s14,.int s15,.rows s16,.rows s17,.bool s18,.rows s19,.bool s20,.int s21,.int s22,.int s23,.rows s24,.int s25,.int s26,.int s27]:=by
 show Nm (std (HO N) N) (xOf _)=_;simp only [Nm,LV,NE,Ma,q9,std,xOf,PXb,PXc,PXn,PXm,Nat.reduceAdd,Int.reduceBEq,AW,Ac,AZ,BZ h.bt (show 1≤4096 by omega),BZ h.bw' (show 8≤4096 by omega),BZ h.bf (show 8≤4096 by omega),BZ h.bd (show 8≤4096 by omega),BZ h.sb (show 1≤4096 by omega)]
theorem B9 {N:Nat} {s18 s20:Bool} (h:Fit s14 s16 s17 s19 s24):AP N [.int s0,.int s1,.int s2,.int s3,.int s4,.int s5,.int s6,.int s7,.int s8,.int s9,.int s10,.int s11,.int s12,.int s13,.rows s14,.int s15,.rows s16,.rows s17,.bool s18,.rows s19,.bool s20,.int s21,.int s22,.int s23,.rows s24,.int s25,.int s26,.int s27]=some [.int s0,.int s1,.int s2,.int s3,.int s4,.int s5,.int s6,.int s7,.int s8,.int s9,.int s10,.int s11,.int s12,.int s13,.rows s14,.int s15,.rows s16,.rows s17,.bool s18,.rows s19,.bool s20,.int s21,.int s22,.int s23,.rows s24,.int s25,.int s26,.int s27]:=by
 show IK (std (EA N) N) (xOf _)=_;simp only [IK,JT,Kx,Jx,q9,std,xOf,PXb,PXc,PXn,PXm,Nat.reduceAdd,Int.reduceBEq,AW,Ac,AZ,BZ h.bt (show 1≤4096 by omega),BZ h.bw' (show 8≤4096 by omega),BZ h.bf (show 8≤4096 by omega),BZ h.bd (show 8≤4096 by omega),BZ h.sb (show 1≤4096 by omega)]
theorem Oi {N:Nat} {s18 s20:Bool} {p:Int}  : Bs N [.int s0,.int s1,.int s2,.int s3,.int s4,.int s5,.int s6,.int s7,.int s8,.int s9,.int s10,.int s11,.int s12,.int s13,.rows s14,.int s15,.rows s16,.rows s17,.bool s18,.rows s19,.bool s20,.int s21,.int s22,.int s23,.rows s24,.int s25,.int s26,.int s27,.int p]=some [.bool (inR p s19.length)]:=by
 show KM (std (Rb N) N) (xOf _)=_;simp only [KM,q9,std,xOf,PXb,PXc,PXn,PXm,Nat.reduceAdd,Int.reduceBEq];rfl
theorem HZ {N:Nat} {s18 s20:Bool} {p:Int}  : A2 N [.int s0,.int s1,.int s2,.int s3,.int s4,.int s5,.int s6,.int s7,.int s8,.int s9,.int s10,.int s11,.int s12,.int s13,.rows s14,.int s15,.rows s16,.rows s17,.bool s18,.rows s19,.bool s20,.int s21,.int s22,.int s23,.rows s24,.int s25,.int s26,.int s27,.int p]=some [.bool (inR p s24.length)]:=by
 show KN (std (RE N) N) (xOf _)=_;simp only [KN,q9,std,xOf,PXb,PXc,PXn,PXm,Nat.reduceAdd,Int.reduceBEq];rfl
def atB (L:Rows) (i j:Nat):Bool:=pvB (AE L i j)
theorem bI (L:Rows) (i j:Nat):pvB (AE L i j)=atB L i j:=rfl
def HJ (s:Inn) (p:Int):Bool:=inR p s.subs.length&&atB s.subs (ix p) 0
theorem Gz {N:Nat} {s18 s20:Bool} {p:Int} (h:s24.length≤1048576):Ay N [.int s0,.int s1,.int s2,.int s3,.int s4,.int s5,.int s6,.int s7,.int s8,.int s9,.int s10,.int s11,.int s12,.int s13,.rows s14,.int s15,.rows s16,.rows s17,.bool s18,.rows s19,.bool s20,.int s21,.int s22,.int s23,.rows s24,.int s25,.int s26,.int s27,.int p]=some [.bool (HJ (⟨s0,s1,s2,s3,s4,s5,s6,s7,s8,s9,s10,s11,s12,s13,s14,s15,s16,s17,s18,s19,s20,s21,s22,s23,s24,s25,s26,s27⟩:Inn) p)]:=by
 show G4 (std (I2 N) N) (xOf _)=_;generalize hres:(some [.bool (HJ (⟨s0,s1,s2,s3,s4,s5,s6,s7,s8,s9,s10,s11,s12,s13,s14,s15,s16,s17,s18,s19,s20,s21,s22,s23,s24,s25,s26,s27⟩:Inn) p)]:Option (List PV))=RR;simp only [G4,NK,q9,std,xOf,PXb,PXc,PXn,PXm,Nat.reduceAdd,Int.reduceBEq,HZ,qv h];subst hres;simp only [HJ];cases hp:inR p s24.length with
 | false=>rfl
 | true=>first | rfl | (rw [KY hp h];rfl)
def kd (x:Int):Int:=cond (iLt x 0) 0 x
def aN (r:Rul) (s:Inn) (p:Int):Int :=
 cond (!inR p s.bowled.length || !(BA r==0)) 0 (cond (r.quota==0) (-1) (kd (IntKind.i64.wrap (IntKind.i64.wrap (r.quota * r.balls) - kd (atI s.bowled (ix p) 0)))))
theorem hZ {N:Nat} {r8:Bool} {r0:ByteArray} {r13:Rows} {s18 s20:Bool} {p:Int} (h:Fit s14 s16 s17 s19 s24) (hN:2097152<N) (hs:r0.size≤1048576):IQ N [.str r0,.int r1,.int r2,.int r3,.int r4,.int r5,.int r6,.int r7,.bool r8,.int r9,.int r10,.int r11,.int r12,.rows r13,.int s0,.int s1,.int s2,.int s3,.int s4,.int s5,.int s6,.int s7,.int s8,.int s9,.int s10,.int s11,.int s12,.int s13,.rows s14,.int s15,.rows s16,.rows s17,.bool s18,.rows s19,.bool s20,.int s21,.int s22,.int s23,.rows s24,.int s25,.int s26,.int s27,.int p]=some [.int (aN (⟨r0,r1,r2,r3,r4,r5,r6,r7,r8,r9,r10,r11,r12,r13⟩:Rul) (⟨s0,s1,s2,s3,s4,s5,s6,s7,s8,s9,s10,s11,s12,s13,s14,s15,s16,s17,s18,s19,s20,s21,s22,s23,s24,s25,s26,s27⟩:Inn) p)]:=by
 show Le (std (JW N) N) (xOf _)=_;generalize hres:(some [.int (aN (⟨r0,r1,r2,r3,r4,r5,r6,r7,r8,r9,r10,r11,r12,r13⟩:Rul) (⟨s0,s1,s2,s3,s4,s5,s6,s7,s8,s9,s10,s11,s12,s13,s14,s15,s16,s17,s18,s19,s20,s21,s22,s23,s24,s25,s26,s27⟩:Inn) p)]:Option (List PV))=RR;simp only [Le,Qd,QG,q9,std,xOf,PXb,PXc,PXn,PXm,Nat.reduceAdd,Int.reduceBEq,C1 hN hs,Oi];subst hres;simp only [aN];cases hp:inR p s19.length with
 | false=>rfl
 | true=>rw [KY hp h.bd];cases BA (⟨r0,r1,r2,r3,r4,r5,r6,r7,r8,r9,r10,r11,r12,r13⟩:Rul)==0<;>cases r5==0<;>rfl
theorem LH {N:Nat} {L:Rows} {v:Int} (hN:2097152<N) (hl:L.length≤1048576):Ap N [.rows L,.int v]=some [.bool (Jl L L.length v)]:=by
 exact Jv N L v (by omega) (by omega)
def NQ (r:Rul) (s:Inn) (p:Int):Int :=
  cond (!inR p s.bowled.length || !(BA r==0)) 3 (cond (p==s.keeper||p==s.bowler||HJ s p) 7
    (cond (Jl s.before s.before.length p) 8 (cond (!(aN r s p == -1)&&iLt s.inover (IntKind.i64.wrap (r.balls - aN r s p))) 9 0)))
theorem mS {p:Int} {n m:Nat} (h:inR p n=true):inR p m=iLe p (m:Int):=by
 unfold inR at h ⊢;rw [Bool.and_eq_true] at h;rw [h.1,Bool.true_and]
theorem jO {N:Nat} {r8:Bool} {r0:ByteArray} {r13:Rows} {s18 s20:Bool} {p:Int} (h:Fit s14 s16 s17 s19 s24) (hN:2097152<N) (hs:r0.size≤1048576):J6 N [.str r0,.int r1,.int r2,.int r3,.int r4,.int r5,.int r6,.int r7,.bool r8,.int r9,.int r10,.int r11,.int r12,.rows r13,.int s0,.int s1,.int s2,.int s3,.int s4,.int s5,.int s6,.int s7,.int s8,.int s9,.int s10,.int s11,.int s12,.int s13,.rows s14,.int s15,.rows s16,.rows s17,.bool s18,.rows s19,.bool s20,.int s21,.int s22,.int s23,.rows s24,.int s25,.int s26,.int s27,.int p]=some [.int (NQ (⟨r0,r1,r2,r3,r4,r5,r6,r7,r8,r9,r10,r11,r12,r13⟩:Rul) (⟨s0,s1,s2,s3,s4,s5,s6,s7,s8,s9,s10,s11,s12,s13,s14,s15,s16,s17,s18,s19,s20,s21,s22,s23,s24,s25,s26,s27⟩:Inn) p)]:=by
 show Nd (std (FB N) N) (xOf _)=_;generalize hres:(some [.int (NQ (⟨r0,r1,r2,r3,r4,r5,r6,r7,r8,r9,r10,r11,r12,r13⟩:Rul) (⟨s0,s1,s2,s3,s4,s5,s6,s7,s8,s9,s10,s11,s12,s13,s14,s15,s16,s17,s18,s19,s20,s21,s22,s23,s24,s25,s26,s27⟩:Inn) p)]:Option (List PV))=RR;simp only [Nd,Qy,LW,Qx,SM,q9,std,xOf,PXb,PXc,PXn,PXm,Nat.reduceAdd,Int.reduceBEq,C1 hN hs,Oi,hZ h hN hs,LH hN h.bf];subst hres;simp only [NQ,HJ];cases hp:inR p s19.length with
 | false=>rfl
 | true =>
  rw [mS (m:=s24.length) hp];have hq:(!(iLe p (s24.length:Int))||iIn (IntKind.i64.wrap (p - 1)) (s24.length:Int))=true:=by
   cases h1:iLe p (s24.length:Int) with
   | false=>rfl
   | true=>rw [KY (by rw [mS hp];exact h1) h.sb];rfl
  rw [hq];cases BA (⟨r0,r1,r2,r3,r4,r5,r6,r7,r8,r9,r10,r11,r12,r13⟩:Rul)==0<;>rfl
def UQ (r:Rul) (s:Inn) (p:Int):Inn×Int:=(cond (NQ r s p==0) { s with bowler:=p } s,NQ r s p)
theorem gW {N:Nat} {r8:Bool} {r0:ByteArray} {r13:Rows} {s18 s20:Bool} {p:Int} (h:Fit s14 s16 s17 s19 s24) (hN:2097152<N) (hs:r0.size≤1048576):It N [.str r0,.int r1,.int r2,.int r3,.int r4,.int r5,.int r6,.int r7,.bool r8,.int r9,.int r10,.int r11,.int r12,.rows r13,.int s0,.int s1,.int s2,.int s3,.int s4,.int s5,.int s6,.int s7,.int s8,.int s9,.int s10,.int s11,.int s12,.int s13,.rows s14,.int s15,.rows s16,.rows s17,.bool s18,.rows s19,.bool s20,.int s21,.int s22,.int s23,.rows s24,.int s25,.int s26,.int s27,.int p]=some (BI (UQ (⟨r0,r1,r2,r3,r4,r5,r6,r7,r8,r9,r10,r11,r12,r13⟩:Rul) (⟨s0,s1,s2,s3,s4,s5,s6,s7,s8,s9,s10,s11,s12,s13,s14,s15,s16,s17,s18,s19,s20,s21,s22,s23,s24,s25,s26,s27⟩:Inn) p)):=by
 show MR (std (JP N) N) (xOf _)=_;generalize hres:(some (BI (UQ (⟨r0,r1,r2,r3,r4,r5,r6,r7,r8,r9,r10,r11,r12,r13⟩:Rul) (⟨s0,s1,s2,s3,s4,s5,s6,s7,s8,s9,s10,s11,s12,s13,s14,s15,s16,s17,s18,s19,s20,s21,s22,s23,s24,s25,s26,s27⟩:Inn) p)):Option (List PV))=RR;simp only [MR,Ry,SL,q9,std,xOf,PXb,PXc,PXn,PXm,Nat.reduceAdd,Int.reduceBEq,SD h,jO h hN hs];subst hres;simp only [UQ];cases NQ (⟨r0,r1,r2,r3,r4,r5,r6,r7,r8,r9,r10,r11,r12,r13⟩:Rul) (⟨s0,s1,s2,s3,s4,s5,s6,s7,s8,s9,s10,s11,s12,s13,s14,s15,s16,s17,s18,s19,s20,s21,s22,s23,s24,s25,s26,s27⟩:Inn) p==0<;>rfl
def o4 (x:Inn×Bool):List PV:=[.int x.1.side,.int x.1.target,.int x.1.overs,.int x.1.runs,.int x.1.wickets,.int x.1.wides,.int x.1.noballs,.int x.1.byes,.int x.1.legbyes,.int x.1.pens,.int x.1.complete,.int x.1.inover,.int x.1.striker,.int x.1.other,.rows x.1.batters,.int x.1.bowler,.rows x.1.bowlers,.rows x.1.before,.bool x.1.fresh,.rows x.1.bowled,.bool x.1.freehit,.int x.1.ballage,.int x.1.keeper,.int x.1.outside,.rows x.1.subs,.int x.1.rev1,.int x.1.rev2,.int x.1.ending,.bool x.2]
def inc (x:Int):Int:=IntKind.i64.wrap (x+1)
def Ao (r:Rul) (s:Inn) (counts:Bool):Inn×Bool :=
  cond (!inR s.bowler s.bowled.length || !(BA r==0)) (s,false)
    (let L:=cond (Jl s.bowlers s.bowlers.length s.bowler) s.bowlers (s.bowlers++[[.int s.bowler]])
     let o:=cond counts (inc s.inover) s.inover
     let t:Inn:={ s with bowlers:=L,bowled:=cond counts (NO s.bowled s.bowler (inc (atI s.bowled (ix s.bowler) 0))) s.bowled,inover:=o,ballage:=cond counts (inc s.ballage) s.ballage }
     cond (iLt o r.balls) (t,false) ({ t with complete:=inc s.complete,inover:=0,before:=L,bowlers:=[],bowler:=0 },true))
theorem fT {N:Nat} {r8:Bool} {r0:ByteArray} {r13:Rows} {s18 s20:Bool} {b:Bool} (h:Fit s14 s16 s17 s19 s24) (hw:s16.length≤1048575) (hN:2097152<N) (hs:r0.size≤1048576):Iw N [.str r0,.int r1,.int r2,.int r3,.int r4,.int r5,.int r6,.int r7,.bool r8,.int r9,.int r10,.int r11,.int r12,.rows r13,.int s0,.int s1,.int s2,.int s3,.int s4,.int s5,.int s6,.int s7,.int s8,.int s9,.int s10,.int s11,.int s12,.int s13,.rows s14,.int s15,.rows s16,.rows s17,.bool s18,.rows s19,.bool s20,.int s21,.int s22,.int s23,.rows s24,.int s25,.int s26,.int s27,.bool b]=some (o4 (Ao (⟨r0,r1,r2,r3,r4,r5,r6,r7,r8,r9,r10,r11,r12,r13⟩:Rul) (⟨s0,s1,s2,s3,s4,s5,s6,s7,s8,s9,s10,s11,s12,s13,s14,s15,s16,s17,s18,s19,s20,s21,s22,s23,s24,s25,s26,s27⟩:Inn) b)):=by
 show Lr (std (EX N) N) (xOf _)=_;generalize hres:(some (o4 (Ao (⟨r0,r1,r2,r3,r4,r5,r6,r7,r8,r9,r10,r11,r12,r13⟩:Rul) (⟨s0,s1,s2,s3,s4,s5,s6,s7,s8,s9,s10,s11,s12,s13,s14,s15,s16,s17,s18,s19,s20,s21,s22,s23,s24,s25,s26,s27⟩:Inn) b)):Option (List PV))=RR;have ha:(s16++[[PV.int s15]]).length≤1048576:=by simp;omega
 simp only [Lr,P6,Km,R2,QD,q9,std,xOf,PXb,PXc,PXn,PXm,Nat.reduceAdd,Int.reduceBEq,SD h,Oi,C1 hN hs,LH hN h.bw',rN ha (show 8≤4096 by omega)];subst hres;simp only [Ao];cases hp:inR s15 s19.length with
 | false=>rfl
 | true =>
  rw [KY hp h.bd];cases BA (⟨r0,r1,r2,r3,r4,r5,r6,r7,r8,r9,r10,r11,r12,r13⟩:Rul)==0<;>try rfl
  cases Jl s16 s16.length s15<;>cases b<;>simp only [PXb,PXc,PXn,PXm,Nat.reduceAdd,Int.reduceBEq,inc]
  all_goals first | (cases iLt s11 r4<;>rfl) | (cases iLt (IntKind.i64.wrap (s11+1)) r4<;>rfl)
def Kr (r:Rul) (s:Inn):Inn×Int :=
 cond (!(BA r==0)||r.newball==0||iLt s.ballage (IntKind.i64.wrap (r.newball * r.balls))) (s,22) ({ s with ballage:=0 },0)
theorem ZJ {N:Nat} {r8:Bool} {r0:ByteArray} {r13:Rows} {s18 s20:Bool} (h:Fit s14 s16 s17 s19 s24) (hN:2097152<N) (hs:r0.size≤1048576):Fh N [.str r0,.int r1,.int r2,.int r3,.int r4,.int r5,.int r6,.int r7,.bool r8,.int r9,.int r10,.int r11,.int r12,.rows r13,.int s0,.int s1,.int s2,.int s3,.int s4,.int s5,.int s6,.int s7,.int s8,.int s9,.int s10,.int s11,.int s12,.int s13,.rows s14,.int s15,.rows s16,.rows s17,.bool s18,.rows s19,.bool s20,.int s21,.int s22,.int s23,.rows s24,.int s25,.int s26,.int s27]=some (BI (Kr (⟨r0,r1,r2,r3,r4,r5,r6,r7,r8,r9,r10,r11,r12,r13⟩:Rul) (⟨s0,s1,s2,s3,s4,s5,s6,s7,s8,s9,s10,s11,s12,s13,s14,s15,s16,s17,s18,s19,s20,s21,s22,s23,s24,s25,s26,s27⟩:Inn))):=by
 show IB (std (GC N) N) (xOf _)=_;generalize hres:(some (BI (Kr (⟨r0,r1,r2,r3,r4,r5,r6,r7,r8,r9,r10,r11,r12,r13⟩:Rul) (⟨s0,s1,s2,s3,s4,s5,s6,s7,s8,s9,s10,s11,s12,s13,s14,s15,s16,s17,s18,s19,s20,s21,s22,s23,s24,s25,s26,s27⟩:Inn))):Option (List PV))=RR;simp only [IB,N1,PY,q9,std,xOf,PXb,PXc,PXn,PXm,Nat.reduceAdd,Int.reduceBEq,SD h,C1 hN hs];subst hres;simp only [Kr];cases (!(BA (⟨r0,r1,r2,r3,r4,r5,r6,r7,r8,r9,r10,r11,r12,r13⟩:Rul)==0)||r9==0||iLt s21 (IntKind.i64.wrap (r9 * r4)))<;>rfl
end Go.Px
end
section
namespace Go.Px
set_option maxRecDepth 100000
def gm (r:Rul) (over:Int):Int :=
 match BR (fun i=>cond (iLe (atI r.power i 0) (inc over)&&iLe (inc over) (atI r.power i 1)) (some [.int (atI r.power i 2)]) none) r.power.length 0 with
 | some x=>pvI (AA x 0)
 | none=>r.outside
theorem aW {N:Nat} {r8:Bool} {r0:ByteArray} {r13:Rows} {o:Int} (hN:2097152<N) (h13:r13.length≤1048576):FI N [.str r0,.int r1,.int r2,.int r3,.int r4,.int r5,.int r6,.int r7,.bool r8,.int r9,.int r10,.int r11,.int r12,.rows r13,.int o]=some [.int (gm (⟨r0,r1,r2,r3,r4,r5,r6,r7,r8,r9,r10,r11,r12,r13⟩:Rul) o)]:=by
 show IJ (std (O5 N) N) (xOf _)=_;simp only [IJ,q9,std,xOf,PXb,PXc,PXn,AH];refine Ab (Cp (len:=r13.length) (fun i=>cond (iLe (atI r13 i 0) (inc o)&&iLe (inc o) (atI r13 i 1)) (some [.int (atI r13 i 2)]) none) ?_ ?_ r13.length 0 N (by omega) (by omega)) ?_
 ·intro self;simp only [PXb,PXc,PXn,AH,BM]
 ·intro i self hi;simp only [PXb,PXc,PXn,AH,A7 (show i≤1099511627776 by omega),Az hi,AY hi];cases hq:iLe (atI r13 i 0) (inc o)&&iLe (inc o) (atI r13 i 1)<;>unfold inc atI at hq<;>rw [hq]<;>rfl
 ·unfold gm;cases BR (fun i=>cond (iLe (atI r13 i 0) (inc o)&&iLe (inc o) (atI r13 i 1)) (some [.int (atI r13 i 2)]) none) r13.length 0<;>rfl
def M1 (s:Inn) (p:Int):Inn×Int :=
 cond (!inR p s.subs.length) (s,3) (cond (HJ s p) (s,18) (cond (p==s.bowler||p==s.keeper) (s,17) ({ s with keeper:=p },0)))
theorem bD {N:Nat} {s18 s20:Bool} {p:Int} (h:Fit s14 s16 s17 s19 s24):GY N [.int s0,.int s1,.int s2,.int s3,.int s4,.int s5,.int s6,.int s7,.int s8,.int s9,.int s10,.int s11,.int s12,.int s13,.rows s14,.int s15,.rows s16,.rows s17,.bool s18,.rows s19,.bool s20,.int s21,.int s22,.int s23,.rows s24,.int s25,.int s26,.int s27,.int p]=some (BI (M1 (⟨s0,s1,s2,s3,s4,s5,s6,s7,s8,s9,s10,s11,s12,s13,s14,s15,s16,s17,s18,s19,s20,s21,s22,s23,s24,s25,s26,s27⟩:Inn) p)):=by
 show JH (std (Ed N) N) (xOf _)=_;generalize hres:(some (BI (M1 (⟨s0,s1,s2,s3,s4,s5,s6,s7,s8,s9,s10,s11,s12,s13,s14,s15,s16,s17,s18,s19,s20,s21,s22,s23,s24,s25,s26,s27⟩:Inn) p)):Option (List PV))=RR;simp only [JH,Pu,On,MZ,q9,std,xOf,PXb,PXc,PXn,PXm,Nat.reduceAdd,Int.reduceBEq,SB h,HZ,Gz h.sb];subst hres;simp only [M1];cases inR p s24.length<;>cases HJ (⟨s0,s1,s2,s3,s4,s5,s6,s7,s8,s9,s10,s11,s12,s13,s14,s15,s16,s17,s18,s19,s20,s21,s22,s23,s24,s25,s26,s27⟩:Inn) p<;>cases p==s15<;>cases p==s22<;>rfl
def QC (s:Inn) (p:Int) (on:Bool):Inn×Int :=
  cond (!inR p s.subs.length) (s,3) (cond (HJ s p==on) (s,18)
    ({ s with subs:=nN s.subs p on,keeper:=cond (on&&s.keeper==p) 0 s.keeper,bowler:=cond (on&&s.bowler==p) 0 s.bowler },0))
theorem Vn {N:Nat} {s18 s20:Bool} {p:Int} {b:Bool} (h:Fit s14 s16 s17 s19 s24):Di N [.int s0,.int s1,.int s2,.int s3,.int s4,.int s5,.int s6,.int s7,.int s8,.int s9,.int s10,.int s11,.int s12,.int s13,.rows s14,.int s15,.rows s16,.rows s17,.bool s18,.rows s19,.bool s20,.int s21,.int s22,.int s23,.rows s24,.int s25,.int s26,.int s27,.int p,.bool b]=some (BI (QC (⟨s0,s1,s2,s3,s4,s5,s6,s7,s8,s9,s10,s11,s12,s13,s14,s15,s16,s17,s18,s19,s20,s21,s22,s23,s24,s25,s26,s27⟩:Inn) p b)):=by
 show FO (std (Cx N) N) (xOf _)=_;generalize hres:(some (BI (QC (⟨s0,s1,s2,s3,s4,s5,s6,s7,s8,s9,s10,s11,s12,s13,s14,s15,s16,s17,s18,s19,s20,s21,s22,s23,s24,s25,s26,s27⟩:Inn) p b)):Option (List PV))=RR;simp only [FO,M8,MP,J8,q9,std,xOf,PXb,PXc,PXn,PXm,Nat.reduceAdd,Int.reduceBEq,SB h,HZ,Gz h.sb];subst hres;simp only [QC];cases hp:inR p s24.length<;>try rfl
 rw [KY hp h.sb];cases HJ (⟨s0,s1,s2,s3,s4,s5,s6,s7,s8,s9,s10,s11,s12,s13,s14,s15,s16,s17,s18,s19,s20,s21,s22,s23,s24,s25,s26,s27⟩:Inn) p==b<;>cases b<;>cases s22==p<;>cases s15==p<;>rfl
def Kv (s:Inn) (n:Int):Inn×Int :=
 cond (iLt n 0||iLt (IntKind.i64.wrap ((s.subs.length:Int) - 2)) n) (s,16) ({ s with outside:=n },0)
theorem Z1 {N:Nat} {s18 s20:Bool} {n:Int} (h:Fit s14 s16 s17 s19 s24):FZ N [.int s0,.int s1,.int s2,.int s3,.int s4,.int s5,.int s6,.int s7,.int s8,.int s9,.int s10,.int s11,.int s12,.int s13,.rows s14,.int s15,.rows s16,.rows s17,.bool s18,.rows s19,.bool s20,.int s21,.int s22,.int s23,.rows s24,.int s25,.int s26,.int s27,.int n]=some (BI (Kv (⟨s0,s1,s2,s3,s4,s5,s6,s7,s8,s9,s10,s11,s12,s13,s14,s15,s16,s17,s18,s19,s20,s21,s22,s23,s24,s25,s26,s27⟩:Inn) n)):=by
 show H9 (std (Jr N) N) (xOf _)=_;generalize hres:(some (BI (Kv (⟨s0,s1,s2,s3,s4,s5,s6,s7,s8,s9,s10,s11,s12,s13,s14,s15,s16,s17,s18,s19,s20,s21,s22,s23,s24,s25,s26,s27⟩:Inn) n)):Option (List PV))=RR;simp only [H9,Pa,q9,std,xOf,PXb,PXc,PXn,PXm,Nat.reduceAdd,Int.reduceBEq,SB h];subst hres;simp only [Kv];cases (iLt n 0||iLt (IntKind.i64.wrap ((s24.length:Int) - 2)) n)<;>rfl
def QE (r:Rul) (s:Inn):Int :=
 cond (!inR s.keeper s.subs.length||HJ s s.keeper||s.keeper==s.bowler) 17 (cond (iLt (gm r s.complete) s.outside) 16 0)
theorem eE {N:Nat} {r8:Bool} {r0:ByteArray} {r13:Rows} {s18 s20:Bool} (h:Fit s14 s16 s17 s19 s24) (hN:2097152<N) (h13:r13.length≤1048576):HP N [.str r0,.int r1,.int r2,.int r3,.int r4,.int r5,.int r6,.int r7,.bool r8,.int r9,.int r10,.int r11,.int r12,.rows r13,.int s0,.int s1,.int s2,.int s3,.int s4,.int s5,.int s6,.int s7,.int s8,.int s9,.int s10,.int s11,.int s12,.int s13,.rows s14,.int s15,.rows s16,.rows s17,.bool s18,.rows s19,.bool s20,.int s21,.int s22,.int s23,.rows s24,.int s25,.int s26,.int s27]=some [.int (QE (⟨r0,r1,r2,r3,r4,r5,r6,r7,r8,r9,r10,r11,r12,r13⟩:Rul) (⟨s0,s1,s2,s3,s4,s5,s6,s7,s8,s9,s10,s11,s12,s13,s14,s15,s16,s17,s18,s19,s20,s21,s22,s23,s24,s25,s26,s27⟩:Inn))]:=by
 show Ka (std (Fn N) N) (xOf _)=_;generalize hres:(some [.int (QE (⟨r0,r1,r2,r3,r4,r5,r6,r7,r8,r9,r10,r11,r12,r13⟩:Rul) (⟨s0,s1,s2,s3,s4,s5,s6,s7,s8,s9,s10,s11,s12,s13,s14,s15,s16,s17,s18,s19,s20,s21,s22,s23,s24,s25,s26,s27⟩:Inn))]:Option (List PV))=RR;simp only [Ka,PS,M7,N7,q9,std,xOf,PXb,PXc,PXn,PXm,Nat.reduceAdd,Int.reduceBEq,HZ,Gz h.sb,aW hN h13];subst hres;simp only [QE];cases inR s22 s24.length<;>cases HJ (⟨s0,s1,s2,s3,s4,s5,s6,s7,s8,s9,s10,s11,s12,s13,s14,s15,s16,s17,s18,s19,s20,s21,s22,s23,s24,s25,s26,s27⟩:Inn) s22<;>cases s22==s15<;>rfl
def QQ (s:Inn) (d:Del):Int :=
  cond (iLt 0 d.fielder && !inR d.fielder s.subs.length) 3 (cond (iLt 0 d.fielder && !(d.sub==HJ s d.fielder)) 18
    (cond (iLt 0 d.second && !inR d.second s.subs.length) 3 (cond (iLt 0 d.second&&HJ s d.second) 18
      (cond (d.how==4 && !(kd d.fielder==s.keeper)) 17 0))))
theorem dh {N:Nat} {s18 s20:Bool} {d5 d10:Bool} (h:Fit s14 s16 s17 s19 s24):Ha N [.int s0,.int s1,.int s2,.int s3,.int s4,.int s5,.int s6,.int s7,.int s8,.int s9,.int s10,.int s11,.int s12,.int s13,.rows s14,.int s15,.rows s16,.rows s17,.bool s18,.rows s19,.bool s20,.int s21,.int s22,.int s23,.rows s24,.int s25,.int s26,.int s27,.int d0,.int d1,.int d2,.int d3,.int d4,.bool d5,.int d6,.int d7,.int d8,.int d9,.bool d10,.int d11]=some [.int (QQ (⟨s0,s1,s2,s3,s4,s5,s6,s7,s8,s9,s10,s11,s12,s13,s14,s15,s16,s17,s18,s19,s20,s21,s22,s23,s24,s25,s26,s27⟩:Inn) (⟨d0,d1,d2,d3,d4,d5,d6,d7,d8,d9,d10,d11⟩:Del))]:=by
 show KJ (std (H2 N) N) (xOf _)=_;generalize hres:(some [.int (QQ (⟨s0,s1,s2,s3,s4,s5,s6,s7,s8,s9,s10,s11,s12,s13,s14,s15,s16,s17,s18,s19,s20,s21,s22,s23,s24,s25,s26,s27⟩:Inn) (⟨d0,d1,d2,d3,d4,d5,d6,d7,d8,d9,d10,d11⟩:Del))]:Option (List PV))=RR;simp only [KJ,Pe,NJ,q9,std,xOf,PXb,PXc,PXn,PXm,Nat.reduceAdd,Int.reduceBEq,HZ,Gz h.sb];subst hres;simp only [QQ,kd,qt];cases iLt 0 d8<;>cases iLt 0 d9<;>cases inR d8 s24.length<;>cases inR d9 s24.length<;>cases d10==HJ (⟨s0,s1,s2,s3,s4,s5,s6,s7,s8,s9,s10,s11,s12,s13,s14,s15,s16,s17,s18,s19,s20,s21,s22,s23,s24,s25,s26,s27⟩:Inn) d8<;>cases HJ (⟨s0,s1,s2,s3,s4,s5,s6,s7,s8,s9,s10,s11,s12,s13,s14,s15,s16,s17,s18,s19,s20,s21,s22,s23,s24,s25,s26,s27⟩:Inn) d9<;>rfl
end Go.Px
end
section
namespace Go.Px
set_option maxRecDepth 100000
structure Cre where
 batter:Int
 wides:Int
 noballs:Int
 byes:Int
 legbyes:Int
 bowler:Int
 counts:Bool
 faced:Bool
 wicket:Bool
 swap:Bool
def Cre.ls (c:Cre):List PV:=[.int c.batter,.int c.wides,.int c.noballs,.int c.byes,.int c.legbyes,.int c.bowler,.bool c.counts,.bool c.faced,.bool c.wicket,.bool c.swap]
def Wa (d:Del):Bool :=
  cond (d.type==2) (d.source==0 && !(d.boundary==6)) (cond (d.source==0) (d.runs==0&&d.boundary==0)
    (cond (d.boundary==0) (iLt 0 d.runs) (cond (d.boundary==6) (d.source==1&&d.runs==0) true)))
def Eg (d:Del):Int :=
  cond (iLt d.type 1||iLt 3 d.type||iLt 3 d.source||iLt 10 d.how || !btw d.sector 0 8) 11
    (cond (!btw d.runs 0 7 || !btw d.short 0 d.runs||(!(d.boundary==0) && !(d.boundary==4) && !(d.boundary==6))) 12
      (cond (!Wa d) 11 (cond (!(d.sector==0) && !(d.source==1) && !(d.how==2)) 11 (cond (!(d.boundary==0) && !(d.how==0)) 11
        (cond (d.crossed && !(d.how==6) && !(d.how==8)) 11 0)))))
def Jw (d:Del):Bool :=
  cond (d.type==2) (d.source==0 && !(d.boundary==6)) (cond (d.source==0) (d.runs==0&&d.boundary==0)
    (cond (d.source==1) (!(d.boundary==6)||d.runs==0) (!(d.boundary==6)&&(iLt 0 d.runs || !(d.boundary==0)))))
theorem VB {N:Nat} {d5 d10:Bool}  : DI N [.int d0,.int d1,.int d2,.int d3,.int d4,.bool d5,.int d6,.int d7,.int d8,.int d9,.bool d10,.int d11]=some [.bool (Jw (⟨d0,d1,d2,d3,d4,d5,d6,d7,d8,d9,d10,d11⟩:Del))]:=by
 show Et (std (LI N) N) (xOf _)=_;generalize hres:(some [.bool (Jw (⟨d0,d1,d2,d3,d4,d5,d6,d7,d8,d9,d10,d11⟩:Del))]:Option (List PV))=RR;simp only [Et,q9,std,xOf,PXb,PXc,PXn,PXm,Nat.reduceAdd,Int.reduceBEq];subst hres;simp only [Jw]
theorem sY (x a b:Int):(!btw x a b)=(iLt x a||iLt b x):=by
 unfold btw iLe iLt;rw [Bool.eq_iff_iff];simp only [Bool.not_eq_true',Bool.and_eq_false_iff,decide_eq_false_iff_not,Bool.or_eq_true,decide_eq_true_eq];omega
theorem pW {d:Del} (h:0≤d.runs):(!Jw d || !d.type==2&&d.source==1&&d.runs==0&&d.boundary==0) = !Wa d:=by
 unfold Jw Wa;rw [qY h];cases h1:d.source==0 with
 | true =>
  rw [bm h1 (c:=1) rfl];cases d.type==2<;>cases d.runs==0<;>cases d.boundary==0<;>cases d.boundary==6<;>rfl
 | false =>
  cases h2:d.boundary==0 with
  | true =>
   rw [bm h2 (c:=6) rfl];cases d.type==2<;>cases d.source==1<;>cases d.runs==0<;>rfl
  | false=>cases d.type==2<;>cases d.source==1<;>cases d.runs==0<;>cases d.boundary==6<;>rfl
theorem Qh {N:Nat} {d5 d10:Bool}  : CF N [.int d0,.int d1,.int d2,.int d3,.int d4,.bool d5,.int d6,.int d7,.int d8,.int d9,.bool d10,.int d11]=some [.int (Eg (⟨d0,d1,d2,d3,d4,d5,d6,d7,d8,d9,d10,d11⟩:Del))]:=by
 show G8 (std (I5 N) N) (xOf _)=_;generalize hres:(some [.int (Eg (⟨d0,d1,d2,d3,d4,d5,d6,d7,d8,d9,d10,d11⟩:Del))]:Option (List PV))=RR;simp only [G8,Jj,q9,std,xOf,PXb,PXc,PXn,PXm,Nat.reduceAdd,Int.reduceBEq,VB];subst hres;simp only [Eg,sY,Bool.or_assoc];cases h2:(iLt d2 0||(iLt 7 d2||(iLt d3 0||(iLt d2 d3 || !d4==0 && !d4==4 && !d4==6)))) with
 | true=>rfl
 | false =>
  have h3:0≤d2:=by
   rw [Bool.or_eq_false_iff] at h2;have:=h2.1;simp only [iLt,decide_eq_false_iff_not] at this;omega
  have:=pW (d:=(⟨d0,d1,d2,d3,d4,d5,d6,d7,d8,d9,d10,d11⟩:Del)) h3;simp only at this;rw [this]
theorem YS {N:Nat} {a:Int} {b:Int} {c:Int} {d:Int} {e:Int} {x:Int} {p:Bool} {q:Bool} {u:Bool} {v:Bool}  : Ej N [.int a,.int b,.int c,.int d,.int e,.int x,.bool p,.bool q,.bool u,.bool v]=some [.int (IntKind.i64.wrap (IntKind.i64.wrap (IntKind.i64.wrap (IntKind.i64.wrap (a+b)+c)+d)+e))]:=by
 rfl
def Ea (c:Cre):Int:=IntKind.i64.wrap (IntKind.i64.wrap (IntKind.i64.wrap (IntKind.i64.wrap (c.batter+c.wides)+c.noballs)+c.byes)+c.legbyes)
def SW (h:Int):Bool:=iLe 1 h&&iLe h 5
theorem U6 {N:Nat} {h:Int}  : DE N [.int h]=some [.bool (SW h)]:=by
 show Ey (std (LG N) N) (xOf _)=_;simp only [Ey,q9,std,xOf,PXb,PXc,PXn,PXm,Nat.reduceAdd,Int.reduceBEq,SW]
def RW (r:Rul) (d:Del):Cre :=
  let n:=IntKind.i64.wrap (IntKind.i64.wrap (d.runs - d.short)+d.boundary)
  let b:=cond (!(d.type==2)&&d.source==1) n 0
  let w:=cond (d.type==2) (IntKind.i64.wrap (r.wide+n)) 0
  let o:=cond (d.type==3) r.noball 0
  { batter:=b,wides:=w,noballs:=o,byes:=cond (!(d.type==2)&&d.source==2) n 0,legbyes:=cond (!(d.type==2)&&d.source==3) n 0,bowler:=IntKind.i64.wrap (IntKind.i64.wrap (b+w)+o),
    counts:=d.type==1,faced := !(d.type==2),wicket:=SW d.how,swap := !((!(d.runs.tmod 2==0))==d.crossed) }
def AF (r:Rul) (d:Del):Cre:=cond (!(Eg d==0)) ⟨0,0,0,0,0,0,false,false,false,false⟩ (RW r d)
theorem lS {d:Del} (h:(Eg d==0)=true):0≤d.runs∧d.runs≤7:=by
 unfold Eg at h;cases h1:(iLt d.type 1||iLt 3 d.type||iLt 3 d.source||iLt 10 d.how || !btw d.sector 0 8) with
 | true=>rw [h1] at h;cases h
 | false =>
  cases h2:(!btw d.runs 0 7 || !btw d.short 0 d.runs||(!(d.boundary==0) && !(d.boundary==4) && !(d.boundary==6))) with
  | true=>rw [h1,h2] at h;cases h
  | false =>
   rw [Bool.or_eq_false_iff,Bool.or_eq_false_iff] at h2;have:=h2.1.1;simp only [btw,iLe,Bool.not_eq_false',Bool.and_eq_true,decide_eq_true_eq] at this;exact this
theorem qj {n:Int} (h:0≤n∧n≤7) (b:Bool):((cond b (IntKind.i64.wrap (n+1)) n).tmod 2==1) = !((!(n.tmod 2==0))==b):=by
 obtain ⟨k,rfl⟩:∃ k:Nat,n=k:=⟨n.toNat,by omega⟩;have:k=0∨k=1∨k=2∨k=3∨k=4∨k=5∨k=6∨k=7:=by omega
 rcases this with h | h | h | h | h | h | h | h<;>subst h<;>cases b<;>rfl
theorem O4 {N:Nat} {r8:Bool} {r0:ByteArray} {r13:Rows} {d5 d10:Bool}  : B0 N [.str r0,.int r1,.int r2,.int r3,.int r4,.int r5,.int r6,.int r7,.bool r8,.int r9,.int r10,.int r11,.int r12,.rows r13,.int d0,.int d1,.int d2,.int d3,.int d4,.bool d5,.int d6,.int d7,.int d8,.int d9,.bool d10,.int d11]=some (AF (⟨r0,r1,r2,r3,r4,r5,r6,r7,r8,r9,r10,r11,r12,r13⟩:Rul) (⟨d0,d1,d2,d3,d4,d5,d6,d7,d8,d9,d10,d11⟩:Del)).ls:=by
 show GD (std (Eu N) N) (xOf _)=_;generalize hres:(some (AF (⟨r0,r1,r2,r3,r4,r5,r6,r7,r8,r9,r10,r11,r12,r13⟩:Rul) (⟨d0,d1,d2,d3,d4,d5,d6,d7,d8,d9,d10,d11⟩:Del)).ls:Option (List PV))=RR;simp only [GD,Kp,JG,q9,std,xOf,PXb,PXc,PXn,PXm,Nat.reduceAdd,Int.reduceBEq,Qh,U6];subst hres;simp only [AF,RW];cases hl:Eg (⟨d0,d1,d2,d3,d4,d5,d6,d7,d8,d9,d10,d11⟩:Del)==0 with
 | false=>rfl
 | true =>
  have hs:=qj (lS hl) d5;simp only at hs;simp only [PXb,PXc,PXn,PXm,Nat.reduceAdd,Int.reduceBEq,hs];cases h0:d0==2<;>cases h3:d0==3<;>cases h1:d1==1<;>cases h2:d1==2<;>cases h4:d1==3<;>first
   | rfl
   | (rw [bm h0 (c:=3) rfl] at h3;exact absurd h3 (by decide))
   | (rw [bm h1 (c:=2) rfl] at h2;exact absurd h2 (by decide))
   | (rw [bm h1 (c:=3) rfl] at h4;exact absurd h4 (by decide))
   | (rw [bm h2 (c:=3) rfl] at h4;exact absurd h4 (by decide))
end Go.Px
end
section
namespace Go.Px
set_option maxRecDepth 100000
def onS (h t:Int):Bool :=
 cond (h==1||h==2||h==3) (t==1) (cond (h==4||h==5) (t==1||t==2) (cond (h==7) (t==1||t==3) (cond (h==6||h==8) (t==1||t==2||t==3) false)))
def eP (h:Int):Bool:=h==6||h==7||h==8
def NP (h:Int):Bool:=h==6||h==8
def ZL (h:Int):Bool:=h==2||h==4||h==6
def Pg (d:Del) (free:Bool):Int :=
  cond (d.how==0) (cond (!(d.victim==0)) 14 (cond (!(d.fielder==0) || !(d.second==0)||d.sub) 15 0))
    (cond (!onS d.how d.type||free && !eP d.how) 13 (cond (!NP d.how&&(!(d.source==0) || !(d.runs==0))) 12
      (cond (!(d.victim==1) && !(d.victim==2&&NP d.how)) 14
        (cond (ZL d.how && !btw d.fielder 1 11 || !ZL d.how && !(d.fielder==0)) 15
          (cond (!(d.second==0)&&(!(d.how==6) || !btw d.second 1 11||d.second==d.fielder)) 15
            (cond (d.sub && !(d.how==2) && !(d.how==6)) 18 0))))))
def Bo:Rows:=match Ba 0 [] with
 | some [.rows l]=>l
 | _=>[]
theorem PC {N:Nat}:Ba N []=some [.rows Bo]:=rfl
theorem Y7:Bo.length=11:=rfl
theorem Wc {N:Nat} {h:Int} {n:ByteArray} {b:Bool} {c:Bool} {d:Bool} {e:Bool} {x:Bool} {t:Int}  : Dh N [.int h,.str n,.bool b,.bool c,.bool d,.bool e,.bool x,.int t]=some [.bool (t==1&&b||t==2&&c||t==3&&d)]:=by
 show Fk (std (Lj N) N) (xOf _)=_;simp only [Fk,q9,std,xOf,PXb,PXc,PXn,PXm,Nat.reduceAdd,Int.reduceBEq]
theorem R1 {N:Nat} {n:Int}  : CW N [.int n]=some [.bool (btw n 1 11)]:=by
 show DS (std (Ij N) N) (xOf _)=_;simp only [DS,q9,std,xOf,PXb,PXc,PXn,PXm,Nat.reduceAdd,Int.reduceBEq];rfl
def kj (i j:Nat):Bool:=pvB (AE Bo i j)
def wOk (t:Int) (free:Bool) (i:Nat):Bool :=
  (t==1&&kj i 2||t==2&&kj i 3||t==3&&kj i 4)&&(!free||atI Bo i 0==6||atI Bo i 0==7||atI Bo i 0==8)
def Gy (t:Int) (free:Bool):Nat→Rows
 | 0=>[]
 | i+1=>cond (wOk t free i) (Gy t free i++[[.int (atI Bo i 0)]]) (Gy t free i)
theorem YU (t:Int) (free:Bool):∀ i,(Gy t free i).length≤i
 | 0=>Nat.le_refl _
 | i+1=>by
  have:=YU t free i;unfold Gy;cases wOk t free i
  ·exact Nat.le_succ_of_le this
  ·simp;exact this
theorem Ym {N:Nat} {t:Int} {f:Bool} (hN:2097152<N):Em N [.int t,.bool f]=some [.rows (Gy t f 11)]:=by
 show HE (std (Ff N) N) (xOf _)=_;simp only [HE,Ku,Jt,q9,std,xOf,PXb,PXc,PXn,AH,PC,Wc];refine Ab (D3 (len:=Bo.length) (fun i=>[.rows (Gy t f i),.int (i:Int)]) [.rows (Gy t f 11)] ?_ ?_ N (by rw [Y7];omega)) rfl
 ·intro self;simp only [PXb,PXc,PXn,AH,BM];rfl
 ·intro i self hi;have hi2:i<11:=hi;have h2:(Gy t f i++[[PV.int (atI Bo i 0)]]).length≤4194304:=by have:=YU t f i;simp;omega
  simp only [PXb,PXc,AH,A7 (show i≤1099511627776 by omega),Az hi,AY hi,Cl,Gy,GA h2 (show 1≤4096 by omega)];unfold wOk kj;cases ((t==1&&pvB (AE Bo i 2)||t==2&&pvB (AE Bo i 3)||t==3&&pvB (AE Bo i 4))&&(!f||atI Bo i 0==6||atI Bo i 0==7||atI Bo i 0==8))<;>rfl
theorem WJ {N:Nat} {L:Rows} {v:Int} (hN:L.length<N) (hl:L.length≤1048576):Db N [.rows L,.int v]=some [.int (Ob (fun j=>v==atI L j 0) L.length)]:=by
 show Fb (std (Lm N) N) (xOf _)=_;simp only [Fb,q9,std,xOf,PXb,PXc,PXn,AH];refine Ab (Cp (len:=L.length) (Fr fun j=>v==atI L j 0) ?_ ?_ L.length 0 N (by omega) (by omega)) ?_
 ·intro self;simp only [PXb,PXc,PXn,AH,BM]
 ·intro i self hi;simp only [PXb,PXc,PXn,AH,A7 (show i≤1099511627776 by omega),Az hi,AY hi,Fr,Cl];cases v==atI L i 0<;>rfl
 ·unfold Ob;cases BR (Fr fun j=>v==atI L j 0) L.length 0<;>rfl
theorem Si {N:Nat} {L:Rows} {v:Int} (hN:L.length<N) (hl:L.length≤1048576):Cm N [.rows L,.int v]=some [.bool (Jl L L.length v)]:=by
 show Dn (std (E9 N) N) (xOf _)=_;simp only [Dn,Hv,q9,std,xOf,PXb,PXc,PXn,AH,WJ hN hl,Ja,Jl]
theorem oJ (L:Rows) (v:Int):Jl L L.length v=Jg (fun x=>v==x) L:=rfl
theorem rK (p:Int→Bool) (b:Bool) (L:Rows) (x:Int):Jg p (cond b (L++[[.int x]]) L)=(Jg p L||(b&&p x)):=by
 cases b with
 | false=>simp
 | true=>rw [cond_true,gy,Bool.true_and];congr 1;rw [Mx];simp [AA,pvI]
theorem gQ (t:Int) (free:Bool) (p:Int→Bool):∀ i,Jg p (Gy t free i)=Bb (fun j=>wOk t free j&&p (atI Bo j 0)) i 0
 | 0=>rfl
 | i+1=>by rw [WT,← gQ t free p i,Gy,rK,Nat.zero_add]
theorem nP (t h:Int) (free:Bool):Jl (Gy t free 11) (Gy t free 11).length h=(onS h t&&(!free||eP h)):=by
 rw [oJ,gQ];have key:∀ j,j<11→atI Bo j 0=j:=by
  intro j hj;have:j=0∨j=1∨j=2∨j=3∨j=4∨j=5∨j=6∨j=7∨j=8∨j=9∨j=10:=by omega
  rcases this with h | h | h | h | h | h | h | h | h | h | h<;>subst h<;>rfl
 by_cases hr:0≤h∧h≤10
 ·obtain ⟨k,rfl⟩:∃ k:Nat,h=k:=⟨h.toNat,by omega⟩;have:k=0∨k=1∨k=2∨k=3∨k=4∨k=5∨k=6∨k=7∨k=8∨k=9∨k=10:=by omega
  rcases this with h | h | h | h | h | h | h | h | h | h | h<;>subst h<;>simp only [B1,IW,wOk,onS]<;>cases free<;>cases t==1<;>cases t==2<;>cases t==3<;>rfl
 ·rw [JI.2 fun j _ hj=>by
   rw [key j (by omega),show (h==(j:Int))=false from beq_false_of_ne (by omega),Bool.and_false]]
  have e:∀ n:Int,0≤n→n≤10→(h==n)=false:=fun n h0 h1=>beq_false_of_ne (by omega)
  unfold onS;rw [e 1 (by omega) (by omega),e 2 (by omega) (by omega),e 3 (by omega) (by omega),e 4 (by omega) (by omega),e 5 (by omega) (by omega),e 6 (by omega) (by omega),e 7 (by omega) (by omega),e 8 (by omega) (by omega)];rfl
def TW (h:Int):List PV:=match BR (fun i=>cond (atI Bo i 0==h) (some [.int (pvI (AE Bo i 0)),.str (pvS (AE Bo i 1)),.bool (pvB (AE Bo i 2)),.bool (pvB (AE Bo i 3)),.bool (pvB (AE Bo i 4)),.bool (pvB (AE Bo i 5)),.bool (pvB (AE Bo i 6))]) none) 11 0 with
 | some r=>r
 | none=>[.int 0,.str ⟨#[]⟩,.bool false,.bool false,.bool false,.bool false,.bool false]
theorem Ph {ans:Nat→Option (List PV)} {r:List PV}:∀ (k i:Nat),BR ans k i=some r→∃ j,i≤j∧j<i+k∧ans j=some r
 | 0,i,h=>by cases h
 | k+1,i,h=>by
  simp only [BR] at h;cases ha:ans i with
  | some x=>rw [ha] at h;cases h;exact ⟨i,Nat.le_refl _,by omega,ha⟩
  | none =>
   rw [ha] at h;obtain ⟨j,h1,h2,h3⟩:=Ph k (i+1) h;exact ⟨j,by omega,by omega,h3⟩
theorem nz (h:Int):∃ a b c d e f g,TW h=[.int a,.str b,.bool c,.bool d,.bool e,.bool f,.bool g]:=by
 unfold TW;generalize hf:BR _ 11 0=o;cases o with
 | none=>exact ⟨_,_,_,_,_,_,_,rfl⟩
 | some r =>
  obtain ⟨j,_,_,h3⟩:=Ph _ _ hf;cases hb:atI Bo j 0==h with
  | false=>rw [hb] at h3;cases h3
  | true=>rw [hb] at h3;cases h3;exact ⟨_,_,_,_,_,_,_,rfl⟩
theorem cW {N:Nat} {h:Int} (hN:2097152<N):GJ N [.int h]=some (TW h):=by
 show I9 (std (Kq N) N) (xOf _)=_;simp only [I9,Lq,q9,std,xOf,PXb,PXc,PXn,AH,PC];refine Ab (Cp (len:=Bo.length) (fun i=>cond (atI Bo i 0==h) (some [.int (pvI (AE Bo i 0)),.str (pvS (AE Bo i 1)),.bool (pvB (AE Bo i 2)),.bool (pvB (AE Bo i 3)),.bool (pvB (AE Bo i 4)),.bool (pvB (AE Bo i 5)),.bool (pvB (AE Bo i 6))]) none) ?_ ?_ Bo.length 0 N (by omega) (by rw [Y7];omega)) ?_
 ·intro self;simp only [PXb,PXc,PXn,AH,BM]
 ·intro i self hi;have hi2:i<11:=hi;simp only [PXb,PXc,PXn,AH,A7 (show i≤1099511627776 by omega),Az hi,AY hi,Cl];cases atI Bo i 0==h<;>rfl
 ·unfold TW;rw [Y7];generalize hf:BR _ 11 0=o;cases o with
  | none=>rfl
  | some r =>
   obtain ⟨j,_,_,h3⟩:=Ph _ _ hf;cases hb:atI Bo j 0==h with
   | false=>rw [hb] at h3;cases h3
   | true=>rw [hb] at h3;cases h3;rfl
theorem nC (h:Int):pvB (AA (TW h) 5)=ZL h∧pvB (AA (TW h) 6)=NP h:=by
 by_cases hr:0≤h∧h≤10
 ·obtain ⟨k,rfl⟩:∃ k:Nat,h=k:=⟨h.toNat,by omega⟩;have:k=0∨k=1∨k=2∨k=3∨k=4∨k=5∨k=6∨k=7∨k=8∨k=9∨k=10:=by omega
  rcases this with h | h | h | h | h | h | h | h | h | h | h<;>subst h<;>exact ⟨rfl,rfl⟩
 ·have e:∀ n:Int,0≤n→n≤10→(h==n)=false:=fun n h0 h1=>beq_false_of_ne (by omega)
  have key:∀ j,j<11→atI Bo j 0=j:=by
   intro j hj;have:j=0∨j=1∨j=2∨j=3∨j=4∨j=5∨j=6∨j=7∨j=8∨j=9∨j=10:=by omega
   rcases this with h | h | h | h | h | h | h | h | h | h | h<;>subst h<;>rfl
  unfold TW;generalize hf:BR _ 11 0=o;cases o with
  | none =>
   unfold ZL NP;rw [e 2 (by omega) (by omega),e 4 (by omega) (by omega),e 6 (by omega) (by omega),e 8 (by omega) (by omega)];exact ⟨rfl,rfl⟩
  | some r =>
   obtain ⟨j,_,hj,h3⟩:=Ph _ _ hf;rw [key j (by omega),show ((j:Int)==h)=false from beq_false_of_ne (by omega)] at h3;cases h3
def Nq (d:Del) (m:Bool):Bool :=
 !(!(m==btw d.fielder 1 11) || !m && !(d.fielder==0))&&(d.second==0||d.how==6&&btw d.second 1 11 && !(d.second==d.fielder))
theorem UG {N:Nat} {d5 d10:Bool} {a:Int} {n:ByteArray} {b:Bool} {c:Bool} {e:Bool} {f:Bool} {g:Bool}  : Cu N [.int d0,.int d1,.int d2,.int d3,.int d4,.bool d5,.int d6,.int d7,.int d8,.int d9,.bool d10,.int d11,.int a,.str n,.bool b,.bool c,.bool e,.bool f,.bool g]=some [.bool (Nq (⟨d0,d1,d2,d3,d4,d5,d6,d7,d8,d9,d10,d11⟩:Del) f)]:=by
 show EL (std (Fw N) N) (xOf _)=_;generalize hres:(some [.bool (Nq (⟨d0,d1,d2,d3,d4,d5,d6,d7,d8,d9,d10,d11⟩:Del) f)]:Option (List PV))=RR;simp only [EL,Gm,q9,std,xOf,PXb,PXc,PXn,PXm,Nat.reduceAdd,Int.reduceBEq,R1];subst hres;simp only [Nq];cases d9==0<;>cases d6==6<;>cases f<;>cases btw d8 1 11<;>cases d8==0<;>first | rfl | (cases btw d9 1 11<;>rfl)
theorem sD {α:Type} (a b:Bool) (x y:α):cond (a||b) x y=cond a x (cond b x y):=by cases a<;>rfl
theorem ij (d:Del) (m:Bool):(!Nq d m)=((m && !btw d.fielder 1 11 || !m && !(d.fielder==0))||(!(d.second==0)&&(!(d.how==6) || !btw d.second 1 11||d.second==d.fielder))):=by
 unfold Nq;cases hb:btw d.fielder 1 11<;>cases hf:d.fielder==0
 ·cases m<;>cases d.second==0<;>cases d.how==6<;>cases btw d.second 1 11<;>cases d.second==d.fielder<;>rfl
 ·cases m<;>cases d.second==0<;>cases d.how==6<;>cases btw d.second 1 11<;>cases d.second==d.fielder<;>rfl
 ·cases m<;>cases d.second==0<;>cases d.how==6<;>cases btw d.second 1 11<;>cases d.second==d.fielder<;>rfl
 ·rw [beq_iff_eq.1 hf] at hb;exact absurd hb (by decide)
theorem UD {N:Nat} {d5 d10:Bool} {f:Bool} (hN:2097152<N):Cz N [.int d0,.int d1,.int d2,.int d3,.int d4,.bool d5,.int d6,.int d7,.int d8,.int d9,.bool d10,.int d11,.bool f]=some [.int (Pg (⟨d0,d1,d2,d3,d4,d5,d6,d7,d8,d9,d10,d11⟩:Del) f)]:=by
 show EO (std (Bz N) N) (xOf _)=_;generalize hres:(some [.int (Pg (⟨d0,d1,d2,d3,d4,d5,d6,d7,d8,d9,d10,d11⟩:Del) f)]:Option (List PV))=RR;have hl:=YU d0 f 11;obtain ⟨a,b,c,d,e,m,g,hline⟩:=nz d6;have hbits:=nC d6;rw [hline] at hbits;have hm:m=ZL d6:=hbits.1;have hg:g=NP d6:=hbits.2;have h1:(Gy d0 f 11).length<N:=by omega
 have h2:(Gy d0 f 11).length≤1048576:=by omega
 simp only [EO,KB,HD,JJ,Hf,q9,std,xOf,PXb,PXc,PXn,PXm,Nat.reduceAdd,Int.reduceBEq,cW hN,hline,Ym hN,Si h1 h2,nP,UG,ij];subst hres;simp only [Pg,sD];rw [hm,hg];unfold NP;cases d6==0<;>cases onS d6 d0<;>cases f<;>cases eP d6<;>try rfl
 all_goals (cases d6==6<;>cases d6==8<;>cases d7==2<;>rfl)
end Go.Px
end
section
namespace Go.Px
set_option maxRecDepth 100000
theorem V3 {N:Nat} {a:Int} {b:Int} {c:Int}  : Df N [.int a,.int b,.int c]=some [.bool (btw a b c)]:=by
 show Im (std (MM N) N) (xOf _)=_;show some [PV.bool (cond (iLe b a) (iLe a c) false)]=_;rw [Z8];rfl
theorem ac {N:Nat} {a:Int} {b:Int} {c:Int}  : FJ N [.int a,.int b,.int c]=some [.bool (btw a b c)]:=by
 show Lz (std (Oy N) N) (xOf _)=_;show some [PV.bool (cond (iLe b a) (iLe a c) false)]=_;rw [Z8];rfl
def eO (d:Del):Int :=
  cond (iLt d.type 1||iLt 3 d.type||iLt 3 d.source||iLt 10 d.how) 3
    (cond (!btw d.runs 0 7 || !btw d.short 0 d.runs||(!(d.boundary==0) && !(d.boundary==4) && !(d.boundary==6)) || !btw d.victim 0 2 || !btw d.fielder 0 11 || !btw d.second 0 11 || !btw d.sector 0 8) 2 0)
theorem Yl {N:Nat} {d5 d10:Bool}  : Ee N [.int d0,.int d1,.int d2,.int d3,.int d4,.bool d5,.int d6,.int d7,.int d8,.int d9,.bool d10,.int d11]=some [.int (eO (⟨d0,d1,d2,d3,d4,d5,d6,d7,d8,d9,d10,d11⟩:Del))]:=by
 show HG (std (Iv N) N) (xOf _)=_;generalize hres:(some [.int (eO (⟨d0,d1,d2,d3,d4,d5,d6,d7,d8,d9,d10,d11⟩:Del))]:Option (List PV))=RR;simp only [HG,J3,q9,std,xOf,PXb,PXc,PXn,PXm,Nat.reduceAdd,Int.reduceBEq,V3];subst hres;simp only [eO]
def loS (k:Int):Int:=cond (k==7) 0 (cond (k==13) 1 0)
def hiS (k:Int):Int:=cond (k==7) 11 (cond (k==13) 99 100000)
theorem bB {N:Nat} {k:Int}  : GU N [.int k]=some [.int (loS k),.int (hiS k)]:=by
 show JO (std (P9 N) N) (xOf _)=_;simp only [JO,q9,std,xOf,PXb,PXc,PXn,PXm,Nat.reduceAdd,Int.reduceBEq];unfold loS hiS;cases k==7<;>cases k==13<;>rfl
def uS (k:Int):Bool:=k==1||k==12||k==14||k==11||k==13
def uP (k:Int):Bool:=k==2||k==3||k==8||k==5||k==6||k==9
def uO (k:Int):Bool:=k==2
def uY (k:Int):Bool:=k==1||k==12||k==14||k==5||k==6||k==9
def uR (k:Int):Bool:=k==7||k==13||k==15
def uV (k:Int):Bool:=k==15
def uB (k:Int):Bool:=k==4
theorem bM {k:Int} (h:(iLt k 1||iLt 16 k)=false):k=1∨k=2∨k=3∨k=4∨k=5∨k=6∨k=7∨k=8∨k=9∨k=10∨k=11∨k=12∨k=13∨k=14∨k=15∨k=16:=by
 simp only [iLt,Bool.or_eq_false_iff,decide_eq_false_iff_not] at h;omega
def km:Rows:=match FE 0 [] with
 | some [.rows l]=>l
 | _=>[]
theorem dl {N:Nat}:FE N []=some [.rows km]:=rfl
def C8 (k f:Int):Bool:=iLe 0 (Lib.indexByte (pvS (AE km (IntKind.u8.wrap (k - 1)).toNat 1)).data.toList f.toNat.toUInt8)||(k==5&&f==121)
theorem U8 {N:Nat} {s:ByteArray} {f:Int}  : DD N [.str s,.int f]=some [.int (Lib.indexByte s.data.toList f.toNat.toUInt8)]:=by
 show E1 (std (Ga N) N) (xOf _)=_;simp only [E1,Gn,q9,std,xOf,PXb,PXc,PXn,PXm,Nat.reduceAdd,Int.reduceBEq,CL,Z0]
theorem Va {N:Nat} {k:Int} {f:Int} (h:(iLt k 1||iLt 16 k)=false):Ic N [.int k,.int f]=some [.bool (C8 k f)]:=by
 show MW (std (JA N) N) (xOf _)=_;have hi:iIn (IntKind.u8.wrap (k - 1)) (km.length:Int)=true:=by
  rcases bM h with h | h | h | h | h | h | h | h | h | h | h | h | h | h | h | h<;>subst h<;>rfl
 simp only [MW,L8,QP,q9,std,xOf,PXb,PXc,PXn,PXm,Nat.reduceAdd,Int.reduceBEq,dl,U8,hi,C8]
theorem qq {k:Int} (h:(iLt k 1||iLt 16 k)=false):C8 k 115=uS k∧C8 k 112=uP k∧C8 k 111=uO k∧C8 k 121=uY k∧C8 k 114=uR k∧C8 k 118=uV k∧C8 k 98=uB k:=by
 rcases bM h with h | h | h | h | h | h | h | h | h | h | h | h | h | h | h | h<;>subst h<;>exact ⟨rfl,rfl,rfl,rfl,rfl,rfl,rfl⟩
def kq (d:Del):Bool:=d.type==0&&(d.source==0&&(d.runs==0&&(d.short==0&&(d.boundary==0&&(d.crossed==false&&(d.how==0&&(d.victim==0&&(d.fielder==0&&(d.second==0&&(d.sub==false&&d.sector==0))))))))))
def et (e:Ev):Bool:=(!(e.side==0) && !uS e.kind)||((!(e.player==0) && !uP e.kind)||((!(e.other==0) && !uO e.kind)||((e.yes && !uY e.kind)||((!(e.runs==0) && !uR e.kind)||((!(e.overs==0) && !uV e.kind)||(!kq e.ball && !uB e.kind))))))
def Yd (e:Ev):Bool:=(!btw e.side 1 2&&uS e.kind)||((!btw e.player 1 11&&uP e.kind)||((!btw e.other 1 11&&uO e.kind)||((!btw e.runs (loS e.kind) (hiS e.kind)&&uR e.kind)||(!btw e.overs 0 90&&uV e.kind))))
def evS (e:Ev):Int:=cond (iLt e.kind 1||iLt 16 e.kind) 3 (cond (et e) 1 (cond (Yd e) 2 (cond (e.kind==4) (eO e.ball) 0)))
def evT (e:Ev):Rows:=[[.int 115,.bool (e.side==0),.bool (btw e.side 1 2)],[.int 112,.bool (e.player==0),.bool (btw e.player 1 11)],[.int 111,.bool (e.other==0),.bool (btw e.other 1 11)],[.int 121,.bool (!e.yes),.bool true],[.int 114,.bool (e.runs==0),.bool (btw e.runs (loS e.kind) (hiS e.kind))],[.int 118,.bool (e.overs==0),.bool (btw e.overs 0 90)],[.int 98,.bool (kq e.ball),.bool true]]
theorem Uq {N:Nat} {e0 e1 e2 e3 e5 e6 e7 e8 e9 e10 e11 e13 e14 e15 e16 e18:Int} {e4 e12 e17:Bool} (hN:2097152<N):C4 N [.int e0,.int e1,.int e2,.int e3,.bool e4,.int e5,.int e6,.int e7,.int e8,.int e9,.int e10,.int e11,.bool e12,.int e13,.int e14,.int e15,.int e16,.bool e17,.int e18]=some [.int (evS (⟨e0,e1,e2,e3,e4,e5,e6,⟨e7,e8,e9,e10,e11,e12,e13,e14,e15,e16,e17,e18⟩⟩:Ev))]:=by
 show HK (std (Dv N) N) (xOf _)=_;generalize hres:(some [.int (evS (⟨e0,e1,e2,e3,e4,e5,e6,⟨e7,e8,e9,e10,e11,e12,e13,e14,e15,e16,e17,e18⟩⟩:Ev))]:Option (List PV))=RR;cases hk:iLt e0 1||iLt 16 e0 with
 | true =>
  simp only [HK,He,Gu,IZ,DK,q9,std,xOf,PXb,PXc,AH,hk,← hres,evS]
 | false =>
  simp only [HK,He,Gu,IZ,DK,q9,std,xOf,PXb,PXc,AH,hk,bB,ac];subst hres;obtain ⟨g1,g2,g3,g4,g5,g6,g7⟩:=qq hk;refine Ab (Kw (len:=7) (fun i => !pvB (AE (evT (⟨e0,e1,e2,e3,e4,e5,e6,⟨e7,e8,e9,e10,e11,e12,e13,e14,e15,e16,e17,e18⟩⟩:Ev)) i 1) && !C8 e0 (pvI (AE (evT (⟨e0,e1,e2,e3,e4,e5,e6,⟨e7,e8,e9,e10,e11,e12,e13,e14,e15,e16,e17,e18⟩⟩:Ev)) i 0))) [.int 1] ?_ ?_ N (by omega)) ?_
  ·intro self;rfl
  ·intro i self hi;simp only [PXb,PXc,AH,A7 (show i≤1099511627776 by omega),List.length_cons,List.length_nil,Nat.reduceAdd,Az hi,AY hi,Va hk];change cond (!pvB (AE (evT (⟨e0,e1,e2,e3,e4,e5,e6,⟨e7,e8,e9,e10,e11,e12,e13,e14,e15,e16,e17,e18⟩⟩:Ev)) i 1) && !(!pvB (AE (evT (⟨e0,e1,e2,e3,e4,e5,e6,⟨e7,e8,e9,e10,e11,e12,e13,e14,e15,e16,e17,e18⟩⟩:Ev)) i 1)&&C8 e0 (pvI (AE (evT (⟨e0,e1,e2,e3,e4,e5,e6,⟨e7,e8,e9,e10,e11,e12,e13,e14,e15,e16,e17,e18⟩⟩:Ev)) i 0)))) _ _=_;cases pvB (AE (evT (⟨e0,e1,e2,e3,e4,e5,e6,⟨e7,e8,e9,e10,e11,e12,e13,e14,e15,e16,e17,e18⟩⟩:Ev)) i 1)<;>rfl
  ·have a1:Bb (fun i => !pvB (AE (evT (⟨e0,e1,e2,e3,e4,e5,e6,⟨e7,e8,e9,e10,e11,e12,e13,e14,e15,e16,e17,e18⟩⟩:Ev)) i 1) && !C8 e0 (pvI (AE (evT (⟨e0,e1,e2,e3,e4,e5,e6,⟨e7,e8,e9,e10,e11,e12,e13,e14,e15,e16,e17,e18⟩⟩:Ev)) i 0))) 7 0=et (⟨e0,e1,e2,e3,e4,e5,e6,⟨e7,e8,e9,e10,e11,e12,e13,e14,e15,e16,e17,e18⟩⟩:Ev):=by
    simp only [B1,IW];change (!(e1==0) && !C8 e0 115||(!(e2==0) && !C8 e0 112||(!(e3==0) && !C8 e0 111||(!(!e4) && !C8 e0 121||(!(e5==0) && !C8 e0 114||(!(e6==0) && !C8 e0 118||(!(kq (⟨e0,e1,e2,e3,e4,e5,e6,⟨e7,e8,e9,e10,e11,e12,e13,e14,e15,e16,e17,e18⟩⟩:Ev).ball) && !C8 e0 98||false)))))))=_;rw [g1,g2,g3,g4,g5,g6,g7,Bool.not_not,Bool.or_false];rfl
   rw [a1];simp only [evS,hk,cond_false];cases et (⟨e0,e1,e2,e3,e4,e5,e6,⟨e7,e8,e9,e10,e11,e12,e13,e14,e15,e16,e17,e18⟩⟩:Ev) with
   | true=>rfl
   | false =>
    simp only [PXb,PXc,AH];refine Ab (Kw (len:=7) (fun i => !pvB (AE (evT (⟨e0,e1,e2,e3,e4,e5,e6,⟨e7,e8,e9,e10,e11,e12,e13,e14,e15,e16,e17,e18⟩⟩:Ev)) i 2)&&C8 e0 (pvI (AE (evT (⟨e0,e1,e2,e3,e4,e5,e6,⟨e7,e8,e9,e10,e11,e12,e13,e14,e15,e16,e17,e18⟩⟩:Ev)) i 0))) [.int 2] ?_ ?_ N (by omega)) ?_
    ·intro self;rfl
    ·intro i self hi;simp only [PXb,PXc,AH,A7 (show i≤1099511627776 by omega),List.length_cons,List.length_nil,Nat.reduceAdd,Az hi,AY hi,Va hk];rfl
    ·have a2:Bb (fun i => !pvB (AE (evT (⟨e0,e1,e2,e3,e4,e5,e6,⟨e7,e8,e9,e10,e11,e12,e13,e14,e15,e16,e17,e18⟩⟩:Ev)) i 2)&&C8 e0 (pvI (AE (evT (⟨e0,e1,e2,e3,e4,e5,e6,⟨e7,e8,e9,e10,e11,e12,e13,e14,e15,e16,e17,e18⟩⟩:Ev)) i 0))) 7 0=Yd (⟨e0,e1,e2,e3,e4,e5,e6,⟨e7,e8,e9,e10,e11,e12,e13,e14,e15,e16,e17,e18⟩⟩:Ev):=by
      simp only [B1,IW];change (!(btw e1 1 2)&&C8 e0 115||(!(btw e2 1 11)&&C8 e0 112||(!(btw e3 1 11)&&C8 e0 111||(!true&&C8 e0 121||(!(btw e5 (loS e0) (hiS e0))&&C8 e0 114||(!(btw e6 0 90)&&C8 e0 118||(!true&&C8 e0 98||false)))))))=_;rw [g1,g2,g3,g4,g5,g6,g7];simp only [Bool.not_true,Bool.false_and,Bool.false_or,Bool.or_false];rfl
     rw [a2];cases Yd (⟨e0,e1,e2,e3,e4,e5,e6,⟨e7,e8,e9,e10,e11,e12,e13,e14,e15,e16,e17,e18⟩⟩:Ev) with
     | true=>rfl
     | false =>
      simp only [PXb,PXc,PXn,PXm,Nat.reduceAdd,Int.reduceBEq,DK,Yl]
theorem c4 {c x x' y y':Bool} {a b d z z':Int} (h1:x=x') (h2:y=y') (h3:z=z'):(some [PV.int (cond c a (cond x b (cond y d z)))]:Option (List PV))=some [PV.int (cond c a (cond x' b (cond y' d z')))]:=by subst h1;subst h2;subst h3;rfl
end Go.Px
end
