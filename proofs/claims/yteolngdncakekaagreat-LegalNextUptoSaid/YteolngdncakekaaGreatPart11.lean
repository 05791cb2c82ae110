/- Part 11. -/
import Derived.Test.YteolngdncakekaaGreatPart10
set_option linter.unusedVariables false
set_option linter.unusedSimpArgs false
section
namespace Go.Px
set_option maxRecDepth 100000
def ZR (r:Rul) (over:Int):Int :=
 match B2 (fun i=>cond (iLe (atI r.power i 0) (inc over)&&iLe (inc over) (atI r.power i 1)) (some [.int (atI r.power i 2)]) none) r.power.length 0 with
 | some x=>pvI (AJ x 0)
 | none=>r.outside
theorem f7 {N:Nat} {r1 r2 r3 r4 r5 r6 r7 r9 r10 r11 r12:Int} {r8:Bool} {r0:ByteArray} {r13:Rows} {o:Int} (hN:2097152<N) (h13:r13.length≤1048576):Fb N [.str r0,.int r1,.int r2,.int r3,.int r4,.int r5,.int r6,.int r7,.bool r8,.int r9,.int r10,.int r11,.int r12,.rows r13,.int o]=some [.int (ZR (⟨r0,r1,r2,r3,r4,r5,r6,r7,r8,r9,r10,r11,r12,r13⟩:Rul) o)]:=by
 show I5 (std (RV N) N) (xOf _)=_
 simp only [I5,std,xOf,PXb,PXc,PXn,AA]
 refine AK (CU (len:=r13.length) (fun i=>cond (iLe (atI r13 i 0) (inc o)&&iLe (inc o) (atI r13 i 1)) (some [.int (atI r13 i 2)]) none) ?_ ?_ r13.length 0 N (by omega) (by omega)) ?_
 ·intro self
  simp only [PXb,PXc,PXn,AA,Ar]
 ·intro i self hi
  simp only [PXb,PXc,PXn,AA,AW (show i≤1099511627776 by omega),Ah hi,AQ hi]
  cases hq:iLe (atI r13 i 0) (inc o)&&iLe (inc o) (atI r13 i 1)<;>unfold inc atI at hq<;>rw [hq]<;>rfl
 ·unfold ZR
  cases B2 (fun i=>cond (iLe (atI r13 i 0) (inc o)&&iLe (inc o) (atI r13 i 1)) (some [.int (atI r13 i 2)]) none) r13.length 0<;>rfl
theorem j9 {N:Nat} {r1 r2 r3 r4 r5 r6 r7 r9 r10 r11 r12:Int} {r8:Bool} {r0:ByteArray} {r13:Rows} {o:Int} (hN:2097152<N) (h13:r13.length≤1048576):II N [.str r0,.int r1,.int r2,.int r3,.int r4,.int r5,.int r6,.int r7,.bool r8,.int r9,.int r10,.int r11,.int r12,.rows r13,.int o]=some [.int (ZR (⟨r0,r1,r2,r3,r4,r5,r6,r7,r8,r9,r10,r11,r12,r13⟩:Rul) o)]:=by
 show LE (std (UE N) N) (xOf _)=_
 simp only [LE,std,xOf,PXb,PXc,PXn,AA]
 refine AK (CU (len:=r13.length) (fun i=>cond (iLe (atI r13 i 0) (inc o)&&iLe (inc o) (atI r13 i 1)) (some [.int (atI r13 i 2)]) none) ?_ ?_ r13.length 0 N (by omega) (by omega)) ?_
 ·intro self
  simp only [PXb,PXc,PXn,AA,Ar]
 ·intro i self hi
  simp only [PXb,PXc,PXn,AA,AW (show i≤1099511627776 by omega),Ah hi,AQ hi]
  cases hq:iLe (atI r13 i 0) (inc o)&&iLe (inc o) (atI r13 i 1)<;>unfold inc atI at hq<;>rw [hq]<;>rfl
 ·unfold ZR
  cases B2 (fun i=>cond (iLe (atI r13 i 0) (inc o)&&iLe (inc o) (atI r13 i 1)) (some [.int (atI r13 i 2)]) none) r13.length 0<;>rfl
def Jk (s:Inn) (p:Int):Inn×Int :=
 cond (!inR p s.subs.length) (s,3) (cond (Ct s p) (s,18) (cond (p==s.bowler||p==s.keeper) (s,17) ({ s with keeper:=p },0)))
theorem iC {N:Nat} {s0 s1 s2 s3 s4 s5 s6 s7 s8 s9 s10 s11 s12 s13 s15 s21 s22 s23 s25 s26 s27:Int} {s18 s20:Bool} {s14 s16 s17 s19 s24:Rows} {p:Int} (h:Fit s14 s16 s17 s19 s24):GW N [.int s0,.int s1,.int s2,.int s3,.int s4,.int s5,.int s6,.int s7,.int s8,.int s9,.int s10,.int s11,.int s12,.int s13,.rows s14,.int s15,.rows s16,.rows s17,.bool s18,.rows s19,.bool s20,.int s21,.int s22,.int s23,.rows s24,.int s25,.int s26,.int s27,.int p]=some (AX (Jk (⟨s0,s1,s2,s3,s4,s5,s6,s7,s8,s9,s10,s11,s12,s13,s14,s15,s16,s17,s18,s19,s20,s21,s22,s23,s24,s25,s26,s27⟩:Inn) p)):=by
 show KH (std (Ei N) N) (xOf _)=_
 generalize hres:(some (AX (Jk (⟨s0,s1,s2,s3,s4,s5,s6,s7,s8,s9,s10,s11,s12,s13,s14,s15,s16,s17,s18,s19,s20,s21,s22,s23,s24,s25,s26,s27⟩:Inn) p)):Option (List PV))=RR
 simp only [KH,Sx,Qv,OO,std,xOf,PXb,PXc,PXn,PXm,Nat.reduceAdd,Int.reduceBEq,VG h,Hy,Hp h.sb]
 subst hres;simp only [Jk]
 cases inR p s24.length<;>cases Ct (⟨s0,s1,s2,s3,s4,s5,s6,s7,s8,s9,s10,s11,s12,s13,s14,s15,s16,s17,s18,s19,s20,s21,s22,s23,s24,s25,s26,s27⟩:Inn) p<;>cases p==s15<;>cases p==s22<;>rfl
theorem lr {N:Nat} {s0 s1 s2 s3 s4 s5 s6 s7 s8 s9 s10 s11 s12 s13 s15 s21 s22 s23 s25 s26 s27:Int} {s18 s20:Bool} {s14 s16 s17 s19 s24:Rows} {p:Int} (h:Fit s14 s16 s17 s19 s24):Mx N [.int s0,.int s1,.int s2,.int s3,.int s4,.int s5,.int s6,.int s7,.int s8,.int s9,.int s10,.int s11,.int s12,.int s13,.rows s14,.int s15,.rows s16,.rows s17,.bool s18,.rows s19,.bool s20,.int s21,.int s22,.int s23,.rows s24,.int s25,.int s26,.int s27,.int p]=some (AX (Jk (⟨s0,s1,s2,s3,s4,s5,s6,s7,s8,s9,s10,s11,s12,s13,s14,s15,s16,s17,s18,s19,s20,s21,s22,s23,s24,s25,s26,s27⟩:Inn) p)):=by
 show NC (std (HD N) N) (xOf _)=_
 generalize hres:(some (AX (Jk (⟨s0,s1,s2,s3,s4,s5,s6,s7,s8,s9,s10,s11,s12,s13,s14,s15,s16,s17,s18,s19,s20,s21,s22,s23,s24,s25,s26,s27⟩:Inn) p)):Option (List PV))=RR
 simp only [NC,VI,Tn,R5,std,xOf,PXb,PXc,PXn,PXm,Nat.reduceAdd,Int.reduceBEq,Bp h,NN,Gr h.sb]
 subst hres;simp only [Jk]
 cases inR p s24.length<;>cases Ct (⟨s0,s1,s2,s3,s4,s5,s6,s7,s8,s9,s10,s11,s12,s13,s14,s15,s16,s17,s18,s19,s20,s21,s22,s23,s24,s25,s26,s27⟩:Inn) p<;>cases p==s15<;>cases p==s22<;>rfl
def Mu (s:Inn) (p:Int) (on:Bool):Inn×Int :=
  cond (!inR p s.subs.length) (s,3) (cond (Ct s p==on) (s,18)
    ({ s with subs:=tc s.subs p on,keeper:=cond (on&&s.keeper==p) 0 s.keeper,bowler:=cond (on&&s.bowler==p) 0 s.bowler },0))
theorem az {N:Nat} {s0 s1 s2 s3 s4 s5 s6 s7 s8 s9 s10 s11 s12 s13 s15 s21 s22 s23 s25 s26 s27:Int} {s18 s20:Bool} {s14 s16 s17 s19 s24:Rows} {p:Int} {b:Bool} (h:Fit s14 s16 s17 s19 s24):DV N [.int s0,.int s1,.int s2,.int s3,.int s4,.int s5,.int s6,.int s7,.int s8,.int s9,.int s10,.int s11,.int s12,.int s13,.rows s14,.int s15,.rows s16,.rows s17,.bool s18,.rows s19,.bool s20,.int s21,.int s22,.int s23,.rows s24,.int s25,.int s26,.int s27,.int p,.bool b]=some (AX (Mu (⟨s0,s1,s2,s3,s4,s5,s6,s7,s8,s9,s10,s11,s12,s13,s14,s15,s16,s17,s18,s19,s20,s21,s22,s23,s24,s25,s26,s27⟩:Inn) p b)):=by
 show F0 (std (C0 N) N) (xOf _)=_
 generalize hres:(some (AX (Mu (⟨s0,s1,s2,s3,s4,s5,s6,s7,s8,s9,s10,s11,s12,s13,s14,s15,s16,s17,s18,s19,s20,s21,s22,s23,s24,s25,s26,s27⟩:Inn) p b)):Option (List PV))=RR
 simp only [F0,O2,M9,Kv,std,xOf,PXb,PXc,PXn,PXm,Nat.reduceAdd,Int.reduceBEq,VG h,Hy,Hp h.sb]
 subst hres;simp only [Mu]
 cases hp:inR p s24.length<;>try rfl
 rw [DF hp h.sb]
 cases Ct (⟨s0,s1,s2,s3,s4,s5,s6,s7,s8,s9,s10,s11,s12,s13,s14,s15,s16,s17,s18,s19,s20,s21,s22,s23,s24,s25,s26,s27⟩:Inn) p==b<;>cases b<;>cases s22==p<;>cases s15==p<;>rfl
theorem eI {N:Nat} {s0 s1 s2 s3 s4 s5 s6 s7 s8 s9 s10 s11 s12 s13 s15 s21 s22 s23 s25 s26 s27:Int} {s18 s20:Bool} {s14 s16 s17 s19 s24:Rows} {p:Int} {b:Bool} (h:Fit s14 s16 s17 s19 s24):HR N [.int s0,.int s1,.int s2,.int s3,.int s4,.int s5,.int s6,.int s7,.int s8,.int s9,.int s10,.int s11,.int s12,.int s13,.rows s14,.int s15,.rows s16,.rows s17,.bool s18,.rows s19,.bool s20,.int s21,.int s22,.int s23,.rows s24,.int s25,.int s26,.int s27,.int p,.bool b]=some (AX (Mu (⟨s0,s1,s2,s3,s4,s5,s6,s7,s8,s9,s10,s11,s12,s13,s14,s15,s16,s17,s18,s19,s20,s21,s22,s23,s24,s25,s26,s27⟩:Inn) p b)):=by
 show HQ (std (Dg N) N) (xOf _)=_
 generalize hres:(some (AX (Mu (⟨s0,s1,s2,s3,s4,s5,s6,s7,s8,s9,s10,s11,s12,s13,s14,s15,s16,s17,s18,s19,s20,s21,s22,s23,s24,s25,s26,s27⟩:Inn) p b)):Option (List PV))=RR
 simp only [HQ,Q0,QK,OM,std,xOf,PXb,PXc,PXn,PXm,Nat.reduceAdd,Int.reduceBEq,Bp h,NN,Gr h.sb]
 subst hres;simp only [Mu]
 cases hp:inR p s24.length<;>try rfl
 rw [DF hp h.sb]
 cases Ct (⟨s0,s1,s2,s3,s4,s5,s6,s7,s8,s9,s10,s11,s12,s13,s14,s15,s16,s17,s18,s19,s20,s21,s22,s23,s24,s25,s26,s27⟩:Inn) p==b<;>cases b<;>cases s22==p<;>cases s15==p<;>rfl
def HU (s:Inn) (n:Int):Inn×Int :=
 cond (iLt n 0||iLt (IntKind.i64.wrap ((s.subs.length:Int) - 2)) n) (s,16) ({ s with outside:=n },0)
theorem gm {N:Nat} {s0 s1 s2 s3 s4 s5 s6 s7 s8 s9 s10 s11 s12 s13 s15 s21 s22 s23 s25 s26 s27:Int} {s18 s20:Bool} {s14 s16 s17 s19 s24:Rows} {n:Int} (h:Fit s14 s16 s17 s19 s24):Fk N [.int s0,.int s1,.int s2,.int s3,.int s4,.int s5,.int s6,.int s7,.int s8,.int s9,.int s10,.int s11,.int s12,.int s13,.rows s14,.int s15,.rows s16,.rows s17,.bool s18,.rows s19,.bool s20,.int s21,.int s22,.int s23,.rows s24,.int s25,.int s26,.int s27,.int n]=some (AX (HU (⟨s0,s1,s2,s3,s4,s5,s6,s7,s8,s9,s10,s11,s12,s13,s14,s15,s16,s17,s18,s19,s20,s21,s22,s23,s24,s25,s26,s27⟩:Inn) n)):=by
 show Ij (std (KV N) N) (xOf _)=_
 generalize hres:(some (AX (HU (⟨s0,s1,s2,s3,s4,s5,s6,s7,s8,s9,s10,s11,s12,s13,s14,s15,s16,s17,s18,s19,s20,s21,s22,s23,s24,s25,s26,s27⟩:Inn) n)):Option (List PV))=RR
 simp only [Ij,Rg,std,xOf,PXb,PXc,PXn,PXm,Nat.reduceAdd,Int.reduceBEq,VG h]
 subst hres;simp only [HU]
 cases (iLt n 0||iLt (IntKind.i64.wrap ((s24.length:Int) - 2)) n)<;>rfl
theorem kS {N:Nat} {s0 s1 s2 s3 s4 s5 s6 s7 s8 s9 s10 s11 s12 s13 s15 s21 s22 s23 s25 s26 s27:Int} {s18 s20:Bool} {s14 s16 s17 s19 s24:Rows} {n:Int} (h:Fit s14 s16 s17 s19 s24):LH N [.int s0,.int s1,.int s2,.int s3,.int s4,.int s5,.int s6,.int s7,.int s8,.int s9,.int s10,.int s11,.int s12,.int s13,.rows s14,.int s15,.rows s16,.rows s17,.bool s18,.rows s19,.bool s20,.int s21,.int s22,.int s23,.rows s24,.int s25,.int s26,.int s27,.int n]=some (AX (HU (⟨s0,s1,s2,s3,s4,s5,s6,s7,s8,s9,s10,s11,s12,s13,s14,s15,s16,s17,s18,s19,s20,s21,s22,s23,s24,s25,s26,s27⟩:Inn) n)):=by
 show LW (std (M1 N) N) (xOf _)=_
 generalize hres:(some (AX (HU (⟨s0,s1,s2,s3,s4,s5,s6,s7,s8,s9,s10,s11,s12,s13,s14,s15,s16,s17,s18,s19,s20,s21,s22,s23,s24,s25,s26,s27⟩:Inn) n)):Option (List PV))=RR
 simp only [LW,Tg,std,xOf,PXb,PXc,PXn,PXm,Nat.reduceAdd,Int.reduceBEq,Bp h]
 subst hres;simp only [HU]
 cases (iLt n 0||iLt (IntKind.i64.wrap ((s24.length:Int) - 2)) n)<;>rfl
def OH (r:Rul) (s:Inn):Int :=
 cond (!inR s.keeper s.subs.length||Ct s s.keeper||s.keeper==s.bowler) 17 (cond (iLt (ZR r s.complete) s.outside) 16 0)
theorem kn {N:Nat} {r1 r2 r3 r4 r5 r6 r7 r9 r10 r11 r12:Int} {r8:Bool} {r0:ByteArray} {r13:Rows} {s0 s1 s2 s3 s4 s5 s6 s7 s8 s9 s10 s11 s12 s13 s15 s21 s22 s23 s25 s26 s27:Int} {s18 s20:Bool} {s14 s16 s17 s19 s24:Rows} (h:Fit s14 s16 s17 s19 s24) (hN:2097152<N) (h13:r13.length≤1048576):H6 N [.str r0,.int r1,.int r2,.int r3,.int r4,.int r5,.int r6,.int r7,.bool r8,.int r9,.int r10,.int r11,.int r12,.rows r13,.int s0,.int s1,.int s2,.int s3,.int s4,.int s5,.int s6,.int s7,.int s8,.int s9,.int s10,.int s11,.int s12,.int s13,.rows s14,.int s15,.rows s16,.rows s17,.bool s18,.rows s19,.bool s20,.int s21,.int s22,.int s23,.rows s24,.int s25,.int s26,.int s27]=some [.int (OH (⟨r0,r1,r2,r3,r4,r5,r6,r7,r8,r9,r10,r11,r12,r13⟩:Rul) (⟨s0,s1,s2,s3,s4,s5,s6,s7,s8,s9,s10,s11,s12,s13,s14,s15,s16,s17,s18,s19,s20,s21,s22,s23,s24,s25,s26,s27⟩:Inn))]:=by
 show LF (std (Fz N) N) (xOf _)=_
 generalize hres:(some [.int (OH (⟨r0,r1,r2,r3,r4,r5,r6,r7,r8,r9,r10,r11,r12,r13⟩:Rul) (⟨s0,s1,s2,s3,s4,s5,s6,s7,s8,s9,s10,s11,s12,s13,s14,s15,s16,s17,s18,s19,s20,s21,s22,s23,s24,s25,s26,s27⟩:Inn))]:Option (List PV))=RR
 simp only [LF,Rt,PB,QE,std,xOf,PXb,PXc,PXn,PXm,Nat.reduceAdd,Int.reduceBEq,Hy,Hp h.sb,f7 hN h13]
 subst hres;simp only [OH]
 cases inR s22 s24.length<;>cases Ct (⟨s0,s1,s2,s3,s4,s5,s6,s7,s8,s9,s10,s11,s12,s13,s14,s15,s16,s17,s18,s19,s20,s21,s22,s23,s24,s25,s26,s27⟩:Inn) s22<;>cases s22==s15<;>rfl
theorem oT {N:Nat} {r1 r2 r3 r4 r5 r6 r7 r9 r10 r11 r12:Int} {r8:Bool} {r0:ByteArray} {r13:Rows} {s0 s1 s2 s3 s4 s5 s6 s7 s8 s9 s10 s11 s12 s13 s15 s21 s22 s23 s25 s26 s27:Int} {s18 s20:Bool} {s14 s16 s17 s19 s24:Rows} (h:Fit s14 s16 s17 s19 s24) (hN:2097152<N) (h13:r13.length≤1048576):PM N [.str r0,.int r1,.int r2,.int r3,.int r4,.int r5,.int r6,.int r7,.bool r8,.int r9,.int r10,.int r11,.int r12,.rows r13,.int s0,.int s1,.int s2,.int s3,.int s4,.int s5,.int s6,.int s7,.int s8,.int s9,.int s10,.int s11,.int s12,.int s13,.rows s14,.int s15,.rows s16,.rows s17,.bool s18,.rows s19,.bool s20,.int s21,.int s22,.int s23,.rows s24,.int s25,.int s26,.int s27]=some [.int (OH (⟨r0,r1,r2,r3,r4,r5,r6,r7,r8,r9,r10,r11,r12,r13⟩:Rul) (⟨s0,s1,s2,s3,s4,s5,s6,s7,s8,s9,s10,s11,s12,s13,s14,s15,s16,s17,s18,s19,s20,s21,s22,s23,s24,s25,s26,s27⟩:Inn))]:=by
 show PX (std (H4 N) N) (xOf _)=_
 generalize hres:(some [.int (OH (⟨r0,r1,r2,r3,r4,r5,r6,r7,r8,r9,r10,r11,r12,r13⟩:Rul) (⟨s0,s1,s2,s3,s4,s5,s6,s7,s8,s9,s10,s11,s12,s13,s14,s15,s16,s17,s18,s19,s20,s21,s22,s23,s24,s25,s26,s27⟩:Inn))]:Option (List PV))=RR
 simp only [PX,VQ,Sd,Tj,std,xOf,PXb,PXc,PXn,PXm,Nat.reduceAdd,Int.reduceBEq,NN,Gr h.sb,j9 hN h13]
 subst hres;simp only [OH]
 cases inR s22 s24.length<;>cases Ct (⟨s0,s1,s2,s3,s4,s5,s6,s7,s8,s9,s10,s11,s12,s13,s14,s15,s16,s17,s18,s19,s20,s21,s22,s23,s24,s25,s26,s27⟩:Inn) s22<;>cases s22==s15<;>rfl
def OA (s:Inn) (d:Del):Int :=
  cond (iLt 0 d.fielder && !inR d.fielder s.subs.length) 3 (cond (iLt 0 d.fielder && !(d.sub==Ct s d.fielder)) 18
    (cond (iLt 0 d.second && !inR d.second s.subs.length) 3 (cond (iLt 0 d.second&&Ct s d.second) 18
      (cond (d.how==4 && !(di d.fielder==s.keeper)) 17 0))))
theorem kF {N:Nat} {s0 s1 s2 s3 s4 s5 s6 s7 s8 s9 s10 s11 s12 s13 s15 s21 s22 s23 s25 s26 s27:Int} {s18 s20:Bool} {s14 s16 s17 s19 s24:Rows} {d0 d1 d2 d3 d4 d6 d7 d8 d9 d11:Int} {d5 d10:Bool} (h:Fit s14 s16 s17 s19 s24):H2 N [.int s0,.int s1,.int s2,.int s3,.int s4,.int s5,.int s6,.int s7,.int s8,.int s9,.int s10,.int s11,.int s12,.int s13,.rows s14,.int s15,.rows s16,.rows s17,.bool s18,.rows s19,.bool s20,.int s21,.int s22,.int s23,.rows s24,.int s25,.int s26,.int s27,.int d0,.int d1,.int d2,.int d3,.int d4,.bool d5,.int d6,.int d7,.int d8,.int d9,.bool d10,.int d11]=some [.int (OA (⟨s0,s1,s2,s3,s4,s5,s6,s7,s8,s9,s10,s11,s12,s13,s14,s15,s16,s17,s18,s19,s20,s21,s22,s23,s24,s25,s26,s27⟩:Inn) (⟨d0,d1,d2,d3,d4,d5,d6,d7,d8,d9,d10,d11⟩:Del))]:=by
 show LU (std (Iv N) N) (xOf _)=_
 generalize hres:(some [.int (OA (⟨s0,s1,s2,s3,s4,s5,s6,s7,s8,s9,s10,s11,s12,s13,s14,s15,s16,s17,s18,s19,s20,s21,s22,s23,s24,s25,s26,s27⟩:Inn) (⟨d0,d1,d2,d3,d4,d5,d6,d7,d8,d9,d10,d11⟩:Del))]:Option (List PV))=RR
 simp only [LU,SL,Ox,std,xOf,PXb,PXc,PXn,PXm,Nat.reduceAdd,Int.reduceBEq,Hy,Hp h.sb]
 subst hres;simp only [OA,di,tf]
 cases iLt 0 d8<;>cases iLt 0 d9<;>cases inR d8 s24.length<;>cases inR d9 s24.length<;>cases d10==Ct (⟨s0,s1,s2,s3,s4,s5,s6,s7,s8,s9,s10,s11,s12,s13,s14,s15,s16,s17,s18,s19,s20,s21,s22,s23,s24,s25,s26,s27⟩:Inn) d8<;>cases Ct (⟨s0,s1,s2,s3,s4,s5,s6,s7,s8,s9,s10,s11,s12,s13,s14,s15,s16,s17,s18,s19,s20,s21,s22,s23,s24,s25,s26,s27⟩:Inn) d9<;>rfl
theorem oz {N:Nat} {s0 s1 s2 s3 s4 s5 s6 s7 s8 s9 s10 s11 s12 s13 s15 s21 s22 s23 s25 s26 s27:Int} {s18 s20:Bool} {s14 s16 s17 s19 s24:Rows} {d0 d1 d2 d3 d4 d6 d7 d8 d9 d11:Int} {d5 d10:Bool} (h:Fit s14 s16 s17 s19 s24):Pi N [.int s0,.int s1,.int s2,.int s3,.int s4,.int s5,.int s6,.int s7,.int s8,.int s9,.int s10,.int s11,.int s12,.int s13,.rows s14,.int s15,.rows s16,.rows s17,.bool s18,.rows s19,.bool s20,.int s21,.int s22,.int s23,.rows s24,.int s25,.int s26,.int s27,.int d0,.int d1,.int d2,.int d3,.int d4,.bool d5,.int d6,.int d7,.int d8,.int d9,.bool d10,.int d11]=some [.int (OA (⟨s0,s1,s2,s3,s4,s5,s6,s7,s8,s9,s10,s11,s12,s13,s14,s15,s16,s17,s18,s19,s20,s21,s22,s23,s24,s25,s26,s27⟩:Inn) (⟨d0,d1,d2,d3,d4,d5,d6,d7,d8,d9,d10,d11⟩:Del))]:=by
 show Po (std (Lg N) N) (xOf _)=_
 generalize hres:(some [.int (OA (⟨s0,s1,s2,s3,s4,s5,s6,s7,s8,s9,s10,s11,s12,s13,s14,s15,s16,s17,s18,s19,s20,s21,s22,s23,s24,s25,s26,s27⟩:Inn) (⟨d0,d1,d2,d3,d4,d5,d6,d7,d8,d9,d10,d11⟩:Del))]:Option (List PV))=RR
 simp only [Po,Ve,S7,std,xOf,PXb,PXc,PXn,PXm,Nat.reduceAdd,Int.reduceBEq,NN,Gr h.sb]
 subst hres;simp only [OA,di,tf]
 rw [BEq.comm (a:=Ct (⟨s0,s1,s2,s3,s4,s5,s6,s7,s8,s9,s10,s11,s12,s13,s14,s15,s16,s17,s18,s19,s20,s21,s22,s23,s24,s25,s26,s27⟩:Inn) d8)]
 cases iLt 0 d8<;>cases iLt 0 d9<;>cases inR d8 s24.length<;>cases inR d9 s24.length<;>cases d10==Ct (⟨s0,s1,s2,s3,s4,s5,s6,s7,s8,s9,s10,s11,s12,s13,s14,s15,s16,s17,s18,s19,s20,s21,s22,s23,s24,s25,s26,s27⟩:Inn) d8<;>cases Ct (⟨s0,s1,s2,s3,s4,s5,s6,s7,s8,s9,s10,s11,s12,s13,s14,s15,s16,s17,s18,s19,s20,s21,s22,s23,s24,s25,s26,s27⟩:Inn) d9<;>rfl
end Go.Px
end
section
namespace Go.Px
set_option maxRecDepth 100000
structure Cre where
 batter:Int
 wides:Int
 noballs:Int
 byes:Int
 legbyes:Int
 bowler:Int
 counts:Bool
 faced:Bool
 wicket:Bool
 swap:Bool
def Cre.ls (c:Cre):List PV:=[.int c.batter,.int c.wides,.int c.noballs,.int c.byes,.int c.legbyes,.int c.bowler,.bool c.counts,.bool c.faced,.bool c.wicket,.bool c.swap]
theorem th {N:Nat} {a:Int} {b:Int} {c:Int}  : Sb N [.int a,.int b,.int c]=some [.bool (btw a b c)]:=by
 show em (std (gj N) N) (xOf _)=_
 show some [PV.bool (cond (iLe b a) (iLe a c) false)]=_
 rw [PQ];rfl
def MF (d:Del):Bool :=
  cond (d.type==2) (d.source==0 && !(d.boundary==6)) (cond (d.source==0) (d.runs==0&&d.boundary==0)
    (cond (d.boundary==0) (iLt 0 d.runs) (cond (d.boundary==6) (d.source==1&&d.runs==0) true)))
def Fy (d:Del):Int :=
  cond (iLt d.type 1||iLt 3 d.type||iLt 3 d.source||iLt 10 d.how || !btw d.sector 0 8) 11
    (cond (!btw d.runs 0 7 || !btw d.short 0 d.runs||(!(d.boundary==0) && !(d.boundary==4) && !(d.boundary==6))) 12
      (cond (!MF d) 11 (cond (!(d.sector==0) && !(d.source==1) && !(d.how==2)) 11 (cond (!(d.boundary==0) && !(d.how==0)) 11
        (cond (d.crossed && !(d.how==6) && !(d.how==8)) 11 0)))))
theorem i3 {N:Nat} {d0 d1 d2 d3 d4 d6 d7 d8 d9 d11:Int} {d5 d10:Bool}  : Gd N [.int d0,.int d1,.int d2,.int d3,.int d4,.bool d5,.int d6,.int d7,.int d8,.int d9,.bool d10,.int d11]=some [.bool (MF (⟨d0,d1,d2,d3,d4,d5,d6,d7,d8,d9,d10,d11⟩:Del))]:=by
 show Js (std (SV N) N) (xOf _)=_
 generalize hres:(some [.bool (MF (⟨d0,d1,d2,d3,d4,d5,d6,d7,d8,d9,d10,d11⟩:Del))]:Option (List PV))=RR
 simp only [Js,std,xOf,PXb,PXc,PXn,PXm,Nat.reduceAdd,Int.reduceBEq]
 subst hres;simp only [MF]
 cases d0==2<;>cases d1==0<;>cases d4==0<;>cases d4==6<;>rfl
theorem cw {N:Nat} {d0 d1 d2 d3 d4 d6 d7 d8 d9 d11:Int} {d5 d10:Bool}  : F2 N [.int d0,.int d1,.int d2,.int d3,.int d4,.bool d5,.int d6,.int d7,.int d8,.int d9,.bool d10,.int d11]=some [.int (Fy (⟨d0,d1,d2,d3,d4,d5,d6,d7,d8,d9,d10,d11⟩:Del))]:=by
 show Pr (std (LC N) N) (xOf _)=_
 generalize hres:(some [.int (Fy (⟨d0,d1,d2,d3,d4,d5,d6,d7,d8,d9,d10,d11⟩:Del))]:Option (List PV))=RR
 simp only [Pr,Za,TI,std,xOf,PXb,PXc,PXn,PXm,Nat.reduceAdd,Int.reduceBEq,th,i3]
 subst hres;simp only [Fy]
def KZ (d:Del):Bool :=
  cond (d.type==2) (d.source==0 && !(d.boundary==6)) (cond (d.source==0) (d.runs==0&&d.boundary==0)
    (cond (d.source==1) (!(d.boundary==6)||d.runs==0) (!(d.boundary==6)&&(iLt 0 d.runs || !(d.boundary==0)))))
theorem Yv {N:Nat} {d0 d1 d2 d3 d4 d6 d7 d8 d9 d11:Int} {d5 d10:Bool}  : DI N [.int d0,.int d1,.int d2,.int d3,.int d4,.bool d5,.int d6,.int d7,.int d8,.int d9,.bool d10,.int d11]=some [.bool (KZ (⟨d0,d1,d2,d3,d4,d5,d6,d7,d8,d9,d10,d11⟩:Del))]:=by
 show E0 (std (L9 N) N) (xOf _)=_
 generalize hres:(some [.bool (KZ (⟨d0,d1,d2,d3,d4,d5,d6,d7,d8,d9,d10,d11⟩:Del))]:Option (List PV))=RR
 simp only [E0,std,xOf,PXb,PXc,PXn,PXm,Nat.reduceAdd,Int.reduceBEq]
 subst hres;simp only [KZ]
theorem vY (x a b:Int):(!btw x a b)=(iLt x a||iLt b x):=by
 unfold btw iLe iLt
 rw [Bool.eq_iff_iff]
 simp only [Bool.not_eq_true',Bool.and_eq_false_iff,decide_eq_false_iff_not,Bool.or_eq_true,decide_eq_true_eq]
 omega
theorem uI {d:Del} (h:0≤d.runs):(!KZ d || !d.type==2&&d.source==1&&d.runs==0&&d.boundary==0) = !MF d:=by
 unfold KZ MF
 rw [iv h]
 cases h1:d.source==0 with
 | true =>
  rw [O3 h1 (c:=1) rfl]
  cases d.type==2<;>cases d.runs==0<;>cases d.boundary==0<;>cases d.boundary==6<;>rfl
 | false =>
  cases h2:d.boundary==0 with
  | true =>
   rw [O3 h2 (c:=6) rfl]
   cases d.type==2<;>cases d.source==1<;>cases d.runs==0<;>rfl
  | false=>cases d.type==2<;>cases d.source==1<;>cases d.runs==0<;>cases d.boundary==6<;>rfl
theorem Sh {N:Nat} {d0 d1 d2 d3 d4 d6 d7 d8 d9 d11:Int} {d5 d10:Bool}  : B5 N [.int d0,.int d1,.int d2,.int d3,.int d4,.bool d5,.int d6,.int d7,.int d8,.int d9,.bool d10,.int d11]=some [.int (Fy (⟨d0,d1,d2,d3,d4,d5,d6,d7,d8,d9,d10,d11⟩:Del))]:=by
 show Hc (std (Jf N) N) (xOf _)=_
 generalize hres:(some [.int (Fy (⟨d0,d1,d2,d3,d4,d5,d6,d7,d8,d9,d10,d11⟩:Del))]:Option (List PV))=RR
 simp only [Hc,KN,std,xOf,PXb,PXc,PXn,PXm,Nat.reduceAdd,Int.reduceBEq,Yv]
 subst hres;simp only [Fy,vY,Bool.or_assoc]
 cases h2:(iLt d2 0||(iLt 7 d2||(iLt d3 0||(iLt d2 d3 || !d4==0 && !d4==4 && !d4==6)))) with
 | true=>rfl
 | false =>
  have h3:0≤d2:=by
   rw [Bool.or_eq_false_iff] at h2
   have:=h2.1
   simp only [iLt,decide_eq_false_iff_not] at this
   omega
  have:=uI (d:=(⟨d0,d1,d2,d3,d4,d5,d6,d7,d8,d9,d10,d11⟩:Del)) h3
  simp only at this
  rw [this]
theorem eM {N:Nat} {a:Int} {b:Int} {c:Int} {d:Int} {e:Int} {x:Int} {p:Bool} {q:Bool} {u:Bool} {v:Bool}  : Es N [.int a,.int b,.int c,.int d,.int e,.int x,.bool p,.bool q,.bool u,.bool v]=some [.int (IntKind.i64.wrap (IntKind.i64.wrap (IntKind.i64.wrap (IntKind.i64.wrap (a+b)+c)+d)+e))]:=by
 rfl
theorem oJ {N:Nat} {a:Int} {b:Int} {c:Int} {d:Int} {e:Int} {x:Int} {p:Bool} {q:Bool} {u:Bool} {v:Bool}  : Pe N [.int a,.int b,.int c,.int d,.int e,.int x,.bool p,.bool q,.bool u,.bool v]=some [.int (IntKind.i64.wrap (IntKind.i64.wrap (IntKind.i64.wrap (IntKind.i64.wrap (a+b)+c)+d)+e))]:=by
 rfl
def fE (c:Cre):Int:=IntKind.i64.wrap (IntKind.i64.wrap (IntKind.i64.wrap (IntKind.i64.wrap (c.batter+c.wides)+c.noballs)+c.byes)+c.legbyes)
def WI (h:Int):Bool:=iLe 1 h&&iLe h 5
theorem Y3 {N:Nat} {h:Int}  : DL N [.int h]=some [.bool (WI h)]:=by
 show E2 (std (MB N) N) (xOf _)=_
 simp only [E2,std,xOf,PXb,PXc,PXn,PXm,Nat.reduceAdd,Int.reduceBEq,WI]
theorem jD {N:Nat} {h:Int}  : Gh N [.int h]=some [.bool (WI h)]:=by
 show Jl (std (Sp N) N) (xOf _)=_
 simp only [Jl,std,xOf,PXb,PXc,PXn,PXm,Nat.reduceAdd,Int.reduceBEq]
 refine congrArg (fun b=>some [PV.bool b]) ?_
 by_cases e1:h=1;· subst e1;rfl
 by_cases e2:h=2;· subst e2;rfl
 by_cases e3:h=3;· subst e3;rfl
 by_cases e4:h=4;· subst e4;rfl
 by_cases e5:h=5;· subst e5;rfl
 rw [beq_false_of_ne e1,beq_false_of_ne e2,beq_false_of_ne e3,beq_false_of_ne e4,beq_false_of_ne e5]
 unfold WI iLe
 symm
 show (_&&_)=false
 rw [Bool.and_eq_false_iff]
 simp only [decide_eq_false_iff_not]
 omega
theorem oE {N:Nat} {d0 d1 d2 d3 d4 d6 d7 d8 d9 d11:Int} {d5 d10:Bool}  : Kj N [.int d0,.int d1,.int d2,.int d3,.int d4,.bool d5,.int d6,.int d7,.int d8,.int d9,.bool d10,.int d11]=some [.bool (!((!(d2.tmod 2==0))==d5))]:=by
 show P1 (std (YW N) N) (xOf _)=_
 simp only [P1,std,xOf,PXb,PXc,PXn,PXm,Nat.reduceAdd,Int.reduceBEq]
def qu (r:Rul) (d:Del):Cre :=
  let n:=IntKind.i64.wrap (IntKind.i64.wrap (d.runs - d.short)+d.boundary)
  let b:=cond (!(d.type==2)&&d.source==1) n 0
  let w:=cond (d.type==2) (IntKind.i64.wrap (r.wide+n)) 0
  let o:=cond (d.type==3) r.noball 0
  { batter:=b,wides:=w,noballs:=o,byes:=cond (!(d.type==2)&&d.source==2) n 0,legbyes:=cond (!(d.type==2)&&d.source==3) n 0,bowler:=IntKind.i64.wrap (IntKind.i64.wrap (b+w)+o),
    counts:=d.type==1,faced := !(d.type==2),wicket:=WI d.how,swap := !((!(d.runs.tmod 2==0))==d.crossed) }
def Co (r:Rul) (d:Del):Cre:=cond (!(Fy d==0)) ⟨0,0,0,0,0,0,false,false,false,false⟩ (qu r d)
theorem qA {d:Del} (h:(Fy d==0)=true):0≤d.runs∧d.runs≤7:=by
 unfold Fy at h
 cases h1:(iLt d.type 1||iLt 3 d.type||iLt 3 d.source||iLt 10 d.how || !btw d.sector 0 8) with
 | true=>rw [h1] at h;cases h
 | false =>
  cases h2:(!btw d.runs 0 7 || !btw d.short 0 d.runs||(!(d.boundary==0) && !(d.boundary==4) && !(d.boundary==6))) with
  | true=>rw [h1,h2] at h;cases h
  | false =>
   rw [Bool.or_eq_false_iff,Bool.or_eq_false_iff] at h2
   have:=h2.1.1
   simp only [btw,iLe,Bool.not_eq_false',Bool.and_eq_true,decide_eq_true_eq] at this
   exact this
theorem ur {n:Int} (h:0≤n∧n≤7) (b:Bool):((cond b (IntKind.i64.wrap (n+1)) n).tmod 2==1) = !((!(n.tmod 2==0))==b):=by
 obtain ⟨k,rfl⟩:∃ k:Nat,n=k:=⟨n.toNat,by omega⟩
 have:k=0∨k=1∨k=2∨k=3∨k=4∨k=5∨k=6∨k=7:=by omega
 rcases this with h | h | h | h | h | h | h | h<;>subst h<;>cases b<;>rfl
theorem bZ {N:Nat} {r1 r2 r3 r4 r5 r6 r7 r9 r10 r11 r12:Int} {r8:Bool} {r0:ByteArray} {r13:Rows} {d0 d1 d2 d3 d4 d6 d7 d8 d9 d11:Int} {d5 d10:Bool}  : D3 N [.str r0,.int r1,.int r2,.int r3,.int r4,.int r5,.int r6,.int r7,.bool r8,.int r9,.int r10,.int r11,.int r12,.rows r13,.int d0,.int d1,.int d2,.int d3,.int d4,.bool d5,.int d6,.int d7,.int d8,.int d9,.bool d10,.int d11]=some (Co (⟨r0,r1,r2,r3,r4,r5,r6,r7,r8,r9,r10,r11,r12,r13⟩:Rul) (⟨d0,d1,d2,d3,d4,d5,d6,d7,d8,d9,d10,d11⟩:Del)).ls:=by
 show GH (std (E8 N) N) (xOf _)=_
 generalize hres:(some (Co (⟨r0,r1,r2,r3,r4,r5,r6,r7,r8,r9,r10,r11,r12,r13⟩:Rul) (⟨d0,d1,d2,d3,d4,d5,d6,d7,d8,d9,d10,d11⟩:Del)).ls:Option (List PV))=RR
 simp only [GH,Lw,J2,std,xOf,PXb,PXc,PXn,PXm,Nat.reduceAdd,Int.reduceBEq,Sh,Y3]
 subst hres;simp only [Co,qu]
 cases hl:Fy (⟨d0,d1,d2,d3,d4,d5,d6,d7,d8,d9,d10,d11⟩:Del)==0 with
 | false=>rfl
 | true =>
  have hs:=ur (qA hl) d5
  simp only at hs
  simp only [PXb,PXc,PXn,PXm,Nat.reduceAdd,Int.reduceBEq,hs]
  cases h0:d0==2<;>cases h3:d0==3<;>cases h1:d1==1<;>cases h2:d1==2<;>cases h4:d1==3<;>first
   | rfl
   | (rw [O3 h0 (c:=3) rfl] at h3;exact absurd h3 (by decide))
   | (rw [O3 h1 (c:=2) rfl] at h2;exact absurd h2 (by decide))
   | (rw [O3 h1 (c:=3) rfl] at h4;exact absurd h4 (by decide))
   | (rw [O3 h2 (c:=3) rfl] at h4;exact absurd h4 (by decide))
theorem nI {N:Nat} {r1 r2 r3 r4 r5 r6 r7 r9 r10 r11 r12:Int} {r8:Bool} {r0:ByteArray} {r13:Rows} {d0 d1 d2 d3 d4 d6 d7 d8 d9 d11:Int} {d5 d10:Bool}  : N2 N [.str r0,.int r1,.int r2,.int r3,.int r4,.int r5,.int r6,.int r7,.bool r8,.int r9,.int r10,.int r11,.int r12,.rows r13,.int d0,.int d1,.int d2,.int d3,.int d4,.bool d5,.int d6,.int d7,.int d8,.int d9,.bool d10,.int d11]=some (Co (⟨r0,r1,r2,r3,r4,r5,r6,r7,r8,r9,r10,r11,r12,r13⟩:Rul) (⟨d0,d1,d2,d3,d4,d5,d6,d7,d8,d9,d10,d11⟩:Del)).ls:=by
 show Ny (std (Gx N) N) (xOf _)=_
 generalize hres:(some (Co (⟨r0,r1,r2,r3,r4,r5,r6,r7,r8,r9,r10,r11,r12,r13⟩:Rul) (⟨d0,d1,d2,d3,d4,d5,d6,d7,d8,d9,d10,d11⟩:Del)).ls:Option (List PV))=RR
 simp only [Ny,VT,Rd,Vh,std,xOf,PXb,PXc,PXn,PXm,Nat.reduceAdd,Int.reduceBEq,cw,jD,oE]
 subst hres;simp only [Co,qu]
 cases hl:Fy (⟨d0,d1,d2,d3,d4,d5,d6,d7,d8,d9,d10,d11⟩:Del)==0 with
 | false=>rfl
 | true =>
  simp only [PXb,PXc,PXn,PXm,Nat.reduceAdd,Int.reduceBEq]
  cases h0:d0==2<;>cases h3:d0==3<;>cases h1:d1==1<;>cases h2:d1==2<;>cases h4:d1==3<;>first
   | rfl
   | (rw [O3 h0 (c:=3) rfl] at h3;exact absurd h3 (by decide))
   | (rw [O3 h1 (c:=2) rfl] at h2;exact absurd h2 (by decide))
   | (rw [O3 h1 (c:=3) rfl] at h4;exact absurd h4 (by decide))
   | (rw [O3 h2 (c:=3) rfl] at h4;exact absurd h4 (by decide))
end Go.Px
end
section
namespace Go.Px
set_option maxRecDepth 100000
def onS (h t:Int):Bool :=
 cond (h==1||h==2||h==3) (t==1) (cond (h==4||h==5) (t==1||t==2) (cond (h==7) (t==1||t==3) (cond (h==6||h==8) (t==1||t==2||t==3) false)))
def bO (h:Int):Bool:=h==6||h==7||h==8
def Og (h:Int):Bool:=h==6||h==8
def UV (h:Int):Bool:=h==2||h==4||h==6
theorem lN {N:Nat} {h:Int}  : Jg N [.int h]=some [.bool (bO h)]:=by
 show NQ (std (V5 N) N) (xOf _)=_
 simp only [NQ,std,xOf,PXb,PXc,PXn,PXm,Nat.reduceAdd,Int.reduceBEq,bO]
theorem td {N:Nat} {h:Int} {t:Int}  : Sr N [.int h,.int t]=some [.bool (onS h t)]:=by
 show Xt (std (gw N) N) (xOf _)=_
 simp only [Xt,std,xOf,PXb,PXc,PXn,PXm,Nat.reduceAdd,Int.reduceBEq]
 unfold onS
 simp only [Bool.or_assoc,PXb,PXc,PXn,PXm,Nat.reduceAdd,Int.reduceBEq]
theorem iS {N:Nat} {h:Int}  : G4 N [.int h]=some [.bool (UV h),.bool (UV h),.bool (h==6)]:=by
 show Jx (std (Sj N) N) (xOf _)=_
 simp only [Jx,std,xOf,PXb,PXc,PXn,PXm,Nat.reduceAdd,Int.reduceBEq,UV]
def SC (d:Del) (free:Bool):Int :=
  cond (d.how==0) (cond (!(d.victim==0)) 14 (cond (!(d.fielder==0) || !(d.second==0)||d.sub) 15 0))
    (cond (!onS d.how d.type||free && !bO d.how) 13 (cond (!Og d.how&&(!(d.source==0) || !(d.runs==0))) 12
      (cond (!(d.victim==1) && !(d.victim==2&&Og d.how)) 14
        (cond (UV d.how && !btw d.fielder 1 11 || !UV d.how && !(d.fielder==0)) 15
          (cond (!(d.second==0)&&(!(d.how==6) || !btw d.second 1 11||d.second==d.fielder)) 15
            (cond (d.sub && !(d.how==2) && !(d.how==6)) 18 0))))))
theorem iE {N:Nat} {d0 d1 d2 d3 d4 d6 d7 d8 d9 d11:Int} {d5 d10:Bool} {f:Bool}  : J4 N [.int d0,.int d1,.int d2,.int d3,.int d4,.bool d5,.int d6,.int d7,.int d8,.int d9,.bool d10,.int d11,.bool f]=some [.int (SC (⟨d0,d1,d2,d3,d4,d5,d6,d7,d8,d9,d10,d11⟩:Del) f)]:=by
 show J1 (std (Ez N) N) (xOf _)=_
 generalize hres:(some [.int (SC (⟨d0,d1,d2,d3,d4,d5,d6,d7,d8,d9,d10,d11⟩:Del) f)]:Option (List PV))=RR
 simp only [J1,QX,Wf,SG,std,xOf,PXb,PXc,PXn,PXm,Nat.reduceAdd,Int.reduceBEq,td,lN,iS]
 subst hres;simp only [SC,vY,Og,Bool.not_or,Bool.not_and,Bool.or_assoc]
 cases onS d6 d0<;>cases f<;>cases bO d6<;>rfl
def Bh:Rows:=match BX 0 [] with
 | some [.rows l]=>l
 | _=>[]
theorem RD {N:Nat}:BX N []=some [.rows Bh]:=rfl
theorem dj:Bh.length=11:=rfl
theorem ZZ {N:Nat} {h:Int} {n:ByteArray} {b:Bool} {c:Bool} {d:Bool} {e:Bool} {x:Bool} {t:Int}  : DZ N [.int h,.str n,.bool b,.bool c,.bool d,.bool e,.bool x,.int t]=some [.bool (t==1&&b||t==2&&c||t==3&&d)]:=by
 show Fq (std (Mw N) N) (xOf _)=_
 simp only [Fq,std,xOf,PXb,PXc,PXn,PXm,Nat.reduceAdd,Int.reduceBEq]
theorem VO {N:Nat} {n:Int}  : Cd N [.int n]=some [.bool (btw n 1 11)]:=by
 show DS (std (JW N) N) (xOf _)=_
 simp only [DS,std,xOf,PXb,PXc,PXn,PXm,Nat.reduceAdd,Int.reduceBEq]
 rfl
def qe (i j:Nat):Bool:=pvB (AF Bh i j)
def wOk (t:Int) (free:Bool) (i:Nat):Bool :=
  (t==1&&qe i 2||t==2&&qe i 3||t==3&&qe i 4)&&(!free||atI Bh i 0==6||atI Bh i 0==7||atI Bh i 0==8)
def Hb (t:Int) (free:Bool):Nat→Rows
 | 0=>[]
 | i+1=>cond (wOk t free i) (Hb t free i++[[.int (atI Bh i 0)]]) (Hb t free i)
theorem eW (t:Int) (free:Bool):∀ i,(Hb t free i).length≤i
 | 0=>Nat.le_refl _
 | i+1=>by
  have:=eW t free i
  unfold Hb
  cases wOk t free i
  ·exact Nat.le_succ_of_le this
  ·simp;exact this
theorem eN {N:Nat} {t:Int} {f:Bool} (hN:2097152<N):Eg N [.int t,.bool f]=some [.rows (Hb t f 11)]:=by
 show HV (std (FY N) N) (xOf _)=_
 simp only [HV,Lt,K1,std,xOf,PXb,PXc,PXn,AA,RD,ZZ]
 refine AK (A6 (len:=Bh.length) (fun i=>[.rows (Hb t f i),.int (i:Int)]) [.rows (Hb t f 11)] ?_ ?_ N (by rw [dj];omega)) rfl
 ·intro self
  simp only [PXb,PXc,PXn,AA,Ar]
  rfl
 ·intro i self hi
  have hi2:i<11:=hi
  have h2:(Hb t f i++[[PV.int (atI Bh i 0)]]).length≤4194304:=by have:=eW t f i;simp;omega
  simp only [PXb,PXc,AA,AW (show i≤1099511627776 by omega),Ah hi,AQ hi,Be,Hb,EH h2 (show 1≤4096 by omega)]
  unfold wOk qe
  cases ((t==1&&pvB (AF Bh i 2)||t==2&&pvB (AF Bh i 3)||t==3&&pvB (AF Bh i 4))&&(!f||atI Bh i 0==6||atI Bh i 0==7||atI Bh i 0==8))<;>rfl
theorem aJ {N:Nat} {L:Rows} {v:Int} (hN:L.length<N) (hl:L.length≤1048576):Dh N [.rows L,.int v]=some [.int (RC (fun j=>v==atI L j 0) L.length)]:=by
 show FP (std (M5 N) N) (xOf _)=_
 simp only [FP,std,xOf,PXb,PXc,PXn,AA]
 refine AK (CU (len:=L.length) (F6 fun j=>v==atI L j 0) ?_ ?_ L.length 0 N (by omega) (by omega)) ?_
 ·intro self
  simp only [PXb,PXc,PXn,AA,Ar]
 ·intro i self hi
  simp only [PXb,PXc,PXn,AA,AW (show i≤1099511627776 by omega),Ah hi,AQ hi,F6,Be]
  cases v==atI L i 0<;>rfl
 ·unfold RC
  cases B2 (F6 fun j=>v==atI L j 0) L.length 0<;>rfl
theorem WR {N:Nat} {L:Rows} {v:Int} (hN:L.length<N) (hl:L.length≤1048576):Cq N [.rows L,.int v]=some [.bool (G6 L L.length v)]:=by
 show Dl (std (FD N) N) (xOf _)=_
 simp only [Dl,Ic,std,xOf,PXb,PXc,PXn,AA,aJ hN hl,J6,G6]
theorem tD (L:Rows) (v:Int):G6 L L.length v=KQ (fun x=>v==x) L:=rfl
theorem vU (p:Int→Bool) (b:Bool) (L:Rows) (x:Int):KQ p (cond b (L++[[.int x]]) L)=(KQ p L||(b&&p x)):=by
 cases b with
 | false=>simp
 | true=>rw [cond_true,lE,Bool.true_and];congr 1;rw [PH];simp [AJ,pvI]
theorem mN (t:Int) (free:Bool) (p:Int→Bool):∀ i,KQ p (Hb t free i)=Ao (fun j=>wOk t free j&&p (atI Bh j 0)) i 0
 | 0=>rfl
 | i+1=>by rw [aX,← mN t free p i,Hb,vU,Nat.zero_add]
theorem tO (t h:Int) (free:Bool):G6 (Hb t free 11) (Hb t free 11).length h=(onS h t&&(!free||bO h)):=by
 rw [tD,mN]
 have key:∀ j,j<11→atI Bh j 0=j:=by
  intro j hj
  have:j=0∨j=1∨j=2∨j=3∨j=4∨j=5∨j=6∨j=7∨j=8∨j=9∨j=10:=by omega
  rcases this with h | h | h | h | h | h | h | h | h | h | h<;>subst h<;>rfl
 by_cases hr:0≤h∧h≤10
 ·obtain ⟨k,rfl⟩:∃ k:Nat,h=k:=⟨h.toNat,by omega⟩
  have:k=0∨k=1∨k=2∨k=3∨k=4∨k=5∨k=6∨k=7∨k=8∨k=9∨k=10:=by omega
  rcases this with h | h | h | h | h | h | h | h | h | h | h<;>subst h<;>simp only [BG,HN,wOk,onS]<;>cases free<;>cases t==1<;>cases t==2<;>cases t==3<;>rfl
 ·rw [KI.2 fun j _ hj=>by
   rw [key j (by omega),show (h==(j:Int))=false from beq_false_of_ne (by omega),Bool.and_false]]
  have e:∀ n:Int,0≤n→n≤10→(h==n)=false:=fun n h0 h1=>beq_false_of_ne (by omega)
  unfold onS
  rw [e 1 (by omega) (by omega),e 2 (by omega) (by omega),e 3 (by omega) (by omega),e 4 (by omega) (by omega),e 5 (by omega) (by omega),e 6 (by omega) (by omega),e 7 (by omega) (by omega),e 8 (by omega) (by omega)]
  rfl
def Xb (h:Int):List PV:=match B2 (fun i=>cond (atI Bh i 0==h) (some [.int (pvI (AF Bh i 0)),.str (pvS (AF Bh i 1)),.bool (pvB (AF Bh i 2)),.bool (pvB (AF Bh i 3)),.bool (pvB (AF Bh i 4)),.bool (pvB (AF Bh i 5)),.bool (pvB (AF Bh i 6))]) none) 11 0 with
 | some r=>r
 | none=>[.int 0,.str ⟨#[]⟩,.bool false,.bool false,.bool false,.bool false,.bool false]
theorem Rp {ans:Nat→Option (List PV)} {r:List PV}:∀ (k i:Nat),B2 ans k i=some r→∃ j,i≤j∧j<i+k∧ans j=some r
 | 0,i,h=>by cases h
 | k+1,i,h=>by
  simp only [B2] at h
  cases ha:ans i with
  | some x=>rw [ha] at h;cases h;exact ⟨i,Nat.le_refl _,by omega,ha⟩
  | none =>
   rw [ha] at h
   obtain ⟨j,h1,h2,h3⟩:=Rp k (i+1) h
   exact ⟨j,by omega,by omega,h3⟩
theorem sy (h:Int):∃ a b c d e f g,Xb h=[.int a,.str b,.bool c,.bool d,.bool e,.bool f,.bool g]:=by
 unfold Xb
 generalize hf:B2 _ 11 0=o
 cases o with
 | none=>exact ⟨_,_,_,_,_,_,_,rfl⟩
 | some r =>
  obtain ⟨j,_,_,h3⟩:=Rp _ _ hf
  cases hb:atI Bh j 0==h with
  | false=>rw [hb] at h3;cases h3
  | true=>rw [hb] at h3;cases h3;exact ⟨_,_,_,_,_,_,_,rfl⟩
theorem ic {N:Nat} {h:Int} (hN:2097152<N):HE N [.int h]=some (Xb h):=by
 show KA (std (Ly N) N) (xOf _)=_
 simp only [KA,Mf,std,xOf,PXb,PXc,PXn,AA,RD]
 refine AK (CU (len:=Bh.length) (fun i=>cond (atI Bh i 0==h) (some [.int (pvI (AF Bh i 0)),.str (pvS (AF Bh i 1)),.bool (pvB (AF Bh i 2)),.bool (pvB (AF Bh i 3)),.bool (pvB (AF Bh i 4)),.bool (pvB (AF Bh i 5)),.bool (pvB (AF Bh i 6))]) none) ?_ ?_ Bh.length 0 N (by omega) (by rw [dj];omega)) ?_
 ·intro self
  simp only [PXb,PXc,PXn,AA,Ar]
 ·intro i self hi
  have hi2:i<11:=hi
  simp only [PXb,PXc,PXn,AA,AW (show i≤1099511627776 by omega),Ah hi,AQ hi,Be]
  cases atI Bh i 0==h<;>rfl
 ·unfold Xb
  rw [dj]
  generalize hf:B2 _ 11 0=o
  cases o with
  | none=>rfl
  | some r =>
   obtain ⟨j,_,_,h3⟩:=Rp _ _ hf
   cases hb:atI Bh j 0==h with
   | false=>rw [hb] at h3;cases h3
   | true=>rw [hb] at h3;cases h3;rfl
theorem rq (h:Int):pvB (AJ (Xb h) 5)=UV h∧pvB (AJ (Xb h) 6)=Og h:=by
 by_cases hr:0≤h∧h≤10
 ·obtain ⟨k,rfl⟩:∃ k:Nat,h=k:=⟨h.toNat,by omega⟩
  have:k=0∨k=1∨k=2∨k=3∨k=4∨k=5∨k=6∨k=7∨k=8∨k=9∨k=10:=by omega
  rcases this with h | h | h | h | h | h | h | h | h | h | h<;>subst h<;>exact ⟨rfl,rfl⟩
 ·have e:∀ n:Int,0≤n→n≤10→(h==n)=false:=fun n h0 h1=>beq_false_of_ne (by omega)
  have key:∀ j,j<11→atI Bh j 0=j:=by
   intro j hj
   have:j=0∨j=1∨j=2∨j=3∨j=4∨j=5∨j=6∨j=7∨j=8∨j=9∨j=10:=by omega
   rcases this with h | h | h | h | h | h | h | h | h | h | h<;>subst h<;>rfl
  unfold Xb
  generalize hf:B2 _ 11 0=o
  cases o with
  | none =>
   unfold UV Og
   rw [e 2 (by omega) (by omega),e 4 (by omega) (by omega),e 6 (by omega) (by omega),e 8 (by omega) (by omega)]
   exact ⟨rfl,rfl⟩
  | some r =>
   obtain ⟨j,_,hj,h3⟩:=Rp _ _ hf
   rw [key j (by omega),show ((j:Int)==h)=false from beq_false_of_ne (by omega)] at h3
   cases h3
def Qg (d:Del) (m:Bool):Bool :=
 !(!(m==btw d.fielder 1 11) || !m && !(d.fielder==0))&&(d.second==0||d.how==6&&btw d.second 1 11 && !(d.second==d.fielder))
theorem Ww {N:Nat} {d0 d1 d2 d3 d4 d6 d7 d8 d9 d11:Int} {d5 d10:Bool} {a:Int} {n:ByteArray} {b:Bool} {c:Bool} {e:Bool} {f:Bool} {g:Bool}  : C1 N [.int d0,.int d1,.int d2,.int d3,.int d4,.bool d5,.int d6,.int d7,.int d8,.int d9,.bool d10,.int d11,.int a,.str n,.bool b,.bool c,.bool e,.bool f,.bool g]=some [.bool (Qg (⟨d0,d1,d2,d3,d4,d5,d6,d7,d8,d9,d10,d11⟩:Del) f)]:=by
 show EF (std (F7 N) N) (xOf _)=_
 generalize hres:(some [.bool (Qg (⟨d0,d1,d2,d3,d4,d5,d6,d7,d8,d9,d10,d11⟩:Del) f)]:Option (List PV))=RR
 simp only [EF,HF,std,xOf,PXb,PXc,PXn,PXm,Nat.reduceAdd,Int.reduceBEq,VO]
 subst hres;simp only [Qg]
 cases d9==0<;>cases d6==6<;>cases f<;>cases btw d8 1 11<;>cases d8==0<;>first | rfl | (cases btw d9 1 11<;>rfl)
theorem v8 {α:Type} (a b:Bool) (x y:α):cond (a||b) x y=cond a x (cond b x y):=by cases a<;>rfl
theorem oK (d:Del) (m:Bool):(!Qg d m)=((m && !btw d.fielder 1 11 || !m && !(d.fielder==0))||(!(d.second==0)&&(!(d.how==6) || !btw d.second 1 11||d.second==d.fielder))):=by
 unfold Qg
 cases hb:btw d.fielder 1 11<;>cases hf:d.fielder==0
 ·cases m<;>cases d.second==0<;>cases d.how==6<;>cases btw d.second 1 11<;>cases d.second==d.fielder<;>rfl
 ·cases m<;>cases d.second==0<;>cases d.how==6<;>cases btw d.second 1 11<;>cases d.second==d.fielder<;>rfl
 ·cases m<;>cases d.second==0<;>cases d.how==6<;>cases btw d.second 1 11<;>cases d.second==d.fielder<;>rfl
 ·rw [beq_iff_eq.1 hf] at hb;exact absurd hb (by decide)
theorem X5 {N:Nat} {d0 d1 d2 d3 d4 d6 d7 d8 d9 d11:Int} {d5 d10:Bool} {f:Bool} (hN:2097152<N):Cx N [.int d0,.int d1,.int d2,.int d3,.int d4,.bool d5,.int d6,.int d7,.int d8,.int d9,.bool d10,.int d11,.bool f]=some [.int (SC (⟨d0,d1,d2,d3,d4,d5,d6,d7,d8,d9,d10,d11⟩:Del) f)]:=by
 show EC (std (Bq N) N) (xOf _)=_
 generalize hres:(some [.int (SC (⟨d0,d1,d2,d3,d4,d5,d6,d7,d8,d9,d10,d11⟩:Del) f)]:Option (List PV))=RR
 have hl:=eW d0 f 11
 obtain ⟨a,b,c,d,e,m,g,hline⟩:=sy d6
 have hbits:=rq d6
 rw [hline] at hbits
 have hm:m=UV d6:=hbits.1
 have hg:g=Og d6:=hbits.2
 have h1:(Hb d0 f 11).length<N:=by omega
 have h2:(Hb d0 f 11).length≤1048576:=by omega
 simp only [EC,Ka,HP,Jn,Hs,std,xOf,PXb,PXc,PXn,PXm,Nat.reduceAdd,Int.reduceBEq,ic hN,hline,eN hN,WR h1 h2,tO,Ww,oK]
 subst hres;simp only [SC,v8]
 rw [hm,hg]
 unfold Og
 cases d6==0<;>cases onS d6 d0<;>cases f<;>cases bO d6<;>try rfl
 all_goals (cases d6==6<;>cases d6==8<;>cases d7==2<;>rfl)
end Go.Px
end
section
namespace Go.Px
set_option maxRecDepth 100000
theorem ZB {N:Nat} {a:Int} {b:Int} {c:Int}  : Da N [.int a,.int b,.int c]=some [.bool (btw a b c)]:=by
 show I9 (std (Nu N) N) (xOf _)=_
 show some [PV.bool (cond (iLe b a) (iLe a c) false)]=_
 rw [PQ];rfl
theorem tq {N:Nat} {a:Int} {b:Int} {c:Int}  : SQ N [.int a,.int b,.int c]=some [.bool (btw a b c)]:=by
 show eH (std (gG N) N) (xOf _)=_
 show some [PV.bool (cond (iLe b a) (iLe a c) false)]=_
 rw [PQ];rfl
theorem gt {N:Nat} {a:Int} {b:Int} {c:Int}  : Fh N [.int a,.int b,.int c]=some [.bool (btw a b c)]:=by
 show OD (std (RF N) N) (xOf _)=_
 show some [PV.bool (cond (iLe b a) (iLe a c) false)]=_
 rw [PQ];rfl
theorem se {N:Nat} {a:Int} {b:Int} {c:Int}  : TP N [.int a,.int b,.int c]=some [.bool (btw a b c)]:=by
 show eG (std (gX N) N) (xOf _)=_
 show some [PV.bool (cond (iLe b a) (iLe a c) false)]=_
 rw [PQ];rfl
def Xh (d:Del):Int :=
  cond (iLt d.type 1||iLt 3 d.type||iLt 3 d.source||iLt 10 d.how) 3
    (cond (!btw d.runs 0 7 || !btw d.short 0 d.runs||(!(d.boundary==0) && !(d.boundary==4) && !(d.boundary==6)) || !btw d.victim 0 2 || !btw d.fielder 0 11 || !btw d.second 0 11 || !btw d.sector 0 8) 2 0)
theorem eJ {N:Nat} {d0 d1 d2 d3 d4 d6 d7 d8 d9 d11:Int} {d5 d10:Bool}  : Ee N [.int d0,.int d1,.int d2,.int d3,.int d4,.bool d5,.int d6,.int d7,.int d8,.int d9,.bool d10,.int d11]=some [.int (Xh (⟨d0,d1,d2,d3,d4,d5,d6,d7,d8,d9,d10,d11⟩:Del))]:=by
 show Hd (std (JD N) N) (xOf _)=_
 generalize hres:(some [.int (Xh (⟨d0,d1,d2,d3,d4,d5,d6,d7,d8,d9,d10,d11⟩:Del))]:Option (List PV))=RR
 simp only [Hd,K3,std,xOf,PXb,PXc,PXn,PXm,Nat.reduceAdd,Int.reduceBEq,ZB]
 subst hres;simp only [Xh]
theorem oc {N:Nat} {d0 d1 d2 d3 d4 d6 d7 d8 d9 d11:Int} {d5 d10:Bool}  : Kd N [.int d0,.int d1,.int d2,.int d3,.int d4,.bool d5,.int d6,.int d7,.int d8,.int d9,.bool d10,.int d11]=some [.int (Xh (⟨d0,d1,d2,d3,d4,d5,d6,d7,d8,d9,d10,d11⟩:Del))]:=by
 show PW (std (Q7 N) N) (xOf _)=_
 generalize hres:(some [.int (Xh (⟨d0,d1,d2,d3,d4,d5,d6,d7,d8,d9,d10,d11⟩:Del))]:Option (List PV))=RR
 simp only [PW,Zu,std,xOf,PXb,PXc,PXn,PXm,Nat.reduceAdd,Int.reduceBEq,tq]
 subst hres;simp only [Xh]
def loS (k:Int):Int:=cond (k==7) 0 (cond (k==13) 1 0)
def hiS (k:Int):Int:=cond (k==7) 11 (cond (k==13) 99 100000)
theorem iA {N:Nat} {k:Int}  : G0 N [.int k]=some [.int (loS k),.int (hiS k)]:=by
 show Jq (std (TK N) N) (xOf _)=_
 simp only [Jq,std,xOf,PXb,PXc,PXn,PXm,Nat.reduceAdd,Int.reduceBEq]
 unfold loS hiS
 cases k==7<;>cases k==13<;>rfl
theorem pR {N:Nat} {k:Int}  : NJ N [.int k]=some [.int (loS k),.int (hiS k)]:=by
 show R0 (std (aZ N) N) (xOf _)=_
 simp only [R0,std,xOf,PXb,PXc,PXn,PXm,Nat.reduceAdd,Int.reduceBEq]
 unfold loS hiS
 cases k==7<;>cases k==13<;>rfl
def uS (k:Int):Bool:=k==1||k==12||k==14||k==11||k==13
def uP (k:Int):Bool:=k==2||k==3||k==8||k==5||k==6||k==9
def uO (k:Int):Bool:=k==2
def uY (k:Int):Bool:=k==1||k==12||k==14||k==5||k==6||k==9
def uR (k:Int):Bool:=k==7||k==13||k==15
def uV (k:Int):Bool:=k==15
def uB (k:Int):Bool:=k==4
theorem Ou {k:Int} (h:(iLt k 1||iLt 16 k)=false):k=1∨k=2∨k=3∨k=4∨k=5∨k=6∨k=7∨k=8∨k=9∨k=10∨k=11∨k=12∨k=13∨k=14∨k=15∨k=16:=by
 simp only [iLt,Bool.or_eq_false_iff,decide_eq_false_iff_not] at h
 omega
theorem lh {k:Int} (h:(iLt k 1||iLt 16 k)=true) (n:Int) (h1:1≤n) (h2:n≤16):(k==n)=false:=by
 simp only [iLt,Bool.or_eq_true,decide_eq_true_eq] at h
 exact beq_false_of_ne (by omega)
def px:Rows:=match FG 0 [] with
 | some [.rows l]=>l
 | _=>[]
theorem kC {N:Nat}:FG N []=some [.rows px]:=rfl
def DC (k f:Int):Bool:=iLe 0 (Lib.indexByte (pvS (AF px (IntKind.u8.wrap (k - 1)).toNat 1)).data.toList f.toNat.toUInt8)||(k==5&&f==121)
theorem Y6 {N:Nat} {s:ByteArray} {f:Int}  : DH N [.str s,.int f]=some [.int (Lib.indexByte s.data.toList f.toNat.toUInt8)]:=by
 show E4 (std (GV N) N) (xOf _)=_
 simp only [E4,HG,std,xOf,PXb,PXc,PXn,PXm,Nat.reduceAdd,Int.reduceBEq,CO,fO]
theorem bE {N:Nat} {k:Int} {f:Int} (h:(iLt k 1||iLt 16 k)=false):JC N [.int k,.int f]=some [.bool (DC k f)]:=by
 show M6 (std (Jj N) N) (xOf _)=_
 have hi:iIn (IntKind.u8.wrap (k - 1)) (px.length:Int)=true:=by
  rcases Ou h with h | h | h | h | h | h | h | h | h | h | h | h | h | h | h | h<;>subst h<;>rfl
 simp only [M6,Mz,TA,std,xOf,PXb,PXc,PXn,PXm,Nat.reduceAdd,Int.reduceBEq,kC,Y6,hi,DC]
theorem vG {k:Int} (h:(iLt k 1||iLt 16 k)=false):DC k 115=uS k∧DC k 112=uP k∧DC k 111=uO k∧DC k 121=uY k∧DC k 114=uR k∧DC k 118=uV k∧DC k 98=uB k:=by
 rcases Ou h with h | h | h | h | h | h | h | h | h | h | h | h | h | h | h | h<;>subst h<;>exact ⟨rfl,rfl,rfl,rfl,rfl,rfl,rfl⟩
def bI (d:Del):Bool:=d.type==0&&(d.source==0&&(d.runs==0&&(d.short==0&&(d.boundary==0&&(d.crossed==false&&(d.how==0&&(d.victim==0&&(d.fielder==0&&(d.second==0&&(d.sub==false&&d.sector==0))))))))))
def ZC (e:Ev):Bool:=(!(e.side==0) && !uS e.kind)||((!(e.player==0) && !uP e.kind)||((!(e.other==0) && !uO e.kind)||((e.yes && !uY e.kind)||((!(e.runs==0) && !uR e.kind)||((!(e.overs==0) && !uV e.kind)||(!bI e.ball && !uB e.kind))))))
def Vn (e:Ev):Bool:=(!btw e.side 1 2&&uS e.kind)||((!btw e.player 1 11&&uP e.kind)||((!btw e.other 1 11&&uO e.kind)||((!btw e.runs (loS e.kind) (hiS e.kind)&&uR e.kind)||(!btw e.overs 0 90&&uV e.kind))))
def evS (e:Ev):Int:=cond (iLt e.kind 1||iLt 16 e.kind) 3 (cond (ZC e) 1 (cond (Vn e) 2 (cond (e.kind==4) (Xh e.ball) 0)))
def evT (e:Ev):Rows:=[[.int 115,.bool (e.side==0),.bool (btw e.side 1 2)],[.int 112,.bool (e.player==0),.bool (btw e.player 1 11)],[.int 111,.bool (e.other==0),.bool (btw e.other 1 11)],[.int 121,.bool (!e.yes),.bool true],[.int 114,.bool (e.runs==0),.bool (btw e.runs (loS e.kind) (hiS e.kind))],[.int 118,.bool (e.overs==0),.bool (btw e.overs 0 90)],[.int 98,.bool (bI e.ball),.bool true]]
theorem Yb {N:Nat} {e0 e1 e2 e3 e5 e6 e7 e8 e9 e10 e11 e13 e14 e15 e16 e18:Int} {e4 e12 e17:Bool} (hN:2097152<N):C7 N [.int e0,.int e1,.int e2,.int e3,.bool e4,.int e5,.int e6,.int e7,.int e8,.int e9,.int e10,.int e11,.bool e12,.int e13,.int e14,.int e15,.int e16,.bool e17,.int e18]=some [.int (evS (⟨e0,e1,e2,e3,e4,e5,e6,⟨e7,e8,e9,e10,e11,e12,e13,e14,e15,e16,e17,e18⟩⟩:Ev))]:=by
 show IG (std (Dm N) N) (xOf _)=_
 generalize hres:(some [.int (evS (⟨e0,e1,e2,e3,e4,e5,e6,⟨e7,e8,e9,e10,e11,e12,e13,e14,e15,e16,e17,e18⟩⟩:Ev))]:Option (List PV))=RR
 cases hk:iLt e0 1||iLt 16 e0 with
 | true =>
  simp only [IG,Hv,HM,Ja,DN,std,xOf,PXb,PXc,AA,hk,← hres,evS]
 | false =>
  simp only [IG,Hv,HM,Ja,DN,std,xOf,PXb,PXc,AA,hk,iA,gt]
  subst hres
  obtain ⟨g1,g2,g3,g4,g5,g6,g7⟩:=vG hk
  refine AK (CQ (len:=7) (fun i => !pvB (AF (evT (⟨e0,e1,e2,e3,e4,e5,e6,⟨e7,e8,e9,e10,e11,e12,e13,e14,e15,e16,e17,e18⟩⟩:Ev)) i 1) && !DC e0 (pvI (AF (evT (⟨e0,e1,e2,e3,e4,e5,e6,⟨e7,e8,e9,e10,e11,e12,e13,e14,e15,e16,e17,e18⟩⟩:Ev)) i 0))) [.int 1] ?_ ?_ N (by omega)) ?_
  ·intro self
   rfl
  ·intro i self hi
   simp only [PXb,PXc,AA,AW (show i≤1099511627776 by omega),List.length_cons,List.length_nil,Nat.reduceAdd,Ah hi,AQ hi,bE hk]
   change cond (!pvB (AF (evT (⟨e0,e1,e2,e3,e4,e5,e6,⟨e7,e8,e9,e10,e11,e12,e13,e14,e15,e16,e17,e18⟩⟩:Ev)) i 1) && !(!pvB (AF (evT (⟨e0,e1,e2,e3,e4,e5,e6,⟨e7,e8,e9,e10,e11,e12,e13,e14,e15,e16,e17,e18⟩⟩:Ev)) i 1)&&DC e0 (pvI (AF (evT (⟨e0,e1,e2,e3,e4,e5,e6,⟨e7,e8,e9,e10,e11,e12,e13,e14,e15,e16,e17,e18⟩⟩:Ev)) i 0)))) _ _=_
   cases pvB (AF (evT (⟨e0,e1,e2,e3,e4,e5,e6,⟨e7,e8,e9,e10,e11,e12,e13,e14,e15,e16,e17,e18⟩⟩:Ev)) i 1)<;>rfl
  ·have a1:Ao (fun i => !pvB (AF (evT (⟨e0,e1,e2,e3,e4,e5,e6,⟨e7,e8,e9,e10,e11,e12,e13,e14,e15,e16,e17,e18⟩⟩:Ev)) i 1) && !DC e0 (pvI (AF (evT (⟨e0,e1,e2,e3,e4,e5,e6,⟨e7,e8,e9,e10,e11,e12,e13,e14,e15,e16,e17,e18⟩⟩:Ev)) i 0))) 7 0=ZC (⟨e0,e1,e2,e3,e4,e5,e6,⟨e7,e8,e9,e10,e11,e12,e13,e14,e15,e16,e17,e18⟩⟩:Ev):=by
    simp only [BG,HN]
    change (!(e1==0) && !DC e0 115||(!(e2==0) && !DC e0 112||(!(e3==0) && !DC e0 111||(!(!e4) && !DC e0 121||(!(e5==0) && !DC e0 114||(!(e6==0) && !DC e0 118||(!(bI (⟨e0,e1,e2,e3,e4,e5,e6,⟨e7,e8,e9,e10,e11,e12,e13,e14,e15,e16,e17,e18⟩⟩:Ev).ball) && !DC e0 98||false)))))))=_
    rw [g1,g2,g3,g4,g5,g6,g7,Bool.not_not,Bool.or_false]
    rfl
   rw [a1]
   simp only [evS,hk,cond_false]
   cases ZC (⟨e0,e1,e2,e3,e4,e5,e6,⟨e7,e8,e9,e10,e11,e12,e13,e14,e15,e16,e17,e18⟩⟩:Ev) with
   | true=>rfl
   | false =>
    simp only [PXb,PXc,AA]
    refine AK (CQ (len:=7) (fun i => !pvB (AF (evT (⟨e0,e1,e2,e3,e4,e5,e6,⟨e7,e8,e9,e10,e11,e12,e13,e14,e15,e16,e17,e18⟩⟩:Ev)) i 2)&&DC e0 (pvI (AF (evT (⟨e0,e1,e2,e3,e4,e5,e6,⟨e7,e8,e9,e10,e11,e12,e13,e14,e15,e16,e17,e18⟩⟩:Ev)) i 0))) [.int 2] ?_ ?_ N (by omega)) ?_
    ·intro self
     rfl
    ·intro i self hi
     simp only [PXb,PXc,AA,AW (show i≤1099511627776 by omega),List.length_cons,List.length_nil,Nat.reduceAdd,Ah hi,AQ hi,bE hk]
     rfl
    ·have a2:Ao (fun i => !pvB (AF (evT (⟨e0,e1,e2,e3,e4,e5,e6,⟨e7,e8,e9,e10,e11,e12,e13,e14,e15,e16,e17,e18⟩⟩:Ev)) i 2)&&DC e0 (pvI (AF (evT (⟨e0,e1,e2,e3,e4,e5,e6,⟨e7,e8,e9,e10,e11,e12,e13,e14,e15,e16,e17,e18⟩⟩:Ev)) i 0))) 7 0=Vn (⟨e0,e1,e2,e3,e4,e5,e6,⟨e7,e8,e9,e10,e11,e12,e13,e14,e15,e16,e17,e18⟩⟩:Ev):=by
      simp only [BG,HN]
      change (!(btw e1 1 2)&&DC e0 115||(!(btw e2 1 11)&&DC e0 112||(!(btw e3 1 11)&&DC e0 111||(!true&&DC e0 121||(!(btw e5 (loS e0) (hiS e0))&&DC e0 114||(!(btw e6 0 90)&&DC e0 118||(!true&&DC e0 98||false)))))))=_
      rw [g1,g2,g3,g4,g5,g6,g7]
      simp only [Bool.not_true,Bool.false_and,Bool.false_or,Bool.or_false]
      rfl
     rw [a2]
     cases Vn (⟨e0,e1,e2,e3,e4,e5,e6,⟨e7,e8,e9,e10,e11,e12,e13,e14,e15,e16,e17,e18⟩⟩:Ev) with
     | true=>rfl
     | false =>
      simp only [PXb,PXc,PXn,PXm,Nat.reduceAdd,Int.reduceBEq,DN,eJ]
theorem Zs {N:Nat} (k:Int):DY N [.int k]=some [.bool (uS k),.bool (uP k),.bool (uO k),.bool (uY k),.bool (uR k),.bool (uV k),.bool (uB k),.bool (!(iLt k 1||iLt 16 k))]:=by
 cases hk:iLt k 1||iLt 16 k with
 | false=>rcases Ou hk with h | h | h | h | h | h | h | h | h | h | h | h | h | h | h | h<;>subst h<;>rfl
 | true =>
  have n:=lh hk
  show M4 (std (V1 N) N) (xOf _)=_
  unfold uS uP uO uY uR uV uB
  simp only [M4,std,xOf,PXb,PXc,PXn,PXm,Nat.reduceAdd,Int.reduceBEq,n 1 (by omega) (by omega),n 2 (by omega) (by omega),n 3 (by omega) (by omega),n 4 (by omega) (by omega),n 5 (by omega) (by omega),n 6 (by omega) (by omega),n 7 (by omega) (by omega),n 8 (by omega) (by omega),n 9 (by omega) (by omega),n 10 (by omega) (by omega),n 11 (by omega) (by omega),n 12 (by omega) (by omega),n 13 (by omega) (by omega),n 14 (by omega) (by omega),n 15 (by omega) (by omega),n 16 (by omega) (by omega)]
theorem c4 {c x x' y y':Bool} {a b d z z':Int} (h1:x=x') (h2:y=y') (h3:z=z'):(some [PV.int (cond c a (cond x b (cond y d z)))]:Option (List PV))=some [PV.int (cond c a (cond x' b (cond y' d z')))]:=by subst h1;subst h2;subst h3;rfl
theorem cA {N:Nat} {e0 e1 e2 e3 e5 e6 e7 e8 e9 e10 e11 e13 e14 e15 e16 e18:Int} {e4 e12 e17:Bool}  : IU N [.int e0,.int e1,.int e2,.int e3,.bool e4,.int e5,.int e6,.int e7,.int e8,.int e9,.int e10,.int e11,.bool e12,.int e13,.int e14,.int e15,.int e16,.bool e17,.int e18]=some [.int (evS (⟨e0,e1,e2,e3,e4,e5,e6,⟨e7,e8,e9,e10,e11,e12,e13,e14,e15,e16,e17,e18⟩⟩:Ev))]:=by
 show Ps (std (FN N) N) (xOf _)=_
 generalize hres:(some [.int (evS (⟨e0,e1,e2,e3,e4,e5,e6,⟨e7,e8,e9,e10,e11,e12,e13,e14,e15,e16,e17,e18⟩⟩:Ev))]:Option (List PV))=RR
 simp only [Ps,Vi,XS,bB,Vp,std,xOf,PXb,PXc,PXn,PXm,Nat.reduceAdd,Int.reduceBEq,Zs,pR,se,oc]
 subst hres;simp only [evS,ZC,Vn,bI]
 refine c4 ?_ ?_ rfl
 ·simp only [Bool.not_and,Bool.or_assoc,Bool.and_comm]
 ·generalize uS e0=a1
  generalize uP e0=a2
  generalize uO e0=a3
  generalize uR e0=a4
  generalize uV e0=a5
  generalize btw e1 1 2=b1
  generalize btw e2 1 11=b2
  generalize btw e3 1 11=b3
  generalize btw e5 (loS e0) (hiS e0)=b4
  generalize btw e6 0 90=b5
  cases a1<;>cases b1<;>cases a2<;>cases b2<;>try rfl
  all_goals (cases a3<;>cases b3<;>cases a4<;>cases b4<;>try rfl)
  all_goals (cases a5<;>cases b5<;>rfl)
end Go.Px
end
section
namespace Go.Px
set_option maxRecDepth 100000
structure Lens (s t:Inn):Prop where
 bt:t.batters.length=s.batters.length
 bd:t.bowled.length=s.bowled.length
 sb:t.subs.length=s.subs.length
 bw:t.bowlers.length≤s.bowlers.length+1
 bf:t.before.length≤s.before.length+s.bowlers.length+1
theorem Lens.refl (s:Inn):Lens s s:=⟨rfl,rfl,rfl,by omega,by omega⟩
theorem P_c {α:Type} {P:α→Prop} (b:Bool) (x y:α) (hx:P x) (hy:P y):P (cond b x y):=by cases b<;>assumption
theorem de (s:Inn) (d:Del):Lens s (CR s d):=by
 have hb:∀ (b:Bool),(cond b (JE s.batters s.striker 2) s.batters).length=s.batters.length:=fun b=>by cases b<;>simp [Lr]
 have hc:∀ (b:Bool),(cond b (JE s.batters s.other 2) s.batters).length=s.batters.length:=fun b=>by cases b<;>simp [Lr]
 unfold CR
 cases (!(d.runs.tmod 2==0) != d.crossed)<;>refine P_c _ _ _ ⟨hb _,rfl,rfl,?_,?_⟩ (P_c _ _ _ ⟨hc _,rfl,rfl,?_,?_⟩ ⟨rfl,rfl,rfl,?_,?_⟩)<;>simp<;>omega
theorem aY (r:Rul) (s:Inn) (c:Bool):Lens s (DG r s c).1:=by
 have hl:(cond (G6 s.bowlers s.bowlers.length s.bowler) s.bowlers (s.bowlers++[[.int s.bowler]])).length≤s.bowlers.length+1:=by
  cases G6 s.bowlers s.bowlers.length s.bowler<;>simp
 have hd:(cond c (JE s.bowled s.bowler (inc (atI s.bowled (ix s.bowler) 0))) s.bowled).length=s.bowled.length:=by cases c<;>simp [Lr]
 unfold DG
 refine P_c (P:=fun x:Inn×Bool=>Lens s x.1) _ _ _ (Lens.refl s) (P_c (P:=fun x:Inn×Bool=>Lens s x.1) _ _ _ ⟨rfl,hd,rfl,hl,by simp;omega⟩ ⟨rfl,hd,rfl,by simp,?_⟩)
 simp only
 omega
def nB (a b c d:Int):Int:=cond (!(a==0)) a (cond (!(b==0)) b (cond (!(c==0)) c (cond (!(d==0)) d 0)))
def Oh (r:Rul) (s:Inn) (d:Del):Int :=
 cond (Er s.batters s.striker s.other) 6 (cond (s.bowler==0) 7 (nB (OH r s) (Fy d) (SC d s.freehit) (OA s d)))
theorem be {N:Nat} {r1 r2 r3 r4 r5 r6 r7 r9 r10 r11 r12:Int} {r8:Bool} {r0:ByteArray} {r13:Rows} {s0 s1 s2 s3 s4 s5 s6 s7 s8 s9 s10 s11 s12 s13 s15 s21 s22 s23 s25 s26 s27:Int} {s18 s20:Bool} {s14 s16 s17 s19 s24:Rows} {d0 d1 d2 d3 d4 d6 d7 d8 d9 d11:Int} {d5 d10:Bool} (h:Fit s14 s16 s17 s19 s24) (hN:2097152<N) (h13:r13.length≤1048576):D8 N [.str r0,.int r1,.int r2,.int r3,.int r4,.int r5,.int r6,.int r7,.bool r8,.int r9,.int r10,.int r11,.int r12,.rows r13,.int s0,.int s1,.int s2,.int s3,.int s4,.int s5,.int s6,.int s7,.int s8,.int s9,.int s10,.int s11,.int s12,.int s13,.rows s14,.int s15,.rows s16,.rows s17,.bool s18,.rows s19,.bool s20,.int s21,.int s22,.int s23,.rows s24,.int s25,.int s26,.int s27,.int d0,.int d1,.int d2,.int d3,.int d4,.bool d5,.int d6,.int d7,.int d8,.int d9,.bool d10,.int d11]=some [.int (Oh (⟨r0,r1,r2,r3,r4,r5,r6,r7,r8,r9,r10,r11,r12,r13⟩:Rul) (⟨s0,s1,s2,s3,s4,s5,s6,s7,s8,s9,s10,s11,s12,s13,s14,s15,s16,s17,s18,s19,s20,s21,s22,s23,s24,s25,s26,s27⟩:Inn) (⟨d0,d1,d2,d3,d4,d5,d6,d7,d8,d9,d10,d11⟩:Del))]:=by
 show GM (std (Bw N) N) (xOf _)=_
 generalize hres:(some [.int (Oh (⟨r0,r1,r2,r3,r4,r5,r6,r7,r8,r9,r10,r11,r12,r13⟩:Rul) (⟨s0,s1,s2,s3,s4,s5,s6,s7,s8,s9,s10,s11,s12,s13,s14,s15,s16,s17,s18,s19,s20,s21,s22,s23,s24,s25,s26,s27⟩:Inn) (⟨d0,d1,d2,d3,d4,d5,d6,d7,d8,d9,d10,d11⟩:Del))]:Option (List PV))=RR
 simp only [GM,Lu,JR,Ma,OK,ON,std,xOf,PXb,UL h.bt hN,kn h hN h13,Sh,X5 hN,kF h]
 subst hres;simp only [Oh]
 cases Er s14 s12 s13<;>try rfl
 cases s15==0<;>try rfl
 simp only [PXb]
 generalize OH (⟨r0,r1,r2,r3,r4,r5,r6,r7,r8,r9,r10,r11,r12,r13⟩:Rul) (⟨s0,s1,s2,s3,s4,s5,s6,s7,s8,s9,s10,s11,s12,s13,s14,s15,s16,s17,s18,s19,s20,s21,s22,s23,s24,s25,s26,s27⟩:Inn)=a
 generalize Fy (⟨d0,d1,d2,d3,d4,d5,d6,d7,d8,d9,d10,d11⟩:Del)=b
 generalize SC (⟨d0,d1,d2,d3,d4,d5,d6,d7,d8,d9,d10,d11⟩:Del) s20=c
 generalize OA (⟨s0,s1,s2,s3,s4,s5,s6,s7,s8,s9,s10,s11,s12,s13,s14,s15,s16,s17,s18,s19,s20,s21,s22,s23,s24,s25,s26,s27⟩:Inn) (⟨d0,d1,d2,d3,d4,d5,d6,d7,d8,d9,d10,d11⟩:Del)=e
 refine AK (CU (len:=4) (fun i=>cond (!(atI [[.int a],[.int b],[.int c],[.int e]] i 0==0)) (some [.int (atI [[.int a],[.int b],[.int c],[.int e]] i 0)]) none) ?_ ?_ 4 0 N (by omega) (by omega)) ?_
 ·intro self
  rfl
 ·intro i self hi
  simp only [PXb,AW (show i≤1099511627776 by omega),List.length_cons,List.length_nil,Nat.reduceAdd,Ah hi,AQ hi,Be]
  cases atI [[.int a],[.int b],[.int c],[.int e]] i 0==0<;>rfl
 ·refine (X3 _).trans (congrArg (fun z=>some [PV.int z]) ?_)
  unfold nB
  simp only [B2]
  rw [show atI [[.int a],[.int b],[.int c],[.int e]] 0 0=a from rfl,show atI [[.int a],[.int b],[.int c],[.int e]] (0+1) 0=b from rfl,show atI [[.int a],[.int b],[.int c],[.int e]] (0+1+1) 0=c from rfl,show atI [[.int a],[.int b],[.int c],[.int e]] (0+1+1+1) 0=e from rfl]
  cases a==0<;>try rfl
  cases b==0<;>try rfl
  cases c==0<;>try rfl
  cases e==0<;>rfl
theorem KY {s t:Inn} (l:Lens s t) (h:s.Fit) (hw:s.before.length+s.bowlers.length≤1048575):t.Fit:=⟨l.bt▸h.bt,by have:=l.bw;omega,by have:=l.bf;omega,l.bd▸h.bd,l.sb▸h.sb⟩
theorem lZ (s:Inn) (d:Del):(CR s d).bowlers=s.bowlers:=by
 unfold CR
 cases (!(d.runs.tmod 2==0) != d.crossed)<;>exact P_c (P:=fun x:Inn=>x.bowlers=s.bowlers) _ _ _ rfl (P_c (P:=fun x:Inn=>x.bowlers=s.bowlers) _ _ _ rfl rfl)
theorem lW (s:Inn) (d:Del):(CR s d).before=s.before:=by
 unfold CR
 cases (!(d.runs.tmod 2==0) != d.crossed)<;>exact P_c (P:=fun x:Inn=>x.before=s.before) _ _ _ rfl (P_c (P:=fun x:Inn=>x.before=s.before) _ _ _ rfl rfl)
@[reducible] def X2 (t:Inn) (a b e f g:Int):Inn:=⟨t.side,t.target,t.overs,a,t.wickets,b,e,f,g,t.pens,t.complete,t.inover,t.striker,t.other,t.batters,t.bowler,t.bowlers,t.before,t.fresh,t.bowled,t.freehit,t.ballage,t.keeper,t.outside,t.subs,t.rev1,t.rev2,t.ending⟩
def Ra (r:Rul) (s:Inn) (d:Del):Inn×Int :=
  cond (!(Oh r s d==0)) (s,Oh r s d)
    (let c:=Co r d
     let t:=CR s d
     let o:=DG r (X2 t (IntKind.i64.wrap (t.runs+fE c)) (IntKind.i64.wrap (t.wides+c.wides)) (IntKind.i64.wrap (t.noballs+c.noballs)) (IntKind.i64.wrap (t.byes+c.byes)) (IntKind.i64.wrap (t.legbyes+c.legbyes))) c.counts
     let t:Inn:=cond o.2 (bN o.1) o.1
     ({ t with freehit:=cond (d.type==1) false (cond (d.type==3&&r.freehit) true o.1.freehit) },0))
theorem iJ {N:Nat} {r1 r2 r3 r4 r5 r6 r7 r9 r10 r11 r12:Int} {r8:Bool} {r0:ByteArray} {r13:Rows} {s0 s1 s2 s3 s4 s5 s6 s7 s8 s9 s10 s11 s12 s13 s15 s21 s22 s23 s25 s26 s27:Int} {s18 s20:Bool} {s14 s16 s17 s19 s24:Rows} {d0 d1 d2 d3 d4 d6 d7 d8 d9 d11:Int} {d5 d10:Bool} (h:Fit s14 s16 s17 s19 s24) (hw:s17.length+s16.length≤1000000) (hN:2097152<N) (hs:r0.size≤1048576) (h13:r13.length≤1048576):HA N [.str r0,.int r1,.int r2,.int r3,.int r4,.int r5,.int r6,.int r7,.bool r8,.int r9,.int r10,.int r11,.int r12,.rows r13,.int s0,.int s1,.int s2,.int s3,.int s4,.int s5,.int s6,.int s7,.int s8,.int s9,.int s10,.int s11,.int s12,.int s13,.rows s14,.int s15,.rows s16,.rows s17,.bool s18,.rows s19,.bool s20,.int s21,.int s22,.int s23,.rows s24,.int s25,.int s26,.int s27,.int d0,.int d1,.int d2,.int d3,.int d4,.bool d5,.int d6,.int d7,.int d8,.int d9,.bool d10,.int d11]=some (AX (Ra (⟨r0,r1,r2,r3,r4,r5,r6,r7,r8,r9,r10,r11,r12,r13⟩:Rul) (⟨s0,s1,s2,s3,s4,s5,s6,s7,s8,s9,s10,s11,s12,s13,s14,s15,s16,s17,s18,s19,s20,s21,s22,s23,s24,s25,s26,s27⟩:Inn) (⟨d0,d1,d2,d3,d4,d5,d6,d7,d8,d9,d10,d11⟩:Del))):=by
 show Jy (std (Bg N) N) (xOf _)=_
 generalize hres:(some (AX (Ra (⟨r0,r1,r2,r3,r4,r5,r6,r7,r8,r9,r10,r11,r12,r13⟩:Rul) (⟨s0,s1,s2,s3,s4,s5,s6,s7,s8,s9,s10,s11,s12,s13,s14,s15,s16,s17,s18,s19,s20,s21,s22,s23,s24,s25,s26,s27⟩:Inn) (⟨d0,d1,d2,d3,d4,d5,d6,d7,d8,d9,d10,d11⟩:Del))):Option (List PV))=RR
 have l1:=de (⟨s0,s1,s2,s3,s4,s5,s6,s7,s8,s9,s10,s11,s12,s13,s14,s15,s16,s17,s18,s19,s20,s21,s22,s23,s24,s25,s26,s27⟩:Inn) (⟨d0,d1,d2,d3,d4,d5,d6,d7,d8,d9,d10,d11⟩:Del)
 have f1:=KY l1 h (by simp only;omega)
 have w1:(CR (⟨s0,s1,s2,s3,s4,s5,s6,s7,s8,s9,s10,s11,s12,s13,s14,s15,s16,s17,s18,s19,s20,s21,s22,s23,s24,s25,s26,s27⟩:Inn) (⟨d0,d1,d2,d3,d4,d5,d6,d7,d8,d9,d10,d11⟩:Del)).bowlers.length=s16.length:=congrArg List.length (lZ _ _)
 have w2:(CR (⟨s0,s1,s2,s3,s4,s5,s6,s7,s8,s9,s10,s11,s12,s13,s14,s15,s16,s17,s18,s19,s20,s21,s22,s23,s24,s25,s26,s27⟩:Inn) (⟨d0,d1,d2,d3,d4,d5,d6,d7,d8,d9,d10,d11⟩:Del)).before.length=s17.length:=congrArg List.length (lW _ _)
 have l2:=fun (x:Rul) (c:Bool) (a b e f g:Int)=>aY x (X2 (CR (⟨s0,s1,s2,s3,s4,s5,s6,s7,s8,s9,s10,s11,s12,s13,s14,s15,s16,s17,s18,s19,s20,s21,s22,s23,s24,s25,s26,s27⟩:Inn) (⟨d0,d1,d2,d3,d4,d5,d6,d7,d8,d9,d10,d11⟩:Del)) a b e f g) c
 have f2:=fun (x:Rul) (c:Bool) (a b e f g:Int)=>KY (l2 x c a b e f g) f1 (show (CR (⟨s0,s1,s2,s3,s4,s5,s6,s7,s8,s9,s10,s11,s12,s13,s14,s15,s16,s17,s18,s19,s20,s21,s22,s23,s24,s25,s26,s27⟩:Inn) (⟨d0,d1,d2,d3,d4,d5,d6,d7,d8,d9,d10,d11⟩:Del)).before.length+(CR (⟨s0,s1,s2,s3,s4,s5,s6,s7,s8,s9,s10,s11,s12,s13,s14,s15,s16,s17,s18,s19,s20,s21,s22,s23,s24,s25,s26,s27⟩:Inn) (⟨d0,d1,d2,d3,d4,d5,d6,d7,d8,d9,d10,d11⟩:Del)).bowlers.length≤1048575 by omega)
 simp only [Jy,Oq,Nm,Mh,Rn,OJ,Rs,O6,std,xOf,PXb,PXc,PXn,PXm,Nat.reduceAdd,Int.reduceBEq,be h hN h13,Bz h,bZ,mH h,eM,Cre.ls,mZ f1 (show (CR (⟨s0,s1,s2,s3,s4,s5,s6,s7,s8,s9,s10,s11,s12,s13,s14,s15,s16,s17,s18,s19,s20,s21,s22,s23,s24,s25,s26,s27⟩:Inn) (⟨d0,d1,d2,d3,d4,d5,d6,d7,d8,d9,d10,d11⟩:Del)).bowlers.length≤1048575 by omega) hN hs,i9,fT (f2 _ _ _ _ _ _ _)]
 subst hres;simp only [Ra,X2]
 cases Oh (⟨r0,r1,r2,r3,r4,r5,r6,r7,r8,r9,r10,r11,r12,r13⟩:Rul) (⟨s0,s1,s2,s3,s4,s5,s6,s7,s8,s9,s10,s11,s12,s13,s14,s15,s16,s17,s18,s19,s20,s21,s22,s23,s24,s25,s26,s27⟩:Inn) (⟨d0,d1,d2,d3,d4,d5,d6,d7,d8,d9,d10,d11⟩:Del)==0 with
 | false=>rfl
 | true =>
  obtain ⟨o,ho⟩:∃ o,o=DG (⟨r0,r1,r2,r3,r4,r5,r6,r7,r8,r9,r10,r11,r12,r13⟩:Rul) (X2 (CR (⟨s0,s1,s2,s3,s4,s5,s6,s7,s8,s9,s10,s11,s12,s13,s14,s15,s16,s17,s18,s19,s20,s21,s22,s23,s24,s25,s26,s27⟩:Inn) (⟨d0,d1,d2,d3,d4,d5,d6,d7,d8,d9,d10,d11⟩:Del)) (IntKind.i64.wrap ((CR (⟨s0,s1,s2,s3,s4,s5,s6,s7,s8,s9,s10,s11,s12,s13,s14,s15,s16,s17,s18,s19,s20,s21,s22,s23,s24,s25,s26,s27⟩:Inn) (⟨d0,d1,d2,d3,d4,d5,d6,d7,d8,d9,d10,d11⟩:Del)).runs+fE (Co (⟨r0,r1,r2,r3,r4,r5,r6,r7,r8,r9,r10,r11,r12,r13⟩:Rul) (⟨d0,d1,d2,d3,d4,d5,d6,d7,d8,d9,d10,d11⟩:Del)))) (IntKind.i64.wrap ((CR (⟨s0,s1,s2,s3,s4,s5,s6,s7,s8,s9,s10,s11,s12,s13,s14,s15,s16,s17,s18,s19,s20,s21,s22,s23,s24,s25,s26,s27⟩:Inn) (⟨d0,d1,d2,d3,d4,d5,d6,d7,d8,d9,d10,d11⟩:Del)).wides+(Co (⟨r0,r1,r2,r3,r4,r5,r6,r7,r8,r9,r10,r11,r12,r13⟩:Rul) (⟨d0,d1,d2,d3,d4,d5,d6,d7,d8,d9,d10,d11⟩:Del)).wides)) (IntKind.i64.wrap ((CR (⟨s0,s1,s2,s3,s4,s5,s6,s7,s8,s9,s10,s11,s12,s13,s14,s15,s16,s17,s18,s19,s20,s21,s22,s23,s24,s25,s26,s27⟩:Inn) (⟨d0,d1,d2,d3,d4,d5,d6,d7,d8,d9,d10,d11⟩:Del)).noballs+(Co (⟨r0,r1,r2,r3,r4,r5,r6,r7,r8,r9,r10,r11,r12,r13⟩:Rul) (⟨d0,d1,d2,d3,d4,d5,d6,d7,d8,d9,d10,d11⟩:Del)).noballs)) (IntKind.i64.wrap ((CR (⟨s0,s1,s2,s3,s4,s5,s6,s7,s8,s9,s10,s11,s12,s13,s14,s15,s16,s17,s18,s19,s20,s21,s22,s23,s24,s25,s26,s27⟩:Inn) (⟨d0,d1,d2,d3,d4,d5,d6,d7,d8,d9,d10,d11⟩:Del)).byes+(Co (⟨r0,r1,r2,r3,r4,r5,r6,r7,r8,r9,r10,r11,r12,r13⟩:Rul) (⟨d0,d1,d2,d3,d4,d5,d6,d7,d8,d9,d10,d11⟩:Del)).byes)) (IntKind.i64.wrap ((CR (⟨s0,s1,s2,s3,s4,s5,s6,s7,s8,s9,s10,s11,s12,s13,s14,s15,s16,s17,s18,s19,s20,s21,s22,s23,s24,s25,s26,s27⟩:Inn) (⟨d0,d1,d2,d3,d4,d5,d6,d7,d8,d9,d10,d11⟩:Del)).legbyes+(Co (⟨r0,r1,r2,r3,r4,r5,r6,r7,r8,r9,r10,r11,r12,r13⟩:Rul) (⟨d0,d1,d2,d3,d4,d5,d6,d7,d8,d9,d10,d11⟩:Del)).legbyes))) (Co (⟨r0,r1,r2,r3,r4,r5,r6,r7,r8,r9,r10,r11,r12,r13⟩:Rul) (⟨d0,d1,d2,d3,d4,d5,d6,d7,d8,d9,d10,d11⟩:Del)).counts:=⟨_,rfl⟩
  simp only [X2,fE] at ho ⊢
  simp only [← ho]
  obtain ⟨o1,o2⟩:=o
  cases o2<;>cases d0==1<;>cases d0==3<;>cases r8<;>rfl
theorem nY (r:Rul) (s:Inn) (b:Bool) (a c d e f:Int):DG r (X2 s a c d e f) b=(X2 (DG r s b).1 a c d e f,(DG r s b).2):=by
 unfold DG X2
 simp only
 cases (!inR s.bowler s.bowled.length || !(BS r==0)) with
 | true=>rfl
 | false =>
  simp only [cond_false]
  cases iLt (cond b (inc s.inover) s.inover) r.balls<;>rfl
theorem rZ (r:Rul) (s:Inn) (b:Bool):(DG r s b).1.runs=s.runs∧(DG r s b).1.wides=s.wides∧(DG r s b).1.noballs=s.noballs∧(DG r s b).1.byes=s.byes∧(DG r s b).1.legbyes=s.legbyes:=by
  unfold DG
  exact P_c (P:=fun x:Inn×Bool=>x.1.runs=s.runs∧x.1.wides=s.wides∧x.1.noballs=s.noballs∧x.1.byes=s.byes∧x.1.legbyes=s.legbyes) _ _ _ ⟨rfl,rfl,rfl,rfl,rfl⟩
    (P_c (P:=fun x:Inn×Bool=>x.1.runs=s.runs∧x.1.wides=s.wides∧x.1.noballs=s.noballs∧x.1.byes=s.byes∧x.1.legbyes=s.legbyes) _ _ _ ⟨rfl,rfl,rfl,rfl,rfl⟩ ⟨rfl,rfl,rfl,rfl,rfl⟩)
theorem pQ {N:Nat} {r1 r2 r3 r4 r5 r6 r7 r9 r10 r11 r12:Int} {r8:Bool} {r0:ByteArray} {r13:Rows} {s0 s1 s2 s3 s4 s5 s6 s7 s8 s9 s10 s11 s12 s13 s15 s21 s22 s23 s25 s26 s27:Int} {s18 s20:Bool} {s14 s16 s17 s19 s24:Rows} {d0 d1 d2 d3 d4 d6 d7 d8 d9 d11:Int} {d5 d10:Bool} (h:Fit s14 s16 s17 s19 s24) (hw:s17.length+s16.length≤1000000) (hN:2097152<N) (hs:r0.size≤1048576) (h13:r13.length≤1048576):NG N [.str r0,.int r1,.int r2,.int r3,.int r4,.int r5,.int r6,.int r7,.bool r8,.int r9,.int r10,.int r11,.int r12,.rows r13,.int s0,.int s1,.int s2,.int s3,.int s4,.int s5,.int s6,.int s7,.int s8,.int s9,.int s10,.int s11,.int s12,.int s13,.rows s14,.int s15,.rows s16,.rows s17,.bool s18,.rows s19,.bool s20,.int s21,.int s22,.int s23,.rows s24,.int s25,.int s26,.int s27,.int d0,.int d1,.int d2,.int d3,.int d4,.bool d5,.int d6,.int d7,.int d8,.int d9,.bool d10,.int d11]=some (AX (Ra (⟨r0,r1,r2,r3,r4,r5,r6,r7,r8,r9,r10,r11,r12,r13⟩:Rul) (⟨s0,s1,s2,s3,s4,s5,s6,s7,s8,s9,s10,s11,s12,s13,s14,s15,s16,s17,s18,s19,s20,s21,s22,s23,s24,s25,s26,s27⟩:Inn) (⟨d0,d1,d2,d3,d4,d5,d6,d7,d8,d9,d10,d11⟩:Del))):=by
 show Ml (std (BE N) N) (xOf _)=_
 generalize hres:(some (AX (Ra (⟨r0,r1,r2,r3,r4,r5,r6,r7,r8,r9,r10,r11,r12,r13⟩:Rul) (⟨s0,s1,s2,s3,s4,s5,s6,s7,s8,s9,s10,s11,s12,s13,s14,s15,s16,s17,s18,s19,s20,s21,s22,s23,s24,s25,s26,s27⟩:Inn) (⟨d0,d1,d2,d3,d4,d5,d6,d7,d8,d9,d10,d11⟩:Del))):Option (List PV))=RR
 have l1:=de (⟨s0,s1,s2,s3,s4,s5,s6,s7,s8,s9,s10,s11,s12,s13,s14,s15,s16,s17,s18,s19,s20,s21,s22,s23,s24,s25,s26,s27⟩:Inn) (⟨d0,d1,d2,d3,d4,d5,d6,d7,d8,d9,d10,d11⟩:Del)
 have f1:=KY l1 h (by simp only;omega)
 have w1:(CR (⟨s0,s1,s2,s3,s4,s5,s6,s7,s8,s9,s10,s11,s12,s13,s14,s15,s16,s17,s18,s19,s20,s21,s22,s23,s24,s25,s26,s27⟩:Inn) (⟨d0,d1,d2,d3,d4,d5,d6,d7,d8,d9,d10,d11⟩:Del)).bowlers.length=s16.length:=congrArg List.length (lZ _ _)
 have w2:(CR (⟨s0,s1,s2,s3,s4,s5,s6,s7,s8,s9,s10,s11,s12,s13,s14,s15,s16,s17,s18,s19,s20,s21,s22,s23,s24,s25,s26,s27⟩:Inn) (⟨d0,d1,d2,d3,d4,d5,d6,d7,d8,d9,d10,d11⟩:Del)).before.length=s17.length:=congrArg List.length (lW _ _)
 have l2:=fun (x:Rul) (c:Bool)=>aY x (CR (⟨s0,s1,s2,s3,s4,s5,s6,s7,s8,s9,s10,s11,s12,s13,s14,s15,s16,s17,s18,s19,s20,s21,s22,s23,s24,s25,s26,s27⟩:Inn) (⟨d0,d1,d2,d3,d4,d5,d6,d7,d8,d9,d10,d11⟩:Del)) c
 have f2:=fun (x:Rul) (c:Bool)=>KY (l2 x c) f1 (show (CR (⟨s0,s1,s2,s3,s4,s5,s6,s7,s8,s9,s10,s11,s12,s13,s14,s15,s16,s17,s18,s19,s20,s21,s22,s23,s24,s25,s26,s27⟩:Inn) (⟨d0,d1,d2,d3,d4,d5,d6,d7,d8,d9,d10,d11⟩:Del)).before.length+(CR (⟨s0,s1,s2,s3,s4,s5,s6,s7,s8,s9,s10,s11,s12,s13,s14,s15,s16,s17,s18,s19,s20,s21,s22,s23,s24,s25,s26,s27⟩:Inn) (⟨d0,d1,d2,d3,d4,d5,d6,d7,d8,d9,d10,d11⟩:Del)).bowlers.length≤1048575 by omega)
 simp only [Ml,XH,Th,WD,W1,XI,V4,aW,Y0,WU,Xi,std,xOf,PXb,PXc,PXn,PXm,Nat.reduceAdd,Int.reduceBEq,aO h.bt hN,oT h hN h13,cw,iE,oz h,nI,rR h,oJ,Cre.ls,qY f1 (show (CR (⟨s0,s1,s2,s3,s4,s5,s6,s7,s8,s9,s10,s11,s12,s13,s14,s15,s16,s17,s18,s19,s20,s21,s22,s23,s24,s25,s26,s27⟩:Inn) (⟨d0,d1,d2,d3,d4,d5,d6,d7,d8,d9,d10,d11⟩:Del)).bowlers.length≤1048575 by omega) hN hs,i9,aK (f2 _ _)]
 subst hres;simp only [Ra,Oh,nB,nY]
 cases Er s14 s12 s13<;>try rfl
 cases s15==0<;>try rfl
 cases h1:OH (⟨r0,r1,r2,r3,r4,r5,r6,r7,r8,r9,r10,r11,r12,r13⟩:Rul) (⟨s0,s1,s2,s3,s4,s5,s6,s7,s8,s9,s10,s11,s12,s13,s14,s15,s16,s17,s18,s19,s20,s21,s22,s23,s24,s25,s26,s27⟩:Inn)==0<;>(try (simp only [h1,PXb,PXc,PXn,PXm,Nat.reduceAdd,Int.reduceBEq];done))
 cases h2:Fy (⟨d0,d1,d2,d3,d4,d5,d6,d7,d8,d9,d10,d11⟩:Del)==0<;>(try (simp only [h2,PXb,PXc,PXn,PXm,Nat.reduceAdd,Int.reduceBEq];done))
 cases h3:SC (⟨d0,d1,d2,d3,d4,d5,d6,d7,d8,d9,d10,d11⟩:Del) s20==0<;>(try (simp only [h3,PXb,PXc,PXn,PXm,Nat.reduceAdd,Int.reduceBEq];done))
 cases h4:OA (⟨s0,s1,s2,s3,s4,s5,s6,s7,s8,s9,s10,s11,s12,s13,s14,s15,s16,s17,s18,s19,s20,s21,s22,s23,s24,s25,s26,s27⟩:Inn) (⟨d0,d1,d2,d3,d4,d5,d6,d7,d8,d9,d10,d11⟩:Del)==0<;>(try (simp only [h4,PXb,PXc,PXn,PXm,Nat.reduceAdd,Int.reduceBEq];done))
 have k:=rZ (⟨r0,r1,r2,r3,r4,r5,r6,r7,r8,r9,r10,r11,r12,r13⟩:Rul) (CR (⟨s0,s1,s2,s3,s4,s5,s6,s7,s8,s9,s10,s11,s12,s13,s14,s15,s16,s17,s18,s19,s20,s21,s22,s23,s24,s25,s26,s27⟩:Inn) (⟨d0,d1,d2,d3,d4,d5,d6,d7,d8,d9,d10,d11⟩:Del)) (Co (⟨r0,r1,r2,r3,r4,r5,r6,r7,r8,r9,r10,r11,r12,r13⟩:Rul) (⟨d0,d1,d2,d3,d4,d5,d6,d7,d8,d9,d10,d11⟩:Del)).counts
 obtain ⟨o,ho⟩:∃ o,o=DG (⟨r0,r1,r2,r3,r4,r5,r6,r7,r8,r9,r10,r11,r12,r13⟩:Rul) (CR (⟨s0,s1,s2,s3,s4,s5,s6,s7,s8,s9,s10,s11,s12,s13,s14,s15,s16,s17,s18,s19,s20,s21,s22,s23,s24,s25,s26,s27⟩:Inn) (⟨d0,d1,d2,d3,d4,d5,d6,d7,d8,d9,d10,d11⟩:Del)) (Co (⟨r0,r1,r2,r3,r4,r5,r6,r7,r8,r9,r10,r11,r12,r13⟩:Rul) (⟨d0,d1,d2,d3,d4,d5,d6,d7,d8,d9,d10,d11⟩:Del)).counts:=⟨_,rfl⟩
 simp only [← ho,X2,fE] at k ⊢
 obtain ⟨o1,o2⟩:=o
 obtain ⟨k1,k2,k3,k4,k5⟩:=k
 simp only at k1 k2 k3 k4 k5
 simp only [← k1,← k2,← k3,← k4,← k5]
 cases o2<;>cases d0==1<;>cases d0==3<;>cases r8<;>rfl
def Lq (r:Rul) (s:Inn) (side:Int):Inn×Int:=cond (!(side==s.side)) (s,2) (cond (!(r.overs==0)) (s,20) ({ s with ending:=4 },0))
theorem b9 {N:Nat} {r1 r2 r3 r4 r5 r6 r7 r9 r10 r11 r12:Int} {r8:Bool} {r0:ByteArray} {r13:Rows} {s0 s1 s2 s3 s4 s5 s6 s7 s8 s9 s10 s11 s12 s13 s15 s21 s22 s23 s25 s26 s27:Int} {s18 s20:Bool} {s14 s16 s17 s19 s24:Rows} {e0 e1 e2 e3 e5 e6 e7 e8 e9 e10 e11 e13 e14 e15 e16 e18:Int} {e4 e12 e17:Bool} (h:Fit s14 s16 s17 s19 s24):D6 N [.str r0,.int r1,.int r2,.int r3,.int r4,.int r5,.int r6,.int r7,.bool r8,.int r9,.int r10,.int r11,.int r12,.rows r13,.int s0,.int s1,.int s2,.int s3,.int s4,.int s5,.int s6,.int s7,.int s8,.int s9,.int s10,.int s11,.int s12,.int s13,.rows s14,.int s15,.rows s16,.rows s17,.bool s18,.rows s19,.bool s20,.int s21,.int s22,.int s23,.rows s24,.int s25,.int s26,.int s27,.int e0,.int e1,.int e2,.int e3,.bool e4,.int e5,.int e6,.int e7,.int e8,.int e9,.int e10,.int e11,.bool e12,.int e13,.int e14,.int e15,.int e16,.bool e17,.int e18]=some (AX (Lq (⟨r0,r1,r2,r3,r4,r5,r6,r7,r8,r9,r10,r11,r12,r13⟩:Rul) (⟨s0,s1,s2,s3,s4,s5,s6,s7,s8,s9,s10,s11,s12,s13,s14,s15,s16,s17,s18,s19,s20,s21,s22,s23,s24,s25,s26,s27⟩:Inn) e1)):=by
 show GF (std (Ie N) N) (xOf _)=_
 generalize hres:(some (AX (Lq (⟨r0,r1,r2,r3,r4,r5,r6,r7,r8,r9,r10,r11,r12,r13⟩:Rul) (⟨s0,s1,s2,s3,s4,s5,s6,s7,s8,s9,s10,s11,s12,s13,s14,s15,s16,s17,s18,s19,s20,s21,s22,s23,s24,s25,s26,s27⟩:Inn) e1)):Option (List PV))=RR
 simp only [GF,MY,std,xOf,PXb,PXc,PXn,PXm,Nat.reduceAdd,Int.reduceBEq,Bz h]
 subst hres;simp only [Lq]
 cases e1==s0<;>cases r3==0<;>rfl
def N0 (s:Inn):Inn:={ s with runs:=IntKind.i64.wrap (s.runs+5),pens:=IntKind.i64.wrap (s.pens+5) }
theorem RP {N:Nat} {s0 s1 s2 s3 s4 s5 s6 s7 s8 s9 s10 s11 s12 s13 s15 s21 s22 s23 s25 s26 s27:Int} {s18 s20:Bool} {s14 s16 s17 s19 s24:Rows} (h:Fit s14 s16 s17 s19 s24):Bv N [.int s0,.int s1,.int s2,.int s3,.int s4,.int s5,.int s6,.int s7,.int s8,.int s9,.int s10,.int s11,.int s12,.int s13,.rows s14,.int s15,.rows s16,.rows s17,.bool s18,.rows s19,.bool s20,.int s21,.int s22,.int s23,.rows s24,.int s25,.int s26,.int s27]=some (N0 (⟨s0,s1,s2,s3,s4,s5,s6,s7,s8,s9,s10,s11,s12,s13,s14,s15,s16,s17,s18,s19,s20,s21,s22,s23,s24,s25,s26,s27⟩:Inn)).ls:=by
 show GO (std (Id N) N) (xOf _)=_
 generalize hres:(some (N0 (⟨s0,s1,s2,s3,s4,s5,s6,s7,s8,s9,s10,s11,s12,s13,s14,s15,s16,s17,s18,s19,s20,s21,s22,s23,s24,s25,s26,s27⟩:Inn)).ls:Option (List PV))=RR
 simp only [GO,MW,std,xOf,PXb,PXc,PXn,PXm,Nat.reduceAdd,Int.reduceBEq,Bz h]
 subst hres;simp only [N0]
 rfl
theorem YR {N:Nat} {s0 s1 s2 s3 s4 s5 s6 s7 s8 s9 s10 s11 s12 s13 s15 s21 s22 s23 s25 s26 s27:Int} {s18 s20:Bool} {s14 s16 s17 s19 s24:Rows} (h:Fit s14 s16 s17 s19 s24):FK N [.int s0,.int s1,.int s2,.int s3,.int s4,.int s5,.int s6,.int s7,.int s8,.int s9,.int s10,.int s11,.int s12,.int s13,.rows s14,.int s15,.rows s16,.rows s17,.bool s18,.rows s19,.bool s20,.int s21,.int s22,.int s23,.rows s24,.int s25,.int s26,.int s27]=some (N0 (⟨s0,s1,s2,s3,s4,s5,s6,s7,s8,s9,s10,s11,s12,s13,s14,s15,s16,s17,s18,s19,s20,s21,s22,s23,s24,s25,s26,s27⟩:Inn)).ls:=by
 show LP (std (M3 N) N) (xOf _)=_
 generalize hres:(some (N0 (⟨s0,s1,s2,s3,s4,s5,s6,s7,s8,s9,s10,s11,s12,s13,s14,s15,s16,s17,s18,s19,s20,s21,s22,s23,s24,s25,s26,s27⟩:Inn)).ls:Option (List PV))=RR
 simp only [LP,Tm,std,xOf,PXb,PXc,PXn,PXm,Nat.reduceAdd,Int.reduceBEq,Vm h]
 subst hres;simp only [N0]
 rfl
def Hq (s:Inn) (side runs:Int):Inn×Int :=
 cond (!(runs==5)) (s,23) (cond (side==s.side) (N0 s,0) ({ s with target:=cond (iLt 0 s.target) (IntKind.i64.wrap (s.target+5)) s.target },0))
theorem bz {N:Nat} {s0 s1 s2 s3 s4 s5 s6 s7 s8 s9 s10 s11 s12 s13 s15 s21 s22 s23 s25 s26 s27:Int} {s18 s20:Bool} {s14 s16 s17 s19 s24:Rows} {e0 e1 e2 e3 e5 e6 e7 e8 e9 e10 e11 e13 e14 e15 e16 e18:Int} {e4 e12 e17:Bool} (h:Fit s14 s16 s17 s19 s24):D5 N [.int s0,.int s1,.int s2,.int s3,.int s4,.int s5,.int s6,.int s7,.int s8,.int s9,.int s10,.int s11,.int s12,.int s13,.rows s14,.int s15,.rows s16,.rows s17,.bool s18,.rows s19,.bool s20,.int s21,.int s22,.int s23,.rows s24,.int s25,.int s26,.int s27,.int e0,.int e1,.int e2,.int e3,.bool e4,.int e5,.int e6,.int e7,.int e8,.int e9,.int e10,.int e11,.bool e12,.int e13,.int e14,.int e15,.int e16,.bool e17,.int e18]=some (AX (Hq (⟨s0,s1,s2,s3,s4,s5,s6,s7,s8,s9,s10,s11,s12,s13,s14,s15,s16,s17,s18,s19,s20,s21,s22,s23,s24,s25,s26,s27⟩:Inn) e1 e5)):=by
 show GK (std (E3 N) N) (xOf _)=_
 generalize hres:(some (AX (Hq (⟨s0,s1,s2,s3,s4,s5,s6,s7,s8,s9,s10,s11,s12,s13,s14,s15,s16,s17,s18,s19,s20,s21,s22,s23,s24,s25,s26,s27⟩:Inn) e1 e5)):Option (List PV))=RR
 simp only [GK,MU,K6,std,xOf,PXb,PXc,PXn,PXm,Nat.reduceAdd,Int.reduceBEq,Bz h,RP h]
 subst hres;simp only [Hq]
 cases e5==5<;>cases e1==s0<;>cases iLt 0 s1<;>rfl
def GU (r:Rul) (s:Inn) (side:Int) (yes:Bool):Inn×Int :=
 cond (!s.fresh||iLe r.reviews (cond (side==2) s.rev2 s.rev1)) (s,24) (cond (!yes) ({ s with rev1:=cond (side==1) (inc s.rev1) s.rev1,rev2:=cond (side==2) (inc s.rev2) s.rev2 },0) (s,0))
theorem wr1:IntKind.i64.wrap (1 - 1)=0:=rfl
theorem wr2:IntKind.i64.wrap (2 - 1)=1:=rfl
theorem U3:iIn 0 2=true:=rfl
theorem U6:iIn 1 2=true:=rfl
theorem eB {N:Nat} {r1 r2 r3 r4 r5 r6 r7 r9 r10 r11 r12:Int} {r8:Bool} {r0:ByteArray} {r13:Rows} {s0 s1 s2 s3 s4 s5 s6 s7 s8 s9 s10 s11 s12 s13 s15 s21 s22 s23 s25 s26 s27:Int} {s18 s20:Bool} {s14 s16 s17 s19 s24:Rows} {e0 e1 e2 e3 e5 e6 e7 e8 e9 e10 e11 e13 e14 e15 e16 e18:Int} {e4 e12 e17:Bool} (h:Fit s14 s16 s17 s19 s24) (he:e1=1∨e1=2):Eb N [.str r0,.int r1,.int r2,.int r3,.int r4,.int r5,.int r6,.int r7,.bool r8,.int r9,.int r10,.int r11,.int r12,.rows r13,.int s0,.int s1,.int s2,.int s3,.int s4,.int s5,.int s6,.int s7,.int s8,.int s9,.int s10,.int s11,.int s12,.int s13,.rows s14,.int s15,.rows s16,.rows s17,.bool s18,.rows s19,.bool s20,.int s21,.int s22,.int s23,.rows s24,.int s25,.int s26,.int s27,.int e0,.int e1,.int e2,.int e3,.bool e4,.int e5,.int e6,.int e7,.int e8,.int e9,.int e10,.int e11,.bool e12,.int e13,.int e14,.int e15,.int e16,.bool e17,.int e18]=some (AX (GU (⟨r0,r1,r2,r3,r4,r5,r6,r7,r8,r9,r10,r11,r12,r13⟩:Rul) (⟨s0,s1,s2,s3,s4,s5,s6,s7,s8,s9,s10,s11,s12,s13,s14,s15,s16,s17,s18,s19,s20,s21,s22,s23,s24,s25,s26,s27⟩:Inn) e1 e4)):=by
 show Ec (std (JK N) N) (xOf _)=_
 generalize hres:(some (AX (GU (⟨r0,r1,r2,r3,r4,r5,r6,r7,r8,r9,r10,r11,r12,r13⟩:Rul) (⟨s0,s1,s2,s3,s4,s5,s6,s7,s8,s9,s10,s11,s12,s13,s14,s15,s16,s17,s18,s19,s20,s21,s22,s23,s24,s25,s26,s27⟩:Inn) e1 e4)):Option (List PV))=RR
 rcases he with he | he<;>subst he
 ·simp only [Ec,FQ,std,xOf,PXb,PXc,PXn,PXm,Nat.reduceAdd,Int.reduceBEq,Bz h,wr1,wr2,U3,U6]
  subst hres;simp only [GU,Int.reduceBEq,beq_self_eq_true,cond_true,cond_false]
  cases s18<;>cases e4<;>first | rfl | (cases iLe r11 s25<;>rfl)
 ·simp only [Ec,FQ,std,xOf,PXb,PXc,PXn,PXm,Nat.reduceAdd,Int.reduceBEq,Bz h,wr1,wr2,U3,U6]
  subst hres;simp only [GU,Int.reduceBEq,beq_self_eq_true,cond_true,cond_false]
  cases s18<;>cases e4<;>first | rfl | (cases iLe r11 s26<;>rfl)
theorem mF {N:Nat} {r1 r2 r3 r4 r5 r6 r7 r9 r10 r11 r12:Int} {r8:Bool} {r0:ByteArray} {r13:Rows} {s0 s1 s2 s3 s4 s5 s6 s7 s8 s9 s10 s11 s12 s13 s15 s21 s22 s23 s25 s26 s27:Int} {s18 s20:Bool} {s14 s16 s17 s19 s24:Rows} {n:Int} {b:Bool} (he:n=1∨n=2):JU N [.str r0,.int r1,.int r2,.int r3,.int r4,.int r5,.int r6,.int r7,.bool r8,.int r9,.int r10,.int r11,.int r12,.rows r13,.int s0,.int s1,.int s2,.int s3,.int s4,.int s5,.int s6,.int s7,.int s8,.int s9,.int s10,.int s11,.int s12,.int s13,.rows s14,.int s15,.rows s16,.rows s17,.bool s18,.rows s19,.bool s20,.int s21,.int s22,.int s23,.rows s24,.int s25,.int s26,.int s27,.int n,.bool b]=some (AX (GU (⟨r0,r1,r2,r3,r4,r5,r6,r7,r8,r9,r10,r11,r12,r13⟩:Rul) (⟨s0,s1,s2,s3,s4,s5,s6,s7,s8,s9,s10,s11,s12,s13,s14,s15,s16,s17,s18,s19,s20,s21,s22,s23,s24,s25,s26,s27⟩:Inn) n b)):=by
 show G2 (std (Ga N) N) (xOf _)=_
 generalize hres:(some (AX (GU (⟨r0,r1,r2,r3,r4,r5,r6,r7,r8,r9,r10,r11,r12,r13⟩:Rul) (⟨s0,s1,s2,s3,s4,s5,s6,s7,s8,s9,s10,s11,s12,s13,s14,s15,s16,s17,s18,s19,s20,s21,s22,s23,s24,s25,s26,s27⟩:Inn) n b)):Option (List PV))=RR
 rcases he with he | he<;>subst he
 ·simp only [G2,std,xOf,PXb,PXc,PXn,PXm,Nat.reduceAdd,Int.reduceBEq,wr1,wr2,U3,U6]
  subst hres;simp only [GU,Int.reduceBEq,beq_self_eq_true,cond_true,cond_false]
  cases s18<;>cases b<;>first | rfl | (cases iLe r11 s25<;>rfl)
 ·simp only [G2,std,xOf,PXb,PXc,PXn,PXm,Nat.reduceAdd,Int.reduceBEq,wr1,wr2,U3,U6]
  subst hres;simp only [GU,Int.reduceBEq,beq_self_eq_true,cond_true,cond_false]
  cases s18<;>cases b<;>first | rfl | (cases iLe r11 s26<;>rfl)
theorem gZ {N:Nat} {r1 r2 r3 r4 r5 r6 r7 r9 r10 r11 r12:Int} {r8:Bool} {r0:ByteArray} {r13:Rows} {s0 s1 s2 s3 s4 s5 s6 s7 s8 s9 s10 s11 s12 s13 s15 s21 s22 s23 s25 s26 s27:Int} {s18 s20:Bool} {s14 s16 s17 s19 s24:Rows}  : Fu N [.str r0,.int r1,.int r2,.int r3,.int r4,.int r5,.int r6,.int r7,.bool r8,.int r9,.int r10,.int r11,.int r12,.rows r13,.int s0,.int s1,.int s2,.int s3,.int s4,.int s5,.int s6,.int s7,.int s8,.int s9,.int s10,.int s11,.int s12,.int s13,.rows s14,.int s15,.rows s16,.rows s17,.bool s18,.rows s19,.bool s20,.int s21,.int s22,.int s23,.rows s24,.int s25,.int s26,.int s27]=some [.int (Z0 r4 s10 s11)]:=by
 rfl
theorem ny {N:Nat} {r1 r2 r3 r4 r5 r6 r7 r9 r10 r11 r12:Int} {r8:Bool} {r0:ByteArray} {r13:Rows} {s0 s1 s2 s3 s4 s5 s6 s7 s8 s9 s10 s11 s12 s13 s15 s21 s22 s23 s25 s26 s27:Int} {s18 s20:Bool} {s14 s16 s17 s19 s24:Rows}  : Pu N [.str r0,.int r1,.int r2,.int r3,.int r4,.int r5,.int r6,.int r7,.bool r8,.int r9,.int r10,.int r11,.int r12,.rows r13,.int s0,.int s1,.int s2,.int s3,.int s4,.int s5,.int s6,.int s7,.int s8,.int s9,.int s10,.int s11,.int s12,.int s13,.rows s14,.int s15,.rows s16,.rows s17,.bool s18,.rows s19,.bool s20,.int s21,.int s22,.int s23,.rows s24,.int s25,.int s26,.int s27]=some [.int (Z0 r4 s10 s11)]:=by
 rfl
def Jr (r:Rul) (s:Inn) (runs overs:Int):Inn×Int :=
  cond (r.overs==0||(runs==0&&overs==0)) (s,25) (cond (iLt 0 runs&&(s.target==0||iLe runs s.runs)) (s,25)
    (cond (iLt 0 overs&&(iLt r.overs overs||iLt (IntKind.i64.wrap (overs * r.balls)) (Z0 r.balls s.complete s.inover))) (s,25)
      ({ s with target:=cond (iLt 0 runs) runs s.target,overs:=cond (iLt 0 overs) overs s.overs },0)))
theorem ek {N:Nat} {r1 r2 r3 r4 r5 r6 r7 r9 r10 r11 r12:Int} {r8:Bool} {r0:ByteArray} {r13:Rows} {s0 s1 s2 s3 s4 s5 s6 s7 s8 s9 s10 s11 s12 s13 s15 s21 s22 s23 s25 s26 s27:Int} {s18 s20:Bool} {s14 s16 s17 s19 s24:Rows} {e0 e1 e2 e3 e5 e6 e7 e8 e9 e10 e11 e13 e14 e15 e16 e18:Int} {e4 e12 e17:Bool} (h:Fit s14 s16 s17 s19 s24):EX N [.str r0,.int r1,.int r2,.int r3,.int r4,.int r5,.int r6,.int r7,.bool r8,.int r9,.int r10,.int r11,.int r12,.rows r13,.int s0,.int s1,.int s2,.int s3,.int s4,.int s5,.int s6,.int s7,.int s8,.int s9,.int s10,.int s11,.int s12,.int s13,.rows s14,.int s15,.rows s16,.rows s17,.bool s18,.rows s19,.bool s20,.int s21,.int s22,.int s23,.rows s24,.int s25,.int s26,.int s27,.int e0,.int e1,.int e2,.int e3,.bool e4,.int e5,.int e6,.int e7,.int e8,.int e9,.int e10,.int e11,.bool e12,.int e13,.int e14,.int e15,.int e16,.bool e17,.int e18]=some (AX (Jr (⟨r0,r1,r2,r3,r4,r5,r6,r7,r8,r9,r10,r11,r12,r13⟩:Rul) (⟨s0,s1,s2,s3,s4,s5,s6,s7,s8,s9,s10,s11,s12,s13,s14,s15,s16,s17,s18,s19,s20,s21,s22,s23,s24,s25,s26,s27⟩:Inn) e5 e6)):=by
 show Hk (std (Fe N) N) (xOf _)=_
 generalize hres:(some (AX (Jr (⟨r0,r1,r2,r3,r4,r5,r6,r7,r8,r9,r10,r11,r12,r13⟩:Rul) (⟨s0,s1,s2,s3,s4,s5,s6,s7,s8,s9,s10,s11,s12,s13,s14,s15,s16,s17,s18,s19,s20,s21,s22,s23,s24,s25,s26,s27⟩:Inn) e5 e6)):Option (List PV))=RR
 simp only [Hk,NZ,Np,std,xOf,PXb,PXc,PXn,PXm,Nat.reduceAdd,Int.reduceBEq,Bz h,gZ]
 subst hres;simp only [Jr]
 cases (r3==0||e5==0&&e6==0)<;>try rfl
 cases (iLt 0 e5&&(s1==0||iLe e5 s3))<;>try rfl
 cases iLt 0 e6<;>cases iLt r3 e6<;>try rfl
 simp only [PXb,PXc,PXn,PXm,Nat.reduceAdd,Int.reduceBEq]
 cases iLt (IntKind.i64.wrap (e6 * r4)) (Z0 r4 s10 s11)<;>rfl
theorem nQ {N:Nat} {r1 r2 r3 r4 r5 r6 r7 r9 r10 r11 r12:Int} {r8:Bool} {r0:ByteArray} {r13:Rows} {s0 s1 s2 s3 s4 s5 s6 s7 s8 s9 s10 s11 s12 s13 s15 s21 s22 s23 s25 s26 s27:Int} {s18 s20:Bool} {s14 s16 s17 s19 s24:Rows} {n:Int} {m:Int}  : JG N [.str r0,.int r1,.int r2,.int r3,.int r4,.int r5,.int r6,.int r7,.bool r8,.int r9,.int r10,.int r11,.int r12,.rows r13,.int s0,.int s1,.int s2,.int s3,.int s4,.int s5,.int s6,.int s7,.int s8,.int s9,.int s10,.int s11,.int s12,.int s13,.rows s14,.int s15,.rows s16,.rows s17,.bool s18,.rows s19,.bool s20,.int s21,.int s22,.int s23,.rows s24,.int s25,.int s26,.int s27,.int n,.int m]=some (AX (Jr (⟨r0,r1,r2,r3,r4,r5,r6,r7,r8,r9,r10,r11,r12,r13⟩:Rul) (⟨s0,s1,s2,s3,s4,s5,s6,s7,s8,s9,s10,s11,s12,s13,s14,s15,s16,s17,s18,s19,s20,s21,s22,s23,s24,s25,s26,s27⟩:Inn) n m)):=by
 show Je (std (ES N) N) (xOf _)=_
 generalize hres:(some (AX (Jr (⟨r0,r1,r2,r3,r4,r5,r6,r7,r8,r9,r10,r11,r12,r13⟩:Rul) (⟨s0,s1,s2,s3,s4,s5,s6,s7,s8,s9,s10,s11,s12,s13,s14,s15,s16,s17,s18,s19,s20,s21,s22,s23,s24,s25,s26,s27⟩:Inn) n m)):Option (List PV))=RR
 simp only [Je,Va,std,xOf,PXb,PXc,PXn,PXm,Nat.reduceAdd,Int.reduceBEq,ny]
 subst hres;simp only [Jr]
 cases r3==0<;>try rfl
 cases (n==0&&m==0)<;>cases (iLt 0 n&&(s1==0||iLe n s3))<;>cases iLt 0 m<;>cases iLt r3 m<;>try rfl
 all_goals (simp only [PXb,PXc,PXn,PXm,Nat.reduceAdd,Int.reduceBEq]<;>first | rfl | (cases iLt (IntKind.i64.wrap (m * r4)) (Z0 r4 s10 s11)<;>rfl))
end Go.Px
end
section
namespace Go.Px
set_option maxRecDepth 100000
def Bf (r:Rul) (s:Inn) (e:Ev):Inn×Int :=
  cond (e.kind==2) (Re s e.player e.other) (cond (e.kind==3) (R3 r s e.player) (cond (e.kind==4) (Ra r s e.ball)
    (cond (e.kind==5) (cond e.yes (Ho s e.player) (Mm s e.player)) (cond (e.kind==6) (J9 s e.player e.yes) (cond (e.kind==7) (HU s e.runs)
      (cond (e.kind==8) (Jk s e.player) (cond (e.kind==9) (Mu s e.player e.yes) (cond (e.kind==10) (Hm r s) (cond (e.kind==11) (Lq r s e.side)
        (cond (e.kind==13) (Hq s e.side e.runs) (cond (e.kind==14) (GU r s e.side e.yes) (Jr r s e.runs e.overs))))))))))))
theorem bL {e:Ev} (h:(evS e==0)=true):(iLt e.kind 1||iLt 16 e.kind)=false:=by
 unfold evS at h
 cases hk:(iLt e.kind 1||iLt 16 e.kind) with
 | false=>rfl
 | true=>rw [hk] at h;cases h
theorem pC {e:Ev} (h:(evS e==0)=true) (hk:e.kind=14):e.side=1∨e.side=2:=by
 have h0:=bL h
 unfold evS at h
 rw [h0] at h
 cases h1:ZC e with
 | true=>rw [h1] at h;cases h
 | false =>
  cases h2:Vn e with
  | true=>rw [h1,h2] at h;cases h
  | false =>
   unfold Vn at h2
   rw [Bool.or_eq_false_iff] at h2
   have h3:=h2.1
   rw [hk,show uS 14=true from rfl,Bool.and_true] at h3
   simp only [btw,iLe,Bool.not_eq_false',Bool.and_eq_true,decide_eq_true_eq] at h3
   omega
set_option maxHeartbeats 4000000 in
theorem bc {N:Nat} {r1 r2 r3 r4 r5 r6 r7 r9 r10 r11 r12:Int} {r8:Bool} {r0:ByteArray} {r13:Rows} {s0 s1 s2 s3 s4 s5 s6 s7 s8 s9 s10 s11 s12 s13 s15 s21 s22 s23 s25 s26 s27:Int} {s18 s20:Bool} {s14 s16 s17 s19 s24:Rows} {e0 e1 e2 e3 e5 e6 e7 e8 e9 e10 e11 e13 e14 e15 e16 e18:Int} {e4 e12 e17:Bool} (h:Fit s14 s16 s17 s19 s24) (hw:s17.length+s16.length≤1000000) (hN:2097152<N) (hs:r0.size≤1048576) (h13:r13.length≤1048576) (he:(evS (⟨e0,e1,e2,e3,e4,e5,e6,⟨e7,e8,e9,e10,e11,e12,e13,e14,e15,e16,e17,e18⟩⟩:Ev)==0)=true):EB N [.str r0,.int r1,.int r2,.int r3,.int r4,.int r5,.int r6,.int r7,.bool r8,.int r9,.int r10,.int r11,.int r12,.rows r13,.int s0,.int s1,.int s2,.int s3,.int s4,.int s5,.int s6,.int s7,.int s8,.int s9,.int s10,.int s11,.int s12,.int s13,.rows s14,.int s15,.rows s16,.rows s17,.bool s18,.rows s19,.bool s20,.int s21,.int s22,.int s23,.rows s24,.int s25,.int s26,.int s27,.int e0,.int e1,.int e2,.int e3,.bool e4,.int e5,.int e6,.int e7,.int e8,.int e9,.int e10,.int e11,.bool e12,.int e13,.int e14,.int e15,.int e16,.bool e17,.int e18]=some (AX (Bf (⟨r0,r1,r2,r3,r4,r5,r6,r7,r8,r9,r10,r11,r12,r13⟩:Rul) (⟨s0,s1,s2,s3,s4,s5,s6,s7,s8,s9,s10,s11,s12,s13,s14,s15,s16,s17,s18,s19,s20,s21,s22,s23,s24,s25,s26,s27⟩:Inn) (⟨e0,e1,e2,e3,e4,e5,e6,⟨e7,e8,e9,e10,e11,e12,e13,e14,e15,e16,e17,e18⟩⟩:Ev))):=by
  show D1 (std (Af N) N) (xOf _)=_
  generalize hres:(some (AX (Bf (⟨r0,r1,r2,r3,r4,r5,r6,r7,r8,r9,r10,r11,r12,r13⟩:Rul) (⟨s0,s1,s2,s3,s4,s5,s6,s7,s8,s9,s10,s11,s12,s13,s14,s15,s16,s17,s18,s19,s20,s21,s22,s23,s24,s25,s26,s27⟩:Inn) (⟨e0,e1,e2,e3,e4,e5,e6,⟨e7,e8,e9,e10,e11,e12,e13,e14,e15,e16,e17,e18⟩⟩:Ev))):Option (List PV))=RR
  have hsd:e0=14→e1=1∨e1=2:=pC (e:=(⟨e0,e1,e2,e3,e4,e5,e6,⟨e7,e8,e9,e10,e11,e12,e13,e14,e15,e16,e17,e18⟩⟩:Ev)) he
  rcases Ou (bL he) with hk | hk | hk | hk | hk | hk | hk | hk | hk | hk | hk | hk | hk | hk | hk | hk<;>simp only at hk<;>subst hk<;>clear he
  all_goals (first
    | (have hsd := hsd rfl
       simp only [D1,GC,G8,Fw,Ey,Fj,FA,FC,FX,D7,FB,EL,EM,EZ,Et,std,xOf,PXb,PXc,PXn,PXm,Nat.reduceAdd,Int.reduceBEq,eB h hsd]
       subst hres
       rfl)
    | (simp only [D1, GC, G8, Fw, Ey, Fj, FA, FC, FX, D7, FB, EL, EM, EZ, Et, std, xOf, PXb, PXc, PXn, PXm, Nat.reduceAdd, Int.reduceBEq, j5 h hN, lF h hN hs, iJ h hw hN hs h13, dz h hN, iw h hN, gp h hN, gm h, iC h, az h, gL h hN hs, b9 h, bz h, ek h]
       subst hres
       first
       | rfl
       | (cases e4<;>rfl)))
def iQ (r:Rul) (s:Inn) (e:Ev):Inn×Int:=cond (e.kind==1||e.kind==12||e.kind==16) (s,1) (Bf r s e)
set_option maxHeartbeats 4000000 in
theorem jJ {N:Nat} {r1 r2 r3 r4 r5 r6 r7 r9 r10 r11 r12:Int} {r8:Bool} {r0:ByteArray} {r13:Rows} {s0 s1 s2 s3 s4 s5 s6 s7 s8 s9 s10 s11 s12 s13 s15 s21 s22 s23 s25 s26 s27:Int} {s18 s20:Bool} {s14 s16 s17 s19 s24:Rows} {e0 e1 e2 e3 e5 e6 e7 e8 e9 e10 e11 e13 e14 e15 e16 e18:Int} {e4 e12 e17:Bool} (h:Fit s14 s16 s17 s19 s24) (hw:s17.length+s16.length≤1000000) (hN:2097152<N) (hs:r0.size≤1048576) (h13:r13.length≤1048576) (he:(evS (⟨e0,e1,e2,e3,e4,e5,e6,⟨e7,e8,e9,e10,e11,e12,e13,e14,e15,e16,e17,e18⟩⟩:Ev)==0)=true):QH N [.str r0,.int r1,.int r2,.int r3,.int r4,.int r5,.int r6,.int r7,.bool r8,.int r9,.int r10,.int r11,.int r12,.rows r13,.int s0,.int s1,.int s2,.int s3,.int s4,.int s5,.int s6,.int s7,.int s8,.int s9,.int s10,.int s11,.int s12,.int s13,.rows s14,.int s15,.rows s16,.rows s17,.bool s18,.rows s19,.bool s20,.int s21,.int s22,.int s23,.rows s24,.int s25,.int s26,.int s27,.int e0,.int e1,.int e2,.int e3,.bool e4,.int e5,.int e6,.int e7,.int e8,.int e9,.int e10,.int e11,.bool e12,.int e13,.int e14,.int e15,.int e16,.bool e17,.int e18]=some (AX (iQ (⟨r0,r1,r2,r3,r4,r5,r6,r7,r8,r9,r10,r11,r12,r13⟩:Rul) (⟨s0,s1,s2,s3,s4,s5,s6,s7,s8,s9,s10,s11,s12,s13,s14,s15,s16,s17,s18,s19,s20,s21,s22,s23,s24,s25,s26,s27⟩:Inn) (⟨e0,e1,e2,e3,e4,e5,e6,⟨e7,e8,e9,e10,e11,e12,e13,e14,e15,e16,e17,e18⟩⟩:Ev))):=by
  show MN (std (A5 N) N) (xOf _)=_
  generalize hres:(some (AX (iQ (⟨r0,r1,r2,r3,r4,r5,r6,r7,r8,r9,r10,r11,r12,r13⟩:Rul) (⟨s0,s1,s2,s3,s4,s5,s6,s7,s8,s9,s10,s11,s12,s13,s14,s15,s16,s17,s18,s19,s20,s21,s22,s23,s24,s25,s26,s27⟩:Inn) (⟨e0,e1,e2,e3,e4,e5,e6,⟨e7,e8,e9,e10,e11,e12,e13,e14,e15,e16,e17,e18⟩⟩:Ev))):Option (List PV))=RR
  have hsd:e0=14→e1=1∨e1=2:=pC (e:=(⟨e0,e1,e2,e3,e4,e5,e6,⟨e7,e8,e9,e10,e11,e12,e13,e14,e15,e16,e17,e18⟩⟩:Ev)) he
  rcases Ou (bL he) with hk | hk | hk | hk | hk | hk | hk | hk | hk | hk | hk | hk | hk | hk | hk | hk<;>simp only at hk<;>subst hk<;>clear he
  all_goals (first
    | (have hsd := hsd rfl
       simp only [MN,L7,QN,P4,QV,MR,OS,NL,MS,Nb,JS,MD,Ns,Mq,std,xOf,PXb,PXc,PXn,PXm,Nat.reduceAdd,Int.reduceBEq,mF hsd]
       subst hres
       rfl)
    | (simp only [MN, L7, QN, P4, QV, MR, OS, NL, MS, Nb, JS, MD, Ns, Mq, std, xOf, PXb, PXc, PXn, PXm, Nat.reduceAdd, Int.reduceBEq, qQ h hN, qE h hN hs, pQ h hw hN hs h13, kQ h hN, oC h hN, l7 h hN, kS h, lr h, eI h, j7 h hN hs, YR h, nQ]
       subst hres
       first
       | rfl
       | (cases e4<;>rfl)
       | (unfold iQ Bf Lq;simp only [PXb,PXc,PXn,PXm,Nat.reduceAdd,Int.reduceBEq];cases e1==s0<;>cases r3==0<;>rfl)
       | (unfold iQ Bf Hq N0;simp only [PXb,PXc,PXn,PXm,Nat.reduceAdd,Int.reduceBEq];cases e5==5<;>cases e1==s0<;>cases iLt 0 s1<;>rfl)))
end Go.Px
end
section
namespace Go.Px
set_option maxRecDepth 100000
theorem Lens.of {s t:Inn} (h1:t.batters.length=s.batters.length) (h2:t.bowled.length=s.bowled.length) (h3:t.subs.length=s.subs.length) (h4:t.bowlers=s.bowlers) (h5:t.before=s.before):Lens s t:=⟨h1,h2,h3,by rw [h4];omega,by rw [h5];omega⟩
theorem L_c {s:Inn} (b:Bool) (x y:Inn×Int) (hx:Lens s x.1) (hy:Lens s y.1):Lens s (cond b x y).1:=by cases b<;>assumption
theorem ro (s:Inn) (p q:Int):Lens s (Re s p q).1:=by
 unfold Re
 exact L_c _ _ _ (Lens.refl s) (L_c _ _ _ (Lens.refl s) (L_c _ _ _ (Lens.refl s) (Lens.of (by simp [Lr]) rfl rfl rfl rfl)))
theorem ru (r:Rul) (s:Inn) (p:Int):Lens s (R3 r s p).1:=by
 unfold R3
 exact P_c (P:=fun x:Inn=>Lens s x) _ _ _ (Lens.of rfl rfl rfl rfl rfl) (Lens.refl s)
theorem qw (r:Rul) (s:Inn) (d:Del):Lens s (Ra r s d).1:=by
 unfold Ra
 refine L_c _ _ _ (Lens.refl s) ?_
 have l1:=de s d
 have w1:=lZ s d
 have w2:=lW s d
 simp only [nY]
 have l2:=aY r (CR s d) (Co r d).counts
 cases (DG r (CR s d) (Co r d).counts).2
 ·exact ⟨l2.bt.trans l1.bt,l2.bd.trans l1.bd,l2.sb.trans l1.sb,by have:=l2.bw;rw [w1] at this;exact this,by have:=l2.bf;rw [w1,w2] at this;exact this⟩
 ·exact ⟨l2.bt.trans l1.bt,l2.bd.trans l1.bd,l2.sb.trans l1.sb,by have:=l2.bw;rw [w1] at this;exact this,by have:=l2.bf;rw [w1,w2] at this;exact this⟩
theorem nJ (s:Inn) (p:Int):Lens s (Ho s p).1:=by
 unfold Ho
 exact L_c _ _ _ (Lens.of (by simp [Lr]) rfl rfl rfl rfl) (Lens.refl s)
theorem pS (s:Inn) (p:Int):Lens s (Mm s p).1:=by
 unfold Mm
 exact L_c _ _ _ (Lens.of (by simp [Lr]) rfl rfl rfl rfl) (Lens.refl s)
theorem o0 (s:Inn) (p:Int) (b:Bool):Lens s (J9 s p b).1:=by
 unfold J9
 exact L_c _ _ _ (Lens.refl s) (L_c _ _ _ (Lens.refl s) (L_c _ _ _ (Lens.refl s) (L_c _ _ _ (Lens.refl s) (Lens.of (by simp [Lr]) rfl rfl rfl rfl))))
theorem mj (s:Inn) (n:Int):Lens s (HU s n).1:=by
 unfold HU
 exact L_c _ _ _ (Lens.refl s) (Lens.of rfl rfl rfl rfl rfl)
theorem nc (s:Inn) (n:Int):Lens s (Jk s n).1:=by
 unfold Jk
 exact L_c _ _ _ (Lens.refl s) (L_c _ _ _ (Lens.refl s) (L_c _ _ _ (Lens.refl s) (Lens.of rfl rfl rfl rfl rfl)))
theorem pk (s:Inn) (n:Int) (b:Bool):Lens s (Mu s n b).1:=by
 unfold Mu
 exact L_c _ _ _ (Lens.refl s) (L_c _ _ _ (Lens.refl s) (Lens.of rfl rfl (by simp [tK]) rfl rfl))
theorem lu (r:Rul) (s:Inn):Lens s (Hm r s).1:=by
 unfold Hm
 exact L_c _ _ _ (Lens.refl s) (Lens.of rfl rfl rfl rfl rfl)
theorem lX (r:Rul) (s:Inn) (n:Int):Lens s (Lq r s n).1:=by
 unfold Lq
 exact L_c _ _ _ (Lens.refl s) (L_c _ _ _ (Lens.refl s) (Lens.of rfl rfl rfl rfl rfl))
theorem mQ (s:Inn) (n m:Int):Lens s (Hq s n m).1:=by
 unfold Hq
 exact L_c _ _ _ (Lens.refl s) (L_c _ _ _ (Lens.of rfl rfl rfl rfl rfl) (Lens.of rfl rfl rfl rfl rfl))
theorem oP (r:Rul) (s:Inn) (n:Int) (b:Bool):Lens s (GU r s n b).1:=by
 unfold GU
 exact L_c _ _ _ (Lens.refl s) (L_c _ _ _ (Lens.of rfl rfl rfl rfl rfl) (Lens.refl s))
theorem og (r:Rul) (s:Inn) (n m:Int):Lens s (Jr r s n m).1:=by
 unfold Jr
 exact L_c _ _ _ (Lens.refl s) (L_c _ _ _ (Lens.refl s) (L_c _ _ _ (Lens.refl s) (Lens.of rfl rfl rfl rfl rfl)))
theorem TT (r:Rul) (s:Inn) (e:Ev):Lens s (Bf r s e).1:=by
  unfold Bf
  exact L_c _ _ _ (ro ..) (L_c _ _ _ (ru ..) (L_c _ _ _ (qw ..) (L_c _ _ _ (L_c _ _ _ (nJ ..) (pS ..)) (L_c _ _ _ (o0 ..) (L_c _ _ _ (mj ..)
    (L_c _ _ _ (nc ..) (L_c _ _ _ (pk ..) (L_c _ _ _ (lu ..) (L_c _ _ _ (lX ..) (L_c _ _ _ (mQ ..) (L_c _ _ _ (oP ..) (og ..))))))))))))
def Ed (r:Rul) (s:Inn):Bool:=K4 r.name r.side r.innings r.overs r.balls r.quota r.wide r.noball r.newball r.followon r.reviews r.outside r.power s.batters s.bowlers s.before s.bowled s.subs s.side s.target s.overs s.runs s.wickets s.wides s.noballs s.byes s.legbyes s.pens s.complete s.inover s.striker s.other s.bowler s.ballage s.keeper s.outside s.rev1 s.rev2 s.ending
def tV (r:Rul) (s:Inn):Int:=lT (Ed r s) s.batters s.striker s.other s.target s.overs s.runs s.complete
theorem Ut {N:Nat} {r1 r2 r3 r4 r5 r6 r7 r9 r10 r11 r12:Int} {r8:Bool} {r0:ByteArray} {r13:Rows} {s0 s1 s2 s3 s4 s5 s6 s7 s8 s9 s10 s11 s12 s13 s15 s21 s22 s23 s25 s26 s27:Int} {s18 s20:Bool} {s14 s16 s17 s19 s24:Rows} (h:Fit s14 s16 s17 s19 s24) (hN:2097152<N) (hs:r0.size≤1048576):BC N [.str r0,.int r1,.int r2,.int r3,.int r4,.int r5,.int r6,.int r7,.bool r8,.int r9,.int r10,.int r11,.int r12,.rows r13,.int s0,.int s1,.int s2,.int s3,.int s4,.int s5,.int s6,.int s7,.int s8,.int s9,.int s10,.int s11,.int s12,.int s13,.rows s14,.int s15,.rows s16,.rows s17,.bool s18,.rows s19,.bool s20,.int s21,.int s22,.int s23,.rows s24,.int s25,.int s26,.int s27]=some [.bool (Ed (⟨r0,r1,r2,r3,r4,r5,r6,r7,r8,r9,r10,r11,r12,r13⟩:Rul) (⟨s0,s1,s2,s3,s4,s5,s6,s7,s8,s9,s10,s11,s12,s13,s14,s15,s16,s17,s18,s19,s20,s21,s22,s23,s24,s25,s26,s27⟩:Inn))]:=by
 exact Sz N _ _ _ _ _ _ _ _ _ _ _ _ _ _ _ _ _ _ _ _ _ _ _ _ _ _ _ _ _ _ _ _ _ _ _ _ _ _ _ _ _ _ hN hs h.bt h.bw h.bf h.bd
theorem cC {N:Nat} {r1 r2 r3 r4 r5 r6 r7 r9 r10 r11 r12:Int} {r8:Bool} {r0:ByteArray} {r13:Rows} {s0 s1 s2 s3 s4 s5 s6 s7 s8 s9 s10 s11 s12 s13 s15 s21 s22 s23 s25 s26 s27:Int} {s18 s20:Bool} {s14 s16 s17 s19 s24:Rows} (h:Fit s14 s16 s17 s19 s24) (hN:2097152<N) (hs:r0.size≤1048576):Cc N [.str r0,.int r1,.int r2,.int r3,.int r4,.int r5,.int r6,.int r7,.bool r8,.int r9,.int r10,.int r11,.int r12,.rows r13,.int s0,.int s1,.int s2,.int s3,.int s4,.int s5,.int s6,.int s7,.int s8,.int s9,.int s10,.int s11,.int s12,.int s13,.rows s14,.int s15,.rows s16,.rows s17,.bool s18,.rows s19,.bool s20,.int s21,.int s22,.int s23,.rows s24,.int s25,.int s26,.int s27]=some [.bool (Ed (⟨r0,r1,r2,r3,r4,r5,r6,r7,r8,r9,r10,r11,r12,r13⟩:Rul) (⟨s0,s1,s2,s3,s4,s5,s6,s7,s8,s9,s10,s11,s12,s13,s14,s15,s16,s17,s18,s19,s20,s21,s22,s23,s24,s25,s26,s27⟩:Inn))]:=by
 exact aN N _ _ _ _ _ _ _ _ _ _ _ _ _ _ _ _ _ _ _ _ _ _ _ _ _ _ _ _ _ _ _ _ _ _ _ _ _ _ _ _ _ _ hN hs h.bt h.bw h.bf h.bd
theorem dh {N:Nat} {r1 r2 r3 r4 r5 r6 r7 r9 r10 r11 r12:Int} {r8:Bool} {r0:ByteArray} {r13:Rows} {s0 s1 s2 s3 s4 s5 s6 s7 s8 s9 s10 s11 s12 s13 s15 s21 s22 s23 s25 s26 s27:Int} {s18 s20:Bool} {s14 s16 s17 s19 s24:Rows} (h:Fit s14 s16 s17 s19 s24) (hN:2097152<N) (hs:r0.size≤1048576):DP N [.str r0,.int r1,.int r2,.int r3,.int r4,.int r5,.int r6,.int r7,.bool r8,.int r9,.int r10,.int r11,.int r12,.rows r13,.int s0,.int s1,.int s2,.int s3,.int s4,.int s5,.int s6,.int s7,.int s8,.int s9,.int s10,.int s11,.int s12,.int s13,.rows s14,.int s15,.rows s16,.rows s17,.bool s18,.rows s19,.bool s20,.int s21,.int s22,.int s23,.rows s24,.int s25,.int s26,.int s27]=some [.int (tV (⟨r0,r1,r2,r3,r4,r5,r6,r7,r8,r9,r10,r11,r12,r13⟩:Rul) (⟨s0,s1,s2,s3,s4,s5,s6,s7,s8,s9,s10,s11,s12,s13,s14,s15,s16,s17,s18,s19,s20,s21,s22,s23,s24,s25,s26,s27⟩:Inn))]:=by
 exact bp N _ _ _ _ _ _ _ _ _ _ _ _ _ _ _ _ _ _ _ _ _ _ _ _ _ _ _ _ _ _ _ _ _ _ _ _ _ _ _ _ _ _ hN hs h.bt h.bw h.bf h.bd
theorem ml {N:Nat} {r1 r2 r3 r4 r5 r6 r7 r9 r10 r11 r12:Int} {r8:Bool} {r0:ByteArray} {r13:Rows} {s0 s1 s2 s3 s4 s5 s6 s7 s8 s9 s10 s11 s12 s13 s15 s21 s22 s23 s25 s26 s27:Int} {s18 s20:Bool} {s14 s16 s17 s19 s24:Rows} (h:Fit s14 s16 s17 s19 s24) (hN:2097152<N) (hs:r0.size≤1048576):JX N [.str r0,.int r1,.int r2,.int r3,.int r4,.int r5,.int r6,.int r7,.bool r8,.int r9,.int r10,.int r11,.int r12,.rows r13,.int s0,.int s1,.int s2,.int s3,.int s4,.int s5,.int s6,.int s7,.int s8,.int s9,.int s10,.int s11,.int s12,.int s13,.rows s14,.int s15,.rows s16,.rows s17,.bool s18,.rows s19,.bool s20,.int s21,.int s22,.int s23,.rows s24,.int s25,.int s26,.int s27]=some [.int (tV (⟨r0,r1,r2,r3,r4,r5,r6,r7,r8,r9,r10,r11,r12,r13⟩:Rul) (⟨s0,s1,s2,s3,s4,s5,s6,s7,s8,s9,s10,s11,s12,s13,s14,s15,s16,s17,s18,s19,s20,s21,s22,s23,s24,s25,s26,s27⟩:Inn))]:=by
 exact kA N _ _ _ _ _ _ _ _ _ _ _ _ _ _ _ _ _ _ _ _ _ _ _ _ _ _ _ _ _ _ _ _ _ _ _ _ _ _ _ _ _ _ hN hs h.bt h.bw h.bf h.bd
def fH (t:Inn) (b:Bool):Inn:=⟨t.side,t.target,t.overs,t.runs,t.wickets,t.wides,t.noballs,t.byes,t.legbyes,t.pens,t.complete,t.inover,t.striker,t.other,t.batters,t.bowler,t.bowlers,t.before,b,t.bowled,t.freehit,t.ballage,t.keeper,t.outside,t.subs,t.rev1,t.rev2,t.ending⟩
def V7 (r:Rul) (t:Inn) (b:Bool):Inn:={ fH t b with ending:=cond (t.ending==0) (tV r (fH t b)) t.ending }
def gd (s:Inn) (e:Ev):Bool:=e.kind==1||e.kind==12||e.kind==16||(!CM s.batters && !(e.kind==2))
def CL (r:Rul) (s:Inn) (e:Ev):Inn×Int :=
  cond (!Ed r s || !(evS e==0)) (s,1) (cond (!(s.ending==0)) (s,26) (cond (gd s e) (s,1)
    (cond (!((Bf r s e).2==0)) (s,(Bf r s e).2) (V7 r (Bf r s e).1 (e.kind==4),0))))
set_option maxHeartbeats 4000000 in
theorem Ot {N:Nat} {r1 r2 r3 r4 r5 r6 r7 r9 r10 r11 r12:Int} {r8:Bool} {r0:ByteArray} {r13:Rows} {s0 s1 s2 s3 s4 s5 s6 s7 s8 s9 s10 s11 s12 s13 s15 s21 s22 s23 s25 s26 s27:Int} {s18 s20:Bool} {s14 s16 s17 s19 s24:Rows} {e0 e1 e2 e3 e5 e6 e7 e8 e9 e10 e11 e13 e14 e15 e16 e18:Int} {e4 e12 e17:Bool} (h:Fit s14 s16 s17 s19 s24) (hw:s17.length+s16.length≤1000000) (hN:2097152<N) (hs:r0.size≤1048576) (h13:r13.length≤1048576):Gg N [.str r0,.int r1,.int r2,.int r3,.int r4,.int r5,.int r6,.int r7,.bool r8,.int r9,.int r10,.int r11,.int r12,.rows r13,.int s0,.int s1,.int s2,.int s3,.int s4,.int s5,.int s6,.int s7,.int s8,.int s9,.int s10,.int s11,.int s12,.int s13,.rows s14,.int s15,.rows s16,.rows s17,.bool s18,.rows s19,.bool s20,.int s21,.int s22,.int s23,.rows s24,.int s25,.int s26,.int s27,.int e0,.int e1,.int e2,.int e3,.bool e4,.int e5,.int e6,.int e7,.int e8,.int e9,.int e10,.int e11,.bool e12,.int e13,.int e14,.int e15,.int e16,.bool e17,.int e18]=some (AX (CL (⟨r0,r1,r2,r3,r4,r5,r6,r7,r8,r9,r10,r11,r12,r13⟩:Rul) (⟨s0,s1,s2,s3,s4,s5,s6,s7,s8,s9,s10,s11,s12,s13,s14,s15,s16,s17,s18,s19,s20,s21,s22,s23,s24,s25,s26,s27⟩:Inn) (⟨e0,e1,e2,e3,e4,e5,e6,⟨e7,e8,e9,e10,e11,e12,e13,e14,e15,e16,e17,e18⟩⟩:Ev))):=by
 show J3 (std (CD N) N) (xOf _)=_
 generalize hres:(some (AX (CL (⟨r0,r1,r2,r3,r4,r5,r6,r7,r8,r9,r10,r11,r12,r13⟩:Rul) (⟨s0,s1,s2,s3,s4,s5,s6,s7,s8,s9,s10,s11,s12,s13,s14,s15,s16,s17,s18,s19,s20,s21,s22,s23,s24,s25,s26,s27⟩:Inn) (⟨e0,e1,e2,e3,e4,e5,e6,⟨e7,e8,e9,e10,e11,e12,e13,e14,e15,e16,e17,e18⟩⟩:Ev))):Option (List PV))=RR
 have l1:=TT (⟨r0,r1,r2,r3,r4,r5,r6,r7,r8,r9,r10,r11,r12,r13⟩:Rul) (⟨s0,s1,s2,s3,s4,s5,s6,s7,s8,s9,s10,s11,s12,s13,s14,s15,s16,s17,s18,s19,s20,s21,s22,s23,s24,s25,s26,s27⟩:Inn) (⟨e0,e1,e2,e3,e4,e5,e6,⟨e7,e8,e9,e10,e11,e12,e13,e14,e15,e16,e17,e18⟩⟩:Ev)
 have f1:=KY l1 h (by simp only;omega)
 simp only [J3,Qu,Oe,Of,PE,Fm,GB,std,xOf,PXb,Ut h hN hs,Yb hN,Bz h,f8 h.bt hN]
 subst hres;simp only [CL,gd]
 cases Ed (⟨r0,r1,r2,r3,r4,r5,r6,r7,r8,r9,r10,r11,r12,r13⟩:Rul) (⟨s0,s1,s2,s3,s4,s5,s6,s7,s8,s9,s10,s11,s12,s13,s14,s15,s16,s17,s18,s19,s20,s21,s22,s23,s24,s25,s26,s27⟩:Inn)
 ·rfl
 cases he:evS (⟨e0,e1,e2,e3,e4,e5,e6,⟨e7,e8,e9,e10,e11,e12,e13,e14,e15,e16,e17,e18⟩⟩:Ev)==0
 ·simp only [PXb,PXc,PXn,PXm,Nat.reduceAdd,Int.reduceBEq,he]
 simp only [PXb,PXc,PXn,PXm,Nat.reduceAdd,Int.reduceBEq,he]
 cases s27==0<;>try rfl
 cases (e0==1||e0==12||e0==16)<;>cases CM s14<;>cases e0==2<;>try rfl
 all_goals (simp only [PXb,PXc,PXn,PXm,Nat.reduceAdd,Int.reduceBEq,Fm,GB,bc h hw hN hs h13 he,dh f1 hN hs])
 all_goals (unfold V7 fH;cases (Bf (⟨r0,r1,r2,r3,r4,r5,r6,r7,r8,r9,r10,r11,r12,r13⟩:Rul) (⟨s0,s1,s2,s3,s4,s5,s6,s7,s8,s9,s10,s11,s12,s13,s14,s15,s16,s17,s18,s19,s20,s21,s22,s23,s24,s25,s26,s27⟩:Inn) (⟨e0,e1,e2,e3,e4,e5,e6,⟨e7,e8,e9,e10,e11,e12,e13,e14,e15,e16,e17,e18⟩⟩:Ev)).2==0<;>cases (Bf (⟨r0,r1,r2,r3,r4,r5,r6,r7,r8,r9,r10,r11,r12,r13⟩:Rul) (⟨s0,s1,s2,s3,s4,s5,s6,s7,s8,s9,s10,s11,s12,s13,s14,s15,s16,s17,s18,s19,s20,s21,s22,s23,s24,s25,s26,s27⟩:Inn) (⟨e0,e1,e2,e3,e4,e5,e6,⟨e7,e8,e9,e10,e11,e12,e13,e14,e15,e16,e17,e18⟩⟩:Ev)).1.ending==0<;>rfl)
end Go.Px
end
