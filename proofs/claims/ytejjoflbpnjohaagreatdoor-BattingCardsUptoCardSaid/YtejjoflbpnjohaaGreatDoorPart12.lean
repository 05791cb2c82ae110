/- Part 12. -/
import Derived.Test.YtejjoflbpnjohaaGreatDoorPart11
set_option linter.unusedVariables false
set_option linter.unusedSimpArgs false
variable {s0 s1 s2 s3 s4 s5 s6 s7 s8 s9 s10 s11 s12 s13 s15 s21 s22 s23 s25 s26 s27:Int}
variable {s14 s16 s17 s19 s24:Go.Px.Rows}
variable {r1 r2 r3 r4 r5 r6 r7 r9 r10 r11 r12:Int}
variable {d0 d1 d2 d3 d4 d6 d7 d8 d9 d11:Int}
variable {e0 e1 e2 e3 e5 e6 e7 e8 e9 e10 e11 e13 e14 e15 e16 e18:Int}
section
namespace Go.Px
set_option maxRecDepth 100000
def gD (r:Rul) (over:Int):Int :=
 match Ca (fun i=>cond (iLe (atI r.power i 0) (inc over)&&iLe (inc over) (atI r.power i 1)) (some [.int (atI r.power i 2)]) none) r.power.length 0 with
 | some x=>pvI (AA x 0)
 | none=>r.outside
theorem pW {N:Nat} {r8:Bool} {r0:ByteArray} {r13:Rows} {o:Int} (hN:2097152<N) (h13:r13.length≤1048576):Gw N [.str r0,.int r1,.int r2,.int r3,.int r4,.int r5,.int r6,.int r7,.bool r8,.int r9,.int r10,.int r11,.int r12,.rows r13,.int o]=some [.int (gD (⟨r0,r1,r2,r3,r4,r5,r6,r7,r8,r9,r10,r11,r12,r13⟩:Rul) o)]:=by
 show KR (std (UD N) N) (xOf _)=_;simp only [KR,lq9,std,xOf,PXb,PXc,PXn,AD];refine AN (C3 (len:=r13.length) (fun i=>cond (iLe (atI r13 i 0) (inc o)&&iLe (inc o) (atI r13 i 1)) (some [.int (atI r13 i 2)]) none) ?_ ?_ r13.length 0 N (by omega) (by omega)) ?_
 ·intro self;simp only [PXb,PXc,PXn,AD,Aj]
 ·intro i self hi;simp only [PXb,PXc,PXn,AD,Ah (show i≤1099511627776 by omega),Ad hi,AM hi];cases hq:iLe (atI r13 i 0) (inc o)&&iLe (inc o) (atI r13 i 1)<;>unfold inc atI at hq<;>rw [hq]<;>rfl
 ·unfold gD;cases Ca (fun i=>cond (iLe (atI r13 i 0) (inc o)&&iLe (inc o) (atI r13 i 1)) (some [.int (atI r13 i 2)]) none) r13.length 0<;>rfl
theorem uK {N:Nat} {r8:Bool} {r0:ByteArray} {r13:Rows} {o:Int} (hN:2097152<N) (h13:r13.length≤1048576):Je N [.str r0,.int r1,.int r2,.int r3,.int r4,.int r5,.int r6,.int r7,.bool r8,.int r9,.int r10,.int r11,.int r12,.rows r13,.int o]=some [.int (gD (⟨r0,r1,r2,r3,r4,r5,r6,r7,r8,r9,r10,r11,r12,r13⟩:Rul) o)]:=by
 show Ng (std (W7 N) N) (xOf _)=_;simp only [Ng,lq9,std,xOf,PXb,PXc,PXn,AD];refine AN (C3 (len:=r13.length) (fun i=>cond (iLe (atI r13 i 0) (inc o)&&iLe (inc o) (atI r13 i 1)) (some [.int (atI r13 i 2)]) none) ?_ ?_ r13.length 0 N (by omega) (by omega)) ?_
 ·intro self;simp only [PXb,PXc,PXn,AD,Aj]
 ·intro i self hi;simp only [PXb,PXc,PXn,AD,Ah (show i≤1099511627776 by omega),Ad hi,AM hi];cases hq:iLe (atI r13 i 0) (inc o)&&iLe (inc o) (atI r13 i 1)<;>unfold inc atI at hq<;>rw [hq]<;>rfl
 ·unfold gD;cases Ca (fun i=>cond (iLe (atI r13 i 0) (inc o)&&iLe (inc o) (atI r13 i 1)) (some [.int (atI r13 i 2)]) none) r13.length 0<;>rfl
def Js (s:Inn) (p:Int):Inn×Int :=
 cond (!inR p s.subs.length) (s,3) (cond (DX s p) (s,18) (cond (p==s.bowler||p==s.keeper) (s,17) ({ s with keeper:=p },0)))
theorem qh {N:Nat} {s18 s20:Bool} {p:Int} (h:Fit s14 s16 s17 s19 s24):Hj N [.int s0,.int s1,.int s2,.int s3,.int s4,.int s5,.int s6,.int s7,.int s8,.int s9,.int s10,.int s11,.int s12,.int s13,.rows s14,.int s15,.rows s16,.rows s17,.bool s18,.rows s19,.bool s20,.int s21,.int s22,.int s23,.rows s24,.int s25,.int s26,.int s27,.int p]=some (Ai (Js (⟨s0,s1,s2,s3,s4,s5,s6,s7,s8,s9,s10,s11,s12,s13,s14,s15,s16,s17,s18,s19,s20,s21,s22,s23,s24,s25,s26,s27⟩:Inn) p)):=by
 show Lw (std (Fn N) N) (xOf _)=_;generalize hres:(some (Ai (Js (⟨s0,s1,s2,s3,s4,s5,s6,s7,s8,s9,s10,s11,s12,s13,s14,s15,s16,s17,s18,s19,s20,s21,s22,s23,s24,s25,s26,s27⟩:Inn) p)):Option (List PV))=RR;simp only [Lw,V9,Th,Qm,lq9,std,xOf,PXb,PXc,PXn,PXm,Nat.reduceAdd,Int.reduceBEq,Yc h,Jf,Is h.sb];subst hres;simp only [Js];cases inR p s24.length<;>cases DX (⟨s0,s1,s2,s3,s4,s5,s6,s7,s8,s9,s10,s11,s12,s13,s14,s15,s16,s17,s18,s19,s20,s21,s22,s23,s24,s25,s26,s27⟩:Inn) p<;>cases p==s15<;>cases p==s22<;>rfl
theorem xV {N:Nat} {s18 s20:Bool} {p:Int} (h:Fit s14 s16 s17 s19 s24):Pd N [.int s0,.int s1,.int s2,.int s3,.int s4,.int s5,.int s6,.int s7,.int s8,.int s9,.int s10,.int s11,.int s12,.int s13,.rows s14,.int s15,.rows s16,.rows s17,.bool s18,.rows s19,.bool s20,.int s21,.int s22,.int s23,.rows s24,.int s25,.int s26,.int s27,.int p]=some (Ai (Js (⟨s0,s1,s2,s3,s4,s5,s6,s7,s8,s9,s10,s11,s12,s13,s14,s15,s16,s17,s18,s19,s20,s21,s22,s23,s24,s25,s26,s27⟩:Inn) p)):=by
 show Pi (std (Hv N) N) (xOf _)=_;generalize hres:(some (Ai (Js (⟨s0,s1,s2,s3,s4,s5,s6,s7,s8,s9,s10,s11,s12,s13,s14,s15,s16,s17,s18,s19,s20,s21,s22,s23,s24,s25,s26,s27⟩:Inn) p)):Option (List PV))=RR;simp only [Pi,Yy,Wp,Ud,lq9,std,xOf,PXb,PXc,PXn,PXm,Nat.reduceAdd,Int.reduceBEq,CP h,PF,Hg h.sb];subst hres;simp only [Js];cases inR p s24.length<;>cases DX (⟨s0,s1,s2,s3,s4,s5,s6,s7,s8,s9,s10,s11,s12,s13,s14,s15,s16,s17,s18,s19,s20,s21,s22,s23,s24,s25,s26,s27⟩:Inn) p<;>cases p==s15<;>cases p==s22<;>rfl
def Mm (s:Inn) (p:Int) (on:Bool):Inn×Int :=
  cond (!inR p s.subs.length) (s,3) (cond (DX s p==on) (s,18)
    ({ s with subs:=ADt s.subs p on,keeper:=cond (on&&s.keeper==p) 0 s.keeper,bowler:=cond (on&&s.bowler==p) 0 s.bowler },0))
theorem gX {N:Nat} {s18 s20:Bool} {p:Int} {b:Bool} (h:Fit s14 s16 s17 s19 s24):EH N [.int s0,.int s1,.int s2,.int s3,.int s4,.int s5,.int s6,.int s7,.int s8,.int s9,.int s10,.int s11,.int s12,.int s13,.rows s14,.int s15,.rows s16,.rows s17,.bool s18,.rows s19,.bool s20,.int s21,.int s22,.int s23,.rows s24,.int s25,.int s26,.int s27,.int p,.bool b]=some (Ai (Mm (⟨s0,s1,s2,s3,s4,s5,s6,s7,s8,s9,s10,s11,s12,s13,s14,s15,s16,s17,s18,s19,s20,s21,s22,s23,s24,s25,s26,s27⟩:Inn) p b)):=by
 show Gy (std (Dl N) N) (xOf _)=_;generalize hres:(some (Ai (Mm (⟨s0,s1,s2,s3,s4,s5,s6,s7,s8,s9,s10,s11,s12,s13,s14,s15,s16,s17,s18,s19,s20,s21,s22,s23,s24,s25,s26,s27⟩:Inn) p b)):Option (List PV))=RR;simp only [Gy,Rj,QH,Mr,lq9,std,xOf,PXb,PXc,PXn,PXm,Nat.reduceAdd,Int.reduceBEq,Yc h,Jf,Is h.sb];subst hres;simp only [Mm];cases hp:inR p s24.length<;>try rfl
 rw [Dw hp h.sb];cases DX (⟨s0,s1,s2,s3,s4,s5,s6,s7,s8,s9,s10,s11,s12,s13,s14,s15,s16,s17,s18,s19,s20,s21,s22,s23,s24,s25,s26,s27⟩:Inn) p==b<;>cases b<;>cases s22==p<;>cases s15==p<;>rfl
theorem mc {N:Nat} {s18 s20:Bool} {p:Int} {b:Bool} (h:Fit s14 s16 s17 s19 s24):JI N [.int s0,.int s1,.int s2,.int s3,.int s4,.int s5,.int s6,.int s7,.int s8,.int s9,.int s10,.int s11,.int s12,.int s13,.rows s14,.int s15,.rows s16,.rows s17,.bool s18,.rows s19,.bool s20,.int s21,.int s22,.int s23,.rows s24,.int s25,.int s26,.int s27,.int p,.bool b]=some (Ai (Mm (⟨s0,s1,s2,s3,s4,s5,s6,s7,s8,s9,s10,s11,s12,s13,s14,s15,s16,s17,s18,s19,s20,s21,s22,s23,s24,s25,s26,s27⟩:Inn) p b)):=by
 show Iu (std (EL N) N) (xOf _)=_;generalize hres:(some (Ai (Mm (⟨s0,s1,s2,s3,s4,s5,s6,s7,s8,s9,s10,s11,s12,s13,s14,s15,s16,s17,s18,s19,s20,s21,s22,s23,s24,s25,s26,s27⟩:Inn) p b)):Option (List PV))=RR;simp only [Iu,TK,SZ,Qn,lq9,std,xOf,PXb,PXc,PXn,PXm,Nat.reduceAdd,Int.reduceBEq,CP h,PF,Hg h.sb];subst hres;simp only [Mm];cases hp:inR p s24.length<;>try rfl
 rw [Dw hp h.sb];cases DX (⟨s0,s1,s2,s3,s4,s5,s6,s7,s8,s9,s10,s11,s12,s13,s14,s15,s16,s17,s18,s19,s20,s21,s22,s23,s24,s25,s26,s27⟩:Inn) p==b<;>cases b<;>cases s22==p<;>cases s15==p<;>rfl
def HA (s:Inn) (n:Int):Inn×Int :=
 cond (iLt n 0||iLt (IntKind.i64.wrap ((s.subs.length:Int) - 2)) n) (s,16) ({ s with outside:=n },0)
theorem oD {N:Nat} {s18 s20:Bool} {n:Int} (h:Fit s14 s16 s17 s19 s24):Gt N [.int s0,.int s1,.int s2,.int s3,.int s4,.int s5,.int s6,.int s7,.int s8,.int s9,.int s10,.int s11,.int s12,.int s13,.rows s14,.int s15,.rows s16,.rows s17,.bool s18,.rows s19,.bool s20,.int s21,.int s22,.int s23,.rows s24,.int s25,.int s26,.int s27,.int n]=some (Ai (HA (⟨s0,s1,s2,s3,s4,s5,s6,s7,s8,s9,s10,s11,s12,s13,s14,s15,s16,s17,s18,s19,s20,s21,s22,s23,s24,s25,s26,s27⟩:Inn) n)):=by
 show KK (std (MN N) N) (xOf _)=_;generalize hres:(some (Ai (HA (⟨s0,s1,s2,s3,s4,s5,s6,s7,s8,s9,s10,s11,s12,s13,s14,s15,s16,s17,s18,s19,s20,s21,s22,s23,s24,s25,s26,s27⟩:Inn) n)):Option (List PV))=RR;simp only [KK,UY,lq9,std,xOf,PXb,PXc,PXn,PXm,Nat.reduceAdd,Int.reduceBEq,Yc h];subst hres;simp only [HA];cases (iLt n 0||iLt (IntKind.i64.wrap ((s24.length:Int) - 2)) n)<;>rfl
theorem tn {N:Nat} {s18 s20:Bool} {n:Int} (h:Fit s14 s16 s17 s19 s24):NN N [.int s0,.int s1,.int s2,.int s3,.int s4,.int s5,.int s6,.int s7,.int s8,.int s9,.int s10,.int s11,.int s12,.int s13,.rows s14,.int s15,.rows s16,.rows s17,.bool s18,.rows s19,.bool s20,.int s21,.int s22,.int s23,.rows s24,.int s25,.int s26,.int s27,.int n]=some (Ai (HA (⟨s0,s1,s2,s3,s4,s5,s6,s7,s8,s9,s10,s11,s12,s13,s14,s15,s16,s17,s18,s19,s20,s21,s22,s23,s24,s25,s26,s27⟩:Inn) n)):=by
 show Nr (std (Pt N) N) (xOf _)=_;generalize hres:(some (Ai (HA (⟨s0,s1,s2,s3,s4,s5,s6,s7,s8,s9,s10,s11,s12,s13,s14,s15,s16,s17,s18,s19,s20,s21,s22,s23,s24,s25,s26,s27⟩:Inn) n)):Option (List PV))=RR;simp only [Nr,Wn,lq9,std,xOf,PXb,PXc,PXn,PXm,Nat.reduceAdd,Int.reduceBEq,CP h];subst hres;simp only [HA];cases (iLt n 0||iLt (IntKind.i64.wrap ((s24.length:Int) - 2)) n)<;>rfl
def LE (r:Rul) (s:Inn):Int :=
 cond (!inR s.keeper s.subs.length||DX s s.keeper||s.keeper==s.bowler) 17 (cond (iLt (gD r s.complete) s.outside) 16 0)
theorem tS {N:Nat} {r8:Bool} {r0:ByteArray} {r13:Rows} {s18 s20:Bool} (h:Fit s14 s16 s17 s19 s24) (hN:2097152<N) (h13:r13.length≤1048576):JL N [.str r0,.int r1,.int r2,.int r3,.int r4,.int r5,.int r6,.int r7,.bool r8,.int r9,.int r10,.int r11,.int r12,.rows r13,.int s0,.int s1,.int s2,.int s3,.int s4,.int s5,.int s6,.int s7,.int s8,.int s9,.int s10,.int s11,.int s12,.int s13,.rows s14,.int s15,.rows s16,.rows s17,.bool s18,.rows s19,.bool s20,.int s21,.int s22,.int s23,.rows s24,.int s25,.int s26,.int s27]=some [.int (LE (⟨r0,r1,r2,r3,r4,r5,r6,r7,r8,r9,r10,r11,r12,r13⟩:Rul) (⟨s0,s1,s2,s3,s4,s5,s6,s7,s8,s9,s10,s11,s12,s13,s14,s15,s16,s17,s18,s19,s20,s21,s22,s23,s24,s25,s26,s27⟩:Inn))]:=by
 show NO (std (G6 N) N) (xOf _)=_;generalize hres:(some [.int (LE (⟨r0,r1,r2,r3,r4,r5,r6,r7,r8,r9,r10,r11,r12,r13⟩:Rul) (⟨s0,s1,s2,s3,s4,s5,s6,s7,s8,s9,s10,s11,s12,s13,s14,s15,s16,s17,s18,s19,s20,s21,s22,s23,s24,s25,s26,s27⟩:Inn))]:Option (List PV))=RR;simp only [NO,Ur,RF,Sm,lq9,std,xOf,PXb,PXc,PXn,PXm,Nat.reduceAdd,Int.reduceBEq,Jf,Is h.sb,pW hN h13];subst hres;simp only [LE];cases inR s22 s24.length<;>cases DX (⟨s0,s1,s2,s3,s4,s5,s6,s7,s8,s9,s10,s11,s12,s13,s14,s15,s16,s17,s18,s19,s20,s21,s22,s23,s24,s25,s26,s27⟩:Inn) s22<;>cases s22==s15<;>rfl
theorem yP {N:Nat} {r8:Bool} {r0:ByteArray} {r13:Rows} {s18 s20:Bool} (h:Fit s14 s16 s17 s19 s24) (hN:2097152<N) (h13:r13.length≤1048576):SB N [.str r0,.int r1,.int r2,.int r3,.int r4,.int r5,.int r6,.int r7,.bool r8,.int r9,.int r10,.int r11,.int r12,.rows r13,.int s0,.int s1,.int s2,.int s3,.int s4,.int s5,.int s6,.int s7,.int s8,.int s9,.int s10,.int s11,.int s12,.int s13,.rows s14,.int s15,.rows s16,.rows s17,.bool s18,.rows s19,.bool s20,.int s21,.int s22,.int s23,.rows s24,.int s25,.int s26,.int s27]=some [.int (LE (⟨r0,r1,r2,r3,r4,r5,r6,r7,r8,r9,r10,r11,r12,r13⟩:Rul) (⟨s0,s1,s2,s3,s4,s5,s6,s7,s8,s9,s10,s11,s12,s13,s14,s15,s16,s17,s18,s19,s20,s21,s22,s23,s24,s25,s26,s27⟩:Inn))]:=by
 show R7 (std (Jm N) N) (xOf _)=_;generalize hres:(some [.int (LE (⟨r0,r1,r2,r3,r4,r5,r6,r7,r8,r9,r10,r11,r12,r13⟩:Rul) (⟨s0,s1,s2,s3,s4,s5,s6,s7,s8,s9,s10,s11,s12,s13,s14,s15,s16,s17,s18,s19,s20,s21,s22,s23,s24,s25,s26,s27⟩:Inn))]:Option (List PV))=RR;simp only [R7,Yx,Wc,Wq,lq9,std,xOf,PXb,PXc,PXn,PXm,Nat.reduceAdd,Int.reduceBEq,PF,Hg h.sb,uK hN h13];subst hres;simp only [LE];cases inR s22 s24.length<;>cases DX (⟨s0,s1,s2,s3,s4,s5,s6,s7,s8,s9,s10,s11,s12,s13,s14,s15,s16,s17,s18,s19,s20,s21,s22,s23,s24,s25,s26,s27⟩:Inn) s22<;>cases s22==s15<;>rfl
def Kf (s:Inn) (d:Del):Int :=
  cond (iLt 0 d.fielder && !inR d.fielder s.subs.length) 3 (cond (iLt 0 d.fielder && !(d.sub==DX s d.fielder)) 18
    (cond (iLt 0 d.second && !inR d.second s.subs.length) 3 (cond (iLt 0 d.second&&DX s d.second) 18
      (cond (d.how==4 && !(mJ d.fielder==s.keeper)) 17 0))))
theorem uU {N:Nat} {s18 s20:Bool} {d5 d10:Bool} (h:Fit s14 s16 s17 s19 s24):JT N [.int s0,.int s1,.int s2,.int s3,.int s4,.int s5,.int s6,.int s7,.int s8,.int s9,.int s10,.int s11,.int s12,.int s13,.rows s14,.int s15,.rows s16,.rows s17,.bool s18,.rows s19,.bool s20,.int s21,.int s22,.int s23,.rows s24,.int s25,.int s26,.int s27,.int d0,.int d1,.int d2,.int d3,.int d4,.bool d5,.int d6,.int d7,.int d8,.int d9,.bool d10,.int d11]=some [.int (Kf (⟨s0,s1,s2,s3,s4,s5,s6,s7,s8,s9,s10,s11,s12,s13,s14,s15,s16,s17,s18,s19,s20,s21,s22,s23,s24,s25,s26,s27⟩:Inn) (⟨d0,d1,d2,d3,d4,d5,d6,d7,d8,d9,d10,d11⟩:Del))]:=by
 show NA (std (KN N) N) (xOf _)=_;generalize hres:(some [.int (Kf (⟨s0,s1,s2,s3,s4,s5,s6,s7,s8,s9,s10,s11,s12,s13,s14,s15,s16,s17,s18,s19,s20,s21,s22,s23,s24,s25,s26,s27⟩:Inn) (⟨d0,d1,d2,d3,d4,d5,d6,d7,d8,d9,d10,d11⟩:Del))]:Option (List PV))=RR;simp only [NA,Ug,Q5,lq9,std,xOf,PXb,PXc,PXn,PXm,Nat.reduceAdd,Int.reduceBEq,Jf,Is h.sb];subst hres;simp only [Kf,mJ,ADC];cases iLt 0 d8<;>cases iLt 0 d9<;>cases inR d8 s24.length<;>cases inR d9 s24.length<;>cases d10==DX (⟨s0,s1,s2,s3,s4,s5,s6,s7,s8,s9,s10,s11,s12,s13,s14,s15,s16,s17,s18,s19,s20,s21,s22,s23,s24,s25,s26,s27⟩:Inn) d8<;>cases DX (⟨s0,s1,s2,s3,s4,s5,s6,s7,s8,s9,s10,s11,s12,s13,s14,s15,s16,s17,s18,s19,s20,s21,s22,s23,s24,s25,s26,s27⟩:Inn) d9<;>rfl
theorem y8 {N:Nat} {s18 s20:Bool} {d5 d10:Bool} (h:Fit s14 s16 s17 s19 s24):Rs N [.int s0,.int s1,.int s2,.int s3,.int s4,.int s5,.int s6,.int s7,.int s8,.int s9,.int s10,.int s11,.int s12,.int s13,.rows s14,.int s15,.rows s16,.rows s17,.bool s18,.rows s19,.bool s20,.int s21,.int s22,.int s23,.rows s24,.int s25,.int s26,.int s27,.int d0,.int d1,.int d2,.int d3,.int d4,.bool d5,.int d6,.int d7,.int d8,.int d9,.bool d10,.int d11]=some [.int (Kf (⟨s0,s1,s2,s3,s4,s5,s6,s7,s8,s9,s10,s11,s12,s13,s14,s15,s16,s17,s18,s19,s20,s21,s22,s23,s24,s25,s26,s27⟩:Inn) (⟨d0,d1,d2,d3,d4,d5,d6,d7,d8,d9,d10,d11⟩:Del))]:=by
 show SK (std (NG N) N) (xOf _)=_;generalize hres:(some [.int (Kf (⟨s0,s1,s2,s3,s4,s5,s6,s7,s8,s9,s10,s11,s12,s13,s14,s15,s16,s17,s18,s19,s20,s21,s22,s23,s24,s25,s26,s27⟩:Inn) (⟨d0,d1,d2,d3,d4,d5,d6,d7,d8,d9,d10,d11⟩:Del))]:Option (List PV))=RR;simp only [SK,Yb,VS,lq9,std,xOf,PXb,PXc,PXn,PXm,Nat.reduceAdd,Int.reduceBEq,PF,Hg h.sb];subst hres;simp only [Kf,mJ,ADC];rw [BEq.comm (a:=DX (⟨s0,s1,s2,s3,s4,s5,s6,s7,s8,s9,s10,s11,s12,s13,s14,s15,s16,s17,s18,s19,s20,s21,s22,s23,s24,s25,s26,s27⟩:Inn) d8)];cases iLt 0 d8<;>cases iLt 0 d9<;>cases inR d8 s24.length<;>cases inR d9 s24.length<;>cases d10==DX (⟨s0,s1,s2,s3,s4,s5,s6,s7,s8,s9,s10,s11,s12,s13,s14,s15,s16,s17,s18,s19,s20,s21,s22,s23,s24,s25,s26,s27⟩:Inn) d8<;>cases DX (⟨s0,s1,s2,s3,s4,s5,s6,s7,s8,s9,s10,s11,s12,s13,s14,s15,s16,s17,s18,s19,s20,s21,s22,s23,s24,s25,s26,s27⟩:Inn) d9<;>rfl
structure Cre where
 batter:Int
 wides:Int
 noballs:Int
 byes:Int
 legbyes:Int
 bowler:Int
 counts:Bool
 faced:Bool
 wicket:Bool
 swap:Bool
def Cre.ls (c:Cre):List PV:=[.int c.batter,.int c.wides,.int c.noballs,.int c.byes,.int c.legbyes,.int c.bowler,.bool c.counts,.bool c.faced,.bool c.wicket,.bool c.swap]
theorem AD3 {N:Nat} {a:Int} {b:Int} {c:Int}  : WE N [.int a,.int b,.int c]=some [.bool (btw a b c)]:=by
 show mf (std (qF N) N) (xOf _)=_;show some [PV.bool (cond (iLe b a) (iLe a c) false)]=_;rw [Rr];rfl
def OM (d:Del):Bool :=
  cond (d.type==2) (d.source==0 && !(d.boundary==6)) (cond (d.source==0) (d.runs==0&&d.boundary==0)
    (cond (d.boundary==0) (iLt 0 d.runs) (cond (d.boundary==6) (d.source==1&&d.runs==0) true)))
def DC (d:Del):Int :=
  cond (iLt d.type 1||iLt 3 d.type||iLt 3 d.source||iLt 10 d.how || !btw d.sector 0 8) 11
    (cond (!btw d.runs 0 7 || !btw d.short 0 d.runs||(!(d.boundary==0) && !(d.boundary==4) && !(d.boundary==6))) 12
      (cond (!OM d) 11 (cond (!(d.sector==0) && !(d.source==1) && !(d.how==2)) 11 (cond (!(d.boundary==0) && !(d.how==0)) 11
        (cond (d.crossed && !(d.how==6) && !(d.how==8)) 11 0)))))
theorem qb {N:Nat} {d5 d10:Bool}  : H6 N [.int d0,.int d1,.int d2,.int d3,.int d4,.bool d5,.int d6,.int d7,.int d8,.int d9,.bool d10,.int d11]=some [.bool (OM (⟨d0,d1,d2,d3,d4,d5,d6,d7,d8,d9,d10,d11⟩:Del))]:=by
 show MI (std (VB N) N) (xOf _)=_;generalize hres:(some [.bool (OM (⟨d0,d1,d2,d3,d4,d5,d6,d7,d8,d9,d10,d11⟩:Del))]:Option (List PV))=RR;simp only [MI,lq9,std,xOf,PXb,PXc,PXn,PXm,Nat.reduceAdd,Int.reduceBEq];subst hres;simp only [OM];cases d0==2<;>cases d1==0<;>cases d4==0<;>cases d4==6<;>rfl
theorem kj {N:Nat} {d5 d10:Bool}  : HE N [.int d0,.int d1,.int d2,.int d3,.int d4,.bool d5,.int d6,.int d7,.int d8,.int d9,.bool d10,.int d11]=some [.int (DC (⟨d0,d1,d2,d3,d4,d5,d6,d7,d8,d9,d10,d11⟩:Del))]:=by
 show Rn (std (NU N) N) (xOf _)=_;generalize hres:(some [.int (DC (⟨d0,d1,d2,d3,d4,d5,d6,d7,d8,d9,d10,d11⟩:Del))]:Option (List PV))=RR;simp only [Rn,gQ,VC,lq9,std,xOf,PXb,PXc,PXn,PXm,Nat.reduceAdd,Int.reduceBEq,AD3,qb];subst hres;simp only [DC]
def M2 (d:Del):Bool :=
  cond (d.type==2) (d.source==0 && !(d.boundary==6)) (cond (d.source==0) (d.runs==0&&d.boundary==0)
    (cond (d.source==1) (!(d.boundary==6)||d.runs==0) (!(d.boundary==6)&&(iLt 0 d.runs || !(d.boundary==0)))))
theorem fB {N:Nat} {d5 d10:Bool}  : D4 N [.int d0,.int d1,.int d2,.int d3,.int d4,.bool d5,.int d6,.int d7,.int d8,.int d9,.bool d10,.int d11]=some [.bool (M2 (⟨d0,d1,d2,d3,d4,d5,d6,d7,d8,d9,d10,d11⟩:Del))]:=by
 show GA (std (OY N) N) (xOf _)=_;generalize hres:(some [.bool (M2 (⟨d0,d1,d2,d3,d4,d5,d6,d7,d8,d9,d10,d11⟩:Del))]:Option (List PV))=RR;simp only [GA,lq9,std,xOf,PXb,PXc,PXn,PXm,Nat.reduceAdd,Int.reduceBEq];subst hres;simp only [M2]
theorem AF6 (x a b:Int):(!btw x a b)=(iLt x a||iLt b x):=by
 unfold btw iLe iLt;rw [Bool.eq_iff_iff];simp only [Bool.not_eq_true',Bool.and_eq_false_iff,decide_eq_false_iff_not,Bool.or_eq_true,decide_eq_true_eq];omega
theorem AE4 {d:Del} (h:0≤d.runs):(!M2 d || !d.type==2&&d.source==1&&d.runs==0&&d.boundary==0) = !OM d:=by
 unfold M2 OM;rw [qo h];cases h1:d.source==0 with
 | true =>
  rw [RZ h1 (c:=1) rfl];cases d.type==2<;>cases d.runs==0<;>cases d.boundary==0<;>cases d.boundary==6<;>rfl
 | false =>
  cases h2:d.boundary==0 with
  | true =>
   rw [RZ h2 (c:=6) rfl];cases d.type==2<;>cases d.source==1<;>cases d.runs==0<;>rfl
  | false=>cases d.type==2<;>cases d.source==1<;>cases d.runs==0<;>cases d.boundary==6<;>rfl
theorem Vz {N:Nat} {d5 d10:Bool}  : Co N [.int d0,.int d1,.int d2,.int d3,.int d4,.bool d5,.int d6,.int d7,.int d8,.int d9,.bool d10,.int d11]=some [.int (DC (⟨d0,d1,d2,d3,d4,d5,d6,d7,d8,d9,d10,d11⟩:Del))]:=by
 show JB (std (Kl N) N) (xOf _)=_;generalize hres:(some [.int (DC (⟨d0,d1,d2,d3,d4,d5,d6,d7,d8,d9,d10,d11⟩:Del))]:Option (List PV))=RR;simp only [JB,MM,lq9,std,xOf,PXb,PXc,PXn,PXm,Nat.reduceAdd,Int.reduceBEq,fB];subst hres;simp only [DC,AF6,Bool.or_assoc];cases h2:(iLt d2 0||(iLt 7 d2||(iLt d3 0||(iLt d2 d3 || !d4==0 && !d4==4 && !d4==6)))) with
 | true=>rfl
 | false =>
  have h3:0≤d2:=by
   rw [Bool.or_eq_false_iff] at h2;have:=h2.1;simp only [iLt,decide_eq_false_iff_not] at this;omega
  have:=AE4 (d:=(⟨d0,d1,d2,d3,d4,d5,d6,d7,d8,d9,d10,d11⟩:Del)) h3;simp only at this;rw [this]
theorem mH {N:Nat} {a:Int} {b:Int} {c:Int} {d:Int} {e:Int} {x:Int} {p:Bool} {q:Bool} {u:Bool} {v:Bool}  : Fq N [.int a,.int b,.int c,.int d,.int e,.int x,.bool p,.bool q,.bool u,.bool v]=some [.int (IntKind.i64.wrap (IntKind.i64.wrap (IntKind.i64.wrap (IntKind.i64.wrap (a+b)+c)+d)+e))]:=by
 rfl
theorem yQ {N:Nat} {a:Int} {b:Int} {c:Int} {d:Int} {e:Int} {x:Int} {p:Bool} {q:Bool} {u:Bool} {v:Bool}  : R3 N [.int a,.int b,.int c,.int d,.int e,.int x,.bool p,.bool q,.bool u,.bool v]=some [.int (IntKind.i64.wrap (IntKind.i64.wrap (IntKind.i64.wrap (IntKind.i64.wrap (a+b)+c)+d)+e))]:=by
 rfl
def E6 (c:Cre):Int:=IntKind.i64.wrap (IntKind.i64.wrap (IntKind.i64.wrap (IntKind.i64.wrap (c.batter+c.wides)+c.noballs)+c.byes)+c.legbyes)
def aF (h:Int):Bool:=iLe 1 h&&iLe h 5
theorem ep {N:Nat} {h:Int}  : D3 N [.int h]=some [.bool (aF h)]:=by
 show F6 (std (OS N) N) (xOf _)=_;simp only [F6,lq9,std,xOf,PXb,PXc,PXn,PXm,Nat.reduceAdd,Int.reduceBEq,aF]
theorem q0 {N:Nat} {h:Int}  : Hq N [.int h]=some [.bool (aF h)]:=by
 show L9 (std (U8 N) N) (xOf _)=_;simp only [L9,lq9,std,xOf,PXb,PXc,PXn,PXm,Nat.reduceAdd,Int.reduceBEq];refine congrArg (fun b=>some [PV.bool b]) ?_
 by_cases e1:h=1;· subst e1;rfl
 by_cases e2:h=2;· subst e2;rfl
 by_cases e3:h=3;· subst e3;rfl
 by_cases e4:h=4;· subst e4;rfl
 by_cases e5:h=5;· subst e5;rfl
 rw [beq_false_of_ne e1,beq_false_of_ne e2,beq_false_of_ne e3,beq_false_of_ne e4,beq_false_of_ne e5];unfold aF iLe
 symm
 show (_&&_)=false;rw [Bool.and_eq_false_iff];simp only [decide_eq_false_iff_not];omega
theorem yf {N:Nat} {d5 d10:Bool}  : Mh N [.int d0,.int d1,.int d2,.int d3,.int d4,.bool d5,.int d6,.int d7,.int d8,.int d9,.bool d10,.int d11]=some [.bool (!((!(d2.tmod 2==0))==d5))]:=by
 show SH (std (dV N) N) (xOf _)=_;simp only [SH,lq9,std,xOf,PXb,PXc,PXn,PXm,Nat.reduceAdd,Int.reduceBEq]
def Uw (r:Rul) (d:Del):Cre :=
  let n:=IntKind.i64.wrap (IntKind.i64.wrap (d.runs - d.short)+d.boundary)
  let b:=cond (!(d.type==2)&&d.source==1) n 0
  let w:=cond (d.type==2) (IntKind.i64.wrap (r.wide+n)) 0
  let o:=cond (d.type==3) r.noball 0
  { batter:=b,wides:=w,noballs:=o,byes:=cond (!(d.type==2)&&d.source==2) n 0,legbyes:=cond (!(d.type==2)&&d.source==3) n 0,bowler:=IntKind.i64.wrap (IntKind.i64.wrap (b+w)+o),
    counts:=d.type==1,faced := !(d.type==2),wicket:=aF d.how,swap := !((!(d.runs.tmod 2==0))==d.crossed) }
def AF (r:Rul) (d:Del):Cre:=cond (!(DC d==0)) ⟨0,0,0,0,0,0,false,false,false,false⟩ (Uw r d)
theorem AAp {d:Del} (h:(DC d==0)=true):0≤d.runs∧d.runs≤7:=by
 unfold DC at h;cases h1:(iLt d.type 1||iLt 3 d.type||iLt 3 d.source||iLt 10 d.how || !btw d.sector 0 8) with
 | true=>rw [h1] at h;cases h
 | false =>
  cases h2:(!btw d.runs 0 7 || !btw d.short 0 d.runs||(!(d.boundary==0) && !(d.boundary==4) && !(d.boundary==6))) with
  | true=>rw [h1,h2] at h;cases h
  | false =>
   rw [Bool.or_eq_false_iff,Bool.or_eq_false_iff] at h2;have:=h2.1.1;simp only [btw,iLe,Bool.not_eq_false',zzj,decide_eq_true_eq] at this;exact this
theorem AEr {n:Int} (h:0≤n∧n≤7) (b:Bool):((cond b (IntKind.i64.wrap (n+1)) n).tmod 2==1) = !((!(n.tmod 2==0))==b):=by
 obtain ⟨k,rfl⟩:∃ k:Nat,n=k:=⟨n.toNat,by omega⟩;have:k=0∨k=1∨k=2∨k=3∨k=4∨k=5∨k=6∨k=7:=by omega
 rcases this with h | h | h | h | h | h | h | h<;>subst h<;>cases b<;>rfl
theorem T7 {N:Nat} {r8:Bool} {r0:ByteArray} {r13:Rows} {d5 d10:Bool}  : CV N [.str r0,.int r1,.int r2,.int r3,.int r4,.int r5,.int r6,.int r7,.bool r8,.int r9,.int r10,.int r11,.int r12,.rows r13,.int d0,.int d1,.int d2,.int d3,.int d4,.bool d5,.int d6,.int d7,.int d8,.int d9,.bool d10,.int d11]=some (AF (⟨r0,r1,r2,r3,r4,r5,r6,r7,r8,r9,r10,r11,r12,r13⟩:Rul) (⟨d0,d1,d2,d3,d4,d5,d6,d7,d8,d9,d10,d11⟩:Del)).ls:=by
 show Hd (std (F5 N) N) (xOf _)=_;generalize hres:(some (AF (⟨r0,r1,r2,r3,r4,r5,r6,r7,r8,r9,r10,r11,r12,r13⟩:Rul) (⟨d0,d1,d2,d3,d4,d5,d6,d7,d8,d9,d10,d11⟩:Del)).ls:Option (List PV))=RR;simp only [Hd,OA,Lj,lq9,std,xOf,PXb,PXc,PXn,PXm,Nat.reduceAdd,Int.reduceBEq,Vz,ep];subst hres;simp only [AF,Uw];cases hl:DC (⟨d0,d1,d2,d3,d4,d5,d6,d7,d8,d9,d10,d11⟩:Del)==0 with
 | false=>rfl
 | true =>
  have hs:=AEr (AAp hl) d5;simp only at hs;simp only [PXb,PXc,PXn,PXm,Nat.reduceAdd,Int.reduceBEq,hs];cases h0:d0==2<;>cases h3:d0==3<;>cases h1:d1==1<;>cases h2:d1==2<;>cases h4:d1==3<;>first
   | rfl
   | (rw [RZ h0 (c:=3) rfl] at h3;exact absurd h3 (by decide))
   | (rw [RZ h1 (c:=2) rfl] at h2;exact absurd h2 (by decide))
   | (rw [RZ h1 (c:=3) rfl] at h4;exact absurd h4 (by decide))
   | (rw [RZ h2 (c:=3) rfl] at h4;exact absurd h4 (by decide))
theorem f7 {N:Nat} {r8:Bool} {r0:ByteArray} {r13:Rows} {d5 d10:Bool}  : Hu N [.str r0,.int r1,.int r2,.int r3,.int r4,.int r5,.int r6,.int r7,.bool r8,.int r9,.int r10,.int r11,.int r12,.rows r13,.int d0,.int d1,.int d2,.int d3,.int d4,.bool d5,.int d6,.int d7,.int d8,.int d9,.bool d10,.int d11]=some (AF (⟨r0,r1,r2,r3,r4,r5,r6,r7,r8,r9,r10,r11,r12,r13⟩:Rul) (⟨d0,d1,d2,d3,d4,d5,d6,d7,d8,d9,d10,d11⟩:Del)).ls:=by
 show QD (std (IJ N) N) (xOf _)=_;generalize hres:(some (AF (⟨r0,r1,r2,r3,r4,r5,r6,r7,r8,r9,r10,r11,r12,r13⟩:Rul) (⟨d0,d1,d2,d3,d4,d5,d6,d7,d8,d9,d10,d11⟩:Del)).ls:Option (List PV))=RR;simp only [QD,Yq,Uo,Ye,lq9,std,xOf,PXb,PXc,PXn,PXm,Nat.reduceAdd,Int.reduceBEq,kj,q0,yf];subst hres;simp only [AF,Uw];cases hl:DC (⟨d0,d1,d2,d3,d4,d5,d6,d7,d8,d9,d10,d11⟩:Del)==0 with
 | false=>rfl
 | true =>
  simp only [PXb,PXc,PXn,PXm,Nat.reduceAdd,Int.reduceBEq];cases h0:d0==2<;>cases h3:d0==3<;>cases h1:d1==1<;>cases h2:d1==2<;>cases h4:d1==3<;>first
   | rfl
   | (rw [RZ h0 (c:=3) rfl] at h3;exact absurd h3 (by decide))
   | (rw [RZ h1 (c:=2) rfl] at h2;exact absurd h2 (by decide))
   | (rw [RZ h1 (c:=3) rfl] at h4;exact absurd h4 (by decide))
   | (rw [RZ h2 (c:=3) rfl] at h4;exact absurd h4 (by decide))
def onS (h t:Int):Bool :=
 cond (h==1||h==2||h==3) (t==1) (cond (h==4||h==5) (t==1||t==2) (cond (h==7) (t==1||t==3) (cond (h==6||h==8) (t==1||t==2||t==3) false)))
def bK (h:Int):Bool:=h==6||h==7||h==8
def OT (h:Int):Bool:=h==6||h==8
def XP (h:Int):Bool:=h==2||h==4||h==6
theorem vk {N:Nat} {h:Int}  : LX N [.int h]=some [.bool (bK h)]:=by
 show O7 (std (ZR N) N) (xOf _)=_;simp only [O7,lq9,std,xOf,PXb,PXc,PXn,PXm,Nat.reduceAdd,Int.reduceBEq,bK]
theorem AC8 {N:Nat} {h:Int} {t:Int}  : WI N [.int h,.int t]=some [.bool (onS h t)]:=by
 show cO (std (nV N) N) (xOf _)=_;simp only [cO,lq9,std,xOf,PXb,PXc,PXn,PXm,Nat.reduceAdd,Int.reduceBEq];unfold onS;simp only [Bool.or_assoc,PXb,PXc,PXn,PXm,Nat.reduceAdd,Int.reduceBEq]
theorem q9 {N:Nat} {h:Int}  : H1 N [.int h]=some [.bool (XP h),.bool (XP h),.bool (h==6)]:=by
 show MB (std (WV N) N) (xOf _)=_;simp only [MB,lq9,std,xOf,PXb,PXc,PXn,PXm,Nat.reduceAdd,Int.reduceBEq,XP]
def L6 (d:Del) (free:Bool):Int :=
  cond (d.how==0) (cond (!(d.victim==0)) 14 (cond (!(d.fielder==0) || !(d.second==0)||d.sub) 15 0))
    (cond (!onS d.how d.type||free && !bK d.how) 13 (cond (!OT d.how&&(!(d.source==0) || !(d.runs==0))) 12
      (cond (!(d.victim==1) && !(d.victim==2&&OT d.how)) 14
        (cond (XP d.how && !btw d.fielder 1 11 || !XP d.how && !(d.fielder==0)) 15
          (cond (!(d.second==0)&&(!(d.how==6) || !btw d.second 1 11||d.second==d.fielder)) 15
            (cond (d.sub && !(d.how==2) && !(d.how==6)) 18 0))))))
theorem qk {N:Nat} {d5 d10:Bool} {f:Bool}  : Lt N [.int d0,.int d1,.int d2,.int d3,.int d4,.bool d5,.int d6,.int d7,.int d8,.int d9,.bool d10,.int d11,.bool f]=some [.int (L6 (⟨d0,d1,d2,d3,d4,d5,d6,d7,d8,d9,d10,d11⟩:Del) f)]:=by
 show Lh (std (Fd N) N) (xOf _)=_;generalize hres:(some [.int (L6 (⟨d0,d1,d2,d3,d4,d5,d6,d7,d8,d9,d10,d11⟩:Del) f)]:Option (List PV))=RR;simp only [Lh,Sp,Zp,Uk,lq9,std,xOf,PXb,PXc,PXn,PXm,Nat.reduceAdd,Int.reduceBEq,AC8,vk,q9];subst hres;simp only [L6,AF6,OT,Bool.not_or,Bool.not_and,Bool.or_assoc];cases onS d6 d0<;>cases f<;>cases bK d6<;>rfl
def CE:Rows:=match B3 0 [] with
 | some [.rows l]=>l
 | _=>[]
theorem UG {N:Nat}:B3 N []=some [.rows CE]:=rfl
theorem l6:CE.length=11:=rfl
theorem gk {N:Nat} {h:Int} {n:ByteArray} {b:Bool} {c:Bool} {d:Bool} {e:Bool} {x:Bool} {t:Int}  : EN N [.int h,.str n,.bool b,.bool c,.bool d,.bool e,.bool x,.int t]=some [.bool (t==1&&b||t==2&&c||t==3&&d)]:=by
 show G7 (std (P1 N) N) (xOf _)=_;simp only [G7,lq9,std,xOf,PXb,PXc,PXn,PXm,Nat.reduceAdd,Int.reduceBEq]
theorem YO {N:Nat} {n:Int}  : DH N [.int n]=some [.bool (btw n 1 11)]:=by
 show EC (std (Kh N) N) (xOf _)=_;simp only [EC,lq9,std,xOf,PXb,PXc,PXn,PXm,Nat.reduceAdd,Int.reduceBEq];rfl
def ABG (i j:Nat):Bool:=pvB (AJ CE i j)
def wOk (t:Int) (free:Bool) (i:Nat):Bool :=
  (t==1&&ABG i 2||t==2&&ABG i 3||t==3&&ABG i 4)&&(!free||atI CE i 0==6||atI CE i 0==7||atI CE i 0==8)
def Iw (t:Int) (free:Bool):Nat→Rows
 | 0=>[]
 | i+1=>cond (wOk t free i) (Iw t free i++[[.int (atI CE i 0)]]) (Iw t free i)
theorem mi (t:Int) (free:Bool):∀ i,(Iw t free i).length≤i
 | 0=>Nat.le_refl _
 | i+1=>by
  have:=mi t free i;unfold Iw;cases wOk t free i
  ·exact Nat.le_succ_of_le this
  ·simp;exact this
theorem mI {N:Nat} {t:Int} {f:Bool} (hN:2097152<N):Ft N [.int t,.bool f]=some [.rows (Iw t f 11)]:=by
 show I7 (std (G0 N) N) (xOf _)=_;simp only [I7,N7,Mz,lq9,std,xOf,PXb,PXc,PXn,AD,UG,gk];refine AN (BV (len:=CE.length) (fun i=>[.rows (Iw t f i),.int (i:Int)]) [.rows (Iw t f 11)] ?_ ?_ N (by rw [l6];omega)) rfl
 ·intro self;simp only [PXb,PXc,PXn,AD,Aj];rfl
 ·intro i self hi;have hi2:i<11:=hi;have h2:(Iw t f i++[[PV.int (atI CE i 0)]]).length≤4194304:=by have:=mi t f i;simp;omega
  simp only [PXb,PXc,AD,Ah (show i≤1099511627776 by omega),Ad hi,AM hi,BW,Iw,DJ h2 (show 1≤4096 by omega)];unfold wOk ABG;cases ((t==1&&pvB (AJ CE i 2)||t==2&&pvB (AJ CE i 3)||t==3&&pvB (AJ CE i 4))&&(!f||atI CE i 0==6||atI CE i 0==7||atI CE i 0==8))<;>rfl
theorem ij {N:Nat} {L:Rows} {v:Int} (hN:L.length<N) (hl:L.length≤1048576):EO N [.rows L,.int v]=some [.int (TH (fun j=>v==atI L j 0) L.length)]:=by
 show Gp (std (Pl N) N) (xOf _)=_;simp only [Gp,lq9,std,xOf,PXb,PXc,PXn,AD];refine AN (C3 (len:=L.length) (HI fun j=>v==atI L j 0) ?_ ?_ L.length 0 N (by omega) (by omega)) ?_
 ·intro self;simp only [PXb,PXc,PXn,AD,Aj]
 ·intro i self hi;simp only [PXb,PXc,PXn,AD,Ah (show i≤1099511627776 by omega),Ad hi,AM hi,HI,BW];cases v==atI L i 0<;>rfl
 ·unfold TH;cases Ca (HI fun j=>v==atI L j 0) L.length 0<;>rfl
theorem Z7 {N:Nat} {L:Rows} {v:Int} (hN:L.length<N) (hl:L.length≤1048576):DV N [.rows L,.int v]=some [.bool (H0 L L.length v)]:=by
 show Ej (std (GJ N) N) (xOf _)=_;simp only [Ej,Jz,lq9,std,xOf,PXb,PXc,PXn,AD,ij hN hl,Ls,H0]
theorem AEA (L:Rows) (v:Int):H0 L L.length v=MS (fun x=>v==x) L:=rfl
theorem AF3 (p:Int→Bool) (b:Bool) (L:Rows) (x:Int):MS p (cond b (L++[[.int x]]) L)=(MS p L||(b&&p x)):=by
 cases b with
 | false=>simp
 | true=>rw [cond_true,wK,Bool.true_and];congr 1;rw [Ri];simp [AA,pvI]
theorem vC (t:Int) (free:Bool) (p:Int→Bool):∀ i,MS p (Iw t free i)=A1 (fun j=>wOk t free j&&p (atI CE j 0)) i 0
 | 0=>rfl
 | i+1=>by rw [gW,← vC t free p i,Iw,AF3,Nat.zero_add]
theorem ADz (t h:Int) (free:Bool):H0 (Iw t free 11) (Iw t free 11).length h=(onS h t&&(!free||bK h)):=by
 rw [AEA,vC];have key:∀ j,j<11→atI CE j 0=j:=by
  intro j hj;have:j=0∨j=1∨j=2∨j=3∨j=4∨j=5∨j=6∨j=7∨j=8∨j=9∨j=10:=by omega
  rcases this with h | h | h | h | h | h | h | h | h | h | h<;>subst h<;>rfl
 by_cases hr:0≤h∧h≤10
 ·obtain ⟨k,rfl⟩:∃ k:Nat,h=k:=⟨h.toNat,by omega⟩;have:k=0∨k=1∨k=2∨k=3∨k=4∨k=5∨k=6∨k=7∨k=8∨k=9∨k=10:=by omega
  rcases this with h | h | h | h | h | h | h | h | h | h | h<;>subst h<;>simp only [Bg,Ib,wOk,onS]<;>cases free<;>cases t==1<;>cases t==2<;>cases t==3<;>rfl
 ·rw [L7.2 fun j _ hj=>by
   rw [key j (by omega),show (h==(j:Int))=false from beq_false_of_ne (by omega),Bool.and_false]]
  have e:∀ n:Int,0≤n→n≤10→(h==n)=false:=fun n h0 h1=>beq_false_of_ne (by omega)
  unfold onS;rw [e 1 (by omega) (by omega),e 2 (by omega) (by omega),e 3 (by omega) (by omega),e 4 (by omega) (by omega),e 5 (by omega) (by omega),e 6 (by omega) (by omega),e 7 (by omega) (by omega),e 8 (by omega) (by omega)];rfl
def cE (h:Int):List PV:=match Ca (fun i=>cond (atI CE i 0==h) (some [.int (pvI (AJ CE i 0)),.str (pvS (AJ CE i 1)),.bool (pvB (AJ CE i 2)),.bool (pvB (AJ CE i 3)),.bool (pvB (AJ CE i 4)),.bool (pvB (AJ CE i 5)),.bool (pvB (AJ CE i 6))]) none) 11 0 with
 | some r=>r
 | none=>[.int 0,.str ⟨#[]⟩,.bool false,.bool false,.bool false,.bool false,.bool false]
theorem UO {ans:Nat→Option (List PV)} {r:List PV}:∀ (k i:Nat),Ca ans k i=some r→∃ j,i≤j∧j<i+k∧ans j=some r
 | 0,i,h=>by cases h
 | k+1,i,h=>by
  simp only [Ca] at h;cases ha:ans i with
  | some x=>rw [ha] at h;cases h;exact ⟨i,Nat.le_refl _,by omega,ha⟩
  | none =>
   rw [ha] at h;obtain ⟨j,h1,h2,h3⟩:=UO k (i+1) h;exact ⟨j,by omega,by omega,h3⟩
theorem AC6 (h:Int):∃ a b c d e f g,cE h=[.int a,.str b,.bool c,.bool d,.bool e,.bool f,.bool g]:=by
 unfold cE;generalize hf:Ca _ 11 0=o;cases o with
 | none=>exact ⟨_,_,_,_,_,_,_,rfl⟩
 | some r =>
  obtain ⟨j,_,_,h3⟩:=UO _ _ hf;cases hb:atI CE j 0==h with
  | false=>rw [hb] at h3;cases h3
  | true=>rw [hb] at h3;cases h3;exact ⟨_,_,_,_,_,_,_,rfl⟩
theorem rN {N:Nat} {h:Int} (hN:2097152<N):D7 N [.int h]=some (cE h):=by
 show ME (std (N3 N) N) (xOf _)=_;simp only [ME,P4,lq9,std,xOf,PXb,PXc,PXn,AD,UG];refine AN (C3 (len:=CE.length) (fun i=>cond (atI CE i 0==h) (some [.int (pvI (AJ CE i 0)),.str (pvS (AJ CE i 1)),.bool (pvB (AJ CE i 2)),.bool (pvB (AJ CE i 3)),.bool (pvB (AJ CE i 4)),.bool (pvB (AJ CE i 5)),.bool (pvB (AJ CE i 6))]) none) ?_ ?_ CE.length 0 N (by omega) (by rw [l6];omega)) ?_
 ·intro self;simp only [PXb,PXc,PXn,AD,Aj]
 ·intro i self hi;have hi2:i<11:=hi;simp only [PXb,PXc,PXn,AD,Ah (show i≤1099511627776 by omega),Ad hi,AM hi,BW];cases atI CE i 0==h<;>rfl
 ·unfold cE;rw [l6];generalize hf:Ca _ 11 0=o;cases o with
  | none=>rfl
  | some r =>
   obtain ⟨j,_,_,h3⟩:=UO _ _ hf;cases hb:atI CE j 0==h with
   | false=>rw [hb] at h3;cases h3
   | true=>rw [hb] at h3;cases h3;rfl
theorem ABr (h:Int):pvB (AA (cE h) 5)=XP h∧pvB (AA (cE h) 6)=OT h:=by
 by_cases hr:0≤h∧h≤10
 ·obtain ⟨k,rfl⟩:∃ k:Nat,h=k:=⟨h.toNat,by omega⟩;have:k=0∨k=1∨k=2∨k=3∨k=4∨k=5∨k=6∨k=7∨k=8∨k=9∨k=10:=by omega
  rcases this with h | h | h | h | h | h | h | h | h | h | h<;>subst h<;>exact ⟨rfl,rfl⟩
 ·have e:∀ n:Int,0≤n→n≤10→(h==n)=false:=fun n h0 h1=>beq_false_of_ne (by omega)
  have key:∀ j,j<11→atI CE j 0=j:=by
   intro j hj;have:j=0∨j=1∨j=2∨j=3∨j=4∨j=5∨j=6∨j=7∨j=8∨j=9∨j=10:=by omega
   rcases this with h | h | h | h | h | h | h | h | h | h | h<;>subst h<;>rfl
  unfold cE;generalize hf:Ca _ 11 0=o;cases o with
  | none =>
   unfold XP OT;rw [e 2 (by omega) (by omega),e 4 (by omega) (by omega),e 6 (by omega) (by omega),e 8 (by omega) (by omega)];exact ⟨rfl,rfl⟩
  | some r =>
   obtain ⟨j,_,hj,h3⟩:=UO _ _ hf;rw [key j (by omega),show ((j:Int)==h)=false from beq_false_of_ne (by omega)] at h3;cases h3
def Sk (d:Del) (m:Bool):Bool :=
 !(!(m==btw d.fielder 1 11) || !m && !(d.fielder==0))&&(d.second==0||d.how==6&&btw d.second 1 11 && !(d.second==d.fielder))
theorem aV {N:Nat} {d5 d10:Bool} {a:Int} {n:ByteArray} {b:Bool} {c:Bool} {e:Bool} {f:Bool} {g:Bool}  : Dk N [.int d0,.int d1,.int d2,.int d3,.int d4,.bool d5,.int d6,.int d7,.int d8,.int d9,.bool d10,.int d11,.int a,.str n,.bool b,.bool c,.bool e,.bool f,.bool g]=some [.bool (Sk (⟨d0,d1,d2,d3,d4,d5,d6,d7,d8,d9,d10,d11⟩:Del) f)]:=by
 show FJ (std (HC N) N) (xOf _)=_;generalize hres:(some [.bool (Sk (⟨d0,d1,d2,d3,d4,d5,d6,d7,d8,d9,d10,d11⟩:Del) f)]:Option (List PV))=RR;simp only [FJ,Ia,lq9,std,xOf,PXb,PXc,PXn,PXm,Nat.reduceAdd,Int.reduceBEq,YO];subst hres;simp only [Sk];cases d9==0<;>cases d6==6<;>cases f<;>cases btw d8 1 11<;>cases d8==0<;>first | rfl | (cases btw d9 1 11<;>rfl)
theorem AGP {α:Type} (a b:Bool) (x y:α):cond (a||b) x y=cond a x (cond b x y):=by cases a<;>rfl
theorem yB (d:Del) (m:Bool):(!Sk d m)=((m && !btw d.fielder 1 11 || !m && !(d.fielder==0))||(!(d.second==0)&&(!(d.how==6) || !btw d.second 1 11||d.second==d.fielder))):=by
 unfold Sk;cases hb:btw d.fielder 1 11<;>cases hf:d.fielder==0
 ·cases m<;>cases d.second==0<;>cases d.how==6<;>cases btw d.second 1 11<;>cases d.second==d.fielder<;>rfl
 ·cases m<;>cases d.second==0<;>cases d.how==6<;>cases btw d.second 1 11<;>cases d.second==d.fielder<;>rfl
 ·cases m<;>cases d.second==0<;>cases d.how==6<;>cases btw d.second 1 11<;>cases d.second==d.fielder<;>rfl
 ·rw [beq_iff_eq.1 hf] at hb;exact absurd hb (by decide)
theorem cU {N:Nat} {d5 d10:Bool} {f:Bool} (hN:2097152<N):Dd N [.int d0,.int d1,.int d2,.int d3,.int d4,.bool d5,.int d6,.int d7,.int d8,.int d9,.bool d10,.int d11,.bool f]=some [.int (L6 (⟨d0,d1,d2,d3,d4,d5,d6,d7,d8,d9,d10,d11⟩:Del) f)]:=by
 show FH (std (CT N) N) (xOf _)=_;generalize hres:(some [.int (L6 (⟨d0,d1,d2,d3,d4,d5,d6,d7,d8,d9,d10,d11⟩:Del) f)]:Option (List PV))=RR;have hl:=mi d0 f 11;obtain ⟨a,b,c,d,e,m,g,hline⟩:=AC6 d6;have hbits:=ABr d6;rw [hline] at hbits;have hm:m=XP d6:=hbits.1;have hg:g=OT d6:=hbits.2;have h1:(Iw d0 f 11).length<N:=by omega
 have h2:(Iw d0 f 11).length≤1048576:=by omega
 simp only [FH,MX,JJ,Li,JW,lq9,std,xOf,PXb,PXc,PXn,PXm,Nat.reduceAdd,Int.reduceBEq,rN hN,hline,mI hN,Z7 h1 h2,ADz,aV,yB];subst hres;simp only [L6,AGP];rw [hm,hg];unfold OT;cases d6==0<;>cases onS d6 d0<;>cases f<;>cases bK d6<;>try rfl
 all_goals (cases d6==6<;>cases d6==8<;>cases d7==2<;>rfl)
theorem il {N:Nat} {a:Int} {b:Int} {c:Int}  : ET N [.int a,.int b,.int c]=some [.bool (btw a b c)]:=by
 show LG (std (Qb N) N) (xOf _)=_;show some [PV.bool (cond (iLe b a) (iLe a c) false)]=_;rw [Rr];rfl
theorem AD4 {N:Nat} {a:Int} {b:Int} {c:Int}  : WZ N [.int a,.int b,.int c]=some [.bool (btw a b c)]:=by
 show mG (std (oW N) N) (xOf _)=_;show some [PV.bool (cond (iLe b a) (iLe a c) false)]=_;rw [Rr];rfl
theorem nP {N:Nat} {a:Int} {b:Int} {c:Int}  : Gm N [.int a,.int b,.int c]=some [.bool (btw a b c)]:=by
 show PR (std (To N) N) (xOf _)=_;show some [PV.bool (cond (iLe b a) (iLe a c) false)]=_;rw [Rr];rfl
theorem AD8 {N:Nat} {a:Int} {b:Int} {c:Int}  : Vf N [.int a,.int b,.int c]=some [.bool (btw a b c)]:=by
 show mv (std (pE N) N) (xOf _)=_;show some [PV.bool (cond (iLe b a) (iLe a c) false)]=_;rw [Rr];rfl
def bz (d:Del):Int :=
  cond (iLt d.type 1||iLt 3 d.type||iLt 3 d.source||iLt 10 d.how) 3
    (cond (!btw d.runs 0 7 || !btw d.short 0 d.runs||(!(d.boundary==0) && !(d.boundary==4) && !(d.boundary==6)) || !btw d.victim 0 2 || !btw d.fielder 0 11 || !btw d.second 0 11 || !btw d.sector 0 8) 2 0)
theorem mV {N:Nat} {d5 d10:Bool}  : Fk N [.int d0,.int d1,.int d2,.int d3,.int d4,.bool d5,.int d6,.int d7,.int d8,.int d9,.bool d10,.int d11]=some [.int (bz (⟨d0,d1,d2,d3,d4,d5,d6,d7,d8,d9,d10,d11⟩:Del))]:=by
 show I5 (std (Ku N) N) (xOf _)=_;generalize hres:(some [.int (bz (⟨d0,d1,d2,d3,d4,d5,d6,d7,d8,d9,d10,d11⟩:Del))]:Option (List PV))=RR;simp only [I5,Mp,lq9,std,xOf,PXb,PXc,PXn,PXm,Nat.reduceAdd,Int.reduceBEq,il];subst hres;simp only [bz]
theorem yL {N:Nat} {d5 d10:Bool}  : Mb N [.int d0,.int d1,.int d2,.int d3,.int d4,.bool d5,.int d6,.int d7,.int d8,.int d9,.bool d10,.int d11]=some [.int (bz (⟨d0,d1,d2,d3,d4,d5,d6,d7,d8,d9,d10,d11⟩:Del))]:=by
 show SQ (std (Tb N) N) (xOf _)=_;generalize hres:(some [.int (bz (⟨d0,d1,d2,d3,d4,d5,d6,d7,d8,d9,d10,d11⟩:Del))]:Option (List PV))=RR;simp only [SQ,iX,lq9,std,xOf,PXb,PXc,PXn,PXm,Nat.reduceAdd,Int.reduceBEq,AD4];subst hres;simp only [bz]
def loS (k:Int):Int:=cond (k==7) 0 (cond (k==13) 1 0)
def hiS (k:Int):Int:=cond (k==7) 11 (cond (k==13) 99 100000)
theorem qi {N:Nat} {k:Int}  : ID N [.int k]=some [.int (loS k),.int (hiS k)]:=by
 show Lz (std (Vh N) N) (xOf _)=_;simp only [Lz,lq9,std,xOf,PXb,PXc,PXn,PXm,Nat.reduceAdd,Int.reduceBEq];unfold loS hiS;cases k==7<;>cases k==13<;>rfl
theorem AAj {N:Nat} {k:Int}  : Oy N [.int k]=some [.int (loS k),.int (hiS k)]:=by
 show UN (std (fx N) N) (xOf _)=_;simp only [UN,lq9,std,xOf,PXb,PXc,PXn,PXm,Nat.reduceAdd,Int.reduceBEq];unfold loS hiS;cases k==7<;>cases k==13<;>rfl
def uS (k:Int):Bool:=k==1||k==12||k==14||k==11||k==13
def uP (k:Int):Bool:=k==2||k==3||k==8||k==5||k==6||k==9
def uO (k:Int):Bool:=k==2
def uY (k:Int):Bool:=k==1||k==12||k==14||k==5||k==6||k==9
def uR (k:Int):Bool:=k==7||k==13||k==15
def uV (k:Int):Bool:=k==15
def uB (k:Int):Bool:=k==4
theorem ZG {k:Int} (h:(iLt k 1||iLt 16 k)=false):k=1∨k=2∨k=3∨k=4∨k=5∨k=6∨k=7∨k=8∨k=9∨k=10∨k=11∨k=12∨k=13∨k=14∨k=15∨k=16:=by
 simp only [iLt,Bool.or_eq_false_iff,decide_eq_false_iff_not] at h;omega
theorem AD1 {k:Int} (h:(iLt k 1||iLt 16 k)=true) (n:Int) (h1:1≤n) (h2:n≤16):(k==n)=false:=by
 simp only [iLt,Bool.or_eq_true,decide_eq_true_eq] at h;exact beq_false_of_ne (by omega)
def AAF:Rows:=match GZ 0 [] with
 | some [.rows l]=>l
 | _=>[]
theorem uJ {N:Nat}:GZ N []=some [.rows AAF]:=rfl
def Du (k f:Int):Bool:=iLe 0 (Lib.indexByte (pvS (AJ AAF (IntKind.u8.wrap (k - 1)).toNat 1)).data.toList f.toNat.toUInt8)||(k==5&&f==121)
theorem fG {N:Nat} {s:ByteArray} {f:Int}  : D2 N [.str s,.int f]=some [.int (Lib.indexByte s.data.toList f.toNat.toUInt8)]:=by
 show F7 (std (Hn N) N) (xOf _)=_;simp only [F7,IZ,lq9,std,xOf,PXb,PXc,PXn,PXm,Nat.reduceAdd,Int.reduceBEq,Cz,nf]
theorem gn {N:Nat} {k:Int} {f:Int} (h:(iLt k 1||iLt 16 k)=false):LH N [.int k,.int f]=some [.bool (Du k f)]:=by
 show Ph (std (L8 N) N) (xOf _)=_;have hi:iIn (IntKind.u8.wrap (k - 1)) (AAF.length:Int)=true:=by
  rcases ZG h with h | h | h | h | h | h | h | h | h | h | h | h | h | h | h | h<;>subst h<;>rfl
 simp only [Ph,Qc,VW,lq9,std,xOf,PXb,PXc,PXn,PXm,Nat.reduceAdd,Int.reduceBEq,uJ,fG,hi,Du]
theorem AFs {k:Int} (h:(iLt k 1||iLt 16 k)=false):Du k 115=uS k∧Du k 112=uP k∧Du k 111=uO k∧Du k 121=uY k∧Du k 114=uR k∧Du k 118=uV k∧Du k 98=uB k:=by
 rcases ZG h with h | h | h | h | h | h | h | h | h | h | h | h | h | h | h | h<;>subst h<;>exact ⟨rfl,rfl,rfl,rfl,rfl,rfl,rfl⟩
def uZ (d:Del):Bool:=d.type==0&&(d.source==0&&(d.runs==0&&(d.short==0&&(d.boundary==0&&(d.crossed==false&&(d.how==0&&(d.victim==0&&(d.fielder==0&&(d.second==0&&(d.sub==false&&d.sector==0))))))))))
def qX (e:Ev):Bool:=(!(e.side==0) && !uS e.kind)||((!(e.player==0) && !uP e.kind)||((!(e.other==0) && !uO e.kind)||((e.yes && !uY e.kind)||((!(e.runs==0) && !uR e.kind)||((!(e.overs==0) && !uV e.kind)||(!uZ e.ball && !uB e.kind))))))
def fa (e:Ev):Bool:=(!btw e.side 1 2&&uS e.kind)||((!btw e.player 1 11&&uP e.kind)||((!btw e.other 1 11&&uO e.kind)||((!btw e.runs (loS e.kind) (hiS e.kind)&&uR e.kind)||(!btw e.overs 0 90&&uV e.kind))))
def evS (e:Ev):Int:=cond (iLt e.kind 1||iLt 16 e.kind) 3 (cond (qX e) 1 (cond (fa e) 2 (cond (e.kind==4) (bz e.ball) 0)))
def evT (e:Ev):Rows:=[[.int 115,.bool (e.side==0),.bool (btw e.side 1 2)],[.int 112,.bool (e.player==0),.bool (btw e.player 1 11)],[.int 111,.bool (e.other==0),.bool (btw e.other 1 11)],[.int 121,.bool (!e.yes),.bool true],[.int 114,.bool (e.runs==0),.bool (btw e.runs (loS e.kind) (hiS e.kind))],[.int 118,.bool (e.overs==0),.bool (btw e.overs 0 90)],[.int 98,.bool (uZ e.ball),.bool true]]
theorem eA {N:Nat} {e4 e12 e17:Bool} (hN:2097152<N):Dr N [.int e0,.int e1,.int e2,.int e3,.bool e4,.int e5,.int e6,.int e7,.int e8,.int e9,.int e10,.int e11,.bool e12,.int e13,.int e14,.int e15,.int e16,.bool e17,.int e18]=some [.int (evS (⟨e0,e1,e2,e3,e4,e5,e6,⟨e7,e8,e9,e10,e11,e12,e13,e14,e15,e16,e17,e18⟩⟩:Ev))]:=by
 show Jg (std (Ei N) N) (xOf _)=_;generalize hres:(some [.int (evS (⟨e0,e1,e2,e3,e4,e5,e6,⟨e7,e8,e9,e10,e11,e12,e13,e14,e15,e16,e17,e18⟩⟩:Ev))]:Option (List PV))=RR;cases hk:iLt e0 1||iLt 16 e0 with
 | true =>
  simp only [Jg,Ji,Ic,K4,D8,lq9,std,xOf,PXb,PXc,AD,hk,← hres,evS]
 | false =>
  simp only [Jg,Ji,Ic,K4,D8,lq9,std,xOf,PXb,PXc,AD,hk,qi,nP];subst hres;obtain ⟨g1,g2,g3,g4,g5,g6,g7⟩:=AFs hk;refine AN (C1 (len:=7) (fun i => !pvB (AJ (evT (⟨e0,e1,e2,e3,e4,e5,e6,⟨e7,e8,e9,e10,e11,e12,e13,e14,e15,e16,e17,e18⟩⟩:Ev)) i 1) && !Du e0 (pvI (AJ (evT (⟨e0,e1,e2,e3,e4,e5,e6,⟨e7,e8,e9,e10,e11,e12,e13,e14,e15,e16,e17,e18⟩⟩:Ev)) i 0))) [.int 1] ?_ ?_ N (by omega)) ?_
  ·intro self;rfl
  ·intro i self hi;simp only [PXb,PXc,AD,Ah (show i≤1099511627776 by omega),List.length_cons,List.length_nil,Nat.reduceAdd,Ad hi,AM hi,gn hk];change cond (!pvB (AJ (evT (⟨e0,e1,e2,e3,e4,e5,e6,⟨e7,e8,e9,e10,e11,e12,e13,e14,e15,e16,e17,e18⟩⟩:Ev)) i 1) && !(!pvB (AJ (evT (⟨e0,e1,e2,e3,e4,e5,e6,⟨e7,e8,e9,e10,e11,e12,e13,e14,e15,e16,e17,e18⟩⟩:Ev)) i 1)&&Du e0 (pvI (AJ (evT (⟨e0,e1,e2,e3,e4,e5,e6,⟨e7,e8,e9,e10,e11,e12,e13,e14,e15,e16,e17,e18⟩⟩:Ev)) i 0)))) _ _=_;cases pvB (AJ (evT (⟨e0,e1,e2,e3,e4,e5,e6,⟨e7,e8,e9,e10,e11,e12,e13,e14,e15,e16,e17,e18⟩⟩:Ev)) i 1)<;>rfl
  ·have a1:A1 (fun i => !pvB (AJ (evT (⟨e0,e1,e2,e3,e4,e5,e6,⟨e7,e8,e9,e10,e11,e12,e13,e14,e15,e16,e17,e18⟩⟩:Ev)) i 1) && !Du e0 (pvI (AJ (evT (⟨e0,e1,e2,e3,e4,e5,e6,⟨e7,e8,e9,e10,e11,e12,e13,e14,e15,e16,e17,e18⟩⟩:Ev)) i 0))) 7 0=qX (⟨e0,e1,e2,e3,e4,e5,e6,⟨e7,e8,e9,e10,e11,e12,e13,e14,e15,e16,e17,e18⟩⟩:Ev):=by
    simp only [Bg,Ib];change (!(e1==0) && !Du e0 115||(!(e2==0) && !Du e0 112||(!(e3==0) && !Du e0 111||(!(!e4) && !Du e0 121||(!(e5==0) && !Du e0 114||(!(e6==0) && !Du e0 118||(!(uZ (⟨e0,e1,e2,e3,e4,e5,e6,⟨e7,e8,e9,e10,e11,e12,e13,e14,e15,e16,e17,e18⟩⟩:Ev).ball) && !Du e0 98||false)))))))=_;rw [g1,g2,g3,g4,g5,g6,g7,Bool.not_not,Bool.or_false];rfl
   rw [a1];simp only [evS,hk,cond_false];cases qX (⟨e0,e1,e2,e3,e4,e5,e6,⟨e7,e8,e9,e10,e11,e12,e13,e14,e15,e16,e17,e18⟩⟩:Ev) with
   | true=>rfl
   | false =>
    simp only [PXb,PXc,AD];refine AN (C1 (len:=7) (fun i => !pvB (AJ (evT (⟨e0,e1,e2,e3,e4,e5,e6,⟨e7,e8,e9,e10,e11,e12,e13,e14,e15,e16,e17,e18⟩⟩:Ev)) i 2)&&Du e0 (pvI (AJ (evT (⟨e0,e1,e2,e3,e4,e5,e6,⟨e7,e8,e9,e10,e11,e12,e13,e14,e15,e16,e17,e18⟩⟩:Ev)) i 0))) [.int 2] ?_ ?_ N (by omega)) ?_
    ·intro self;rfl
    ·intro i self hi;simp only [PXb,PXc,AD,Ah (show i≤1099511627776 by omega),List.length_cons,List.length_nil,Nat.reduceAdd,Ad hi,AM hi,gn hk];rfl
    ·have a2:A1 (fun i => !pvB (AJ (evT (⟨e0,e1,e2,e3,e4,e5,e6,⟨e7,e8,e9,e10,e11,e12,e13,e14,e15,e16,e17,e18⟩⟩:Ev)) i 2)&&Du e0 (pvI (AJ (evT (⟨e0,e1,e2,e3,e4,e5,e6,⟨e7,e8,e9,e10,e11,e12,e13,e14,e15,e16,e17,e18⟩⟩:Ev)) i 0))) 7 0=fa (⟨e0,e1,e2,e3,e4,e5,e6,⟨e7,e8,e9,e10,e11,e12,e13,e14,e15,e16,e17,e18⟩⟩:Ev):=by
      simp only [Bg,Ib];change (!(btw e1 1 2)&&Du e0 115||(!(btw e2 1 11)&&Du e0 112||(!(btw e3 1 11)&&Du e0 111||(!true&&Du e0 121||(!(btw e5 (loS e0) (hiS e0))&&Du e0 114||(!(btw e6 0 90)&&Du e0 118||(!true&&Du e0 98||false)))))))=_;rw [g1,g2,g3,g4,g5,g6,g7];simp only [Bool.not_true,Bool.false_and,Bool.false_or,Bool.or_false];rfl
     rw [a2];cases fa (⟨e0,e1,e2,e3,e4,e5,e6,⟨e7,e8,e9,e10,e11,e12,e13,e14,e15,e16,e17,e18⟩⟩:Ev) with
     | true=>rfl
     | false =>
      simp only [PXb,PXc,PXn,PXm,Nat.reduceAdd,Int.reduceBEq,D8,mV]
theorem wT {N:Nat} (k:Int):LP N [.int k]=some [.bool (uS k),.bool (uP k),.bool (uO k),.bool (uY k),.bool (uR k),.bool (uV k),.bool (uB k),.bool (!(iLt k 1||iLt 16 k))]:=by
 cases hk:iLt k 1||iLt 16 k with
 | false=>rcases ZG hk with h | h | h | h | h | h | h | h | h | h | h | h | h | h | h | h<;>subst h<;>rfl
 | true =>
  have n:=AD1 hk;show Pk (std (Zs N) N) (xOf _)=_;unfold uS uP uO uY uR uV uB;simp only [Pk,lq9,std,xOf,PXb,PXc,PXn,PXm,Nat.reduceAdd,Int.reduceBEq,n 1 (by omega) (by omega),n 2 (by omega) (by omega),n 3 (by omega) (by omega),n 4 (by omega) (by omega),n 5 (by omega) (by omega),n 6 (by omega) (by omega),n 7 (by omega) (by omega),n 8 (by omega) (by omega),n 9 (by omega) (by omega),n 10 (by omega) (by omega),n 11 (by omega) (by omega),n 12 (by omega) (by omega),n 13 (by omega) (by omega),n 14 (by omega) (by omega),n 15 (by omega) (by omega),n 16 (by omega) (by omega)]
theorem c4 {c x x' y y':Bool} {a b d z z':Int} (h1:x=x') (h2:y=y') (h3:z=z'):(some [PV.int (cond c a (cond x b (cond y d z)))]:Option (List PV))=some [PV.int (cond c a (cond x' b (cond y' d z')))]:=by subst h1;subst h2;subst h3;rfl
theorem jz {N:Nat} {e4 e12 e17:Bool}  : Jy N [.int e0,.int e1,.int e2,.int e3,.bool e4,.int e5,.int e6,.int e7,.int e8,.int e9,.int e10,.int e11,.bool e12,.int e13,.int e14,.int e15,.int e16,.bool e17,.int e18]=some [.int (evS (⟨e0,e1,e2,e3,e4,e5,e6,⟨e7,e8,e9,e10,e11,e12,e13,e14,e15,e16,e17,e18⟩⟩:Ev))]:=by
 show R8 (std (GW N) N) (xOf _)=_;generalize hres:(some [.int (evS (⟨e0,e1,e2,e3,e4,e5,e6,⟨e7,e8,e9,e10,e11,e12,e13,e14,e15,e16,e17,e18⟩⟩:Ev))]:Option (List PV))=RR;simp only [R8,YX,cF,fX,Y8,lq9,std,xOf,PXb,PXc,PXn,PXm,Nat.reduceAdd,Int.reduceBEq,wT,AAj,AD8,yL];subst hres;simp only [evS,qX,fa,uZ];refine c4 ?_ ?_ rfl
 ·simp only [Bool.not_and,Bool.or_assoc,Bool.and_comm]
 ·generalize uS e0=a1;generalize uP e0=a2;generalize uO e0=a3;generalize uR e0=a4;generalize uV e0=a5;generalize btw e1 1 2=b1;generalize btw e2 1 11=b2;generalize btw e3 1 11=b3;generalize btw e5 (loS e0) (hiS e0)=b4;generalize btw e6 0 90=b5;cases a1<;>cases b1<;>cases a2<;>cases b2<;>try rfl
  all_goals (cases a3<;>cases b3<;>cases a4<;>cases b4<;>try rfl)
  all_goals (cases a5<;>cases b5<;>rfl)
structure Lens (s t:Inn):Prop where
 bt:t.batters.length=s.batters.length
 bd:t.bowled.length=s.bowled.length
 sb:t.subs.length=s.subs.length
 bw:t.bowlers.length≤s.bowlers.length+1
 bf:t.before.length≤s.before.length+s.bowlers.length+1
theorem Lens.refl (s:Inn):Lens s s:=⟨rfl,rfl,rfl,by omega,by omega⟩
theorem P_c {α:Type} {P:α→Prop} (b:Bool) (x y:α) (hx:P x) (hy:P y):P (cond b x y):=by cases b<;>assumption
theorem mj (s:Inn) (d:Del):Lens s (Ak s d):=by
 have hb:∀ (b:Bool),(cond b (LN s.batters s.striker 2) s.batters).length=s.batters.length:=fun b=>by cases b<;>simp [N2]
 have hc:∀ (b:Bool),(cond b (LN s.batters s.other 2) s.batters).length=s.batters.length:=fun b=>by cases b<;>simp [N2]
 unfold Ak;cases (!(d.runs.tmod 2==0) != d.crossed)<;>refine P_c _ _ _ ⟨hb _,rfl,rfl,?_,?_⟩ (P_c _ _ _ ⟨hc _,rfl,rfl,?_,?_⟩ ⟨rfl,rfl,rfl,?_,?_⟩)<;>simp<;>omega
theorem gb (r:Rul) (s:Inn) (c:Bool):Lens s (Aq r s c).1:=by
 have hl:(cond (H0 s.bowlers s.bowlers.length s.bowler) s.bowlers (s.bowlers++[[.int s.bowler]])).length≤s.bowlers.length+1:=by
  cases H0 s.bowlers s.bowlers.length s.bowler<;>simp
 have hd:(cond c (LN s.bowled s.bowler (inc (atI s.bowled (ix s.bowler) 0))) s.bowled).length=s.bowled.length:=by cases c<;>simp [N2]
 unfold Aq;refine P_c (P:=fun x:Inn×Bool=>Lens s x.1) _ _ _ (Lens.refl s) (P_c (P:=fun x:Inn×Bool=>Lens s x.1) _ _ _ ⟨rfl,hd,rfl,hl,by simp;omega⟩ ⟨rfl,hd,rfl,by simp,?_⟩);simp only;omega
def im (a b c d:Int):Int:=cond (!(a==0)) a (cond (!(b==0)) b (cond (!(c==0)) c (cond (!(d==0)) d 0)))
def GO (r:Rul) (s:Inn) (d:Del):Int :=
 cond (DZ s.batters s.striker s.other) 6 (cond (s.bowler==0) 7 (im (LE r s) (DC d) (L6 d s.freehit) (Kf s d)))
theorem jZ {N:Nat} {r8:Bool} {r0:ByteArray} {r13:Rows} {s18 s20:Bool} {d5 d10:Bool} (h:Fit s14 s16 s17 s19 s24) (hN:2097152<N) (h13:r13.length≤1048576):FB N [.str r0,.int r1,.int r2,.int r3,.int r4,.int r5,.int r6,.int r7,.bool r8,.int r9,.int r10,.int r11,.int r12,.rows r13,.int s0,.int s1,.int s2,.int s3,.int s4,.int s5,.int s6,.int s7,.int s8,.int s9,.int s10,.int s11,.int s12,.int s13,.rows s14,.int s15,.rows s16,.rows s17,.bool s18,.rows s19,.bool s20,.int s21,.int s22,.int s23,.rows s24,.int s25,.int s26,.int s27,.int d0,.int d1,.int d2,.int d3,.int d4,.bool d5,.int d6,.int d7,.int d8,.int d9,.bool d10,.int d11]=some [.int (GO (⟨r0,r1,r2,r3,r4,r5,r6,r7,r8,r9,r10,r11,r12,r13⟩:Rul) (⟨s0,s1,s2,s3,s4,s5,s6,s7,s8,s9,s10,s11,s12,s13,s14,s15,s16,s17,s18,s19,s20,s21,s22,s23,s24,s25,s26,s27⟩:Inn) (⟨d0,d1,d2,d3,d4,d5,d6,d7,d8,d9,d10,d11⟩:Del))]:=by
 show Ha (std (CY N) N) (xOf _)=_;generalize hres:(some [.int (GO (⟨r0,r1,r2,r3,r4,r5,r6,r7,r8,r9,r10,r11,r12,r13⟩:Rul) (⟨s0,s1,s2,s3,s4,s5,s6,s7,s8,s9,s10,s11,s12,s13,s14,s15,s16,s17,s18,s19,s20,s21,s22,s23,s24,s25,s26,s27⟩:Inn) (⟨d0,d1,d2,d3,d4,d5,d6,d7,d8,d9,d10,d11⟩:Del))]:Option (List PV))=RR;simp only [Ha,N0,Oo,Qf,Km,Qk,lq9,std,xOf,PXb,W9 h.bt hN,tS h hN h13,Vz,cU hN,uU h];subst hres;simp only [GO];cases DZ s14 s12 s13<;>try rfl
 cases s15==0<;>try rfl
 simp only [PXb];generalize LE (⟨r0,r1,r2,r3,r4,r5,r6,r7,r8,r9,r10,r11,r12,r13⟩:Rul) (⟨s0,s1,s2,s3,s4,s5,s6,s7,s8,s9,s10,s11,s12,s13,s14,s15,s16,s17,s18,s19,s20,s21,s22,s23,s24,s25,s26,s27⟩:Inn)=a;generalize DC (⟨d0,d1,d2,d3,d4,d5,d6,d7,d8,d9,d10,d11⟩:Del)=b;generalize L6 (⟨d0,d1,d2,d3,d4,d5,d6,d7,d8,d9,d10,d11⟩:Del) s20=c;generalize Kf (⟨s0,s1,s2,s3,s4,s5,s6,s7,s8,s9,s10,s11,s12,s13,s14,s15,s16,s17,s18,s19,s20,s21,s22,s23,s24,s25,s26,s27⟩:Inn) (⟨d0,d1,d2,d3,d4,d5,d6,d7,d8,d9,d10,d11⟩:Del)=e;refine AN (C3 (len:=4) (fun i=>cond (!(atI [[.int a],[.int b],[.int c],[.int e]] i 0==0)) (some [.int (atI [[.int a],[.int b],[.int c],[.int e]] i 0)]) none) ?_ ?_ 4 0 N (by omega) (by omega)) ?_
 ·intro self;rfl
 ·intro i self hi;simp only [PXb,Ah (show i≤1099511627776 by omega),List.length_cons,List.length_nil,Nat.reduceAdd,Ad hi,AM hi,BW];cases atI [[.int a],[.int b],[.int c],[.int e]] i 0==0<;>rfl
 ·refine (cx _).trans (congrArg (fun z=>some [PV.int z]) ?_);unfold im;simp only [Ca];rw [show atI [[.int a],[.int b],[.int c],[.int e]] 0 0=a from rfl,show atI [[.int a],[.int b],[.int c],[.int e]] (0+1) 0=b from rfl,show atI [[.int a],[.int b],[.int c],[.int e]] (0+1+1) 0=c from rfl,show atI [[.int a],[.int b],[.int c],[.int e]] (0+1+1+1) 0=e from rfl];cases a==0<;>try rfl
  cases b==0<;>try rfl
  cases c==0<;>try rfl
  cases e==0<;>rfl
theorem LA {s t:Inn} (l:Lens s t) (h:s.Fit) (hw:s.before.length+s.bowlers.length≤1048575):t.Fit:=⟨l.bt▸h.bt,by have:=l.bw;omega,by have:=l.bf;omega,l.bd▸h.bd,l.sb▸h.sb⟩
theorem xn (s:Inn) (d:Del):(Ak s d).bowlers=s.bowlers:=by
 unfold Ak;cases (!(d.runs.tmod 2==0) != d.crossed)<;>exact P_c (P:=fun x:Inn=>x.bowlers=s.bowlers) _ _ _ rfl (P_c (P:=fun x:Inn=>x.bowlers=s.bowlers) _ _ _ rfl rfl)
theorem wC (s:Inn) (d:Del):(Ak s d).before=s.before:=by
 unfold Ak;cases (!(d.runs.tmod 2==0) != d.crossed)<;>exact P_c (P:=fun x:Inn=>x.before=s.before) _ _ _ rfl (P_c (P:=fun x:Inn=>x.before=s.before) _ _ _ rfl rfl)
@[reducible] def bU (t:Inn) (a b e f g:Int):Inn:=⟨t.side,t.target,t.overs,a,t.wickets,b,e,f,g,t.pens,t.complete,t.inover,t.striker,t.other,t.batters,t.bowler,t.bowlers,t.before,t.fresh,t.bowled,t.freehit,t.ballage,t.keeper,t.outside,t.subs,t.rev1,t.rev2,t.ending⟩
def Ix (r:Rul) (s:Inn) (d:Del):Inn×Int :=
  cond (!(GO r s d==0)) (s,GO r s d)
    (let c:=AF r d
     let t:=Ak s d
     let o:=Aq r (bU t (IntKind.i64.wrap (t.runs+E6 c)) (IntKind.i64.wrap (t.wides+c.wides)) (IntKind.i64.wrap (t.noballs+c.noballs)) (IntKind.i64.wrap (t.byes+c.byes)) (IntKind.i64.wrap (t.legbyes+c.legbyes))) c.counts
     let t:Inn:=cond o.2 (GV o.1) o.1
     ({ t with freehit:=cond (d.type==1) false (cond (d.type==3&&r.freehit) true o.1.freehit) },0))
theorem rG {N:Nat} {r8:Bool} {r0:ByteArray} {r13:Rows} {s18 s20:Bool} {d5 d10:Bool} (h:Fit s14 s16 s17 s19 s24) (hw:s17.length+s16.length≤1000000) (hN:2097152<N) (hs:r0.size≤1048576) (h13:r13.length≤1048576):IW N [.str r0,.int r1,.int r2,.int r3,.int r4,.int r5,.int r6,.int r7,.bool r8,.int r9,.int r10,.int r11,.int r12,.rows r13,.int s0,.int s1,.int s2,.int s3,.int s4,.int s5,.int s6,.int s7,.int s8,.int s9,.int s10,.int s11,.int s12,.int s13,.rows s14,.int s15,.rows s16,.rows s17,.bool s18,.rows s19,.bool s20,.int s21,.int s22,.int s23,.rows s24,.int s25,.int s26,.int s27,.int d0,.int d1,.int d2,.int d3,.int d4,.bool d5,.int d6,.int d7,.int d8,.int d9,.bool d10,.int d11]=some (Ai (Ix (⟨r0,r1,r2,r3,r4,r5,r6,r7,r8,r9,r10,r11,r12,r13⟩:Rul) (⟨s0,s1,s2,s3,s4,s5,s6,s7,s8,s9,s10,s11,s12,s13,s14,s15,s16,s17,s18,s19,s20,s21,s22,s23,s24,s25,s26,s27⟩:Inn) (⟨d0,d1,d2,d3,d4,d5,d6,d7,d8,d9,d10,d11⟩:Del))):=by
 show Lu (std (CD N) N) (xOf _)=_;generalize hres:(some (Ai (Ix (⟨r0,r1,r2,r3,r4,r5,r6,r7,r8,r9,r10,r11,r12,r13⟩:Rul) (⟨s0,s1,s2,s3,s4,s5,s6,s7,s8,s9,s10,s11,s12,s13,s14,s15,s16,s17,s18,s19,s20,s21,s22,s23,s24,s25,s26,s27⟩:Inn) (⟨d0,d1,d2,d3,d4,d5,d6,d7,d8,d9,d10,d11⟩:Del))):Option (List PV))=RR;have l1:=mj (⟨s0,s1,s2,s3,s4,s5,s6,s7,s8,s9,s10,s11,s12,s13,s14,s15,s16,s17,s18,s19,s20,s21,s22,s23,s24,s25,s26,s27⟩:Inn) (⟨d0,d1,d2,d3,d4,d5,d6,d7,d8,d9,d10,d11⟩:Del);have f1:=LA l1 h (by simp only;omega);have w1:(Ak (⟨s0,s1,s2,s3,s4,s5,s6,s7,s8,s9,s10,s11,s12,s13,s14,s15,s16,s17,s18,s19,s20,s21,s22,s23,s24,s25,s26,s27⟩:Inn) (⟨d0,d1,d2,d3,d4,d5,d6,d7,d8,d9,d10,d11⟩:Del)).bowlers.length=s16.length:=congrArg List.length (xn _ _);have w2:(Ak (⟨s0,s1,s2,s3,s4,s5,s6,s7,s8,s9,s10,s11,s12,s13,s14,s15,s16,s17,s18,s19,s20,s21,s22,s23,s24,s25,s26,s27⟩:Inn) (⟨d0,d1,d2,d3,d4,d5,d6,d7,d8,d9,d10,d11⟩:Del)).before.length=s17.length:=congrArg List.length (wC _ _);have l2:=fun (x:Rul) (c:Bool) (a b e f g:Int)=>gb x (bU (Ak (⟨s0,s1,s2,s3,s4,s5,s6,s7,s8,s9,s10,s11,s12,s13,s14,s15,s16,s17,s18,s19,s20,s21,s22,s23,s24,s25,s26,s27⟩:Inn) (⟨d0,d1,d2,d3,d4,d5,d6,d7,d8,d9,d10,d11⟩:Del)) a b e f g) c
 have f2:=fun (x:Rul) (c:Bool) (a b e f g:Int)=>LA (l2 x c a b e f g) f1 (show (Ak (⟨s0,s1,s2,s3,s4,s5,s6,s7,s8,s9,s10,s11,s12,s13,s14,s15,s16,s17,s18,s19,s20,s21,s22,s23,s24,s25,s26,s27⟩:Inn) (⟨d0,d1,d2,d3,d4,d5,d6,d7,d8,d9,d10,d11⟩:Del)).before.length+(Ak (⟨s0,s1,s2,s3,s4,s5,s6,s7,s8,s9,s10,s11,s12,s13,s14,s15,s16,s17,s18,s19,s20,s21,s22,s23,s24,s25,s26,s27⟩:Inn) (⟨d0,d1,d2,d3,d4,d5,d6,d7,d8,d9,d10,d11⟩:Del)).bowlers.length≤1048575 by omega)
 simp only [Lu,Qa,Qj,Rb,QJ,UQ,UX,RH,lq9,std,xOf,PXb,PXc,PXn,PXm,Nat.reduceAdd,Int.reduceBEq,jZ h hN h13,CZ h,T7,uy h,mH,Cre.ls,vz f1 (show (Ak (⟨s0,s1,s2,s3,s4,s5,s6,s7,s8,s9,s10,s11,s12,s13,s14,s15,s16,s17,s18,s19,s20,s21,s22,s23,s24,s25,s26,s27⟩:Inn) (⟨d0,d1,d2,d3,d4,d5,d6,d7,d8,d9,d10,d11⟩:Del)).bowlers.length≤1048575 by omega) hN hs,rH,nE (f2 _ _ _ _ _ _ _)];subst hres;simp only [Ix,bU];cases GO (⟨r0,r1,r2,r3,r4,r5,r6,r7,r8,r9,r10,r11,r12,r13⟩:Rul) (⟨s0,s1,s2,s3,s4,s5,s6,s7,s8,s9,s10,s11,s12,s13,s14,s15,s16,s17,s18,s19,s20,s21,s22,s23,s24,s25,s26,s27⟩:Inn) (⟨d0,d1,d2,d3,d4,d5,d6,d7,d8,d9,d10,d11⟩:Del)==0 with
 | false=>rfl
 | true =>
  obtain ⟨o,ho⟩:∃ o,o=Aq (⟨r0,r1,r2,r3,r4,r5,r6,r7,r8,r9,r10,r11,r12,r13⟩:Rul) (bU (Ak (⟨s0,s1,s2,s3,s4,s5,s6,s7,s8,s9,s10,s11,s12,s13,s14,s15,s16,s17,s18,s19,s20,s21,s22,s23,s24,s25,s26,s27⟩:Inn) (⟨d0,d1,d2,d3,d4,d5,d6,d7,d8,d9,d10,d11⟩:Del)) (IntKind.i64.wrap ((Ak (⟨s0,s1,s2,s3,s4,s5,s6,s7,s8,s9,s10,s11,s12,s13,s14,s15,s16,s17,s18,s19,s20,s21,s22,s23,s24,s25,s26,s27⟩:Inn) (⟨d0,d1,d2,d3,d4,d5,d6,d7,d8,d9,d10,d11⟩:Del)).runs+E6 (AF (⟨r0,r1,r2,r3,r4,r5,r6,r7,r8,r9,r10,r11,r12,r13⟩:Rul) (⟨d0,d1,d2,d3,d4,d5,d6,d7,d8,d9,d10,d11⟩:Del)))) (IntKind.i64.wrap ((Ak (⟨s0,s1,s2,s3,s4,s5,s6,s7,s8,s9,s10,s11,s12,s13,s14,s15,s16,s17,s18,s19,s20,s21,s22,s23,s24,s25,s26,s27⟩:Inn) (⟨d0,d1,d2,d3,d4,d5,d6,d7,d8,d9,d10,d11⟩:Del)).wides+(AF (⟨r0,r1,r2,r3,r4,r5,r6,r7,r8,r9,r10,r11,r12,r13⟩:Rul) (⟨d0,d1,d2,d3,d4,d5,d6,d7,d8,d9,d10,d11⟩:Del)).wides)) (IntKind.i64.wrap ((Ak (⟨s0,s1,s2,s3,s4,s5,s6,s7,s8,s9,s10,s11,s12,s13,s14,s15,s16,s17,s18,s19,s20,s21,s22,s23,s24,s25,s26,s27⟩:Inn) (⟨d0,d1,d2,d3,d4,d5,d6,d7,d8,d9,d10,d11⟩:Del)).noballs+(AF (⟨r0,r1,r2,r3,r4,r5,r6,r7,r8,r9,r10,r11,r12,r13⟩:Rul) (⟨d0,d1,d2,d3,d4,d5,d6,d7,d8,d9,d10,d11⟩:Del)).noballs)) (IntKind.i64.wrap ((Ak (⟨s0,s1,s2,s3,s4,s5,s6,s7,s8,s9,s10,s11,s12,s13,s14,s15,s16,s17,s18,s19,s20,s21,s22,s23,s24,s25,s26,s27⟩:Inn) (⟨d0,d1,d2,d3,d4,d5,d6,d7,d8,d9,d10,d11⟩:Del)).byes+(AF (⟨r0,r1,r2,r3,r4,r5,r6,r7,r8,r9,r10,r11,r12,r13⟩:Rul) (⟨d0,d1,d2,d3,d4,d5,d6,d7,d8,d9,d10,d11⟩:Del)).byes)) (IntKind.i64.wrap ((Ak (⟨s0,s1,s2,s3,s4,s5,s6,s7,s8,s9,s10,s11,s12,s13,s14,s15,s16,s17,s18,s19,s20,s21,s22,s23,s24,s25,s26,s27⟩:Inn) (⟨d0,d1,d2,d3,d4,d5,d6,d7,d8,d9,d10,d11⟩:Del)).legbyes+(AF (⟨r0,r1,r2,r3,r4,r5,r6,r7,r8,r9,r10,r11,r12,r13⟩:Rul) (⟨d0,d1,d2,d3,d4,d5,d6,d7,d8,d9,d10,d11⟩:Del)).legbyes))) (AF (⟨r0,r1,r2,r3,r4,r5,r6,r7,r8,r9,r10,r11,r12,r13⟩:Rul) (⟨d0,d1,d2,d3,d4,d5,d6,d7,d8,d9,d10,d11⟩:Del)).counts:=⟨_,rfl⟩;simp only [bU,E6] at ho ⊢;simp only [← ho];obtain ⟨o1,o2⟩:=o;cases o2<;>cases d0==1<;>cases d0==3<;>cases r8<;>rfl
theorem lr (r:Rul) (s:Inn) (b:Bool) (a c d e f:Int):Aq r (bU s a c d e f) b=(bU (Aq r s b).1 a c d e f,(Aq r s b).2):=by
 unfold Aq bU;simp only;cases (!inR s.bowler s.bowled.length || !(A4 r==0)) with
 | true=>rfl
 | false =>
  simp only [cond_false];cases iLt (cond b (inc s.inover) s.inover) r.balls<;>rfl
theorem ACh (r:Rul) (s:Inn) (b:Bool):(Aq r s b).1.runs=s.runs∧(Aq r s b).1.wides=s.wides∧(Aq r s b).1.noballs=s.noballs∧(Aq r s b).1.byes=s.byes∧(Aq r s b).1.legbyes=s.legbyes:=by
  unfold Aq;exact P_c (P:=fun x:Inn×Bool=>x.1.runs=s.runs∧x.1.wides=s.wides∧x.1.noballs=s.noballs∧x.1.byes=s.byes∧x.1.legbyes=s.legbyes) _ _ _ ⟨rfl,rfl,rfl,rfl,rfl⟩
    (P_c (P:=fun x:Inn×Bool=>x.1.runs=s.runs∧x.1.wides=s.wides∧x.1.noballs=s.noballs∧x.1.byes=s.byes∧x.1.legbyes=s.legbyes) _ _ _ ⟨rfl,rfl,rfl,rfl,rfl⟩ ⟨rfl,rfl,rfl,rfl,rfl⟩)
theorem AA4 {N:Nat} {r8:Bool} {r0:ByteArray} {r13:Rows} {s18 s20:Bool} {d5 d10:Bool} (h:Fit s14 s16 s17 s19 s24) (hw:s17.length+s16.length≤1000000) (hN:2097152<N) (hs:r0.size≤1048576) (h13:r13.length≤1048576):PZ N [.str r0,.int r1,.int r2,.int r3,.int r4,.int r5,.int r6,.int r7,.bool r8,.int r9,.int r10,.int r11,.int r12,.rows r13,.int s0,.int s1,.int s2,.int s3,.int s4,.int s5,.int s6,.int s7,.int s8,.int s9,.int s10,.int s11,.int s12,.int s13,.rows s14,.int s15,.rows s16,.rows s17,.bool s18,.rows s19,.bool s20,.int s21,.int s22,.int s23,.rows s24,.int s25,.int s26,.int s27,.int d0,.int d1,.int d2,.int d3,.int d4,.bool d5,.int d6,.int d7,.int d8,.int d9,.bool d10,.int d11]=some (Ai (Ix (⟨r0,r1,r2,r3,r4,r5,r6,r7,r8,r9,r10,r11,r12,r13⟩:Rul) (⟨s0,s1,s2,s3,s4,s5,s6,s7,s8,s9,s10,s11,s12,s13,s14,s15,s16,s17,s18,s19,s20,s21,s22,s23,s24,s25,s26,s27⟩:Inn) (⟨d0,d1,d2,d3,d4,d5,d6,d7,d8,d9,d10,d11⟩:Del))):=by
 show PS (std (Be N) N) (xOf _)=_;generalize hres:(some (Ai (Ix (⟨r0,r1,r2,r3,r4,r5,r6,r7,r8,r9,r10,r11,r12,r13⟩:Rul) (⟨s0,s1,s2,s3,s4,s5,s6,s7,s8,s9,s10,s11,s12,s13,s14,s15,s16,s17,s18,s19,s20,s21,s22,s23,s24,s25,s26,s27⟩:Inn) (⟨d0,d1,d2,d3,d4,d5,d6,d7,d8,d9,d10,d11⟩:Del))):Option (List PV))=RR;have l1:=mj (⟨s0,s1,s2,s3,s4,s5,s6,s7,s8,s9,s10,s11,s12,s13,s14,s15,s16,s17,s18,s19,s20,s21,s22,s23,s24,s25,s26,s27⟩:Inn) (⟨d0,d1,d2,d3,d4,d5,d6,d7,d8,d9,d10,d11⟩:Del);have f1:=LA l1 h (by simp only;omega);have w1:(Ak (⟨s0,s1,s2,s3,s4,s5,s6,s7,s8,s9,s10,s11,s12,s13,s14,s15,s16,s17,s18,s19,s20,s21,s22,s23,s24,s25,s26,s27⟩:Inn) (⟨d0,d1,d2,d3,d4,d5,d6,d7,d8,d9,d10,d11⟩:Del)).bowlers.length=s16.length:=congrArg List.length (xn _ _);have w2:(Ak (⟨s0,s1,s2,s3,s4,s5,s6,s7,s8,s9,s10,s11,s12,s13,s14,s15,s16,s17,s18,s19,s20,s21,s22,s23,s24,s25,s26,s27⟩:Inn) (⟨d0,d1,d2,d3,d4,d5,d6,d7,d8,d9,d10,d11⟩:Del)).before.length=s17.length:=congrArg List.length (wC _ _);have l2:=fun (x:Rul) (c:Bool)=>gb x (Ak (⟨s0,s1,s2,s3,s4,s5,s6,s7,s8,s9,s10,s11,s12,s13,s14,s15,s16,s17,s18,s19,s20,s21,s22,s23,s24,s25,s26,s27⟩:Inn) (⟨d0,d1,d2,d3,d4,d5,d6,d7,d8,d9,d10,d11⟩:Del)) c
 have f2:=fun (x:Rul) (c:Bool)=>LA (l2 x c) f1 (show (Ak (⟨s0,s1,s2,s3,s4,s5,s6,s7,s8,s9,s10,s11,s12,s13,s14,s15,s16,s17,s18,s19,s20,s21,s22,s23,s24,s25,s26,s27⟩:Inn) (⟨d0,d1,d2,d3,d4,d5,d6,d7,d8,d9,d10,d11⟩:Del)).before.length+(Ak (⟨s0,s1,s2,s3,s4,s5,s6,s7,s8,s9,s10,s11,s12,s13,s14,s15,s16,s17,s18,s19,s20,s21,s22,s23,s24,s25,s26,s27⟩:Inn) (⟨d0,d1,d2,d3,d4,d5,d6,d7,d8,d9,d10,d11⟩:Del)).bowlers.length≤1048575 by omega)
 simp only [PS,Y9,dA,Y0,cN,Wl,cp,gx,fE,Zm,ck,lq9,std,xOf,PXb,PXc,PXn,PXm,Nat.reduceAdd,Int.reduceBEq,fO h.bt hN,yP h hN h13,kj,qk,y8 h,f7,ACA h,yQ,Cre.ls,zz f1 (show (Ak (⟨s0,s1,s2,s3,s4,s5,s6,s7,s8,s9,s10,s11,s12,s13,s14,s15,s16,s17,s18,s19,s20,s21,s22,s23,s24,s25,s26,s27⟩:Inn) (⟨d0,d1,d2,d3,d4,d5,d6,d7,d8,d9,d10,d11⟩:Del)).bowlers.length≤1048575 by omega) hN hs,rH,ii (f2 _ _)];subst hres;simp only [Ix,GO,im,lr];cases DZ s14 s12 s13<;>try rfl
 cases s15==0<;>try rfl
 cases h1:LE (⟨r0,r1,r2,r3,r4,r5,r6,r7,r8,r9,r10,r11,r12,r13⟩:Rul) (⟨s0,s1,s2,s3,s4,s5,s6,s7,s8,s9,s10,s11,s12,s13,s14,s15,s16,s17,s18,s19,s20,s21,s22,s23,s24,s25,s26,s27⟩:Inn)==0<;>(try (simp only [h1,PXb,PXc,PXn,PXm,Nat.reduceAdd,Int.reduceBEq];done));cases h2:DC (⟨d0,d1,d2,d3,d4,d5,d6,d7,d8,d9,d10,d11⟩:Del)==0<;>(try (simp only [h2,PXb,PXc,PXn,PXm,Nat.reduceAdd,Int.reduceBEq];done));cases h3:L6 (⟨d0,d1,d2,d3,d4,d5,d6,d7,d8,d9,d10,d11⟩:Del) s20==0<;>(try (simp only [h3,PXb,PXc,PXn,PXm,Nat.reduceAdd,Int.reduceBEq];done));cases h4:Kf (⟨s0,s1,s2,s3,s4,s5,s6,s7,s8,s9,s10,s11,s12,s13,s14,s15,s16,s17,s18,s19,s20,s21,s22,s23,s24,s25,s26,s27⟩:Inn) (⟨d0,d1,d2,d3,d4,d5,d6,d7,d8,d9,d10,d11⟩:Del)==0<;>(try (simp only [h4,PXb,PXc,PXn,PXm,Nat.reduceAdd,Int.reduceBEq];done));have k:=ACh (⟨r0,r1,r2,r3,r4,r5,r6,r7,r8,r9,r10,r11,r12,r13⟩:Rul) (Ak (⟨s0,s1,s2,s3,s4,s5,s6,s7,s8,s9,s10,s11,s12,s13,s14,s15,s16,s17,s18,s19,s20,s21,s22,s23,s24,s25,s26,s27⟩:Inn) (⟨d0,d1,d2,d3,d4,d5,d6,d7,d8,d9,d10,d11⟩:Del)) (AF (⟨r0,r1,r2,r3,r4,r5,r6,r7,r8,r9,r10,r11,r12,r13⟩:Rul) (⟨d0,d1,d2,d3,d4,d5,d6,d7,d8,d9,d10,d11⟩:Del)).counts;obtain ⟨o,ho⟩:∃ o,o=Aq (⟨r0,r1,r2,r3,r4,r5,r6,r7,r8,r9,r10,r11,r12,r13⟩:Rul) (Ak (⟨s0,s1,s2,s3,s4,s5,s6,s7,s8,s9,s10,s11,s12,s13,s14,s15,s16,s17,s18,s19,s20,s21,s22,s23,s24,s25,s26,s27⟩:Inn) (⟨d0,d1,d2,d3,d4,d5,d6,d7,d8,d9,d10,d11⟩:Del)) (AF (⟨r0,r1,r2,r3,r4,r5,r6,r7,r8,r9,r10,r11,r12,r13⟩:Rul) (⟨d0,d1,d2,d3,d4,d5,d6,d7,d8,d9,d10,d11⟩:Del)).counts:=⟨_,rfl⟩;simp only [← ho,bU,E6] at k ⊢;obtain ⟨o1,o2⟩:=o;obtain ⟨k1,k2,k3,k4,k5⟩:=k;simp only at k1 k2 k3 k4 k5;simp only [← k1,← k2,← k3,← k4,← k5];cases o2<;>cases d0==1<;>cases d0==3<;>cases r8<;>rfl
def LR (r:Rul) (s:Inn) (side:Int):Inn×Int:=cond (!(side==s.side)) (s,2) (cond (!(r.overs==0)) (s,20) ({ s with ending:=4 },0))
theorem jg {N:Nat} {r8:Bool} {r0:ByteArray} {r13:Rows} {s18 s20:Bool} {e4 e12 e17:Bool} (h:Fit s14 s16 s17 s19 s24):E9 N [.str r0,.int r1,.int r2,.int r3,.int r4,.int r5,.int r6,.int r7,.bool r8,.int r9,.int r10,.int r11,.int r12,.rows r13,.int s0,.int s1,.int s2,.int s3,.int s4,.int s5,.int s6,.int s7,.int s8,.int s9,.int s10,.int s11,.int s12,.int s13,.rows s14,.int s15,.rows s16,.rows s17,.bool s18,.rows s19,.bool s20,.int s21,.int s22,.int s23,.rows s24,.int s25,.int s26,.int s27,.int e0,.int e1,.int e2,.int e3,.bool e4,.int e5,.int e6,.int e7,.int e8,.int e9,.int e10,.int e11,.bool e12,.int e13,.int e14,.int e15,.int e16,.bool e17,.int e18]=some (Ai (LR (⟨r0,r1,r2,r3,r4,r5,r6,r7,r8,r9,r10,r11,r12,r13⟩:Rul) (⟨s0,s1,s2,s3,s4,s5,s6,s7,s8,s9,s10,s11,s12,s13,s14,s15,s16,s17,s18,s19,s20,s21,s22,s23,s24,s25,s26,s27⟩:Inn) e1)):=by
 show HY (std (J6 N) N) (xOf _)=_;generalize hres:(some (Ai (LR (⟨r0,r1,r2,r3,r4,r5,r6,r7,r8,r9,r10,r11,r12,r13⟩:Rul) (⟨s0,s1,s2,s3,s4,s5,s6,s7,s8,s9,s10,s11,s12,s13,s14,s15,s16,s17,s18,s19,s20,s21,s22,s23,s24,s25,s26,s27⟩:Inn) e1)):Option (List PV))=RR;simp only [HY,Ov,lq9,std,xOf,PXb,PXc,PXn,PXm,Nat.reduceAdd,Int.reduceBEq,CZ h];subst hres;simp only [LR];cases e1==s0<;>cases r3==0<;>rfl
def J1 (s:Inn):Inn:={ s with runs:=IntKind.i64.wrap (s.runs+5),pens:=IntKind.i64.wrap (s.pens+5) }
theorem Tz {N:Nat} {s18 s20:Bool} (h:Fit s14 s16 s17 s19 s24):CW N [.int s0,.int s1,.int s2,.int s3,.int s4,.int s5,.int s6,.int s7,.int s8,.int s9,.int s10,.int s11,.int s12,.int s13,.rows s14,.int s15,.rows s16,.rows s17,.bool s18,.rows s19,.bool s20,.int s21,.int s22,.int s23,.rows s24,.int s25,.int s26,.int s27]=some (J1 (⟨s0,s1,s2,s3,s4,s5,s6,s7,s8,s9,s10,s11,s12,s13,s14,s15,s16,s17,s18,s19,s20,s21,s22,s23,s24,s25,s26,s27⟩:Inn)).ls:=by
 show Hb (std (J8 N) N) (xOf _)=_;generalize hres:(some (J1 (⟨s0,s1,s2,s3,s4,s5,s6,s7,s8,s9,s10,s11,s12,s13,s14,s15,s16,s17,s18,s19,s20,s21,s22,s23,s24,s25,s26,s27⟩:Inn)).ls:Option (List PV))=RR;simp only [Hb,Oj,lq9,std,xOf,PXb,PXc,PXn,PXm,Nat.reduceAdd,Int.reduceBEq,CZ h];subst hres;simp only [J1];rfl
theorem eJ {N:Nat} {s18 s20:Bool} (h:Fit s14 s16 s17 s19 s24):GU N [.int s0,.int s1,.int s2,.int s3,.int s4,.int s5,.int s6,.int s7,.int s8,.int s9,.int s10,.int s11,.int s12,.int s13,.rows s14,.int s15,.rows s16,.rows s17,.bool s18,.rows s19,.bool s20,.int s21,.int s22,.int s23,.rows s24,.int s25,.int s26,.int s27]=some (J1 (⟨s0,s1,s2,s3,s4,s5,s6,s7,s8,s9,s10,s11,s12,s13,s14,s15,s16,s17,s18,s19,s20,s21,s22,s23,s24,s25,s26,s27⟩:Inn)).ls:=by
 show NP (std (QB N) N) (xOf _)=_;generalize hres:(some (J1 (⟨s0,s1,s2,s3,s4,s5,s6,s7,s8,s9,s10,s11,s12,s13,s14,s15,s16,s17,s18,s19,s20,s21,s22,s23,s24,s25,s26,s27⟩:Inn)).ls:Option (List PV))=RR;simp only [NP,W2,lq9,std,xOf,PXb,PXc,PXn,PXm,Nat.reduceAdd,Int.reduceBEq,Yk h];subst hres;simp only [J1];rfl
def HK (s:Inn) (side runs:Int):Inn×Int :=
 cond (!(runs==5)) (s,23) (cond (side==s.side) (J1 s,0) ({ s with target:=cond (iLt 0 s.target) (IntKind.i64.wrap (s.target+5)) s.target },0))
theorem jj {N:Nat} {s18 s20:Bool} {e4 e12 e17:Bool} (h:Fit s14 s16 s17 s19 s24):Ey N [.int s0,.int s1,.int s2,.int s3,.int s4,.int s5,.int s6,.int s7,.int s8,.int s9,.int s10,.int s11,.int s12,.int s13,.rows s14,.int s15,.rows s16,.rows s17,.bool s18,.rows s19,.bool s20,.int s21,.int s22,.int s23,.rows s24,.int s25,.int s26,.int s27,.int e0,.int e1,.int e2,.int e3,.bool e4,.int e5,.int e6,.int e7,.int e8,.int e9,.int e10,.int e11,.bool e12,.int e13,.int e14,.int e15,.int e16,.bool e17,.int e18]=some (Ai (HK (⟨s0,s1,s2,s3,s4,s5,s6,s7,s8,s9,s10,s11,s12,s13,s14,s15,s16,s17,s18,s19,s20,s21,s22,s23,s24,s25,s26,s27⟩:Inn) e1 e5)):=by
 show HZ (std (F8 N) N) (xOf _)=_;generalize hres:(some (Ai (HK (⟨s0,s1,s2,s3,s4,s5,s6,s7,s8,s9,s10,s11,s12,s13,s14,s15,s16,s17,s18,s19,s20,s21,s22,s23,s24,s25,s26,s27⟩:Inn) e1 e5)):Option (List PV))=RR;simp only [HZ,Ow,M7,lq9,std,xOf,PXb,PXc,PXn,PXm,Nat.reduceAdd,Int.reduceBEq,CZ h,Tz h];subst hres;simp only [HK];cases e5==5<;>cases e1==s0<;>cases iLt 0 s1<;>rfl
def GX (r:Rul) (s:Inn) (side:Int) (yes:Bool):Inn×Int :=
 cond (!s.fresh||iLe r.reviews (cond (side==2) s.rev2 s.rev1)) (s,24) (cond (!yes) ({ s with rev1:=cond (side==1) (inc s.rev1) s.rev1,rev2:=cond (side==2) (inc s.rev2) s.rev2 },0) (s,0))
theorem wr1:IntKind.i64.wrap (1 - 1)=0:=rfl
theorem wr2:IntKind.i64.wrap (2 - 1)=1:=rfl
theorem YC:iIn 0 2=true:=rfl
theorem Yt:iIn 1 2=true:=rfl
theorem lu {N:Nat} {r8:Bool} {r0:ByteArray} {r13:Rows} {s18 s20:Bool} {e4 e12 e17:Bool} (h:Fit s14 s16 s17 s19 s24) (he:e1=1∨e1=2):Fe N [.str r0,.int r1,.int r2,.int r3,.int r4,.int r5,.int r6,.int r7,.bool r8,.int r9,.int r10,.int r11,.int r12,.rows r13,.int s0,.int s1,.int s2,.int s3,.int s4,.int s5,.int s6,.int s7,.int s8,.int s9,.int s10,.int s11,.int s12,.int s13,.rows s14,.int s15,.rows s16,.rows s17,.bool s18,.rows s19,.bool s20,.int s21,.int s22,.int s23,.rows s24,.int s25,.int s26,.int s27,.int e0,.int e1,.int e2,.int e3,.bool e4,.int e5,.int e6,.int e7,.int e8,.int e9,.int e10,.int e11,.bool e12,.int e13,.int e14,.int e15,.int e16,.bool e17,.int e18]=some (Ai (GX (⟨r0,r1,r2,r3,r4,r5,r6,r7,r8,r9,r10,r11,r12,r13⟩:Rul) (⟨s0,s1,s2,s3,s4,s5,s6,s7,s8,s9,s10,s11,s12,s13,s14,s15,s16,s17,s18,s19,s20,s21,s22,s23,s24,s25,s26,s27⟩:Inn) e1 e4)):=by
 show F2 (std (Ko N) N) (xOf _)=_;generalize hres:(some (Ai (GX (⟨r0,r1,r2,r3,r4,r5,r6,r7,r8,r9,r10,r11,r12,r13⟩:Rul) (⟨s0,s1,s2,s3,s4,s5,s6,s7,s8,s9,s10,s11,s12,s13,s14,s15,s16,s17,s18,s19,s20,s21,s22,s23,s24,s25,s26,s27⟩:Inn) e1 e4)):Option (List PV))=RR
 rcases he with he | he<;>subst he
 ·simp only [F2,Gf,lq9,std,xOf,PXb,PXc,PXn,PXm,Nat.reduceAdd,Int.reduceBEq,CZ h,wr1,wr2,YC,Yt];subst hres;simp only [GX,Int.reduceBEq,beq_self_eq_true,cond_true,cond_false];cases s18<;>cases e4<;>first | rfl | (cases iLe r11 s25<;>rfl)
 ·simp only [F2,Gf,lq9,std,xOf,PXb,PXc,PXn,PXm,Nat.reduceAdd,Int.reduceBEq,CZ h,wr1,wr2,YC,Yt];subst hres;simp only [GX,Int.reduceBEq,beq_self_eq_true,cond_true,cond_false];cases s18<;>cases e4<;>first | rfl | (cases iLe r11 s26<;>rfl)
theorem vB {N:Nat} {r8:Bool} {r0:ByteArray} {r13:Rows} {s18 s20:Bool} {n:Int} {b:Bool} (he:n=1∨n=2):LD N [.str r0,.int r1,.int r2,.int r3,.int r4,.int r5,.int r6,.int r7,.bool r8,.int r9,.int r10,.int r11,.int r12,.rows r13,.int s0,.int s1,.int s2,.int s3,.int s4,.int s5,.int s6,.int s7,.int s8,.int s9,.int s10,.int s11,.int s12,.int s13,.rows s14,.int s15,.rows s16,.rows s17,.bool s18,.rows s19,.bool s20,.int s21,.int s22,.int s23,.rows s24,.int s25,.int s26,.int s27,.int n,.bool b]=some (Ai (GX (⟨r0,r1,r2,r3,r4,r5,r6,r7,r8,r9,r10,r11,r12,r13⟩:Rul) (⟨s0,s1,s2,s3,s4,s5,s6,s7,s8,s9,s10,s11,s12,s13,s14,s15,s16,s17,s18,s19,s20,s21,s22,s23,s24,s25,s26,s27⟩:Inn) n b)):=by
 show IA (std (Ho N) N) (xOf _)=_;generalize hres:(some (Ai (GX (⟨r0,r1,r2,r3,r4,r5,r6,r7,r8,r9,r10,r11,r12,r13⟩:Rul) (⟨s0,s1,s2,s3,s4,s5,s6,s7,s8,s9,s10,s11,s12,s13,s14,s15,s16,s17,s18,s19,s20,s21,s22,s23,s24,s25,s26,s27⟩:Inn) n b)):Option (List PV))=RR
 rcases he with he | he<;>subst he
 ·simp only [IA,lq9,std,xOf,PXb,PXc,PXn,PXm,Nat.reduceAdd,Int.reduceBEq,wr1,wr2,YC,Yt];subst hres;simp only [GX,Int.reduceBEq,beq_self_eq_true,cond_true,cond_false];cases s18<;>cases b<;>first | rfl | (cases iLe r11 s25<;>rfl)
 ·simp only [IA,lq9,std,xOf,PXb,PXc,PXn,PXm,Nat.reduceAdd,Int.reduceBEq,wr1,wr2,YC,Yt];subst hres;simp only [GX,Int.reduceBEq,beq_self_eq_true,cond_true,cond_false];cases s18<;>cases b<;>first | rfl | (cases iLe r11 s26<;>rfl)
theorem pu {N:Nat} {r8:Bool} {r0:ByteArray} {r13:Rows} {s18 s20:Bool}  : G4 N [.str r0,.int r1,.int r2,.int r3,.int r4,.int r5,.int r6,.int r7,.bool r8,.int r9,.int r10,.int r11,.int r12,.rows r13,.int s0,.int s1,.int s2,.int s3,.int s4,.int s5,.int s6,.int s7,.int s8,.int s9,.int s10,.int s11,.int s12,.int s13,.rows s14,.int s15,.rows s16,.rows s17,.bool s18,.rows s19,.bool s20,.int s21,.int s22,.int s23,.rows s24,.int s25,.int s26,.int s27]=some [.int (Ch r4 s10 s11)]:=by
 rfl
theorem yW {N:Nat} {r8:Bool} {r0:ByteArray} {r13:Rows} {s18 s20:Bool}  : SP N [.str r0,.int r1,.int r2,.int r3,.int r4,.int r5,.int r6,.int r7,.bool r8,.int r9,.int r10,.int r11,.int r12,.rows r13,.int s0,.int s1,.int s2,.int s3,.int s4,.int s5,.int s6,.int s7,.int s8,.int s9,.int s10,.int s11,.int s12,.int s13,.rows s14,.int s15,.rows s16,.rows s17,.bool s18,.rows s19,.bool s20,.int s21,.int s22,.int s23,.rows s24,.int s25,.int s26,.int s27]=some [.int (Ch r4 s10 s11)]:=by
 rfl
def Jq (r:Rul) (s:Inn) (runs overs:Int):Inn×Int :=
  cond (r.overs==0||(runs==0&&overs==0)) (s,25) (cond (iLt 0 runs&&(s.target==0||iLe runs s.runs)) (s,25)
    (cond (iLt 0 overs&&(iLt r.overs overs||iLt (IntKind.i64.wrap (overs * r.balls)) (Ch r.balls s.complete s.inover))) (s,25)
      ({ s with target:=cond (iLt 0 runs) runs s.target,overs:=cond (iLt 0 overs) overs s.overs },0)))
theorem nA {N:Nat} {r8:Bool} {r0:ByteArray} {r13:Rows} {s18 s20:Bool} {e4 e12 e17:Bool} (h:Fit s14 s16 s17 s19 s24):Fr N [.str r0,.int r1,.int r2,.int r3,.int r4,.int r5,.int r6,.int r7,.bool r8,.int r9,.int r10,.int r11,.int r12,.rows r13,.int s0,.int s1,.int s2,.int s3,.int s4,.int s5,.int s6,.int s7,.int s8,.int s9,.int s10,.int s11,.int s12,.int s13,.rows s14,.int s15,.rows s16,.rows s17,.bool s18,.rows s19,.bool s20,.int s21,.int s22,.int s23,.rows s24,.int s25,.int s26,.int s27,.int e0,.int e1,.int e2,.int e3,.bool e4,.int e5,.int e6,.int e7,.int e8,.int e9,.int e10,.int e11,.bool e12,.int e13,.int e14,.int e15,.int e16,.bool e17,.int e18]=some (Ai (Jq (⟨r0,r1,r2,r3,r4,r5,r6,r7,r8,r9,r10,r11,r12,r13⟩:Rul) (⟨s0,s1,s2,s3,s4,s5,s6,s7,s8,s9,s10,s11,s12,s13,s14,s15,s16,s17,s18,s19,s20,s21,s22,s23,s24,s25,s26,s27⟩:Inn) e5 e6)):=by
 show Iv (std (G3 N) N) (xOf _)=_;generalize hres:(some (Ai (Jq (⟨r0,r1,r2,r3,r4,r5,r6,r7,r8,r9,r10,r11,r12,r13⟩:Rul) (⟨s0,s1,s2,s3,s4,s5,s6,s7,s8,s9,s10,s11,s12,s13,s14,s15,s16,s17,s18,s19,s20,s21,s22,s23,s24,s25,s26,s27⟩:Inn) e5 e6)):Option (List PV))=RR;simp only [Iv,Pr,Qd,lq9,std,xOf,PXb,PXc,PXn,PXm,Nat.reduceAdd,Int.reduceBEq,CZ h,pu];subst hres;simp only [Jq];cases (r3==0||e5==0&&e6==0)<;>try rfl
 cases (iLt 0 e5&&(s1==0||iLe e5 s3))<;>try rfl
 cases iLt 0 e6<;>cases iLt r3 e6<;>try rfl
 simp only [PXb,PXc,PXn,PXm,Nat.reduceAdd,Int.reduceBEq];cases iLt (IntKind.i64.wrap (e6 * r4)) (Ch r4 s10 s11)<;>rfl
theorem vh {N:Nat} {r8:Bool} {r0:ByteArray} {r13:Rows} {s18 s20:Bool} {n:Int} {m:Int}  : Kq N [.str r0,.int r1,.int r2,.int r3,.int r4,.int r5,.int r6,.int r7,.bool r8,.int r9,.int r10,.int r11,.int r12,.rows r13,.int s0,.int s1,.int s2,.int s3,.int s4,.int s5,.int s6,.int s7,.int s8,.int s9,.int s10,.int s11,.int s12,.int s13,.rows s14,.int s15,.rows s16,.rows s17,.bool s18,.rows s19,.bool s20,.int s21,.int s22,.int s23,.rows s24,.int s25,.int s26,.int s27,.int n,.int m]=some (Ai (Jq (⟨r0,r1,r2,r3,r4,r5,r6,r7,r8,r9,r10,r11,r12,r13⟩:Rul) (⟨s0,s1,s2,s3,s4,s5,s6,s7,s8,s9,s10,s11,s12,s13,s14,s15,s16,s17,s18,s19,s20,s21,s22,s23,s24,s25,s26,s27⟩:Inn) n m)):=by
 show Lb (std (FW N) N) (xOf _)=_;generalize hres:(some (Ai (Jq (⟨r0,r1,r2,r3,r4,r5,r6,r7,r8,r9,r10,r11,r12,r13⟩:Rul) (⟨s0,s1,s2,s3,s4,s5,s6,s7,s8,s9,s10,s11,s12,s13,s14,s15,s16,s17,s18,s19,s20,s21,s22,s23,s24,s25,s26,s27⟩:Inn) n m)):Option (List PV))=RR;simp only [Lb,Ya,lq9,std,xOf,PXb,PXc,PXn,PXm,Nat.reduceAdd,Int.reduceBEq,yW];subst hres;simp only [Jq];cases r3==0<;>try rfl
 cases (n==0&&m==0)<;>cases (iLt 0 n&&(s1==0||iLe n s3))<;>cases iLt 0 m<;>cases iLt r3 m<;>try rfl
 all_goals (simp only [PXb,PXc,PXn,PXm,Nat.reduceAdd,Int.reduceBEq]<;>first | rfl | (cases iLt (IntKind.i64.wrap (m * r4)) (Ch r4 s10 s11)<;>rfl))
def BO (r:Rul) (s:Inn) (e:Ev):Inn×Int :=
  cond (e.kind==2) (MC s e.player e.other) (cond (e.kind==3) (SO r s e.player) (cond (e.kind==4) (Ix r s e.ball)
    (cond (e.kind==5) (cond e.yes (Db s e.player) (IM s e.player)) (cond (e.kind==6) (D5 s e.player e.yes) (cond (e.kind==7) (HA s e.runs)
      (cond (e.kind==8) (Js s e.player) (cond (e.kind==9) (Mm s e.player e.yes) (cond (e.kind==10) (HF r s) (cond (e.kind==11) (LR r s e.side)
        (cond (e.kind==13) (HK s e.side e.runs) (cond (e.kind==14) (GX r s e.side e.yes) (Jq r s e.runs e.overs))))))))))))
theorem jF {e:Ev} (h:(evS e==0)=true):(iLt e.kind 1||iLt 16 e.kind)=false:=by
 unfold evS at h;cases hk:(iLt e.kind 1||iLt 16 e.kind) with
 | false=>rfl
 | true=>rw [hk] at h;cases h
theorem zd {e:Ev} (h:(evS e==0)=true) (hk:e.kind=14):e.side=1∨e.side=2:=by
 have h0:=jF h;unfold evS at h;rw [h0] at h;cases h1:qX e with
 | true=>rw [h1] at h;cases h
 | false =>
  cases h2:fa e with
  | true=>rw [h1,h2] at h;cases h
  | false =>
   unfold fa at h2;rw [Bool.or_eq_false_iff] at h2;have h3:=h2.1;rw [hk,show uS 14=true from rfl,Bool.and_true] at h3;simp only [btw,iLe,Bool.not_eq_false',zzj,decide_eq_true_eq] at h3;omega
set_option maxHeartbeats 4000000 in
theorem jY {N:Nat} {r8:Bool} {r0:ByteArray} {r13:Rows} {s18 s20:Bool} {e4 e12 e17:Bool} (h:Fit s14 s16 s17 s19 s24) (hw:s17.length+s16.length≤1000000) (hN:2097152<N) (hs:r0.size≤1048576) (h13:r13.length≤1048576) (he:(evS (⟨e0,e1,e2,e3,e4,e5,e6,⟨e7,e8,e9,e10,e11,e12,e13,e14,e15,e16,e17,e18⟩⟩:Ev)==0)=true):FA N [.str r0,.int r1,.int r2,.int r3,.int r4,.int r5,.int r6,.int r7,.bool r8,.int r9,.int r10,.int r11,.int r12,.rows r13,.int s0,.int s1,.int s2,.int s3,.int s4,.int s5,.int s6,.int s7,.int s8,.int s9,.int s10,.int s11,.int s12,.int s13,.rows s14,.int s15,.rows s16,.rows s17,.bool s18,.rows s19,.bool s20,.int s21,.int s22,.int s23,.rows s24,.int s25,.int s26,.int s27,.int e0,.int e1,.int e2,.int e3,.bool e4,.int e5,.int e6,.int e7,.int e8,.int e9,.int e10,.int e11,.bool e12,.int e13,.int e14,.int e15,.int e16,.bool e17,.int e18]=some (Ai (BO (⟨r0,r1,r2,r3,r4,r5,r6,r7,r8,r9,r10,r11,r12,r13⟩:Rul) (⟨s0,s1,s2,s3,s4,s5,s6,s7,s8,s9,s10,s11,s12,s13,s14,s15,s16,s17,s18,s19,s20,s21,s22,s23,s24,s25,s26,s27⟩:Inn) (⟨e0,e1,e2,e3,e4,e5,e6,⟨e7,e8,e9,e10,e11,e12,e13,e14,e15,e16,e17,e18⟩⟩:Ev))):=by
  show Ez (std (As N) N) (xOf _)=_;generalize hres:(some (Ai (BO (⟨r0,r1,r2,r3,r4,r5,r6,r7,r8,r9,r10,r11,r12,r13⟩:Rul) (⟨s0,s1,s2,s3,s4,s5,s6,s7,s8,s9,s10,s11,s12,s13,s14,s15,s16,s17,s18,s19,s20,s21,s22,s23,s24,s25,s26,s27⟩:Inn) (⟨e0,e1,e2,e3,e4,e5,e6,⟨e7,e8,e9,e10,e11,e12,e13,e14,e15,e16,e17,e18⟩⟩:Ev))):Option (List PV))=RR;have hsd:e0=14→e1=1∨e1=2:=zd (e:=(⟨e0,e1,e2,e3,e4,e5,e6,⟨e7,e8,e9,e10,e11,e12,e13,e14,e15,e16,e17,e18⟩⟩:Ev)) he
  rcases ZG (jF he) with hk | hk | hk | hk | hk | hk | hk | hk | hk | hk | hk | hk | hk | hk | hk | hk<;>simp only at hk<;>subst hk<;>clear he
  all_goals (first
    | (have hsd := hsd rfl
       simp only [Ez,HO,Hy,Gk,F1,Gb,GC,GE,Gi,E5,GD,FQ,FR,Fy,Fv,lq9,std,xOf,PXb,PXc,PXn,PXm,Nat.reduceAdd,Int.reduceBEq,lu h hsd];subst hres;rfl)
    | (simp only [Ez, HO, Hy, Gk, F1, Gb, GC, GE, Gi, E5, GD, FQ, FR, Fy, Fv, lq9,std,xOf, PXb, PXc, PXn, PXm, Nat.reduceAdd, Int.reduceBEq, tL h hN, w5 h hN hs, rG h hw hN hs h13, mh h hN, qM h hN, o7 h hN, oD h, qh h, gX h, pQ h hN hs, jg h, jj h, nA h]
       subst hres
       first
       | rfl
       | (cases e4<;>rfl)))
def qZ (r:Rul) (s:Inn) (e:Ev):Inn×Int:=cond (e.kind==1||e.kind==12||e.kind==16) (s,1) (BO r s e)
set_option maxHeartbeats 4000000 in
theorem rt {N:Nat} {r8:Bool} {r0:ByteArray} {r13:Rows} {s18 s20:Bool} {e4 e12 e17:Bool} (h:Fit s14 s16 s17 s19 s24) (hw:s17.length+s16.length≤1000000) (hN:2097152<N) (hs:r0.size≤1048576) (h13:r13.length≤1048576) (he:(evS (⟨e0,e1,e2,e3,e4,e5,e6,⟨e7,e8,e9,e10,e11,e12,e13,e14,e15,e16,e17,e18⟩⟩:Ev)==0)=true):Ss N [.str r0,.int r1,.int r2,.int r3,.int r4,.int r5,.int r6,.int r7,.bool r8,.int r9,.int r10,.int r11,.int r12,.rows r13,.int s0,.int s1,.int s2,.int s3,.int s4,.int s5,.int s6,.int s7,.int s8,.int s9,.int s10,.int s11,.int s12,.int s13,.rows s14,.int s15,.rows s16,.rows s17,.bool s18,.rows s19,.bool s20,.int s21,.int s22,.int s23,.rows s24,.int s25,.int s26,.int s27,.int e0,.int e1,.int e2,.int e3,.bool e4,.int e5,.int e6,.int e7,.int e8,.int e9,.int e10,.int e11,.bool e12,.int e13,.int e14,.int e15,.int e16,.bool e17,.int e18]=some (Ai (qZ (⟨r0,r1,r2,r3,r4,r5,r6,r7,r8,r9,r10,r11,r12,r13⟩:Rul) (⟨s0,s1,s2,s3,s4,s5,s6,s7,s8,s9,s10,s11,s12,s13,s14,s15,s16,s17,s18,s19,s20,s21,s22,s23,s24,s25,s26,s27⟩:Inn) (⟨e0,e1,e2,e3,e4,e5,e6,⟨e7,e8,e9,e10,e11,e12,e13,e14,e15,e16,e17,e18⟩⟩:Ev))):=by
  show OZ (std (BS N) N) (xOf _)=_;generalize hres:(some (Ai (qZ (⟨r0,r1,r2,r3,r4,r5,r6,r7,r8,r9,r10,r11,r12,r13⟩:Rul) (⟨s0,s1,s2,s3,s4,s5,s6,s7,s8,s9,s10,s11,s12,s13,s14,s15,s16,s17,s18,s19,s20,s21,s22,s23,s24,s25,s26,s27⟩:Inn) (⟨e0,e1,e2,e3,e4,e5,e6,⟨e7,e8,e9,e10,e11,e12,e13,e14,e15,e16,e17,e18⟩⟩:Ev))):Option (List PV))=RR;have hsd:e0=14→e1=1∨e1=2:=zd (e:=(⟨e0,e1,e2,e3,e4,e5,e6,⟨e7,e8,e9,e10,e11,e12,e13,e14,e15,e16,e17,e18⟩⟩:Ev)) he
  rcases ZG (jF he) with hk | hk | hk | hk | hk | hk | hk | hk | hk | hk | hk | hk | hk | hk | hk | hk<;>simp only at hk<;>subst hk<;>clear he
  all_goals (first
    | (have hsd := hsd rfl
       simp only [OZ,OJ,SW,Sw,SR,Og,Qq,PL,Od,P7,LO,OU,QV,Pe,lq9,std,xOf,PXb,PXc,PXn,PXm,Nat.reduceAdd,Int.reduceBEq,vB hsd];subst hres;rfl)
    | (simp only [OZ, OJ, SW, Sw, SR, Og, Qq, PL, Od, P7, LO, OU, QV, Pe, lq9,std,xOf, PXb, PXc, PXn, PXm, Nat.reduceAdd, Int.reduceBEq, AAg h hN, AAS h hN hs, AA4 h hw hN hs h13, tq h hN, yg h hN, uz h hN, tn h, xV h, mc h, tc h hN hs, eJ h, vh]
       subst hres
       first
       | rfl
       | (cases e4<;>rfl)
       | (unfold qZ BO LR;simp only [PXb,PXc,PXn,PXm,Nat.reduceAdd,Int.reduceBEq];cases e1==s0<;>cases r3==0<;>rfl)
       | (unfold qZ BO HK J1;simp only [PXb,PXc,PXn,PXm,Nat.reduceAdd,Int.reduceBEq];cases e5==5<;>cases e1==s0<;>cases iLt 0 s1<;>rfl)))
theorem Lens.of {s t:Inn} (h1:t.batters.length=s.batters.length) (h2:t.bowled.length=s.bowled.length) (h3:t.subs.length=s.subs.length) (h4:t.bowlers=s.bowlers) (h5:t.before=s.before):Lens s t:=⟨h1,h2,h3,by rw [h4];omega,by rw [h5];omega⟩
theorem L_c {s:Inn} (b:Bool) (x y:Inn×Int) (hx:Lens s x.1) (hy:Lens s y.1):Lens s (cond b x y).1:=by cases b<;>assumption
theorem ABh (s:Inn) (p q:Int):Lens s (MC s p q).1:=by
 unfold MC;exact L_c _ _ _ (Lens.refl s) (L_c _ _ _ (Lens.refl s) (L_c _ _ _ (Lens.refl s) (Lens.of (by simp [N2]) rfl rfl rfl rfl)))
theorem AB2 (r:Rul) (s:Inn) (p:Int):Lens s (SO r s p).1:=by
 unfold SO;exact P_c (P:=fun x:Inn=>Lens s x) _ _ _ (Lens.of rfl rfl rfl rfl rfl) (Lens.refl s)
theorem ACI (r:Rul) (s:Inn) (d:Del):Lens s (Ix r s d).1:=by
 unfold Ix;refine L_c _ _ _ (Lens.refl s) ?_;have l1:=mj s d;have w1:=xn s d;have w2:=wC s d;simp only [lr];have l2:=gb r (Ak s d) (AF r d).counts;cases (Aq r (Ak s d) (AF r d).counts).2
 ·exact ⟨l2.bt.trans l1.bt,l2.bd.trans l1.bd,l2.sb.trans l1.sb,by have:=l2.bw;rw [w1] at this;exact this,by have:=l2.bf;rw [w1,w2] at this;exact this⟩
 ·exact ⟨l2.bt.trans l1.bt,l2.bd.trans l1.bd,l2.sb.trans l1.sb,by have:=l2.bw;rw [w1] at this;exact this,by have:=l2.bf;rw [w1,w2] at this;exact this⟩
theorem yA (s:Inn) (p:Int):Lens s (Db s p).1:=by
 unfold Db;exact L_c _ _ _ (Lens.of (by simp [N2]) rfl rfl rfl rfl) (Lens.refl s)
theorem ABJ (s:Inn) (p:Int):Lens s (IM s p).1:=by
 unfold IM;exact L_c _ _ _ (Lens.of (by simp [N2]) rfl rfl rfl rfl) (Lens.refl s)
theorem y6 (s:Inn) (p:Int) (b:Bool):Lens s (D5 s p b).1:=by
 unfold D5;exact L_c _ _ _ (Lens.refl s) (L_c _ _ _ (Lens.refl s) (L_c _ _ _ (Lens.refl s) (L_c _ _ _ (Lens.refl s) (Lens.of (by simp [N2]) rfl rfl rfl rfl))))
theorem xU (s:Inn) (n:Int):Lens s (HA s n).1:=by
 unfold HA;exact L_c _ _ _ (Lens.refl s) (Lens.of rfl rfl rfl rfl rfl)
theorem yj (s:Inn) (n:Int):Lens s (Js s n).1:=by
 unfold Js;exact L_c _ _ _ (Lens.refl s) (L_c _ _ _ (Lens.refl s) (L_c _ _ _ (Lens.refl s) (Lens.of rfl rfl rfl rfl rfl)))
theorem ABa (s:Inn) (n:Int) (b:Bool):Lens s (Mm s n b).1:=by
 unfold Mm;exact L_c _ _ _ (Lens.refl s) (L_c _ _ _ (Lens.refl s) (Lens.of rfl rfl (by simp [ADS]) rfl rfl))
theorem xO (r:Rul) (s:Inn):Lens s (HF r s).1:=by
 unfold HF;exact L_c _ _ _ (Lens.refl s) (Lens.of rfl rfl rfl rfl rfl)
theorem xk (r:Rul) (s:Inn) (n:Int):Lens s (LR r s n).1:=by
 unfold LR;exact L_c _ _ _ (Lens.refl s) (L_c _ _ _ (Lens.refl s) (Lens.of rfl rfl rfl rfl rfl))
theorem vK (s:Inn) (n m:Int):Lens s (HK s n m).1:=by
 unfold HK;exact L_c _ _ _ (Lens.refl s) (L_c _ _ _ (Lens.of rfl rfl rfl rfl rfl) (Lens.of rfl rfl rfl rfl rfl))
theorem yr (r:Rul) (s:Inn) (n:Int) (b:Bool):Lens s (GX r s n b).1:=by
 unfold GX;exact L_c _ _ _ (Lens.refl s) (L_c _ _ _ (Lens.of rfl rfl rfl rfl rfl) (Lens.refl s))
theorem yK (r:Rul) (s:Inn) (n m:Int):Lens s (Jq r s n m).1:=by
 unfold Jq;exact L_c _ _ _ (Lens.refl s) (L_c _ _ _ (Lens.refl s) (L_c _ _ _ (Lens.refl s) (Lens.of rfl rfl rfl rfl rfl)))
theorem VO (r:Rul) (s:Inn) (e:Ev):Lens s (BO r s e).1:=by
  unfold BO;exact L_c _ _ _ (ABh ..) (L_c _ _ _ (AB2 ..) (L_c _ _ _ (ACI ..) (L_c _ _ _ (L_c _ _ _ (yA ..) (ABJ ..)) (L_c _ _ _ (y6 ..) (L_c _ _ _ (xU ..)
    (L_c _ _ _ (yj ..) (L_c _ _ _ (ABa ..) (L_c _ _ _ (xO ..) (L_c _ _ _ (xk ..) (L_c _ _ _ (vK ..) (L_c _ _ _ (yr ..) (yK ..))))))))))))
def FC (r:Rul) (s:Inn):Bool:=Mf r.name r.side r.innings r.overs r.balls r.quota r.wide r.noball r.newball r.followon r.reviews r.outside r.power s.batters s.bowlers s.before s.bowled s.subs s.side s.target s.overs s.runs s.wickets s.wides s.noballs s.byes s.legbyes s.pens s.complete s.inover s.striker s.other s.bowler s.ballage s.keeper s.outside s.rev1 s.rev2 s.ending
def ADU (r:Rul) (s:Inn):Int:=wO (FC r s) s.batters s.striker s.other s.target s.overs s.runs s.complete
theorem Xy {N:Nat} {r8:Bool} {r0:ByteArray} {r13:Rows} {s18 s20:Bool} (h:Fit s14 s16 s17 s19 s24) (hN:2097152<N) (hs:r0.size≤1048576):BZ N [.str r0,.int r1,.int r2,.int r3,.int r4,.int r5,.int r6,.int r7,.bool r8,.int r9,.int r10,.int r11,.int r12,.rows r13,.int s0,.int s1,.int s2,.int s3,.int s4,.int s5,.int s6,.int s7,.int s8,.int s9,.int s10,.int s11,.int s12,.int s13,.rows s14,.int s15,.rows s16,.rows s17,.bool s18,.rows s19,.bool s20,.int s21,.int s22,.int s23,.rows s24,.int s25,.int s26,.int s27]=some [.bool (FC (⟨r0,r1,r2,r3,r4,r5,r6,r7,r8,r9,r10,r11,r12,r13⟩:Rul) (⟨s0,s1,s2,s3,s4,s5,s6,s7,s8,s9,s10,s11,s12,s13,s14,s15,s16,s17,s18,s19,s20,s21,s22,s23,s24,s25,s26,s27⟩:Inn))]:=by
 exact VG N _ _ _ _ _ _ _ _ _ _ _ _ _ _ _ _ _ _ _ _ _ _ _ _ _ _ _ _ _ _ _ _ _ _ _ _ _ _ _ _ _ _ hN hs h.bt h.bw h.bf h.bd
theorem kV {N:Nat} {r8:Bool} {r0:ByteArray} {r13:Rows} {s18 s20:Bool} (h:Fit s14 s16 s17 s19 s24) (hN:2097152<N) (hs:r0.size≤1048576):DI N [.str r0,.int r1,.int r2,.int r3,.int r4,.int r5,.int r6,.int r7,.bool r8,.int r9,.int r10,.int r11,.int r12,.rows r13,.int s0,.int s1,.int s2,.int s3,.int s4,.int s5,.int s6,.int s7,.int s8,.int s9,.int s10,.int s11,.int s12,.int s13,.rows s14,.int s15,.rows s16,.rows s17,.bool s18,.rows s19,.bool s20,.int s21,.int s22,.int s23,.rows s24,.int s25,.int s26,.int s27]=some [.bool (FC (⟨r0,r1,r2,r3,r4,r5,r6,r7,r8,r9,r10,r11,r12,r13⟩:Rul) (⟨s0,s1,s2,s3,s4,s5,s6,s7,s8,s9,s10,s11,s12,s13,s14,s15,s16,s17,s18,s19,s20,s21,s22,s23,s24,s25,s26,s27⟩:Inn))]:=by
 exact fm N _ _ _ _ _ _ _ _ _ _ _ _ _ _ _ _ _ _ _ _ _ _ _ _ _ _ _ _ _ _ _ _ _ _ _ _ _ _ _ _ _ _ hN hs h.bt h.bw h.bf h.bd
theorem mZ {N:Nat} {r8:Bool} {r0:ByteArray} {r13:Rows} {s18 s20:Bool} (h:Fit s14 s16 s17 s19 s24) (hN:2097152<N) (hs:r0.size≤1048576):EA N [.str r0,.int r1,.int r2,.int r3,.int r4,.int r5,.int r6,.int r7,.bool r8,.int r9,.int r10,.int r11,.int r12,.rows r13,.int s0,.int s1,.int s2,.int s3,.int s4,.int s5,.int s6,.int s7,.int s8,.int s9,.int s10,.int s11,.int s12,.int s13,.rows s14,.int s15,.rows s16,.rows s17,.bool s18,.rows s19,.bool s20,.int s21,.int s22,.int s23,.rows s24,.int s25,.int s26,.int s27]=some [.int (ADU (⟨r0,r1,r2,r3,r4,r5,r6,r7,r8,r9,r10,r11,r12,r13⟩:Rul) (⟨s0,s1,s2,s3,s4,s5,s6,s7,s8,s9,s10,s11,s12,s13,s14,s15,s16,s17,s18,s19,s20,s21,s22,s23,s24,s25,s26,s27⟩:Inn))]:=by
 exact ji N _ _ _ _ _ _ _ _ _ _ _ _ _ _ _ _ _ _ _ _ _ _ _ _ _ _ _ _ _ _ _ _ _ _ _ _ _ _ _ _ _ _ hN hs h.bt h.bw h.bf h.bd
theorem xD {N:Nat} {r8:Bool} {r0:ByteArray} {r13:Rows} {s18 s20:Bool} (h:Fit s14 s16 s17 s19 s24) (hN:2097152<N) (hs:r0.size≤1048576):Kd N [.str r0,.int r1,.int r2,.int r3,.int r4,.int r5,.int r6,.int r7,.bool r8,.int r9,.int r10,.int r11,.int r12,.rows r13,.int s0,.int s1,.int s2,.int s3,.int s4,.int s5,.int s6,.int s7,.int s8,.int s9,.int s10,.int s11,.int s12,.int s13,.rows s14,.int s15,.rows s16,.rows s17,.bool s18,.rows s19,.bool s20,.int s21,.int s22,.int s23,.rows s24,.int s25,.int s26,.int s27]=some [.int (ADU (⟨r0,r1,r2,r3,r4,r5,r6,r7,r8,r9,r10,r11,r12,r13⟩:Rul) (⟨s0,s1,s2,s3,s4,s5,s6,s7,s8,s9,s10,s11,s12,s13,s14,s15,s16,s17,s18,s19,s20,s21,s22,s23,s24,s25,s26,s27⟩:Inn))]:=by
 exact uN N _ _ _ _ _ _ _ _ _ _ _ _ _ _ _ _ _ _ _ _ _ _ _ _ _ _ _ _ _ _ _ _ _ _ _ _ _ _ _ _ _ _ hN hs h.bt h.bw h.bf h.bd
def nO (t:Inn) (b:Bool):Inn:=⟨t.side,t.target,t.overs,t.runs,t.wickets,t.wides,t.noballs,t.byes,t.legbyes,t.pens,t.complete,t.inover,t.striker,t.other,t.batters,t.bowler,t.bowlers,t.before,b,t.bowled,t.freehit,t.ballage,t.keeper,t.outside,t.subs,t.rev1,t.rev2,t.ending⟩
def B7 (r:Rul) (t:Inn) (b:Bool):Inn:={ nO t b with ending:=cond (t.ending==0) (ADU r (nO t b)) t.ending }
def br (s:Inn) (e:Ev):Bool:=e.kind==1||e.kind==12||e.kind==16||(!Bz s.batters && !(e.kind==2))
def Av (r:Rul) (s:Inn) (e:Ev):Inn×Int :=
  cond (!FC r s || !(evS e==0)) (s,1) (cond (!(s.ending==0)) (s,26) (cond (br s e) (s,1)
    (cond (!((BO r s e).2==0)) (s,(BO r s e).2) (B7 r (BO r s e).1 (e.kind==4),0))))
set_option maxHeartbeats 4000000 in
theorem Q9 {N:Nat} {r8:Bool} {r0:ByteArray} {r13:Rows} {s18 s20:Bool} {e4 e12 e17:Bool} (h:Fit s14 s16 s17 s19 s24) (hw:s17.length+s16.length≤1000000) (hN:2097152<N) (hs:r0.size≤1048576) (h13:r13.length≤1048576):IY N [.str r0,.int r1,.int r2,.int r3,.int r4,.int r5,.int r6,.int r7,.bool r8,.int r9,.int r10,.int r11,.int r12,.rows r13,.int s0,.int s1,.int s2,.int s3,.int s4,.int s5,.int s6,.int s7,.int s8,.int s9,.int s10,.int s11,.int s12,.int s13,.rows s14,.int s15,.rows s16,.rows s17,.bool s18,.rows s19,.bool s20,.int s21,.int s22,.int s23,.rows s24,.int s25,.int s26,.int s27,.int e0,.int e1,.int e2,.int e3,.bool e4,.int e5,.int e6,.int e7,.int e8,.int e9,.int e10,.int e11,.bool e12,.int e13,.int e14,.int e15,.int e16,.bool e17,.int e18]=some (Ai (Av (⟨r0,r1,r2,r3,r4,r5,r6,r7,r8,r9,r10,r11,r12,r13⟩:Rul) (⟨s0,s1,s2,s3,s4,s5,s6,s7,s8,s9,s10,s11,s12,s13,s14,s15,s16,s17,s18,s19,s20,s21,s22,s23,s24,s25,s26,s27⟩:Inn) (⟨e0,e1,e2,e3,e4,e5,e6,⟨e7,e8,e9,e10,e11,e12,e13,e14,e15,e16,e17,e18⟩⟩:Ev))):=by
 show L0 (std (Cm N) N) (xOf _)=_;generalize hres:(some (Ai (Av (⟨r0,r1,r2,r3,r4,r5,r6,r7,r8,r9,r10,r11,r12,r13⟩:Rul) (⟨s0,s1,s2,s3,s4,s5,s6,s7,s8,s9,s10,s11,s12,s13,s14,s15,s16,s17,s18,s19,s20,s21,s22,s23,s24,s25,s26,s27⟩:Inn) (⟨e0,e1,e2,e3,e4,e5,e6,⟨e7,e8,e9,e10,e11,e12,e13,e14,e15,e16,e17,e18⟩⟩:Ev))):Option (List PV))=RR;have l1:=VO (⟨r0,r1,r2,r3,r4,r5,r6,r7,r8,r9,r10,r11,r12,r13⟩:Rul) (⟨s0,s1,s2,s3,s4,s5,s6,s7,s8,s9,s10,s11,s12,s13,s14,s15,s16,s17,s18,s19,s20,s21,s22,s23,s24,s25,s26,s27⟩:Inn) (⟨e0,e1,e2,e3,e4,e5,e6,⟨e7,e8,e9,e10,e11,e12,e13,e14,e15,e16,e17,e18⟩⟩:Ev);have f1:=LA l1 h (by simp only;omega);simp only [L0,TR,RY,RI,Re,G5,HQ,lq9,std,xOf,PXb,Xy h hN hs,eA hN,CZ h,o8 h.bt hN];subst hres;simp only [Av,br];cases FC (⟨r0,r1,r2,r3,r4,r5,r6,r7,r8,r9,r10,r11,r12,r13⟩:Rul) (⟨s0,s1,s2,s3,s4,s5,s6,s7,s8,s9,s10,s11,s12,s13,s14,s15,s16,s17,s18,s19,s20,s21,s22,s23,s24,s25,s26,s27⟩:Inn)
 ·rfl
 cases he:evS (⟨e0,e1,e2,e3,e4,e5,e6,⟨e7,e8,e9,e10,e11,e12,e13,e14,e15,e16,e17,e18⟩⟩:Ev)==0
 ·simp only [PXb,PXc,PXn,PXm,Nat.reduceAdd,Int.reduceBEq,he]
 simp only [PXb,PXc,PXn,PXm,Nat.reduceAdd,Int.reduceBEq,he];cases s27==0<;>try rfl
 cases (e0==1||e0==12||e0==16)<;>cases Bz s14<;>cases e0==2<;>try rfl
 all_goals (simp only [PXb,PXc,PXn,PXm,Nat.reduceAdd,Int.reduceBEq,G5,HQ,jY h hw hN hs h13 he,mZ f1 hN hs])
 all_goals (unfold B7 nO;cases (BO (⟨r0,r1,r2,r3,r4,r5,r6,r7,r8,r9,r10,r11,r12,r13⟩:Rul) (⟨s0,s1,s2,s3,s4,s5,s6,s7,s8,s9,s10,s11,s12,s13,s14,s15,s16,s17,s18,s19,s20,s21,s22,s23,s24,s25,s26,s27⟩:Inn) (⟨e0,e1,e2,e3,e4,e5,e6,⟨e7,e8,e9,e10,e11,e12,e13,e14,e15,e16,e17,e18⟩⟩:Ev)).2==0<;>cases (BO (⟨r0,r1,r2,r3,r4,r5,r6,r7,r8,r9,r10,r11,r12,r13⟩:Rul) (⟨s0,s1,s2,s3,s4,s5,s6,s7,s8,s9,s10,s11,s12,s13,s14,s15,s16,s17,s18,s19,s20,s21,s22,s23,s24,s25,s26,s27⟩:Inn) (⟨e0,e1,e2,e3,e4,e5,e6,⟨e7,e8,e9,e10,e11,e12,e13,e14,e15,e16,e17,e18⟩⟩:Ev)).1.ending==0<;>rfl)
end Go.Px
end
