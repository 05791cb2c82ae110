/- Part 10. -/
import Derived.Test.YteolngdncakekaaGreatPart09
set_option linter.unusedVariables false
set_option linter.unusedSimpArgs false
section
namespace Go.Px
set_option maxRecDepth 100000
structure Lens (s t:Inn):Prop where
 bt:t.batters.length=s.batters.length
 bd:t.bowled.length=s.bowled.length
 sb:t.subs.length=s.subs.length
 bw:t.bowlers.length≤s.bowlers.length+1
 bf:t.before.length≤s.before.length+s.bowlers.length+1
theorem Lens.refl (s:Inn):Lens s s:=⟨rfl,rfl,rfl,by omega,by omega⟩
theorem P_c {α:Type} {P:α→Prop} (b:Bool) (x y:α) (hx:P x) (hy:P y):P (cond b x y):=by cases b<;>assumption
theorem ZC (s:Inn) (d:Del):Lens s (Bs s d):=by
 have hb:∀ (b:Bool),(cond b (Lb s.batters s.striker 2) s.batters).length=s.batters.length:=fun b=>by cases b<;>simp [Jk]
 have hc:∀ (b:Bool),(cond b (Lb s.batters s.other 2) s.batters).length=s.batters.length:=fun b=>by cases b<;>simp [Jk]
 unfold Bs
 cases (!(d.runs.tmod 2==0) != d.crossed)<;>refine P_c _ _ _ ⟨hb _,rfl,rfl,?_,?_⟩ (P_c _ _ _ ⟨hc _,rfl,rfl,?_,?_⟩ ⟨rfl,rfl,rfl,?_,?_⟩)<;>simp<;>omega
theorem X8 (r:Rul) (s:Inn) (c:Bool):Lens s (Ha r s c).1:=by
 have hl:(cond (Im s.bowlers s.bowlers.length s.bowler) s.bowlers (s.bowlers++[[.int s.bowler]])).length≤s.bowlers.length+1:=by
  cases Im s.bowlers s.bowlers.length s.bowler<;>simp
 have hd:(cond c (Lb s.bowled s.bowler (inc (atI s.bowled (ix s.bowler) 0))) s.bowled).length=s.bowled.length:=by cases c<;>simp [Jk]
 unfold Ha
 refine P_c (P:=fun x:Inn×Bool=>Lens s x.1) _ _ _ (Lens.refl s) (P_c (P:=fun x:Inn×Bool=>Lens s x.1) _ _ _ ⟨rfl,hd,rfl,hl,by simp;omega⟩ ⟨rfl,hd,rfl,by simp,?_⟩)
 simp only
 omega
def WC (a b c d:Int):Int:=cond (!(a==0)) a (cond (!(b==0)) b (cond (!(c==0)) c (cond (!(d==0)) d 0)))
def HA (r:Rul) (s:Inn) (d:Del):Int :=
 cond (Hj s.batters s.striker s.other) 6 (cond (s.bowler==0) 7 (WC (Ok r s) (Ay d) (BP d s.freehit) (Og s d)))
theorem US {N:Nat} {r1 r2 r3 r4 r5 r6 r7 r9 r10 r11 r12:Int} {r8:Bool} {r0:ByteArray} {r13:Rows} {s0 s1 s2 s3 s4 s5 s6 s7 s8 s9 s10 s11 s12 s13 s15 s21 s22 s23 s25 s26 s27:Int} {s18 s20:Bool} {s14 s16 s17 s19 s24:Rows} {d0 d1 d2 d3 d4 d6 d7 d8 d9 d11:Int} {d5 d10:Bool} (h:Fit s14 s16 s17 s19 s24) (hN:2097152<N) (h13:r13.length≤1048576):Df N [.str r0,.int r1,.int r2,.int r3,.int r4,.int r5,.int r6,.int r7,.bool r8,.int r9,.int r10,.int r11,.int r12,.rows r13,.int s0,.int s1,.int s2,.int s3,.int s4,.int s5,.int s6,.int s7,.int s8,.int s9,.int s10,.int s11,.int s12,.int s13,.rows s14,.int s15,.rows s16,.rows s17,.bool s18,.rows s19,.bool s20,.int s21,.int s22,.int s23,.rows s24,.int s25,.int s26,.int s27,.int d0,.int d1,.int d2,.int d3,.int d4,.bool d5,.int d6,.int d7,.int d8,.int d9,.bool d10,.int d11]=some [.int (HA (⟨r0,r1,r2,r3,r4,r5,r6,r7,r8,r9,r10,r11,r12,r13⟩:Rul) (⟨s0,s1,s2,s3,s4,s5,s6,s7,s8,s9,s10,s11,s12,s13,s14,s15,s16,s17,s18,s19,s20,s21,s22,s23,s24,s25,s26,s27⟩:Inn) (⟨d0,d1,d2,d3,d4,d5,d6,d7,d8,d9,d10,d11⟩:Del))]:=by
 show Fc (std (Bp N) N) (xOf _)=_
 generalize hres:(some [.int (HA (⟨r0,r1,r2,r3,r4,r5,r6,r7,r8,r9,r10,r11,r12,r13⟩:Rul) (⟨s0,s1,s2,s3,s4,s5,s6,s7,s8,s9,s10,s11,s12,s13,s14,s15,s16,s17,s18,s19,s20,s21,s22,s23,s24,s25,s26,s27⟩:Inn) (⟨d0,d1,d2,d3,d4,d5,d6,d7,d8,d9,d10,d11⟩:Del))]:Option (List PV))=RR
 simp only [Fc,Jn,Hw,KC,LD,LJ,std,xOf,PXb,Po h.bt hN,YN h hN h13,Jv,Ke hN,YM h]
 subst hres;simp only [HA]
 cases Hj s14 s12 s13<;>try rfl
 cases s15==0<;>try rfl
 simp only [PXb]
 generalize Ok (⟨r0,r1,r2,r3,r4,r5,r6,r7,r8,r9,r10,r11,r12,r13⟩:Rul) (⟨s0,s1,s2,s3,s4,s5,s6,s7,s8,s9,s10,s11,s12,s13,s14,s15,s16,s17,s18,s19,s20,s21,s22,s23,s24,s25,s26,s27⟩:Inn)=a
 generalize Ay (⟨d0,d1,d2,d3,d4,d5,d6,d7,d8,d9,d10,d11⟩:Del)=b
 generalize BP (⟨d0,d1,d2,d3,d4,d5,d6,d7,d8,d9,d10,d11⟩:Del) s20=c
 generalize Og (⟨s0,s1,s2,s3,s4,s5,s6,s7,s8,s9,s10,s11,s12,s13,s14,s15,s16,s17,s18,s19,s20,s21,s22,s23,s24,s25,s26,s27⟩:Inn) (⟨d0,d1,d2,d3,d4,d5,d6,d7,d8,d9,d10,d11⟩:Del)=e
 refine AM (Cg (len:=4) (fun i=>cond (!(atI [[.int a],[.int b],[.int c],[.int e]] i 0==0)) (some [.int (atI [[.int a],[.int b],[.int c],[.int e]] i 0)]) none) ?_ ?_ 4 0 N (by omega) (by omega)) ?_
 ·intro self
  rfl
 ·intro i self hi
  simp only [PXb,Aw (show i≤1099511627776 by omega),List.length_cons,List.length_nil,Nat.reduceAdd,Az hi,Ag hi,D2]
  cases atI [[.int a],[.int b],[.int c],[.int e]] i 0==0<;>rfl
 ·refine (Wv _).trans (congrArg (fun z=>some [PV.int z]) ?_)
  unfold WC
  simp only [Bu]
  rw [show atI [[.int a],[.int b],[.int c],[.int e]] 0 0=a from rfl,show atI [[.int a],[.int b],[.int c],[.int e]] (0+1) 0=b from rfl,show atI [[.int a],[.int b],[.int c],[.int e]] (0+1+1) 0=c from rfl,show atI [[.int a],[.int b],[.int c],[.int e]] (0+1+1+1) 0=e from rfl]
  cases a==0<;>try rfl
  cases b==0<;>try rfl
  cases c==0<;>try rfl
  cases e==0<;>rfl
theorem QW {s t:Inn} (l:Lens s t) (h:s.Fit) (hw:s.before.length+s.bowlers.length≤1048575):t.Fit:=⟨l.bt▸h.bt,by have:=l.bw;omega,by have:=l.bf;omega,l.bd▸h.bd,l.sb▸h.sb⟩
theorem eB (s:Inn) (d:Del):(Bs s d).bowlers=s.bowlers:=by
 unfold Bs
 cases (!(d.runs.tmod 2==0) != d.crossed)<;>exact P_c (P:=fun x:Inn=>x.bowlers=s.bowlers) _ _ _ rfl (P_c (P:=fun x:Inn=>x.bowlers=s.bowlers) _ _ _ rfl rfl)
theorem dh (s:Inn) (d:Del):(Bs s d).before=s.before:=by
 unfold Bs
 cases (!(d.runs.tmod 2==0) != d.crossed)<;>exact P_c (P:=fun x:Inn=>x.before=s.before) _ _ _ rfl (P_c (P:=fun x:Inn=>x.before=s.before) _ _ _ rfl rfl)
@[reducible] def Sg (t:Inn) (a b e f g:Int):Inn:=⟨t.side,t.target,t.overs,a,t.wickets,b,e,f,g,t.pens,t.complete,t.inover,t.striker,t.other,t.batters,t.bowler,t.bowlers,t.before,t.fresh,t.bowled,t.freehit,t.ballage,t.keeper,t.outside,t.subs,t.rev1,t.rev2,t.ending⟩
def ML (r:Rul) (s:Inn) (d:Del):Inn×Int :=
  cond (!(HA r s d==0)) (s,HA r s d)
    (let c:=B1 r d
     let t:=Bs s d
     let o:=Ha r (Sg t (IntKind.i64.wrap (t.runs+V4 c)) (IntKind.i64.wrap (t.wides+c.wides)) (IntKind.i64.wrap (t.noballs+c.noballs)) (IntKind.i64.wrap (t.byes+c.byes)) (IntKind.i64.wrap (t.legbyes+c.legbyes))) c.counts
     let t:Inn:=cond o.2 (XC o.1) o.1
     ({ t with freehit:=cond (d.type==1) false (cond (d.type==3&&r.freehit) true o.1.freehit) },0))
theorem XK {N:Nat} {r1 r2 r3 r4 r5 r6 r7 r9 r10 r11 r12:Int} {r8:Bool} {r0:ByteArray} {r13:Rows} {s0 s1 s2 s3 s4 s5 s6 s7 s8 s9 s10 s11 s12 s13 s15 s21 s22 s23 s25 s26 s27:Int} {s18 s20:Bool} {s14 s16 s17 s19 s24:Rows} {d0 d1 d2 d3 d4 d6 d7 d8 d9 d11:Int} {d5 d10:Bool} (h:Fit s14 s16 s17 s19 s24) (hw:s17.length+s16.length≤1000000) (hN:2097152<N) (hs:r0.size≤1048576) (h13:r13.length≤1048576):Fm N [.str r0,.int r1,.int r2,.int r3,.int r4,.int r5,.int r6,.int r7,.bool r8,.int r9,.int r10,.int r11,.int r12,.rows r13,.int s0,.int s1,.int s2,.int s3,.int s4,.int s5,.int s6,.int s7,.int s8,.int s9,.int s10,.int s11,.int s12,.int s13,.rows s14,.int s15,.rows s16,.rows s17,.bool s18,.rows s19,.bool s20,.int s21,.int s22,.int s23,.rows s24,.int s25,.int s26,.int s27,.int d0,.int d1,.int d2,.int d3,.int d4,.bool d5,.int d6,.int d7,.int d8,.int d9,.bool d10,.int d11]=some (A8 (ML (⟨r0,r1,r2,r3,r4,r5,r6,r7,r8,r9,r10,r11,r12,r13⟩:Rul) (⟨s0,s1,s2,s3,s4,s5,s6,s7,s8,s9,s10,s11,s12,s13,s14,s15,s16,s17,s18,s19,s20,s21,s22,s23,s24,s25,s26,s27⟩:Inn) (⟨d0,d1,d2,d3,d4,d5,d6,d7,d8,d9,d10,d11⟩:Del))):=by
 show IH (std (Ba N) N) (xOf _)=_
 generalize hres:(some (A8 (ML (⟨r0,r1,r2,r3,r4,r5,r6,r7,r8,r9,r10,r11,r12,r13⟩:Rul) (⟨s0,s1,s2,s3,s4,s5,s6,s7,s8,s9,s10,s11,s12,s13,s14,s15,s16,s17,s18,s19,s20,s21,s22,s23,s24,s25,s26,s27⟩:Inn) (⟨d0,d1,d2,d3,d4,d5,d6,d7,d8,d9,d10,d11⟩:Del))):Option (List PV))=RR
 have l1:=ZC (⟨s0,s1,s2,s3,s4,s5,s6,s7,s8,s9,s10,s11,s12,s13,s14,s15,s16,s17,s18,s19,s20,s21,s22,s23,s24,s25,s26,s27⟩:Inn) (⟨d0,d1,d2,d3,d4,d5,d6,d7,d8,d9,d10,d11⟩:Del)
 have f1:=QW l1 h (by simp only;omega)
 have w1:(Bs (⟨s0,s1,s2,s3,s4,s5,s6,s7,s8,s9,s10,s11,s12,s13,s14,s15,s16,s17,s18,s19,s20,s21,s22,s23,s24,s25,s26,s27⟩:Inn) (⟨d0,d1,d2,d3,d4,d5,d6,d7,d8,d9,d10,d11⟩:Del)).bowlers.length=s16.length:=congrArg List.length (eB _ _)
 have w2:(Bs (⟨s0,s1,s2,s3,s4,s5,s6,s7,s8,s9,s10,s11,s12,s13,s14,s15,s16,s17,s18,s19,s20,s21,s22,s23,s24,s25,s26,s27⟩:Inn) (⟨d0,d1,d2,d3,d4,d5,d6,d7,d8,d9,d10,d11⟩:Del)).before.length=s17.length:=congrArg List.length (dh _ _)
 have l2:=fun (x:Rul) (c:Bool) (a b e f g:Int)=>X8 x (Sg (Bs (⟨s0,s1,s2,s3,s4,s5,s6,s7,s8,s9,s10,s11,s12,s13,s14,s15,s16,s17,s18,s19,s20,s21,s22,s23,s24,s25,s26,s27⟩:Inn) (⟨d0,d1,d2,d3,d4,d5,d6,d7,d8,d9,d10,d11⟩:Del)) a b e f g) c
 have f2:=fun (x:Rul) (c:Bool) (a b e f g:Int)=>QW (l2 x c a b e f g) f1 (show (Bs (⟨s0,s1,s2,s3,s4,s5,s6,s7,s8,s9,s10,s11,s12,s13,s14,s15,s16,s17,s18,s19,s20,s21,s22,s23,s24,s25,s26,s27⟩:Inn) (⟨d0,d1,d2,d3,d4,d5,d6,d7,d8,d9,d10,d11⟩:Del)).before.length+(Bs (⟨s0,s1,s2,s3,s4,s5,s6,s7,s8,s9,s10,s11,s12,s13,s14,s15,s16,s17,s18,s19,s20,s21,s22,s23,s24,s25,s26,s27⟩:Inn) (⟨d0,d1,d2,d3,d4,d5,d6,d7,d8,d9,d10,d11⟩:Del)).bowlers.length≤1048575 by omega)
 simp only [IH,Lp,Kx,Kf,N0,LC,Nm,L6,std,xOf,PXb,PXc,PXn,PXm,Nat.reduceAdd,Int.reduceBEq,US h hN h13,Bq h,UJ,Zt h,VQ,Cre.ls,Z4 f1 (show (Bs (⟨s0,s1,s2,s3,s4,s5,s6,s7,s8,s9,s10,s11,s12,s13,s14,s15,s16,s17,s18,s19,s20,s21,s22,s23,s24,s25,s26,s27⟩:Inn) (⟨d0,d1,d2,d3,d4,d5,d6,d7,d8,d9,d10,d11⟩:Del)).bowlers.length≤1048575 by omega) hN hs,ee,Vq (f2 _ _ _ _ _ _ _)]
 subst hres;simp only [ML,Sg]
 cases HA (⟨r0,r1,r2,r3,r4,r5,r6,r7,r8,r9,r10,r11,r12,r13⟩:Rul) (⟨s0,s1,s2,s3,s4,s5,s6,s7,s8,s9,s10,s11,s12,s13,s14,s15,s16,s17,s18,s19,s20,s21,s22,s23,s24,s25,s26,s27⟩:Inn) (⟨d0,d1,d2,d3,d4,d5,d6,d7,d8,d9,d10,d11⟩:Del)==0 with
 | false=>rfl
 | true =>
  obtain ⟨o,ho⟩:∃ o,o=Ha (⟨r0,r1,r2,r3,r4,r5,r6,r7,r8,r9,r10,r11,r12,r13⟩:Rul) (Sg (Bs (⟨s0,s1,s2,s3,s4,s5,s6,s7,s8,s9,s10,s11,s12,s13,s14,s15,s16,s17,s18,s19,s20,s21,s22,s23,s24,s25,s26,s27⟩:Inn) (⟨d0,d1,d2,d3,d4,d5,d6,d7,d8,d9,d10,d11⟩:Del)) (IntKind.i64.wrap ((Bs (⟨s0,s1,s2,s3,s4,s5,s6,s7,s8,s9,s10,s11,s12,s13,s14,s15,s16,s17,s18,s19,s20,s21,s22,s23,s24,s25,s26,s27⟩:Inn) (⟨d0,d1,d2,d3,d4,d5,d6,d7,d8,d9,d10,d11⟩:Del)).runs+V4 (B1 (⟨r0,r1,r2,r3,r4,r5,r6,r7,r8,r9,r10,r11,r12,r13⟩:Rul) (⟨d0,d1,d2,d3,d4,d5,d6,d7,d8,d9,d10,d11⟩:Del)))) (IntKind.i64.wrap ((Bs (⟨s0,s1,s2,s3,s4,s5,s6,s7,s8,s9,s10,s11,s12,s13,s14,s15,s16,s17,s18,s19,s20,s21,s22,s23,s24,s25,s26,s27⟩:Inn) (⟨d0,d1,d2,d3,d4,d5,d6,d7,d8,d9,d10,d11⟩:Del)).wides+(B1 (⟨r0,r1,r2,r3,r4,r5,r6,r7,r8,r9,r10,r11,r12,r13⟩:Rul) (⟨d0,d1,d2,d3,d4,d5,d6,d7,d8,d9,d10,d11⟩:Del)).wides)) (IntKind.i64.wrap ((Bs (⟨s0,s1,s2,s3,s4,s5,s6,s7,s8,s9,s10,s11,s12,s13,s14,s15,s16,s17,s18,s19,s20,s21,s22,s23,s24,s25,s26,s27⟩:Inn) (⟨d0,d1,d2,d3,d4,d5,d6,d7,d8,d9,d10,d11⟩:Del)).noballs+(B1 (⟨r0,r1,r2,r3,r4,r5,r6,r7,r8,r9,r10,r11,r12,r13⟩:Rul) (⟨d0,d1,d2,d3,d4,d5,d6,d7,d8,d9,d10,d11⟩:Del)).noballs)) (IntKind.i64.wrap ((Bs (⟨s0,s1,s2,s3,s4,s5,s6,s7,s8,s9,s10,s11,s12,s13,s14,s15,s16,s17,s18,s19,s20,s21,s22,s23,s24,s25,s26,s27⟩:Inn) (⟨d0,d1,d2,d3,d4,d5,d6,d7,d8,d9,d10,d11⟩:Del)).byes+(B1 (⟨r0,r1,r2,r3,r4,r5,r6,r7,r8,r9,r10,r11,r12,r13⟩:Rul) (⟨d0,d1,d2,d3,d4,d5,d6,d7,d8,d9,d10,d11⟩:Del)).byes)) (IntKind.i64.wrap ((Bs (⟨s0,s1,s2,s3,s4,s5,s6,s7,s8,s9,s10,s11,s12,s13,s14,s15,s16,s17,s18,s19,s20,s21,s22,s23,s24,s25,s26,s27⟩:Inn) (⟨d0,d1,d2,d3,d4,d5,d6,d7,d8,d9,d10,d11⟩:Del)).legbyes+(B1 (⟨r0,r1,r2,r3,r4,r5,r6,r7,r8,r9,r10,r11,r12,r13⟩:Rul) (⟨d0,d1,d2,d3,d4,d5,d6,d7,d8,d9,d10,d11⟩:Del)).legbyes))) (B1 (⟨r0,r1,r2,r3,r4,r5,r6,r7,r8,r9,r10,r11,r12,r13⟩:Rul) (⟨d0,d1,d2,d3,d4,d5,d6,d7,d8,d9,d10,d11⟩:Del)).counts:=⟨_,rfl⟩
  simp only [Sg,V4] at ho ⊢
  simp only [← ho]
  obtain ⟨o1,o2⟩:=o
  cases o2<;>cases d0==1<;>cases d0==3<;>cases r8<;>rfl
theorem Zw (r:Rul) (s:Inn) (b:Bool) (a c d e f:Int):Ha r (Sg s a c d e f) b=(Sg (Ha r s b).1 a c d e f,(Ha r s b).2):=by
 unfold Ha Sg
 simp only
 cases (!inR s.bowler s.bowled.length || !(CW r==0)) with
 | true=>rfl
 | false =>
  simp only [cond_false]
  cases iLt (cond b (inc s.inover) s.inover) r.balls<;>rfl
def Lx (r:Rul) (s:Inn) (side:Int):Inn×Int:=cond (!(side==s.side)) (s,2) (cond (!(r.overs==0)) (s,20) ({ s with ending:=4 },0))
theorem UM {N:Nat} {r1 r2 r3 r4 r5 r6 r7 r9 r10 r11 r12:Int} {r8:Bool} {r0:ByteArray} {r13:Rows} {s0 s1 s2 s3 s4 s5 s6 s7 s8 s9 s10 s11 s12 s13 s15 s21 s22 s23 s25 s26 s27:Int} {s18 s20:Bool} {s14 s16 s17 s19 s24:Rows} {e0 e1 e2 e3 e5 e6 e7 e8 e9 e10 e11 e13 e14 e15 e16 e18:Int} {e4 e12 e17:Bool} (h:Fit s14 s16 s17 s19 s24):Dn N [.str r0,.int r1,.int r2,.int r3,.int r4,.int r5,.int r6,.int r7,.bool r8,.int r9,.int r10,.int r11,.int r12,.rows r13,.int s0,.int s1,.int s2,.int s3,.int s4,.int s5,.int s6,.int s7,.int s8,.int s9,.int s10,.int s11,.int s12,.int s13,.rows s14,.int s15,.rows s16,.rows s17,.bool s18,.rows s19,.bool s20,.int s21,.int s22,.int s23,.rows s24,.int s25,.int s26,.int s27,.int e0,.int e1,.int e2,.int e3,.bool e4,.int e5,.int e6,.int e7,.int e8,.int e9,.int e10,.int e11,.bool e12,.int e13,.int e14,.int e15,.int e16,.bool e17,.int e18]=some (A8 (Lx (⟨r0,r1,r2,r3,r4,r5,r6,r7,r8,r9,r10,r11,r12,r13⟩:Rul) (⟨s0,s1,s2,s3,s4,s5,s6,s7,s8,s9,s10,s11,s12,s13,s14,s15,s16,s17,s18,s19,s20,s21,s22,s23,s24,s25,s26,s27⟩:Inn) e1)):=by
 show Fi (std (HD N) N) (xOf _)=_
 generalize hres:(some (A8 (Lx (⟨r0,r1,r2,r3,r4,r5,r6,r7,r8,r9,r10,r11,r12,r13⟩:Rul) (⟨s0,s1,s2,s3,s4,s5,s6,s7,s8,s9,s10,s11,s12,s13,s14,s15,s16,s17,s18,s19,s20,s21,s22,s23,s24,s25,s26,s27⟩:Inn) e1)):Option (List PV))=RR
 simp only [Fi,KE,std,xOf,PXb,PXc,PXn,PXm,Nat.reduceAdd,Int.reduceBEq,Bq h]
 subst hres;simp only [Lx]
 cases e1==s0<;>cases r3==0<;>rfl
def Sh (s:Inn):Inn:={ s with runs:=IntKind.i64.wrap (s.runs+5),pens:=IntKind.i64.wrap (s.pens+5) }
theorem NJ {N:Nat} {s0 s1 s2 s3 s4 s5 s6 s7 s8 s9 s10 s11 s12 s13 s15 s21 s22 s23 s25 s26 s27:Int} {s18 s20:Bool} {s14 s16 s17 s19 s24:Rows} (h:Fit s14 s16 s17 s19 s24):Bn N [.int s0,.int s1,.int s2,.int s3,.int s4,.int s5,.int s6,.int s7,.int s8,.int s9,.int s10,.int s11,.int s12,.int s13,.rows s14,.int s15,.rows s16,.rows s17,.bool s18,.rows s19,.bool s20,.int s21,.int s22,.int s23,.rows s24,.int s25,.int s26,.int s27]=some (Sh (⟨s0,s1,s2,s3,s4,s5,s6,s7,s8,s9,s10,s11,s12,s13,s14,s15,s16,s17,s18,s19,s20,s21,s22,s23,s24,s25,s26,s27⟩:Inn)).ls:=by
 show Fg (std (HC N) N) (xOf _)=_
 generalize hres:(some (Sh (⟨s0,s1,s2,s3,s4,s5,s6,s7,s8,s9,s10,s11,s12,s13,s14,s15,s16,s17,s18,s19,s20,s21,s22,s23,s24,s25,s26,s27⟩:Inn)).ls:Option (List PV))=RR
 simp only [Fg,KB,std,xOf,PXb,PXc,PXn,PXm,Nat.reduceAdd,Int.reduceBEq,Bq h]
 subst hres;simp only [Sh]
 rfl
def H6 (s:Inn) (side runs:Int):Inn×Int :=
 cond (!(runs==5)) (s,23) (cond (side==s.side) (Sh s,0) ({ s with target:=cond (iLt 0 s.target) (IntKind.i64.wrap (s.target+5)) s.target },0))
theorem UD {N:Nat} {s0 s1 s2 s3 s4 s5 s6 s7 s8 s9 s10 s11 s12 s13 s15 s21 s22 s23 s25 s26 s27:Int} {s18 s20:Bool} {s14 s16 s17 s19 s24:Rows} {e0 e1 e2 e3 e5 e6 e7 e8 e9 e10 e11 e13 e14 e15 e16 e18:Int} {e4 e12 e17:Bool} (h:Fit s14 s16 s17 s19 s24):Dj N [.int s0,.int s1,.int s2,.int s3,.int s4,.int s5,.int s6,.int s7,.int s8,.int s9,.int s10,.int s11,.int s12,.int s13,.rows s14,.int s15,.rows s16,.rows s17,.bool s18,.rows s19,.bool s20,.int s21,.int s22,.int s23,.rows s24,.int s25,.int s26,.int s27,.int e0,.int e1,.int e2,.int e3,.bool e4,.int e5,.int e6,.int e7,.int e8,.int e9,.int e10,.int e11,.bool e12,.int e13,.int e14,.int e15,.int e16,.bool e17,.int e18]=some (A8 (H6 (⟨s0,s1,s2,s3,s4,s5,s6,s7,s8,s9,s10,s11,s12,s13,s14,s15,s16,s17,s18,s19,s20,s21,s22,s23,s24,s25,s26,s27⟩:Inn) e1 e5)):=by
 show Fd (std (EU N) N) (xOf _)=_
 generalize hres:(some (A8 (H6 (⟨s0,s1,s2,s3,s4,s5,s6,s7,s8,s9,s10,s11,s12,s13,s14,s15,s16,s17,s18,s19,s20,s21,s22,s23,s24,s25,s26,s27⟩:Inn) e1 e5)):Option (List PV))=RR
 simp only [Fd,KI,I0,std,xOf,PXb,PXc,PXn,PXm,Nat.reduceAdd,Int.reduceBEq,Bq h,NJ h]
 subst hres;simp only [H6]
 cases e5==5<;>cases e1==s0<;>cases iLt 0 s1<;>rfl
def L7 (r:Rul) (s:Inn) (side:Int) (yes:Bool):Inn×Int :=
 cond (!s.fresh||iLe r.reviews (cond (side==2) s.rev2 s.rev1)) (s,24) (cond (!yes) ({ s with rev1:=cond (side==1) (inc s.rev1) s.rev1,rev2:=cond (side==2) (inc s.rev2) s.rev2 },0) (s,0))
theorem wr1:IntKind.i64.wrap (1 - 1)=0:=rfl
theorem wr2:IntKind.i64.wrap (2 - 1)=1:=rfl
theorem aA:iIn 0 2=true:=rfl
theorem ZG:iIn 1 2=true:=rfl
theorem Vc {N:Nat} {r1 r2 r3 r4 r5 r6 r7 r9 r10 r11 r12:Int} {r8:Bool} {r0:ByteArray} {r13:Rows} {s0 s1 s2 s3 s4 s5 s6 s7 s8 s9 s10 s11 s12 s13 s15 s21 s22 s23 s25 s26 s27:Int} {s18 s20:Bool} {s14 s16 s17 s19 s24:Rows} {e0 e1 e2 e3 e5 e6 e7 e8 e9 e10 e11 e13 e14 e15 e16 e18:Int} {e4 e12 e17:Bool} (h:Fit s14 s16 s17 s19 s24) (he:e1=1∨e1=2):D5 N [.str r0,.int r1,.int r2,.int r3,.int r4,.int r5,.int r6,.int r7,.bool r8,.int r9,.int r10,.int r11,.int r12,.rows r13,.int s0,.int s1,.int s2,.int s3,.int s4,.int s5,.int s6,.int s7,.int s8,.int s9,.int s10,.int s11,.int s12,.int s13,.rows s14,.int s15,.rows s16,.rows s17,.bool s18,.rows s19,.bool s20,.int s21,.int s22,.int s23,.rows s24,.int s25,.int s26,.int s27,.int e0,.int e1,.int e2,.int e3,.bool e4,.int e5,.int e6,.int e7,.int e8,.int e9,.int e10,.int e11,.bool e12,.int e13,.int e14,.int e15,.int e16,.bool e17,.int e18]=some (A8 (L7 (⟨r0,r1,r2,r3,r4,r5,r6,r7,r8,r9,r10,r11,r12,r13⟩:Rul) (⟨s0,s1,s2,s3,s4,s5,s6,s7,s8,s9,s10,s11,s12,s13,s14,s15,s16,s17,s18,s19,s20,s21,s22,s23,s24,s25,s26,s27⟩:Inn) e1 e4)):=by
 show D6 (std (Hi N) N) (xOf _)=_
 generalize hres:(some (A8 (L7 (⟨r0,r1,r2,r3,r4,r5,r6,r7,r8,r9,r10,r11,r12,r13⟩:Rul) (⟨s0,s1,s2,s3,s4,s5,s6,s7,s8,s9,s10,s11,s12,s13,s14,s15,s16,s17,s18,s19,s20,s21,s22,s23,s24,s25,s26,s27⟩:Inn) e1 e4)):Option (List PV))=RR
 rcases he with he | he<;>subst he
 ·simp only [D6,Es,std,xOf,PXb,PXc,PXn,PXm,Nat.reduceAdd,Int.reduceBEq,Bq h,wr1,wr2,aA,ZG]
  subst hres;simp only [L7,Int.reduceBEq,beq_self_eq_true,cond_true,cond_false]
  cases s18<;>cases e4<;>first | rfl | (cases iLe r11 s25<;>rfl)
 ·simp only [D6,Es,std,xOf,PXb,PXc,PXn,PXm,Nat.reduceAdd,Int.reduceBEq,Bq h,wr1,wr2,aA,ZG]
  subst hres;simp only [L7,Int.reduceBEq,beq_self_eq_true,cond_true,cond_false]
  cases s18<;>cases e4<;>first | rfl | (cases iLe r11 s26<;>rfl)
theorem WI {N:Nat} {r1 r2 r3 r4 r5 r6 r7 r9 r10 r11 r12:Int} {r8:Bool} {r0:ByteArray} {r13:Rows} {s0 s1 s2 s3 s4 s5 s6 s7 s8 s9 s10 s11 s12 s13 s15 s21 s22 s23 s25 s26 s27:Int} {s18 s20:Bool} {s14 s16 s17 s19 s24:Rows}  : FD N [.str r0,.int r1,.int r2,.int r3,.int r4,.int r5,.int r6,.int r7,.bool r8,.int r9,.int r10,.int r11,.int r12,.rows r13,.int s0,.int s1,.int s2,.int s3,.int s4,.int s5,.int s6,.int s7,.int s8,.int s9,.int s10,.int s11,.int s12,.int s13,.rows s14,.int s15,.rows s16,.rows s17,.bool s18,.rows s19,.bool s20,.int s21,.int s22,.int s23,.rows s24,.int s25,.int s26,.int s27]=some [.int (ZU r4 s10 s11)]:=by
 rfl
def N8 (r:Rul) (s:Inn) (runs overs:Int):Inn×Int :=
  cond (r.overs==0||(runs==0&&overs==0)) (s,25) (cond (iLt 0 runs&&(s.target==0||iLe runs s.runs)) (s,25)
    (cond (iLt 0 overs&&(iLt r.overs overs||iLt (IntKind.i64.wrap (overs * r.balls)) (ZU r.balls s.complete s.inover))) (s,25)
      ({ s with target:=cond (iLt 0 runs) runs s.target,overs:=cond (iLt 0 overs) overs s.overs },0)))
theorem VG {N:Nat} {r1 r2 r3 r4 r5 r6 r7 r9 r10 r11 r12:Int} {r8:Bool} {r0:ByteArray} {r13:Rows} {s0 s1 s2 s3 s4 s5 s6 s7 s8 s9 s10 s11 s12 s13 s15 s21 s22 s23 s25 s26 s27:Int} {s18 s20:Bool} {s14 s16 s17 s19 s24:Rows} {e0 e1 e2 e3 e5 e6 e7 e8 e9 e10 e11 e13 e14 e15 e16 e18:Int} {e4 e12 e17:Bool} (h:Fit s14 s16 s17 s19 s24):EG N [.str r0,.int r1,.int r2,.int r3,.int r4,.int r5,.int r6,.int r7,.bool r8,.int r9,.int r10,.int r11,.int r12,.rows r13,.int s0,.int s1,.int s2,.int s3,.int s4,.int s5,.int s6,.int s7,.int s8,.int s9,.int s10,.int s11,.int s12,.int s13,.rows s14,.int s15,.rows s16,.rows s17,.bool s18,.rows s19,.bool s20,.int s21,.int s22,.int s23,.rows s24,.int s25,.int s26,.int s27,.int e0,.int e1,.int e2,.int e3,.bool e4,.int e5,.int e6,.int e7,.int e8,.int e9,.int e10,.int e11,.bool e12,.int e13,.int e14,.int e15,.int e16,.bool e17,.int e18]=some (A8 (N8 (⟨r0,r1,r2,r3,r4,r5,r6,r7,r8,r9,r10,r11,r12,r13⟩:Rul) (⟨s0,s1,s2,s3,s4,s5,s6,s7,s8,s9,s10,s11,s12,s13,s14,s15,s16,s17,s18,s19,s20,s21,s22,s23,s24,s25,s26,s27⟩:Inn) e5 e6)):=by
 show GV (std (Eu N) N) (xOf _)=_
 generalize hres:(some (A8 (N8 (⟨r0,r1,r2,r3,r4,r5,r6,r7,r8,r9,r10,r11,r12,r13⟩:Rul) (⟨s0,s1,s2,s3,s4,s5,s6,s7,s8,s9,s10,s11,s12,s13,s14,s15,s16,s17,s18,s19,s20,s21,s22,s23,s24,s25,s26,s27⟩:Inn) e5 e6)):Option (List PV))=RR
 simp only [GV,KR,KQ,std,xOf,PXb,PXc,PXn,PXm,Nat.reduceAdd,Int.reduceBEq,Bq h,WI]
 subst hres;simp only [N8]
 cases (r3==0||e5==0&&e6==0)<;>try rfl
 cases (iLt 0 e5&&(s1==0||iLe e5 s3))<;>try rfl
 cases iLt 0 e6<;>cases iLt r3 e6<;>try rfl
 simp only [PXb,PXc,PXn,PXm,Nat.reduceAdd,Int.reduceBEq]
 cases iLt (IntKind.i64.wrap (e6 * r4)) (ZU r4 s10 s11)<;>rfl
end Go.Px
end
section
namespace Go.Px
set_option maxRecDepth 100000
def CO (r:Rul) (s:Inn) (e:Ev):Inn×Int :=
  cond (e.kind==2) (Tt s e.player e.other) (cond (e.kind==3) (T0 r s e.player) (cond (e.kind==4) (ML r s e.ball)
    (cond (e.kind==5) (cond e.yes (Lw s e.player) (Qz s e.player)) (cond (e.kind==6) (OE s e.player e.yes) (cond (e.kind==7) (Lg s e.runs)
      (cond (e.kind==8) (OB s e.player) (cond (e.kind==9) (Qp s e.player e.yes) (cond (e.kind==10) (LT r s) (cond (e.kind==11) (Lx r s e.side)
        (cond (e.kind==13) (H6 s e.side e.runs) (cond (e.kind==14) (L7 r s e.side e.yes) (N8 r s e.runs e.overs))))))))))))
theorem Xj {e:Ev} (h:(evS e==0)=true):(iLt e.kind 1||iLt 16 e.kind)=false:=by
 unfold evS at h
 cases hk:(iLt e.kind 1||iLt 16 e.kind) with
 | false=>rfl
 | true=>rw [hk] at h;cases h
theorem gm {e:Ev} (h:(evS e==0)=true) (hk:e.kind=14):e.side=1∨e.side=2:=by
 have h0:=Xj h
 unfold evS at h
 rw [h0] at h
 cases h1:Rm e with
 | true=>rw [h1] at h;cases h
 | false =>
  cases h2:OQ e with
  | true=>rw [h1,h2] at h;cases h
  | false =>
   unfold OQ at h2
   rw [Bool.or_eq_false_iff] at h2
   have h3:=h2.1
   rw [hk,show uS 14=true from rfl,Bool.and_true] at h3
   simp only [btw,iLe,Bool.not_eq_false',Bool.and_eq_true,decide_eq_true_eq] at h3
   omega
set_option maxHeartbeats 4000000 in
theorem UL {N:Nat} {r1 r2 r3 r4 r5 r6 r7 r9 r10 r11 r12:Int} {r8:Bool} {r0:ByteArray} {r13:Rows} {s0 s1 s2 s3 s4 s5 s6 s7 s8 s9 s10 s11 s12 s13 s15 s21 s22 s23 s25 s26 s27:Int} {s18 s20:Bool} {s14 s16 s17 s19 s24:Rows} {e0 e1 e2 e3 e5 e6 e7 e8 e9 e10 e11 e13 e14 e15 e16 e18:Int} {e4 e12 e17:Bool} (h:Fit s14 s16 s17 s19 s24) (hw:s17.length+s16.length≤1000000) (hN:2097152<N) (hs:r0.size≤1048576) (h13:r13.length≤1048576) (he:(evS (⟨e0,e1,e2,e3,e4,e5,e6,⟨e7,e8,e9,e10,e11,e12,e13,e14,e15,e16,e17,e18⟩⟩:Ev)==0)=true):Dg N [.str r0,.int r1,.int r2,.int r3,.int r4,.int r5,.int r6,.int r7,.bool r8,.int r9,.int r10,.int r11,.int r12,.rows r13,.int s0,.int s1,.int s2,.int s3,.int s4,.int s5,.int s6,.int s7,.int s8,.int s9,.int s10,.int s11,.int s12,.int s13,.rows s14,.int s15,.rows s16,.rows s17,.bool s18,.rows s19,.bool s20,.int s21,.int s22,.int s23,.rows s24,.int s25,.int s26,.int s27,.int e0,.int e1,.int e2,.int e3,.bool e4,.int e5,.int e6,.int e7,.int e8,.int e9,.int e10,.int e11,.bool e12,.int e13,.int e14,.int e15,.int e16,.bool e17,.int e18]=some (A8 (CO (⟨r0,r1,r2,r3,r4,r5,r6,r7,r8,r9,r10,r11,r12,r13⟩:Rul) (⟨s0,s1,s2,s3,s4,s5,s6,s7,s8,s9,s10,s11,s12,s13,s14,s15,s16,s17,s18,s19,s20,s21,s22,s23,s24,s25,s26,s27⟩:Inn) (⟨e0,e1,e2,e3,e4,e5,e6,⟨e7,e8,e9,e10,e11,e12,e13,e14,e15,e16,e17,e18⟩⟩:Ev))):=by
  show Dd (std (Aa N) N) (xOf _)=_
  generalize hres:(some (A8 (CO (⟨r0,r1,r2,r3,r4,r5,r6,r7,r8,r9,r10,r11,r12,r13⟩:Rul) (⟨s0,s1,s2,s3,s4,s5,s6,s7,s8,s9,s10,s11,s12,s13,s14,s15,s16,s17,s18,s19,s20,s21,s22,s23,s24,s25,s26,s27⟩:Inn) (⟨e0,e1,e2,e3,e4,e5,e6,⟨e7,e8,e9,e10,e11,e12,e13,e14,e15,e16,e17,e18⟩⟩:Ev))):Option (List PV))=RR
  have hsd:e0=14→e1=1∨e1=2:=gm (e:=(⟨e0,e1,e2,e3,e4,e5,e6,⟨e7,e8,e9,e10,e11,e12,e13,e14,e15,e16,e17,e18⟩⟩:Ev)) he
  rcases Ts (Xj he) with hk | hk | hk | hk | hk | hk | hk | hk | hk | hk | hk | hk | hk | hk | hk | hk<;>simp only at hk<;>subst hk<;>clear he
  all_goals (first
    | (have hsd := hsd rfl
       simp only [Dd,FW,Fq,FH,EE,FB,Ef,Ec,E1,Dh,Ee,Dx,Dy,EF,EO,std,xOf,PXb,PXc,PXn,PXm,Nat.reduceAdd,Int.reduceBEq,Vc h hsd]
       subst hres
       rfl)
    | (simp only [Dd, FW, Fq, FH, EE, FB, Ef, Ec, E1, Dh, Ee, Dx, Dy, EF, EO, std, xOf, PXb, PXc, PXn, PXm, Nat.reduceAdd, Int.reduceBEq, YX h hN, Yw h hN hs, XK h hw hN hs h13, U4 h hN, XZ h hN, WW h hN, Wf h, XY h, Sd h, Wt h hN hs, UM h, UD h, VG h]
       subst hres
       first
       | rfl
       | (cases e4<;>rfl)))
end Go.Px
end
section
namespace Go.Px
set_option maxRecDepth 100000
theorem Lens.of {s t:Inn} (h1:t.batters.length=s.batters.length) (h2:t.bowled.length=s.bowled.length) (h3:t.subs.length=s.subs.length) (h4:t.bowlers=s.bowlers) (h5:t.before=s.before):Lens s t:=⟨h1,h2,h3,by rw [h4];omega,by rw [h5];omega⟩
theorem L_c {s:Inn} (b:Bool) (x y:Inn×Int) (hx:Lens s x.1) (hy:Lens s y.1):Lens s (cond b x y).1:=by cases b<;>assumption
theorem dU (s:Inn) (p q:Int):Lens s (Tt s p q).1:=by
 unfold Tt
 exact L_c _ _ _ (Lens.refl s) (L_c _ _ _ (Lens.refl s) (L_c _ _ _ (Lens.refl s) (Lens.of (by simp [Jk]) rfl rfl rfl rfl)))
theorem dN (r:Rul) (s:Inn) (p:Int):Lens s (T0 r s p).1:=by
 unfold T0
 exact P_c (P:=fun x:Inn=>Lens s x) _ _ _ (Lens.of rfl rfl rfl rfl rfl) (Lens.refl s)
theorem dv (r:Rul) (s:Inn) (d:Del):Lens s (ML r s d).1:=by
 unfold ML
 refine L_c _ _ _ (Lens.refl s) ?_
 have l1:=ZC s d
 have w1:=eB s d
 have w2:=dh s d
 simp only [Zw]
 have l2:=X8 r (Bs s d) (B1 r d).counts
 cases (Ha r (Bs s d) (B1 r d).counts).2
 ·exact ⟨l2.bt.trans l1.bt,l2.bd.trans l1.bd,l2.sb.trans l1.sb,by have:=l2.bw;rw [w1] at this;exact this,by have:=l2.bf;rw [w1,w2] at this;exact this⟩
 ·exact ⟨l2.bt.trans l1.bt,l2.bd.trans l1.bd,l2.sb.trans l1.sb,by have:=l2.bw;rw [w1] at this;exact this,by have:=l2.bf;rw [w1,w2] at this;exact this⟩
theorem ZV (s:Inn) (p:Int):Lens s (Lw s p).1:=by
 unfold Lw
 exact L_c _ _ _ (Lens.of (by simp [Jk]) rfl rfl rfl rfl) (Lens.refl s)
theorem cH (s:Inn) (p:Int):Lens s (Qz s p).1:=by
 unfold Qz
 exact L_c _ _ _ (Lens.of (by simp [Jk]) rfl rfl rfl rfl) (Lens.refl s)
theorem aO (s:Inn) (p:Int) (b:Bool):Lens s (OE s p b).1:=by
 unfold OE
 exact L_c _ _ _ (Lens.refl s) (L_c _ _ _ (Lens.refl s) (L_c _ _ _ (Lens.refl s) (L_c _ _ _ (Lens.refl s) (Lens.of (by simp [Jk]) rfl rfl rfl rfl))))
theorem Zf (s:Inn) (n:Int):Lens s (Lg s n).1:=by
 unfold Lg
 exact L_c _ _ _ (Lens.refl s) (Lens.of rfl rfl rfl rfl rfl)
theorem aJ (s:Inn) (n:Int):Lens s (OB s n).1:=by
 unfold OB
 exact L_c _ _ _ (Lens.refl s) (L_c _ _ _ (Lens.refl s) (L_c _ _ _ (Lens.refl s) (Lens.of rfl rfl rfl rfl rfl)))
theorem cW (s:Inn) (n:Int) (b:Bool):Lens s (Qp s n b).1:=by
 unfold Qp
 exact L_c _ _ _ (Lens.refl s) (L_c _ _ _ (Lens.refl s) (Lens.of rfl rfl (by simp [fJ]) rfl rfl))
theorem Zp (r:Rul) (s:Inn):Lens s (LT r s).1:=by
 unfold LT
 exact L_c _ _ _ (Lens.refl s) (Lens.of rfl rfl rfl rfl rfl)
theorem Y3 (r:Rul) (s:Inn) (n:Int):Lens s (Lx r s n).1:=by
 unfold Lx
 exact L_c _ _ _ (Lens.refl s) (L_c _ _ _ (Lens.refl s) (Lens.of rfl rfl rfl rfl rfl))
theorem ZI (s:Inn) (n m:Int):Lens s (H6 s n m).1:=by
 unfold H6
 exact L_c _ _ _ (Lens.refl s) (L_c _ _ _ (Lens.of rfl rfl rfl rfl rfl) (Lens.of rfl rfl rfl rfl rfl))
theorem aP (r:Rul) (s:Inn) (n:Int) (b:Bool):Lens s (L7 r s n b).1:=by
 unfold L7
 exact L_c _ _ _ (Lens.refl s) (L_c _ _ _ (Lens.of rfl rfl rfl rfl rfl) (Lens.refl s))
theorem aH (r:Rul) (s:Inn) (n m:Int):Lens s (N8 r s n m).1:=by
 unfold N8
 exact L_c _ _ _ (Lens.refl s) (L_c _ _ _ (Lens.refl s) (L_c _ _ _ (Lens.refl s) (Lens.of rfl rfl rfl rfl rfl)))
theorem TI (r:Rul) (s:Inn) (e:Ev):Lens s (CO r s e).1:=by
  unfold CO
  exact L_c _ _ _ (dU ..) (L_c _ _ _ (dN ..) (L_c _ _ _ (dv ..) (L_c _ _ _ (L_c _ _ _ (ZV ..) (cH ..)) (L_c _ _ _ (aO ..) (L_c _ _ _ (Zf ..)
    (L_c _ _ _ (aJ ..) (L_c _ _ _ (cW ..) (L_c _ _ _ (Zp ..) (L_c _ _ _ (Y3 ..) (L_c _ _ _ (ZI ..) (L_c _ _ _ (aP ..) (aH ..))))))))))))
def Gr (r:Rul) (s:Inn):Bool:=Qg r.name r.side r.innings r.overs r.balls r.quota r.wide r.noball r.newball r.followon r.reviews r.outside r.power s.batters s.bowlers s.before s.bowled s.subs s.side s.target s.overs s.runs s.wickets s.wides s.noballs s.byes s.legbyes s.pens s.complete s.inover s.striker s.other s.bowler s.ballage s.keeper s.outside s.rev1 s.rev2 s.ending
def iY (r:Rul) (s:Inn):Int:=ed (Gr r s) s.batters s.striker s.other s.target s.overs s.runs s.complete
theorem PQ {N:Nat} {r1 r2 r3 r4 r5 r6 r7 r9 r10 r11 r12:Int} {r8:Bool} {r0:ByteArray} {r13:Rows} {s0 s1 s2 s3 s4 s5 s6 s7 s8 s9 s10 s11 s12 s13 s15 s21 s22 s23 s25 s26 s27:Int} {s18 s20:Bool} {s14 s16 s17 s19 s24:Rows} (h:Fit s14 s16 s17 s19 s24) (hN:2097152<N) (hs:r0.size≤1048576):A9 N [.str r0,.int r1,.int r2,.int r3,.int r4,.int r5,.int r6,.int r7,.bool r8,.int r9,.int r10,.int r11,.int r12,.rows r13,.int s0,.int s1,.int s2,.int s3,.int s4,.int s5,.int s6,.int s7,.int s8,.int s9,.int s10,.int s11,.int s12,.int s13,.rows s14,.int s15,.rows s16,.rows s17,.bool s18,.rows s19,.bool s20,.int s21,.int s22,.int s23,.rows s24,.int s25,.int s26,.int s27]=some [.bool (Gr (⟨r0,r1,r2,r3,r4,r5,r6,r7,r8,r9,r10,r11,r12,r13⟩:Rul) (⟨s0,s1,s2,s3,s4,s5,s6,s7,s8,s9,s10,s11,s12,s13,s14,s15,s16,s17,s18,s19,s20,s21,s22,s23,s24,s25,s26,s27⟩:Inn))]:=by
 exact Oc N _ _ _ _ _ _ _ _ _ _ _ _ _ _ _ _ _ _ _ _ _ _ _ _ _ _ _ _ _ _ _ _ _ _ _ _ _ _ _ _ _ _ hN hs h.bt h.bw h.bf h.bd
theorem VF {N:Nat} {r1 r2 r3 r4 r5 r6 r7 r9 r10 r11 r12:Int} {r8:Bool} {r0:ByteArray} {r13:Rows} {s0 s1 s2 s3 s4 s5 s6 s7 s8 s9 s10 s11 s12 s13 s15 s21 s22 s23 s25 s26 s27:Int} {s18 s20:Bool} {s14 s16 s17 s19 s24:Rows} (h:Fit s14 s16 s17 s19 s24) (hN:2097152<N) (hs:r0.size≤1048576):Cy N [.str r0,.int r1,.int r2,.int r3,.int r4,.int r5,.int r6,.int r7,.bool r8,.int r9,.int r10,.int r11,.int r12,.rows r13,.int s0,.int s1,.int s2,.int s3,.int s4,.int s5,.int s6,.int s7,.int s8,.int s9,.int s10,.int s11,.int s12,.int s13,.rows s14,.int s15,.rows s16,.rows s17,.bool s18,.rows s19,.bool s20,.int s21,.int s22,.int s23,.rows s24,.int s25,.int s26,.int s27]=some [.int (iY (⟨r0,r1,r2,r3,r4,r5,r6,r7,r8,r9,r10,r11,r12,r13⟩:Rul) (⟨s0,s1,s2,s3,s4,s5,s6,s7,s8,s9,s10,s11,s12,s13,s14,s15,s16,s17,s18,s19,s20,s21,s22,s23,s24,s25,s26,s27⟩:Inn))]:=by
 exact UR N _ _ _ _ _ _ _ _ _ _ _ _ _ _ _ _ _ _ _ _ _ _ _ _ _ _ _ _ _ _ _ _ _ _ _ _ _ _ _ _ _ _ hN hs h.bt h.bw h.bf h.bd
def ZS (t:Inn) (b:Bool):Inn:=⟨t.side,t.target,t.overs,t.runs,t.wickets,t.wides,t.noballs,t.byes,t.legbyes,t.pens,t.complete,t.inover,t.striker,t.other,t.batters,t.bowler,t.bowlers,t.before,b,t.bowled,t.freehit,t.ballage,t.keeper,t.outside,t.subs,t.rev1,t.rev2,t.ending⟩
def Tx (r:Rul) (t:Inn) (b:Bool):Inn:={ ZS t b with ending:=cond (t.ending==0) (iY r (ZS t b)) t.ending }
def Yc (s:Inn) (e:Ev):Bool:=e.kind==1||e.kind==12||e.kind==16||(!EH s.batters && !(e.kind==2))
def CU (r:Rul) (s:Inn) (e:Ev):Inn×Int :=
  cond (!Gr r s || !(evS e==0)) (s,1) (cond (!(s.ending==0)) (s,26) (cond (Yc s e) (s,1)
    (cond (!((CO r s e).2==0)) (s,(CO r s e).2) (Tx r (CO r s e).1 (e.kind==4),0))))
set_option maxHeartbeats 4000000 in
theorem Le {N:Nat} {r1 r2 r3 r4 r5 r6 r7 r9 r10 r11 r12:Int} {r8:Bool} {r0:ByteArray} {r13:Rows} {s0 s1 s2 s3 s4 s5 s6 s7 s8 s9 s10 s11 s12 s13 s15 s21 s22 s23 s25 s26 s27:Int} {s18 s20:Bool} {s14 s16 s17 s19 s24:Rows} {e0 e1 e2 e3 e5 e6 e7 e8 e9 e10 e11 e13 e14 e15 e16 e18:Int} {e4 e12 e17:Bool} (h:Fit s14 s16 s17 s19 s24) (hw:s17.length+s16.length≤1000000) (hN:2097152<N) (hs:r0.size≤1048576) (h13:r13.length≤1048576):GG N [.str r0,.int r1,.int r2,.int r3,.int r4,.int r5,.int r6,.int r7,.bool r8,.int r9,.int r10,.int r11,.int r12,.rows r13,.int s0,.int s1,.int s2,.int s3,.int s4,.int s5,.int s6,.int s7,.int s8,.int s9,.int s10,.int s11,.int s12,.int s13,.rows s14,.int s15,.rows s16,.rows s17,.bool s18,.rows s19,.bool s20,.int s21,.int s22,.int s23,.rows s24,.int s25,.int s26,.int s27,.int e0,.int e1,.int e2,.int e3,.bool e4,.int e5,.int e6,.int e7,.int e8,.int e9,.int e10,.int e11,.bool e12,.int e13,.int e14,.int e15,.int e16,.bool e17,.int e18]=some (A8 (CU (⟨r0,r1,r2,r3,r4,r5,r6,r7,r8,r9,r10,r11,r12,r13⟩:Rul) (⟨s0,s1,s2,s3,s4,s5,s6,s7,s8,s9,s10,s11,s12,s13,s14,s15,s16,s17,s18,s19,s20,s21,s22,s23,s24,s25,s26,s27⟩:Inn) (⟨e0,e1,e2,e3,e4,e5,e6,⟨e7,e8,e9,e10,e11,e12,e13,e14,e15,e16,e17,e18⟩⟩:Ev))):=by
 show IQ (std (Bx N) N) (xOf _)=_
 generalize hres:(some (A8 (CU (⟨r0,r1,r2,r3,r4,r5,r6,r7,r8,r9,r10,r11,r12,r13⟩:Rul) (⟨s0,s1,s2,s3,s4,s5,s6,s7,s8,s9,s10,s11,s12,s13,s14,s15,s16,s17,s18,s19,s20,s21,s22,s23,s24,s25,s26,s27⟩:Inn) (⟨e0,e1,e2,e3,e4,e5,e6,⟨e7,e8,e9,e10,e11,e12,e13,e14,e15,e16,e17,e18⟩⟩:Ev))):Option (List PV))=RR
 have l1:=TI (⟨r0,r1,r2,r3,r4,r5,r6,r7,r8,r9,r10,r11,r12,r13⟩:Rul) (⟨s0,s1,s2,s3,s4,s5,s6,s7,s8,s9,s10,s11,s12,s13,s14,s15,s16,s17,s18,s19,s20,s21,s22,s23,s24,s25,s26,s27⟩:Inn) (⟨e0,e1,e2,e3,e4,e5,e6,⟨e7,e8,e9,e10,e11,e12,e13,e14,e15,e16,e17,e18⟩⟩:Ev)
 have f1:=QW l1 h (by simp only;omega)
 simp only [IQ,M3,Lq,Li,L5,E7,FV,std,xOf,PXb,PQ h hN hs,SE hN,Bq h,WY h.bt hN]
 subst hres;simp only [CU,Yc]
 cases Gr (⟨r0,r1,r2,r3,r4,r5,r6,r7,r8,r9,r10,r11,r12,r13⟩:Rul) (⟨s0,s1,s2,s3,s4,s5,s6,s7,s8,s9,s10,s11,s12,s13,s14,s15,s16,s17,s18,s19,s20,s21,s22,s23,s24,s25,s26,s27⟩:Inn)
 ·rfl
 cases he:evS (⟨e0,e1,e2,e3,e4,e5,e6,⟨e7,e8,e9,e10,e11,e12,e13,e14,e15,e16,e17,e18⟩⟩:Ev)==0
 ·simp only [PXb,PXc,PXn,PXm,Nat.reduceAdd,Int.reduceBEq,he]
 simp only [PXb,PXc,PXn,PXm,Nat.reduceAdd,Int.reduceBEq,he]
 cases s27==0<;>try rfl
 cases (e0==1||e0==12||e0==16)<;>cases EH s14<;>cases e0==2<;>try rfl
 all_goals (simp only [PXb,PXc,PXn,PXm,Nat.reduceAdd,Int.reduceBEq,E7,FV,UL h hw hN hs h13 he,VF f1 hN hs])
 all_goals (unfold Tx ZS;cases (CO (⟨r0,r1,r2,r3,r4,r5,r6,r7,r8,r9,r10,r11,r12,r13⟩:Rul) (⟨s0,s1,s2,s3,s4,s5,s6,s7,s8,s9,s10,s11,s12,s13,s14,s15,s16,s17,s18,s19,s20,s21,s22,s23,s24,s25,s26,s27⟩:Inn) (⟨e0,e1,e2,e3,e4,e5,e6,⟨e7,e8,e9,e10,e11,e12,e13,e14,e15,e16,e17,e18⟩⟩:Ev)).2==0<;>cases (CO (⟨r0,r1,r2,r3,r4,r5,r6,r7,r8,r9,r10,r11,r12,r13⟩:Rul) (⟨s0,s1,s2,s3,s4,s5,s6,s7,s8,s9,s10,s11,s12,s13,s14,s15,s16,s17,s18,s19,s20,s21,s22,s23,s24,s25,s26,s27⟩:Inn) (⟨e0,e1,e2,e3,e4,e5,e6,⟨e7,e8,e9,e10,e11,e12,e13,e14,e15,e16,e17,e18⟩⟩:Ev)).1.ending==0<;>rfl)
end Go.Px
end
section
namespace Go.Px
set_option maxRecDepth 100000
def Ro (r:Rul):Rul:={ r with name:=fQ r.name 20,power:=cut r.power 10 }
def RT (s:Inn):Inn:={ s with batters:=cut s.batters 13,bowlers:=cut s.bowlers 13,before:=cut s.before 13,bowled:=cut s.bowled 13,subs:=cut s.subs 13 }
theorem Qf (L:Rows) (c:Nat):(cut L c).length≤c:=by
 unfold cut
 rw [List.length_drop,List.length_take]
 cases h:iLt (c:Int) (L.length:Int) with
 | true=>simp only [cond_true];omega
 | false=>simp only [iLt,decide_eq_false_iff_not] at h;simp only [cond_false];omega
theorem gj (s:Inn):(RT s).Fit:=⟨Nat.le_trans (Qf _ 13) (by omega),Nat.le_trans (Qf _ 13) (by omega),Nat.le_trans (Qf _ 13) (by omega),Nat.le_trans (Qf _ 13) (by omega),Nat.le_trans (Qf _ 13) (by omega)⟩
theorem Y0 (r:Rul) (h:r.name.size≤1048576):(Ro r).name.size≤1048576:=Nat.le_trans (fF _ _) h
theorem YJ (r:Rul):(Ro r).power.length≤1048576:=Nat.le_trans (Qf _ 10) (by omega)
theorem aW {s t:Inn} (r:Rul) (b:Bool) (h:Lens s t):Lens s (Tx r t b):=⟨h.bt,h.bd,h.sb,h.bw,h.bf⟩
theorem S4 (r:Rul) (s:Inn) (e:Ev):Lens s (CU r s e).1:=by
 unfold CU
 exact L_c _ _ _ (Lens.refl s) (L_c _ _ _ (Lens.refl s) (L_c _ _ _ (Lens.refl s) (L_c _ _ _ (Lens.refl s) (aW r _ (TI r s e)))))
end Go.Px
end
section
namespace Go.Px
set_option maxRecDepth 100000
theorem ao {r : Rul} {s : Inn} {e : Ev} (h : ((CU r s e).2 == 0) = true) :
    Gr r s=true∧(evS e==0)=true∧(s.ending==0)=true∧Yc s e=false∧((CO r s e).2==0)=true∧(CU r s e).1=Tx r (CO r s e).1 (e.kind==4):=by
  unfold CU at h ⊢
  cases hv:Gr r s with
  | false=>rw [hv] at h;cases h
  | true =>
    cases he:evS e==0 with
    | false=>rw [hv,he] at h;cases h
    | true =>
      cases hn:s.ending==0 with
      | false=>rw [hv,he,hn] at h;cases h
      | true =>
        cases hw:Yc s e with
        | true=>rw [hv,he,hn,hw] at h;cases h
        | false =>
          cases hp:(CO r s e).2==0 with
          | false=>rw [hv,he,hn,hw,hp] at h;exact absurd (hp▸h) (by decide)
          | true=>exact ⟨rfl,rfl,rfl,rfl,rfl,rfl⟩
end Go.Px
end
section
namespace Go.Px
set_option maxRecDepth 100000
theorem T8 {x a b:Int}:btw x a b=true↔a≤x∧x≤b:=by simp [btw,iLe]
structure RulOk (r:Rul):Prop where
 side:2≤r.side∧r.side≤11
 innings:1≤r.innings∧r.innings≤2
 overs:0≤r.overs∧r.overs≤90
 balls:4≤r.balls∧r.balls≤8
 quota:0≤r.quota∧r.quota≤90
 wide:1≤r.wide∧r.wide≤5
 noball:1≤r.noball∧r.noball≤5
 newball:0≤r.newball∧r.newball≤200
 followon:0≤r.followon∧r.followon≤1000
 reviews:0≤r.reviews∧r.reviews≤9
 outside:0≤r.outside∧r.outside≤11
theorem N5 {r:Rul} (h:CW r=0):RulOk r:=by
 unfold CW J8 at h
 cases hn:Sa r.name with
 | false=>rw [hn] at h;cases h
 | true =>
  cases hr:L8 r.side r.innings r.overs r.balls r.quota r.wide r.noball r.newball r.followon r.reviews r.outside with
  | false=>rw [hn,hr] at h;cases h
  | true =>
   unfold L8 at hr
   simp only [Bool.and_eq_true,T8] at hr
   obtain ⟨⟨⟨⟨⟨⟨⟨⟨⟨⟨h1,h2⟩,h3⟩,h4⟩,h5⟩,h6⟩,h7⟩,h8⟩,h9⟩,h10⟩,h11⟩:=hr
   exact ⟨h1,h2,h3,h4,h5,h6,h7,h8,h9,h10,h11⟩
def B8 (x:Int):Prop:=0≤x∧x≤1000000000
structure InnOk (r:Rul) (s:Inn):Prop where
 code:CW r=0
 side:1≤s.side∧s.side≤2
 lb:(s.batters.length:Int)=r.side
 ld:(s.bowled.length:Int)=r.side
 lz:(s.subs.length:Int)=r.side
 ending:s.ending≤5
 st:0≤s.striker∧s.striker≤r.side
 ot:0≤s.other∧s.other≤r.side
 bat:Vp s.batters s.striker s.other s.wickets=true
 bow:0≤s.bowler∧s.bowler≤r.side
 kee:0≤s.keeper∧s.keeper≤r.side
 dw:I5 s.bowlers r.side=true
 df:I5 s.before r.side=true
 ov:W4 r.overs s.overs=true
 io:0≤s.inover∧s.inover≤r.balls - 1
 target:B8 s.target
 runs:B8 s.runs
 wides:B8 s.wides
 noballs:B8 s.noballs
 byes:B8 s.byes
 legbyes:B8 s.legbyes
 pens:B8 s.pens
 complete:B8 s.complete
 ballage:B8 s.ballage
 outside:B8 s.outside
 rev1:B8 s.rev1
 rev2:B8 s.rev2
 bowled:Ik Hr s.bowled=false
theorem gL {x:Int}:Hr x=false↔B8 x:=by
 unfold Hr B8
 rw [Bool.not_eq_false',T8]
theorem fR (a b c d e f g h i j k l:Int):Ik Hr (ZB a b c d e f g h i j k l)=false↔B8 a∧B8 b∧B8 c∧B8 d∧B8 e∧B8 f∧B8 g∧B8 h∧B8 i∧B8 j∧B8 k∧B8 l:=by
 rw [LY]
 simp only [ZB,List.any_cons,List.any_nil,Bool.or_false,X2,gW,Bool.or_eq_false_iff,gL]
theorem We {r:Rul} (h:RulOk r):IntKind.i64.wrap (r.balls - 1)=r.balls - 1:=by
 have:=h.balls
 exact Hv (by omega) (by omega)
theorem bH {x:Int}:(!iLt 5 x)=true↔x≤5:=by
 rw [Bool.not_eq_true']
 simp only [iLt,decide_eq_false_iff_not]
 omega
theorem dV {r:Rul} {s:Inn}:Gr r s=true↔InnOk r s:=by
 unfold Gr Qg
 simp only [Bool.and_eq_true,Bool.not_eq_true',fR,T8]
 constructor
 ·intro ⟨h1,h2,h3,h4,h5,h6,h7,h8,h9,h10,h11,h12,h13,h14,h15,⟨n1,n2,n3,n4,n5,n6,n7,n8,n9,n10,n11,n12⟩,h17⟩
  have hc:CW r=0:=beq_iff_eq.1 h1
  exact ⟨hc,h2,beq_iff_eq.1 h3,beq_iff_eq.1 h4,beq_iff_eq.1 h5,bH.1 (by rw [h6];rfl),h7,h8,h9,h10,h11,h12,h13,h14,by rw [We (N5 hc)] at h15;exact h15,n1,n2,n3,n4,n5,n6,n7,n8,n9,n10,n11,n12,h17⟩
 ·intro h
  have h6:=bH.2 h.ending
  rw [Bool.not_eq_true'] at h6
  exact ⟨beq_iff_eq.2 h.code,h.side,beq_iff_eq.2 h.lb,beq_iff_eq.2 h.ld,beq_iff_eq.2 h.lz,h6,h.st,h.ot,h.bat,h.bow,h.kee,h.dw,h.df,h.ov,by rw [We (N5 h.code)];exact h.io,
   ⟨h.target,h.runs,h.wides,h.noballs,h.byes,h.legbyes,h.pens,h.complete,h.ballage,h.outside,h.rev1,h.rev2⟩,h.bowled⟩
theorem ez (s:Inn) (d:Del):(Bs s d).runs=s.runs∧(Bs s d).wides=s.wides∧(Bs s d).noballs=s.noballs∧(Bs s d).byes=s.byes∧(Bs s d).legbyes=s.legbyes∧(Bs s d).pens=s.pens∧(Bs s d).complete=s.complete∧(Bs s d).inover=s.inover∧(Bs s d).bowler=s.bowler∧(Bs s d).bowled=s.bowled:=by
  unfold Bs
  cases (!(d.runs.tmod 2==0) != d.crossed)<;>exact P_c (P:=fun x:Inn=>x.runs=s.runs∧x.wides=s.wides∧x.noballs=s.noballs∧x.byes=s.byes∧x.legbyes=s.legbyes∧x.pens=s.pens∧x.complete=s.complete∧x.inover=s.inover∧x.bowler=s.bowler∧x.bowled=s.bowled) _ _ _ ⟨rfl,rfl,rfl,rfl,rfl,rfl,rfl,rfl,rfl,rfl⟩
    (P_c (P:=fun x:Inn=>x.runs=s.runs∧x.wides=s.wides∧x.noballs=s.noballs∧x.byes=s.byes∧x.legbyes=s.legbyes∧x.pens=s.pens∧x.complete=s.complete∧x.inover=s.inover∧x.bowler=s.bowler∧x.bowled=s.bowled) _ _ _ ⟨rfl,rfl,rfl,rfl,rfl,rfl,rfl,rfl,rfl,rfl⟩ ⟨rfl,rfl,rfl,rfl,rfl,rfl,rfl,rfl,rfl,rfl⟩)
def i3 (r:Rul) (s:Inn) (d:Del):Inn :=
 let o:=Ha r (Bs s d) (B1 r d).counts
 let t:Inn:=cond o.2 (XC o.1) o.1
 { t with runs:=IntKind.i64.wrap (s.runs+V4 (B1 r d)),wides:=IntKind.i64.wrap (s.wides+(B1 r d).wides),noballs:=IntKind.i64.wrap (s.noballs+(B1 r d).noballs),byes:=IntKind.i64.wrap (s.byes+(B1 r d).byes),legbyes:=IntKind.i64.wrap (s.legbyes+(B1 r d).legbyes),freehit:=cond (d.type==1) false (cond (d.type==3&&r.freehit) true o.1.freehit) }
theorem gt {r:Rul} {s:Inn} {d:Del} (h:((ML r s d).2==0)=true):(HA r s d==0)=true∧(ML r s d).1=i3 r s d:=by
 unfold ML at h ⊢
 cases hr:HA r s d==0 with
 | false=>rw [hr] at h;exact absurd (hr▸h) (by decide)
 | true =>
  refine ⟨rfl,?_⟩
  obtain ⟨k1,k2,k3,k4,k5,_⟩:=ez s d
  simp only [Bool.not_true,cond_false,Zw,k1,k2,k3,k4,k5,i3]
  generalize Ha r (Bs s d) (B1 r d).counts=o
  obtain ⟨o1,o2⟩:=o
  cases o2<;>rfl
theorem di {r:Rul} {s:Inn} {d:Del} (h:(HA r s d==0)=true):Hj s.batters s.striker s.other=false∧(s.bowler==0)=false∧(Ok r s==0)=true∧(Ay d==0)=true∧(BP d s.freehit==0)=true∧(Og s d==0)=true:=by
 unfold HA at h
 cases h1:Hj s.batters s.striker s.other with
 | true=>rw [h1] at h;cases h
 | false =>
  cases h2:s.bowler==0 with
  | true=>rw [h1,h2] at h;cases h
  | false =>
   rw [h1,h2] at h
   change (WC _ _ _ _==0)=true at h
   unfold WC at h
   cases h3:Ok r s==0 with
   | false=>rw [h3] at h;exact absurd (h3▸h) (by decide)
   | true =>
    cases h4:Ay d==0 with
    | false=>rw [h3,h4] at h;exact absurd (h4▸h) (by decide)
    | true =>
     cases h5:BP d s.freehit==0 with
     | false=>rw [h3,h4,h5] at h;exact absurd (h5▸h) (by decide)
     | true =>
      cases h6:Og s d==0 with
      | false=>rw [h3,h4,h5,h6] at h;exact absurd (h6▸h) (by decide)
      | true=>exact ⟨rfl,rfl,rfl,rfl,rfl,rfl⟩
end Go.Px
end
section
namespace Go.Px
set_option maxRecDepth 100000
def fa:Inn:=⟨0,0,0,0,0,0,0,0,0,0,0,0,0,0,[],0,[],[],false,[],false,0,0,0,[],0,0,0⟩
def jc (n:Nat) (overs side t p:Int):Inn:=⟨side,t,overs,p,0,0,0,0,0,p,0,0,0,0,List.replicate n [.int 0],0,[],[],false,List.replicate n [.int 0],false,0,0,0,List.replicate n [.bool false],0,0,0⟩
def Dq (r:Rul) (side t p:Int):Inn×Int :=
 cond (!(CW r==0)) (fa,CW r) (cond (!btw side 1 2 || !btw t 0 1000000 || !btw p 0 1000000) (fa,2) (jc r.side.toNat r.overs side t p,0))
theorem Pu {N:Nat} {r1 r2 r3 r4 r5 r6 r7 r9 r10 r11 r12:Int} {r8:Bool} {r0:ByteArray} {r13:Rows} {a:Int} {b:Int} {c:Int} (hN:2097152<N) (hs:r0.size≤1048576):FN N [.str r0,.int r1,.int r2,.int r3,.int r4,.int r5,.int r6,.int r7,.bool r8,.int r9,.int r10,.int r11,.int r12,.rows r13,.int a,.int b,.int c]=some (A8 (Dq (⟨r0,r1,r2,r3,r4,r5,r6,r7,r8,r9,r10,r11,r12,r13⟩:Rul) a b c)):=by
 show HP (std (Fb N) N) (xOf _)=_
 generalize hres:(some (A8 (Dq (⟨r0,r1,r2,r3,r4,r5,r6,r7,r8,r9,r10,r11,r12,r13⟩:Rul) a b c)):Option (List PV))=RR
 simp only [HP,Mg,KG,std,xOf,PXb,DY hN hs,DF]
 subst hres;simp only [Dq]
 cases hc:CW (⟨r0,r1,r2,r3,r4,r5,r6,r7,r8,r9,r10,r11,r12,r13⟩:Rul)==0 with
 | false=>rfl
 | true =>
  have rk:=(N5 (beq_iff_eq.1 hc)).side
  obtain ⟨k,hk⟩:∃ k:Nat,r1=k:=⟨r1.toNat,by simp only at rk;omega⟩
  subst hk
  simp only at rk
  have h1:iSm (k:Int) 1=true:=Fj (by omega) (by omega)
  have h8:iSm (k:Int) 8=true:=Fj (by omega) (by omega)
  simp only [PXb,PXc,PXn,PXm,Nat.reduceAdd,Int.reduceBEq,h1,h8]
  cases btw a 1 2<;>cases btw b 0 1000000<;>cases btw c 0 1000000<;>rfl
theorem Nv (r:Rul) (side t p:Int):(Dq r side t p).1.Fit∧(Dq r side t p).1.before=[]∧(Dq r side t p).1.bowlers=[]:=by
 unfold Dq
 cases hc:CW r==0 with
 | false=>exact ⟨⟨by show 0≤1048576;omega,by show 0≤1048576;omega,by show 0≤1048576;omega,by show 0≤1048576;omega,by show 0≤1048576;omega⟩,rfl,rfl⟩
 | true =>
  have hs:=(N5 (beq_iff_eq.1 hc)).side
  have hl:∀ x:List PV,(List.replicate r.side.toNat x).length≤1048576:=fun x=>by rw [List.length_replicate];omega
  cases (!btw side 1 2 || !btw t 0 1000000 || !btw p 0 1000000) with
  | true=>exact ⟨⟨by show 0≤1048576;omega,by show 0≤1048576;omega,by show 0≤1048576;omega,by show 0≤1048576;omega,by show 0≤1048576;omega⟩,rfl,rfl⟩
  | false=>exact ⟨⟨hl _,by show 0≤1048576;omega,by show 0≤1048576;omega,hl _,hl _⟩,rfl,rfl⟩
theorem gl {s:Inn} (h:s.Fit):(Sh s).Fit:=⟨h.bt,h.bw,h.bf,h.bd,h.sb⟩
end Go.Px
end
section
namespace Go.Px
set_option maxRecDepth 100000
structure BatOk (L:Rows) (s n wk:Int):Prop where
 le:∀ i,i<L.length→atI L i 0≤3
 at1:∀ i,i<L.length→(atI L i 0=1↔(s=(i:Int)+1∨n=(i:Int)+1))
 here:EH L=true→s≠0∨n≠0
 ne:s≠0→s≠n
 wk:wk=W9 L
end Go.Px
end
section
namespace Go.Px
set_option maxRecDepth 100000
theorem gZ {r:Rul} {s:Inn} (h:InnOk r s):2≤r.side∧r.side≤11:=(N5 h.code).side
end Go.Px
end
section
namespace Go.Px
set_option maxRecDepth 100000
structure Small (s:Inn):Prop where
 target:s.target≤999999900
 runs:s.runs≤999999900
 wides:s.wides≤999999900
 noballs:s.noballs≤999999900
 byes:s.byes≤999999900
 legbyes:s.legbyes≤999999900
 pens:s.pens≤999999900
 complete:s.complete≤999999900
 ballage:s.ballage≤999999900
 rev1:s.rev1≤999999900
 rev2:s.rev2≤999999900
 bowled:∀ j,j<s.bowled.length→atI s.bowled j 0≤999999900
end Go.Px
end
