/- Part 10. -/
import Derived.Test.YteolngdncakekaaGreatPart09
set_option linter.unusedVariables false
set_option linter.unusedSimpArgs false
section
namespace Go.Px
set_option maxRecDepth 100000
structure Lens (s t:Inn):Prop where
 bt:t.batters.length=s.batters.length
 bd:t.bowled.length=s.bowled.length
 sb:t.subs.length=s.subs.length
 bw:t.bowlers.length≤s.bowlers.length+1
 bf:t.before.length≤s.before.length+s.bowlers.length+1
theorem Lens.refl (s:Inn):Lens s s:=⟨rfl,rfl,rfl,by omega,by omega⟩
theorem P_c {α:Type} {P:α→Prop} (b:Bool) (x y:α) (hx:P x) (hy:P y):P (cond b x y):=by cases b<;>assumption
theorem YV (s:Inn) (d:Del):Lens s (Dh s d):=by
 have hb:∀ (b:Bool),(cond b (K5 s.batters s.striker 2) s.batters).length=s.batters.length:=fun b=>by cases b<;>simp [I1]
 have hc:∀ (b:Bool),(cond b (K5 s.batters s.other 2) s.batters).length=s.batters.length:=fun b=>by cases b<;>simp [I1]
 unfold Dh
 cases (!(d.runs.tmod 2==0) != d.crossed)<;>refine P_c _ _ _ ⟨hb _,rfl,rfl,?_,?_⟩ (P_c _ _ _ ⟨hc _,rfl,rfl,?_,?_⟩ ⟨rfl,rfl,rfl,?_,?_⟩)<;>simp<;>omega
theorem WJ (r:Rul) (s:Inn) (c:Bool):Lens s (Im r s c).1:=by
 have hl:(cond (Hy s.bowlers s.bowlers.length s.bowler) s.bowlers (s.bowlers++[[.int s.bowler]])).length≤s.bowlers.length+1:=by
  cases Hy s.bowlers s.bowlers.length s.bowler<;>simp
 have hd:(cond c (K5 s.bowled s.bowler (inc (atI s.bowled (ix s.bowler) 0))) s.bowled).length=s.bowled.length:=by cases c<;>simp [I1]
 unfold Im
 refine P_c (P:=fun x:Inn×Bool=>Lens s x.1) _ _ _ (Lens.refl s) (P_c (P:=fun x:Inn×Bool=>Lens s x.1) _ _ _ ⟨rfl,hd,rfl,hl,by simp;omega⟩ ⟨rfl,hd,rfl,by simp,?_⟩)
 simp only
 omega
def aF (a b c d:Int):Int:=cond (!(a==0)) a (cond (!(b==0)) b (cond (!(c==0)) c (cond (!(d==0)) d 0)))
def M3 (r:Rul) (s:Inn) (d:Del):Int :=
 cond (JX s.batters s.striker s.other) 6 (cond (s.bowler==0) 7 (aF (SP r s) (J2 d) (U0 d s.freehit) (Ro s d)))
theorem Su {N:Nat} {r1 r2 r3 r4 r5 r6 r7 r9 r10 r11 r12:Int} {r8:Bool} {r0:ByteArray} {r13:Rows} {s0 s1 s2 s3 s4 s5 s6 s7 s8 s9 s10 s11 s12 s13 s15 s21 s22 s23 s25 s26 s27:Int} {s18 s20:Bool} {s14 s16 s17 s19 s24:Rows} {d0 d1 d2 d3 d4 d6 d7 d8 d9 d11:Int} {d5 d10:Bool} (h:Fit s14 s16 s17 s19 s24) (hN:2097152<N) (h13:r13.length≤1048576):DH N [.str r0,.int r1,.int r2,.int r3,.int r4,.int r5,.int r6,.int r7,.bool r8,.int r9,.int r10,.int r11,.int r12,.rows r13,.int s0,.int s1,.int s2,.int s3,.int s4,.int s5,.int s6,.int s7,.int s8,.int s9,.int s10,.int s11,.int s12,.int s13,.rows s14,.int s15,.rows s16,.rows s17,.bool s18,.rows s19,.bool s20,.int s21,.int s22,.int s23,.rows s24,.int s25,.int s26,.int s27,.int d0,.int d1,.int d2,.int d3,.int d4,.bool d5,.int d6,.int d7,.int d8,.int d9,.bool d10,.int d11]=some [.int (M3 (⟨r0,r1,r2,r3,r4,r5,r6,r7,r8,r9,r10,r11,r12,r13⟩:Rul) (⟨s0,s1,s2,s3,s4,s5,s6,s7,s8,s9,s10,s11,s12,s13,s14,s15,s16,s17,s18,s19,s20,s21,s22,s23,s24,s25,s26,s27⟩:Inn) (⟨d0,d1,d2,d3,d4,d5,d6,d7,d8,d9,d10,d11⟩:Del))]:=by
 show Ez (std (BW N) N) (xOf _)=_
 generalize hres:(some [.int (M3 (⟨r0,r1,r2,r3,r4,r5,r6,r7,r8,r9,r10,r11,r12,r13⟩:Rul) (⟨s0,s1,s2,s3,s4,s5,s6,s7,s8,s9,s10,s11,s12,s13,s14,s15,s16,s17,s18,s19,s20,s21,s22,s23,s24,s25,s26,s27⟩:Inn) (⟨d0,d1,d2,d3,d4,d5,d6,d7,d8,d9,d10,d11⟩:Del))]:Option (List PV))=RR
 simp only [Ez,I2,G9,JN,KQ,KM,std,xOf,PXb,Oj h.bt hN,Wx h hN h13,NX,QH hN,Wn h]
 subst hres;simp only [M3]
 cases JX s14 s12 s13<;>try rfl
 cases s15==0<;>try rfl
 simp only [PXb]
 generalize SP (⟨r0,r1,r2,r3,r4,r5,r6,r7,r8,r9,r10,r11,r12,r13⟩:Rul) (⟨s0,s1,s2,s3,s4,s5,s6,s7,s8,s9,s10,s11,s12,s13,s14,s15,s16,s17,s18,s19,s20,s21,s22,s23,s24,s25,s26,s27⟩:Inn)=a
 generalize J2 (⟨d0,d1,d2,d3,d4,d5,d6,d7,d8,d9,d10,d11⟩:Del)=b
 generalize U0 (⟨d0,d1,d2,d3,d4,d5,d6,d7,d8,d9,d10,d11⟩:Del) s20=c
 generalize Ro (⟨s0,s1,s2,s3,s4,s5,s6,s7,s8,s9,s10,s11,s12,s13,s14,s15,s16,s17,s18,s19,s20,s21,s22,s23,s24,s25,s26,s27⟩:Inn) (⟨d0,d1,d2,d3,d4,d5,d6,d7,d8,d9,d10,d11⟩:Del)=e
 refine Aa (CP (len:=4) (fun i=>cond (!(atI [[.int a],[.int b],[.int c],[.int e]] i 0==0)) (some [.int (atI [[.int a],[.int b],[.int c],[.int e]] i 0)]) none) ?_ ?_ 4 0 N (by omega) (by omega)) ?_
 ·intro self
  rfl
 ·intro i self hi
  simp only [PXb,As (show i≤1099511627776 by omega),List.length_cons,List.length_nil,Nat.reduceAdd,A9 hi,Ak hi,DW]
  cases atI [[.int a],[.int b],[.int c],[.int e]] i 0==0<;>rfl
 ·refine (Ui _).trans (congrArg (fun z=>some [PV.int z]) ?_)
  unfold aF
  simp only [Bc]
  rw [show atI [[.int a],[.int b],[.int c],[.int e]] 0 0=a from rfl,show atI [[.int a],[.int b],[.int c],[.int e]] (0+1) 0=b from rfl,show atI [[.int a],[.int b],[.int c],[.int e]] (0+1+1) 0=c from rfl,show atI [[.int a],[.int b],[.int c],[.int e]] (0+1+1+1) 0=e from rfl]
  cases a==0<;>try rfl
  cases b==0<;>try rfl
  cases c==0<;>try rfl
  cases e==0<;>rfl
theorem Pa {s t:Inn} (l:Lens s t) (h:s.Fit) (hw:s.before.length+s.bowlers.length≤1048575):t.Fit:=⟨l.bt▸h.bt,by have:=l.bw;omega,by have:=l.bf;omega,l.bd▸h.bd,l.sb▸h.sb⟩
theorem aD (s:Inn) (d:Del):(Dh s d).bowlers=s.bowlers:=by
 unfold Dh
 cases (!(d.runs.tmod 2==0) != d.crossed)<;>exact P_c (P:=fun x:Inn=>x.bowlers=s.bowlers) _ _ _ rfl (P_c (P:=fun x:Inn=>x.bowlers=s.bowlers) _ _ _ rfl rfl)
theorem ah (s:Inn) (d:Del):(Dh s d).before=s.before:=by
 unfold Dh
 cases (!(d.runs.tmod 2==0) != d.crossed)<;>exact P_c (P:=fun x:Inn=>x.before=s.before) _ _ _ rfl (P_c (P:=fun x:Inn=>x.before=s.before) _ _ _ rfl rfl)
@[reducible] def RW (t:Inn) (a b e f g:Int):Inn:=⟨t.side,t.target,t.overs,a,t.wickets,b,e,f,g,t.pens,t.complete,t.inover,t.striker,t.other,t.batters,t.bowler,t.bowlers,t.before,t.fresh,t.bowled,t.freehit,t.ballage,t.keeper,t.outside,t.subs,t.rev1,t.rev2,t.ending⟩
def SU (r:Rul) (s:Inn) (d:Del):Inn×Int :=
  cond (!(M3 r s d==0)) (s,M3 r s d)
    (let c:=EC r d
     let t:=Dh s d
     let o:=Im r (RW t (IntKind.i64.wrap (t.runs+XJ c)) (IntKind.i64.wrap (t.wides+c.wides)) (IntKind.i64.wrap (t.noballs+c.noballs)) (IntKind.i64.wrap (t.byes+c.byes)) (IntKind.i64.wrap (t.legbyes+c.legbyes))) c.counts
     let t:Inn:=cond o.2 (ZK o.1) o.1
     ({ t with freehit:=cond (d.type==1) false (cond (d.type==3&&r.freehit) true o.1.freehit) },0))
theorem Vh {N:Nat} {r1 r2 r3 r4 r5 r6 r7 r9 r10 r11 r12:Int} {r8:Bool} {r0:ByteArray} {r13:Rows} {s0 s1 s2 s3 s4 s5 s6 s7 s8 s9 s10 s11 s12 s13 s15 s21 s22 s23 s25 s26 s27:Int} {s18 s20:Bool} {s14 s16 s17 s19 s24:Rows} {d0 d1 d2 d3 d4 d6 d7 d8 d9 d11:Int} {d5 d10:Bool} (h:Fit s14 s16 s17 s19 s24) (hw:s17.length+s16.length≤1000000) (hN:2097152<N) (hs:r0.size≤1048576) (h13:r13.length≤1048576):FH N [.str r0,.int r1,.int r2,.int r3,.int r4,.int r5,.int r6,.int r7,.bool r8,.int r9,.int r10,.int r11,.int r12,.rows r13,.int s0,.int s1,.int s2,.int s3,.int s4,.int s5,.int s6,.int s7,.int s8,.int s9,.int s10,.int s11,.int s12,.int s13,.rows s14,.int s15,.rows s16,.rows s17,.bool s18,.rows s19,.bool s20,.int s21,.int s22,.int s23,.rows s24,.int s25,.int s26,.int s27,.int d0,.int d1,.int d2,.int d3,.int d4,.bool d5,.int d6,.int d7,.int d8,.int d9,.bool d10,.int d11]=some (Az (SU (⟨r0,r1,r2,r3,r4,r5,r6,r7,r8,r9,r10,r11,r12,r13⟩:Rul) (⟨s0,s1,s2,s3,s4,s5,s6,s7,s8,s9,s10,s11,s12,s13,s14,s15,s16,s17,s18,s19,s20,s21,s22,s23,s24,s25,s26,s27⟩:Inn) (⟨d0,d1,d2,d3,d4,d5,d6,d7,d8,d9,d10,d11⟩:Del))):=by
 show Hj (std (BK N) N) (xOf _)=_
 generalize hres:(some (Az (SU (⟨r0,r1,r2,r3,r4,r5,r6,r7,r8,r9,r10,r11,r12,r13⟩:Rul) (⟨s0,s1,s2,s3,s4,s5,s6,s7,s8,s9,s10,s11,s12,s13,s14,s15,s16,s17,s18,s19,s20,s21,s22,s23,s24,s25,s26,s27⟩:Inn) (⟨d0,d1,d2,d3,d4,d5,d6,d7,d8,d9,d10,d11⟩:Del))):Option (List PV))=RR
 have l1:=YV (⟨s0,s1,s2,s3,s4,s5,s6,s7,s8,s9,s10,s11,s12,s13,s14,s15,s16,s17,s18,s19,s20,s21,s22,s23,s24,s25,s26,s27⟩:Inn) (⟨d0,d1,d2,d3,d4,d5,d6,d7,d8,d9,d10,d11⟩:Del)
 have f1:=Pa l1 h (by simp only;omega)
 have w1:(Dh (⟨s0,s1,s2,s3,s4,s5,s6,s7,s8,s9,s10,s11,s12,s13,s14,s15,s16,s17,s18,s19,s20,s21,s22,s23,s24,s25,s26,s27⟩:Inn) (⟨d0,d1,d2,d3,d4,d5,d6,d7,d8,d9,d10,d11⟩:Del)).bowlers.length=s16.length:=congrArg List.length (aD _ _)
 have w2:(Dh (⟨s0,s1,s2,s3,s4,s5,s6,s7,s8,s9,s10,s11,s12,s13,s14,s15,s16,s17,s18,s19,s20,s21,s22,s23,s24,s25,s26,s27⟩:Inn) (⟨d0,d1,d2,d3,d4,d5,d6,d7,d8,d9,d10,d11⟩:Del)).before.length=s17.length:=congrArg List.length (ah _ _)
 have l2:=fun (x:Rul) (c:Bool) (a b e f g:Int)=>WJ x (RW (Dh (⟨s0,s1,s2,s3,s4,s5,s6,s7,s8,s9,s10,s11,s12,s13,s14,s15,s16,s17,s18,s19,s20,s21,s22,s23,s24,s25,s26,s27⟩:Inn) (⟨d0,d1,d2,d3,d4,d5,d6,d7,d8,d9,d10,d11⟩:Del)) a b e f g) c
 have f2:=fun (x:Rul) (c:Bool) (a b e f g:Int)=>Pa (l2 x c a b e f g) f1 (show (Dh (⟨s0,s1,s2,s3,s4,s5,s6,s7,s8,s9,s10,s11,s12,s13,s14,s15,s16,s17,s18,s19,s20,s21,s22,s23,s24,s25,s26,s27⟩:Inn) (⟨d0,d1,d2,d3,d4,d5,d6,d7,d8,d9,d10,d11⟩:Del)).before.length+(Dh (⟨s0,s1,s2,s3,s4,s5,s6,s7,s8,s9,s10,s11,s12,s13,s14,s15,s16,s17,s18,s19,s20,s21,s22,s23,s24,s25,s26,s27⟩:Inn) (⟨d0,d1,d2,d3,d4,d5,d6,d7,d8,d9,d10,d11⟩:Del)).bowlers.length≤1048575 by omega)
 simp only [Hj,Kn,KI,KF,Mk,KL,Mv,K3,std,xOf,PXb,PXc,PXn,PXm,Nat.reduceAdd,Int.reduceBEq,Su h hN h13,BX h,So,Xm h,T0,Cre.ls,XP f1 (show (Dh (⟨s0,s1,s2,s3,s4,s5,s6,s7,s8,s9,s10,s11,s12,s13,s14,s15,s16,s17,s18,s19,s20,s21,s22,s23,s24,s25,s26,s27⟩:Inn) (⟨d0,d1,d2,d3,d4,d5,d6,d7,d8,d9,d10,d11⟩:Del)).bowlers.length≤1048575 by omega) hN hs,cA,VS (f2 _ _ _ _ _ _ _)]
 subst hres;simp only [SU,RW]
 cases M3 (⟨r0,r1,r2,r3,r4,r5,r6,r7,r8,r9,r10,r11,r12,r13⟩:Rul) (⟨s0,s1,s2,s3,s4,s5,s6,s7,s8,s9,s10,s11,s12,s13,s14,s15,s16,s17,s18,s19,s20,s21,s22,s23,s24,s25,s26,s27⟩:Inn) (⟨d0,d1,d2,d3,d4,d5,d6,d7,d8,d9,d10,d11⟩:Del)==0 with
 | false=>rfl
 | true =>
  obtain ⟨o,ho⟩:∃ o,o=Im (⟨r0,r1,r2,r3,r4,r5,r6,r7,r8,r9,r10,r11,r12,r13⟩:Rul) (RW (Dh (⟨s0,s1,s2,s3,s4,s5,s6,s7,s8,s9,s10,s11,s12,s13,s14,s15,s16,s17,s18,s19,s20,s21,s22,s23,s24,s25,s26,s27⟩:Inn) (⟨d0,d1,d2,d3,d4,d5,d6,d7,d8,d9,d10,d11⟩:Del)) (IntKind.i64.wrap ((Dh (⟨s0,s1,s2,s3,s4,s5,s6,s7,s8,s9,s10,s11,s12,s13,s14,s15,s16,s17,s18,s19,s20,s21,s22,s23,s24,s25,s26,s27⟩:Inn) (⟨d0,d1,d2,d3,d4,d5,d6,d7,d8,d9,d10,d11⟩:Del)).runs+XJ (EC (⟨r0,r1,r2,r3,r4,r5,r6,r7,r8,r9,r10,r11,r12,r13⟩:Rul) (⟨d0,d1,d2,d3,d4,d5,d6,d7,d8,d9,d10,d11⟩:Del)))) (IntKind.i64.wrap ((Dh (⟨s0,s1,s2,s3,s4,s5,s6,s7,s8,s9,s10,s11,s12,s13,s14,s15,s16,s17,s18,s19,s20,s21,s22,s23,s24,s25,s26,s27⟩:Inn) (⟨d0,d1,d2,d3,d4,d5,d6,d7,d8,d9,d10,d11⟩:Del)).wides+(EC (⟨r0,r1,r2,r3,r4,r5,r6,r7,r8,r9,r10,r11,r12,r13⟩:Rul) (⟨d0,d1,d2,d3,d4,d5,d6,d7,d8,d9,d10,d11⟩:Del)).wides)) (IntKind.i64.wrap ((Dh (⟨s0,s1,s2,s3,s4,s5,s6,s7,s8,s9,s10,s11,s12,s13,s14,s15,s16,s17,s18,s19,s20,s21,s22,s23,s24,s25,s26,s27⟩:Inn) (⟨d0,d1,d2,d3,d4,d5,d6,d7,d8,d9,d10,d11⟩:Del)).noballs+(EC (⟨r0,r1,r2,r3,r4,r5,r6,r7,r8,r9,r10,r11,r12,r13⟩:Rul) (⟨d0,d1,d2,d3,d4,d5,d6,d7,d8,d9,d10,d11⟩:Del)).noballs)) (IntKind.i64.wrap ((Dh (⟨s0,s1,s2,s3,s4,s5,s6,s7,s8,s9,s10,s11,s12,s13,s14,s15,s16,s17,s18,s19,s20,s21,s22,s23,s24,s25,s26,s27⟩:Inn) (⟨d0,d1,d2,d3,d4,d5,d6,d7,d8,d9,d10,d11⟩:Del)).byes+(EC (⟨r0,r1,r2,r3,r4,r5,r6,r7,r8,r9,r10,r11,r12,r13⟩:Rul) (⟨d0,d1,d2,d3,d4,d5,d6,d7,d8,d9,d10,d11⟩:Del)).byes)) (IntKind.i64.wrap ((Dh (⟨s0,s1,s2,s3,s4,s5,s6,s7,s8,s9,s10,s11,s12,s13,s14,s15,s16,s17,s18,s19,s20,s21,s22,s23,s24,s25,s26,s27⟩:Inn) (⟨d0,d1,d2,d3,d4,d5,d6,d7,d8,d9,d10,d11⟩:Del)).legbyes+(EC (⟨r0,r1,r2,r3,r4,r5,r6,r7,r8,r9,r10,r11,r12,r13⟩:Rul) (⟨d0,d1,d2,d3,d4,d5,d6,d7,d8,d9,d10,d11⟩:Del)).legbyes))) (EC (⟨r0,r1,r2,r3,r4,r5,r6,r7,r8,r9,r10,r11,r12,r13⟩:Rul) (⟨d0,d1,d2,d3,d4,d5,d6,d7,d8,d9,d10,d11⟩:Del)).counts:=⟨_,rfl⟩
  simp only [RW,XJ] at ho ⊢
  simp only [← ho]
  obtain ⟨o1,o2⟩:=o
  cases o2<;>cases d0==1<;>cases d0==3<;>cases r8<;>rfl
theorem bn (r:Rul) (s:Inn) (b:Bool) (a c d e f:Int):Im r (RW s a c d e f) b=(RW (Im r s b).1 a c d e f,(Im r s b).2):=by
 unfold Im RW
 simp only
 cases (!inR s.bowler s.bowled.length || !(B8 r==0)) with
 | true=>rfl
 | false =>
  simp only [cond_false]
  cases iLt (cond b (inc s.inover) s.inover) r.balls<;>rfl
def Kw (r:Rul) (s:Inn) (side:Int):Inn×Int:=cond (!(side==s.side)) (s,2) (cond (!(r.overs==0)) (s,20) ({ s with ending:=4 },0))
theorem S7 {N:Nat} {r1 r2 r3 r4 r5 r6 r7 r9 r10 r11 r12:Int} {r8:Bool} {r0:ByteArray} {r13:Rows} {s0 s1 s2 s3 s4 s5 s6 s7 s8 s9 s10 s11 s12 s13 s15 s21 s22 s23 s25 s26 s27:Int} {s18 s20:Bool} {s14 s16 s17 s19 s24:Rows} {e0 e1 e2 e3 e5 e6 e7 e8 e9 e10 e11 e13 e14 e15 e16 e18:Int} {e4 e12 e17:Bool} (h:Fit s14 s16 s17 s19 s24):DA N [.str r0,.int r1,.int r2,.int r3,.int r4,.int r5,.int r6,.int r7,.bool r8,.int r9,.int r10,.int r11,.int r12,.rows r13,.int s0,.int s1,.int s2,.int s3,.int s4,.int s5,.int s6,.int s7,.int s8,.int s9,.int s10,.int s11,.int s12,.int s13,.rows s14,.int s15,.rows s16,.rows s17,.bool s18,.rows s19,.bool s20,.int s21,.int s22,.int s23,.rows s24,.int s25,.int s26,.int s27,.int e0,.int e1,.int e2,.int e3,.bool e4,.int e5,.int e6,.int e7,.int e8,.int e9,.int e10,.int e11,.bool e12,.int e13,.int e14,.int e15,.int e16,.bool e17,.int e18]=some (Az (Kw (⟨r0,r1,r2,r3,r4,r5,r6,r7,r8,r9,r10,r11,r12,r13⟩:Rul) (⟨s0,s1,s2,s3,s4,s5,s6,s7,s8,s9,s10,s11,s12,s13,s14,s15,s16,s17,s18,s19,s20,s21,s22,s23,s24,s25,s26,s27⟩:Inn) e1)):=by
 show E9 (std (Gb N) N) (xOf _)=_
 generalize hres:(some (Az (Kw (⟨r0,r1,r2,r3,r4,r5,r6,r7,r8,r9,r10,r11,r12,r13⟩:Rul) (⟨s0,s1,s2,s3,s4,s5,s6,s7,s8,s9,s10,s11,s12,s13,s14,s15,s16,s17,s18,s19,s20,s21,s22,s23,s24,s25,s26,s27⟩:Inn) e1)):Option (List PV))=RR
 simp only [E9,JO,std,xOf,PXb,PXc,PXn,PXm,Nat.reduceAdd,Int.reduceBEq,BX h]
 subst hres;simp only [Kw]
 cases e1==s0<;>cases r3==0<;>rfl
def Rl (s:Inn):Inn:={ s with runs:=IntKind.i64.wrap (s.runs+5),pens:=IntKind.i64.wrap (s.pens+5) }
theorem MU {N:Nat} {s0 s1 s2 s3 s4 s5 s6 s7 s8 s9 s10 s11 s12 s13 s15 s21 s22 s23 s25 s26 s27:Int} {s18 s20:Bool} {s14 s16 s17 s19 s24:Rows} (h:Fit s14 s16 s17 s19 s24):BU N [.int s0,.int s1,.int s2,.int s3,.int s4,.int s5,.int s6,.int s7,.int s8,.int s9,.int s10,.int s11,.int s12,.int s13,.rows s14,.int s15,.rows s16,.rows s17,.bool s18,.rows s19,.bool s20,.int s21,.int s22,.int s23,.rows s24,.int s25,.int s26,.int s27]=some (Rl (⟨s0,s1,s2,s3,s4,s5,s6,s7,s8,s9,s10,s11,s12,s13,s14,s15,s16,s17,s18,s19,s20,s21,s22,s23,s24,s25,s26,s27⟩:Inn)).ls:=by
 show E0 (std (Gg N) N) (xOf _)=_
 generalize hres:(some (Rl (⟨s0,s1,s2,s3,s4,s5,s6,s7,s8,s9,s10,s11,s12,s13,s14,s15,s16,s17,s18,s19,s20,s21,s22,s23,s24,s25,s26,s27⟩:Inn)).ls:Option (List PV))=RR
 simp only [E0,JL,std,xOf,PXb,PXc,PXn,PXm,Nat.reduceAdd,Int.reduceBEq,BX h]
 subst hres;simp only [Rl]
 rfl
def K8 (s:Inn) (side runs:Int):Inn×Int :=
 cond (!(runs==5)) (s,23) (cond (side==s.side) (Rl s,0) ({ s with target:=cond (iLt 0 s.target) (IntKind.i64.wrap (s.target+5)) s.target },0))
theorem S0 {N:Nat} {s0 s1 s2 s3 s4 s5 s6 s7 s8 s9 s10 s11 s12 s13 s15 s21 s22 s23 s25 s26 s27:Int} {s18 s20:Bool} {s14 s16 s17 s19 s24:Rows} {e0 e1 e2 e3 e5 e6 e7 e8 e9 e10 e11 e13 e14 e15 e16 e18:Int} {e4 e12 e17:Bool} (h:Fit s14 s16 s17 s19 s24):DI N [.int s0,.int s1,.int s2,.int s3,.int s4,.int s5,.int s6,.int s7,.int s8,.int s9,.int s10,.int s11,.int s12,.int s13,.rows s14,.int s15,.rows s16,.rows s17,.bool s18,.rows s19,.bool s20,.int s21,.int s22,.int s23,.rows s24,.int s25,.int s26,.int s27,.int e0,.int e1,.int e2,.int e3,.bool e4,.int e5,.int e6,.int e7,.int e8,.int e9,.int e10,.int e11,.bool e12,.int e13,.int e14,.int e15,.int e16,.bool e17,.int e18]=some (Az (K8 (⟨s0,s1,s2,s3,s4,s5,s6,s7,s8,s9,s10,s11,s12,s13,s14,s15,s16,s17,s18,s19,s20,s21,s22,s23,s24,s25,s26,s27⟩:Inn) e1 e5)):=by
 show E2 (std (Dw N) N) (xOf _)=_
 generalize hres:(some (Az (K8 (⟨s0,s1,s2,s3,s4,s5,s6,s7,s8,s9,s10,s11,s12,s13,s14,s15,s16,s17,s18,s19,s20,s21,s22,s23,s24,s25,s26,s27⟩:Inn) e1 e5)):Option (List PV))=RR
 simp only [E2,JQ,H9,std,xOf,PXb,PXc,PXn,PXm,Nat.reduceAdd,Int.reduceBEq,BX h,MU h]
 subst hres;simp only [K8]
 cases e5==5<;>cases e1==s0<;>cases iLt 0 s1<;>rfl
def KY (r:Rul) (s:Inn) (side:Int) (yes:Bool):Inn×Int :=
 cond (!s.fresh||iLe r.reviews (cond (side==2) s.rev2 s.rev1)) (s,24) (cond (!yes) ({ s with rev1:=cond (side==1) (inc s.rev1) s.rev1,rev2:=cond (side==2) (inc s.rev2) s.rev2 },0) (s,0))
theorem wr1:IntKind.i64.wrap (1 - 1)=0:=rfl
theorem wr2:IntKind.i64.wrap (2 - 1)=1:=rfl
theorem Xt:iIn 0 2=true:=rfl
theorem YW:iIn 1 2=true:=rfl
theorem Tm {N:Nat} {r1 r2 r3 r4 r5 r6 r7 r9 r10 r11 r12:Int} {r8:Bool} {r0:ByteArray} {r13:Rows} {s0 s1 s2 s3 s4 s5 s6 s7 s8 s9 s10 s11 s12 s13 s15 s21 s22 s23 s25 s26 s27:Int} {s18 s20:Bool} {s14 s16 s17 s19 s24:Rows} {e0 e1 e2 e3 e5 e6 e7 e8 e9 e10 e11 e13 e14 e15 e16 e18:Int} {e4 e12 e17:Bool} (h:Fit s14 s16 s17 s19 s24) (he:e1=1∨e1=2):Dp N [.str r0,.int r1,.int r2,.int r3,.int r4,.int r5,.int r6,.int r7,.bool r8,.int r9,.int r10,.int r11,.int r12,.rows r13,.int s0,.int s1,.int s2,.int s3,.int s4,.int s5,.int s6,.int s7,.int s8,.int s9,.int s10,.int s11,.int s12,.int s13,.rows s14,.int s15,.rows s16,.rows s17,.bool s18,.rows s19,.bool s20,.int s21,.int s22,.int s23,.rows s24,.int s25,.int s26,.int s27,.int e0,.int e1,.int e2,.int e3,.bool e4,.int e5,.int e6,.int e7,.int e8,.int e9,.int e10,.int e11,.bool e12,.int e13,.int e14,.int e15,.int e16,.bool e17,.int e18]=some (Az (KY (⟨r0,r1,r2,r3,r4,r5,r6,r7,r8,r9,r10,r11,r12,r13⟩:Rul) (⟨s0,s1,s2,s3,s4,s5,s6,s7,s8,s9,s10,s11,s12,s13,s14,s15,s16,s17,s18,s19,s20,s21,s22,s23,s24,s25,s26,s27⟩:Inn) e1 e4)):=by
 show De (std (HJ N) N) (xOf _)=_
 generalize hres:(some (Az (KY (⟨r0,r1,r2,r3,r4,r5,r6,r7,r8,r9,r10,r11,r12,r13⟩:Rul) (⟨s0,s1,s2,s3,s4,s5,s6,s7,s8,s9,s10,s11,s12,s13,s14,s15,s16,s17,s18,s19,s20,s21,s22,s23,s24,s25,s26,s27⟩:Inn) e1 e4)):Option (List PV))=RR
 rcases he with he | he<;>subst he
 ·simp only [De,EL,std,xOf,PXb,PXc,PXn,PXm,Nat.reduceAdd,Int.reduceBEq,BX h,wr1,wr2,Xt,YW]
  subst hres;simp only [KY,Int.reduceBEq,beq_self_eq_true,cond_true,cond_false]
  cases s18<;>cases e4<;>first | rfl | (cases iLe r11 s25<;>rfl)
 ·simp only [De,EL,std,xOf,PXb,PXc,PXn,PXm,Nat.reduceAdd,Int.reduceBEq,BX h,wr1,wr2,Xt,YW]
  subst hres;simp only [KY,Int.reduceBEq,beq_self_eq_true,cond_true,cond_false]
  cases s18<;>cases e4<;>first | rfl | (cases iLe r11 s26<;>rfl)
theorem Ua {N:Nat} {r1 r2 r3 r4 r5 r6 r7 r9 r10 r11 r12:Int} {r8:Bool} {r0:ByteArray} {r13:Rows} {s0 s1 s2 s3 s4 s5 s6 s7 s8 s9 s10 s11 s12 s13 s15 s21 s22 s23 s25 s26 s27:Int} {s18 s20:Bool} {s14 s16 s17 s19 s24:Rows}  : Ed N [.str r0,.int r1,.int r2,.int r3,.int r4,.int r5,.int r6,.int r7,.bool r8,.int r9,.int r10,.int r11,.int r12,.rows r13,.int s0,.int s1,.int s2,.int s3,.int s4,.int s5,.int s6,.int s7,.int s8,.int s9,.int s10,.int s11,.int s12,.int s13,.rows s14,.int s15,.rows s16,.rows s17,.bool s18,.rows s19,.bool s20,.int s21,.int s22,.int s23,.rows s24,.int s25,.int s26,.int s27]=some [.int (YX r4 s10 s11)]:=by
 rfl
def M2 (r:Rul) (s:Inn) (runs overs:Int):Inn×Int :=
  cond (r.overs==0||(runs==0&&overs==0)) (s,25) (cond (iLt 0 runs&&(s.target==0||iLe runs s.runs)) (s,25)
    (cond (iLt 0 overs&&(iLt r.overs overs||iLt (IntKind.i64.wrap (overs * r.balls)) (YX r.balls s.complete s.inover))) (s,25)
      ({ s with target:=cond (iLt 0 runs) runs s.target,overs:=cond (iLt 0 overs) overs s.overs },0)))
theorem Tr {N:Nat} {r1 r2 r3 r4 r5 r6 r7 r9 r10 r11 r12:Int} {r8:Bool} {r0:ByteArray} {r13:Rows} {s0 s1 s2 s3 s4 s5 s6 s7 s8 s9 s10 s11 s12 s13 s15 s21 s22 s23 s25 s26 s27:Int} {s18 s20:Bool} {s14 s16 s17 s19 s24:Rows} {e0 e1 e2 e3 e5 e6 e7 e8 e9 e10 e11 e13 e14 e15 e16 e18:Int} {e4 e12 e17:Bool} (h:Fit s14 s16 s17 s19 s24):Dm N [.str r0,.int r1,.int r2,.int r3,.int r4,.int r5,.int r6,.int r7,.bool r8,.int r9,.int r10,.int r11,.int r12,.rows r13,.int s0,.int s1,.int s2,.int s3,.int s4,.int s5,.int s6,.int s7,.int s8,.int s9,.int s10,.int s11,.int s12,.int s13,.rows s14,.int s15,.rows s16,.rows s17,.bool s18,.rows s19,.bool s20,.int s21,.int s22,.int s23,.rows s24,.int s25,.int s26,.int s27,.int e0,.int e1,.int e2,.int e3,.bool e4,.int e5,.int e6,.int e7,.int e8,.int e9,.int e10,.int e11,.bool e12,.int e13,.int e14,.int e15,.int e16,.bool e17,.int e18]=some (Az (M2 (⟨r0,r1,r2,r3,r4,r5,r6,r7,r8,r9,r10,r11,r12,r13⟩:Rul) (⟨s0,s1,s2,s3,s4,s5,s6,s7,s8,s9,s10,s11,s12,s13,s14,s15,s16,s17,s18,s19,s20,s21,s22,s23,s24,s25,s26,s27⟩:Inn) e5 e6)):=by
 show F4 (std (EP N) N) (xOf _)=_
 generalize hres:(some (Az (M2 (⟨r0,r1,r2,r3,r4,r5,r6,r7,r8,r9,r10,r11,r12,r13⟩:Rul) (⟨s0,s1,s2,s3,s4,s5,s6,s7,s8,s9,s10,s11,s12,s13,s14,s15,s16,s17,s18,s19,s20,s21,s22,s23,s24,s25,s26,s27⟩:Inn) e5 e6)):Option (List PV))=RR
 simp only [F4,J7,Jo,std,xOf,PXb,PXc,PXn,PXm,Nat.reduceAdd,Int.reduceBEq,BX h,Ua]
 subst hres;simp only [M2]
 cases (r3==0||e5==0&&e6==0)<;>try rfl
 cases (iLt 0 e5&&(s1==0||iLe e5 s3))<;>try rfl
 cases iLt 0 e6<;>cases iLt r3 e6<;>try rfl
 simp only [PXb,PXc,PXn,PXm,Nat.reduceAdd,Int.reduceBEq]
 cases iLt (IntKind.i64.wrap (e6 * r4)) (YX r4 s10 s11)<;>rfl
end Go.Px
end
section
namespace Go.Px
set_option maxRecDepth 100000
def Fo (r:Rul) (s:Inn) (e:Ev):Inn×Int :=
  cond (e.kind==2) (Sb s e.player e.other) (cond (e.kind==3) (Sd r s e.player) (cond (e.kind==4) (SU r s e.ball)
    (cond (e.kind==5) (cond e.yes (KZ s e.player) (Pk s e.player)) (cond (e.kind==6) (NB s e.player e.yes) (cond (e.kind==7) (Kl s e.runs)
      (cond (e.kind==8) (NA s e.player) (cond (e.kind==9) (PR s e.player e.yes) (cond (e.kind==10) (Kh r s) (cond (e.kind==11) (Kw r s e.side)
        (cond (e.kind==13) (K8 s e.side e.runs) (cond (e.kind==14) (KY r s e.side e.yes) (M2 r s e.runs e.overs))))))))))))
theorem WG {e:Ev} (h:(evS e==0)=true):(iLt e.kind 1||iLt 16 e.kind)=false:=by
 unfold evS at h
 cases hk:(iLt e.kind 1||iLt 16 e.kind) with
 | false=>rfl
 | true=>rw [hk] at h;cases h
theorem dY {e:Ev} (h:(evS e==0)=true) (hk:e.kind=14):e.side=1∨e.side=2:=by
 have h0:=WG h
 unfold evS at h
 rw [h0] at h
 cases h1:YU e with
 | true=>rw [h1] at h;cases h
 | false =>
  cases h2:UK e with
  | true=>rw [h1,h2] at h;cases h
  | false =>
   unfold UK at h2
   rw [Bool.or_eq_false_iff] at h2
   have h3:=h2.1
   rw [hk,show uS 14=true from rfl,Bool.and_true] at h3
   simp only [btw,iLe,Bool.not_eq_false',Bool.and_eq_true,decide_eq_true_eq] at h3
   omega
set_option maxHeartbeats 4000000 in
theorem S8 {N:Nat} {r1 r2 r3 r4 r5 r6 r7 r9 r10 r11 r12:Int} {r8:Bool} {r0:ByteArray} {r13:Rows} {s0 s1 s2 s3 s4 s5 s6 s7 s8 s9 s10 s11 s12 s13 s15 s21 s22 s23 s25 s26 s27:Int} {s18 s20:Bool} {s14 s16 s17 s19 s24:Rows} {e0 e1 e2 e3 e5 e6 e7 e8 e9 e10 e11 e13 e14 e15 e16 e18:Int} {e4 e12 e17:Bool} (h:Fit s14 s16 s17 s19 s24) (hw:s17.length+s16.length≤1000000) (hN:2097152<N) (hs:r0.size≤1048576) (h13:r13.length≤1048576) (he:(evS (⟨e0,e1,e2,e3,e4,e5,e6,⟨e7,e8,e9,e10,e11,e12,e13,e14,e15,e16,e17,e18⟩⟩:Ev)==0)=true):C8 N [.str r0,.int r1,.int r2,.int r3,.int r4,.int r5,.int r6,.int r7,.bool r8,.int r9,.int r10,.int r11,.int r12,.rows r13,.int s0,.int s1,.int s2,.int s3,.int s4,.int s5,.int s6,.int s7,.int s8,.int s9,.int s10,.int s11,.int s12,.int s13,.rows s14,.int s15,.rows s16,.rows s17,.bool s18,.rows s19,.bool s20,.int s21,.int s22,.int s23,.rows s24,.int s25,.int s26,.int s27,.int e0,.int e1,.int e2,.int e3,.bool e4,.int e5,.int e6,.int e7,.int e8,.int e9,.int e10,.int e11,.bool e12,.int e13,.int e14,.int e15,.int e16,.bool e17,.int e18]=some (Az (Fo (⟨r0,r1,r2,r3,r4,r5,r6,r7,r8,r9,r10,r11,r12,r13⟩:Rul) (⟨s0,s1,s2,s3,s4,s5,s6,s7,s8,s9,s10,s11,s12,s13,s14,s15,s16,s17,s18,s19,s20,s21,s22,s23,s24,s25,s26,s27⟩:Inn) (⟨e0,e1,e2,e3,e4,e5,e6,⟨e7,e8,e9,e10,e11,e12,e13,e14,e15,e16,e17,e18⟩⟩:Ev))):=by
  show DL (std (AY N) N) (xOf _)=_
  generalize hres:(some (Az (Fo (⟨r0,r1,r2,r3,r4,r5,r6,r7,r8,r9,r10,r11,r12,r13⟩:Rul) (⟨s0,s1,s2,s3,s4,s5,s6,s7,s8,s9,s10,s11,s12,s13,s14,s15,s16,s17,s18,s19,s20,s21,s22,s23,s24,s25,s26,s27⟩:Inn) (⟨e0,e1,e2,e3,e4,e5,e6,⟨e7,e8,e9,e10,e11,e12,e13,e14,e15,e16,e17,e18⟩⟩:Ev))):Option (List PV))=RR
  have hsd:e0=14→e1=1∨e1=2:=dY (e:=(⟨e0,e1,e2,e3,e4,e5,e6,⟨e7,e8,e9,e10,e11,e12,e13,e14,e15,e16,e17,e18⟩⟩:Ev)) he
  rcases Sg (WG he) with hk | hk | hk | hk | hk | hk | hk | hk | hk | hk | hk | hk | hk | hk | hk | hk<;>simp only at hk<;>subst hk<;>clear he
  all_goals (first
    | (have hsd := hsd rfl
       simp only [DL,Et,FQ,EO,Dg,EJ,D6,D5,EX,DD,D7,DR,DS,DZ,Dn,std,xOf,PXb,PXc,PXn,PXm,Nat.reduceAdd,Int.reduceBEq,Tm h hsd]
       subst hres
       rfl)
    | (simp only [DL, Et, FQ, EO, Dg, EJ, D6, D5, EX, DD, D7, DR, DS, DZ, Dn, std, xOf, PXb, PXc, PXn, PXm, Nat.reduceAdd, Int.reduceBEq, Wp h hN, Xj h hN hs, Vh h hw hN hs h13, UJ h hN, V6 h hN, Ud h hN, Va h, Vf h, Rp h, VI h hN hs, S7 h, S0 h, Tr h]
       subst hres
       first
       | rfl
       | (cases e4<;>rfl)))
end Go.Px
end
section
namespace Go.Px
set_option maxRecDepth 100000
theorem Lens.of {s t:Inn} (h1:t.batters.length=s.batters.length) (h2:t.bowled.length=s.bowled.length) (h3:t.subs.length=s.subs.length) (h4:t.bowlers=s.bowlers) (h5:t.before=s.before):Lens s t:=⟨h1,h2,h3,by rw [h4];omega,by rw [h5];omega⟩
theorem L_c {s:Inn} (b:Bool) (x y:Inn×Int) (hx:Lens s x.1) (hy:Lens s y.1):Lens s (cond b x y).1:=by cases b<;>assumption
theorem ai (s:Inn) (p q:Int):Lens s (Sb s p q).1:=by
 unfold Sb
 exact L_c _ _ _ (Lens.refl s) (L_c _ _ _ (Lens.refl s) (L_c _ _ _ (Lens.refl s) (Lens.of (by simp [I1]) rfl rfl rfl rfl)))
theorem bD (r:Rul) (s:Inn) (p:Int):Lens s (Sd r s p).1:=by
 unfold Sd
 exact P_c (P:=fun x:Inn=>Lens s x) _ _ _ (Lens.of rfl rfl rfl rfl rfl) (Lens.refl s)
theorem au (r:Rul) (s:Inn) (d:Del):Lens s (SU r s d).1:=by
 unfold SU
 refine L_c _ _ _ (Lens.refl s) ?_
 have l1:=YV s d
 have w1:=aD s d
 have w2:=ah s d
 simp only [bn]
 have l2:=WJ r (Dh s d) (EC r d).counts
 cases (Im r (Dh s d) (EC r d).counts).2
 ·exact ⟨l2.bt.trans l1.bt,l2.bd.trans l1.bd,l2.sb.trans l1.sb,by have:=l2.bw;rw [w1] at this;exact this,by have:=l2.bf;rw [w1,w2] at this;exact this⟩
 ·exact ⟨l2.bt.trans l1.bt,l2.bd.trans l1.bd,l2.sb.trans l1.sb,by have:=l2.bw;rw [w1] at this;exact this,by have:=l2.bf;rw [w1,w2] at this;exact this⟩
theorem X2 (s:Inn) (p:Int):Lens s (KZ s p).1:=by
 unfold KZ
 exact L_c _ _ _ (Lens.of (by simp [I1]) rfl rfl rfl rfl) (Lens.refl s)
theorem ZO (s:Inn) (p:Int):Lens s (Pk s p).1:=by
 unfold Pk
 exact L_c _ _ _ (Lens.of (by simp [I1]) rfl rfl rfl rfl) (Lens.refl s)
theorem Yz (s:Inn) (p:Int) (b:Bool):Lens s (NB s p b).1:=by
 unfold NB
 exact L_c _ _ _ (Lens.refl s) (L_c _ _ _ (Lens.refl s) (L_c _ _ _ (Lens.refl s) (L_c _ _ _ (Lens.refl s) (Lens.of (by simp [I1]) rfl rfl rfl rfl))))
theorem YE (s:Inn) (n:Int):Lens s (Kl s n).1:=by
 unfold Kl
 exact L_c _ _ _ (Lens.refl s) (Lens.of rfl rfl rfl rfl rfl)
theorem Yv (s:Inn) (n:Int):Lens s (NA s n).1:=by
 unfold NA
 exact L_c _ _ _ (Lens.refl s) (L_c _ _ _ (Lens.refl s) (L_c _ _ _ (Lens.refl s) (Lens.of rfl rfl rfl rfl rfl)))
theorem Ze (s:Inn) (n:Int) (b:Bool):Lens s (PR s n b).1:=by
 unfold PR
 exact L_c _ _ _ (Lens.refl s) (L_c _ _ _ (Lens.refl s) (Lens.of rfl rfl (by simp [bU]) rfl rfl))
theorem YT (r:Rul) (s:Inn):Lens s (Kh r s).1:=by
 unfold Kh
 exact L_c _ _ _ (Lens.refl s) (Lens.of rfl rfl rfl rfl rfl)
theorem XR (r:Rul) (s:Inn) (n:Int):Lens s (Kw r s n).1:=by
 unfold Kw
 exact L_c _ _ _ (Lens.refl s) (L_c _ _ _ (Lens.refl s) (Lens.of rfl rfl rfl rfl rfl))
theorem YR (s:Inn) (n m:Int):Lens s (K8 s n m).1:=by
 unfold K8
 exact L_c _ _ _ (Lens.refl s) (L_c _ _ _ (Lens.of rfl rfl rfl rfl rfl) (Lens.of rfl rfl rfl rfl rfl))
theorem Yx (r:Rul) (s:Inn) (n:Int) (b:Bool):Lens s (KY r s n b).1:=by
 unfold KY
 exact L_c _ _ _ (Lens.refl s) (L_c _ _ _ (Lens.of rfl rfl rfl rfl rfl) (Lens.refl s))
theorem Y0 (r:Rul) (s:Inn) (n m:Int):Lens s (M2 r s n m).1:=by
 unfold M2
 exact L_c _ _ _ (Lens.refl s) (L_c _ _ _ (Lens.refl s) (L_c _ _ _ (Lens.refl s) (Lens.of rfl rfl rfl rfl rfl)))
theorem SF (r:Rul) (s:Inn) (e:Ev):Lens s (Fo r s e).1:=by
  unfold Fo
  exact L_c _ _ _ (ai ..) (L_c _ _ _ (bD ..) (L_c _ _ _ (au ..) (L_c _ _ _ (L_c _ _ _ (X2 ..) (ZO ..)) (L_c _ _ _ (Yz ..) (L_c _ _ _ (YE ..)
    (L_c _ _ _ (Yv ..) (L_c _ _ _ (Ze ..) (L_c _ _ _ (YT ..) (L_c _ _ _ (XR ..) (L_c _ _ _ (YR ..) (L_c _ _ _ (Yx ..) (Y0 ..))))))))))))
def H5 (r:Rul) (s:Inn):Bool:=PQ r.name r.side r.innings r.overs r.balls r.quota r.wide r.noball r.newball r.followon r.reviews r.outside r.power s.batters s.bowlers s.before s.bowled s.subs s.side s.target s.overs s.runs s.wickets s.wides s.noballs s.byes s.legbyes s.pens s.complete s.inover s.striker s.other s.bowler s.ballage s.keeper s.outside s.rev1 s.rev2 s.ending
def eD (r:Rul) (s:Inn):Int:=be (H5 r s) s.batters s.striker s.other s.target s.overs s.runs s.complete
theorem N9 {N:Nat} {r1 r2 r3 r4 r5 r6 r7 r9 r10 r11 r12:Int} {r8:Bool} {r0:ByteArray} {r13:Rows} {s0 s1 s2 s3 s4 s5 s6 s7 s8 s9 s10 s11 s12 s13 s15 s21 s22 s23 s25 s26 s27:Int} {s18 s20:Bool} {s14 s16 s17 s19 s24:Rows} (h:Fit s14 s16 s17 s19 s24) (hN:2097152<N) (hs:r0.size≤1048576):A0 N [.str r0,.int r1,.int r2,.int r3,.int r4,.int r5,.int r6,.int r7,.bool r8,.int r9,.int r10,.int r11,.int r12,.rows r13,.int s0,.int s1,.int s2,.int s3,.int s4,.int s5,.int s6,.int s7,.int s8,.int s9,.int s10,.int s11,.int s12,.int s13,.rows s14,.int s15,.rows s16,.rows s17,.bool s18,.rows s19,.bool s20,.int s21,.int s22,.int s23,.rows s24,.int s25,.int s26,.int s27]=some [.bool (H5 (⟨r0,r1,r2,r3,r4,r5,r6,r7,r8,r9,r10,r11,r12,r13⟩:Rul) (⟨s0,s1,s2,s3,s4,s5,s6,s7,s8,s9,s10,s11,s12,s13,s14,s15,s16,s17,s18,s19,s20,s21,s22,s23,s24,s25,s26,s27⟩:Inn))]:=by
 exact Nb N _ _ _ _ _ _ _ _ _ _ _ _ _ _ _ _ _ _ _ _ _ _ _ _ _ _ _ _ _ _ _ _ _ _ _ _ _ _ _ _ _ _ hN hs h.bt h.bw h.bf h.bd
theorem UQ {N:Nat} {r1 r2 r3 r4 r5 r6 r7 r9 r10 r11 r12:Int} {r8:Bool} {r0:ByteArray} {r13:Rows} {s0 s1 s2 s3 s4 s5 s6 s7 s8 s9 s10 s11 s12 s13 s15 s21 s22 s23 s25 s26 s27:Int} {s18 s20:Bool} {s14 s16 s17 s19 s24:Rows} (h:Fit s14 s16 s17 s19 s24) (hN:2097152<N) (hs:r0.size≤1048576):CY N [.str r0,.int r1,.int r2,.int r3,.int r4,.int r5,.int r6,.int r7,.bool r8,.int r9,.int r10,.int r11,.int r12,.rows r13,.int s0,.int s1,.int s2,.int s3,.int s4,.int s5,.int s6,.int s7,.int s8,.int s9,.int s10,.int s11,.int s12,.int s13,.rows s14,.int s15,.rows s16,.rows s17,.bool s18,.rows s19,.bool s20,.int s21,.int s22,.int s23,.rows s24,.int s25,.int s26,.int s27]=some [.int (eD (⟨r0,r1,r2,r3,r4,r5,r6,r7,r8,r9,r10,r11,r12,r13⟩:Rul) (⟨s0,s1,s2,s3,s4,s5,s6,s7,s8,s9,s10,s11,s12,s13,s14,s15,s16,s17,s18,s19,s20,s21,s22,s23,s24,s25,s26,s27⟩:Inn))]:=by
 exact S5 N _ _ _ _ _ _ _ _ _ _ _ _ _ _ _ _ _ _ _ _ _ _ _ _ _ _ _ _ _ _ _ _ _ _ _ _ _ _ _ _ _ _ hN hs h.bt h.bw h.bf h.bd
def Xn (t:Inn) (b:Bool):Inn:=⟨t.side,t.target,t.overs,t.runs,t.wickets,t.wides,t.noballs,t.byes,t.legbyes,t.pens,t.complete,t.inover,t.striker,t.other,t.batters,t.bowler,t.bowlers,t.before,b,t.bowled,t.freehit,t.ballage,t.keeper,t.outside,t.subs,t.rev1,t.rev2,t.ending⟩
def Vu (r:Rul) (t:Inn) (b:Bool):Inn:={ Xn t b with ending:=cond (t.ending==0) (eD r (Xn t b)) t.ending }
def cT (s:Inn) (e:Ev):Bool:=e.kind==1||e.kind==12||e.kind==16||(!Dk s.batters && !(e.kind==2))
def E6 (r:Rul) (s:Inn) (e:Ev):Inn×Int :=
  cond (!H5 r s || !(evS e==0)) (s,1) (cond (!(s.ending==0)) (s,26) (cond (cT s e) (s,1)
    (cond (!((Fo r s e).2==0)) (s,(Fo r s e).2) (Vu r (Fo r s e).1 (e.kind==4),0))))
set_option maxHeartbeats 4000000 in
theorem Kq {N:Nat} {r1 r2 r3 r4 r5 r6 r7 r9 r10 r11 r12:Int} {r8:Bool} {r0:ByteArray} {r13:Rows} {s0 s1 s2 s3 s4 s5 s6 s7 s8 s9 s10 s11 s12 s13 s15 s21 s22 s23 s25 s26 s27:Int} {s18 s20:Bool} {s14 s16 s17 s19 s24:Rows} {e0 e1 e2 e3 e5 e6 e7 e8 e9 e10 e11 e13 e14 e15 e16 e18:Int} {e4 e12 e17:Bool} (h:Fit s14 s16 s17 s19 s24) (hw:s17.length+s16.length≤1000000) (hN:2097152<N) (hs:r0.size≤1048576) (h13:r13.length≤1048576):FZ N [.str r0,.int r1,.int r2,.int r3,.int r4,.int r5,.int r6,.int r7,.bool r8,.int r9,.int r10,.int r11,.int r12,.rows r13,.int s0,.int s1,.int s2,.int s3,.int s4,.int s5,.int s6,.int s7,.int s8,.int s9,.int s10,.int s11,.int s12,.int s13,.rows s14,.int s15,.rows s16,.rows s17,.bool s18,.rows s19,.bool s20,.int s21,.int s22,.int s23,.rows s24,.int s25,.int s26,.int s27,.int e0,.int e1,.int e2,.int e3,.bool e4,.int e5,.int e6,.int e7,.int e8,.int e9,.int e10,.int e11,.bool e12,.int e13,.int e14,.int e15,.int e16,.bool e17,.int e18]=some (Az (E6 (⟨r0,r1,r2,r3,r4,r5,r6,r7,r8,r9,r10,r11,r12,r13⟩:Rul) (⟨s0,s1,s2,s3,s4,s5,s6,s7,s8,s9,s10,s11,s12,s13,s14,s15,s16,s17,s18,s19,s20,s21,s22,s23,s24,s25,s26,s27⟩:Inn) (⟨e0,e1,e2,e3,e4,e5,e6,⟨e7,e8,e9,e10,e11,e12,e13,e14,e15,e16,e17,e18⟩⟩:Ev))):=by
 show Hc (std (Bd N) N) (xOf _)=_
 generalize hres:(some (Az (E6 (⟨r0,r1,r2,r3,r4,r5,r6,r7,r8,r9,r10,r11,r12,r13⟩:Rul) (⟨s0,s1,s2,s3,s4,s5,s6,s7,s8,s9,s10,s11,s12,s13,s14,s15,s16,s17,s18,s19,s20,s21,s22,s23,s24,s25,s26,s27⟩:Inn) (⟨e0,e1,e2,e3,e4,e5,e6,⟨e7,e8,e9,e10,e11,e12,e13,e14,e15,e16,e17,e18⟩⟩:Ev))):Option (List PV))=RR
 have l1:=SF (⟨r0,r1,r2,r3,r4,r5,r6,r7,r8,r9,r10,r11,r12,r13⟩:Rul) (⟨s0,s1,s2,s3,s4,s5,s6,s7,s8,s9,s10,s11,s12,s13,s14,s15,s16,s17,s18,s19,s20,s21,s22,s23,s24,s25,s26,s27⟩:Inn) (⟨e0,e1,e2,e3,e4,e5,e6,⟨e7,e8,e9,e10,e11,e12,e13,e14,e15,e16,e17,e18⟩⟩:Ev)
 have f1:=Pa l1 h (by simp only;omega)
 simp only [Hc,ME,K6,K4,Kc,EZ,Eu,std,xOf,PXb,N9 h hN hs,Qt hN,BX h,U7 h.bt hN]
 subst hres;simp only [E6,cT]
 cases H5 (⟨r0,r1,r2,r3,r4,r5,r6,r7,r8,r9,r10,r11,r12,r13⟩:Rul) (⟨s0,s1,s2,s3,s4,s5,s6,s7,s8,s9,s10,s11,s12,s13,s14,s15,s16,s17,s18,s19,s20,s21,s22,s23,s24,s25,s26,s27⟩:Inn)
 ·rfl
 cases he:evS (⟨e0,e1,e2,e3,e4,e5,e6,⟨e7,e8,e9,e10,e11,e12,e13,e14,e15,e16,e17,e18⟩⟩:Ev)==0
 ·simp only [PXb,PXc,PXn,PXm,Nat.reduceAdd,Int.reduceBEq,he]
 simp only [PXb,PXc,PXn,PXm,Nat.reduceAdd,Int.reduceBEq,he]
 cases s27==0<;>try rfl
 cases (e0==1||e0==12||e0==16)<;>cases Dk s14<;>cases e0==2<;>try rfl
 all_goals (simp only [PXb,PXc,PXn,PXm,Nat.reduceAdd,Int.reduceBEq,EZ,Eu,S8 h hw hN hs h13 he,UQ f1 hN hs])
 all_goals (unfold Vu Xn;cases (Fo (⟨r0,r1,r2,r3,r4,r5,r6,r7,r8,r9,r10,r11,r12,r13⟩:Rul) (⟨s0,s1,s2,s3,s4,s5,s6,s7,s8,s9,s10,s11,s12,s13,s14,s15,s16,s17,s18,s19,s20,s21,s22,s23,s24,s25,s26,s27⟩:Inn) (⟨e0,e1,e2,e3,e4,e5,e6,⟨e7,e8,e9,e10,e11,e12,e13,e14,e15,e16,e17,e18⟩⟩:Ev)).2==0<;>cases (Fo (⟨r0,r1,r2,r3,r4,r5,r6,r7,r8,r9,r10,r11,r12,r13⟩:Rul) (⟨s0,s1,s2,s3,s4,s5,s6,s7,s8,s9,s10,s11,s12,s13,s14,s15,s16,s17,s18,s19,s20,s21,s22,s23,s24,s25,s26,s27⟩:Inn) (⟨e0,e1,e2,e3,e4,e5,e6,⟨e7,e8,e9,e10,e11,e12,e13,e14,e15,e16,e17,e18⟩⟩:Ev)).1.ending==0<;>rfl)
end Go.Px
end
section
namespace Go.Px
set_option maxRecDepth 100000
theorem Yw {s t:Inn} (r:Rul) (b:Bool) (h:Lens s t):Lens s (Vu r t b):=⟨h.bt,h.bd,h.sb,h.bw,h.bf⟩
theorem Rv (r:Rul) (s:Inn) (e:Ev):Lens s (E6 r s e).1:=by
 unfold E6
 exact L_c _ _ _ (Lens.refl s) (L_c _ _ _ (Lens.refl s) (L_c _ _ _ (Lens.refl s) (L_c _ _ _ (Lens.refl s) (Yw r _ (SF r s e)))))
end Go.Px
end
section
namespace Go.Px
set_option maxRecDepth 100000
theorem SV {x a b:Int}:btw x a b=true↔a≤x∧x≤b:=by simp [btw,iLe]
structure RulOk (r:Rul):Prop where
 side:2≤r.side∧r.side≤11
 innings:1≤r.innings∧r.innings≤2
 overs:0≤r.overs∧r.overs≤90
 balls:4≤r.balls∧r.balls≤8
 quota:0≤r.quota∧r.quota≤90
 wide:1≤r.wide∧r.wide≤5
 noball:1≤r.noball∧r.noball≤5
 newball:0≤r.newball∧r.newball≤200
 followon:0≤r.followon∧r.followon≤1000
 reviews:0≤r.reviews∧r.reviews≤9
 outside:0≤r.outside∧r.outside≤11
theorem M4 {r:Rul} (h:B8 r=0):RulOk r:=by
 unfold B8 JG at h
 cases hn:RX r.name with
 | false=>rw [hn] at h;cases h
 | true =>
  cases hr:Kz r.side r.innings r.overs r.balls r.quota r.wide r.noball r.newball r.followon r.reviews r.outside with
  | false=>rw [hn,hr] at h;cases h
  | true =>
   unfold Kz at hr
   simp only [Bool.and_eq_true,SV] at hr
   obtain ⟨⟨⟨⟨⟨⟨⟨⟨⟨⟨h1,h2⟩,h3⟩,h4⟩,h5⟩,h6⟩,h7⟩,h8⟩,h9⟩,h10⟩,h11⟩:=hr
   exact ⟨h1,h2,h3,h4,h5,h6,h7,h8,h9,h10,h11⟩
def Bp (x:Int):Prop:=0≤x∧x≤1000000000
structure InnOk (r:Rul) (s:Inn):Prop where
 code:B8 r=0
 side:1≤s.side∧s.side≤2
 lb:(s.batters.length:Int)=r.side
 ld:(s.bowled.length:Int)=r.side
 lz:(s.subs.length:Int)=r.side
 ending:s.ending≤5
 st:0≤s.striker∧s.striker≤r.side
 ot:0≤s.other∧s.other≤r.side
 bat:UY s.batters s.striker s.other s.wickets=true
 bow:0≤s.bowler∧s.bowler≤r.side
 kee:0≤s.keeper∧s.keeper≤r.side
 dw:H1 s.bowlers r.side=true
 df:H1 s.before r.side=true
 ov:V7 r.overs s.overs=true
 io:0≤s.inover∧s.inover≤r.balls - 1
 target:Bp s.target
 runs:Bp s.runs
 wides:Bp s.wides
 noballs:Bp s.noballs
 byes:Bp s.byes
 legbyes:Bp s.legbyes
 pens:Bp s.pens
 complete:Bp s.complete
 ballage:Bp s.ballage
 outside:Bp s.outside
 rev1:Bp s.rev1
 rev2:Bp s.rev2
 bowled:Hv HB s.bowled=false
theorem dC {x:Int}:HB x=false↔Bp x:=by
 unfold HB Bp
 rw [Bool.not_eq_false',SV]
theorem bc (a b c d e f g h i j k l:Int):Hv HB (XQ a b c d e f g h i j k l)=false↔Bp a∧Bp b∧Bp c∧Bp d∧Bp e∧Bp f∧Bp g∧Bp h∧Bp i∧Bp j∧Bp k∧Bp l:=by
 rw [Kt]
 simp only [XQ,List.any_cons,List.any_nil,Bool.or_false,We,cg,Bool.or_eq_false_iff,dC]
theorem VL {r:Rul} (h:RulOk r):IntKind.i64.wrap (r.balls - 1)=r.balls - 1:=by
 have:=h.balls
 exact F8 (by omega) (by omega)
theorem ZC {x:Int}:(!iLt 5 x)=true↔x≤5:=by
 rw [Bool.not_eq_true']
 simp only [iLt,decide_eq_false_iff_not]
 omega
theorem aI {r:Rul} {s:Inn}:H5 r s=true↔InnOk r s:=by
 unfold H5 PQ
 simp only [Bool.and_eq_true,Bool.not_eq_true',bc,SV]
 constructor
 ·intro ⟨h1,h2,h3,h4,h5,h6,h7,h8,h9,h10,h11,h12,h13,h14,h15,⟨n1,n2,n3,n4,n5,n6,n7,n8,n9,n10,n11,n12⟩,h17⟩
  have hc:B8 r=0:=beq_iff_eq.1 h1
  exact ⟨hc,h2,beq_iff_eq.1 h3,beq_iff_eq.1 h4,beq_iff_eq.1 h5,ZC.1 (by rw [h6];rfl),h7,h8,h9,h10,h11,h12,h13,h14,by rw [VL (M4 hc)] at h15;exact h15,n1,n2,n3,n4,n5,n6,n7,n8,n9,n10,n11,n12,h17⟩
 ·intro h
  have h6:=ZC.2 h.ending
  rw [Bool.not_eq_true'] at h6
  exact ⟨beq_iff_eq.2 h.code,h.side,beq_iff_eq.2 h.lb,beq_iff_eq.2 h.ld,beq_iff_eq.2 h.lz,h6,h.st,h.ot,h.bat,h.bow,h.kee,h.dw,h.df,h.ov,by rw [VL (M4 h.code)];exact h.io,
   ⟨h.target,h.runs,h.wides,h.noballs,h.byes,h.legbyes,h.pens,h.complete,h.ballage,h.outside,h.rev1,h.rev2⟩,h.bowled⟩
end Go.Px
end
section
namespace Go.Px
set_option maxRecDepth 100000
def cR:Inn:=⟨0,0,0,0,0,0,0,0,0,0,0,0,0,0,[],0,[],[],false,[],false,0,0,0,[],0,0,0⟩
def ec (n:Nat) (overs side t p:Int):Inn:=⟨side,t,overs,p,0,0,0,0,0,p,0,0,0,0,List.replicate n [.int 0],0,[],[],false,List.replicate n [.int 0],false,0,0,0,List.replicate n [.bool false],0,0,0⟩
def DK (r:Rul) (side t p:Int):Inn×Int :=
 cond (!(B8 r==0)) (cR,B8 r) (cond (!btw side 1 2 || !btw t 0 1000000 || !btw p 0 1000000) (cR,2) (ec r.side.toNat r.overs side t p,0))
theorem OX {N:Nat} {r1 r2 r3 r4 r5 r6 r7 r9 r10 r11 r12:Int} {r8:Bool} {r0:ByteArray} {r13:Rows} {a:Int} {b:Int} {c:Int} (hN:2097152<N) (hs:r0.size≤1048576):Em N [.str r0,.int r1,.int r2,.int r3,.int r4,.int r5,.int r6,.int r7,.bool r8,.int r9,.int r10,.int r11,.int r12,.rows r13,.int a,.int b,.int c]=some (Az (DK (⟨r0,r1,r2,r3,r4,r5,r6,r7,r8,r9,r10,r11,r12,r13⟩:Rul) a b c)):=by
 show Gl (std (FA N) N) (xOf _)=_
 generalize hres:(some (Az (DK (⟨r0,r1,r2,r3,r4,r5,r6,r7,r8,r9,r10,r11,r12,r13⟩:Rul) a b c)):Option (List PV))=RR
 simp only [Gl,Lg,JP,std,xOf,PXb,C3 hN hs,Ck]
 subst hres;simp only [DK]
 cases hc:B8 (⟨r0,r1,r2,r3,r4,r5,r6,r7,r8,r9,r10,r11,r12,r13⟩:Rul)==0 with
 | false=>rfl
 | true =>
  have rk:=(M4 (beq_iff_eq.1 hc)).side
  obtain ⟨k,hk⟩:∃ k:Nat,r1=k:=⟨r1.toNat,by simp only at rk;omega⟩
  subst hk
  simp only at rk
  have h1:iSm (k:Int) 1=true:=Ha (by omega) (by omega)
  have h8:iSm (k:Int) 8=true:=Ha (by omega) (by omega)
  simp only [PXb,PXc,PXn,PXm,Nat.reduceAdd,Int.reduceBEq,h1,h8]
  cases btw a 1 2<;>cases btw b 0 1000000<;>cases btw c 0 1000000<;>rfl
theorem Mq (r:Rul) (side t p:Int):(DK r side t p).1.Fit∧(DK r side t p).1.before=[]∧(DK r side t p).1.bowlers=[]:=by
 unfold DK
 cases hc:B8 r==0 with
 | false=>exact ⟨⟨by show 0≤1048576;omega,by show 0≤1048576;omega,by show 0≤1048576;omega,by show 0≤1048576;omega,by show 0≤1048576;omega⟩,rfl,rfl⟩
 | true =>
  have hs:=(M4 (beq_iff_eq.1 hc)).side
  have hl:∀ x:List PV,(List.replicate r.side.toNat x).length≤1048576:=fun x=>by rw [List.length_replicate];omega
  cases (!btw side 1 2 || !btw t 0 1000000 || !btw p 0 1000000) with
  | true=>exact ⟨⟨by show 0≤1048576;omega,by show 0≤1048576;omega,by show 0≤1048576;omega,by show 0≤1048576;omega,by show 0≤1048576;omega⟩,rfl,rfl⟩
  | false=>exact ⟨⟨hl _,by show 0≤1048576;omega,by show 0≤1048576;omega,hl _,hl _⟩,rfl,rfl⟩
theorem dT {s:Inn} (h:s.Fit):(Rl s).Fit:=⟨h.bt,h.bw,h.bf,h.bd,h.sb⟩
end Go.Px
end
section
namespace Go.Px
set_option maxRecDepth 100000
structure BatOk (L:Rows) (s n wk:Int):Prop where
 le:∀ i,i<L.length→atI L i 0≤3
 at1:∀ i,i<L.length→(atI L i 0=1↔(s=(i:Int)+1∨n=(i:Int)+1))
 here:Dk L=true→s≠0∨n≠0
 ne:s≠0→s≠n
 wk:wk=Vi L
end Go.Px
end
section
namespace Go.Px
set_option maxRecDepth 100000
theorem dJ {r:Rul} {s:Inn} (h:InnOk r s):2≤r.side∧r.side≤11:=(M4 h.code).side
end Go.Px
end
section
namespace Go.Px
set_option maxRecDepth 100000
structure Small (s:Inn):Prop where
 target:s.target≤999999900
 runs:s.runs≤999999900
 wides:s.wides≤999999900
 noballs:s.noballs≤999999900
 byes:s.byes≤999999900
 legbyes:s.legbyes≤999999900
 pens:s.pens≤999999900
 complete:s.complete≤999999900
 ballage:s.ballage≤999999900
 rev1:s.rev1≤999999900
 rev2:s.rev2≤999999900
 bowled:∀ j,j<s.bowled.length→atI s.bowled j 0≤999999900
end Go.Px
end
