/- Part 10. -/
import Derived.Test.YtdpnocjfbplgjaaGreatPart09
set_option linter.unusedVariables false
set_option linter.unusedSimpArgs false
section
namespace Go.Px
set_option maxRecDepth 100000
structure Lens (s t:Inn):Prop where
 bt:t.batters.length=s.batters.length
 bd:t.bowled.length=s.bowled.length
 sb:t.subs.length=s.subs.length
 bw:t.bowlers.length≤s.bowlers.length+1
 bf:t.before.length≤s.before.length+s.bowlers.length+1
theorem Lens.refl (s:Inn):Lens s s:=⟨rfl,rfl,rfl,by omega,by omega⟩
theorem P_c {α:Type} {P:α→Prop} (b:Bool) (x y:α) (hx:P x) (hy:P y):P (cond b x y):=by cases b<;>assumption
theorem Zs (s:Inn) (d:Del):Lens s (Ad s d):=by
 have hb:∀ (b:Bool),(cond b (L8 s.batters s.striker 2) s.batters).length=s.batters.length:=fun b=>by cases b<;>simp [KC]
 have hc:∀ (b:Bool),(cond b (L8 s.batters s.other 2) s.batters).length=s.batters.length:=fun b=>by cases b<;>simp [KC]
 unfold Ad
 cases (!(d.runs.tmod 2==0) != d.crossed)<;>refine P_c _ _ _ ⟨hb _,rfl,rfl,?_,?_⟩ (P_c _ _ _ ⟨hc _,rfl,rfl,?_,?_⟩ ⟨rfl,rfl,rfl,?_,?_⟩)<;>simp<;>omega
theorem Yk (r:Rul) (s:Inn) (c:Bool):Lens s (Ah r s c).1:=by
 have hl:(cond (Iz s.bowlers s.bowlers.length s.bowler) s.bowlers (s.bowlers++[[.int s.bowler]])).length≤s.bowlers.length+1:=by
  cases Iz s.bowlers s.bowlers.length s.bowler<;>simp
 have hd:(cond c (L8 s.bowled s.bowler (inc (atI s.bowled (ix s.bowler) 0))) s.bowled).length=s.bowled.length:=by cases c<;>simp [KC]
 unfold Ah
 refine P_c (P:=fun x:Inn×Bool=>Lens s x.1) _ _ _ (Lens.refl s) (P_c (P:=fun x:Inn×Bool=>Lens s x.1) _ _ _ ⟨rfl,hd,rfl,hl,by simp;omega⟩ ⟨rfl,hd,rfl,by simp,?_⟩)
 simp only
 omega
def Wm (a b c d:Int):Int:=cond (!(a==0)) a (cond (!(b==0)) b (cond (!(c==0)) c (cond (!(d==0)) d 0)))
def Fy (r:Rul) (s:Inn) (d:Del):Int :=
 cond (GJ s.batters s.striker s.other) 6 (cond (s.bowler==0) 7 (Wm (PH r s) (Dk d) (OB d s.freehit) (O4 s d)))
theorem U4 {N:Nat} {r1 r2 r3 r4 r5 r6 r7 r9 r10 r11 r12:Int} {r8:Bool} {r0:ByteArray} {r13:Rows} {s0 s1 s2 s3 s4 s5 s6 s7 s8 s9 s10 s11 s12 s13 s15 s21 s22 s23 s25 s26 s27:Int} {s18 s20:Bool} {s14 s16 s17 s19 s24:Rows} {d0 d1 d2 d3 d4 d6 d7 d8 d9 d11:Int} {d5 d10:Bool} (h:Fit s14 s16 s17 s19 s24) (hN:2097152<N) (h13:r13.length≤1048576):Dn N [.str r0,.int r1,.int r2,.int r3,.int r4,.int r5,.int r6,.int r7,.bool r8,.int r9,.int r10,.int r11,.int r12,.rows r13,.int s0,.int s1,.int s2,.int s3,.int s4,.int s5,.int s6,.int s7,.int s8,.int s9,.int s10,.int s11,.int s12,.int s13,.rows s14,.int s15,.rows s16,.rows s17,.bool s18,.rows s19,.bool s20,.int s21,.int s22,.int s23,.rows s24,.int s25,.int s26,.int s27,.int d0,.int d1,.int d2,.int d3,.int d4,.bool d5,.int d6,.int d7,.int d8,.int d9,.bool d10,.int d11]=some [.int (Fy (⟨r0,r1,r2,r3,r4,r5,r6,r7,r8,r9,r10,r11,r12,r13⟩:Rul) (⟨s0,s1,s2,s3,s4,s5,s6,s7,s8,s9,s10,s11,s12,s13,s14,s15,s16,s17,s18,s19,s20,s21,s22,s23,s24,s25,s26,s27⟩:Inn) (⟨d0,d1,d2,d3,d4,d5,d6,d7,d8,d9,d10,d11⟩:Del))]:=by
 show Fl (std (Bo N) N) (xOf _)=_
 generalize hres:(some [.int (Fy (⟨r0,r1,r2,r3,r4,r5,r6,r7,r8,r9,r10,r11,r12,r13⟩:Rul) (⟨s0,s1,s2,s3,s4,s5,s6,s7,s8,s9,s10,s11,s12,s13,s14,s15,s16,s17,s18,s19,s20,s21,s22,s23,s24,s25,s26,s27⟩:Inn) (⟨d0,d1,d2,d3,d4,d5,d6,d7,d8,d9,d10,d11⟩:Del))]:Option (List PV))=RR
 simp only [Fl,KB,Kc,Le,IK,Lj,std,xOf,PXb,Qb h.bt hN,ZC h hN h13,PW,R4 hN,ZW h]
 subst hres;simp only [Fy]
 cases GJ s14 s12 s13<;>try rfl
 cases s15==0<;>try rfl
 simp only [PXb]
 generalize PH (⟨r0,r1,r2,r3,r4,r5,r6,r7,r8,r9,r10,r11,r12,r13⟩:Rul) (⟨s0,s1,s2,s3,s4,s5,s6,s7,s8,s9,s10,s11,s12,s13,s14,s15,s16,s17,s18,s19,s20,s21,s22,s23,s24,s25,s26,s27⟩:Inn)=a
 generalize Dk (⟨d0,d1,d2,d3,d4,d5,d6,d7,d8,d9,d10,d11⟩:Del)=b
 generalize OB (⟨d0,d1,d2,d3,d4,d5,d6,d7,d8,d9,d10,d11⟩:Del) s20=c
 generalize O4 (⟨s0,s1,s2,s3,s4,s5,s6,s7,s8,s9,s10,s11,s12,s13,s14,s15,s16,s17,s18,s19,s20,s21,s22,s23,s24,s25,s26,s27⟩:Inn) (⟨d0,d1,d2,d3,d4,d5,d6,d7,d8,d9,d10,d11⟩:Del)=e
 refine Ae (Cm (len:=4) (fun i=>cond (!(atI [[.int a],[.int b],[.int c],[.int e]] i 0==0)) (some [.int (atI [[.int a],[.int b],[.int c],[.int e]] i 0)]) none) ?_ ?_ 4 0 N (by omega) (by omega)) ?_
 ·intro self
  rfl
 ·intro i self hi
  simp only [PXb,Ax (show i≤1099511627776 by omega),List.length_cons,List.length_nil,Nat.reduceAdd,BG hi,Al hi,Bv]
  cases atI [[.int a],[.int b],[.int c],[.int e]] i 0==0<;>rfl
 ·refine (Wo _).trans (congrArg (fun z=>some [PV.int z]) ?_)
  unfold Wm
  simp only [Bw]
  rw [show atI [[.int a],[.int b],[.int c],[.int e]] 0 0=a from rfl,show atI [[.int a],[.int b],[.int c],[.int e]] (0+1) 0=b from rfl,show atI [[.int a],[.int b],[.int c],[.int e]] (0+1+1) 0=c from rfl,show atI [[.int a],[.int b],[.int c],[.int e]] (0+1+1+1) 0=e from rfl]
  cases a==0<;>try rfl
  cases b==0<;>try rfl
  cases c==0<;>try rfl
  cases e==0<;>rfl
theorem O2 {s t:Inn} (l:Lens s t) (h:s.Fit) (hw:s.before.length+s.bowlers.length≤1048575):t.Fit:=⟨l.bt▸h.bt,by have:=l.bw;omega,by have:=l.bf;omega,l.bd▸h.bd,l.sb▸h.sb⟩
theorem f6 (s:Inn) (d:Del):(Ad s d).bowlers=s.bowlers:=by
 unfold Ad
 cases (!(d.runs.tmod 2==0) != d.crossed)<;>exact P_c (P:=fun x:Inn=>x.bowlers=s.bowlers) _ _ _ rfl (P_c (P:=fun x:Inn=>x.bowlers=s.bowlers) _ _ _ rfl rfl)
theorem gI (s:Inn) (d:Del):(Ad s d).before=s.before:=by
 unfold Ad
 cases (!(d.runs.tmod 2==0) != d.crossed)<;>exact P_c (P:=fun x:Inn=>x.before=s.before) _ _ _ rfl (P_c (P:=fun x:Inn=>x.before=s.before) _ _ _ rfl rfl)
@[reducible] def UG (t:Inn) (a b e f g:Int):Inn:=⟨t.side,t.target,t.overs,a,t.wickets,b,e,f,g,t.pens,t.complete,t.inover,t.striker,t.other,t.batters,t.bowler,t.bowlers,t.before,t.fresh,t.bowled,t.freehit,t.ballage,t.keeper,t.outside,t.subs,t.rev1,t.rev2,t.ending⟩
def Js (r:Rul) (s:Inn) (d:Del):Inn×Int :=
  cond (!(Fy r s d==0)) (s,Fy r s d)
    (let c:=AB r d
     let t:=Ad s d
     let o:=Ah r (UG t (IntKind.i64.wrap (t.runs+Cy c)) (IntKind.i64.wrap (t.wides+c.wides)) (IntKind.i64.wrap (t.noballs+c.noballs)) (IntKind.i64.wrap (t.byes+c.byes)) (IntKind.i64.wrap (t.legbyes+c.legbyes))) c.counts
     let t:Inn:=cond o.2 (HE o.1) o.1
     ({ t with freehit:=cond (d.type==1) false (cond (d.type==3&&r.freehit) true o.1.freehit) },0))
theorem Yh {N:Nat} {r1 r2 r3 r4 r5 r6 r7 r9 r10 r11 r12:Int} {r8:Bool} {r0:ByteArray} {r13:Rows} {s0 s1 s2 s3 s4 s5 s6 s7 s8 s9 s10 s11 s12 s13 s15 s21 s22 s23 s25 s26 s27:Int} {s18 s20:Bool} {s14 s16 s17 s19 s24:Rows} {d0 d1 d2 d3 d4 d6 d7 d8 d9 d11:Int} {d5 d10:Bool} (h:Fit s14 s16 s17 s19 s24) (hw:s17.length+s16.length≤1000000) (hN:2097152<N) (hs:r0.size≤1048576) (h13:r13.length≤1048576):GB N [.str r0,.int r1,.int r2,.int r3,.int r4,.int r5,.int r6,.int r7,.bool r8,.int r9,.int r10,.int r11,.int r12,.rows r13,.int s0,.int s1,.int s2,.int s3,.int s4,.int s5,.int s6,.int s7,.int s8,.int s9,.int s10,.int s11,.int s12,.int s13,.rows s14,.int s15,.rows s16,.rows s17,.bool s18,.rows s19,.bool s20,.int s21,.int s22,.int s23,.rows s24,.int s25,.int s26,.int s27,.int d0,.int d1,.int d2,.int d3,.int d4,.bool d5,.int d6,.int d7,.int d8,.int d9,.bool d10,.int d11]=some (A9 (Js (⟨r0,r1,r2,r3,r4,r5,r6,r7,r8,r9,r10,r11,r12,r13⟩:Rul) (⟨s0,s1,s2,s3,s4,s5,s6,s7,s8,s9,s10,s11,s12,s13,s14,s15,s16,s17,s18,s19,s20,s21,s22,s23,s24,s25,s26,s27⟩:Inn) (⟨d0,d1,d2,d3,d4,d5,d6,d7,d8,d9,d10,d11⟩:Del))):=by
 show Iv (std (BX N) N) (xOf _)=_
 generalize hres:(some (A9 (Js (⟨r0,r1,r2,r3,r4,r5,r6,r7,r8,r9,r10,r11,r12,r13⟩:Rul) (⟨s0,s1,s2,s3,s4,s5,s6,s7,s8,s9,s10,s11,s12,s13,s14,s15,s16,s17,s18,s19,s20,s21,s22,s23,s24,s25,s26,s27⟩:Inn) (⟨d0,d1,d2,d3,d4,d5,d6,d7,d8,d9,d10,d11⟩:Del))):Option (List PV))=RR
 have l1:=Zs (⟨s0,s1,s2,s3,s4,s5,s6,s7,s8,s9,s10,s11,s12,s13,s14,s15,s16,s17,s18,s19,s20,s21,s22,s23,s24,s25,s26,s27⟩:Inn) (⟨d0,d1,d2,d3,d4,d5,d6,d7,d8,d9,d10,d11⟩:Del)
 have f1:=O2 l1 h (by simp only;omega)
 have w1:(Ad (⟨s0,s1,s2,s3,s4,s5,s6,s7,s8,s9,s10,s11,s12,s13,s14,s15,s16,s17,s18,s19,s20,s21,s22,s23,s24,s25,s26,s27⟩:Inn) (⟨d0,d1,d2,d3,d4,d5,d6,d7,d8,d9,d10,d11⟩:Del)).bowlers.length=s16.length:=congrArg List.length (f6 _ _)
 have w2:(Ad (⟨s0,s1,s2,s3,s4,s5,s6,s7,s8,s9,s10,s11,s12,s13,s14,s15,s16,s17,s18,s19,s20,s21,s22,s23,s24,s25,s26,s27⟩:Inn) (⟨d0,d1,d2,d3,d4,d5,d6,d7,d8,d9,d10,d11⟩:Del)).before.length=s17.length:=congrArg List.length (gI _ _)
 have l2:=fun (x:Rul) (c:Bool) (a b e f g:Int)=>Yk x (UG (Ad (⟨s0,s1,s2,s3,s4,s5,s6,s7,s8,s9,s10,s11,s12,s13,s14,s15,s16,s17,s18,s19,s20,s21,s22,s23,s24,s25,s26,s27⟩:Inn) (⟨d0,d1,d2,d3,d4,d5,d6,d7,d8,d9,d10,d11⟩:Del)) a b e f g) c
 have f2:=fun (x:Rul) (c:Bool) (a b e f g:Int)=>O2 (l2 x c a b e f g) f1 (show (Ad (⟨s0,s1,s2,s3,s4,s5,s6,s7,s8,s9,s10,s11,s12,s13,s14,s15,s16,s17,s18,s19,s20,s21,s22,s23,s24,s25,s26,s27⟩:Inn) (⟨d0,d1,d2,d3,d4,d5,d6,d7,d8,d9,d10,d11⟩:Del)).before.length+(Ad (⟨s0,s1,s2,s3,s4,s5,s6,s7,s8,s9,s10,s11,s12,s13,s14,s15,s16,s17,s18,s19,s20,s21,s22,s23,s24,s25,s26,s27⟩:Inn) (⟨d0,d1,d2,d3,d4,d5,d6,d7,d8,d9,d10,d11⟩:Del)).bowlers.length≤1048575 by omega)
 simp only [Iv,Li,LA,MD,LB,ON,OE,L7,std,xOf,PXb,PXc,PXn,PXm,Nat.reduceAdd,Int.reduceBEq,U4 h hN h13,Bq h,N6,bT h,PA,Cre.ls,aS f1 (show (Ad (⟨s0,s1,s2,s3,s4,s5,s6,s7,s8,s9,s10,s11,s12,s13,s14,s15,s16,s17,s18,s19,s20,s21,s22,s23,s24,s25,s26,s27⟩:Inn) (⟨d0,d1,d2,d3,d4,d5,d6,d7,d8,d9,d10,d11⟩:Del)).bowlers.length≤1048575 by omega) hN hs,gN,W6 (f2 _ _ _ _ _ _ _)]
 subst hres;simp only [Js,UG]
 cases Fy (⟨r0,r1,r2,r3,r4,r5,r6,r7,r8,r9,r10,r11,r12,r13⟩:Rul) (⟨s0,s1,s2,s3,s4,s5,s6,s7,s8,s9,s10,s11,s12,s13,s14,s15,s16,s17,s18,s19,s20,s21,s22,s23,s24,s25,s26,s27⟩:Inn) (⟨d0,d1,d2,d3,d4,d5,d6,d7,d8,d9,d10,d11⟩:Del)==0 with
 | false=>rfl
 | true =>
  obtain ⟨o,ho⟩:∃ o,o=Ah (⟨r0,r1,r2,r3,r4,r5,r6,r7,r8,r9,r10,r11,r12,r13⟩:Rul) (UG (Ad (⟨s0,s1,s2,s3,s4,s5,s6,s7,s8,s9,s10,s11,s12,s13,s14,s15,s16,s17,s18,s19,s20,s21,s22,s23,s24,s25,s26,s27⟩:Inn) (⟨d0,d1,d2,d3,d4,d5,d6,d7,d8,d9,d10,d11⟩:Del)) (IntKind.i64.wrap ((Ad (⟨s0,s1,s2,s3,s4,s5,s6,s7,s8,s9,s10,s11,s12,s13,s14,s15,s16,s17,s18,s19,s20,s21,s22,s23,s24,s25,s26,s27⟩:Inn) (⟨d0,d1,d2,d3,d4,d5,d6,d7,d8,d9,d10,d11⟩:Del)).runs+Cy (AB (⟨r0,r1,r2,r3,r4,r5,r6,r7,r8,r9,r10,r11,r12,r13⟩:Rul) (⟨d0,d1,d2,d3,d4,d5,d6,d7,d8,d9,d10,d11⟩:Del)))) (IntKind.i64.wrap ((Ad (⟨s0,s1,s2,s3,s4,s5,s6,s7,s8,s9,s10,s11,s12,s13,s14,s15,s16,s17,s18,s19,s20,s21,s22,s23,s24,s25,s26,s27⟩:Inn) (⟨d0,d1,d2,d3,d4,d5,d6,d7,d8,d9,d10,d11⟩:Del)).wides+(AB (⟨r0,r1,r2,r3,r4,r5,r6,r7,r8,r9,r10,r11,r12,r13⟩:Rul) (⟨d0,d1,d2,d3,d4,d5,d6,d7,d8,d9,d10,d11⟩:Del)).wides)) (IntKind.i64.wrap ((Ad (⟨s0,s1,s2,s3,s4,s5,s6,s7,s8,s9,s10,s11,s12,s13,s14,s15,s16,s17,s18,s19,s20,s21,s22,s23,s24,s25,s26,s27⟩:Inn) (⟨d0,d1,d2,d3,d4,d5,d6,d7,d8,d9,d10,d11⟩:Del)).noballs+(AB (⟨r0,r1,r2,r3,r4,r5,r6,r7,r8,r9,r10,r11,r12,r13⟩:Rul) (⟨d0,d1,d2,d3,d4,d5,d6,d7,d8,d9,d10,d11⟩:Del)).noballs)) (IntKind.i64.wrap ((Ad (⟨s0,s1,s2,s3,s4,s5,s6,s7,s8,s9,s10,s11,s12,s13,s14,s15,s16,s17,s18,s19,s20,s21,s22,s23,s24,s25,s26,s27⟩:Inn) (⟨d0,d1,d2,d3,d4,d5,d6,d7,d8,d9,d10,d11⟩:Del)).byes+(AB (⟨r0,r1,r2,r3,r4,r5,r6,r7,r8,r9,r10,r11,r12,r13⟩:Rul) (⟨d0,d1,d2,d3,d4,d5,d6,d7,d8,d9,d10,d11⟩:Del)).byes)) (IntKind.i64.wrap ((Ad (⟨s0,s1,s2,s3,s4,s5,s6,s7,s8,s9,s10,s11,s12,s13,s14,s15,s16,s17,s18,s19,s20,s21,s22,s23,s24,s25,s26,s27⟩:Inn) (⟨d0,d1,d2,d3,d4,d5,d6,d7,d8,d9,d10,d11⟩:Del)).legbyes+(AB (⟨r0,r1,r2,r3,r4,r5,r6,r7,r8,r9,r10,r11,r12,r13⟩:Rul) (⟨d0,d1,d2,d3,d4,d5,d6,d7,d8,d9,d10,d11⟩:Del)).legbyes))) (AB (⟨r0,r1,r2,r3,r4,r5,r6,r7,r8,r9,r10,r11,r12,r13⟩:Rul) (⟨d0,d1,d2,d3,d4,d5,d6,d7,d8,d9,d10,d11⟩:Del)).counts:=⟨_,rfl⟩
  simp only [UG,Cy] at ho ⊢
  simp only [← ho]
  obtain ⟨o1,o2⟩:=o
  cases o2<;>cases d0==1<;>cases d0==3<;>cases r8<;>rfl
theorem aR (r:Rul) (s:Inn) (b:Bool) (a c d e f:Int):Ah r (UG s a c d e f) b=(UG (Ah r s b).1 a c d e f,(Ah r s b).2):=by
 unfold Ah UG
 simp only
 cases (!inR s.bowler s.bowled.length || !(A1 r==0)) with
 | true=>rfl
 | false =>
  simp only [cond_false]
  cases iLt (cond b (inc s.inover) s.inover) r.balls<;>rfl
def Ju (r:Rul) (s:Inn) (side:Int):Inn×Int:=cond (!(side==s.side)) (s,2) (cond (!(r.overs==0)) (s,20) ({ s with ending:=4 },0))
theorem U2 {N:Nat} {r1 r2 r3 r4 r5 r6 r7 r9 r10 r11 r12:Int} {r8:Bool} {r0:ByteArray} {r13:Rows} {s0 s1 s2 s3 s4 s5 s6 s7 s8 s9 s10 s11 s12 s13 s15 s21 s22 s23 s25 s26 s27:Int} {s18 s20:Bool} {s14 s16 s17 s19 s24:Rows} {e0 e1 e2 e3 e5 e6 e7 e8 e9 e10 e11 e13 e14 e15 e16 e18:Int} {e4 e12 e17:Bool} (h:Fit s14 s16 s17 s19 s24):Dq N [.str r0,.int r1,.int r2,.int r3,.int r4,.int r5,.int r6,.int r7,.bool r8,.int r9,.int r10,.int r11,.int r12,.rows r13,.int s0,.int s1,.int s2,.int s3,.int s4,.int s5,.int s6,.int s7,.int s8,.int s9,.int s10,.int s11,.int s12,.int s13,.rows s14,.int s15,.rows s16,.rows s17,.bool s18,.rows s19,.bool s20,.int s21,.int s22,.int s23,.rows s24,.int s25,.int s26,.int s27,.int e0,.int e1,.int e2,.int e3,.bool e4,.int e5,.int e6,.int e7,.int e8,.int e9,.int e10,.int e11,.bool e12,.int e13,.int e14,.int e15,.int e16,.bool e17,.int e18]=some (A9 (Ju (⟨r0,r1,r2,r3,r4,r5,r6,r7,r8,r9,r10,r11,r12,r13⟩:Rul) (⟨s0,s1,s2,s3,s4,s5,s6,s7,s8,s9,s10,s11,s12,s13,s14,s15,s16,s17,s18,s19,s20,s21,s22,s23,s24,s25,s26,s27⟩:Inn) e1)):=by
 show Ff (std (HM N) N) (xOf _)=_
 generalize hres:(some (A9 (Ju (⟨r0,r1,r2,r3,r4,r5,r6,r7,r8,r9,r10,r11,r12,r13⟩:Rul) (⟨s0,s1,s2,s3,s4,s5,s6,s7,s8,s9,s10,s11,s12,s13,s14,s15,s16,s17,s18,s19,s20,s21,s22,s23,s24,s25,s26,s27⟩:Inn) e1)):Option (List PV))=RR
 simp only [Ff,KY,std,xOf,PXb,PXc,PXn,PXm,Nat.reduceAdd,Int.reduceBEq,Bq h]
 subst hres;simp only [Ju]
 cases e1==s0<;>cases r3==0<;>rfl
def NX (s:Inn):Inn:={ s with runs:=IntKind.i64.wrap (s.runs+5),pens:=IntKind.i64.wrap (s.pens+5) }
theorem Ns {N:Nat} {s0 s1 s2 s3 s4 s5 s6 s7 s8 s9 s10 s11 s12 s13 s15 s21 s22 s23 s25 s26 s27:Int} {s18 s20:Bool} {s14 s16 s17 s19 s24:Rows} (h:Fit s14 s16 s17 s19 s24):Bm N [.int s0,.int s1,.int s2,.int s3,.int s4,.int s5,.int s6,.int s7,.int s8,.int s9,.int s10,.int s11,.int s12,.int s13,.rows s14,.int s15,.rows s16,.rows s17,.bool s18,.rows s19,.bool s20,.int s21,.int s22,.int s23,.rows s24,.int s25,.int s26,.int s27]=some (NX (⟨s0,s1,s2,s3,s4,s5,s6,s7,s8,s9,s10,s11,s12,s13,s14,s15,s16,s17,s18,s19,s20,s21,s22,s23,s24,s25,s26,s27⟩:Inn)).ls:=by
 show Fh (std (HT N) N) (xOf _)=_
 generalize hres:(some (NX (⟨s0,s1,s2,s3,s4,s5,s6,s7,s8,s9,s10,s11,s12,s13,s14,s15,s16,s17,s18,s19,s20,s21,s22,s23,s24,s25,s26,s27⟩:Inn)).ls:Option (List PV))=RR
 simp only [Fh,KX,std,xOf,PXb,PXc,PXn,PXm,Nat.reduceAdd,Int.reduceBEq,Bq h]
 subst hres;simp only [NX]
 rfl
def Ge (s:Inn) (side runs:Int):Inn×Int :=
 cond (!(runs==5)) (s,23) (cond (side==s.side) (NX s,0) ({ s with target:=cond (iLt 0 s.target) (IntKind.i64.wrap (s.target+5)) s.target },0))
theorem U6 {N:Nat} {s0 s1 s2 s3 s4 s5 s6 s7 s8 s9 s10 s11 s12 s13 s15 s21 s22 s23 s25 s26 s27:Int} {s18 s20:Bool} {s14 s16 s17 s19 s24:Rows} {e0 e1 e2 e3 e5 e6 e7 e8 e9 e10 e11 e13 e14 e15 e16 e18:Int} {e4 e12 e17:Bool} (h:Fit s14 s16 s17 s19 s24):Dg N [.int s0,.int s1,.int s2,.int s3,.int s4,.int s5,.int s6,.int s7,.int s8,.int s9,.int s10,.int s11,.int s12,.int s13,.rows s14,.int s15,.rows s16,.rows s17,.bool s18,.rows s19,.bool s20,.int s21,.int s22,.int s23,.rows s24,.int s25,.int s26,.int s27,.int e0,.int e1,.int e2,.int e3,.bool e4,.int e5,.int e6,.int e7,.int e8,.int e9,.int e10,.int e11,.bool e12,.int e13,.int e14,.int e15,.int e16,.bool e17,.int e18]=some (A9 (Ge (⟨s0,s1,s2,s3,s4,s5,s6,s7,s8,s9,s10,s11,s12,s13,s14,s15,s16,s17,s18,s19,s20,s21,s22,s23,s24,s25,s26,s27⟩:Inn) e1 e5)):=by
 show Fk (std (ES N) N) (xOf _)=_
 generalize hres:(some (A9 (Ge (⟨s0,s1,s2,s3,s4,s5,s6,s7,s8,s9,s10,s11,s12,s13,s14,s15,s16,s17,s18,s19,s20,s21,s22,s23,s24,s25,s26,s27⟩:Inn) e1 e5)):Option (List PV))=RR
 simp only [Fk,KW,I7,std,xOf,PXb,PXc,PXn,PXm,Nat.reduceAdd,Int.reduceBEq,Bq h,Ns h]
 subst hres;simp only [Ge]
 cases e5==5<;>cases e1==s0<;>cases iLt 0 s1<;>rfl
def KP (r:Rul) (s:Inn) (side:Int) (yes:Bool):Inn×Int :=
 cond (!s.fresh||iLe r.reviews (cond (side==2) s.rev2 s.rev1)) (s,24) (cond (!yes) ({ s with rev1:=cond (side==1) (inc s.rev1) s.rev1,rev2:=cond (side==2) (inc s.rev2) s.rev2 },0) (s,0))
theorem wr1:IntKind.i64.wrap (1 - 1)=0:=rfl
theorem wr2:IntKind.i64.wrap (2 - 1)=1:=rfl
theorem Zv:iIn 0 2=true:=rfl
theorem az:iIn 1 2=true:=rfl
theorem WH {N:Nat} {r1 r2 r3 r4 r5 r6 r7 r9 r10 r11 r12:Int} {r8:Bool} {r0:ByteArray} {r13:Rows} {s0 s1 s2 s3 s4 s5 s6 s7 s8 s9 s10 s11 s12 s13 s15 s21 s22 s23 s25 s26 s27:Int} {s18 s20:Bool} {s14 s16 s17 s19 s24:Rows} {e0 e1 e2 e3 e5 e6 e7 e8 e9 e10 e11 e13 e14 e15 e16 e18:Int} {e4 e12 e17:Bool} (h:Fit s14 s16 s17 s19 s24) (he:e1=1∨e1=2):EJ N [.str r0,.int r1,.int r2,.int r3,.int r4,.int r5,.int r6,.int r7,.bool r8,.int r9,.int r10,.int r11,.int r12,.rows r13,.int s0,.int s1,.int s2,.int s3,.int s4,.int s5,.int s6,.int s7,.int s8,.int s9,.int s10,.int s11,.int s12,.int s13,.rows s14,.int s15,.rows s16,.rows s17,.bool s18,.rows s19,.bool s20,.int s21,.int s22,.int s23,.rows s24,.int s25,.int s26,.int s27,.int e0,.int e1,.int e2,.int e3,.bool e4,.int e5,.int e6,.int e7,.int e8,.int e9,.int e10,.int e11,.bool e12,.int e13,.int e14,.int e15,.int e16,.bool e17,.int e18]=some (A9 (KP (⟨r0,r1,r2,r3,r4,r5,r6,r7,r8,r9,r10,r11,r12,r13⟩:Rul) (⟨s0,s1,s2,s3,s4,s5,s6,s7,s8,s9,s10,s11,s12,s13,s14,s15,s16,s17,s18,s19,s20,s21,s22,s23,s24,s25,s26,s27⟩:Inn) e1 e4)):=by
 show EN (std (H3 N) N) (xOf _)=_
 generalize hres:(some (A9 (KP (⟨r0,r1,r2,r3,r4,r5,r6,r7,r8,r9,r10,r11,r12,r13⟩:Rul) (⟨s0,s1,s2,s3,s4,s5,s6,s7,s8,s9,s10,s11,s12,s13,s14,s15,s16,s17,s18,s19,s20,s21,s22,s23,s24,s25,s26,s27⟩:Inn) e1 e4)):Option (List PV))=RR
 rcases he with he | he<;>subst he
 ·simp only [EN,E1,std,xOf,PXb,PXc,PXn,PXm,Nat.reduceAdd,Int.reduceBEq,Bq h,wr1,wr2,Zv,az]
  subst hres;simp only [KP,Int.reduceBEq,beq_self_eq_true,cond_true,cond_false]
  cases s18<;>cases e4<;>first | rfl | (cases iLe r11 s25<;>rfl)
 ·simp only [EN,E1,std,xOf,PXb,PXc,PXn,PXm,Nat.reduceAdd,Int.reduceBEq,Bq h,wr1,wr2,Zv,az]
  subst hres;simp only [KP,Int.reduceBEq,beq_self_eq_true,cond_true,cond_false]
  cases s18<;>cases e4<;>first | rfl | (cases iLe r11 s26<;>rfl)
theorem Xf {N:Nat} {r1 r2 r3 r4 r5 r6 r7 r9 r10 r11 r12:Int} {r8:Bool} {r0:ByteArray} {r13:Rows} {s0 s1 s2 s3 s4 s5 s6 s7 s8 s9 s10 s11 s12 s13 s15 s21 s22 s23 s25 s26 s27:Int} {s18 s20:Bool} {s14 s16 s17 s19 s24:Rows}  : E5 N [.str r0,.int r1,.int r2,.int r3,.int r4,.int r5,.int r6,.int r7,.bool r8,.int r9,.int r10,.int r11,.int r12,.rows r13,.int s0,.int s1,.int s2,.int s3,.int s4,.int s5,.int s6,.int s7,.int s8,.int s9,.int s10,.int s11,.int s12,.int s13,.rows s14,.int s15,.rows s16,.rows s17,.bool s18,.rows s19,.bool s20,.int s21,.int s22,.int s23,.rows s24,.int s25,.int s26,.int s27]=some [.int (CF r4 s10 s11)]:=by
 rfl
def MI (r:Rul) (s:Inn) (runs overs:Int):Inn×Int :=
  cond (r.overs==0||(runs==0&&overs==0)) (s,25) (cond (iLt 0 runs&&(s.target==0||iLe runs s.runs)) (s,25)
    (cond (iLt 0 overs&&(iLt r.overs overs||iLt (IntKind.i64.wrap (overs * r.balls)) (CF r.balls s.complete s.inover))) (s,25)
      ({ s with target:=cond (iLt 0 runs) runs s.target,overs:=cond (iLt 0 overs) overs s.overs },0)))
theorem WV {N:Nat} {r1 r2 r3 r4 r5 r6 r7 r9 r10 r11 r12:Int} {r8:Bool} {r0:ByteArray} {r13:Rows} {s0 s1 s2 s3 s4 s5 s6 s7 s8 s9 s10 s11 s12 s13 s15 s21 s22 s23 s25 s26 s27:Int} {s18 s20:Bool} {s14 s16 s17 s19 s24:Rows} {e0 e1 e2 e3 e5 e6 e7 e8 e9 e10 e11 e13 e14 e15 e16 e18:Int} {e4 e12 e17:Bool} (h:Fit s14 s16 s17 s19 s24):EE N [.str r0,.int r1,.int r2,.int r3,.int r4,.int r5,.int r6,.int r7,.bool r8,.int r9,.int r10,.int r11,.int r12,.rows r13,.int s0,.int s1,.int s2,.int s3,.int s4,.int s5,.int s6,.int s7,.int s8,.int s9,.int s10,.int s11,.int s12,.int s13,.rows s14,.int s15,.rows s16,.rows s17,.bool s18,.rows s19,.bool s20,.int s21,.int s22,.int s23,.rows s24,.int s25,.int s26,.int s27,.int e0,.int e1,.int e2,.int e3,.bool e4,.int e5,.int e6,.int e7,.int e8,.int e9,.int e10,.int e11,.bool e12,.int e13,.int e14,.int e15,.int e16,.bool e17,.int e18]=some (A9 (MI (⟨r0,r1,r2,r3,r4,r5,r6,r7,r8,r9,r10,r11,r12,r13⟩:Rul) (⟨s0,s1,s2,s3,s4,s5,s6,s7,s8,s9,s10,s11,s12,s13,s14,s15,s16,s17,s18,s19,s20,s21,s22,s23,s24,s25,s26,s27⟩:Inn) e5 e6)):=by
 show Gb (std (FO N) N) (xOf _)=_
 generalize hres:(some (A9 (MI (⟨r0,r1,r2,r3,r4,r5,r6,r7,r8,r9,r10,r11,r12,r13⟩:Rul) (⟨s0,s1,s2,s3,s4,s5,s6,s7,s8,s9,s10,s11,s12,s13,s14,s15,s16,s17,s18,s19,s20,s21,s22,s23,s24,s25,s26,s27⟩:Inn) e5 e6)):Option (List PV))=RR
 simp only [Gb,Kk,K0,std,xOf,PXb,PXc,PXn,PXm,Nat.reduceAdd,Int.reduceBEq,Bq h,Xf]
 subst hres;simp only [MI]
 cases (r3==0||e5==0&&e6==0)<;>try rfl
 cases (iLt 0 e5&&(s1==0||iLe e5 s3))<;>try rfl
 cases iLt 0 e6<;>cases iLt r3 e6<;>try rfl
 simp only [PXb,PXc,PXn,PXm,Nat.reduceAdd,Int.reduceBEq]
 cases iLt (IntKind.i64.wrap (e6 * r4)) (CF r4 s10 s11)<;>rfl
end Go.Px
end
section
namespace Go.Px
set_option maxRecDepth 100000
def BZ (r:Rul) (s:Inn) (e:Ev):Inn×Int :=
  cond (e.kind==2) (SR s e.player e.other) (cond (e.kind==3) (SN r s e.player) (cond (e.kind==4) (Js r s e.ball)
    (cond (e.kind==5) (cond e.yes (Gj s e.player) (M1 s e.player)) (cond (e.kind==6) (IP s e.player e.yes) (cond (e.kind==7) (KA s e.runs)
      (cond (e.kind==8) (MM s e.player) (cond (e.kind==9) (Om s e.player e.yes) (cond (e.kind==10) (Jz r s) (cond (e.kind==11) (Ju r s e.side)
        (cond (e.kind==13) (Ge s e.side e.runs) (cond (e.kind==14) (KP r s e.side e.yes) (MI r s e.runs e.overs))))))))))))
theorem YM {e:Ev} (h:(evS e==0)=true):(iLt e.kind 1||iLt 16 e.kind)=false:=by
 unfold evS at h
 cases hk:(iLt e.kind 1||iLt 16 e.kind) with
 | false=>rfl
 | true=>rw [hk] at h;cases h
theorem iv {e:Ev} (h:(evS e==0)=true) (hk:e.kind=14):e.side=1∨e.side=2:=by
 have h0:=YM h
 unfold evS at h
 rw [h0] at h
 cases h1:bO e with
 | true=>rw [h1] at h;cases h
 | false =>
  cases h2:WE e with
  | true=>rw [h1,h2] at h;cases h
  | false =>
   unfold WE at h2
   rw [Bool.or_eq_false_iff] at h2
   have h3:=h2.1
   rw [hk,show uS 14=true from rfl,Bool.and_true] at h3
   simp only [btw,iLe,Bool.not_eq_false',Bool.and_eq_true,decide_eq_true_eq] at h3
   omega
set_option maxHeartbeats 4000000 in
theorem U1 {N:Nat} {r1 r2 r3 r4 r5 r6 r7 r9 r10 r11 r12:Int} {r8:Bool} {r0:ByteArray} {r13:Rows} {s0 s1 s2 s3 s4 s5 s6 s7 s8 s9 s10 s11 s12 s13 s15 s21 s22 s23 s25 s26 s27:Int} {s18 s20:Bool} {s14 s16 s17 s19 s24:Rows} {e0 e1 e2 e3 e5 e6 e7 e8 e9 e10 e11 e13 e14 e15 e16 e18:Int} {e4 e12 e17:Bool} (h:Fit s14 s16 s17 s19 s24) (hw:s17.length+s16.length≤1000000) (hN:2097152<N) (hs:r0.size≤1048576) (h13:r13.length≤1048576) (he:(evS (⟨e0,e1,e2,e3,e4,e5,e6,⟨e7,e8,e9,e10,e11,e12,e13,e14,e15,e16,e17,e18⟩⟩:Ev)==0)=true):Dj N [.str r0,.int r1,.int r2,.int r3,.int r4,.int r5,.int r6,.int r7,.bool r8,.int r9,.int r10,.int r11,.int r12,.rows r13,.int s0,.int s1,.int s2,.int s3,.int s4,.int s5,.int s6,.int s7,.int s8,.int s9,.int s10,.int s11,.int s12,.int s13,.rows s14,.int s15,.rows s16,.rows s17,.bool s18,.rows s19,.bool s20,.int s21,.int s22,.int s23,.rows s24,.int s25,.int s26,.int s27,.int e0,.int e1,.int e2,.int e3,.bool e4,.int e5,.int e6,.int e7,.int e8,.int e9,.int e10,.int e11,.bool e12,.int e13,.int e14,.int e15,.int e16,.bool e17,.int e18]=some (A9 (BZ (⟨r0,r1,r2,r3,r4,r5,r6,r7,r8,r9,r10,r11,r12,r13⟩:Rul) (⟨s0,s1,s2,s3,s4,s5,s6,s7,s8,s9,s10,s11,s12,s13,s14,s15,s16,s17,s18,s19,s20,s21,s22,s23,s24,s25,s26,s27⟩:Inn) (⟨e0,e1,e2,e3,e4,e5,e6,⟨e7,e8,e9,e10,e11,e12,e13,e14,e15,e16,e17,e18⟩⟩:Ev))):=by
  show Dm (std (Aa N) N) (xOf _)=_
  generalize hres:(some (A9 (BZ (⟨r0,r1,r2,r3,r4,r5,r6,r7,r8,r9,r10,r11,r12,r13⟩:Rul) (⟨s0,s1,s2,s3,s4,s5,s6,s7,s8,s9,s10,s11,s12,s13,s14,s15,s16,s17,s18,s19,s20,s21,s22,s23,s24,s25,s26,s27⟩:Inn) (⟨e0,e1,e2,e3,e4,e5,e6,⟨e7,e8,e9,e10,e11,e12,e13,e14,e15,e16,e17,e18⟩⟩:Ev))):Option (List PV))=RR
  have hsd:e0=14→e1=1∨e1=2:=iv (e:=(⟨e0,e1,e2,e3,e4,e5,e6,⟨e7,e8,e9,e10,e11,e12,e13,e14,e15,e16,e17,e18⟩⟩:Ev)) he
  rcases YB (YM he) with hk | hk | hk | hk | hk | hk | hk | hk | hk | hk | hk | hk | hk | hk | hk | hk<;>simp only at hk<;>subst hk<;>clear he
  all_goals (first
    | (have hsd := hsd rfl
       simp only [Dm,FZ,Ft,FJ,EG,FE,Eb,EZ,FF,Dp,Ec,D0,Dz,EK,EH,std,xOf,PXb,PXc,PXn,PXm,Nat.reduceAdd,Int.reduceBEq,WH h hsd]
       subst hres
       rfl)
    | (simp only [Dm, FZ, Ft, FJ, EG, FE, Eb, EZ, FF, Dp, Ec, D0, Dz, EK, EH, std, xOf, PXb, PXc, PXn, PXm, Nat.reduceAdd, Int.reduceBEq, ZN h hN, bu h hN hs, Yh h hw hN hs h13, WJ h hN, Yf h hN, Wd h hN, XJ h, YI h, UD h, W7 h hN hs, U2 h, U6 h, WV h]
       subst hres
       first
       | rfl
       | (cases e4<;>rfl)))
end Go.Px
end
section
namespace Go.Px
set_option maxRecDepth 100000
theorem Lens.of {s t:Inn} (h1:t.batters.length=s.batters.length) (h2:t.bowled.length=s.bowled.length) (h3:t.subs.length=s.subs.length) (h4:t.bowlers=s.bowlers) (h5:t.before=s.before):Lens s t:=⟨h1,h2,h3,by rw [h4];omega,by rw [h5];omega⟩
theorem L_c {s:Inn} (b:Bool) (x y:Inn×Int) (hx:Lens s x.1) (hy:Lens s y.1):Lens s (cond b x y).1:=by cases b<;>assumption
theorem fq (s:Inn) (p q:Int):Lens s (SR s p q).1:=by
 unfold SR
 exact L_c _ _ _ (Lens.refl s) (L_c _ _ _ (Lens.refl s) (L_c _ _ _ (Lens.refl s) (Lens.of (by simp [KC]) rfl rfl rfl rfl)))
theorem fk (r:Rul) (s:Inn) (p:Int):Lens s (SN r s p).1:=by
 unfold SN
 exact P_c (P:=fun x:Inn=>Lens s x) _ _ _ (Lens.of rfl rfl rfl rfl rfl) (Lens.refl s)
theorem gE (r:Rul) (s:Inn) (d:Del):Lens s (Js r s d).1:=by
 unfold Js
 refine L_c _ _ _ (Lens.refl s) ?_
 have l1:=Zs s d
 have w1:=f6 s d
 have w2:=gI s d
 simp only [aR]
 have l2:=Yk r (Ad s d) (AB r d).counts
 cases (Ah r (Ad s d) (AB r d).counts).2
 ·exact ⟨l2.bt.trans l1.bt,l2.bd.trans l1.bd,l2.sb.trans l1.sb,by have:=l2.bw;rw [w1] at this;exact this,by have:=l2.bf;rw [w1,w2] at this;exact this⟩
 ·exact ⟨l2.bt.trans l1.bt,l2.bd.trans l1.bd,l2.sb.trans l1.sb,by have:=l2.bw;rw [w1] at this;exact this,by have:=l2.bf;rw [w1,w2] at this;exact this⟩
theorem Zo (s:Inn) (p:Int):Lens s (Gj s p).1:=by
 unfold Gj
 exact L_c _ _ _ (Lens.of (by simp [KC]) rfl rfl rfl rfl) (Lens.refl s)
theorem dg (s:Inn) (p:Int):Lens s (M1 s p).1:=by
 unfold M1
 exact L_c _ _ _ (Lens.of (by simp [KC]) rfl rfl rfl rfl) (Lens.refl s)
theorem cM (s:Inn) (p:Int) (b:Bool):Lens s (IP s p b).1:=by
 unfold IP
 exact L_c _ _ _ (Lens.refl s) (L_c _ _ _ (Lens.refl s) (L_c _ _ _ (Lens.refl s) (L_c _ _ _ (Lens.refl s) (Lens.of (by simp [KC]) rfl rfl rfl rfl))))
theorem aY (s:Inn) (n:Int):Lens s (KA s n).1:=by
 unfold KA
 exact L_c _ _ _ (Lens.refl s) (Lens.of rfl rfl rfl rfl rfl)
theorem cV (s:Inn) (n:Int):Lens s (MM s n).1:=by
 unfold MM
 exact L_c _ _ _ (Lens.refl s) (L_c _ _ _ (Lens.refl s) (L_c _ _ _ (Lens.refl s) (Lens.of rfl rfl rfl rfl rfl)))
theorem eS (s:Inn) (n:Int) (b:Bool):Lens s (Om s n b).1:=by
 unfold Om
 exact L_c _ _ _ (Lens.refl s) (L_c _ _ _ (Lens.refl s) (Lens.of rfl rfl (by simp [gy]) rfl rfl))
theorem bU (r:Rul) (s:Inn):Lens s (Jz r s).1:=by
 unfold Jz
 exact L_c _ _ _ (Lens.refl s) (Lens.of rfl rfl rfl rfl rfl)
theorem bV (r:Rul) (s:Inn) (n:Int):Lens s (Ju r s n).1:=by
 unfold Ju
 exact L_c _ _ _ (Lens.refl s) (L_c _ _ _ (Lens.refl s) (Lens.of rfl rfl rfl rfl rfl))
theorem bN (s:Inn) (n m:Int):Lens s (Ge s n m).1:=by
 unfold Ge
 exact L_c _ _ _ (Lens.refl s) (L_c _ _ _ (Lens.of rfl rfl rfl rfl rfl) (Lens.of rfl rfl rfl rfl rfl))
theorem cU (r:Rul) (s:Inn) (n:Int) (b:Bool):Lens s (KP r s n b).1:=by
 unfold KP
 exact L_c _ _ _ (Lens.refl s) (L_c _ _ _ (Lens.of rfl rfl rfl rfl rfl) (Lens.refl s))
theorem cz (r:Rul) (s:Inn) (n m:Int):Lens s (MI r s n m).1:=by
 unfold MI
 exact L_c _ _ _ (Lens.refl s) (L_c _ _ _ (Lens.refl s) (L_c _ _ _ (Lens.refl s) (Lens.of rfl rfl rfl rfl rfl)))
theorem Tj (r:Rul) (s:Inn) (e:Ev):Lens s (BZ r s e).1:=by
  unfold BZ
  exact L_c _ _ _ (fq ..) (L_c _ _ _ (fk ..) (L_c _ _ _ (gE ..) (L_c _ _ _ (L_c _ _ _ (Zo ..) (dg ..)) (L_c _ _ _ (cM ..) (L_c _ _ _ (aY ..)
    (L_c _ _ _ (cV ..) (L_c _ _ _ (eS ..) (L_c _ _ _ (bU ..) (L_c _ _ _ (bV ..) (L_c _ _ _ (bN ..) (L_c _ _ _ (cU ..) (cz ..))))))))))))
def Fu (r:Rul) (s:Inn):Bool:=Ri r.name r.side r.innings r.overs r.balls r.quota r.wide r.noball r.newball r.followon r.reviews r.outside r.power s.batters s.bowlers s.before s.bowled s.subs s.side s.target s.overs s.runs s.wickets s.wides s.noballs s.byes s.legbyes s.pens s.complete s.inover s.striker s.other s.bowler s.ballage s.keeper s.outside s.rev1 s.rev2 s.ending
def jt (r:Rul) (s:Inn):Int:=hZ (Fu r s) s.batters s.striker s.other s.target s.overs s.runs s.complete
theorem Pp {N:Nat} {r1 r2 r3 r4 r5 r6 r7 r9 r10 r11 r12:Int} {r8:Bool} {r0:ByteArray} {r13:Rows} {s0 s1 s2 s3 s4 s5 s6 s7 s8 s9 s10 s11 s12 s13 s15 s21 s22 s23 s25 s26 s27:Int} {s18 s20:Bool} {s14 s16 s17 s19 s24:Rows} (h:Fit s14 s16 s17 s19 s24) (hN:2097152<N) (hs:r0.size≤1048576):A8 N [.str r0,.int r1,.int r2,.int r3,.int r4,.int r5,.int r6,.int r7,.bool r8,.int r9,.int r10,.int r11,.int r12,.rows r13,.int s0,.int s1,.int s2,.int s3,.int s4,.int s5,.int s6,.int s7,.int s8,.int s9,.int s10,.int s11,.int s12,.int s13,.rows s14,.int s15,.rows s16,.rows s17,.bool s18,.rows s19,.bool s20,.int s21,.int s22,.int s23,.rows s24,.int s25,.int s26,.int s27]=some [.bool (Fu (⟨r0,r1,r2,r3,r4,r5,r6,r7,r8,r9,r10,r11,r12,r13⟩:Rul) (⟨s0,s1,s2,s3,s4,s5,s6,s7,s8,s9,s10,s11,s12,s13,s14,s15,s16,s17,s18,s19,s20,s21,s22,s23,s24,s25,s26,s27⟩:Inn))]:=by
 exact PY N _ _ _ _ _ _ _ _ _ _ _ _ _ _ _ _ _ _ _ _ _ _ _ _ _ _ _ _ _ _ _ _ _ _ _ _ _ _ _ _ _ _ hN hs h.bt h.bw h.bf h.bd
theorem V2 {N:Nat} {r1 r2 r3 r4 r5 r6 r7 r9 r10 r11 r12:Int} {r8:Bool} {r0:ByteArray} {r13:Rows} {s0 s1 s2 s3 s4 s5 s6 s7 s8 s9 s10 s11 s12 s13 s15 s21 s22 s23 s25 s26 s27:Int} {s18 s20:Bool} {s14 s16 s17 s19 s24:Rows} (h:Fit s14 s16 s17 s19 s24) (hN:2097152<N) (hs:r0.size≤1048576):C3 N [.str r0,.int r1,.int r2,.int r3,.int r4,.int r5,.int r6,.int r7,.bool r8,.int r9,.int r10,.int r11,.int r12,.rows r13,.int s0,.int s1,.int s2,.int s3,.int s4,.int s5,.int s6,.int s7,.int s8,.int s9,.int s10,.int s11,.int s12,.int s13,.rows s14,.int s15,.rows s16,.rows s17,.bool s18,.rows s19,.bool s20,.int s21,.int s22,.int s23,.rows s24,.int s25,.int s26,.int s27]=some [.int (jt (⟨r0,r1,r2,r3,r4,r5,r6,r7,r8,r9,r10,r11,r12,r13⟩:Rul) (⟨s0,s1,s2,s3,s4,s5,s6,s7,s8,s9,s10,s11,s12,s13,s14,s15,s16,s17,s18,s19,s20,s21,s22,s23,s24,s25,s26,s27⟩:Inn))]:=by
 exact Uz N _ _ _ _ _ _ _ _ _ _ _ _ _ _ _ _ _ _ _ _ _ _ _ _ _ _ _ _ _ _ _ _ _ _ _ _ _ _ _ _ _ _ hN hs h.bt h.bw h.bf h.bd
def bA (t:Inn) (b:Bool):Inn:=⟨t.side,t.target,t.overs,t.runs,t.wickets,t.wides,t.noballs,t.byes,t.legbyes,t.pens,t.complete,t.inover,t.striker,t.other,t.batters,t.bowler,t.bowlers,t.before,b,t.bowled,t.freehit,t.ballage,t.keeper,t.outside,t.subs,t.rev1,t.rev2,t.ending⟩
def BW (r:Rul) (t:Inn) (b:Bool):Inn:={ bA t b with ending:=cond (t.ending==0) (jt r (bA t b)) t.ending }
def Uk (s:Inn) (e:Ev):Bool:=e.kind==1||e.kind==12||e.kind==16||(!CU s.batters && !(e.kind==2))
def Ak (r:Rul) (s:Inn) (e:Ev):Inn×Int :=
  cond (!Fu r s || !(evS e==0)) (s,1) (cond (!(s.ending==0)) (s,26) (cond (Uk s e) (s,1)
    (cond (!((BZ r s e).2==0)) (s,(BZ r s e).2) (BW r (BZ r s e).1 (e.kind==4),0))))
set_option maxHeartbeats 4000000 in
theorem L0 {N:Nat} {r1 r2 r3 r4 r5 r6 r7 r9 r10 r11 r12:Int} {r8:Bool} {r0:ByteArray} {r13:Rows} {s0 s1 s2 s3 s4 s5 s6 s7 s8 s9 s10 s11 s12 s13 s15 s21 s22 s23 s25 s26 s27:Int} {s18 s20:Bool} {s14 s16 s17 s19 s24:Rows} {e0 e1 e2 e3 e5 e6 e7 e8 e9 e10 e11 e13 e14 e15 e16 e18:Int} {e4 e12 e17:Bool} (h:Fit s14 s16 s17 s19 s24) (hw:s17.length+s16.length≤1000000) (hN:2097152<N) (hs:r0.size≤1048576) (h13:r13.length≤1048576):F1 N [.str r0,.int r1,.int r2,.int r3,.int r4,.int r5,.int r6,.int r7,.bool r8,.int r9,.int r10,.int r11,.int r12,.rows r13,.int s0,.int s1,.int s2,.int s3,.int s4,.int s5,.int s6,.int s7,.int s8,.int s9,.int s10,.int s11,.int s12,.int s13,.rows s14,.int s15,.rows s16,.rows s17,.bool s18,.rows s19,.bool s20,.int s21,.int s22,.int s23,.rows s24,.int s25,.int s26,.int s27,.int e0,.int e1,.int e2,.int e3,.bool e4,.int e5,.int e6,.int e7,.int e8,.int e9,.int e10,.int e11,.bool e12,.int e13,.int e14,.int e15,.int e16,.bool e17,.int e18]=some (A9 (Ak (⟨r0,r1,r2,r3,r4,r5,r6,r7,r8,r9,r10,r11,r12,r13⟩:Rul) (⟨s0,s1,s2,s3,s4,s5,s6,s7,s8,s9,s10,s11,s12,s13,s14,s15,s16,s17,s18,s19,s20,s21,s22,s23,s24,s25,s26,s27⟩:Inn) (⟨e0,e1,e2,e3,e4,e5,e6,⟨e7,e8,e9,e10,e11,e12,e13,e14,e15,e16,e17,e18⟩⟩:Ev))):=by
 show Ir (std (B1 N) N) (xOf _)=_
 generalize hres:(some (A9 (Ak (⟨r0,r1,r2,r3,r4,r5,r6,r7,r8,r9,r10,r11,r12,r13⟩:Rul) (⟨s0,s1,s2,s3,s4,s5,s6,s7,s8,s9,s10,s11,s12,s13,s14,s15,s16,s17,s18,s19,s20,s21,s22,s23,s24,s25,s26,s27⟩:Inn) (⟨e0,e1,e2,e3,e4,e5,e6,⟨e7,e8,e9,e10,e11,e12,e13,e14,e15,e16,e17,e18⟩⟩:Ev))):Option (List PV))=RR
 have l1:=Tj (⟨r0,r1,r2,r3,r4,r5,r6,r7,r8,r9,r10,r11,r12,r13⟩:Rul) (⟨s0,s1,s2,s3,s4,s5,s6,s7,s8,s9,s10,s11,s12,s13,s14,s15,s16,s17,s18,s19,s20,s21,s22,s23,s24,s25,s26,s27⟩:Inn) (⟨e0,e1,e2,e3,e4,e5,e6,⟨e7,e8,e9,e10,e11,e12,e13,e14,e15,e16,e17,e18⟩⟩:Ev)
 have f1:=O2 l1 h (by simp only;omega)
 simp only [Ir,NM,MN,L6,Lz,FB,Fa,std,xOf,PXb,Pp h hN hs,Sw hN,Bq h,Xh h.bt hN]
 subst hres;simp only [Ak,Uk]
 cases Fu (⟨r0,r1,r2,r3,r4,r5,r6,r7,r8,r9,r10,r11,r12,r13⟩:Rul) (⟨s0,s1,s2,s3,s4,s5,s6,s7,s8,s9,s10,s11,s12,s13,s14,s15,s16,s17,s18,s19,s20,s21,s22,s23,s24,s25,s26,s27⟩:Inn)
 ·rfl
 cases he:evS (⟨e0,e1,e2,e3,e4,e5,e6,⟨e7,e8,e9,e10,e11,e12,e13,e14,e15,e16,e17,e18⟩⟩:Ev)==0
 ·simp only [PXb,PXc,PXn,PXm,Nat.reduceAdd,Int.reduceBEq,he]
 simp only [PXb,PXc,PXn,PXm,Nat.reduceAdd,Int.reduceBEq,he]
 cases s27==0<;>try rfl
 cases (e0==1||e0==12||e0==16)<;>cases CU s14<;>cases e0==2<;>try rfl
 all_goals (simp only [PXb,PXc,PXn,PXm,Nat.reduceAdd,Int.reduceBEq,FB,Fa,U1 h hw hN hs h13 he,V2 f1 hN hs])
 all_goals (unfold BW bA;cases (BZ (⟨r0,r1,r2,r3,r4,r5,r6,r7,r8,r9,r10,r11,r12,r13⟩:Rul) (⟨s0,s1,s2,s3,s4,s5,s6,s7,s8,s9,s10,s11,s12,s13,s14,s15,s16,s17,s18,s19,s20,s21,s22,s23,s24,s25,s26,s27⟩:Inn) (⟨e0,e1,e2,e3,e4,e5,e6,⟨e7,e8,e9,e10,e11,e12,e13,e14,e15,e16,e17,e18⟩⟩:Ev)).2==0<;>cases (BZ (⟨r0,r1,r2,r3,r4,r5,r6,r7,r8,r9,r10,r11,r12,r13⟩:Rul) (⟨s0,s1,s2,s3,s4,s5,s6,s7,s8,s9,s10,s11,s12,s13,s14,s15,s16,s17,s18,s19,s20,s21,s22,s23,s24,s25,s26,s27⟩:Inn) (⟨e0,e1,e2,e3,e4,e5,e6,⟨e7,e8,e9,e10,e11,e12,e13,e14,e15,e16,e17,e18⟩⟩:Ev)).1.ending==0<;>rfl)
end Go.Px
end
section
namespace Go.Px
set_option maxRecDepth 100000
def eqL (L M:Rows):Bool:=((L.length:Int)==(M.length:Int)) && !BI (fun i => !(atI L i 0==atI M i 0)) L.length 0
theorem gn (L:Rows):eqL L L=true:=by
 unfold eqL
 rw [beq_self_eq_true,Eu.2 (fun j _ _=>by rw [beq_self_eq_true];rfl)]
 rfl
theorem jS {i len:Nat} {m:Nat} (h:((len:Int)==(m:Int))=true) (hi:i<len):iIn (i:Int) (m:Int)=true:=by
 have:=beq_iff_eq.1 h
 exact Al (by omega)
theorem ck {s t:Inn} (r:Rul) (b:Bool) (h:Lens s t):Lens s (BW r t b):=⟨h.bt,h.bd,h.sb,h.bw,h.bf⟩
theorem QW (r:Rul) (s:Inn) (e:Ev):Lens s (Ak r s e).1:=by
 unfold Ak
 exact L_c _ _ _ (Lens.refl s) (L_c _ _ _ (Lens.refl s) (L_c _ _ _ (Lens.refl s) (L_c _ _ _ (Lens.refl s) (ck r _ (Tj r s e)))))
end Go.Px
end
section
namespace Go.Px
set_option maxRecDepth 100000
theorem RG {r : Rul} {s : Inn} {e : Ev} (h : ((Ak r s e).2 == 0) = true) :
    Fu r s=true∧(evS e==0)=true∧(s.ending==0)=true∧Uk s e=false∧((BZ r s e).2==0)=true∧(Ak r s e).1=BW r (BZ r s e).1 (e.kind==4):=by
  unfold Ak at h ⊢
  cases hv:Fu r s with
  | false=>rw [hv] at h;cases h
  | true =>
    cases he:evS e==0 with
    | false=>rw [hv,he] at h;cases h
    | true =>
      cases hn:s.ending==0 with
      | false=>rw [hv,he,hn] at h;cases h
      | true =>
        cases hw:Uk s e with
        | true=>rw [hv,he,hn,hw] at h;cases h
        | false =>
          cases hp:(BZ r s e).2==0 with
          | false=>rw [hv,he,hn,hw,hp] at h;exact absurd (hp▸h) (by decide)
          | true=>exact ⟨rfl,rfl,rfl,rfl,rfl,rfl⟩
end Go.Px
end
section
namespace Go.Px
set_option maxRecDepth 100000
theorem Q5 {x a b:Int}:btw x a b=true↔a≤x∧x≤b:=by simp [btw,iLe]
structure RulOk (r:Rul):Prop where
 side:2≤r.side∧r.side≤11
 innings:1≤r.innings∧r.innings≤2
 overs:0≤r.overs∧r.overs≤90
 balls:4≤r.balls∧r.balls≤8
 quota:0≤r.quota∧r.quota≤90
 wide:1≤r.wide∧r.wide≤5
 noball:1≤r.noball∧r.noball≤5
 newball:0≤r.newball∧r.newball≤200
 followon:0≤r.followon∧r.followon≤1000
 reviews:0≤r.reviews∧r.reviews≤9
 outside:0≤r.outside∧r.outside≤11
theorem Eh {r:Rul} (h:A1 r=0):RulOk r:=by
 unfold A1 KK at h
 cases hn:TW r.name with
 | false=>rw [hn] at h;cases h
 | true =>
  cases hr:L5 r.side r.innings r.overs r.balls r.quota r.wide r.noball r.newball r.followon r.reviews r.outside with
  | false=>rw [hn,hr] at h;cases h
  | true =>
   unfold L5 at hr
   simp only [Bool.and_eq_true,Q5] at hr
   obtain ⟨⟨⟨⟨⟨⟨⟨⟨⟨⟨h1,h2⟩,h3⟩,h4⟩,h5⟩,h6⟩,h7⟩,h8⟩,h9⟩,h10⟩,h11⟩:=hr
   exact ⟨h1,h2,h3,h4,h5,h6,h7,h8,h9,h10,h11⟩
def BQ (x:Int):Prop:=0≤x∧x≤1000000000
structure InnOk (r:Rul) (s:Inn):Prop where
 code:A1 r=0
 side:1≤s.side∧s.side≤2
 lb:(s.batters.length:Int)=r.side
 ld:(s.bowled.length:Int)=r.side
 lz:(s.subs.length:Int)=r.side
 ending:s.ending≤5
 st:0≤s.striker∧s.striker≤r.side
 ot:0≤s.other∧s.other≤r.side
 bat:Uc s.batters s.striker s.other s.wickets=true
 bow:0≤s.bowler∧s.bowler≤r.side
 kee:0≤s.keeper∧s.keeper≤r.side
 dw:JH s.bowlers r.side=true
 df:JH s.before r.side=true
 ov:X3 r.overs s.overs=true
 io:0≤s.inover∧s.inover≤r.balls - 1
 target:BQ s.target
 runs:BQ s.runs
 wides:BQ s.wides
 noballs:BQ s.noballs
 byes:BQ s.byes
 legbyes:BQ s.legbyes
 pens:BQ s.pens
 complete:BQ s.complete
 ballage:BQ s.ballage
 outside:BQ s.outside
 rev1:BQ s.rev1
 rev2:BQ s.rev2
 bowled:I6 H7 s.bowled=false
theorem jU {x:Int}:H7 x=false↔BQ x:=by
 unfold H7 BQ
 rw [Bool.not_eq_false',Q5]
theorem gV (a b c d e f g h i j k l:Int):I6 H7 (bG a b c d e f g h i j k l)=false↔BQ a∧BQ b∧BQ c∧BQ d∧BQ e∧BQ f∧BQ g∧BQ h∧BQ i∧BQ j∧BQ k∧BQ l:=by
 rw [MO]
 simp only [bG,List.any_cons,List.any_nil,Bool.or_false,Yo,jj,Bool.or_eq_false_iff,jU]
theorem Wz {r:Rul} (h:RulOk r):IntKind.i64.wrap (r.balls - 1)=r.balls - 1:=by
 have:=h.balls
 exact CV (by omega) (by omega)
theorem dR {x:Int}:(!iLt 5 x)=true↔x≤5:=by
 rw [Bool.not_eq_true']
 simp only [iLt,decide_eq_false_iff_not]
 omega
theorem KO {r:Rul} {s:Inn}:Fu r s=true↔InnOk r s:=by
 unfold Fu Ri
 simp only [Bool.and_eq_true,Bool.not_eq_true',gV,Q5]
 constructor
 ·intro ⟨h1,h2,h3,h4,h5,h6,h7,h8,h9,h10,h11,h12,h13,h14,h15,⟨n1,n2,n3,n4,n5,n6,n7,n8,n9,n10,n11,n12⟩,h17⟩
  have hc:A1 r=0:=beq_iff_eq.1 h1
  exact ⟨hc,h2,beq_iff_eq.1 h3,beq_iff_eq.1 h4,beq_iff_eq.1 h5,dR.1 (by rw [h6];rfl),h7,h8,h9,h10,h11,h12,h13,h14,by rw [Wz (Eh hc)] at h15;exact h15,n1,n2,n3,n4,n5,n6,n7,n8,n9,n10,n11,n12,h17⟩
 ·intro h
  have h6:=dR.2 h.ending
  rw [Bool.not_eq_true'] at h6
  exact ⟨beq_iff_eq.2 h.code,h.side,beq_iff_eq.2 h.lb,beq_iff_eq.2 h.ld,beq_iff_eq.2 h.lz,h6,h.st,h.ot,h.bat,h.bow,h.kee,h.dw,h.df,h.ov,by rw [Wz (Eh h.code)];exact h.io,
   ⟨h.target,h.runs,h.wides,h.noballs,h.byes,h.legbyes,h.pens,h.complete,h.ballage,h.outside,h.rev1,h.rev2⟩,h.bowled⟩
theorem ML (n:Int):IntKind.i64.wrap n=(n+9223372036854775808) % 18446744073709551616 - 9223372036854775808:=by
 unfold IntKind.wrap
 simp only [IntKind.signed,IntKind.bits]
 simp
 split<;>omega
theorem GP (n:Int):IntKind.i64.wrap (IntKind.i64.wrap n)=IntKind.i64.wrap n:=by
 simp only [ML];omega
theorem KS (a b:Int):IntKind.i64.wrap (IntKind.i64.wrap (a+b) - a)=IntKind.i64.wrap b:=by
 simp only [ML];omega
theorem So (a:Int):IntKind.i64.wrap (a - a)=0:=by rw [Int.sub_self];rfl
theorem Vs (s:Inn) (d:Del):(Ad s d).runs=s.runs∧(Ad s d).wides=s.wides∧(Ad s d).noballs=s.noballs∧(Ad s d).byes=s.byes∧(Ad s d).legbyes=s.legbyes∧(Ad s d).pens=s.pens∧(Ad s d).complete=s.complete∧(Ad s d).inover=s.inover∧(Ad s d).bowler=s.bowler∧(Ad s d).bowled=s.bowled:=by
  unfold Ad
  cases (!(d.runs.tmod 2==0) != d.crossed)<;>exact P_c (P:=fun x:Inn=>x.runs=s.runs∧x.wides=s.wides∧x.noballs=s.noballs∧x.byes=s.byes∧x.legbyes=s.legbyes∧x.pens=s.pens∧x.complete=s.complete∧x.inover=s.inover∧x.bowler=s.bowler∧x.bowled=s.bowled) _ _ _ ⟨rfl,rfl,rfl,rfl,rfl,rfl,rfl,rfl,rfl,rfl⟩
    (P_c (P:=fun x:Inn=>x.runs=s.runs∧x.wides=s.wides∧x.noballs=s.noballs∧x.byes=s.byes∧x.legbyes=s.legbyes∧x.pens=s.pens∧x.complete=s.complete∧x.inover=s.inover∧x.bowler=s.bowler∧x.bowled=s.bowled) _ _ _ ⟨rfl,rfl,rfl,rfl,rfl,rfl,rfl,rfl,rfl,rfl⟩ ⟨rfl,rfl,rfl,rfl,rfl,rfl,rfl,rfl,rfl,rfl⟩)
def HR (r:Rul) (s:Inn) (d:Del):Inn :=
 let o:=Ah r (Ad s d) (AB r d).counts
 let t:Inn:=cond o.2 (HE o.1) o.1
 { t with runs:=IntKind.i64.wrap (s.runs+Cy (AB r d)),wides:=IntKind.i64.wrap (s.wides+(AB r d).wides),noballs:=IntKind.i64.wrap (s.noballs+(AB r d).noballs),byes:=IntKind.i64.wrap (s.byes+(AB r d).byes),legbyes:=IntKind.i64.wrap (s.legbyes+(AB r d).legbyes),freehit:=cond (d.type==1) false (cond (d.type==3&&r.freehit) true o.1.freehit) }
theorem YG {r:Rul} {s:Inn} {d:Del} (h:((Js r s d).2==0)=true):(Fy r s d==0)=true∧(Js r s d).1=HR r s d:=by
 unfold Js at h ⊢
 cases hr:Fy r s d==0 with
 | false=>rw [hr] at h;exact absurd (hr▸h) (by decide)
 | true =>
  refine ⟨rfl,?_⟩
  obtain ⟨k1,k2,k3,k4,k5,_⟩:=Vs s d
  simp only [Bool.not_true,cond_false,aR,k1,k2,k3,k4,k5,HR]
  generalize Ah r (Ad s d) (AB r d).counts=o
  obtain ⟨o1,o2⟩:=o
  cases o2<;>rfl
theorem Tk {r:Rul} {s:Inn} {d:Del} (h:(Fy r s d==0)=true):GJ s.batters s.striker s.other=false∧(s.bowler==0)=false∧(PH r s==0)=true∧(Dk d==0)=true∧(OB d s.freehit==0)=true∧(O4 s d==0)=true:=by
 unfold Fy at h
 cases h1:GJ s.batters s.striker s.other with
 | true=>rw [h1] at h;cases h
 | false =>
  cases h2:s.bowler==0 with
  | true=>rw [h1,h2] at h;cases h
  | false =>
   rw [h1,h2] at h
   change (Wm _ _ _ _==0)=true at h
   unfold Wm at h
   cases h3:PH r s==0 with
   | false=>rw [h3] at h;exact absurd (h3▸h) (by decide)
   | true =>
    cases h4:Dk d==0 with
    | false=>rw [h3,h4] at h;exact absurd (h4▸h) (by decide)
    | true =>
     cases h5:OB d s.freehit==0 with
     | false=>rw [h3,h4,h5] at h;exact absurd (h5▸h) (by decide)
     | true =>
      cases h6:O4 s d==0 with
      | false=>rw [h3,h4,h5,h6] at h;exact absurd (h6▸h) (by decide)
      | true=>exact ⟨rfl,rfl,rfl,rfl,rfl,rfl⟩
theorem Va {d:Del} {f:Bool} (h:(OB d f==0)=true) (hd:(d.how==0)=false):(d.victim==1)=true∨(d.victim==2)=true:=by
 unfold OB at h
 rw [hd] at h
 cases h1:d.victim==1 with
 | true=>exact .inl rfl
 | false =>
  cases h2:d.victim==2 with
  | true=>exact .inr rfl
  | false =>
   rw [h1,h2] at h
   exfalso
   revert h
   cases (!onS d.how d.type||f && !Zl d.how)<;>cases (!MR d.how&&(!(d.source==0) || !(d.runs==0)))<;>intro h<;>cases h
theorem V7 {s:Inn} {e:Ev} (h:Uk s e=false) (hk:(e.kind==2)=false):CU s.batters=true:=by
 unfold Uk at h
 rw [hk] at h
 cases hb:CU s.batters with
 | true=>rfl
 | false=>rw [hb] at h;simp at h
theorem dD {s : Inn} {d : Del} (h1 : (s.striker == 0) = false) (h2 : (s.other == 0) = false) (hv : (d.how == 0) = false → (d.victim == 1) = true ∨ (d.victim == 2) = true) :
    (Ad s d).wickets=cond (d.how==0) s.wickets (inc s.wickets):=by
  unfold Ad
  rw [h1,h2]
  cases hd:d.how==0 with
  | true=>cases (!(d.runs.tmod 2==0) != d.crossed)<;>rfl
  | false =>
    rcases hv hd with h | h<;>rw [h]<;>cases (!(d.runs.tmod 2==0) != d.crossed)<;>cases d.victim==1<;>rfl
theorem dT (r:Rul) (s:Inn) (b:Bool):(Ah r s b).1.wickets=s.wickets∧(Ah r s b).1.pens=s.pens:=by
 unfold Ah
 exact P_c (P:=fun x:Inn×Bool=>x.1.wickets=s.wickets∧x.1.pens=s.pens) _ _ _ ⟨rfl,rfl⟩ (P_c (P:=fun x:Inn×Bool=>x.1.wickets=s.wickets∧x.1.pens=s.pens) _ _ _ ⟨rfl,rfl⟩ ⟨rfl,rfl⟩)
theorem ef {r : Rul} {s : Inn} {b : Bool} (hr : RulOk r) (hc : A1 r = 0) (hb : inR s.bowler s.bowled.length = true) (hi : 0 ≤ s.inover ∧ s.inover ≤ r.balls - 1) (hn : BQ s.complete) :
    IntKind.i64.wrap (CF r.balls (Ah r s b).1.complete (Ah r s b).1.inover - CF r.balls s.complete s.inover)=cond b 1 0:=by
  have hk:∃ k:Nat,r.balls=k:=⟨r.balls.toNat,by have:=hr.balls;omega⟩
  have hz:=hr.balls
  unfold BQ at hn
  unfold Ah CF
  rw [hb,hc]
  cases b with
  | false =>
    have h1:iLt s.inover r.balls=true:=by simp only [iLt,decide_eq_true_eq];omega
    simp only [cond_false,h1,beq_self_eq_true,Bool.not_true,Bool.or_false,cond_true]
    exact So _
  | true =>
    have h2:inc s.inover=s.inover+1:=CV (by omega) (by omega)
    simp only [cond_true,h2,beq_self_eq_true,Bool.not_true,Bool.or_false,cond_false]
    have h3:inc s.complete=s.complete+1:=CV (by omega) (by omega)
    have hb5:r.balls=4∨r.balls=5∨r.balls=6∨r.balls=7∨r.balls=8:=by omega
    cases h1:iLt (s.inover+1) r.balls with
    | true =>
      simp only [cond_true]
      rcases hb5 with e | e | e | e | e<;>rw [e] at hi ⊢<;>simp only [ML]<;>omega
    | false =>
      simp only [iLt,decide_eq_false_iff_not] at h1
      simp only [cond_false,h3]
      rcases hb5 with e | e | e | e | e<;>rw [e] at hi h1 ⊢<;>simp only [ML]<;>omega
end Go.Px
end
section
namespace Go.Px
set_option maxRecDepth 100000
theorem Vv {L:Rows} {s n:Int} (h:GJ L s n=false) (hb:CU L=true):(s==0)=false∧(n==0)=false:=by
 unfold GJ at h
 rw [hb,Bool.true_and,Bool.or_eq_false_iff] at h
 exact h
theorem fW {r:Rul} {s:Inn} (h:InnOk r s) (hb:(s.bowler==0)=false):inR s.bowler s.bowled.length=true:=by
 have h1:=h.bow
 have h2:=h.ld
 rw [beq_eq_false_iff_ne] at hb
 simp only [inR,iLe,Bool.and_eq_true,decide_eq_true_eq]
 omega
theorem fp {r : Rul} {s : Inn} {e : Ev} (hk : (e.kind == 4) = true) (h : ((Ak r s e).2 == 0) = true) :
    IntKind.i64.wrap ((Ak r s e).1.runs - s.runs)=Cy (AB r e.ball)∧IntKind.i64.wrap ((Ak r s e).1.wides - s.wides)=(AB r e.ball).wides∧IntKind.i64.wrap ((Ak r s e).1.noballs - s.noballs)=(AB r e.ball).noballs ∧
    IntKind.i64.wrap ((Ak r s e).1.byes - s.byes)=(AB r e.ball).byes∧IntKind.i64.wrap ((Ak r s e).1.legbyes - s.legbyes)=(AB r e.ball).legbyes∧(Ak r s e).1.pens=s.pens ∧
    IntKind.i64.wrap (CF r.balls (Ak r s e).1.complete (Ak r s e).1.inover - CF r.balls s.complete s.inover)=cond (AB r e.ball).counts 1 0 ∧
    IntKind.i64.wrap ((Ak r s e).1.wickets - s.wickets)=cond (e.ball.how==0) 0 1∧(Ak r s e).1.fresh=true∧IntKind.i64.wrap (Ak r s e).1.runs=(Ak r s e).1.runs:=by
  obtain ⟨hv,he,hn,hw,hp,hs⟩:=RG h
  have k4:=beq_iff_eq.1 hk
  have hpb:BZ r s e=Js r s e.ball:=by unfold BZ;rw [k4];rfl
  obtain ⟨d,hd0⟩:∃ d,d=e.ball:=⟨_,rfl⟩
  rw [← hd0] at hpb ⊢
  rw [hpb] at hp hs
  obtain ⟨hr,hb⟩:=YG hp
  obtain ⟨q1,q2,q3,q4,q5,q6⟩:=Tk hr
  have ok:=KO.1 hv
  have rk:=Eh ok.code
  have hbeg:CU s.batters=true:=V7 hw (by rw [k4];rfl)
  obtain ⟨z1,z2⟩:=Vv q1 hbeg
  have hin:=fW ok q2
  have hout:=dD (d:=d) z1 z2 (fun hd=>Va q5 hd)
  obtain ⟨k1,k2,k3,k4,k5,k6,k7,k8,k9,k10⟩:=Vs s d
  have hbl:=ef (b:=(AB r d).counts) (s:=Ad s d) rk ok.code (by rw [k9,k10];exact hin) (by rw [k8];exact ok.io) (by rw [k7];exact ok.complete)
  rw [k7,k8] at hbl
  obtain ⟨w1,w2⟩:=dT r (Ad s d) (AB r d).counts
  rw [hs,hb]
  have hc:AB r d=Ps r d:=by unfold AB;rw [q4];rfl
  have ht:IntKind.i64.wrap (Cy (AB r d))=Cy (AB r d):=GP _
  have c1:IntKind.i64.wrap (AB r d).wides=(AB r d).wides:=by rw [hc];unfold Ps;simp only;cases d.type==2<;>first | rfl | exact GP _
  have c2:IntKind.i64.wrap (AB r d).noballs=(AB r d).noballs:=by
    have:=rk.noball
    rw [hc];unfold Ps;simp only;cases d.type==3<;>first | rfl | exact CV (n:=r.noball) (by omega) (by omega)
  have c3:IntKind.i64.wrap (AB r d).byes=(AB r d).byes:=by rw [hc];unfold Ps;simp only;cases (!(d.type==2)&&d.source==2)<;>first | rfl | exact GP _
  have c4:IntKind.i64.wrap (AB r d).legbyes=(AB r d).legbyes:=by rw [hc];unfold Ps;simp only;cases (!(d.type==2)&&d.source==3)<;>first | rfl | exact GP _
  refine ⟨(KS _ _).trans ht,(KS _ _).trans c1,(KS _ _).trans c2,(KS _ _).trans c3,(KS _ _).trans c4,?_,?_,?_,hk,GP _⟩
  · have : (BW r (HR r s d) (e.kind == 4)).pens = (Ah r (Ad s d) (AB r d).counts).1.pens := by
      show (cond (Ah r (Ad s d) (AB r d).counts).2 (HE (Ah r (Ad s d) (AB r d).counts).1) (Ah r (Ad s d) (AB r d).counts).1).pens=_
      cases (Ah r (Ad s d) (AB r d).counts).2<;>rfl
    rw [this,w2,k6]
  · have e1 : (BW r (HR r s d) (e.kind == 4)).complete = (Ah r (Ad s d) (AB r d).counts).1.complete := by
      show (cond (Ah r (Ad s d) (AB r d).counts).2 (HE (Ah r (Ad s d) (AB r d).counts).1) (Ah r (Ad s d) (AB r d).counts).1).complete=_
      cases (Ah r (Ad s d) (AB r d).counts).2<;>rfl
    have e2:(BW r (HR r s d) (e.kind==4)).inover=(Ah r (Ad s d) (AB r d).counts).1.inover:=by
      show (cond (Ah r (Ad s d) (AB r d).counts).2 (HE (Ah r (Ad s d) (AB r d).counts).1) (Ah r (Ad s d) (AB r d).counts).1).inover=_
      cases (Ah r (Ad s d) (AB r d).counts).2<;>rfl
    rw [e1,e2,hbl]
  · have : (BW r (HR r s d) (e.kind == 4)).wickets = (Ah r (Ad s d) (AB r d).counts).1.wickets := by
      show (cond (Ah r (Ad s d) (AB r d).counts).2 (HE (Ah r (Ad s d) (AB r d).counts).1) (Ah r (Ad s d) (AB r d).counts).1).wickets=_
      cases (Ah r (Ad s d) (AB r d).counts).2<;>rfl
    rw [this,w1,hout]
    unfold inc
    cases d.how==0 with
    | true=>exact So _
    | false=>exact (KS s.wickets 1).trans rfl
end Go.Px
end
section
namespace Go.Px
set_option maxRecDepth 100000
def iW:Inn:=⟨0,0,0,0,0,0,0,0,0,0,0,0,0,0,[],0,[],[],false,[],false,0,0,0,[],0,0,0⟩
def kq (n:Nat) (overs side t p:Int):Inn:=⟨side,t,overs,p,0,0,0,0,0,p,0,0,0,0,List.replicate n [.int 0],0,[],[],false,List.replicate n [.int 0],false,0,0,0,List.replicate n [.bool false],0,0,0⟩
def CH (r:Rul) (side t p:Int):Inn×Int :=
 cond (!(A1 r==0)) (iW,A1 r) (cond (!btw side 1 2 || !btw t 0 1000000 || !btw p 0 1000000) (iW,2) (kq r.side.toNat r.overs side t p,0))
theorem P9 {N:Nat} {r1 r2 r3 r4 r5 r6 r7 r9 r10 r11 r12:Int} {r8:Bool} {r0:ByteArray} {r13:Rows} {a:Int} {b:Int} {c:Int} (hN:2097152<N) (hs:r0.size≤1048576):FH N [.str r0,.int r1,.int r2,.int r3,.int r4,.int r5,.int r6,.int r7,.bool r8,.int r9,.int r10,.int r11,.int r12,.rows r13,.int a,.int b,.int c]=some (A9 (CH (⟨r0,r1,r2,r3,r4,r5,r6,r7,r8,r9,r10,r11,r12,r13⟩:Rul) a b c)):=by
 show Hm (std (Fm N) N) (xOf _)=_
 generalize hres:(some (A9 (CH (⟨r0,r1,r2,r3,r4,r5,r6,r7,r8,r9,r10,r11,r12,r13⟩:Rul) a b c)):Option (List PV))=RR
 simp only [Hm,M9,Kd,std,xOf,PXb,Cl hN hs,DF]
 subst hres;simp only [CH]
 cases hc:A1 (⟨r0,r1,r2,r3,r4,r5,r6,r7,r8,r9,r10,r11,r12,r13⟩:Rul)==0 with
 | false=>rfl
 | true =>
  have rk:=(Eh (beq_iff_eq.1 hc)).side
  obtain ⟨k,hk⟩:∃ k:Nat,r1=k:=⟨r1.toNat,by simp only at rk;omega⟩
  subst hk
  simp only at rk
  have h1:iSm (k:Int) 1=true:=Fd (by omega) (by omega)
  have h8:iSm (k:Int) 8=true:=Fd (by omega) (by omega)
  simp only [PXb,PXc,PXn,PXm,Nat.reduceAdd,Int.reduceBEq,h1,h8]
  cases btw a 1 2<;>cases btw b 0 1000000<;>cases btw c 0 1000000<;>rfl
theorem DK {N:Nat} {L:Rows} {M:Rows} (hN:2097152<N) (hl:L.length≤1048576):BV N [.rows L,.rows M]=some [.bool (eqL L M)]:=by
 show FA (std (LC N) N) (xOf _)=_
 simp only [FA,std,xOf,PXb,PXc,PXn,AG]
 unfold eqL
 cases hm:(L.length:Int)==(M.length:Int) with
 | false=>rfl
 | true =>
  simp only [PXb,PXc,PXn,AG]
  refine Ae (IC (len:=L.length) (fun i => !(atI L i 0==atI M i 0)) [.bool false] ?_ ?_ N (by omega)) ?_
  ·intro self
   simp only [PXb,PXc,PXn,AG,Bc]
  ·intro i self hi
   simp only [PXb,PXc,PXn,AG,Ax (show i≤1099511627776 by omega),BG hi,Al hi,jS hm hi,Bv]
  ·cases BI (fun i => !(atI L i 0==atI M i 0)) L.length 0<;>rfl
theorem OO (r:Rul) (side t p:Int):(CH r side t p).1.Fit∧(CH r side t p).1.before=[]∧(CH r side t p).1.bowlers=[]:=by
 unfold CH
 cases hc:A1 r==0 with
 | false=>exact ⟨⟨by show 0≤1048576;omega,by show 0≤1048576;omega,by show 0≤1048576;omega,by show 0≤1048576;omega,by show 0≤1048576;omega⟩,rfl,rfl⟩
 | true =>
  have hs:=(Eh (beq_iff_eq.1 hc)).side
  have hl:∀ x:List PV,(List.replicate r.side.toNat x).length≤1048576:=fun x=>by rw [List.length_replicate];omega
  cases (!btw side 1 2 || !btw t 0 1000000 || !btw p 0 1000000) with
  | true=>exact ⟨⟨by show 0≤1048576;omega,by show 0≤1048576;omega,by show 0≤1048576;omega,by show 0≤1048576;omega,by show 0≤1048576;omega⟩,rfl,rfl⟩
  | false=>exact ⟨⟨hl _,by show 0≤1048576;omega,by show 0≤1048576;omega,hl _,hl _⟩,rfl,rfl⟩
theorem jB {s:Inn} (h:s.Fit):(NX s).Fit:=⟨h.bt,h.bw,h.bf,h.bd,h.sb⟩
end Go.Px
end
section
namespace Go.Px
set_option maxRecDepth 100000
structure BatOk (L:Rows) (s n wk:Int):Prop where
 le:∀ i,i<L.length→atI L i 0≤3
 at1:∀ i,i<L.length→(atI L i 0=1↔(s=(i:Int)+1∨n=(i:Int)+1))
 here:CU L=true→s≠0∨n≠0
 ne:s≠0→s≠n
 wk:wk=V3 L
end Go.Px
end
section
namespace Go.Px
set_option maxRecDepth 100000
theorem jC {r:Rul} {s:Inn} (h:InnOk r s):2≤r.side∧r.side≤11:=(Eh h.code).side
end Go.Px
end
section
namespace Go.Px
set_option maxRecDepth 100000
structure Small (s:Inn):Prop where
 target:s.target≤999999900
 runs:s.runs≤999999900
 wides:s.wides≤999999900
 noballs:s.noballs≤999999900
 byes:s.byes≤999999900
 legbyes:s.legbyes≤999999900
 pens:s.pens≤999999900
 complete:s.complete≤999999900
 ballage:s.ballage≤999999900
 rev1:s.rev1≤999999900
 rev2:s.rev2≤999999900
 bowled:∀ j,j<s.bowled.length→atI s.bowled j 0≤999999900
end Go.Px
end
