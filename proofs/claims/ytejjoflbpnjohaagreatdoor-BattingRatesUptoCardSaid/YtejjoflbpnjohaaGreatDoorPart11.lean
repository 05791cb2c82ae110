/- Part 11. -/
import Derived.Test.YtejjoflbpnjohaaGreatDoorPart10
set_option linter.unusedVariables false
set_option linter.unusedSimpArgs false
variable {s0 s1 s2 s3 s4 s5 s6 s7 s8 s9 s10 s11 s12 s13 s15 s21 s22 s23 s25 s26 s27:Int}
variable {s14 s16 s17 s19 s24:Go.Px.Rows}
variable {r1 r2 r3 r4 r5 r6 r7 r9 r10 r11 r12:Int}
variable {e0 e1 e2 e3 e5 e6 e7 e8 e9 e10 e11 e13 e14 e15 e16 e18:Int}
section
namespace Go.Px
set_option maxRecDepth 100000
structure Lens (s t:Inn):Prop where
 bt:t.batters.length=s.batters.length
 bd:t.bowled.length=s.bowled.length
 sb:t.subs.length=s.subs.length
 bw:t.bowlers.length≤s.bowlers.length+1
 bf:t.before.length≤s.before.length+s.bowlers.length+1
theorem Lens.refl (s:Inn):Lens s s:=⟨rfl,rfl,rfl,by omega,by omega⟩
theorem P_c {α:Type} {P:α→Prop} (b:Bool) (x y:α) (hx:P x) (hy:P y):P (cond b x y):=by cases b<;>assumption
theorem ff (s:Inn) (d:Del):Lens s (Aj s d):=by
 have hb:∀ (b:Bool),(cond b (Np s.batters s.striker 2) s.batters).length=s.batters.length:=fun b=>by cases b<;>simp [LF]
 have hc:∀ (b:Bool),(cond b (Np s.batters s.other 2) s.batters).length=s.batters.length:=fun b=>by cases b<;>simp [LF]
 unfold Aj;cases (!(d.runs.tmod 2==0) != d.crossed)<;>refine P_c _ _ _ ⟨hb _,rfl,rfl,?_,?_⟩ (P_c _ _ _ ⟨hc _,rfl,rfl,?_,?_⟩ ⟨rfl,rfl,rfl,?_,?_⟩)<;>simp<;>omega
theorem eH (r:Rul) (s:Inn) (c:Bool):Lens s (Ao r s c).1:=by
 have hl:(cond (Jz s.bowlers s.bowlers.length s.bowler) s.bowlers (s.bowlers++[[.int s.bowler]])).length≤s.bowlers.length+1:=by
  cases Jz s.bowlers s.bowlers.length s.bowler<;>simp
 have hd:(cond c (Np s.bowled s.bowler (inc (atI s.bowled (ix s.bowler) 0))) s.bowled).length=s.bowled.length:=by cases c<;>simp [LF]
 unfold Ao;refine P_c (P:=fun x:Inn×Bool=>Lens s x.1) _ _ _ (Lens.refl s) (P_c (P:=fun x:Inn×Bool=>Lens s x.1) _ _ _ ⟨rfl,hd,rfl,hl,by simp;omega⟩ ⟨rfl,hd,rfl,by simp,?_⟩);simp only;omega
def Z3 (a b c d:Int):Int:=cond (!(a==0)) a (cond (!(b==0)) b (cond (!(c==0)) c (cond (!(d==0)) d 0)))
def Gq (r:Rul) (s:Inn) (d:Del):Int :=
 cond (Gu s.batters s.striker s.other) 6 (cond (s.bowler==0) 7 (Z3 (Qx r s) (D7 d) (Py d s.freehit) (RB s d)))
theorem Xr {N:Nat} {r8:Bool} {r0:ByteArray} {r13:Rows} {s18 s20:Bool} {d0 d1 d2 d3 d4 d6 d7 d8 d9 d11:Int} {d5 d10:Bool} (h:Fit s14 s16 s17 s19 s24) (hN:2097152<N) (h13:r13.length≤1048576):D8 N [.str r0,.int r1,.int r2,.int r3,.int r4,.int r5,.int r6,.int r7,.bool r8,.int r9,.int r10,.int r11,.int r12,.rows r13,.int s0,.int s1,.int s2,.int s3,.int s4,.int s5,.int s6,.int s7,.int s8,.int s9,.int s10,.int s11,.int s12,.int s13,.rows s14,.int s15,.rows s16,.rows s17,.bool s18,.rows s19,.bool s20,.int s21,.int s22,.int s23,.rows s24,.int s25,.int s26,.int s27,.int d0,.int d1,.int d2,.int d3,.int d4,.bool d5,.int d6,.int d7,.int d8,.int d9,.bool d10,.int d11]=some [.int (Gq (⟨r0,r1,r2,r3,r4,r5,r6,r7,r8,r9,r10,r11,r12,r13⟩:Rul) (⟨s0,s1,s2,s3,s4,s5,s6,s7,s8,s9,s10,s11,s12,s13,s14,s15,s16,s17,s18,s19,s20,s21,s22,s23,s24,s25,s26,s27⟩:Inn) (⟨d0,d1,d2,d3,d4,d5,d6,d7,d8,d9,d10,d11⟩:Del))]:=by
 show GN (std (B2 N) N) (xOf _)=_;generalize hres:(some [.int (Gq (⟨r0,r1,r2,r3,r4,r5,r6,r7,r8,r9,r10,r11,r12,r13⟩:Rul) (⟨s0,s1,s2,s3,s4,s5,s6,s7,s8,s9,s10,s11,s12,s13,s14,s15,s16,s17,s18,s19,s20,s21,s22,s23,s24,s25,s26,s27⟩:Inn) (⟨d0,d1,d2,d3,d4,d5,d6,d7,d8,d9,d10,d11⟩:Del))]:Option (List PV))=RR;simp only [GN,K8,Lr,Mx,JF,M1,lq9,std,xOf,PXb,SW h.bt hN,eX h hN h13,RU,T4 hN,eY h];subst hres;simp only [Gq];cases Gu s14 s12 s13<;>try rfl
 cases s15==0<;>try rfl
 simp only [PXb];generalize Qx (⟨r0,r1,r2,r3,r4,r5,r6,r7,r8,r9,r10,r11,r12,r13⟩:Rul) (⟨s0,s1,s2,s3,s4,s5,s6,s7,s8,s9,s10,s11,s12,s13,s14,s15,s16,s17,s18,s19,s20,s21,s22,s23,s24,s25,s26,s27⟩:Inn)=a;generalize D7 (⟨d0,d1,d2,d3,d4,d5,d6,d7,d8,d9,d10,d11⟩:Del)=b;generalize Py (⟨d0,d1,d2,d3,d4,d5,d6,d7,d8,d9,d10,d11⟩:Del) s20=c;generalize RB (⟨s0,s1,s2,s3,s4,s5,s6,s7,s8,s9,s10,s11,s12,s13,s14,s15,s16,s17,s18,s19,s20,s21,s22,s23,s24,s25,s26,s27⟩:Inn) (⟨d0,d1,d2,d3,d4,d5,d6,d7,d8,d9,d10,d11⟩:Del)=e;refine Ab (C5 (len:=4) (fun i=>cond (!(atI [[.int a],[.int b],[.int c],[.int e]] i 0==0)) (some [.int (atI [[.int a],[.int b],[.int c],[.int e]] i 0)]) none) ?_ ?_ 4 0 N (by omega) (by omega)) ?_
 ·intro self;rfl
 ·intro i self hi;simp only [PXb,BD (show i≤1099511627776 by omega),List.length_cons,List.length_nil,Nat.reduceAdd,A5 hi,AY hi,DH];cases atI [[.int a],[.int b],[.int c],[.int e]] i 0==0<;>rfl
 ·refine (aN _).trans (congrArg (fun z=>some [PV.int z]) ?_);unfold Z3;simp only [B8];rw [show atI [[.int a],[.int b],[.int c],[.int e]] 0 0=a from rfl,show atI [[.int a],[.int b],[.int c],[.int e]] (0+1) 0=b from rfl,show atI [[.int a],[.int b],[.int c],[.int e]] (0+1+1) 0=c from rfl,show atI [[.int a],[.int b],[.int c],[.int e]] (0+1+1+1) 0=e from rfl];cases a==0<;>try rfl
  cases b==0<;>try rfl
  cases c==0<;>try rfl
  cases e==0<;>rfl
theorem Qt {s t:Inn} (l:Lens s t) (h:s.Fit) (hw:s.before.length+s.bowlers.length≤1048575):t.Fit:=⟨l.bt▸h.bt,by have:=l.bw;omega,by have:=l.bf;omega,l.bd▸h.bd,l.sb▸h.sb⟩
theorem oL (s:Inn) (d:Del):(Aj s d).bowlers=s.bowlers:=by
 unfold Aj;cases (!(d.runs.tmod 2==0) != d.crossed)<;>exact P_c (P:=fun x:Inn=>x.bowlers=s.bowlers) _ _ _ rfl (P_c (P:=fun x:Inn=>x.bowlers=s.bowlers) _ _ _ rfl rfl)
theorem nZ (s:Inn) (d:Del):(Aj s d).before=s.before:=by
 unfold Aj;cases (!(d.runs.tmod 2==0) != d.crossed)<;>exact P_c (P:=fun x:Inn=>x.before=s.before) _ _ _ rfl (P_c (P:=fun x:Inn=>x.before=s.before) _ _ _ rfl rfl)
@[reducible] def Vw (t:Inn) (a b e f g:Int):Inn:=⟨t.side,t.target,t.overs,a,t.wickets,b,e,f,g,t.pens,t.complete,t.inover,t.striker,t.other,t.batters,t.bowler,t.bowlers,t.before,t.fresh,t.bowled,t.freehit,t.ballage,t.keeper,t.outside,t.subs,t.rev1,t.rev2,t.ending⟩
def K0 (r:Rul) (s:Inn) (d:Del):Inn×Int :=
  cond (!(Gq r s d==0)) (s,Gq r s d)
    (let c:=AD r d
     let t:=Aj s d
     let o:=Ao r (Vw t (IntKind.i64.wrap (t.runs+Es c)) (IntKind.i64.wrap (t.wides+c.wides)) (IntKind.i64.wrap (t.noballs+c.noballs)) (IntKind.i64.wrap (t.byes+c.byes)) (IntKind.i64.wrap (t.legbyes+c.legbyes))) c.counts
     let t:Inn:=cond o.2 (H0 o.1) o.1
     ({ t with freehit:=cond (d.type==1) false (cond (d.type==3&&r.freehit) true o.1.freehit) },0))
theorem cx {N:Nat} {r8:Bool} {r0:ByteArray} {r13:Rows} {s18 s20:Bool} {d0 d1 d2 d3 d4 d6 d7 d8 d9 d11:Int} {d5 d10:Bool} (h:Fit s14 s16 s17 s19 s24) (hw:s17.length+s16.length≤1000000) (hN:2097152<N) (hs:r0.size≤1048576) (h13:r13.length≤1048576):Gc N [.str r0,.int r1,.int r2,.int r3,.int r4,.int r5,.int r6,.int r7,.bool r8,.int r9,.int r10,.int r11,.int r12,.rows r13,.int s0,.int s1,.int s2,.int s3,.int s4,.int s5,.int s6,.int s7,.int s8,.int s9,.int s10,.int s11,.int s12,.int s13,.rows s14,.int s15,.rows s16,.rows s17,.bool s18,.rows s19,.bool s20,.int s21,.int s22,.int s23,.rows s24,.int s25,.int s26,.int s27,.int d0,.int d1,.int d2,.int d3,.int d4,.bool d5,.int d6,.int d7,.int d8,.int d9,.bool d10,.int d11]=some (BK (K0 (⟨r0,r1,r2,r3,r4,r5,r6,r7,r8,r9,r10,r11,r12,r13⟩:Rul) (⟨s0,s1,s2,s3,s4,s5,s6,s7,s8,s9,s10,s11,s12,s13,s14,s15,s16,s17,s18,s19,s20,s21,s22,s23,s24,s25,s26,s27⟩:Inn) (⟨d0,d1,d2,d3,d4,d5,d6,d7,d8,d9,d10,d11⟩:Del))):=by
 show JS (std (Bl N) N) (xOf _)=_;generalize hres:(some (BK (K0 (⟨r0,r1,r2,r3,r4,r5,r6,r7,r8,r9,r10,r11,r12,r13⟩:Rul) (⟨s0,s1,s2,s3,s4,s5,s6,s7,s8,s9,s10,s11,s12,s13,s14,s15,s16,s17,s18,s19,s20,s21,s22,s23,s24,s25,s26,s27⟩:Inn) (⟨d0,d1,d2,d3,d4,d5,d6,d7,d8,d9,d10,d11⟩:Del))):Option (List PV))=RR;have l1:=ff (⟨s0,s1,s2,s3,s4,s5,s6,s7,s8,s9,s10,s11,s12,s13,s14,s15,s16,s17,s18,s19,s20,s21,s22,s23,s24,s25,s26,s27⟩:Inn) (⟨d0,d1,d2,d3,d4,d5,d6,d7,d8,d9,d10,d11⟩:Del);have f1:=Qt l1 h (by simp only;omega);have w1:(Aj (⟨s0,s1,s2,s3,s4,s5,s6,s7,s8,s9,s10,s11,s12,s13,s14,s15,s16,s17,s18,s19,s20,s21,s22,s23,s24,s25,s26,s27⟩:Inn) (⟨d0,d1,d2,d3,d4,d5,d6,d7,d8,d9,d10,d11⟩:Del)).bowlers.length=s16.length:=congrArg List.length (oL _ _);have w2:(Aj (⟨s0,s1,s2,s3,s4,s5,s6,s7,s8,s9,s10,s11,s12,s13,s14,s15,s16,s17,s18,s19,s20,s21,s22,s23,s24,s25,s26,s27⟩:Inn) (⟨d0,d1,d2,d3,d4,d5,d6,d7,d8,d9,d10,d11⟩:Del)).before.length=s17.length:=congrArg List.length (nZ _ _);have l2:=fun (x:Rul) (c:Bool) (a b e f g:Int)=>eH x (Vw (Aj (⟨s0,s1,s2,s3,s4,s5,s6,s7,s8,s9,s10,s11,s12,s13,s14,s15,s16,s17,s18,s19,s20,s21,s22,s23,s24,s25,s26,s27⟩:Inn) (⟨d0,d1,d2,d3,d4,d5,d6,d7,d8,d9,d10,d11⟩:Del)) a b e f g) c
 have f2:=fun (x:Rul) (c:Bool) (a b e f g:Int)=>Qt (l2 x c a b e f g) f1 (show (Aj (⟨s0,s1,s2,s3,s4,s5,s6,s7,s8,s9,s10,s11,s12,s13,s14,s15,s16,s17,s18,s19,s20,s21,s22,s23,s24,s25,s26,s27⟩:Inn) (⟨d0,d1,d2,d3,d4,d5,d6,d7,d8,d9,d10,d11⟩:Del)).before.length+(Aj (⟨s0,s1,s2,s3,s4,s5,s6,s7,s8,s9,s10,s11,s12,s13,s14,s15,s16,s17,s18,s19,s20,s21,s22,s23,s24,s25,s26,s27⟩:Inn) (⟨d0,d1,d2,d3,d4,d5,d6,d7,d8,d9,d10,d11⟩:Del)).bowlers.length≤1048575 by omega)
 simp only [JS,MP,My,Ns,MF,Ps,P8,Ng,lq9,std,xOf,PXb,PXc,PXn,PXm,Nat.reduceAdd,Int.reduceBEq,Xr h hN h13,B3 h,PQ,jF h,Y8,Cre.ls,fx f1 (show (Aj (⟨s0,s1,s2,s3,s4,s5,s6,s7,s8,s9,s10,s11,s12,s13,s14,s15,s16,s17,s18,s19,s20,s21,s22,s23,s24,s25,s26,s27⟩:Inn) (⟨d0,d1,d2,d3,d4,d5,d6,d7,d8,d9,d10,d11⟩:Del)).bowlers.length≤1048575 by omega) hN hs,pF,Zt (f2 _ _ _ _ _ _ _)];subst hres;simp only [K0,Vw];cases Gq (⟨r0,r1,r2,r3,r4,r5,r6,r7,r8,r9,r10,r11,r12,r13⟩:Rul) (⟨s0,s1,s2,s3,s4,s5,s6,s7,s8,s9,s10,s11,s12,s13,s14,s15,s16,s17,s18,s19,s20,s21,s22,s23,s24,s25,s26,s27⟩:Inn) (⟨d0,d1,d2,d3,d4,d5,d6,d7,d8,d9,d10,d11⟩:Del)==0 with
 | false=>rfl
 | true =>
  obtain ⟨o,ho⟩:∃ o,o=Ao (⟨r0,r1,r2,r3,r4,r5,r6,r7,r8,r9,r10,r11,r12,r13⟩:Rul) (Vw (Aj (⟨s0,s1,s2,s3,s4,s5,s6,s7,s8,s9,s10,s11,s12,s13,s14,s15,s16,s17,s18,s19,s20,s21,s22,s23,s24,s25,s26,s27⟩:Inn) (⟨d0,d1,d2,d3,d4,d5,d6,d7,d8,d9,d10,d11⟩:Del)) (IntKind.i64.wrap ((Aj (⟨s0,s1,s2,s3,s4,s5,s6,s7,s8,s9,s10,s11,s12,s13,s14,s15,s16,s17,s18,s19,s20,s21,s22,s23,s24,s25,s26,s27⟩:Inn) (⟨d0,d1,d2,d3,d4,d5,d6,d7,d8,d9,d10,d11⟩:Del)).runs+Es (AD (⟨r0,r1,r2,r3,r4,r5,r6,r7,r8,r9,r10,r11,r12,r13⟩:Rul) (⟨d0,d1,d2,d3,d4,d5,d6,d7,d8,d9,d10,d11⟩:Del)))) (IntKind.i64.wrap ((Aj (⟨s0,s1,s2,s3,s4,s5,s6,s7,s8,s9,s10,s11,s12,s13,s14,s15,s16,s17,s18,s19,s20,s21,s22,s23,s24,s25,s26,s27⟩:Inn) (⟨d0,d1,d2,d3,d4,d5,d6,d7,d8,d9,d10,d11⟩:Del)).wides+(AD (⟨r0,r1,r2,r3,r4,r5,r6,r7,r8,r9,r10,r11,r12,r13⟩:Rul) (⟨d0,d1,d2,d3,d4,d5,d6,d7,d8,d9,d10,d11⟩:Del)).wides)) (IntKind.i64.wrap ((Aj (⟨s0,s1,s2,s3,s4,s5,s6,s7,s8,s9,s10,s11,s12,s13,s14,s15,s16,s17,s18,s19,s20,s21,s22,s23,s24,s25,s26,s27⟩:Inn) (⟨d0,d1,d2,d3,d4,d5,d6,d7,d8,d9,d10,d11⟩:Del)).noballs+(AD (⟨r0,r1,r2,r3,r4,r5,r6,r7,r8,r9,r10,r11,r12,r13⟩:Rul) (⟨d0,d1,d2,d3,d4,d5,d6,d7,d8,d9,d10,d11⟩:Del)).noballs)) (IntKind.i64.wrap ((Aj (⟨s0,s1,s2,s3,s4,s5,s6,s7,s8,s9,s10,s11,s12,s13,s14,s15,s16,s17,s18,s19,s20,s21,s22,s23,s24,s25,s26,s27⟩:Inn) (⟨d0,d1,d2,d3,d4,d5,d6,d7,d8,d9,d10,d11⟩:Del)).byes+(AD (⟨r0,r1,r2,r3,r4,r5,r6,r7,r8,r9,r10,r11,r12,r13⟩:Rul) (⟨d0,d1,d2,d3,d4,d5,d6,d7,d8,d9,d10,d11⟩:Del)).byes)) (IntKind.i64.wrap ((Aj (⟨s0,s1,s2,s3,s4,s5,s6,s7,s8,s9,s10,s11,s12,s13,s14,s15,s16,s17,s18,s19,s20,s21,s22,s23,s24,s25,s26,s27⟩:Inn) (⟨d0,d1,d2,d3,d4,d5,d6,d7,d8,d9,d10,d11⟩:Del)).legbyes+(AD (⟨r0,r1,r2,r3,r4,r5,r6,r7,r8,r9,r10,r11,r12,r13⟩:Rul) (⟨d0,d1,d2,d3,d4,d5,d6,d7,d8,d9,d10,d11⟩:Del)).legbyes))) (AD (⟨r0,r1,r2,r3,r4,r5,r6,r7,r8,r9,r10,r11,r12,r13⟩:Rul) (⟨d0,d1,d2,d3,d4,d5,d6,d7,d8,d9,d10,d11⟩:Del)).counts:=⟨_,rfl⟩;simp only [Vw,Es] at ho ⊢;simp only [← ho];obtain ⟨o1,o2⟩:=o;cases o2<;>cases d0==1<;>cases d0==3<;>cases r8<;>rfl
theorem iU (r:Rul) (s:Inn) (b:Bool) (a c d e f:Int):Ao r (Vw s a c d e f) b=(Vw (Ao r s b).1 a c d e f,(Ao r s b).2):=by
 unfold Ao Vw;simp only;cases (!inR s.bowler s.bowled.length || !(BF r==0)) with
 | true=>rfl
 | false =>
  simp only [cond_false];cases iLt (cond b (inc s.inover) s.inover) r.balls<;>rfl
def LD (r:Rul) (s:Inn) (side:Int):Inn×Int:=cond (!(side==s.side)) (s,2) (cond (!(r.overs==0)) (s,20) ({ s with ending:=4 },0))
theorem Xz {N:Nat} {r8:Bool} {r0:ByteArray} {r13:Rows} {s18 s20:Bool} {e4 e12 e17:Bool} (h:Fit s14 s16 s17 s19 s24):EC N [.str r0,.int r1,.int r2,.int r3,.int r4,.int r5,.int r6,.int r7,.bool r8,.int r9,.int r10,.int r11,.int r12,.rows r13,.int s0,.int s1,.int s2,.int s3,.int s4,.int s5,.int s6,.int s7,.int s8,.int s9,.int s10,.int s11,.int s12,.int s13,.rows s14,.int s15,.rows s16,.rows s17,.bool s18,.rows s19,.bool s20,.int s21,.int s22,.int s23,.rows s24,.int s25,.int s26,.int s27,.int e0,.int e1,.int e2,.int e3,.bool e4,.int e5,.int e6,.int e7,.int e8,.int e9,.int e10,.int e11,.bool e12,.int e13,.int e14,.int e15,.int e16,.bool e17,.int e18]=some (BK (LD (⟨r0,r1,r2,r3,r4,r5,r6,r7,r8,r9,r10,r11,r12,r13⟩:Rul) (⟨s0,s1,s2,s3,s4,s5,s6,s7,s8,s9,s10,s11,s12,s13,s14,s15,s16,s17,s18,s19,s20,s21,s22,s23,s24,s25,s26,s27⟩:Inn) e1)):=by
 show GD (std (H8 N) N) (xOf _)=_;generalize hres:(some (BK (LD (⟨r0,r1,r2,r3,r4,r5,r6,r7,r8,r9,r10,r11,r12,r13⟩:Rul) (⟨s0,s1,s2,s3,s4,s5,s6,s7,s8,s9,s10,s11,s12,s13,s14,s15,s16,s17,s18,s19,s20,s21,s22,s23,s24,s25,s26,s27⟩:Inn) e1)):Option (List PV))=RR;simp only [GD,Ll,lq9,std,xOf,PXb,PXc,PXn,PXm,Nat.reduceAdd,Int.reduceBEq,B3 h];subst hres;simp only [LD];cases e1==s0<;>cases r3==0<;>rfl
def PH (s:Inn):Inn:={ s with runs:=IntKind.i64.wrap (s.runs+5),pens:=IntKind.i64.wrap (s.pens+5) }
theorem Pe {N:Nat} {s18 s20:Bool} (h:Fit s14 s16 s17 s19 s24):Bz N [.int s0,.int s1,.int s2,.int s3,.int s4,.int s5,.int s6,.int s7,.int s8,.int s9,.int s10,.int s11,.int s12,.int s13,.rows s14,.int s15,.rows s16,.rows s17,.bool s18,.rows s19,.bool s20,.int s21,.int s22,.int s23,.rows s24,.int s25,.int s26,.int s27]=some (PH (⟨s0,s1,s2,s3,s4,s5,s6,s7,s8,s9,s10,s11,s12,s13,s14,s15,s16,s17,s18,s19,s20,s21,s22,s23,s24,s25,s26,s27⟩:Inn)).ls:=by
 show GC (std (H6 N) N) (xOf _)=_;generalize hres:(some (PH (⟨s0,s1,s2,s3,s4,s5,s6,s7,s8,s9,s10,s11,s12,s13,s14,s15,s16,s17,s18,s19,s20,s21,s22,s23,s24,s25,s26,s27⟩:Inn)).ls:Option (List PV))=RR;simp only [GC,Lo,lq9,std,xOf,PXb,PXc,PXn,PXm,Nat.reduceAdd,Int.reduceBEq,B3 h];subst hres;simp only [PH];rfl
def HU (s:Inn) (side runs:Int):Inn×Int :=
 cond (!(runs==5)) (s,23) (cond (side==s.side) (PH s,0) ({ s with target:=cond (iLt 0 s.target) (IntKind.i64.wrap (s.target+5)) s.target },0))
theorem Xo {N:Nat} {s18 s20:Bool} {e4 e12 e17:Bool} (h:Fit s14 s16 s17 s19 s24):EE N [.int s0,.int s1,.int s2,.int s3,.int s4,.int s5,.int s6,.int s7,.int s8,.int s9,.int s10,.int s11,.int s12,.int s13,.rows s14,.int s15,.rows s16,.rows s17,.bool s18,.rows s19,.bool s20,.int s21,.int s22,.int s23,.rows s24,.int s25,.int s26,.int s27,.int e0,.int e1,.int e2,.int e3,.bool e4,.int e5,.int e6,.int e7,.int e8,.int e9,.int e10,.int e11,.bool e12,.int e13,.int e14,.int e15,.int e16,.bool e17,.int e18]=some (BK (HU (⟨s0,s1,s2,s3,s4,s5,s6,s7,s8,s9,s10,s11,s12,s13,s14,s15,s16,s17,s18,s19,s20,s21,s22,s23,s24,s25,s26,s27⟩:Inn) e1 e5)):=by
 show GE (std (E5 N) N) (xOf _)=_;generalize hres:(some (BK (HU (⟨s0,s1,s2,s3,s4,s5,s6,s7,s8,s9,s10,s11,s12,s13,s14,s15,s16,s17,s18,s19,s20,s21,s22,s23,s24,s25,s26,s27⟩:Inn) e1 e5)):Option (List PV))=RR;simp only [GE,Lt,KG,lq9,std,xOf,PXb,PXc,PXn,PXm,Nat.reduceAdd,Int.reduceBEq,B3 h,Pe h];subst hres;simp only [HU];cases e5==5<;>cases e1==s0<;>cases iLt 0 s1<;>rfl
def LY (r:Rul) (s:Inn) (side:Int) (yes:Bool):Inn×Int :=
 cond (!s.fresh||iLe r.reviews (cond (side==2) s.rev2 s.rev1)) (s,24) (cond (!yes) ({ s with rev1:=cond (side==1) (inc s.rev1) s.rev1,rev2:=cond (side==2) (inc s.rev2) s.rev2 },0) (s,0))
theorem wr1:IntKind.i64.wrap (1 - 1)=0:=rfl
theorem wr2:IntKind.i64.wrap (2 - 1)=1:=rfl
theorem iQ:iIn 0 2=true:=rfl
theorem fX:iIn 1 2=true:=rfl
theorem Yg {N:Nat} {r8:Bool} {r0:ByteArray} {r13:Rows} {s18 s20:Bool} {e4 e12 e17:Bool} (h:Fit s14 s16 s17 s19 s24) (he:e1=1∨e1=2):Em N [.str r0,.int r1,.int r2,.int r3,.int r4,.int r5,.int r6,.int r7,.bool r8,.int r9,.int r10,.int r11,.int r12,.rows r13,.int s0,.int s1,.int s2,.int s3,.int s4,.int s5,.int s6,.int s7,.int s8,.int s9,.int s10,.int s11,.int s12,.int s13,.rows s14,.int s15,.rows s16,.rows s17,.bool s18,.rows s19,.bool s20,.int s21,.int s22,.int s23,.rows s24,.int s25,.int s26,.int s27,.int e0,.int e1,.int e2,.int e3,.bool e4,.int e5,.int e6,.int e7,.int e8,.int e9,.int e10,.int e11,.bool e12,.int e13,.int e14,.int e15,.int e16,.bool e17,.int e18]=some (BK (LY (⟨r0,r1,r2,r3,r4,r5,r6,r7,r8,r9,r10,r11,r12,r13⟩:Rul) (⟨s0,s1,s2,s3,s4,s5,s6,s7,s8,s9,s10,s11,s12,s13,s14,s15,s16,s17,s18,s19,s20,s21,s22,s23,s24,s25,s26,s27⟩:Inn) e1 e4)):=by
 show Ez (std (Ir N) N) (xOf _)=_;generalize hres:(some (BK (LY (⟨r0,r1,r2,r3,r4,r5,r6,r7,r8,r9,r10,r11,r12,r13⟩:Rul) (⟨s0,s1,s2,s3,s4,s5,s6,s7,s8,s9,s10,s11,s12,s13,s14,s15,s16,s17,s18,s19,s20,s21,s22,s23,s24,s25,s26,s27⟩:Inn) e1 e4)):Option (List PV))=RR
 rcases he with he | he<;>subst he
 ·simp only [Ez,Fk,lq9,std,xOf,PXb,PXc,PXn,PXm,Nat.reduceAdd,Int.reduceBEq,B3 h,wr1,wr2,iQ,fX];subst hres;simp only [LY,Int.reduceBEq,beq_self_eq_true,cond_true,cond_false];cases s18<;>cases e4<;>first | rfl | (cases iLe r11 s25<;>rfl)
 ·simp only [Ez,Fk,lq9,std,xOf,PXb,PXc,PXn,PXm,Nat.reduceAdd,Int.reduceBEq,B3 h,wr1,wr2,iQ,fX];subst hres;simp only [LY,Int.reduceBEq,beq_self_eq_true,cond_true,cond_false];cases s18<;>cases e4<;>first | rfl | (cases iLe r11 s26<;>rfl)
theorem aX {N:Nat} {r8:Bool} {r0:ByteArray} {r13:Rows} {s18 s20:Bool}  : FU N [.str r0,.int r1,.int r2,.int r3,.int r4,.int r5,.int r6,.int r7,.bool r8,.int r9,.int r10,.int r11,.int r12,.rows r13,.int s0,.int s1,.int s2,.int s3,.int s4,.int s5,.int s6,.int s7,.int s8,.int s9,.int s10,.int s11,.int s12,.int s13,.rows s14,.int s15,.rows s16,.rows s17,.bool s18,.rows s19,.bool s20,.int s21,.int s22,.int s23,.rows s24,.int s25,.int s26,.int s27]=some [.int (CY r4 s10 s11)]:=by
 rfl
def NV (r:Rul) (s:Inn) (runs overs:Int):Inn×Int :=
  cond (r.overs==0||(runs==0&&overs==0)) (s,25) (cond (iLt 0 runs&&(s.target==0||iLe runs s.runs)) (s,25)
    (cond (iLt 0 overs&&(iLt r.overs overs||iLt (IntKind.i64.wrap (overs * r.balls)) (CY r.balls s.complete s.inover))) (s,25)
      ({ s with target:=cond (iLt 0 runs) runs s.target,overs:=cond (iLt 0 overs) overs s.overs },0)))
theorem ZG {N:Nat} {r8:Bool} {r0:ByteArray} {r13:Rows} {s18 s20:Bool} {e4 e12 e17:Bool} (h:Fit s14 s16 s17 s19 s24):Ep N [.str r0,.int r1,.int r2,.int r3,.int r4,.int r5,.int r6,.int r7,.bool r8,.int r9,.int r10,.int r11,.int r12,.rows r13,.int s0,.int s1,.int s2,.int s3,.int s4,.int s5,.int s6,.int s7,.int s8,.int s9,.int s10,.int s11,.int s12,.int s13,.rows s14,.int s15,.rows s16,.rows s17,.bool s18,.rows s19,.bool s20,.int s21,.int s22,.int s23,.rows s24,.int s25,.int s26,.int s27,.int e0,.int e1,.int e2,.int e3,.bool e4,.int e5,.int e6,.int e7,.int e8,.int e9,.int e10,.int e11,.bool e12,.int e13,.int e14,.int e15,.int e16,.bool e17,.int e18]=some (BK (NV (⟨r0,r1,r2,r3,r4,r5,r6,r7,r8,r9,r10,r11,r12,r13⟩:Rul) (⟨s0,s1,s2,s3,s4,s5,s6,s7,s8,s9,s10,s11,s12,s13,s14,s15,s16,s17,s18,s19,s20,s21,s22,s23,s24,s25,s26,s27⟩:Inn) e5 e6)):=by
 show HM (std (Fu N) N) (xOf _)=_;generalize hres:(some (BK (NV (⟨r0,r1,r2,r3,r4,r5,r6,r7,r8,r9,r10,r11,r12,r13⟩:Rul) (⟨s0,s1,s2,s3,s4,s5,s6,s7,s8,s9,s10,s11,s12,s13,s14,s15,s16,s17,s18,s19,s20,s21,s22,s23,s24,s25,s26,s27⟩:Inn) e5 e6)):Option (List PV))=RR;simp only [HM,Lu,Ly,lq9,std,xOf,PXb,PXc,PXn,PXm,Nat.reduceAdd,Int.reduceBEq,B3 h,aX];subst hres;simp only [NV];cases (r3==0||e5==0&&e6==0)<;>try rfl
 cases (iLt 0 e5&&(s1==0||iLe e5 s3))<;>try rfl
 cases iLt 0 e6<;>cases iLt r3 e6<;>try rfl
 simp only [PXb,PXc,PXn,PXm,Nat.reduceAdd,Int.reduceBEq];cases iLt (IntKind.i64.wrap (e6 * r4)) (CY r4 s10 s11)<;>rfl
def Ba (r:Rul) (s:Inn) (e:Ev):Inn×Int :=
  cond (e.kind==2) (OA s e.player e.other) (cond (e.kind==3) (T1 r s e.player) (cond (e.kind==4) (K0 r s e.ball)
    (cond (e.kind==5) (cond e.yes (Ej s e.player) (Kc s e.player)) (cond (e.kind==6) (FG s e.player e.yes) (cond (e.kind==7) (LI s e.runs)
      (cond (e.kind==8) (NR s e.player) (cond (e.kind==9) (Q2 s e.player e.yes) (cond (e.kind==10) (LB r s) (cond (e.kind==11) (LD r s e.side)
        (cond (e.kind==13) (HU s e.side e.runs) (cond (e.kind==14) (LY r s e.side e.yes) (NV r s e.runs e.overs))))))))))))
theorem cW {e:Ev} (h:(evS e==0)=true):(iLt e.kind 1||iLt 16 e.kind)=false:=by
 unfold evS at h;cases hk:(iLt e.kind 1||iLt 16 e.kind) with
 | false=>rfl
 | true=>rw [hk] at h;cases h
theorem ql {e:Ev} (h:(evS e==0)=true) (hk:e.kind=14):e.side=1∨e.side=2:=by
 have h0:=cW h;unfold evS at h;rw [h0] at h;cases h1:iW e with
 | true=>rw [h1] at h;cases h
 | false =>
  cases h2:Yu e with
  | true=>rw [h1,h2] at h;cases h
  | false =>
   unfold Yu at h2;rw [Bool.or_eq_false_iff] at h2;have h3:=h2.1;rw [hk,show uS 14=true from rfl,Bool.and_true] at h3;simp only [btw,iLe,Bool.not_eq_false',zzj,decide_eq_true_eq] at h3;omega
set_option maxHeartbeats 4000000 in
theorem Xy {N:Nat} {r8:Bool} {r0:ByteArray} {r13:Rows} {s18 s20:Bool} {e4 e12 e17:Bool} (h:Fit s14 s16 s17 s19 s24) (hw:s17.length+s16.length≤1000000) (hN:2097152<N) (hs:r0.size≤1048576) (h13:r13.length≤1048576) (he:(evS (⟨e0,e1,e2,e3,e4,e5,e6,⟨e7,e8,e9,e10,e11,e12,e13,e14,e15,e16,e17,e18⟩⟩:Ev)==0)=true):ED N [.str r0,.int r1,.int r2,.int r3,.int r4,.int r5,.int r6,.int r7,.bool r8,.int r9,.int r10,.int r11,.int r12,.rows r13,.int s0,.int s1,.int s2,.int s3,.int s4,.int s5,.int s6,.int s7,.int s8,.int s9,.int s10,.int s11,.int s12,.int s13,.rows s14,.int s15,.rows s16,.rows s17,.bool s18,.rows s19,.bool s20,.int s21,.int s22,.int s23,.rows s24,.int s25,.int s26,.int s27,.int e0,.int e1,.int e2,.int e3,.bool e4,.int e5,.int e6,.int e7,.int e8,.int e9,.int e10,.int e11,.bool e12,.int e13,.int e14,.int e15,.int e16,.bool e17,.int e18]=some (BK (Ba (⟨r0,r1,r2,r3,r4,r5,r6,r7,r8,r9,r10,r11,r12,r13⟩:Rul) (⟨s0,s1,s2,s3,s4,s5,s6,s7,s8,s9,s10,s11,s12,s13,s14,s15,s16,s17,s18,s19,s20,s21,s22,s23,s24,s25,s26,s27⟩:Inn) (⟨e0,e1,e2,e3,e4,e5,e6,⟨e7,e8,e9,e10,e11,e12,e13,e14,e15,e16,e17,e18⟩⟩:Ev))):=by
  show EG (std (Ah N) N) (xOf _)=_;generalize hres:(some (BK (Ba (⟨r0,r1,r2,r3,r4,r5,r6,r7,r8,r9,r10,r11,r12,r13⟩:Rul) (⟨s0,s1,s2,s3,s4,s5,s6,s7,s8,s9,s10,s11,s12,s13,s14,s15,s16,s17,s18,s19,s20,s21,s22,s23,s24,s25,s26,s27⟩:Inn) (⟨e0,e1,e2,e3,e4,e5,e6,⟨e7,e8,e9,e10,e11,e12,e13,e14,e15,e16,e17,e18⟩⟩:Ev))):Option (List PV))=RR;have hsd:e0=14→e1=1∨e1=2:=ql (e:=(⟨e0,e1,e2,e3,e4,e5,e6,⟨e7,e8,e9,e10,e11,e12,e13,e14,e15,e16,e17,e18⟩⟩:Ev)) he
  rcases dL (cW he) with hk | hk | hk | hk | hk | hk | hk | hk | hk | hk | hk | hk | hk | hk | hk | hk<;>simp only at hk<;>subst hk<;>clear he
  all_goals (first
    | (have hsd := hsd rfl
       simp only [EG,F9,Gn,Fj,Ef,Fm,FB,E9,FY,EH,FC,EV,ET,El,Eo,lq9,std,xOf,PXb,PXc,PXn,PXm,Nat.reduceAdd,Int.reduceBEq,Yg h hsd];subst hres;rfl)
    | (simp only [EG, F9, Gn, Fj, Ef, Fm, FB, E9, FY, EH, FC, EV, ET, El, Eo, lq9,std,xOf, PXb, PXc, PXn, PXm, Nat.reduceAdd, Int.reduceBEq, ee h hN, jH h hN hs, cx h hw hN hs h13, ZQ h hN, dX h hN, bn h hN, Z6 h, cY h, Wz h, Zk h hN hs, Xz h, Xo h, ZG h]
       subst hres
       first
       | rfl
       | (cases e4<;>rfl)))
theorem Lens.of {s t:Inn} (h1:t.batters.length=s.batters.length) (h2:t.bowled.length=s.bowled.length) (h3:t.subs.length=s.subs.length) (h4:t.bowlers=s.bowlers) (h5:t.before=s.before):Lens s t:=⟨h1,h2,h3,by rw [h4];omega,by rw [h5];omega⟩
theorem L_c {s:Inn} (b:Bool) (x y:Inn×Int) (hx:Lens s x.1) (hy:Lens s y.1):Lens s (cond b x y).1:=by cases b<;>assumption
theorem mq (s:Inn) (p q:Int):Lens s (OA s p q).1:=by
 unfold OA;exact L_c _ _ _ (Lens.refl s) (L_c _ _ _ (Lens.refl s) (L_c _ _ _ (Lens.refl s) (Lens.of (by simp [LF]) rfl rfl rfl rfl)))
theorem na (r:Rul) (s:Inn) (p:Int):Lens s (T1 r s p).1:=by
 unfold T1;exact P_c (P:=fun x:Inn=>Lens s x) _ _ _ (Lens.of rfl rfl rfl rfl rfl) (Lens.refl s)
theorem mc (r:Rul) (s:Inn) (d:Del):Lens s (K0 r s d).1:=by
 unfold K0;refine L_c _ _ _ (Lens.refl s) ?_;have l1:=ff s d;have w1:=oL s d;have w2:=nZ s d;simp only [iU];have l2:=eH r (Aj s d) (AD r d).counts;cases (Ao r (Aj s d) (AD r d).counts).2
 ·exact ⟨l2.bt.trans l1.bt,l2.bd.trans l1.bd,l2.sb.trans l1.sb,by have:=l2.bw;rw [w1] at this;exact this,by have:=l2.bf;rw [w1,w2] at this;exact this⟩
 ·exact ⟨l2.bt.trans l1.bt,l2.bd.trans l1.bd,l2.sb.trans l1.sb,by have:=l2.bw;rw [w1] at this;exact this,by have:=l2.bf;rw [w1,w2] at this;exact this⟩
theorem gh (s:Inn) (p:Int):Lens s (Ej s p).1:=by
 unfold Ej;exact L_c _ _ _ (Lens.of (by simp [LF]) rfl rfl rfl rfl) (Lens.refl s)
theorem mG (s:Inn) (p:Int):Lens s (Kc s p).1:=by
 unfold Kc;exact L_c _ _ _ (Lens.of (by simp [LF]) rfl rfl rfl rfl) (Lens.refl s)
theorem kG (s:Inn) (p:Int) (b:Bool):Lens s (FG s p b).1:=by
 unfold FG;exact L_c _ _ _ (Lens.refl s) (L_c _ _ _ (Lens.refl s) (L_c _ _ _ (Lens.refl s) (L_c _ _ _ (Lens.refl s) (Lens.of (by simp [LF]) rfl rfl rfl rfl))))
theorem ir (s:Inn) (n:Int):Lens s (LI s n).1:=by
 unfold LI;exact L_c _ _ _ (Lens.refl s) (Lens.of rfl rfl rfl rfl rfl)
theorem jq (s:Inn) (n:Int):Lens s (NR s n).1:=by
 unfold NR;exact L_c _ _ _ (Lens.refl s) (L_c _ _ _ (Lens.refl s) (L_c _ _ _ (Lens.refl s) (Lens.of rfl rfl rfl rfl rfl)))
theorem mX (s:Inn) (n:Int) (b:Bool):Lens s (Q2 s n b).1:=by
 unfold Q2;exact L_c _ _ _ (Lens.refl s) (L_c _ _ _ (Lens.refl s) (Lens.of rfl rfl (by simp [oX]) rfl rfl))
theorem iB (r:Rul) (s:Inn):Lens s (LB r s).1:=by
 unfold LB;exact L_c _ _ _ (Lens.refl s) (Lens.of rfl rfl rfl rfl rfl)
theorem iV (r:Rul) (s:Inn) (n:Int):Lens s (LD r s n).1:=by
 unfold LD;exact L_c _ _ _ (Lens.refl s) (L_c _ _ _ (Lens.refl s) (Lens.of rfl rfl rfl rfl rfl))
theorem gx (s:Inn) (n m:Int):Lens s (HU s n m).1:=by
 unfold HU;exact L_c _ _ _ (Lens.refl s) (L_c _ _ _ (Lens.of rfl rfl rfl rfl rfl) (Lens.of rfl rfl rfl rfl rfl))
theorem jT (r:Rul) (s:Inn) (n:Int) (b:Bool):Lens s (LY r s n b).1:=by
 unfold LY;exact L_c _ _ _ (Lens.refl s) (L_c _ _ _ (Lens.of rfl rfl rfl rfl rfl) (Lens.refl s))
theorem jV (r:Rul) (s:Inn) (n m:Int):Lens s (NV r s n m).1:=by
 unfold NV;exact L_c _ _ _ (Lens.refl s) (L_c _ _ _ (Lens.refl s) (L_c _ _ _ (Lens.refl s) (Lens.of rfl rfl rfl rfl rfl)))
theorem XB (r:Rul) (s:Inn) (e:Ev):Lens s (Ba r s e).1:=by
  unfold Ba;exact L_c _ _ _ (mq ..) (L_c _ _ _ (na ..) (L_c _ _ _ (mc ..) (L_c _ _ _ (L_c _ _ _ (gh ..) (mG ..)) (L_c _ _ _ (kG ..) (L_c _ _ _ (ir ..)
    (L_c _ _ _ (jq ..) (L_c _ _ _ (mX ..) (L_c _ _ _ (iB ..) (L_c _ _ _ (iV ..) (L_c _ _ _ (gx ..) (L_c _ _ _ (jT ..) (jV ..))))))))))))
def GQ (r:Rul) (s:Inn):Bool:=TW r.name r.side r.innings r.overs r.balls r.quota r.wide r.noball r.newball r.followon r.reviews r.outside r.power s.batters s.bowlers s.before s.bowled s.subs s.side s.target s.overs s.runs s.wickets s.wides s.noballs s.byes s.legbyes s.pens s.complete s.inover s.striker s.other s.bowler s.ballage s.keeper s.outside s.rev1 s.rev2 s.ending
def sn (r:Rul) (s:Inn):Int:=oT (GQ r s) s.batters s.striker s.other s.target s.overs s.runs s.complete
theorem R0 {N:Nat} {r8:Bool} {r0:ByteArray} {r13:Rows} {s18 s20:Bool} (h:Fit s14 s16 s17 s19 s24) (hN:2097152<N) (hs:r0.size≤1048576):BI N [.str r0,.int r1,.int r2,.int r3,.int r4,.int r5,.int r6,.int r7,.bool r8,.int r9,.int r10,.int r11,.int r12,.rows r13,.int s0,.int s1,.int s2,.int s3,.int s4,.int s5,.int s6,.int s7,.int s8,.int s9,.int s10,.int s11,.int s12,.int s13,.rows s14,.int s15,.rows s16,.rows s17,.bool s18,.rows s19,.bool s20,.int s21,.int s22,.int s23,.rows s24,.int s25,.int s26,.int s27]=some [.bool (GQ (⟨r0,r1,r2,r3,r4,r5,r6,r7,r8,r9,r10,r11,r12,r13⟩:Rul) (⟨s0,s1,s2,s3,s4,s5,s6,s7,s8,s9,s10,s11,s12,s13,s14,s15,s16,s17,s18,s19,s20,s21,s22,s23,s24,s25,s26,s27⟩:Inn))]:=by
 exact QU N _ _ _ _ _ _ _ _ _ _ _ _ _ _ _ _ _ _ _ _ _ _ _ _ _ _ _ _ _ _ _ _ _ _ _ _ _ _ _ _ _ _ hN hs h.bt h.bw h.bf h.bd
theorem Ym {N:Nat} {r8:Bool} {r0:ByteArray} {r13:Rows} {s18 s20:Bool} (h:Fit s14 s16 s17 s19 s24) (hN:2097152<N) (hs:r0.size≤1048576):DK N [.str r0,.int r1,.int r2,.int r3,.int r4,.int r5,.int r6,.int r7,.bool r8,.int r9,.int r10,.int r11,.int r12,.rows r13,.int s0,.int s1,.int s2,.int s3,.int s4,.int s5,.int s6,.int s7,.int s8,.int s9,.int s10,.int s11,.int s12,.int s13,.rows s14,.int s15,.rows s16,.rows s17,.bool s18,.rows s19,.bool s20,.int s21,.int s22,.int s23,.rows s24,.int s25,.int s26,.int s27]=some [.int (sn (⟨r0,r1,r2,r3,r4,r5,r6,r7,r8,r9,r10,r11,r12,r13⟩:Rul) (⟨s0,s1,s2,s3,s4,s5,s6,s7,s8,s9,s10,s11,s12,s13,s14,s15,s16,s17,s18,s19,s20,s21,s22,s23,s24,s25,s26,s27⟩:Inn))]:=by
 exact X0 N _ _ _ _ _ _ _ _ _ _ _ _ _ _ _ _ _ _ _ _ _ _ _ _ _ _ _ _ _ _ _ _ _ _ _ _ _ _ _ _ _ _ hN hs h.bt h.bw h.bf h.bd
def jM (t:Inn) (b:Bool):Inn:=⟨t.side,t.target,t.overs,t.runs,t.wickets,t.wides,t.noballs,t.byes,t.legbyes,t.pens,t.complete,t.inover,t.striker,t.other,t.batters,t.bowler,t.bowlers,t.before,b,t.bowled,t.freehit,t.ballage,t.keeper,t.outside,t.subs,t.rev1,t.rev2,t.ending⟩
def Bj (r:Rul) (t:Inn) (b:Bool):Inn:={ jM t b with ending:=cond (t.ending==0) (sn r (jM t b)) t.ending }
def Xf (s:Inn) (e:Ev):Bool:=e.kind==1||e.kind==12||e.kind==16||(!CW s.batters && !(e.kind==2))
def Am (r:Rul) (s:Inn) (e:Ev):Inn×Int :=
  cond (!GQ r s || !(evS e==0)) (s,1) (cond (!(s.ending==0)) (s,26) (cond (Xf s e) (s,1)
    (cond (!((Ba r s e).2==0)) (s,(Ba r s e).2) (Bj r (Ba r s e).1 (e.kind==4),0))))
set_option maxHeartbeats 4000000 in
theorem NG {N:Nat} {r8:Bool} {r0:ByteArray} {r13:Rows} {s18 s20:Bool} {e4 e12 e17:Bool} (h:Fit s14 s16 s17 s19 s24) (hw:s17.length+s16.length≤1000000) (hN:2097152<N) (hs:r0.size≤1048576) (h13:r13.length≤1048576):GT N [.str r0,.int r1,.int r2,.int r3,.int r4,.int r5,.int r6,.int r7,.bool r8,.int r9,.int r10,.int r11,.int r12,.rows r13,.int s0,.int s1,.int s2,.int s3,.int s4,.int s5,.int s6,.int s7,.int s8,.int s9,.int s10,.int s11,.int s12,.int s13,.rows s14,.int s15,.rows s16,.rows s17,.bool s18,.rows s19,.bool s20,.int s21,.int s22,.int s23,.rows s24,.int s25,.int s26,.int s27,.int e0,.int e1,.int e2,.int e3,.bool e4,.int e5,.int e6,.int e7,.int e8,.int e9,.int e10,.int e11,.bool e12,.int e13,.int e14,.int e15,.int e16,.bool e17,.int e18]=some (BK (Am (⟨r0,r1,r2,r3,r4,r5,r6,r7,r8,r9,r10,r11,r12,r13⟩:Rul) (⟨s0,s1,s2,s3,s4,s5,s6,s7,s8,s9,s10,s11,s12,s13,s14,s15,s16,s17,s18,s19,s20,s21,s22,s23,s24,s25,s26,s27⟩:Inn) (⟨e0,e1,e2,e3,e4,e5,e6,⟨e7,e8,e9,e10,e11,e12,e13,e14,e15,e16,e17,e18⟩⟩:Ev))):=by
 show Jj (std (CB N) N) (xOf _)=_;generalize hres:(some (BK (Am (⟨r0,r1,r2,r3,r4,r5,r6,r7,r8,r9,r10,r11,r12,r13⟩:Rul) (⟨s0,s1,s2,s3,s4,s5,s6,s7,s8,s9,s10,s11,s12,s13,s14,s15,s16,s17,s18,s19,s20,s21,s22,s23,s24,s25,s26,s27⟩:Inn) (⟨e0,e1,e2,e3,e4,e5,e6,⟨e7,e8,e9,e10,e11,e12,e13,e14,e15,e16,e17,e18⟩⟩:Ev))):Option (List PV))=RR;have l1:=XB (⟨r0,r1,r2,r3,r4,r5,r6,r7,r8,r9,r10,r11,r12,r13⟩:Rul) (⟨s0,s1,s2,s3,s4,s5,s6,s7,s8,s9,s10,s11,s12,s13,s14,s15,s16,s17,s18,s19,s20,s21,s22,s23,s24,s25,s26,s27⟩:Inn) (⟨e0,e1,e2,e3,e4,e5,e6,⟨e7,e8,e9,e10,e11,e12,e13,e14,e15,e16,e17,e18⟩⟩:Ev);have f1:=Qt l1 h (by simp only;omega);simp only [Jj,Ov,Nq,NW,Ni,FV,GA,lq9,std,xOf,PXb,R0 h hN hs,VD hN,B3 h,bH h.bt hN];subst hres;simp only [Am,Xf];cases GQ (⟨r0,r1,r2,r3,r4,r5,r6,r7,r8,r9,r10,r11,r12,r13⟩:Rul) (⟨s0,s1,s2,s3,s4,s5,s6,s7,s8,s9,s10,s11,s12,s13,s14,s15,s16,s17,s18,s19,s20,s21,s22,s23,s24,s25,s26,s27⟩:Inn)
 ·rfl
 cases he:evS (⟨e0,e1,e2,e3,e4,e5,e6,⟨e7,e8,e9,e10,e11,e12,e13,e14,e15,e16,e17,e18⟩⟩:Ev)==0
 ·simp only [PXb,PXc,PXn,PXm,Nat.reduceAdd,Int.reduceBEq,he]
 simp only [PXb,PXc,PXn,PXm,Nat.reduceAdd,Int.reduceBEq,he];cases s27==0<;>try rfl
 cases (e0==1||e0==12||e0==16)<;>cases CW s14<;>cases e0==2<;>try rfl
 all_goals (simp only [PXb,PXc,PXn,PXm,Nat.reduceAdd,Int.reduceBEq,FV,GA,Xy h hw hN hs h13 he,Ym f1 hN hs])
 all_goals (unfold Bj jM;cases (Ba (⟨r0,r1,r2,r3,r4,r5,r6,r7,r8,r9,r10,r11,r12,r13⟩:Rul) (⟨s0,s1,s2,s3,s4,s5,s6,s7,s8,s9,s10,s11,s12,s13,s14,s15,s16,s17,s18,s19,s20,s21,s22,s23,s24,s25,s26,s27⟩:Inn) (⟨e0,e1,e2,e3,e4,e5,e6,⟨e7,e8,e9,e10,e11,e12,e13,e14,e15,e16,e17,e18⟩⟩:Ev)).2==0<;>cases (Ba (⟨r0,r1,r2,r3,r4,r5,r6,r7,r8,r9,r10,r11,r12,r13⟩:Rul) (⟨s0,s1,s2,s3,s4,s5,s6,s7,s8,s9,s10,s11,s12,s13,s14,s15,s16,s17,s18,s19,s20,s21,s22,s23,s24,s25,s26,s27⟩:Inn) (⟨e0,e1,e2,e3,e4,e5,e6,⟨e7,e8,e9,e10,e11,e12,e13,e14,e15,e16,e17,e18⟩⟩:Ev)).1.ending==0<;>rfl)
theorem sN (L:Rows) (c:Nat):(cut L c).length≤c:=by
 unfold cut;rw [List.length_drop,List.length_take];cases h:iLt (c:Int) (L.length:Int) with
 | true=>simp only [cond_true];omega
 | false=>simp only [iLt,decide_eq_false_iff_not] at h;simp only [cond_false];omega
theorem je {s t:Inn} (r:Rul) (b:Bool) (h:Lens s t):Lens s (Bj r t b):=⟨h.bt,h.bd,h.sb,h.bw,h.bf⟩
theorem SV (r:Rul) (s:Inn) (e:Ev):Lens s (Am r s e).1:=by
 unfold Am;exact L_c _ _ _ (Lens.refl s) (L_c _ _ _ (Lens.refl s) (L_c _ _ _ (Lens.refl s) (L_c _ _ _ (Lens.refl s) (je r _ (XB r s e)))))
theorem QL {r : Rul} {s : Inn} {e : Ev} (h : ((Am r s e).2 == 0) = true) :
    GQ r s=true∧(evS e==0)=true∧(s.ending==0)=true∧Xf s e=false∧((Ba r s e).2==0)=true∧(Am r s e).1=Bj r (Ba r s e).1 (e.kind==4):=by
  unfold Am at h ⊢;cases hv:GQ r s with
  | false=>rw [hv] at h;cases h
  | true =>
    cases he:evS e==0 with
    | false=>rw [hv,he] at h;cases h
    | true =>
      cases hn:s.ending==0 with
      | false=>rw [hv,he,hn] at h;cases h
      | true =>
        cases hw:Xf s e with
        | true=>rw [hv,he,hn,hw] at h;cases h
        | false =>
          cases hp:(Ba r s e).2==0 with
          | false=>rw [hv,he,hn,hw,hp] at h;exact absurd (hp▸h) (by decide)
          | true=>exact ⟨rfl,rfl,rfl,rfl,rfl,rfl⟩
theorem S9 {x a b:Int}:btw x a b=true↔a≤x∧x≤b:=by simp [btw,iLe]
structure RulOk (r:Rul):Prop where
 side:2≤r.side∧r.side≤11
 innings:1≤r.innings∧r.innings≤2
 overs:0≤r.overs∧r.overs≤90
 balls:4≤r.balls∧r.balls≤8
 quota:0≤r.quota∧r.quota≤90
 wide:1≤r.wide∧r.wide≤5
 noball:1≤r.noball∧r.noball≤5
 newball:0≤r.newball∧r.newball≤200
 followon:0≤r.followon∧r.followon≤1000
 reviews:0≤r.reviews∧r.reviews≤9
 outside:0≤r.outside∧r.outside≤11
theorem EX {r:Rul} (h:BF r=0):RulOk r:=by
 unfold BF Lg at h;cases hn:W0 r.name with
 | false=>rw [hn] at h;cases h
 | true =>
  cases hr:Na r.side r.innings r.overs r.balls r.quota r.wide r.noball r.newball r.followon r.reviews r.outside with
  | false=>rw [hn,hr] at h;cases h
  | true =>
   unfold Na at hr;simp only [zzj,S9] at hr;obtain ⟨⟨⟨⟨⟨⟨⟨⟨⟨⟨h1,h2⟩,h3⟩,h4⟩,h5⟩,h6⟩,h7⟩,h8⟩,h9⟩,h10⟩,h11⟩:=hr;exact ⟨h1,h2,h3,h4,h5,h6,h7,h8,h9,h10,h11⟩
def Be (x:Int):Prop:=0≤x∧x≤1000000000
structure InnOk (r:Rul) (s:Inn):Prop where
 code:BF r=0
 side:1≤s.side∧s.side≤2
 lb:(s.batters.length:Int)=r.side
 ld:(s.bowled.length:Int)=r.side
 lz:(s.subs.length:Int)=r.side
 ending:s.ending≤5
 st:0≤s.striker∧s.striker≤r.side
 ot:0≤s.other∧s.other≤r.side
 bat:Xb s.batters s.striker s.other s.wickets=true
 bow:0≤s.bowler∧s.bowler≤r.side
 kee:0≤s.keeper∧s.keeper≤r.side
 dw:Kb s.bowlers r.side=true
 df:Kb s.before r.side=true
 ov:dJ r.overs s.overs=true
 io:0≤s.inover∧s.inover≤r.balls - 1
 target:Be s.target
 runs:Be s.runs
 wides:Be s.wides
 noballs:Be s.noballs
 byes:Be s.byes
 legbyes:Be s.legbyes
 pens:Be s.pens
 complete:Be s.complete
 ballage:Be s.ballage
 outside:Be s.outside
 rev1:Be s.rev1
 rev2:Be s.rev2
 bowled:J3 I8 s.bowled=false
theorem rQ {x:Int}:I8 x=false↔Be x:=by
 unfold I8 Be;rw [Bool.not_eq_false',S9]
theorem oy (a b c d e f g h i j k l:Int):J3 I8 (gI a b c d e f g h i j k l)=false↔Be a∧Be b∧Be c∧Be d∧Be e∧Be f∧Be g∧Be h∧Be i∧Be j∧Be k∧Be l:=by
 rw [NY];simp only [gI,List.any_cons,List.any_nil,Bool.or_false,eS,rP,Bool.or_eq_false_iff,rQ]
theorem Z0 {r:Rul} (h:RulOk r):IntKind.i64.wrap (r.balls - 1)=r.balls - 1:=by
 have:=h.balls;exact B9 (by omega) (by omega)
theorem kW {x:Int}:(!iLt 5 x)=true↔x≤5:=by
 rw [Bool.not_eq_true'];simp only [iLt,decide_eq_false_iff_not];omega
theorem JJ {r:Rul} {s:Inn}:GQ r s=true↔InnOk r s:=by
 unfold GQ TW;simp only [zzj,Bool.not_eq_true',oy,S9];constructor
 ·intro ⟨h1,h2,h3,h4,h5,h6,h7,h8,h9,h10,h11,h12,h13,h14,h15,⟨n1,n2,n3,n4,n5,n6,n7,n8,n9,n10,n11,n12⟩,h17⟩;have hc:BF r=0:=beq_iff_eq.1 h1;exact ⟨hc,h2,beq_iff_eq.1 h3,beq_iff_eq.1 h4,beq_iff_eq.1 h5,kW.1 (by rw [h6];rfl),h7,h8,h9,h10,h11,h12,h13,h14,by rw [Z0 (EX hc)] at h15;exact h15,n1,n2,n3,n4,n5,n6,n7,n8,n9,n10,n11,n12,h17⟩
 ·intro h;have h6:=kW.2 h.ending;rw [Bool.not_eq_true'] at h6;exact ⟨beq_iff_eq.2 h.code,h.side,beq_iff_eq.2 h.lb,beq_iff_eq.2 h.ld,beq_iff_eq.2 h.lz,h6,h.st,h.ot,h.bat,h.bow,h.kee,h.dw,h.df,h.ov,by rw [Z0 (EX h.code)];exact h.io,
   ⟨h.target,h.runs,h.wides,h.noballs,h.byes,h.legbyes,h.pens,h.complete,h.ballage,h.outside,h.rev1,h.rev2⟩,h.bowled⟩
theorem NK (n:Int):IntKind.i64.wrap n=(n+9223372036854775808) % 18446744073709551616 - 9223372036854775808:=by
 unfold IntKind.wrap;simp only [IntKind.signed,IntKind.bits];simp
 split<;>omega
theorem G9 (n:Int):IntKind.i64.wrap (IntKind.i64.wrap n)=IntKind.i64.wrap n:=by
 simp only [NK];omega
theorem LV (a b:Int):IntKind.i64.wrap (IntKind.i64.wrap (a+b) - a)=IntKind.i64.wrap b:=by
 simp only [NK];omega
theorem Va (a:Int):IntKind.i64.wrap (a - a)=0:=by rw [Int.sub_self];rfl
theorem Yp (s:Inn) (d:Del):(Aj s d).runs=s.runs∧(Aj s d).wides=s.wides∧(Aj s d).noballs=s.noballs∧(Aj s d).byes=s.byes∧(Aj s d).legbyes=s.legbyes∧(Aj s d).pens=s.pens∧(Aj s d).complete=s.complete∧(Aj s d).inover=s.inover∧(Aj s d).bowler=s.bowler∧(Aj s d).bowled=s.bowled:=by
  unfold Aj;cases (!(d.runs.tmod 2==0) != d.crossed)<;>exact P_c (P:=fun x:Inn=>x.runs=s.runs∧x.wides=s.wides∧x.noballs=s.noballs∧x.byes=s.byes∧x.legbyes=s.legbyes∧x.pens=s.pens∧x.complete=s.complete∧x.inover=s.inover∧x.bowler=s.bowler∧x.bowled=s.bowled) _ _ _ ⟨rfl,rfl,rfl,rfl,rfl,rfl,rfl,rfl,rfl,rfl⟩
    (P_c (P:=fun x:Inn=>x.runs=s.runs∧x.wides=s.wides∧x.noballs=s.noballs∧x.byes=s.byes∧x.legbyes=s.legbyes∧x.pens=s.pens∧x.complete=s.complete∧x.inover=s.inover∧x.bowler=s.bowler∧x.bowled=s.bowled) _ _ _ ⟨rfl,rfl,rfl,rfl,rfl,rfl,rfl,rfl,rfl,rfl⟩ ⟨rfl,rfl,rfl,rfl,rfl,rfl,rfl,rfl,rfl,rfl⟩)
def H5 (r:Rul) (s:Inn) (d:Del):Inn :=
 let o:=Ao r (Aj s d) (AD r d).counts
 let t:Inn:=cond o.2 (H0 o.1) o.1
 { t with runs:=IntKind.i64.wrap (s.runs+Es (AD r d)),wides:=IntKind.i64.wrap (s.wides+(AD r d).wides),noballs:=IntKind.i64.wrap (s.noballs+(AD r d).noballs),byes:=IntKind.i64.wrap (s.byes+(AD r d).byes),legbyes:=IntKind.i64.wrap (s.legbyes+(AD r d).legbyes),freehit:=cond (d.type==1) false (cond (d.type==3&&r.freehit) true o.1.freehit) }
theorem cj {r:Rul} {s:Inn} {d:Del} (h:((K0 r s d).2==0)=true):(Gq r s d==0)=true∧(K0 r s d).1=H5 r s d:=by
 unfold K0 at h ⊢;cases hr:Gq r s d==0 with
 | false=>rw [hr] at h;exact absurd (hr▸h) (by decide)
 | true =>
  refine ⟨rfl,?_⟩;obtain ⟨k1,k2,k3,k4,k5,_⟩:=Yp s d;simp only [Bool.not_true,cond_false,iU,k1,k2,k3,k4,k5,H5];generalize Ao r (Aj s d) (AD r d).counts=o;obtain ⟨o1,o2⟩:=o;cases o2<;>rfl
theorem XJ {r:Rul} {s:Inn} {d:Del} (h:(Gq r s d==0)=true):Gu s.batters s.striker s.other=false∧(s.bowler==0)=false∧(Qx r s==0)=true∧(D7 d==0)=true∧(Py d s.freehit==0)=true∧(RB s d==0)=true:=by
 unfold Gq at h;cases h1:Gu s.batters s.striker s.other with
 | true=>rw [h1] at h;cases h
 | false =>
  cases h2:s.bowler==0 with
  | true=>rw [h1,h2] at h;cases h
  | false =>
   rw [h1,h2] at h;change (Z3 _ _ _ _==0)=true at h;unfold Z3 at h;cases h3:Qx r s==0 with
   | false=>rw [h3] at h;exact absurd (h3▸h) (by decide)
   | true =>
    cases h4:D7 d==0 with
    | false=>rw [h3,h4] at h;exact absurd (h4▸h) (by decide)
    | true =>
     cases h5:Py d s.freehit==0 with
     | false=>rw [h3,h4,h5] at h;exact absurd (h5▸h) (by decide)
     | true =>
      cases h6:RB s d==0 with
      | false=>rw [h3,h4,h5,h6] at h;exact absurd (h6▸h) (by decide)
      | true=>exact ⟨rfl,rfl,rfl,rfl,rfl,rfl⟩
theorem Yc {d:Del} {f:Bool} (h:(Py d f==0)=true) (hd:(d.how==0)=false):(d.victim==1)=true∨(d.victim==2)=true:=by
 unfold Py at h;rw [hd] at h;cases h1:d.victim==1 with
 | true=>exact .inl rfl
 | false =>
  cases h2:d.victim==2 with
  | true=>exact .inr rfl
  | false =>
   rw [h1,h2] at h
   exfalso
   revert h
   cases (!onS d.how d.type||f && !fN d.how)<;>cases (!NZ d.how&&(!(d.source==0) || !(d.runs==0)))<;>intro h<;>cases h
theorem ZZ {s:Inn} {e:Ev} (h:Xf s e=false) (hk:(e.kind==2)=false):CW s.batters=true:=by
 unfold Xf at h;rw [hk] at h;cases hb:CW s.batters with
 | true=>rfl
 | false=>rw [hb] at h;simp at h
theorem kd {s : Inn} {d : Del} (h1 : (s.striker == 0) = false) (h2 : (s.other == 0) = false) (hv : (d.how == 0) = false → (d.victim == 1) = true ∨ (d.victim == 2) = true) :
    (Aj s d).wickets=cond (d.how==0) s.wickets (inc s.wickets):=by
  unfold Aj;rw [h1,h2];cases hd:d.how==0 with
  | true=>cases (!(d.runs.tmod 2==0) != d.crossed)<;>rfl
  | false =>
    rcases hv hd with h | h<;>rw [h]<;>cases (!(d.runs.tmod 2==0) != d.crossed)<;>cases d.victim==1<;>rfl
theorem kr (r:Rul) (s:Inn) (b:Bool):(Ao r s b).1.wickets=s.wickets∧(Ao r s b).1.pens=s.pens:=by
 unfold Ao;exact P_c (P:=fun x:Inn×Bool=>x.1.wickets=s.wickets∧x.1.pens=s.pens) _ _ _ ⟨rfl,rfl⟩ (P_c (P:=fun x:Inn×Bool=>x.1.wickets=s.wickets∧x.1.pens=s.pens) _ _ _ ⟨rfl,rfl⟩ ⟨rfl,rfl⟩)
theorem lP {r : Rul} {s : Inn} {b : Bool} (hr : RulOk r) (hc : BF r = 0) (hb : inR s.bowler s.bowled.length = true) (hi : 0 ≤ s.inover ∧ s.inover ≤ r.balls - 1) (hn : Be s.complete) :
    IntKind.i64.wrap (CY r.balls (Ao r s b).1.complete (Ao r s b).1.inover - CY r.balls s.complete s.inover)=cond b 1 0:=by
  have hk:∃ k:Nat,r.balls=k:=⟨r.balls.toNat,by have:=hr.balls;omega⟩;have hz:=hr.balls;unfold Be at hn;unfold Ao CY;rw [hb,hc];cases b with
  | false =>
    have h1:iLt s.inover r.balls=true:=by simp only [iLt,decide_eq_true_eq];omega
    simp only [cond_false,h1,beq_self_eq_true,Bool.not_true,Bool.or_false,cond_true];exact Va _
  | true =>
    have h2:inc s.inover=s.inover+1:=B9 (by omega) (by omega);simp only [cond_true,h2,beq_self_eq_true,Bool.not_true,Bool.or_false,cond_false];have h3:inc s.complete=s.complete+1:=B9 (by omega) (by omega);have hb5:r.balls=4∨r.balls=5∨r.balls=6∨r.balls=7∨r.balls=8:=by omega
    cases h1:iLt (s.inover+1) r.balls with
    | true =>
      simp only [cond_true]
      rcases hb5 with e | e | e | e | e<;>rw [e] at hi ⊢<;>simp only [NK]<;>omega
    | false =>
      simp only [iLt,decide_eq_false_iff_not] at h1;simp only [cond_false,h3]
      rcases hb5 with e | e | e | e | e<;>rw [e] at hi h1 ⊢<;>simp only [NK]<;>omega
theorem Yq {L:Rows} {s n:Int} (h:Gu L s n=false) (hb:CW L=true):(s==0)=false∧(n==0)=false:=by
 unfold Gu at h;rw [hb,Bool.true_and,Bool.or_eq_false_iff] at h;exact h
theorem oG {r:Rul} {s:Inn} (h:InnOk r s) (hb:(s.bowler==0)=false):inR s.bowler s.bowled.length=true:=by
 have h1:=h.bow;have h2:=h.ld;rw [beq_eq_false_iff_ne] at hb;simp only [inR,iLe,zzj,decide_eq_true_eq];omega
theorem mw {r : Rul} {s : Inn} {e : Ev} (hk : (e.kind == 4) = true) (h : ((Am r s e).2 == 0) = true) :
    IntKind.i64.wrap ((Am r s e).1.runs - s.runs)=Es (AD r e.ball)∧IntKind.i64.wrap ((Am r s e).1.wides - s.wides)=(AD r e.ball).wides∧IntKind.i64.wrap ((Am r s e).1.noballs - s.noballs)=(AD r e.ball).noballs ∧
    IntKind.i64.wrap ((Am r s e).1.byes - s.byes)=(AD r e.ball).byes∧IntKind.i64.wrap ((Am r s e).1.legbyes - s.legbyes)=(AD r e.ball).legbyes∧(Am r s e).1.pens=s.pens ∧
    IntKind.i64.wrap (CY r.balls (Am r s e).1.complete (Am r s e).1.inover - CY r.balls s.complete s.inover)=cond (AD r e.ball).counts 1 0 ∧
    IntKind.i64.wrap ((Am r s e).1.wickets - s.wickets)=cond (e.ball.how==0) 0 1∧(Am r s e).1.fresh=true∧IntKind.i64.wrap (Am r s e).1.runs=(Am r s e).1.runs:=by
  obtain ⟨hv,he,hn,hw,hp,hs⟩:=QL h;have k4:=beq_iff_eq.1 hk;have hpb:Ba r s e=K0 r s e.ball:=by unfold Ba;rw [k4];rfl
  obtain ⟨d,hd0⟩:∃ d,d=e.ball:=⟨_,rfl⟩;rw [← hd0] at hpb ⊢;rw [hpb] at hp hs;obtain ⟨hr,hb⟩:=cj hp;obtain ⟨q1,q2,q3,q4,q5,q6⟩:=XJ hr;have ok:=JJ.1 hv;have rk:=EX ok.code;have hbeg:CW s.batters=true:=ZZ hw (by rw [k4];rfl);obtain ⟨z1,z2⟩:=Yq q1 hbeg;have hin:=oG ok q2;have hout:=kd (d:=d) z1 z2 (fun hd=>Yc q5 hd);obtain ⟨k1,k2,k3,k4,k5,k6,k7,k8,k9,k10⟩:=Yp s d;have hbl:=lP (b:=(AD r d).counts) (s:=Aj s d) rk ok.code (by rw [k9,k10];exact hin) (by rw [k8];exact ok.io) (by rw [k7];exact ok.complete);rw [k7,k8] at hbl;obtain ⟨w1,w2⟩:=kr r (Aj s d) (AD r d).counts;rw [hs,hb];have hc:AD r d=Ro r d:=by unfold AD;rw [q4];rfl
  have ht:IntKind.i64.wrap (Es (AD r d))=Es (AD r d):=G9 _;have c1:IntKind.i64.wrap (AD r d).wides=(AD r d).wides:=by rw [hc];unfold Ro;simp only;cases d.type==2<;>first | rfl | exact G9 _
  have c2:IntKind.i64.wrap (AD r d).noballs=(AD r d).noballs:=by
    have:=rk.noball;rw [hc];unfold Ro;simp only;cases d.type==3<;>first | rfl | exact B9 (n:=r.noball) (by omega) (by omega)
  have c3:IntKind.i64.wrap (AD r d).byes=(AD r d).byes:=by rw [hc];unfold Ro;simp only;cases (!(d.type==2)&&d.source==2)<;>first | rfl | exact G9 _
  have c4:IntKind.i64.wrap (AD r d).legbyes=(AD r d).legbyes:=by rw [hc];unfold Ro;simp only;cases (!(d.type==2)&&d.source==3)<;>first | rfl | exact G9 _
  refine ⟨(LV _ _).trans ht,(LV _ _).trans c1,(LV _ _).trans c2,(LV _ _).trans c3,(LV _ _).trans c4,?_,?_,?_,hk,G9 _⟩
  · have : (Bj r (H5 r s d) (e.kind == 4)).pens = (Ao r (Aj s d) (AD r d).counts).1.pens := by
      show (cond (Ao r (Aj s d) (AD r d).counts).2 (H0 (Ao r (Aj s d) (AD r d).counts).1) (Ao r (Aj s d) (AD r d).counts).1).pens=_;cases (Ao r (Aj s d) (AD r d).counts).2<;>rfl
    rw [this,w2,k6]
  · have e1 : (Bj r (H5 r s d) (e.kind == 4)).complete = (Ao r (Aj s d) (AD r d).counts).1.complete := by
      show (cond (Ao r (Aj s d) (AD r d).counts).2 (H0 (Ao r (Aj s d) (AD r d).counts).1) (Ao r (Aj s d) (AD r d).counts).1).complete=_;cases (Ao r (Aj s d) (AD r d).counts).2<;>rfl
    have e2:(Bj r (H5 r s d) (e.kind==4)).inover=(Ao r (Aj s d) (AD r d).counts).1.inover:=by
      show (cond (Ao r (Aj s d) (AD r d).counts).2 (H0 (Ao r (Aj s d) (AD r d).counts).1) (Ao r (Aj s d) (AD r d).counts).1).inover=_;cases (Ao r (Aj s d) (AD r d).counts).2<;>rfl
    rw [e1,e2,hbl]
  · have : (Bj r (H5 r s d) (e.kind == 4)).wickets = (Ao r (Aj s d) (AD r d).counts).1.wickets := by
      show (cond (Ao r (Aj s d) (AD r d).counts).2 (H0 (Ao r (Aj s d) (AD r d).counts).1) (Ao r (Aj s d) (AD r d).counts).1).wickets=_;cases (Ao r (Aj s d) (AD r d).counts).2<;>rfl
    rw [this,w1,hout];unfold inc;cases d.how==0 with
    | true=>exact Va _
    | false=>exact (LV s.wickets 1).trans rfl
def qL:Inn:=⟨0,0,0,0,0,0,0,0,0,0,0,0,0,0,[],0,[],[],false,[],false,0,0,0,[],0,0,0⟩
def tP (n:Nat) (overs side t p:Int):Inn:=⟨side,t,overs,p,0,0,0,0,0,p,0,0,0,0,List.replicate n [.int 0],0,[],[],false,List.replicate n [.int 0],false,0,0,0,List.replicate n [.bool false],0,0,0⟩
def CR (r:Rul) (side t p:Int):Inn×Int :=
 cond (!(BF r==0)) (qL,BF r) (cond (!btw side 1 2 || !btw t 0 1000000 || !btw p 0 1000000) (qL,2) (tP r.side.toNat r.overs side t p,0))
theorem SD {N:Nat} {r8:Bool} {r0:ByteArray} {r13:Rows} {a:Int} {b:Int} {c:Int} (hN:2097152<N) (hs:r0.size≤1048576):Fb N [.str r0,.int r1,.int r2,.int r3,.int r4,.int r5,.int r6,.int r7,.bool r8,.int r9,.int r10,.int r11,.int r12,.rows r13,.int a,.int b,.int c]=some (BK (CR (⟨r0,r1,r2,r3,r4,r5,r6,r7,r8,r9,r10,r11,r12,r13⟩:Rul) a b c)):=by
 show IH (std (GO N) N) (xOf _)=_;generalize hres:(some (BK (CR (⟨r0,r1,r2,r3,r4,r5,r6,r7,r8,r9,r10,r11,r12,r13⟩:Rul) a b c)):Option (List PV))=RR;simp only [IH,Oi,Lj,lq9,std,xOf,PXb,C2 hN hs,Dh];subst hres;simp only [CR];cases hc:BF (⟨r0,r1,r2,r3,r4,r5,r6,r7,r8,r9,r10,r11,r12,r13⟩:Rul)==0 with
 | false=>rfl
 | true =>
  have rk:=(EX (beq_iff_eq.1 hc)).side;obtain ⟨k,hk⟩:∃ k:Nat,r1=k:=⟨r1.toNat,by simp only at rk;omega⟩;subst hk;simp only at rk;have h1:iSm (k:Int) 1=true:=ID (by omega) (by omega);have h8:iSm (k:Int) 8=true:=ID (by omega) (by omega);simp only [PXb,PXc,PXn,PXm,Nat.reduceAdd,Int.reduceBEq,h1,h8];cases btw a 1 2<;>cases btw b 0 1000000<;>cases btw c 0 1000000<;>rfl
theorem Pz (r:Rul) (side t p:Int):(CR r side t p).1.Fit∧(CR r side t p).1.before=[]∧(CR r side t p).1.bowlers=[]:=by
 unfold CR;cases hc:BF r==0 with
 | false=>exact ⟨⟨by show 0≤1048576;omega,by show 0≤1048576;omega,by show 0≤1048576;omega,by show 0≤1048576;omega,by show 0≤1048576;omega⟩,rfl,rfl⟩
 | true =>
  have hs:=(EX (beq_iff_eq.1 hc)).side;have hl:∀ x:List PV,(List.replicate r.side.toNat x).length≤1048576:=fun x=>by rw [List.length_replicate];omega
  cases (!btw side 1 2 || !btw t 0 1000000 || !btw p 0 1000000) with
  | true=>exact ⟨⟨by show 0≤1048576;omega,by show 0≤1048576;omega,by show 0≤1048576;omega,by show 0≤1048576;omega,by show 0≤1048576;omega⟩,rfl,rfl⟩
  | false=>exact ⟨⟨hl _,by show 0≤1048576;omega,by show 0≤1048576;omega,hl _,hl _⟩,rfl,rfl⟩
theorem qr {s:Inn} (h:s.Fit):(PH s).Fit:=⟨h.bt,h.bw,h.bf,h.bd,h.sb⟩
structure BatOk (L:Rows) (s n wk:Int):Prop where
 le:∀ i,i<L.length→atI L i 0≤3
 at1:∀ i,i<L.length→(atI L i 0=1↔(s=(i:Int)+1∨n=(i:Int)+1))
 here:CW L=true→s≠0∨n≠0
 ne:s≠0→s≠n
 wk:wk=ZU L
theorem rm {r:Rul} {s:Inn} (h:InnOk r s):2≤r.side∧r.side≤11:=(EX h.code).side
theorem oD {s:Inn} {p:Int} {hurt:Bool} (h:((FG s p hurt).2==0)=true):inR p s.batters.length=true∧s.striker≠0∧s.other≠0∧(p=s.striker∨p=s.other)∧(hurt&&((DP s.batters s.batters.length).length:Int)==0)=false:=by
 unfold FG at h;cases h1:inR p s.batters.length with
 | false=>rw [h1] at h;cases h
 | true =>
  cases h2:s.striker==0 with
  | true=>rw [h1,h2] at h;cases h
  | false =>
   cases h3:s.other==0 with
   | true=>rw [h1,h2,h3] at h;cases h
   | false =>
    cases h4:(!(p==s.striker) && !(p==s.other)) with
    | true=>rw [h1,h2,h3,h4] at h;cases h
    | false =>
     cases h5:(hurt&&((DP s.batters s.batters.length).length:Int)==0) with
     | true=>rw [h1,h2,h3,h4,h5] at h;cases h
     | false =>
      refine ⟨rfl,beq_eq_false_iff_ne.1 h2,beq_eq_false_iff_ne.1 h3,?_,rfl⟩;rw [Bool.and_eq_false_iff,Bool.not_eq_false',Bool.not_eq_false',beq_iff_eq,beq_iff_eq] at h4;exact h4
structure Small (s:Inn):Prop where
 target:s.target≤999999900
 runs:s.runs≤999999900
 wides:s.wides≤999999900
 noballs:s.noballs≤999999900
 byes:s.byes≤999999900
 legbyes:s.legbyes≤999999900
 pens:s.pens≤999999900
 complete:s.complete≤999999900
 ballage:s.ballage≤999999900
 rev1:s.rev1≤999999900
 rev2:s.rev2≤999999900
 bowled:∀ j,j<s.bowled.length→atI s.bowled j 0≤999999900
end Go.Px
end
