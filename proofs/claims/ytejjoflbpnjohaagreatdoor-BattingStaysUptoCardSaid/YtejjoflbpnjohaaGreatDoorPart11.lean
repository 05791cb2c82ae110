/- Part 11. -/
import Derived.Test.YtejjoflbpnjohaaGreatDoorPart10
set_option linter.unusedVariables false
set_option linter.unusedSimpArgs false
variable {s0 s1 s2 s3 s4 s5 s6 s7 s8 s9 s10 s11 s12 s13 s15 s21 s22 s23 s25 s26 s27:Int}
variable {s14 s16 s17 s19 s24:Go.Px.Rows}
variable {r1 r2 r3 r4 r5 r6 r7 r9 r10 r11 r12:Int}
variable {d0 d1 d2 d3 d4 d6 d7 d8 d9 d11:Int}
variable {e0 e1 e2 e3 e5 e6 e7 e8 e9 e10 e11 e13 e14 e15 e16 e18:Int}
section
namespace Go.Px
set_option maxRecDepth 100000
theorem Ws {N:Nat} {a:Int} {b:Int} {c:Int}  : Dg N [.int a,.int b,.int c]=some [.bool (btw a b c)]:=by
 show JY (std (L5 N) N) (xOf _)=_;show some [PV.bool (cond (iLe b a) (iLe a c) false)]=_;rw [bL];rfl
theorem bF {N:Nat} {a:Int} {b:Int} {c:Int}  : F7 N [.int a,.int b,.int c]=some [.bool (btw a b c)]:=by
 show MR (std (PF N) N) (xOf _)=_;show some [PV.bool (cond (iLe b a) (iLe a c) false)]=_;rw [bL];rfl
def em (d:Del):Int :=
  cond (iLt d.type 1||iLt 3 d.type||iLt 3 d.source||iLt 10 d.how) 3
    (cond (!btw d.runs 0 7 || !btw d.short 0 d.runs||(!(d.boundary==0) && !(d.boundary==4) && !(d.boundary==6)) || !btw d.victim 0 2 || !btw d.fielder 0 11 || !btw d.second 0 11 || !btw d.sector 0 8) 2 0)
theorem Y8 {N:Nat} {d5 d10:Bool}  : E0 N [.int d0,.int d1,.int d2,.int d3,.int d4,.bool d5,.int d6,.int d7,.int d8,.int d9,.bool d10,.int d11]=some [.int (em (⟨d0,d1,d2,d3,d4,d5,d6,d7,d8,d9,d10,d11⟩:Del))]:=by
 show Hd (std (I1 N) N) (xOf _)=_;generalize hres:(some [.int (em (⟨d0,d1,d2,d3,d4,d5,d6,d7,d8,d9,d10,d11⟩:Del))]:Option (List PV))=RR;simp only [Hd,KN,lq9,std,xOf,PXb,PXc,PXn,PXm,Nat.reduceAdd,Int.reduceBEq,Ws];subst hres;simp only [em]
def loS (k:Int):Int:=cond (k==7) 0 (cond (k==13) 1 0)
def hiS (k:Int):Int:=cond (k==7) 11 (cond (k==13) 99 100000)
theorem cf {N:Nat} {k:Int}  : G8 N [.int k]=some [.int (loS k),.int (hiS k)]:=by
 show Jk (std (Q6 N) N) (xOf _)=_;simp only [Jk,lq9,std,xOf,PXb,PXc,PXn,PXm,Nat.reduceAdd,Int.reduceBEq];unfold loS hiS;cases k==7<;>cases k==13<;>rfl
def uS (k:Int):Bool:=k==1||k==12||k==14||k==11||k==13
def uP (k:Int):Bool:=k==2||k==3||k==8||k==5||k==6||k==9
def uO (k:Int):Bool:=k==2
def uY (k:Int):Bool:=k==1||k==12||k==14||k==5||k==6||k==9
def uR (k:Int):Bool:=k==7||k==13||k==15
def uV (k:Int):Bool:=k==15
def uB (k:Int):Bool:=k==4
theorem cA {k:Int} (h:(iLt k 1||iLt 16 k)=false):k=1∨k=2∨k=3∨k=4∨k=5∨k=6∨k=7∨k=8∨k=9∨k=10∨k=11∨k=12∨k=13∨k=14∨k=15∨k=16:=by
 simp only [iLt,Bool.or_eq_false_iff,decide_eq_false_iff_not] at h;omega
def lT:Rows:=match Fa 0 [] with
 | some [.rows l]=>l
 | _=>[]
theorem eZ {N:Nat}:Fa N []=some [.rows lT]:=rfl
def DJ (k f:Int):Bool:=iLe 0 (Lib.indexByte (pvS (AF lT (IntKind.u8.wrap (k - 1)).toNat 1)).data.toList f.toNat.toUInt8)||(k==5&&f==121)
theorem VT {N:Nat} {s:ByteArray} {f:Int}  : DM N [.str s,.int f]=some [.int (Lib.indexByte s.data.toList f.toNat.toUInt8)]:=by
 show FJ (std (Gb N) N) (xOf _)=_;simp only [FJ,HE,lq9,std,xOf,PXb,PXc,PXn,PXm,Nat.reduceAdd,Int.reduceBEq,CR,Zb]
theorem Vo {N:Nat} {k:Int} {f:Int} (h:(iLt k 1||iLt 16 k)=false):I7 N [.int k,.int f]=some [.bool (DJ k f)]:=by
 show MG (std (Jw N) N) (xOf _)=_;have hi:iIn (IntKind.u8.wrap (k - 1)) (lT.length:Int)=true:=by
  rcases cA h with h | h | h | h | h | h | h | h | h | h | h | h | h | h | h | h<;>subst h<;>rfl
 simp only [MG,MC,QC,lq9,std,xOf,PXb,PXc,PXn,PXm,Nat.reduceAdd,Int.reduceBEq,eZ,VT,hi,DJ]
theorem sW {k:Int} (h:(iLt k 1||iLt 16 k)=false):DJ k 115=uS k∧DJ k 112=uP k∧DJ k 111=uO k∧DJ k 121=uY k∧DJ k 114=uR k∧DJ k 118=uV k∧DJ k 98=uB k:=by
 rcases cA h with h | h | h | h | h | h | h | h | h | h | h | h | h | h | h | h<;>subst h<;>exact ⟨rfl,rfl,rfl,rfl,rfl,rfl,rfl⟩
def ku (d:Del):Bool:=d.type==0&&(d.source==0&&(d.runs==0&&(d.short==0&&(d.boundary==0&&(d.crossed==false&&(d.how==0&&(d.victim==0&&(d.fielder==0&&(d.second==0&&(d.sub==false&&d.sector==0))))))))))
def fa (e:Ev):Bool:=(!(e.side==0) && !uS e.kind)||((!(e.player==0) && !uP e.kind)||((!(e.other==0) && !uO e.kind)||((e.yes && !uY e.kind)||((!(e.runs==0) && !uR e.kind)||((!(e.overs==0) && !uV e.kind)||(!ku e.ball && !uB e.kind))))))
def Y0 (e:Ev):Bool:=(!btw e.side 1 2&&uS e.kind)||((!btw e.player 1 11&&uP e.kind)||((!btw e.other 1 11&&uO e.kind)||((!btw e.runs (loS e.kind) (hiS e.kind)&&uR e.kind)||(!btw e.overs 0 90&&uV e.kind))))
def evS (e:Ev):Int:=cond (iLt e.kind 1||iLt 16 e.kind) 3 (cond (fa e) 1 (cond (Y0 e) 2 (cond (e.kind==4) (em e.ball) 0)))
def evT (e:Ev):Rows:=[[.int 115,.bool (e.side==0),.bool (btw e.side 1 2)],[.int 112,.bool (e.player==0),.bool (btw e.player 1 11)],[.int 111,.bool (e.other==0),.bool (btw e.other 1 11)],[.int 121,.bool (!e.yes),.bool true],[.int 114,.bool (e.runs==0),.bool (btw e.runs (loS e.kind) (hiS e.kind))],[.int 118,.bool (e.overs==0),.bool (btw e.overs 0 90)],[.int 98,.bool (ku e.ball),.bool true]]
theorem Uu {N:Nat} {e4 e12 e17:Bool} (hN:2097152<N):DE N [.int e0,.int e1,.int e2,.int e3,.bool e4,.int e5,.int e6,.int e7,.int e8,.int e9,.int e10,.int e11,.bool e12,.int e13,.int e14,.int e15,.int e16,.bool e17,.int e18]=some [.int (evS (⟨e0,e1,e2,e3,e4,e5,e6,⟨e7,e8,e9,e10,e11,e12,e13,e14,e15,e16,e17,e18⟩⟩:Ev))]:=by
 show Hx (std (D2 N) N) (xOf _)=_;generalize hres:(some [.int (evS (⟨e0,e1,e2,e3,e4,e5,e6,⟨e7,e8,e9,e10,e11,e12,e13,e14,e15,e16,e17,e18⟩⟩:Ev))]:Option (List PV))=RR;cases hk:iLt e0 1||iLt 16 e0 with
 | true =>
  simp only [Hx,H1,HH,I4,DY,lq9,std,xOf,PXb,PXc,AH,hk,← hres,evS]
 | false =>
  simp only [Hx,H1,HH,I4,DY,lq9,std,xOf,PXb,PXc,AH,hk,cf,bF];subst hres;obtain ⟨g1,g2,g3,g4,g5,g6,g7⟩:=sW hk;refine Ae (LQ (len:=7) (fun i => !pvB (AF (evT (⟨e0,e1,e2,e3,e4,e5,e6,⟨e7,e8,e9,e10,e11,e12,e13,e14,e15,e16,e17,e18⟩⟩:Ev)) i 1) && !DJ e0 (pvI (AF (evT (⟨e0,e1,e2,e3,e4,e5,e6,⟨e7,e8,e9,e10,e11,e12,e13,e14,e15,e16,e17,e18⟩⟩:Ev)) i 0))) [.int 1] ?_ ?_ N (by omega)) ?_
  ·intro self;rfl
  ·intro i self hi;simp only [PXb,PXc,AH,BG (show i≤1099511627776 by omega),List.length_cons,List.length_nil,Nat.reduceAdd,A5 hi,Ab hi,Vo hk];change cond (!pvB (AF (evT (⟨e0,e1,e2,e3,e4,e5,e6,⟨e7,e8,e9,e10,e11,e12,e13,e14,e15,e16,e17,e18⟩⟩:Ev)) i 1) && !(!pvB (AF (evT (⟨e0,e1,e2,e3,e4,e5,e6,⟨e7,e8,e9,e10,e11,e12,e13,e14,e15,e16,e17,e18⟩⟩:Ev)) i 1)&&DJ e0 (pvI (AF (evT (⟨e0,e1,e2,e3,e4,e5,e6,⟨e7,e8,e9,e10,e11,e12,e13,e14,e15,e16,e17,e18⟩⟩:Ev)) i 0)))) _ _=_;cases pvB (AF (evT (⟨e0,e1,e2,e3,e4,e5,e6,⟨e7,e8,e9,e10,e11,e12,e13,e14,e15,e16,e17,e18⟩⟩:Ev)) i 1)<;>rfl
  ·have a1:Bg (fun i => !pvB (AF (evT (⟨e0,e1,e2,e3,e4,e5,e6,⟨e7,e8,e9,e10,e11,e12,e13,e14,e15,e16,e17,e18⟩⟩:Ev)) i 1) && !DJ e0 (pvI (AF (evT (⟨e0,e1,e2,e3,e4,e5,e6,⟨e7,e8,e9,e10,e11,e12,e13,e14,e15,e16,e17,e18⟩⟩:Ev)) i 0))) 7 0=fa (⟨e0,e1,e2,e3,e4,e5,e6,⟨e7,e8,e9,e10,e11,e12,e13,e14,e15,e16,e17,e18⟩⟩:Ev):=by
    simp only [Bo,JP];change (!(e1==0) && !DJ e0 115||(!(e2==0) && !DJ e0 112||(!(e3==0) && !DJ e0 111||(!(!e4) && !DJ e0 121||(!(e5==0) && !DJ e0 114||(!(e6==0) && !DJ e0 118||(!(ku (⟨e0,e1,e2,e3,e4,e5,e6,⟨e7,e8,e9,e10,e11,e12,e13,e14,e15,e16,e17,e18⟩⟩:Ev).ball) && !DJ e0 98||false)))))))=_;rw [g1,g2,g3,g4,g5,g6,g7,Bool.not_not,Bool.or_false];rfl
   rw [a1];simp only [evS,hk,cond_false];cases fa (⟨e0,e1,e2,e3,e4,e5,e6,⟨e7,e8,e9,e10,e11,e12,e13,e14,e15,e16,e17,e18⟩⟩:Ev) with
   | true=>rfl
   | false =>
    simp only [PXb,PXc,AH];refine Ae (LQ (len:=7) (fun i => !pvB (AF (evT (⟨e0,e1,e2,e3,e4,e5,e6,⟨e7,e8,e9,e10,e11,e12,e13,e14,e15,e16,e17,e18⟩⟩:Ev)) i 2)&&DJ e0 (pvI (AF (evT (⟨e0,e1,e2,e3,e4,e5,e6,⟨e7,e8,e9,e10,e11,e12,e13,e14,e15,e16,e17,e18⟩⟩:Ev)) i 0))) [.int 2] ?_ ?_ N (by omega)) ?_
    ·intro self;rfl
    ·intro i self hi;simp only [PXb,PXc,AH,BG (show i≤1099511627776 by omega),List.length_cons,List.length_nil,Nat.reduceAdd,A5 hi,Ab hi,Vo hk];rfl
    ·have a2:Bg (fun i => !pvB (AF (evT (⟨e0,e1,e2,e3,e4,e5,e6,⟨e7,e8,e9,e10,e11,e12,e13,e14,e15,e16,e17,e18⟩⟩:Ev)) i 2)&&DJ e0 (pvI (AF (evT (⟨e0,e1,e2,e3,e4,e5,e6,⟨e7,e8,e9,e10,e11,e12,e13,e14,e15,e16,e17,e18⟩⟩:Ev)) i 0))) 7 0=Y0 (⟨e0,e1,e2,e3,e4,e5,e6,⟨e7,e8,e9,e10,e11,e12,e13,e14,e15,e16,e17,e18⟩⟩:Ev):=by
      simp only [Bo,JP];change (!(btw e1 1 2)&&DJ e0 115||(!(btw e2 1 11)&&DJ e0 112||(!(btw e3 1 11)&&DJ e0 111||(!true&&DJ e0 121||(!(btw e5 (loS e0) (hiS e0))&&DJ e0 114||(!(btw e6 0 90)&&DJ e0 118||(!true&&DJ e0 98||false)))))))=_;rw [g1,g2,g3,g4,g5,g6,g7];simp only [Bool.not_true,Bool.false_and,Bool.false_or,Bool.or_false];rfl
     rw [a2];cases Y0 (⟨e0,e1,e2,e3,e4,e5,e6,⟨e7,e8,e9,e10,e11,e12,e13,e14,e15,e16,e17,e18⟩⟩:Ev) with
     | true=>rfl
     | false =>
      simp only [PXb,PXc,PXn,PXm,Nat.reduceAdd,Int.reduceBEq,DY,Y8]
theorem c4 {c x x' y y':Bool} {a b d z z':Int} (h1:x=x') (h2:y=y') (h3:z=z'):(some [PV.int (cond c a (cond x b (cond y d z)))]:Option (List PV))=some [PV.int (cond c a (cond x' b (cond y' d z')))]:=by subst h1;subst h2;subst h3;rfl
structure Lens (s t:Inn):Prop where
 bt:t.batters.length=s.batters.length
 bd:t.bowled.length=s.bowled.length
 sb:t.subs.length=s.subs.length
 bw:t.bowlers.length≤s.bowlers.length+1
 bf:t.before.length≤s.before.length+s.bowlers.length+1
theorem Lens.refl (s:Inn):Lens s s:=⟨rfl,rfl,rfl,by omega,by omega⟩
theorem P_c {α:Type} {P:α→Prop} (b:Bool) (x y:α) (hx:P x) (hy:P y):P (cond b x y):=by cases b<;>assumption
theorem fk (s:Inn) (d:Del):Lens s (Ak s d):=by
 have hb:∀ (b:Bool),(cond b (ND s.batters s.striker 2) s.batters).length=s.batters.length:=fun b=>by cases b<;>simp [LT]
 have hc:∀ (b:Bool),(cond b (ND s.batters s.other 2) s.batters).length=s.batters.length:=fun b=>by cases b<;>simp [LT]
 unfold Ak;cases (!(d.runs.tmod 2==0) != d.crossed)<;>refine P_c _ _ _ ⟨hb _,rfl,rfl,?_,?_⟩ (P_c _ _ _ ⟨hc _,rfl,rfl,?_,?_⟩ ⟨rfl,rfl,rfl,?_,?_⟩)<;>simp<;>omega
theorem eA (r:Rul) (s:Inn) (c:Bool):Lens s (Ap r s c).1:=by
 have hl:(cond (J5 s.bowlers s.bowlers.length s.bowler) s.bowlers (s.bowlers++[[.int s.bowler]])).length≤s.bowlers.length+1:=by
  cases J5 s.bowlers s.bowlers.length s.bowler<;>simp
 have hd:(cond c (ND s.bowled s.bowler (inc (atI s.bowled (ix s.bowler) 0))) s.bowled).length=s.bowled.length:=by cases c<;>simp [LT]
 unfold Ap;refine P_c (P:=fun x:Inn×Bool=>Lens s x.1) _ _ _ (Lens.refl s) (P_c (P:=fun x:Inn×Bool=>Lens s x.1) _ _ _ ⟨rfl,hd,rfl,hl,by simp;omega⟩ ⟨rfl,hd,rfl,by simp,?_⟩);simp only;omega
def bK (a b c d:Int):Int:=cond (!(a==0)) a (cond (!(b==0)) b (cond (!(c==0)) c (cond (!(d==0)) d 0)))
def Gg (r:Rul) (s:Inn) (d:Del):Int :=
 cond (Gz s.batters s.striker s.other) 6 (cond (s.bowler==0) 7 (bK (RC r s) (EZ d) (Pf d s.freehit) (QH s d)))
theorem XW {N:Nat} {r8:Bool} {r0:ByteArray} {r13:Rows} {s18 s20:Bool} {d5 d10:Bool} (h:Fit s14 s16 s17 s19 s24) (hN:2097152<N) (h13:r13.length≤1048576):EV N [.str r0,.int r1,.int r2,.int r3,.int r4,.int r5,.int r6,.int r7,.bool r8,.int r9,.int r10,.int r11,.int r12,.rows r13,.int s0,.int s1,.int s2,.int s3,.int s4,.int s5,.int s6,.int s7,.int s8,.int s9,.int s10,.int s11,.int s12,.int s13,.rows s14,.int s15,.rows s16,.rows s17,.bool s18,.rows s19,.bool s20,.int s21,.int s22,.int s23,.rows s24,.int s25,.int s26,.int s27,.int d0,.int d1,.int d2,.int d3,.int d4,.bool d5,.int d6,.int d7,.int d8,.int d9,.bool d10,.int d11]=some [.int (Gg (⟨r0,r1,r2,r3,r4,r5,r6,r7,r8,r9,r10,r11,r12,r13⟩:Rul) (⟨s0,s1,s2,s3,s4,s5,s6,s7,s8,s9,s10,s11,s12,s13,s14,s15,s16,s17,s18,s19,s20,s21,s22,s23,s24,s25,s26,s27⟩:Inn) (⟨d0,d1,d2,d3,d4,d5,d6,d7,d8,d9,d10,d11⟩:Del))]:=by
 show GS (std (CA N) N) (xOf _)=_;generalize hres:(some [.int (Gg (⟨r0,r1,r2,r3,r4,r5,r6,r7,r8,r9,r10,r11,r12,r13⟩:Rul) (⟨s0,s1,s2,s3,s4,s5,s6,s7,s8,s9,s10,s11,s12,s13,s14,s15,s16,s17,s18,s19,s20,s21,s22,s23,s24,s25,s26,s27⟩:Inn) (⟨d0,d1,d2,d3,d4,d5,d6,d7,d8,d9,d10,d11⟩:Del))]:Option (List PV))=RR;simp only [GS,LH,Lq,M0,Iz,Mw,lq9,std,xOf,PXb,SO h.bt hN,eR h hN h13,QG,Ub hN,eK h];subst hres;simp only [Gg];cases Gz s14 s12 s13<;>try rfl
 cases s15==0<;>try rfl
 simp only [PXb];generalize RC (⟨r0,r1,r2,r3,r4,r5,r6,r7,r8,r9,r10,r11,r12,r13⟩:Rul) (⟨s0,s1,s2,s3,s4,s5,s6,s7,s8,s9,s10,s11,s12,s13,s14,s15,s16,s17,s18,s19,s20,s21,s22,s23,s24,s25,s26,s27⟩:Inn)=a;generalize EZ (⟨d0,d1,d2,d3,d4,d5,d6,d7,d8,d9,d10,d11⟩:Del)=b;generalize Pf (⟨d0,d1,d2,d3,d4,d5,d6,d7,d8,d9,d10,d11⟩:Del) s20=c;generalize QH (⟨s0,s1,s2,s3,s4,s5,s6,s7,s8,s9,s10,s11,s12,s13,s14,s15,s16,s17,s18,s19,s20,s21,s22,s23,s24,s25,s26,s27⟩:Inn) (⟨d0,d1,d2,d3,d4,d5,d6,d7,d8,d9,d10,d11⟩:Del)=e;refine Ae (Ct (len:=4) (fun i=>cond (!(atI [[.int a],[.int b],[.int c],[.int e]] i 0==0)) (some [.int (atI [[.int a],[.int b],[.int c],[.int e]] i 0)]) none) ?_ ?_ 4 0 N (by omega) (by omega)) ?_
 ·intro self;rfl
 ·intro i self hi;simp only [PXb,BG (show i≤1099511627776 by omega),List.length_cons,List.length_nil,Nat.reduceAdd,A5 hi,Ab hi,DX];cases atI [[.int a],[.int b],[.int c],[.int e]] i 0==0<;>rfl
 ·refine (aR _).trans (congrArg (fun z=>some [PV.int z]) ?_);unfold bK;simp only [Bt];rw [show atI [[.int a],[.int b],[.int c],[.int e]] 0 0=a from rfl,show atI [[.int a],[.int b],[.int c],[.int e]] (0+1) 0=b from rfl,show atI [[.int a],[.int b],[.int c],[.int e]] (0+1+1) 0=c from rfl,show atI [[.int a],[.int b],[.int c],[.int e]] (0+1+1+1) 0=e from rfl];cases a==0<;>try rfl
  cases b==0<;>try rfl
  cases c==0<;>try rfl
  cases e==0<;>rfl
theorem QW {s t:Inn} (l:Lens s t) (h:s.Fit) (hw:s.before.length+s.bowlers.length≤1048575):t.Fit:=⟨l.bt▸h.bt,by have:=l.bw;omega,by have:=l.bf;omega,l.bd▸h.bd,l.sb▸h.sb⟩
theorem mg (s:Inn) (d:Del):(Ak s d).bowlers=s.bowlers:=by
 unfold Ak;cases (!(d.runs.tmod 2==0) != d.crossed)<;>exact P_c (P:=fun x:Inn=>x.bowlers=s.bowlers) _ _ _ rfl (P_c (P:=fun x:Inn=>x.bowlers=s.bowlers) _ _ _ rfl rfl)
theorem na (s:Inn) (d:Del):(Ak s d).before=s.before:=by
 unfold Ak;cases (!(d.runs.tmod 2==0) != d.crossed)<;>exact P_c (P:=fun x:Inn=>x.before=s.before) _ _ _ rfl (P_c (P:=fun x:Inn=>x.before=s.before) _ _ _ rfl rfl)
@[reducible] def WM (t:Inn) (a b e f g:Int):Inn:=⟨t.side,t.target,t.overs,a,t.wickets,b,e,f,g,t.pens,t.complete,t.inover,t.striker,t.other,t.batters,t.bowler,t.bowlers,t.before,t.fresh,t.bowled,t.freehit,t.ballage,t.keeper,t.outside,t.subs,t.rev1,t.rev2,t.ending⟩
def Kv (r:Rul) (s:Inn) (d:Del):Inn×Int :=
  cond (!(Gg r s d==0)) (s,Gg r s d)
    (let c:=AD r d
     let t:=Ak s d
     let o:=Ap r (WM t (IntKind.i64.wrap (t.runs+Dv c)) (IntKind.i64.wrap (t.wides+c.wides)) (IntKind.i64.wrap (t.noballs+c.noballs)) (IntKind.i64.wrap (t.byes+c.byes)) (IntKind.i64.wrap (t.legbyes+c.legbyes))) c.counts
     let t:Inn:=cond o.2 (IA o.1) o.1
     ({ t with freehit:=cond (d.type==1) false (cond (d.type==3&&r.freehit) true o.1.freehit) },0))
theorem cZ {N:Nat} {r8:Bool} {r0:ByteArray} {r13:Rows} {s18 s20:Bool} {d5 d10:Bool} (h:Fit s14 s16 s17 s19 s24) (hw:s17.length+s16.length≤1000000) (hN:2097152<N) (hs:r0.size≤1048576) (h13:r13.length≤1048576):Gn N [.str r0,.int r1,.int r2,.int r3,.int r4,.int r5,.int r6,.int r7,.bool r8,.int r9,.int r10,.int r11,.int r12,.rows r13,.int s0,.int s1,.int s2,.int s3,.int s4,.int s5,.int s6,.int s7,.int s8,.int s9,.int s10,.int s11,.int s12,.int s13,.rows s14,.int s15,.rows s16,.rows s17,.bool s18,.rows s19,.bool s20,.int s21,.int s22,.int s23,.rows s24,.int s25,.int s26,.int s27,.int d0,.int d1,.int d2,.int d3,.int d4,.bool d5,.int d6,.int d7,.int d8,.int d9,.bool d10,.int d11]=some (BK (Kv (⟨r0,r1,r2,r3,r4,r5,r6,r7,r8,r9,r10,r11,r12,r13⟩:Rul) (⟨s0,s1,s2,s3,s4,s5,s6,s7,s8,s9,s10,s11,s12,s13,s14,s15,s16,s17,s18,s19,s20,s21,s22,s23,s24,s25,s26,s27⟩:Inn) (⟨d0,d1,d2,d3,d4,d5,d6,d7,d8,d9,d10,d11⟩:Del))):=by
 show Jl (std (Bs N) N) (xOf _)=_;generalize hres:(some (BK (Kv (⟨r0,r1,r2,r3,r4,r5,r6,r7,r8,r9,r10,r11,r12,r13⟩:Rul) (⟨s0,s1,s2,s3,s4,s5,s6,s7,s8,s9,s10,s11,s12,s13,s14,s15,s16,s17,s18,s19,s20,s21,s22,s23,s24,s25,s26,s27⟩:Inn) (⟨d0,d1,d2,d3,d4,d5,d6,d7,d8,d9,d10,d11⟩:Del))):Option (List PV))=RR;have l1:=fk (⟨s0,s1,s2,s3,s4,s5,s6,s7,s8,s9,s10,s11,s12,s13,s14,s15,s16,s17,s18,s19,s20,s21,s22,s23,s24,s25,s26,s27⟩:Inn) (⟨d0,d1,d2,d3,d4,d5,d6,d7,d8,d9,d10,d11⟩:Del);have f1:=QW l1 h (by simp only;omega);have w1:(Ak (⟨s0,s1,s2,s3,s4,s5,s6,s7,s8,s9,s10,s11,s12,s13,s14,s15,s16,s17,s18,s19,s20,s21,s22,s23,s24,s25,s26,s27⟩:Inn) (⟨d0,d1,d2,d3,d4,d5,d6,d7,d8,d9,d10,d11⟩:Del)).bowlers.length=s16.length:=congrArg List.length (mg _ _);have w2:(Ak (⟨s0,s1,s2,s3,s4,s5,s6,s7,s8,s9,s10,s11,s12,s13,s14,s15,s16,s17,s18,s19,s20,s21,s22,s23,s24,s25,s26,s27⟩:Inn) (⟨d0,d1,d2,d3,d4,d5,d6,d7,d8,d9,d10,d11⟩:Del)).before.length=s17.length:=congrArg List.length (na _ _);have l2:=fun (x:Rul) (c:Bool) (a b e f g:Int)=>eA x (WM (Ak (⟨s0,s1,s2,s3,s4,s5,s6,s7,s8,s9,s10,s11,s12,s13,s14,s15,s16,s17,s18,s19,s20,s21,s22,s23,s24,s25,s26,s27⟩:Inn) (⟨d0,d1,d2,d3,d4,d5,d6,d7,d8,d9,d10,d11⟩:Del)) a b e f g) c
 have f2:=fun (x:Rul) (c:Bool) (a b e f g:Int)=>QW (l2 x c a b e f g) f1 (show (Ak (⟨s0,s1,s2,s3,s4,s5,s6,s7,s8,s9,s10,s11,s12,s13,s14,s15,s16,s17,s18,s19,s20,s21,s22,s23,s24,s25,s26,s27⟩:Inn) (⟨d0,d1,d2,d3,d4,d5,d6,d7,d8,d9,d10,d11⟩:Del)).before.length+(Ak (⟨s0,s1,s2,s3,s4,s5,s6,s7,s8,s9,s10,s11,s12,s13,s14,s15,s16,s17,s18,s19,s20,s21,s22,s23,s24,s25,s26,s27⟩:Inn) (⟨d0,d1,d2,d3,d4,d5,d6,d7,d8,d9,d10,d11⟩:Del)).bowlers.length≤1048575 by omega)
 simp only [Jl,MW,Mx,NN,Mg,Pm,Pq,Nl,lq9,std,xOf,PXb,PXc,PXn,PXm,Nat.reduceAdd,Int.reduceBEq,XW h hN h13,CB h,PT,iD h,ZH,Cre.ls,fQ f1 (show (Ak (⟨s0,s1,s2,s3,s4,s5,s6,s7,s8,s9,s10,s11,s12,s13,s14,s15,s16,s17,s18,s19,s20,s21,s22,s23,s24,s25,s26,s27⟩:Inn) (⟨d0,d1,d2,d3,d4,d5,d6,d7,d8,d9,d10,d11⟩:Del)).bowlers.length≤1048575 by omega) hN hs,oL,bi (f2 _ _ _ _ _ _ _)];subst hres;simp only [Kv,WM];cases Gg (⟨r0,r1,r2,r3,r4,r5,r6,r7,r8,r9,r10,r11,r12,r13⟩:Rul) (⟨s0,s1,s2,s3,s4,s5,s6,s7,s8,s9,s10,s11,s12,s13,s14,s15,s16,s17,s18,s19,s20,s21,s22,s23,s24,s25,s26,s27⟩:Inn) (⟨d0,d1,d2,d3,d4,d5,d6,d7,d8,d9,d10,d11⟩:Del)==0 with
 | false=>rfl
 | true =>
  obtain ⟨o,ho⟩:∃ o,o=Ap (⟨r0,r1,r2,r3,r4,r5,r6,r7,r8,r9,r10,r11,r12,r13⟩:Rul) (WM (Ak (⟨s0,s1,s2,s3,s4,s5,s6,s7,s8,s9,s10,s11,s12,s13,s14,s15,s16,s17,s18,s19,s20,s21,s22,s23,s24,s25,s26,s27⟩:Inn) (⟨d0,d1,d2,d3,d4,d5,d6,d7,d8,d9,d10,d11⟩:Del)) (IntKind.i64.wrap ((Ak (⟨s0,s1,s2,s3,s4,s5,s6,s7,s8,s9,s10,s11,s12,s13,s14,s15,s16,s17,s18,s19,s20,s21,s22,s23,s24,s25,s26,s27⟩:Inn) (⟨d0,d1,d2,d3,d4,d5,d6,d7,d8,d9,d10,d11⟩:Del)).runs+Dv (AD (⟨r0,r1,r2,r3,r4,r5,r6,r7,r8,r9,r10,r11,r12,r13⟩:Rul) (⟨d0,d1,d2,d3,d4,d5,d6,d7,d8,d9,d10,d11⟩:Del)))) (IntKind.i64.wrap ((Ak (⟨s0,s1,s2,s3,s4,s5,s6,s7,s8,s9,s10,s11,s12,s13,s14,s15,s16,s17,s18,s19,s20,s21,s22,s23,s24,s25,s26,s27⟩:Inn) (⟨d0,d1,d2,d3,d4,d5,d6,d7,d8,d9,d10,d11⟩:Del)).wides+(AD (⟨r0,r1,r2,r3,r4,r5,r6,r7,r8,r9,r10,r11,r12,r13⟩:Rul) (⟨d0,d1,d2,d3,d4,d5,d6,d7,d8,d9,d10,d11⟩:Del)).wides)) (IntKind.i64.wrap ((Ak (⟨s0,s1,s2,s3,s4,s5,s6,s7,s8,s9,s10,s11,s12,s13,s14,s15,s16,s17,s18,s19,s20,s21,s22,s23,s24,s25,s26,s27⟩:Inn) (⟨d0,d1,d2,d3,d4,d5,d6,d7,d8,d9,d10,d11⟩:Del)).noballs+(AD (⟨r0,r1,r2,r3,r4,r5,r6,r7,r8,r9,r10,r11,r12,r13⟩:Rul) (⟨d0,d1,d2,d3,d4,d5,d6,d7,d8,d9,d10,d11⟩:Del)).noballs)) (IntKind.i64.wrap ((Ak (⟨s0,s1,s2,s3,s4,s5,s6,s7,s8,s9,s10,s11,s12,s13,s14,s15,s16,s17,s18,s19,s20,s21,s22,s23,s24,s25,s26,s27⟩:Inn) (⟨d0,d1,d2,d3,d4,d5,d6,d7,d8,d9,d10,d11⟩:Del)).byes+(AD (⟨r0,r1,r2,r3,r4,r5,r6,r7,r8,r9,r10,r11,r12,r13⟩:Rul) (⟨d0,d1,d2,d3,d4,d5,d6,d7,d8,d9,d10,d11⟩:Del)).byes)) (IntKind.i64.wrap ((Ak (⟨s0,s1,s2,s3,s4,s5,s6,s7,s8,s9,s10,s11,s12,s13,s14,s15,s16,s17,s18,s19,s20,s21,s22,s23,s24,s25,s26,s27⟩:Inn) (⟨d0,d1,d2,d3,d4,d5,d6,d7,d8,d9,d10,d11⟩:Del)).legbyes+(AD (⟨r0,r1,r2,r3,r4,r5,r6,r7,r8,r9,r10,r11,r12,r13⟩:Rul) (⟨d0,d1,d2,d3,d4,d5,d6,d7,d8,d9,d10,d11⟩:Del)).legbyes))) (AD (⟨r0,r1,r2,r3,r4,r5,r6,r7,r8,r9,r10,r11,r12,r13⟩:Rul) (⟨d0,d1,d2,d3,d4,d5,d6,d7,d8,d9,d10,d11⟩:Del)).counts:=⟨_,rfl⟩;simp only [WM,Dv] at ho ⊢;simp only [← ho];obtain ⟨o1,o2⟩:=o;cases o2<;>cases d0==1<;>cases d0==3<;>cases r8<;>rfl
theorem hG (r:Rul) (s:Inn) (b:Bool) (a c d e f:Int):Ap r (WM s a c d e f) b=(WM (Ap r s b).1 a c d e f,(Ap r s b).2):=by
 unfold Ap WM;simp only;cases (!inR s.bowler s.bowled.length || !(BD r==0)) with
 | true=>rfl
 | false =>
  simp only [cond_false];cases iLt (cond b (inc s.inover) s.inover) r.balls<;>rfl
def LE (r:Rul) (s:Inn) (side:Int):Inn×Int:=cond (!(side==s.side)) (s,2) (cond (!(r.overs==0)) (s,20) ({ s with ending:=4 },0))
theorem Xb {N:Nat} {r8:Bool} {r0:ByteArray} {r13:Rows} {s18 s20:Bool} {e4 e12 e17:Bool} (h:Fit s14 s16 s17 s19 s24):EP N [.str r0,.int r1,.int r2,.int r3,.int r4,.int r5,.int r6,.int r7,.bool r8,.int r9,.int r10,.int r11,.int r12,.rows r13,.int s0,.int s1,.int s2,.int s3,.int s4,.int s5,.int s6,.int s7,.int s8,.int s9,.int s10,.int s11,.int s12,.int s13,.rows s14,.int s15,.rows s16,.rows s17,.bool s18,.rows s19,.bool s20,.int s21,.int s22,.int s23,.rows s24,.int s25,.int s26,.int s27,.int e0,.int e1,.int e2,.int e3,.bool e4,.int e5,.int e6,.int e7,.int e8,.int e9,.int e10,.int e11,.bool e12,.int e13,.int e14,.int e15,.int e16,.bool e17,.int e18]=some (BK (LE (⟨r0,r1,r2,r3,r4,r5,r6,r7,r8,r9,r10,r11,r12,r13⟩:Rul) (⟨s0,s1,s2,s3,s4,s5,s6,s7,s8,s9,s10,s11,s12,s13,s14,s15,s16,s17,s18,s19,s20,s21,s22,s23,s24,s25,s26,s27⟩:Inn) e1)):=by
 show GP (std (IG N) N) (xOf _)=_;generalize hres:(some (BK (LE (⟨r0,r1,r2,r3,r4,r5,r6,r7,r8,r9,r10,r11,r12,r13⟩:Rul) (⟨s0,s1,s2,s3,s4,s5,s6,s7,s8,s9,s10,s11,s12,s13,s14,s15,s16,s17,s18,s19,s20,s21,s22,s23,s24,s25,s26,s27⟩:Inn) e1)):Option (List PV))=RR;simp only [GP,Lw,lq9,std,xOf,PXb,PXc,PXn,PXm,Nat.reduceAdd,Int.reduceBEq,CB h];subst hres;simp only [LE];cases e1==s0<;>cases r3==0<;>rfl
def Oi (s:Inn):Inn:={ s with runs:=IntKind.i64.wrap (s.runs+5),pens:=IntKind.i64.wrap (s.pens+5) }
theorem PH {N:Nat} {s18 s20:Bool} (h:Fit s14 s16 s17 s19 s24):B8 N [.int s0,.int s1,.int s2,.int s3,.int s4,.int s5,.int s6,.int s7,.int s8,.int s9,.int s10,.int s11,.int s12,.int s13,.rows s14,.int s15,.rows s16,.rows s17,.bool s18,.rows s19,.bool s20,.int s21,.int s22,.int s23,.rows s24,.int s25,.int s26,.int s27]=some (Oi (⟨s0,s1,s2,s3,s4,s5,s6,s7,s8,s9,s10,s11,s12,s13,s14,s15,s16,s17,s18,s19,s20,s21,s22,s23,s24,s25,s26,s27⟩:Inn)).ls:=by
 show GZ (std (IM N) N) (xOf _)=_;generalize hres:(some (Oi (⟨s0,s1,s2,s3,s4,s5,s6,s7,s8,s9,s10,s11,s12,s13,s14,s15,s16,s17,s18,s19,s20,s21,s22,s23,s24,s25,s26,s27⟩:Inn)).ls:Option (List PV))=RR;simp only [GZ,Lr,lq9,std,xOf,PXb,PXc,PXn,PXm,Nat.reduceAdd,Int.reduceBEq,CB h];subst hres;simp only [Oi];rfl
def He (s:Inn) (side runs:Int):Inn×Int :=
 cond (!(runs==5)) (s,23) (cond (side==s.side) (Oi s,0) ({ s with target:=cond (iLt 0 s.target) (IntKind.i64.wrap (s.target+5)) s.target },0))
theorem Xc {N:Nat} {s18 s20:Bool} {e4 e12 e17:Bool} (h:Fit s14 s16 s17 s19 s24):EM N [.int s0,.int s1,.int s2,.int s3,.int s4,.int s5,.int s6,.int s7,.int s8,.int s9,.int s10,.int s11,.int s12,.int s13,.rows s14,.int s15,.rows s16,.rows s17,.bool s18,.rows s19,.bool s20,.int s21,.int s22,.int s23,.rows s24,.int s25,.int s26,.int s27,.int e0,.int e1,.int e2,.int e3,.bool e4,.int e5,.int e6,.int e7,.int e8,.int e9,.int e10,.int e11,.bool e12,.int e13,.int e14,.int e15,.int e16,.bool e17,.int e18]=some (BK (He (⟨s0,s1,s2,s3,s4,s5,s6,s7,s8,s9,s10,s11,s12,s13,s14,s15,s16,s17,s18,s19,s20,s21,s22,s23,s24,s25,s26,s27⟩:Inn) e1 e5)):=by
 show GW (std (FI N) N) (xOf _)=_;generalize hres:(some (BK (He (⟨s0,s1,s2,s3,s4,s5,s6,s7,s8,s9,s10,s11,s12,s13,s14,s15,s16,s17,s18,s19,s20,s21,s22,s23,s24,s25,s26,s27⟩:Inn) e1 e5)):Option (List PV))=RR;simp only [GW,Lp,KH,lq9,std,xOf,PXb,PXc,PXn,PXm,Nat.reduceAdd,Int.reduceBEq,CB h,PH h];subst hres;simp only [He];cases e5==5<;>cases e1==s0<;>cases iLt 0 s1<;>rfl
def Ll (r:Rul) (s:Inn) (side:Int) (yes:Bool):Inn×Int :=
 cond (!s.fresh||iLe r.reviews (cond (side==2) s.rev2 s.rev1)) (s,24) (cond (!yes) ({ s with rev1:=cond (side==1) (inc s.rev1) s.rev1,rev2:=cond (side==2) (inc s.rev2) s.rev2 },0) (s,0))
theorem wr1:IntKind.i64.wrap (1 - 1)=0:=rfl
theorem wr2:IntKind.i64.wrap (2 - 1)=1:=rfl
theorem gX:iIn 0 2=true:=rfl
theorem f8:iIn 1 2=true:=rfl
theorem ZG {N:Nat} {r8:Bool} {r0:ByteArray} {r13:Rows} {s18 s20:Bool} {e4 e12 e17:Bool} (h:Fit s14 s16 s17 s19 s24) (he:e1=1∨e1=2):Ez N [.str r0,.int r1,.int r2,.int r3,.int r4,.int r5,.int r6,.int r7,.bool r8,.int r9,.int r10,.int r11,.int r12,.rows r13,.int s0,.int s1,.int s2,.int s3,.int s4,.int s5,.int s6,.int s7,.int s8,.int s9,.int s10,.int s11,.int s12,.int s13,.rows s14,.int s15,.rows s16,.rows s17,.bool s18,.rows s19,.bool s20,.int s21,.int s22,.int s23,.rows s24,.int s25,.int s26,.int s27,.int e0,.int e1,.int e2,.int e3,.bool e4,.int e5,.int e6,.int e7,.int e8,.int e9,.int e10,.int e11,.bool e12,.int e13,.int e14,.int e15,.int e16,.bool e17,.int e18]=some (BK (Ll (⟨r0,r1,r2,r3,r4,r5,r6,r7,r8,r9,r10,r11,r12,r13⟩:Rul) (⟨s0,s1,s2,s3,s4,s5,s6,s7,s8,s9,s10,s11,s12,s13,s14,s15,s16,s17,s18,s19,s20,s21,s22,s23,s24,s25,s26,s27⟩:Inn) e1 e4)):=by
 show Ew (std (JV N) N) (xOf _)=_;generalize hres:(some (BK (Ll (⟨r0,r1,r2,r3,r4,r5,r6,r7,r8,r9,r10,r11,r12,r13⟩:Rul) (⟨s0,s1,s2,s3,s4,s5,s6,s7,s8,s9,s10,s11,s12,s13,s14,s15,s16,s17,s18,s19,s20,s21,s22,s23,s24,s25,s26,s27⟩:Inn) e1 e4)):Option (List PV))=RR
 rcases he with he | he<;>subst he
 ·simp only [Ew,Fj,lq9,std,xOf,PXb,PXc,PXn,PXm,Nat.reduceAdd,Int.reduceBEq,CB h,wr1,wr2,gX,f8];subst hres;simp only [Ll,Int.reduceBEq,beq_self_eq_true,cond_true,cond_false];cases s18<;>cases e4<;>first | rfl | (cases iLe r11 s25<;>rfl)
 ·simp only [Ew,Fj,lq9,std,xOf,PXb,PXc,PXn,PXm,Nat.reduceAdd,Int.reduceBEq,CB h,wr1,wr2,gX,f8];subst hres;simp only [Ll,Int.reduceBEq,beq_self_eq_true,cond_true,cond_false];cases s18<;>cases e4<;>first | rfl | (cases iLe r11 s26<;>rfl)
theorem bR {N:Nat} {r8:Bool} {r0:ByteArray} {r13:Rows} {s18 s20:Bool}  : F5 N [.str r0,.int r1,.int r2,.int r3,.int r4,.int r5,.int r6,.int r7,.bool r8,.int r9,.int r10,.int r11,.int r12,.rows r13,.int s0,.int s1,.int s2,.int s3,.int s4,.int s5,.int s6,.int s7,.int s8,.int s9,.int s10,.int s11,.int s12,.int s13,.rows s14,.int s15,.rows s16,.rows s17,.bool s18,.rows s19,.bool s20,.int s21,.int s22,.int s23,.rows s24,.int s25,.int s26,.int s27]=some [.int (Cf r4 s10 s11)]:=by
 rfl
def Nb (r:Rul) (s:Inn) (runs overs:Int):Inn×Int :=
  cond (r.overs==0||(runs==0&&overs==0)) (s,25) (cond (iLt 0 runs&&(s.target==0||iLe runs s.runs)) (s,25)
    (cond (iLt 0 overs&&(iLt r.overs overs||iLt (IntKind.i64.wrap (overs * r.balls)) (Cf r.balls s.complete s.inover))) (s,25)
      ({ s with target:=cond (iLt 0 runs) runs s.target,overs:=cond (iLt 0 overs) overs s.overs },0)))
theorem Y3 {N:Nat} {r8:Bool} {r0:ByteArray} {r13:Rows} {s18 s20:Bool} {e4 e12 e17:Bool} (h:Fit s14 s16 s17 s19 s24):E5 N [.str r0,.int r1,.int r2,.int r3,.int r4,.int r5,.int r6,.int r7,.bool r8,.int r9,.int r10,.int r11,.int r12,.rows r13,.int s0,.int s1,.int s2,.int s3,.int s4,.int s5,.int s6,.int s7,.int s8,.int s9,.int s10,.int s11,.int s12,.int s13,.rows s14,.int s15,.rows s16,.rows s17,.bool s18,.rows s19,.bool s20,.int s21,.int s22,.int s23,.rows s24,.int s25,.int s26,.int s27,.int e0,.int e1,.int e2,.int e3,.bool e4,.int e5,.int e6,.int e7,.int e8,.int e9,.int e10,.int e11,.bool e12,.int e13,.int e14,.int e15,.int e16,.bool e17,.int e18]=some (BK (Nb (⟨r0,r1,r2,r3,r4,r5,r6,r7,r8,r9,r10,r11,r12,r13⟩:Rul) (⟨s0,s1,s2,s3,s4,s5,s6,s7,s8,s9,s10,s11,s12,s13,s14,s15,s16,s17,s18,s19,s20,s21,s22,s23,s24,s25,s26,s27⟩:Inn) e5 e6)):=by
 show Hk (std (Fe N) N) (xOf _)=_;generalize hres:(some (BK (Nb (⟨r0,r1,r2,r3,r4,r5,r6,r7,r8,r9,r10,r11,r12,r13⟩:Rul) (⟨s0,s1,s2,s3,s4,s5,s6,s7,s8,s9,s10,s11,s12,s13,s14,s15,s16,s17,s18,s19,s20,s21,s22,s23,s24,s25,s26,s27⟩:Inn) e5 e6)):Option (List PV))=RR;simp only [Hk,L1,MJ,lq9,std,xOf,PXb,PXc,PXn,PXm,Nat.reduceAdd,Int.reduceBEq,CB h,bR];subst hres;simp only [Nb];cases (r3==0||e5==0&&e6==0)<;>try rfl
 cases (iLt 0 e5&&(s1==0||iLe e5 s3))<;>try rfl
 cases iLt 0 e6<;>cases iLt r3 e6<;>try rfl
 simp only [PXb,PXc,PXn,PXm,Nat.reduceAdd,Int.reduceBEq];cases iLt (IntKind.i64.wrap (e6 * r4)) (Cf r4 s10 s11)<;>rfl
def Be (r:Rul) (s:Inn) (e:Ev):Inn×Int :=
  cond (e.kind==2) (N2 s e.player e.other) (cond (e.kind==3) (UE r s e.player) (cond (e.kind==4) (Kv r s e.ball)
    (cond (e.kind==5) (cond e.yes (E7 s e.player) (KX s e.player)) (cond (e.kind==6) (FX s e.player e.yes) (cond (e.kind==7) (LN s e.runs)
      (cond (e.kind==8) (NW s e.player) (cond (e.kind==9) (Qw s e.player e.yes) (cond (e.kind==10) (LP r s) (cond (e.kind==11) (LE r s e.side)
        (cond (e.kind==13) (He s e.side e.runs) (cond (e.kind==14) (Ll r s e.side e.yes) (Nb r s e.runs e.overs))))))))))))
theorem dB {e:Ev} (h:(evS e==0)=true):(iLt e.kind 1||iLt 16 e.kind)=false:=by
 unfold evS at h;cases hk:(iLt e.kind 1||iLt 16 e.kind) with
 | false=>rfl
 | true=>rw [hk] at h;cases h
theorem qb {e:Ev} (h:(evS e==0)=true) (hk:e.kind=14):e.side=1∨e.side=2:=by
 have h0:=dB h;unfold evS at h;rw [h0] at h;cases h1:fa e with
 | true=>rw [h1] at h;cases h
 | false =>
  cases h2:Y0 e with
  | true=>rw [h1,h2] at h;cases h
  | false =>
   unfold Y0 at h2;rw [Bool.or_eq_false_iff] at h2;have h3:=h2.1;rw [hk,show uS 14=true from rfl,Bool.and_true] at h3;simp only [btw,iLe,Bool.not_eq_false',zzj,decide_eq_true_eq] at h3;omega
set_option maxHeartbeats 4000000 in
theorem Xa {N:Nat} {r8:Bool} {r0:ByteArray} {r13:Rows} {s18 s20:Bool} {e4 e12 e17:Bool} (h:Fit s14 s16 s17 s19 s24) (hw:s17.length+s16.length≤1000000) (hN:2097152<N) (hs:r0.size≤1048576) (h13:r13.length≤1048576) (he:(evS (⟨e0,e1,e2,e3,e4,e5,e6,⟨e7,e8,e9,e10,e11,e12,e13,e14,e15,e16,e17,e18⟩⟩:Ev)==0)=true):EY N [.str r0,.int r1,.int r2,.int r3,.int r4,.int r5,.int r6,.int r7,.bool r8,.int r9,.int r10,.int r11,.int r12,.rows r13,.int s0,.int s1,.int s2,.int s3,.int s4,.int s5,.int s6,.int s7,.int s8,.int s9,.int s10,.int s11,.int s12,.int s13,.rows s14,.int s15,.rows s16,.rows s17,.bool s18,.rows s19,.bool s20,.int s21,.int s22,.int s23,.rows s24,.int s25,.int s26,.int s27,.int e0,.int e1,.int e2,.int e3,.bool e4,.int e5,.int e6,.int e7,.int e8,.int e9,.int e10,.int e11,.bool e12,.int e13,.int e14,.int e15,.int e16,.bool e17,.int e18]=some (BK (Be (⟨r0,r1,r2,r3,r4,r5,r6,r7,r8,r9,r10,r11,r12,r13⟩:Rul) (⟨s0,s1,s2,s3,s4,s5,s6,s7,s8,s9,s10,s11,s12,s13,s14,s15,s16,s17,s18,s19,s20,s21,s22,s23,s24,s25,s26,s27⟩:Inn) (⟨e0,e1,e2,e3,e4,e5,e6,⟨e7,e8,e9,e10,e11,e12,e13,e14,e15,e16,e17,e18⟩⟩:Ev))):=by
  show ES (std (Ai N) N) (xOf _)=_;generalize hres:(some (BK (Be (⟨r0,r1,r2,r3,r4,r5,r6,r7,r8,r9,r10,r11,r12,r13⟩:Rul) (⟨s0,s1,s2,s3,s4,s5,s6,s7,s8,s9,s10,s11,s12,s13,s14,s15,s16,s17,s18,s19,s20,s21,s22,s23,s24,s25,s26,s27⟩:Inn) (⟨e0,e1,e2,e3,e4,e5,e6,⟨e7,e8,e9,e10,e11,e12,e13,e14,e15,e16,e17,e18⟩⟩:Ev))):Option (List PV))=RR;have hsd:e0=14→e1=1∨e1=2:=qb (e:=(⟨e0,e1,e2,e3,e4,e5,e6,⟨e7,e8,e9,e10,e11,e12,e13,e14,e15,e16,e17,e18⟩⟩:Ev)) he
  rcases cA (dB he) with hk | hk | hk | hk | hk | hk | hk | hk | hk | hk | hk | hk | hk | hk | hk | hk<;>simp only at hk<;>subst hk<;>clear he
  all_goals (first
    | (have hsd := hsd rfl
       simp only [ES,GL,G2,Ft,E2,Fn,FN,FP,Fo,EO,FM,Eh,Eg,E1,E6,lq9,std,xOf,PXb,PXc,PXn,PXm,Nat.reduceAdd,Int.reduceBEq,ZG h hsd];subst hres;rfl)
    | (simp only [ES, GL, G2, Ft, E2, Fn, FN, FP, Fo, EO, FM, Eh, Eg, E1, E6, lq9,std,xOf, PXb, PXc, PXn, PXm, Nat.reduceAdd, Int.reduceBEq, eJ h hN, iE h hN hs, cZ h hw hN hs h13, Y2 h hN, cB h hN, Z6 h hN, aB h, cD h, Vp h, aG h hN hs, Xb h, Xc h, Y3 h]
       subst hres
       first
       | rfl
       | (cases e4<;>rfl)))
theorem Lens.of {s t:Inn} (h1:t.batters.length=s.batters.length) (h2:t.bowled.length=s.bowled.length) (h3:t.subs.length=s.subs.length) (h4:t.bowlers=s.bowlers) (h5:t.before=s.before):Lens s t:=⟨h1,h2,h3,by rw [h4];omega,by rw [h5];omega⟩
theorem L_c {s:Inn} (b:Bool) (x y:Inn×Int) (hx:Lens s x.1) (hy:Lens s y.1):Lens s (cond b x y).1:=by cases b<;>assumption
theorem mR (s:Inn) (p q:Int):Lens s (N2 s p q).1:=by
 unfold N2;exact L_c _ _ _ (Lens.refl s) (L_c _ _ _ (Lens.refl s) (L_c _ _ _ (Lens.refl s) (Lens.of (by simp [LT]) rfl rfl rfl rfl)))
theorem mu (r:Rul) (s:Inn) (p:Int):Lens s (UE r s p).1:=by
 unfold UE;exact P_c (P:=fun x:Inn=>Lens s x) _ _ _ (Lens.of rfl rfl rfl rfl rfl) (Lens.refl s)
theorem nG (r:Rul) (s:Inn) (d:Del):Lens s (Kv r s d).1:=by
 unfold Kv;refine L_c _ _ _ (Lens.refl s) ?_;have l1:=fk s d;have w1:=mg s d;have w2:=na s d;simp only [hG];have l2:=eA r (Ak s d) (AD r d).counts;cases (Ap r (Ak s d) (AD r d).counts).2
 ·exact ⟨l2.bt.trans l1.bt,l2.bd.trans l1.bd,l2.sb.trans l1.sb,by have:=l2.bw;rw [w1] at this;exact this,by have:=l2.bf;rw [w1,w2] at this;exact this⟩
 ·exact ⟨l2.bt.trans l1.bt,l2.bd.trans l1.bd,l2.sb.trans l1.sb,by have:=l2.bw;rw [w1] at this;exact this,by have:=l2.bf;rw [w1,w2] at this;exact this⟩
theorem iG (s:Inn) (p:Int):Lens s (E7 s p).1:=by
 unfold E7;exact L_c _ _ _ (Lens.of (by simp [LT]) rfl rfl rfl rfl) (Lens.refl s)
theorem lc (s:Inn) (p:Int):Lens s (KX s p).1:=by
 unfold KX;exact L_c _ _ _ (Lens.of (by simp [LT]) rfl rfl rfl rfl) (Lens.refl s)
theorem jM (s:Inn) (p:Int) (b:Bool):Lens s (FX s p b).1:=by
 unfold FX;exact L_c _ _ _ (Lens.refl s) (L_c _ _ _ (Lens.refl s) (L_c _ _ _ (Lens.refl s) (L_c _ _ _ (Lens.refl s) (Lens.of (by simp [LT]) rfl rfl rfl rfl))))
theorem gz (s:Inn) (n:Int):Lens s (LN s n).1:=by
 unfold LN;exact L_c _ _ _ (Lens.refl s) (Lens.of rfl rfl rfl rfl rfl)
theorem jc (s:Inn) (n:Int):Lens s (NW s n).1:=by
 unfold NW;exact L_c _ _ _ (Lens.refl s) (L_c _ _ _ (Lens.refl s) (L_c _ _ _ (Lens.refl s) (Lens.of rfl rfl rfl rfl rfl)))
theorem ki (s:Inn) (n:Int) (b:Bool):Lens s (Qw s n b).1:=by
 unfold Qw;exact L_c _ _ _ (Lens.refl s) (L_c _ _ _ (Lens.refl s) (Lens.of rfl rfl (by simp [oc]) rfl rfl))
theorem ga (r:Rul) (s:Inn):Lens s (LP r s).1:=by
 unfold LP;exact L_c _ _ _ (Lens.refl s) (Lens.of rfl rfl rfl rfl rfl)
theorem fI (r:Rul) (s:Inn) (n:Int):Lens s (LE r s n).1:=by
 unfold LE;exact L_c _ _ _ (Lens.refl s) (L_c _ _ _ (Lens.refl s) (Lens.of rfl rfl rfl rfl rfl))
theorem iK (s:Inn) (n m:Int):Lens s (He s n m).1:=by
 unfold He;exact L_c _ _ _ (Lens.refl s) (L_c _ _ _ (Lens.of rfl rfl rfl rfl rfl) (Lens.of rfl rfl rfl rfl rfl))
theorem jC (r:Rul) (s:Inn) (n:Int) (b:Bool):Lens s (Ll r s n b).1:=by
 unfold Ll;exact L_c _ _ _ (Lens.refl s) (L_c _ _ _ (Lens.of rfl rfl rfl rfl rfl) (Lens.refl s))
theorem jA (r:Rul) (s:Inn) (n m:Int):Lens s (Nb r s n m).1:=by
 unfold Nb;exact L_c _ _ _ (Lens.refl s) (L_c _ _ _ (Lens.refl s) (L_c _ _ _ (Lens.refl s) (Lens.of rfl rfl rfl rfl rfl)))
theorem V9 (r:Rul) (s:Inn) (e:Ev):Lens s (Be r s e).1:=by
  unfold Be;exact L_c _ _ _ (mR ..) (L_c _ _ _ (mu ..) (L_c _ _ _ (nG ..) (L_c _ _ _ (L_c _ _ _ (iG ..) (lc ..)) (L_c _ _ _ (jM ..) (L_c _ _ _ (gz ..)
    (L_c _ _ _ (jc ..) (L_c _ _ _ (ki ..) (L_c _ _ _ (ga ..) (L_c _ _ _ (fI ..) (L_c _ _ _ (iK ..) (L_c _ _ _ (jC ..) (jA ..))))))))))))
def Gr (r:Rul) (s:Inn):Bool:=TT r.name r.side r.innings r.overs r.balls r.quota r.wide r.noball r.newball r.followon r.reviews r.outside r.power s.batters s.bowlers s.before s.bowled s.subs s.side s.target s.overs s.runs s.wickets s.wides s.noballs s.byes s.legbyes s.pens s.complete s.inover s.striker s.other s.bowler s.ballage s.keeper s.outside s.rev1 s.rev2 s.ending
def rY (r:Rul) (s:Inn):Int:=o8 (Gr r s) s.batters s.striker s.other s.target s.overs s.runs s.complete
theorem Rr {N:Nat} {r8:Bool} {r0:ByteArray} {r13:Rows} {s18 s20:Bool} (h:Fit s14 s16 s17 s19 s24) (hN:2097152<N) (hs:r0.size≤1048576):BJ N [.str r0,.int r1,.int r2,.int r3,.int r4,.int r5,.int r6,.int r7,.bool r8,.int r9,.int r10,.int r11,.int r12,.rows r13,.int s0,.int s1,.int s2,.int s3,.int s4,.int s5,.int s6,.int s7,.int s8,.int s9,.int s10,.int s11,.int s12,.int s13,.rows s14,.int s15,.rows s16,.rows s17,.bool s18,.rows s19,.bool s20,.int s21,.int s22,.int s23,.rows s24,.int s25,.int s26,.int s27]=some [.bool (Gr (⟨r0,r1,r2,r3,r4,r5,r6,r7,r8,r9,r10,r11,r12,r13⟩:Rul) (⟨s0,s1,s2,s3,s4,s5,s6,s7,s8,s9,s10,s11,s12,s13,s14,s15,s16,s17,s18,s19,s20,s21,s22,s23,s24,s25,s26,s27⟩:Inn))]:=by
 exact Qo N _ _ _ _ _ _ _ _ _ _ _ _ _ _ _ _ _ _ _ _ _ _ _ _ _ _ _ _ _ _ _ _ _ _ _ _ _ _ _ _ _ _ hN hs h.bt h.bw h.bf h.bd
theorem YP {N:Nat} {r8:Bool} {r0:ByteArray} {r13:Rows} {s18 s20:Bool} (h:Fit s14 s16 s17 s19 s24) (hN:2097152<N) (hs:r0.size≤1048576):DU N [.str r0,.int r1,.int r2,.int r3,.int r4,.int r5,.int r6,.int r7,.bool r8,.int r9,.int r10,.int r11,.int r12,.rows r13,.int s0,.int s1,.int s2,.int s3,.int s4,.int s5,.int s6,.int s7,.int s8,.int s9,.int s10,.int s11,.int s12,.int s13,.rows s14,.int s15,.rows s16,.rows s17,.bool s18,.rows s19,.bool s20,.int s21,.int s22,.int s23,.rows s24,.int s25,.int s26,.int s27]=some [.int (rY (⟨r0,r1,r2,r3,r4,r5,r6,r7,r8,r9,r10,r11,r12,r13⟩:Rul) (⟨s0,s1,s2,s3,s4,s5,s6,s7,s8,s9,s10,s11,s12,s13,s14,s15,s16,s17,s18,s19,s20,s21,s22,s23,s24,s25,s26,s27⟩:Inn))]:=by
 exact XZ N _ _ _ _ _ _ _ _ _ _ _ _ _ _ _ _ _ _ _ _ _ _ _ _ _ _ _ _ _ _ _ _ _ _ _ _ _ _ _ _ _ _ hN hs h.bt h.bw h.bf h.bd
def gE (t:Inn) (b:Bool):Inn:=⟨t.side,t.target,t.overs,t.runs,t.wickets,t.wides,t.noballs,t.byes,t.legbyes,t.pens,t.complete,t.inover,t.striker,t.other,t.batters,t.bowler,t.bowlers,t.before,b,t.bowled,t.freehit,t.ballage,t.keeper,t.outside,t.subs,t.rev1,t.rev2,t.ending⟩
def Bq (r:Rul) (t:Inn) (b:Bool):Inn:={ gE t b with ending:=cond (t.ending==0) (rY r (gE t b)) t.ending }
def XD (s:Inn) (e:Ev):Bool:=e.kind==1||e.kind==12||e.kind==16||(!Cd s.batters && !(e.kind==2))
def Ao (r:Rul) (s:Inn) (e:Ev):Inn×Int :=
  cond (!Gr r s || !(evS e==0)) (s,1) (cond (!(s.ending==0)) (s,26) (cond (XD s e) (s,1)
    (cond (!((Be r s e).2==0)) (s,(Be r s e).2) (Bq r (Be r s e).1 (e.kind==4),0))))
set_option maxHeartbeats 4000000 in
theorem Np {N:Nat} {r8:Bool} {r0:ByteArray} {r13:Rows} {s18 s20:Bool} {e4 e12 e17:Bool} (h:Fit s14 s16 s17 s19 s24) (hw:s17.length+s16.length≤1000000) (hN:2097152<N) (hs:r0.size≤1048576) (h13:r13.length≤1048576):Gk N [.str r0,.int r1,.int r2,.int r3,.int r4,.int r5,.int r6,.int r7,.bool r8,.int r9,.int r10,.int r11,.int r12,.rows r13,.int s0,.int s1,.int s2,.int s3,.int s4,.int s5,.int s6,.int s7,.int s8,.int s9,.int s10,.int s11,.int s12,.int s13,.rows s14,.int s15,.rows s16,.rows s17,.bool s18,.rows s19,.bool s20,.int s21,.int s22,.int s23,.rows s24,.int s25,.int s26,.int s27,.int e0,.int e1,.int e2,.int e3,.bool e4,.int e5,.int e6,.int e7,.int e8,.int e9,.int e10,.int e11,.bool e12,.int e13,.int e14,.int e15,.int e16,.bool e17,.int e18]=some (BK (Ao (⟨r0,r1,r2,r3,r4,r5,r6,r7,r8,r9,r10,r11,r12,r13⟩:Rul) (⟨s0,s1,s2,s3,s4,s5,s6,s7,s8,s9,s10,s11,s12,s13,s14,s15,s16,s17,s18,s19,s20,s21,s22,s23,s24,s25,s26,s27⟩:Inn) (⟨e0,e1,e2,e3,e4,e5,e6,⟨e7,e8,e9,e10,e11,e12,e13,e14,e15,e16,e17,e18⟩⟩:Ev))):=by
 show Jf (std (CK N) N) (xOf _)=_;generalize hres:(some (BK (Ao (⟨r0,r1,r2,r3,r4,r5,r6,r7,r8,r9,r10,r11,r12,r13⟩:Rul) (⟨s0,s1,s2,s3,s4,s5,s6,s7,s8,s9,s10,s11,s12,s13,s14,s15,s16,s17,s18,s19,s20,s21,s22,s23,s24,s25,s26,s27⟩:Inn) (⟨e0,e1,e2,e3,e4,e5,e6,⟨e7,e8,e9,e10,e11,e12,e13,e14,e15,e16,e17,e18⟩⟩:Ev))):Option (List PV))=RR;have l1:=V9 (⟨r0,r1,r2,r3,r4,r5,r6,r7,r8,r9,r10,r11,r12,r13⟩:Rul) (⟨s0,s1,s2,s3,s4,s5,s6,s7,s8,s9,s10,s11,s12,s13,s14,s15,s16,s17,s18,s19,s20,s21,s22,s23,s24,s25,s26,s27⟩:Inn) (⟨e0,e1,e2,e3,e4,e5,e6,⟨e7,e8,e9,e10,e11,e12,e13,e14,e15,e16,e17,e18⟩⟩:Ev);have f1:=QW l1 h (by simp only;omega);simp only [Jf,On,NC,NU,NF,GA,GM,lq9,std,xOf,PXb,Rr h hN hs,Uu hN,CB h,bG h.bt hN];subst hres;simp only [Ao,XD];cases Gr (⟨r0,r1,r2,r3,r4,r5,r6,r7,r8,r9,r10,r11,r12,r13⟩:Rul) (⟨s0,s1,s2,s3,s4,s5,s6,s7,s8,s9,s10,s11,s12,s13,s14,s15,s16,s17,s18,s19,s20,s21,s22,s23,s24,s25,s26,s27⟩:Inn)
 ·rfl
 cases he:evS (⟨e0,e1,e2,e3,e4,e5,e6,⟨e7,e8,e9,e10,e11,e12,e13,e14,e15,e16,e17,e18⟩⟩:Ev)==0
 ·simp only [PXb,PXc,PXn,PXm,Nat.reduceAdd,Int.reduceBEq,he]
 simp only [PXb,PXc,PXn,PXm,Nat.reduceAdd,Int.reduceBEq,he];cases s27==0<;>try rfl
 cases (e0==1||e0==12||e0==16)<;>cases Cd s14<;>cases e0==2<;>try rfl
 all_goals (simp only [PXb,PXc,PXn,PXm,Nat.reduceAdd,Int.reduceBEq,GA,GM,Xa h hw hN hs h13 he,YP f1 hN hs])
 all_goals (unfold Bq gE;cases (Be (⟨r0,r1,r2,r3,r4,r5,r6,r7,r8,r9,r10,r11,r12,r13⟩:Rul) (⟨s0,s1,s2,s3,s4,s5,s6,s7,s8,s9,s10,s11,s12,s13,s14,s15,s16,s17,s18,s19,s20,s21,s22,s23,s24,s25,s26,s27⟩:Inn) (⟨e0,e1,e2,e3,e4,e5,e6,⟨e7,e8,e9,e10,e11,e12,e13,e14,e15,e16,e17,e18⟩⟩:Ev)).2==0<;>cases (Be (⟨r0,r1,r2,r3,r4,r5,r6,r7,r8,r9,r10,r11,r12,r13⟩:Rul) (⟨s0,s1,s2,s3,s4,s5,s6,s7,s8,s9,s10,s11,s12,s13,s14,s15,s16,s17,s18,s19,s20,s21,s22,s23,s24,s25,s26,s27⟩:Inn) (⟨e0,e1,e2,e3,e4,e5,e6,⟨e7,e8,e9,e10,e11,e12,e13,e14,e15,e16,e17,e18⟩⟩:Ev)).1.ending==0<;>rfl)
theorem mH (L:Rows) (c:Nat):(cut L c).length≤c:=by
 unfold cut;rw [List.length_drop,List.length_take];cases h:iLt (c:Int) (L.length:Int) with
 | true=>simp only [cond_true];omega
 | false=>simp only [iLt,decide_eq_false_iff_not] at h;simp only [cond_false];omega
theorem ja {s t:Inn} (r:Rul) (b:Bool) (h:Lens s t):Lens s (Bq r t b):=⟨h.bt,h.bd,h.sb,h.bw,h.bf⟩
theorem Rl (r:Rul) (s:Inn) (e:Ev):Lens s (Ao r s e).1:=by
 unfold Ao;exact L_c _ _ _ (Lens.refl s) (L_c _ _ _ (Lens.refl s) (L_c _ _ _ (Lens.refl s) (L_c _ _ _ (Lens.refl s) (ja r _ (V9 r s e)))))
theorem P4 {r : Rul} {s : Inn} {e : Ev} (h : ((Ao r s e).2 == 0) = true) :
    Gr r s=true∧(evS e==0)=true∧(s.ending==0)=true∧XD s e=false∧((Be r s e).2==0)=true∧(Ao r s e).1=Bq r (Be r s e).1 (e.kind==4):=by
  unfold Ao at h ⊢;cases hv:Gr r s with
  | false=>rw [hv] at h;cases h
  | true =>
    cases he:evS e==0 with
    | false=>rw [hv,he] at h;cases h
    | true =>
      cases hn:s.ending==0 with
      | false=>rw [hv,he,hn] at h;cases h
      | true =>
        cases hw:XD s e with
        | true=>rw [hv,he,hn,hw] at h;cases h
        | false =>
          cases hp:(Be r s e).2==0 with
          | false=>rw [hv,he,hn,hw,hp] at h;exact absurd (hp▸h) (by decide)
          | true=>exact ⟨rfl,rfl,rfl,rfl,rfl,rfl⟩
theorem Sp {x a b:Int}:btw x a b=true↔a≤x∧x≤b:=by simp [btw,iLe]
structure RulOk (r:Rul):Prop where
 side:2≤r.side∧r.side≤11
 innings:1≤r.innings∧r.innings≤2
 overs:0≤r.overs∧r.overs≤90
 balls:4≤r.balls∧r.balls≤8
 quota:0≤r.quota∧r.quota≤90
 wide:1≤r.wide∧r.wide≤5
 noball:1≤r.noball∧r.noball≤5
 newball:0≤r.newball∧r.newball≤200
 followon:0≤r.followon∧r.followon≤1000
 reviews:0≤r.reviews∧r.reviews≤9
 outside:0≤r.outside∧r.outside≤11
theorem DV {r:Rul} (h:BD r=0):RulOk r:=by
 unfold BD Lh at h;cases hn:Wg r.name with
 | false=>rw [hn] at h;cases h
 | true =>
  cases hr:Ng r.side r.innings r.overs r.balls r.quota r.wide r.noball r.newball r.followon r.reviews r.outside with
  | false=>rw [hn,hr] at h;cases h
  | true =>
   unfold Ng at hr;simp only [zzj,Sp] at hr;obtain ⟨⟨⟨⟨⟨⟨⟨⟨⟨⟨h1,h2⟩,h3⟩,h4⟩,h5⟩,h6⟩,h7⟩,h8⟩,h9⟩,h10⟩,h11⟩:=hr;exact ⟨h1,h2,h3,h4,h5,h6,h7,h8,h9,h10,h11⟩
def Bj (x:Int):Prop:=0≤x∧x≤1000000000
structure InnOk (r:Rul) (s:Inn):Prop where
 code:BD r=0
 side:1≤s.side∧s.side≤2
 lb:(s.batters.length:Int)=r.side
 ld:(s.bowled.length:Int)=r.side
 lz:(s.subs.length:Int)=r.side
 ending:s.ending≤5
 st:0≤s.striker∧s.striker≤r.side
 ot:0≤s.other∧s.other≤r.side
 bat:XG s.batters s.striker s.other s.wickets=true
 bow:0≤s.bowler∧s.bowler≤r.side
 kee:0≤s.keeper∧s.keeper≤r.side
 dw:Kb s.bowlers r.side=true
 df:Kb s.before r.side=true
 ov:cX r.overs s.overs=true
 io:0≤s.inover∧s.inover≤r.balls - 1
 target:Bj s.target
 runs:Bj s.runs
 wides:Bj s.wides
 noballs:Bj s.noballs
 byes:Bj s.byes
 legbyes:Bj s.legbyes
 pens:Bj s.pens
 complete:Bj s.complete
 ballage:Bj s.ballage
 outside:Bj s.outside
 rev1:Bj s.rev1
 rev2:Bj s.rev2
 bowled:J2 I6 s.bowled=false
theorem qz {x:Int}:I6 x=false↔Bj x:=by
 unfold I6 Bj;rw [Bool.not_eq_false',Sp]
theorem pL (a b c d e f g h i j k l:Int):J2 I6 (gj a b c d e f g h i j k l)=false↔Bj a∧Bj b∧Bj c∧Bj d∧Bj e∧Bj f∧Bj g∧Bj h∧Bj i∧Bj j∧Bj k∧Bj l:=by
 rw [Nf];simp only [gj,List.any_cons,List.any_nil,Bool.or_false,dj,qs,Bool.or_eq_false_iff,qz]
theorem ZS {r:Rul} (h:RulOk r):IntKind.i64.wrap (r.balls - 1)=r.balls - 1:=by
 have:=h.balls;exact CE (by omega) (by omega)
theorem kV {x:Int}:(!iLt 5 x)=true↔x≤5:=by
 rw [Bool.not_eq_true'];simp only [iLt,decide_eq_false_iff_not];omega
theorem JA {r:Rul} {s:Inn}:Gr r s=true↔InnOk r s:=by
 unfold Gr TT;simp only [zzj,Bool.not_eq_true',pL,Sp];constructor
 ·intro ⟨h1,h2,h3,h4,h5,h6,h7,h8,h9,h10,h11,h12,h13,h14,h15,⟨n1,n2,n3,n4,n5,n6,n7,n8,n9,n10,n11,n12⟩,h17⟩;have hc:BD r=0:=beq_iff_eq.1 h1;exact ⟨hc,h2,beq_iff_eq.1 h3,beq_iff_eq.1 h4,beq_iff_eq.1 h5,kV.1 (by rw [h6];rfl),h7,h8,h9,h10,h11,h12,h13,h14,by rw [ZS (DV hc)] at h15;exact h15,n1,n2,n3,n4,n5,n6,n7,n8,n9,n10,n11,n12,h17⟩
 ·intro h;have h6:=kV.2 h.ending;rw [Bool.not_eq_true'] at h6;exact ⟨beq_iff_eq.2 h.code,h.side,beq_iff_eq.2 h.lb,beq_iff_eq.2 h.ld,beq_iff_eq.2 h.lz,h6,h.st,h.ot,h.bat,h.bow,h.kee,h.dw,h.df,h.ov,by rw [ZS (DV h.code)];exact h.io,
   ⟨h.target,h.runs,h.wides,h.noballs,h.byes,h.legbyes,h.pens,h.complete,h.ballage,h.outside,h.rev1,h.rev2⟩,h.bowled⟩
theorem NL (n:Int):IntKind.i64.wrap n=(n+9223372036854775808) % 18446744073709551616 - 9223372036854775808:=by
 unfold IntKind.wrap;simp only [IntKind.signed,IntKind.bits];simp
 split<;>omega
theorem HG (n:Int):IntKind.i64.wrap (IntKind.i64.wrap n)=IntKind.i64.wrap n:=by
 simp only [NL];omega
theorem Lc (a b:Int):IntKind.i64.wrap (IntKind.i64.wrap (a+b) - a)=IntKind.i64.wrap b:=by
 simp only [NL];omega
theorem VG (a:Int):IntKind.i64.wrap (a - a)=0:=by rw [Int.sub_self];rfl
theorem YY (s:Inn) (d:Del):(Ak s d).runs=s.runs∧(Ak s d).wides=s.wides∧(Ak s d).noballs=s.noballs∧(Ak s d).byes=s.byes∧(Ak s d).legbyes=s.legbyes∧(Ak s d).pens=s.pens∧(Ak s d).complete=s.complete∧(Ak s d).inover=s.inover∧(Ak s d).bowler=s.bowler∧(Ak s d).bowled=s.bowled:=by
  unfold Ak;cases (!(d.runs.tmod 2==0) != d.crossed)<;>exact P_c (P:=fun x:Inn=>x.runs=s.runs∧x.wides=s.wides∧x.noballs=s.noballs∧x.byes=s.byes∧x.legbyes=s.legbyes∧x.pens=s.pens∧x.complete=s.complete∧x.inover=s.inover∧x.bowler=s.bowler∧x.bowled=s.bowled) _ _ _ ⟨rfl,rfl,rfl,rfl,rfl,rfl,rfl,rfl,rfl,rfl⟩
    (P_c (P:=fun x:Inn=>x.runs=s.runs∧x.wides=s.wides∧x.noballs=s.noballs∧x.byes=s.byes∧x.legbyes=s.legbyes∧x.pens=s.pens∧x.complete=s.complete∧x.inover=s.inover∧x.bowler=s.bowler∧x.bowled=s.bowled) _ _ _ ⟨rfl,rfl,rfl,rfl,rfl,rfl,rfl,rfl,rfl,rfl⟩ ⟨rfl,rfl,rfl,rfl,rfl,rfl,rfl,rfl,rfl,rfl⟩)
def IH (r:Rul) (s:Inn) (d:Del):Inn :=
 let o:=Ap r (Ak s d) (AD r d).counts
 let t:Inn:=cond o.2 (IA o.1) o.1
 { t with runs:=IntKind.i64.wrap (s.runs+Dv (AD r d)),wides:=IntKind.i64.wrap (s.wides+(AD r d).wides),noballs:=IntKind.i64.wrap (s.noballs+(AD r d).noballs),byes:=IntKind.i64.wrap (s.byes+(AD r d).byes),legbyes:=IntKind.i64.wrap (s.legbyes+(AD r d).legbyes),freehit:=cond (d.type==1) false (cond (d.type==3&&r.freehit) true o.1.freehit) }
theorem cn {r:Rul} {s:Inn} {d:Del} (h:((Kv r s d).2==0)=true):(Gg r s d==0)=true∧(Kv r s d).1=IH r s d:=by
 unfold Kv at h ⊢;cases hr:Gg r s d==0 with
 | false=>rw [hr] at h;exact absurd (hr▸h) (by decide)
 | true =>
  refine ⟨rfl,?_⟩;obtain ⟨k1,k2,k3,k4,k5,_⟩:=YY s d;simp only [Bool.not_true,cond_false,hG,k1,k2,k3,k4,k5,IH];generalize Ap r (Ak s d) (AD r d).counts=o;obtain ⟨o1,o2⟩:=o;cases o2<;>rfl
theorem Ve {r:Rul} {s:Inn} {d:Del} (h:(Gg r s d==0)=true):Gz s.batters s.striker s.other=false∧(s.bowler==0)=false∧(RC r s==0)=true∧(EZ d==0)=true∧(Pf d s.freehit==0)=true∧(QH s d==0)=true:=by
 unfold Gg at h;cases h1:Gz s.batters s.striker s.other with
 | true=>rw [h1] at h;cases h
 | false =>
  cases h2:s.bowler==0 with
  | true=>rw [h1,h2] at h;cases h
  | false =>
   rw [h1,h2] at h;change (bK _ _ _ _==0)=true at h;unfold bK at h;cases h3:RC r s==0 with
   | false=>rw [h3] at h;exact absurd (h3▸h) (by decide)
   | true =>
    cases h4:EZ d==0 with
    | false=>rw [h3,h4] at h;exact absurd (h4▸h) (by decide)
    | true =>
     cases h5:Pf d s.freehit==0 with
     | false=>rw [h3,h4,h5] at h;exact absurd (h5▸h) (by decide)
     | true =>
      cases h6:QH s d==0 with
      | false=>rw [h3,h4,h5,h6] at h;exact absurd (h6▸h) (by decide)
      | true=>exact ⟨rfl,rfl,rfl,rfl,rfl,rfl⟩
theorem Xz {d:Del} {f:Bool} (h:(Pf d f==0)=true) (hd:(d.how==0)=false):(d.victim==1)=true∨(d.victim==2)=true:=by
 unfold Pf at h;rw [hd] at h;cases h1:d.victim==1 with
 | true=>exact .inl rfl
 | false =>
  cases h2:d.victim==2 with
  | true=>exact .inr rfl
  | false =>
   rw [h1,h2] at h
   exfalso
   revert h
   cases (!onS d.how d.type||f && !ez d.how)<;>cases (!Nk d.how&&(!(d.source==0) || !(d.runs==0)))<;>intro h<;>cases h
theorem Yy {s:Inn} {e:Ev} (h:XD s e=false) (hk:(e.kind==2)=false):Cd s.batters=true:=by
 unfold XD at h;rw [hk] at h;cases hb:Cd s.batters with
 | true=>rfl
 | false=>rw [hb] at h;simp at h
theorem kQ {s : Inn} {d : Del} (h1 : (s.striker == 0) = false) (h2 : (s.other == 0) = false) (hv : (d.how == 0) = false → (d.victim == 1) = true ∨ (d.victim == 2) = true) :
    (Ak s d).wickets=cond (d.how==0) s.wickets (inc s.wickets):=by
  unfold Ak;rw [h1,h2];cases hd:d.how==0 with
  | true=>cases (!(d.runs.tmod 2==0) != d.crossed)<;>rfl
  | false =>
    rcases hv hd with h | h<;>rw [h]<;>cases (!(d.runs.tmod 2==0) != d.crossed)<;>cases d.victim==1<;>rfl
theorem jz (r:Rul) (s:Inn) (b:Bool):(Ap r s b).1.wickets=s.wickets∧(Ap r s b).1.pens=s.pens:=by
 unfold Ap;exact P_c (P:=fun x:Inn×Bool=>x.1.wickets=s.wickets∧x.1.pens=s.pens) _ _ _ ⟨rfl,rfl⟩ (P_c (P:=fun x:Inn×Bool=>x.1.wickets=s.wickets∧x.1.pens=s.pens) _ _ _ ⟨rfl,rfl⟩ ⟨rfl,rfl⟩)
theorem kh {r : Rul} {s : Inn} {b : Bool} (hr : RulOk r) (hc : BD r = 0) (hb : inR s.bowler s.bowled.length = true) (hi : 0 ≤ s.inover ∧ s.inover ≤ r.balls - 1) (hn : Bj s.complete) :
    IntKind.i64.wrap (Cf r.balls (Ap r s b).1.complete (Ap r s b).1.inover - Cf r.balls s.complete s.inover)=cond b 1 0:=by
  have hk:∃ k:Nat,r.balls=k:=⟨r.balls.toNat,by have:=hr.balls;omega⟩;have hz:=hr.balls;unfold Bj at hn;unfold Ap Cf;rw [hb,hc];cases b with
  | false =>
    have h1:iLt s.inover r.balls=true:=by simp only [iLt,decide_eq_true_eq];omega
    simp only [cond_false,h1,beq_self_eq_true,Bool.not_true,Bool.or_false,cond_true];exact VG _
  | true =>
    have h2:inc s.inover=s.inover+1:=CE (by omega) (by omega);simp only [cond_true,h2,beq_self_eq_true,Bool.not_true,Bool.or_false,cond_false];have h3:inc s.complete=s.complete+1:=CE (by omega) (by omega);have hb5:r.balls=4∨r.balls=5∨r.balls=6∨r.balls=7∨r.balls=8:=by omega
    cases h1:iLt (s.inover+1) r.balls with
    | true =>
      simp only [cond_true]
      rcases hb5 with e | e | e | e | e<;>rw [e] at hi ⊢<;>simp only [NL]<;>omega
    | false =>
      simp only [iLt,decide_eq_false_iff_not] at h1;simp only [cond_false,h3]
      rcases hb5 with e | e | e | e | e<;>rw [e] at hi h1 ⊢<;>simp only [NL]<;>omega
theorem Yu {L:Rows} {s n:Int} (h:Gz L s n=false) (hb:Cd L=true):(s==0)=false∧(n==0)=false:=by
 unfold Gz at h;rw [hb,Bool.true_and,Bool.or_eq_false_iff] at h;exact h
theorem nZ {r:Rul} {s:Inn} (h:InnOk r s) (hb:(s.bowler==0)=false):inR s.bowler s.bowled.length=true:=by
 have h1:=h.bow;have h2:=h.ld;rw [beq_eq_false_iff_ne] at hb;simp only [inR,iLe,zzj,decide_eq_true_eq];omega
theorem mz {r : Rul} {s : Inn} {e : Ev} (hk : (e.kind == 4) = true) (h : ((Ao r s e).2 == 0) = true) :
    IntKind.i64.wrap ((Ao r s e).1.runs - s.runs)=Dv (AD r e.ball)∧IntKind.i64.wrap ((Ao r s e).1.wides - s.wides)=(AD r e.ball).wides∧IntKind.i64.wrap ((Ao r s e).1.noballs - s.noballs)=(AD r e.ball).noballs ∧
    IntKind.i64.wrap ((Ao r s e).1.byes - s.byes)=(AD r e.ball).byes∧IntKind.i64.wrap ((Ao r s e).1.legbyes - s.legbyes)=(AD r e.ball).legbyes∧(Ao r s e).1.pens=s.pens ∧
    IntKind.i64.wrap (Cf r.balls (Ao r s e).1.complete (Ao r s e).1.inover - Cf r.balls s.complete s.inover)=cond (AD r e.ball).counts 1 0 ∧
    IntKind.i64.wrap ((Ao r s e).1.wickets - s.wickets)=cond (e.ball.how==0) 0 1∧(Ao r s e).1.fresh=true∧IntKind.i64.wrap (Ao r s e).1.runs=(Ao r s e).1.runs:=by
  obtain ⟨hv,he,hn,hw,hp,hs⟩:=P4 h;have k4:=beq_iff_eq.1 hk;have hpb:Be r s e=Kv r s e.ball:=by unfold Be;rw [k4];rfl
  obtain ⟨d,hd0⟩:∃ d,d=e.ball:=⟨_,rfl⟩;rw [← hd0] at hpb ⊢;rw [hpb] at hp hs;obtain ⟨hr,hb⟩:=cn hp;obtain ⟨q1,q2,q3,q4,q5,q6⟩:=Ve hr;have ok:=JA.1 hv;have rk:=DV ok.code;have hbeg:Cd s.batters=true:=Yy hw (by rw [k4];rfl);obtain ⟨z1,z2⟩:=Yu q1 hbeg;have hin:=nZ ok q2;have hout:=kQ (d:=d) z1 z2 (fun hd=>Xz q5 hd);obtain ⟨k1,k2,k3,k4,k5,k6,k7,k8,k9,k10⟩:=YY s d;have hbl:=kh (b:=(AD r d).counts) (s:=Ak s d) rk ok.code (by rw [k9,k10];exact hin) (by rw [k8];exact ok.io) (by rw [k7];exact ok.complete);rw [k7,k8] at hbl;obtain ⟨w1,w2⟩:=jz r (Ak s d) (AD r d).counts;rw [hs,hb];have hc:AD r d=R2 r d:=by unfold AD;rw [q4];rfl
  have ht:IntKind.i64.wrap (Dv (AD r d))=Dv (AD r d):=HG _;have c1:IntKind.i64.wrap (AD r d).wides=(AD r d).wides:=by rw [hc];unfold R2;simp only;cases d.type==2<;>first | rfl | exact HG _
  have c2:IntKind.i64.wrap (AD r d).noballs=(AD r d).noballs:=by
    have:=rk.noball;rw [hc];unfold R2;simp only;cases d.type==3<;>first | rfl | exact CE (n:=r.noball) (by omega) (by omega)
  have c3:IntKind.i64.wrap (AD r d).byes=(AD r d).byes:=by rw [hc];unfold R2;simp only;cases (!(d.type==2)&&d.source==2)<;>first | rfl | exact HG _
  have c4:IntKind.i64.wrap (AD r d).legbyes=(AD r d).legbyes:=by rw [hc];unfold R2;simp only;cases (!(d.type==2)&&d.source==3)<;>first | rfl | exact HG _
  refine ⟨(Lc _ _).trans ht,(Lc _ _).trans c1,(Lc _ _).trans c2,(Lc _ _).trans c3,(Lc _ _).trans c4,?_,?_,?_,hk,HG _⟩
  · have : (Bq r (IH r s d) (e.kind == 4)).pens = (Ap r (Ak s d) (AD r d).counts).1.pens := by
      show (cond (Ap r (Ak s d) (AD r d).counts).2 (IA (Ap r (Ak s d) (AD r d).counts).1) (Ap r (Ak s d) (AD r d).counts).1).pens=_;cases (Ap r (Ak s d) (AD r d).counts).2<;>rfl
    rw [this,w2,k6]
  · have e1 : (Bq r (IH r s d) (e.kind == 4)).complete = (Ap r (Ak s d) (AD r d).counts).1.complete := by
      show (cond (Ap r (Ak s d) (AD r d).counts).2 (IA (Ap r (Ak s d) (AD r d).counts).1) (Ap r (Ak s d) (AD r d).counts).1).complete=_;cases (Ap r (Ak s d) (AD r d).counts).2<;>rfl
    have e2:(Bq r (IH r s d) (e.kind==4)).inover=(Ap r (Ak s d) (AD r d).counts).1.inover:=by
      show (cond (Ap r (Ak s d) (AD r d).counts).2 (IA (Ap r (Ak s d) (AD r d).counts).1) (Ap r (Ak s d) (AD r d).counts).1).inover=_;cases (Ap r (Ak s d) (AD r d).counts).2<;>rfl
    rw [e1,e2,hbl]
  · have : (Bq r (IH r s d) (e.kind == 4)).wickets = (Ap r (Ak s d) (AD r d).counts).1.wickets := by
      show (cond (Ap r (Ak s d) (AD r d).counts).2 (IA (Ap r (Ak s d) (AD r d).counts).1) (Ap r (Ak s d) (AD r d).counts).1).wickets=_;cases (Ap r (Ak s d) (AD r d).counts).2<;>rfl
    rw [this,w1,hout];unfold inc;cases d.how==0 with
    | true=>exact VG _
    | false=>exact (Lc s.wickets 1).trans rfl
def pu:Inn:=⟨0,0,0,0,0,0,0,0,0,0,0,0,0,0,[],0,[],[],false,[],false,0,0,0,[],0,0,0⟩
def tZ (n:Nat) (overs side t p:Int):Inn:=⟨side,t,overs,p,0,0,0,0,0,p,0,0,0,0,List.replicate n [.int 0],0,[],[],false,List.replicate n [.int 0],false,0,0,0,List.replicate n [.bool false],0,0,0⟩
def Cg (r:Rul) (side t p:Int):Inn×Int :=
 cond (!(BD r==0)) (pu,BD r) (cond (!btw side 1 2 || !btw t 0 1000000 || !btw p 0 1000000) (pu,2) (tZ r.side.toNat r.overs side t p,0))
theorem SI {N:Nat} {r8:Bool} {r0:ByteArray} {r13:Rows} {a:Int} {b:Int} {c:Int} (hN:2097152<N) (hs:r0.size≤1048576):Fm N [.str r0,.int r1,.int r2,.int r3,.int r4,.int r5,.int r6,.int r7,.bool r8,.int r9,.int r10,.int r11,.int r12,.rows r13,.int a,.int b,.int c]=some (BK (Cg (⟨r0,r1,r2,r3,r4,r5,r6,r7,r8,r9,r10,r11,r12,r13⟩:Rul) a b c)):=by
 show It (std (GY N) N) (xOf _)=_;generalize hres:(some (BK (Cg (⟨r0,r1,r2,r3,r4,r5,r6,r7,r8,r9,r10,r11,r12,r13⟩:Rul) a b c)):Option (List PV))=RR;simp only [It,OT,Lt,lq9,std,xOf,PXb,DG hN hs,Dp];subst hres;simp only [Cg];cases hc:BD (⟨r0,r1,r2,r3,r4,r5,r6,r7,r8,r9,r10,r11,r12,r13⟩:Rul)==0 with
 | false=>rfl
 | true =>
  have rk:=(DV (beq_iff_eq.1 hc)).side;obtain ⟨k,hk⟩:∃ k:Nat,r1=k:=⟨r1.toNat,by simp only at rk;omega⟩;subst hk;simp only at rk;have h1:iSm (k:Int) 1=true:=Iq (by omega) (by omega);have h8:iSm (k:Int) 8=true:=Iq (by omega) (by omega);simp only [PXb,PXc,PXn,PXm,Nat.reduceAdd,Int.reduceBEq,h1,h8];cases btw a 1 2<;>cases btw b 0 1000000<;>cases btw c 0 1000000<;>rfl
theorem Pe (r:Rul) (side t p:Int):(Cg r side t p).1.Fit∧(Cg r side t p).1.before=[]∧(Cg r side t p).1.bowlers=[]:=by
 unfold Cg;cases hc:BD r==0 with
 | false=>exact ⟨⟨by show 0≤1048576;omega,by show 0≤1048576;omega,by show 0≤1048576;omega,by show 0≤1048576;omega,by show 0≤1048576;omega⟩,rfl,rfl⟩
 | true =>
  have hs:=(DV (beq_iff_eq.1 hc)).side;have hl:∀ x:List PV,(List.replicate r.side.toNat x).length≤1048576:=fun x=>by rw [List.length_replicate];omega
  cases (!btw side 1 2 || !btw t 0 1000000 || !btw p 0 1000000) with
  | true=>exact ⟨⟨by show 0≤1048576;omega,by show 0≤1048576;omega,by show 0≤1048576;omega,by show 0≤1048576;omega,by show 0≤1048576;omega⟩,rfl,rfl⟩
  | false=>exact ⟨⟨hl _,by show 0≤1048576;omega,by show 0≤1048576;omega,hl _,hl _⟩,rfl,rfl⟩
theorem qk {s:Inn} (h:s.Fit):(Oi s).Fit:=⟨h.bt,h.bw,h.bf,h.bd,h.sb⟩
def Shp (L:Rows):Prop:=∀ r∈L,r≠[]
structure BatOk (L:Rows) (s n wk:Int):Prop where
 le:∀ i,i<L.length→atI L i 0≤3
 at1:∀ i,i<L.length→(atI L i 0=1↔(s=(i:Int)+1∨n=(i:Int)+1))
 here:Cd L=true→s≠0∨n≠0
 ne:s≠0→s≠n
 wk:wk=V4 L
theorem rU {r:Rul} {s:Inn} (h:InnOk r s):2≤r.side∧r.side≤11:=(DV h.code).side
theorem nE {s:Inn} {p:Int} {hurt:Bool} (h:((FX s p hurt).2==0)=true):inR p s.batters.length=true∧s.striker≠0∧s.other≠0∧(p=s.striker∨p=s.other)∧(hurt&&((De s.batters s.batters.length).length:Int)==0)=false:=by
 unfold FX at h;cases h1:inR p s.batters.length with
 | false=>rw [h1] at h;cases h
 | true =>
  cases h2:s.striker==0 with
  | true=>rw [h1,h2] at h;cases h
  | false =>
   cases h3:s.other==0 with
   | true=>rw [h1,h2,h3] at h;cases h
   | false =>
    cases h4:(!(p==s.striker) && !(p==s.other)) with
    | true=>rw [h1,h2,h3,h4] at h;cases h
    | false =>
     cases h5:(hurt&&((De s.batters s.batters.length).length:Int)==0) with
     | true=>rw [h1,h2,h3,h4,h5] at h;cases h
     | false =>
      refine ⟨rfl,beq_eq_false_iff_ne.1 h2,beq_eq_false_iff_ne.1 h3,?_,rfl⟩;rw [Bool.and_eq_false_iff,Bool.not_eq_false',Bool.not_eq_false',beq_iff_eq,beq_iff_eq] at h4;exact h4
structure Small (s:Inn):Prop where
 target:s.target≤999999900
 runs:s.runs≤999999900
 wides:s.wides≤999999900
 noballs:s.noballs≤999999900
 byes:s.byes≤999999900
 legbyes:s.legbyes≤999999900
 pens:s.pens≤999999900
 complete:s.complete≤999999900
 ballage:s.ballage≤999999900
 rev1:s.rev1≤999999900
 rev2:s.rev2≤999999900
 bowled:∀ j,j<s.bowled.length→atI s.bowled j 0≤999999900
end Go.Px
end
