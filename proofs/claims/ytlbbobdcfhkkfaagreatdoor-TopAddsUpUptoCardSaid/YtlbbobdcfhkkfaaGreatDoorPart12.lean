/- Part 12. -/
import Derived.Test.YtlbbobdcfhkkfaaGreatDoorPart11
set_option linter.unusedVariables false
set_option linter.unusedSimpArgs false
variable {s0 s1 s2 s3 s4 s5 s6 s7 s8 s9 s10 s11 s12 s13 s15 s21 s22 s23 s25 s26 s27:Int}
variable {s14 s16 s17 s19 s24:Go.Px.Rows}
variable {r1 r2 r3 r4 r5 r6 r7 r9 r10 r11 r12:Int}
variable {d0 d1 d2 d3 d4 d6 d7 d8 d9 d11:Int}
variable {e0 e1 e2 e3 e5 e6 e7 e8 e9 e10 e11 e13 e14 e15 e16 e18:Int}
section
namespace Go.Px
set_option maxRecDepth 100000
def oT (r:Rul) (over:Int):Int :=
 match Bd (fun i=>cond (iLe (atI r.power i 0) (inc over)&&iLe (inc over) (atI r.power i 1)) (some [.int (atI r.power i 2)]) none) r.power.length 0 with
 | some x=>pvI (AA x 0)
 | none=>r.outside
theorem fM {N:Nat} {r8:Bool} {r0:ByteArray} {r13:Rows} {o:Int} (hN:2097152<N) (h13:r13.length≤1048576):Gj N [.str r0,.int r1,.int r2,.int r3,.int r4,.int r5,.int r6,.int r7,.bool r8,.int r9,.int r10,.int r11,.int r12,.rows r13,.int o]=some [.int (oT (⟨r0,r1,r2,r3,r4,r5,r6,r7,r8,r9,r10,r11,r12,r13⟩:Rul) o)]:=by
 show KJ (std (Rs N) N) (xOf _)=_;simp only [KJ,lq9,std,xOf,PXb,PXc,PXn,AG];refine AZ (DN (len:=r13.length) (fun i=>cond (iLe (atI r13 i 0) (inc o)&&iLe (inc o) (atI r13 i 1)) (some [.int (atI r13 i 2)]) none) ?_ ?_ r13.length 0 N (by omega) (by omega)) ?_
 ·intro self;simp only [PXb,PXc,PXn,AG,A3]
 ·intro i self hi;simp only [PXb,PXc,PXn,AG,BO (show i≤1099511627776 by omega),Ay hi,AN hi];cases hq:iLe (atI r13 i 0) (inc o)&&iLe (inc o) (atI r13 i 1)<;>unfold inc atI at hq<;>rw [hq]<;>rfl
 ·unfold oT;cases Bd (fun i=>cond (iLe (atI r13 i 0) (inc o)&&iLe (inc o) (atI r13 i 1)) (some [.int (atI r13 i 2)]) none) r13.length 0<;>rfl
def LP (s:Inn) (p:Int):Inn×Int :=
 cond (!inR p s.subs.length) (s,3) (cond (JO s p) (s,18) (cond (p==s.bowler||p==s.keeper) (s,17) ({ s with keeper:=p },0)))
theorem jS {N:Nat} {s18 s20:Bool} {p:Int} (h:Fit s14 s16 s17 s19 s24):IB N [.int s0,.int s1,.int s2,.int s3,.int s4,.int s5,.int s6,.int s7,.int s8,.int s9,.int s10,.int s11,.int s12,.int s13,.rows s14,.int s15,.rows s16,.rows s17,.bool s18,.rows s19,.bool s20,.int s21,.int s22,.int s23,.rows s24,.int s25,.int s26,.int s27,.int p]=some (Bk (LP (⟨s0,s1,s2,s3,s4,s5,s6,s7,s8,s9,s10,s11,s12,s13,s14,s15,s16,s17,s18,s19,s20,s21,s22,s23,s24,s25,s26,s27⟩:Inn) p)):=by
 show Li (std (F8 N) N) (xOf _)=_;generalize hres:(some (Bk (LP (⟨s0,s1,s2,s3,s4,s5,s6,s7,s8,s9,s10,s11,s12,s13,s14,s15,s16,s17,s18,s19,s20,s21,s22,s23,s24,s25,s26,s27⟩:Inn) p)):Option (List PV))=RR;simp only [Li,S4,RV,PH,lq9,std,xOf,PXb,PXc,PXn,PXm,Nat.reduceAdd,Int.reduceBEq,V0 h,Jj,JH h.sb];subst hres;simp only [LP];cases inR p s24.length<;>cases JO (⟨s0,s1,s2,s3,s4,s5,s6,s7,s8,s9,s10,s11,s12,s13,s14,s15,s16,s17,s18,s19,s20,s21,s22,s23,s24,s25,s26,s27⟩:Inn) p<;>cases p==s15<;>cases p==s22<;>rfl
def Oj (s:Inn) (p:Int) (on:Bool):Inn×Int :=
  cond (!inR p s.subs.length) (s,3) (cond (JO s p==on) (s,18)
    ({ s with subs:=wy s.subs p on,keeper:=cond (on&&s.keeper==p) 0 s.keeper,bowler:=cond (on&&s.bowler==p) 0 s.bowler },0))
theorem Zf {N:Nat} {s18 s20:Bool} {p:Int} {b:Bool} (h:Fit s14 s16 s17 s19 s24):En N [.int s0,.int s1,.int s2,.int s3,.int s4,.int s5,.int s6,.int s7,.int s8,.int s9,.int s10,.int s11,.int s12,.int s13,.rows s14,.int s15,.rows s16,.rows s17,.bool s18,.rows s19,.bool s20,.int s21,.int s22,.int s23,.rows s24,.int s25,.int s26,.int s27,.int p,.bool b]=some (Bk (Oj (⟨s0,s1,s2,s3,s4,s5,s6,s7,s8,s9,s10,s11,s12,s13,s14,s15,s16,s17,s18,s19,s20,s21,s22,s23,s24,s25,s26,s27⟩:Inn) p b)):=by
 show G5 (std (Dx N) N) (xOf _)=_;generalize hres:(some (Bk (Oj (⟨s0,s1,s2,s3,s4,s5,s6,s7,s8,s9,s10,s11,s12,s13,s14,s15,s16,s17,s18,s19,s20,s21,s22,s23,s24,s25,s26,s27⟩:Inn) p b)):Option (List PV))=RR;simp only [G5,P7,OK,Ma,lq9,std,xOf,PXb,PXc,PXn,PXm,Nat.reduceAdd,Int.reduceBEq,V0 h,Jj,JH h.sb];subst hres;simp only [Oj];cases hp:inR p s24.length<;>try rfl
 rw [Mr hp h.sb];cases JO (⟨s0,s1,s2,s3,s4,s5,s6,s7,s8,s9,s10,s11,s12,s13,s14,s15,s16,s17,s18,s19,s20,s21,s22,s23,s24,s25,s26,s27⟩:Inn) p==b<;>cases b<;>cases s22==p<;>cases s15==p<;>rfl
def JB (s:Inn) (n:Int):Inn×Int :=
 cond (iLt n 0||iLt (IntKind.i64.wrap ((s.subs.length:Int) - 2)) n) (s,16) ({ s with outside:=n },0)
theorem gZ {N:Nat} {s18 s20:Bool} {n:Int} (h:Fit s14 s16 s17 s19 s24):HN N [.int s0,.int s1,.int s2,.int s3,.int s4,.int s5,.int s6,.int s7,.int s8,.int s9,.int s10,.int s11,.int s12,.int s13,.rows s14,.int s15,.rows s16,.rows s17,.bool s18,.rows s19,.bool s20,.int s21,.int s22,.int s23,.rows s24,.int s25,.int s26,.int s27,.int n]=some (Bk (JB (⟨s0,s1,s2,s3,s4,s5,s6,s7,s8,s9,s10,s11,s12,s13,s14,s15,s16,s17,s18,s19,s20,s21,s22,s23,s24,s25,s26,s27⟩:Inn) n)):=by
 show KL (std (MB N) N) (xOf _)=_;generalize hres:(some (Bk (JB (⟨s0,s1,s2,s3,s4,s5,s6,s7,s8,s9,s10,s11,s12,s13,s14,s15,s16,s17,s18,s19,s20,s21,s22,s23,s24,s25,s26,s27⟩:Inn) n)):Option (List PV))=RR;simp only [KL,Se,lq9,std,xOf,PXb,PXc,PXn,PXm,Nat.reduceAdd,Int.reduceBEq,V0 h];subst hres;simp only [JB];cases (iLt n 0||iLt (IntKind.i64.wrap ((s24.length:Int) - 2)) n)<;>rfl
def UT (r:Rul) (s:Inn):Int :=
 cond (!inR s.keeper s.subs.length||JO s s.keeper||s.keeper==s.bowler) 17 (cond (iLt (oT r s.complete) s.outside) 16 0)
theorem lr {N:Nat} {r8:Bool} {r0:ByteArray} {r13:Rows} {s18 s20:Bool} (h:Fit s14 s16 s17 s19 s24) (hN:2097152<N) (h13:r13.length≤1048576):Jd N [.str r0,.int r1,.int r2,.int r3,.int r4,.int r5,.int r6,.int r7,.bool r8,.int r9,.int r10,.int r11,.int r12,.rows r13,.int s0,.int s1,.int s2,.int s3,.int s4,.int s5,.int s6,.int s7,.int s8,.int s9,.int s10,.int s11,.int s12,.int s13,.rows s14,.int s15,.rows s16,.rows s17,.bool s18,.rows s19,.bool s20,.int s21,.int s22,.int s23,.rows s24,.int s25,.int s26,.int s27]=some [.int (UT (⟨r0,r1,r2,r3,r4,r5,r6,r7,r8,r9,r10,r11,r12,r13⟩:Rul) (⟨s0,s1,s2,s3,s4,s5,s6,s7,s8,s9,s10,s11,s12,s13,s14,s15,s16,s17,s18,s19,s20,s21,s22,s23,s24,s25,s26,s27⟩:Inn))]:=by
 show Mn (std (G8 N) N) (xOf _)=_;generalize hres:(some [.int (UT (⟨r0,r1,r2,r3,r4,r5,r6,r7,r8,r9,r10,r11,r12,r13⟩:Rul) (⟨s0,s1,s2,s3,s4,s5,s6,s7,s8,s9,s10,s11,s12,s13,s14,s15,s16,s17,s18,s19,s20,s21,s22,s23,s24,s25,s26,s27⟩:Inn))]:Option (List PV))=RR;simp only [Mn,SR,Pn,Q7,lq9,std,xOf,PXb,PXc,PXn,PXm,Nat.reduceAdd,Int.reduceBEq,Jj,JH h.sb,fM hN h13];subst hres;simp only [UT];cases inR s22 s24.length<;>cases JO (⟨s0,s1,s2,s3,s4,s5,s6,s7,s8,s9,s10,s11,s12,s13,s14,s15,s16,s17,s18,s19,s20,s21,s22,s23,s24,s25,s26,s27⟩:Inn) s22<;>cases s22==s15<;>rfl
def T7 (s:Inn) (d:Del):Int :=
  cond (iLt 0 d.fielder && !inR d.fielder s.subs.length) 3 (cond (iLt 0 d.fielder && !(d.sub==JO s d.fielder)) 18
    (cond (iLt 0 d.second && !inR d.second s.subs.length) 3 (cond (iLt 0 d.second&&JO s d.second) 18
      (cond (d.how==4 && !(sE d.fielder==s.keeper)) 17 0))))
theorem lP {N:Nat} {s18 s20:Bool} {d5 d10:Bool} (h:Fit s14 s16 s17 s19 s24):JR N [.int s0,.int s1,.int s2,.int s3,.int s4,.int s5,.int s6,.int s7,.int s8,.int s9,.int s10,.int s11,.int s12,.int s13,.rows s14,.int s15,.rows s16,.rows s17,.bool s18,.rows s19,.bool s20,.int s21,.int s22,.int s23,.rows s24,.int s25,.int s26,.int s27,.int d0,.int d1,.int d2,.int d3,.int d4,.bool d5,.int d6,.int d7,.int d8,.int d9,.bool d10,.int d11]=some [.int (T7 (⟨s0,s1,s2,s3,s4,s5,s6,s7,s8,s9,s10,s11,s12,s13,s14,s15,s16,s17,s18,s19,s20,s21,s22,s23,s24,s25,s26,s27⟩:Inn) (⟨d0,d1,d2,d3,d4,d5,d6,d7,d8,d9,d10,d11⟩:Del))]:=by
 show Mi (std (KQ N) N) (xOf _)=_;generalize hres:(some [.int (T7 (⟨s0,s1,s2,s3,s4,s5,s6,s7,s8,s9,s10,s11,s12,s13,s14,s15,s16,s17,s18,s19,s20,s21,s22,s23,s24,s25,s26,s27⟩:Inn) (⟨d0,d1,d2,d3,d4,d5,d6,d7,d8,d9,d10,d11⟩:Del))]:Option (List PV))=RR;simp only [Mi,SP,Pm,lq9,std,xOf,PXb,PXc,PXn,PXm,Nat.reduceAdd,Int.reduceBEq,Jj,JH h.sb];subst hres;simp only [T7,sE,AAv];cases iLt 0 d8<;>cases iLt 0 d9<;>cases inR d8 s24.length<;>cases inR d9 s24.length<;>cases d10==JO (⟨s0,s1,s2,s3,s4,s5,s6,s7,s8,s9,s10,s11,s12,s13,s14,s15,s16,s17,s18,s19,s20,s21,s22,s23,s24,s25,s26,s27⟩:Inn) d8<;>cases JO (⟨s0,s1,s2,s3,s4,s5,s6,s7,s8,s9,s10,s11,s12,s13,s14,s15,s16,s17,s18,s19,s20,s21,s22,s23,s24,s25,s26,s27⟩:Inn) d9<;>rfl
structure Cre where
 batter:Int
 wides:Int
 noballs:Int
 byes:Int
 legbyes:Int
 bowler:Int
 counts:Bool
 faced:Bool
 wicket:Bool
 swap:Bool
def Cre.ls (c:Cre):List PV:=[.int c.batter,.int c.wides,.int c.noballs,.int c.byes,.int c.legbyes,.int c.bowler,.bool c.counts,.bool c.faced,.bool c.wicket,.bool c.swap]
def Q8 (d:Del):Bool :=
  cond (d.type==2) (d.source==0 && !(d.boundary==6)) (cond (d.source==0) (d.runs==0&&d.boundary==0)
    (cond (d.boundary==0) (iLt 0 d.runs) (cond (d.boundary==6) (d.source==1&&d.runs==0) true)))
def Dp (d:Del):Int :=
  cond (iLt d.type 1||iLt 3 d.type||iLt 3 d.source||iLt 10 d.how || !btw d.sector 0 8) 11
    (cond (!btw d.runs 0 7 || !btw d.short 0 d.runs||(!(d.boundary==0) && !(d.boundary==4) && !(d.boundary==6))) 12
      (cond (!Q8 d) 11 (cond (!(d.sector==0) && !(d.source==1) && !(d.how==2)) 11 (cond (!(d.boundary==0) && !(d.how==0)) 11
        (cond (d.crossed && !(d.how==6) && !(d.how==8)) 11 0)))))
def MG (d:Del):Bool :=
  cond (d.type==2) (d.source==0 && !(d.boundary==6)) (cond (d.source==0) (d.runs==0&&d.boundary==0)
    (cond (d.source==1) (!(d.boundary==6)||d.runs==0) (!(d.boundary==6)&&(iLt 0 d.runs || !(d.boundary==0)))))
theorem ZB {N:Nat} {d5 d10:Bool}  : EH N [.int d0,.int d1,.int d2,.int d3,.int d4,.bool d5,.int d6,.int d7,.int d8,.int d9,.bool d10,.int d11]=some [.bool (MG (⟨d0,d1,d2,d3,d4,d5,d6,d7,d8,d9,d10,d11⟩:Del))]:=by
 show GQ (std (NR N) N) (xOf _)=_;generalize hres:(some [.bool (MG (⟨d0,d1,d2,d3,d4,d5,d6,d7,d8,d9,d10,d11⟩:Del))]:Option (List PV))=RR;simp only [GQ,lq9,std,xOf,PXb,PXc,PXn,PXm,Nat.reduceAdd,Int.reduceBEq];subst hres;simp only [MG]
theorem AB8 (x a b:Int):(!btw x a b)=(iLt x a||iLt b x):=by
 unfold btw iLe iLt;rw [Bool.eq_iff_iff];simp only [Bool.not_eq_true',Bool.and_eq_false_iff,decide_eq_false_iff_not,Bool.or_eq_true,decide_eq_true_eq];omega
theorem yf {d:Del} (h:0≤d.runs):(!MG d || !d.type==2&&d.source==1&&d.runs==0&&d.boundary==0) = !Q8 d:=by
 unfold MG Q8;rw [z8 h];cases h1:d.source==0 with
 | true =>
  rw [jA h1 (c:=1) rfl];cases d.type==2<;>cases d.runs==0<;>cases d.boundary==0<;>cases d.boundary==6<;>rfl
 | false =>
  cases h2:d.boundary==0 with
  | true =>
   rw [jA h2 (c:=6) rfl];cases d.type==2<;>cases d.source==1<;>cases d.runs==0<;>rfl
  | false=>cases d.type==2<;>cases d.source==1<;>cases d.runs==0<;>cases d.boundary==6<;>rfl
theorem Tl {N:Nat} {d5 d10:Bool}  : C7 N [.int d0,.int d1,.int d2,.int d3,.int d4,.bool d5,.int d6,.int d7,.int d8,.int d9,.bool d10,.int d11]=some [.int (Dp (⟨d0,d1,d2,d3,d4,d5,d6,d7,d8,d9,d10,d11⟩:Del))]:=by
 show JJ (std (LA N) N) (xOf _)=_;generalize hres:(some [.int (Dp (⟨d0,d1,d2,d3,d4,d5,d6,d7,d8,d9,d10,d11⟩:Del))]:Option (List PV))=RR;simp only [JJ,L6,lq9,std,xOf,PXb,PXc,PXn,PXm,Nat.reduceAdd,Int.reduceBEq,ZB];subst hres;simp only [Dp,AB8,Bool.or_assoc];cases h2:(iLt d2 0||(iLt 7 d2||(iLt d3 0||(iLt d2 d3 || !d4==0 && !d4==4 && !d4==6)))) with
 | true=>rfl
 | false =>
  have h3:0≤d2:=by
   rw [Bool.or_eq_false_iff] at h2;have:=h2.1;simp only [iLt,decide_eq_false_iff_not] at this;omega
  have:=yf (d:=(⟨d0,d1,d2,d3,d4,d5,d6,d7,d8,d9,d10,d11⟩:Del)) h3;simp only at this;rw [this]
theorem Ta {N:Nat} {a:Int} {b:Int} {c:Int} {d:Int} {e:Int} {x:Int} {p:Bool} {q:Bool} {u:Bool} {v:Bool}  : C8 N [.int a,.int b,.int c,.int d,.int e,.int x,.bool p,.bool q,.bool u,.bool v]=some [.int (IntKind.i64.wrap (IntKind.i64.wrap (IntKind.i64.wrap (IntKind.i64.wrap (a+b)+c)+d)+e))]:=by
 rfl
def CT (c:Cre):Int:=IntKind.i64.wrap (IntKind.i64.wrap (IntKind.i64.wrap (IntKind.i64.wrap (c.batter+c.wides)+c.noballs)+c.byes)+c.legbyes)
def Ww (h:Int):Bool:=iLe 1 h&&iLe h 5
theorem Y8 {N:Nat} {h:Int}  : EJ N [.int h]=some [.bool (Ww h)]:=by
 show GJ (std (NT N) N) (xOf _)=_;simp only [GJ,lq9,std,xOf,PXb,PXc,PXn,PXm,Nat.reduceAdd,Int.reduceBEq,Ww]
def KA (r:Rul) (d:Del):Cre :=
  let n:=IntKind.i64.wrap (IntKind.i64.wrap (d.runs - d.short)+d.boundary)
  let b:=cond (!(d.type==2)&&d.source==1) n 0
  let w:=cond (d.type==2) (IntKind.i64.wrap (r.wide+n)) 0
  let o:=cond (d.type==3) r.noball 0
  { batter:=b,wides:=w,noballs:=o,byes:=cond (!(d.type==2)&&d.source==2) n 0,legbyes:=cond (!(d.type==2)&&d.source==3) n 0,bowler:=IntKind.i64.wrap (IntKind.i64.wrap (b+w)+o),
    counts:=d.type==1,faced := !(d.type==2),wicket:=Ww d.how,swap := !((!(d.runs.tmod 2==0))==d.crossed) }
def AD (r:Rul) (d:Del):Cre:=cond (!(Dp d==0)) ⟨0,0,0,0,0,0,false,false,false,false⟩ (KA r d)
theorem td {d:Del} (h:(Dp d==0)=true):0≤d.runs∧d.runs≤7:=by
 unfold Dp at h;cases h1:(iLt d.type 1||iLt 3 d.type||iLt 3 d.source||iLt 10 d.how || !btw d.sector 0 8) with
 | true=>rw [h1] at h;cases h
 | false =>
  cases h2:(!btw d.runs 0 7 || !btw d.short 0 d.runs||(!(d.boundary==0) && !(d.boundary==4) && !(d.boundary==6))) with
  | true=>rw [h1,h2] at h;cases h
  | false =>
   rw [Bool.or_eq_false_iff,Bool.or_eq_false_iff] at h2;have:=h2.1.1;simp only [btw,iLe,Bool.not_eq_false',zzj,decide_eq_true_eq] at this;exact this
theorem yw {n:Int} (h:0≤n∧n≤7) (b:Bool):((cond b (IntKind.i64.wrap (n+1)) n).tmod 2==1) = !((!(n.tmod 2==0))==b):=by
 obtain ⟨k,rfl⟩:∃ k:Nat,n=k:=⟨n.toNat,by omega⟩;have:k=0∨k=1∨k=2∨k=3∨k=4∨k=5∨k=6∨k=7:=by omega
 rcases this with h | h | h | h | h | h | h | h<;>subst h<;>cases b<;>rfl
theorem L7 {N:Nat} {r8:Bool} {r0:ByteArray} {r13:Rows} {d5 d10:Bool}  : A6 N [.str r0,.int r1,.int r2,.int r3,.int r4,.int r5,.int r6,.int r7,.bool r8,.int r9,.int r10,.int r11,.int r12,.rows r13,.int d0,.int d1,.int d2,.int d3,.int d4,.bool d5,.int d6,.int d7,.int d8,.int d9,.bool d10,.int d11]=some (AD (⟨r0,r1,r2,r3,r4,r5,r6,r7,r8,r9,r10,r11,r12,r13⟩:Rul) (⟨d0,d1,d2,d3,d4,d5,d6,d7,d8,d9,d10,d11⟩:Del)).ls:=by
 show Hk (std (GN N) N) (xOf _)=_;generalize hres:(some (AD (⟨r0,r1,r2,r3,r4,r5,r6,r7,r8,r9,r10,r11,r12,r13⟩:Rul) (⟨d0,d1,d2,d3,d4,d5,d6,d7,d8,d9,d10,d11⟩:Del)).ls:Option (List PV))=RR;simp only [Hk,NN,Lu,lq9,std,xOf,PXb,PXc,PXn,PXm,Nat.reduceAdd,Int.reduceBEq,Tl,Y8];subst hres;simp only [AD,KA];cases hl:Dp (⟨d0,d1,d2,d3,d4,d5,d6,d7,d8,d9,d10,d11⟩:Del)==0 with
 | false=>rfl
 | true =>
  have hs:=yw (td hl) d5;simp only at hs;simp only [PXb,PXc,PXn,PXm,Nat.reduceAdd,Int.reduceBEq,hs];cases h0:d0==2<;>cases h3:d0==3<;>cases h1:d1==1<;>cases h2:d1==2<;>cases h4:d1==3<;>first
   | rfl
   | (rw [jA h0 (c:=3) rfl] at h3;exact absurd h3 (by decide))
   | (rw [jA h1 (c:=2) rfl] at h2;exact absurd h2 (by decide))
   | (rw [jA h1 (c:=3) rfl] at h4;exact absurd h4 (by decide))
   | (rw [jA h2 (c:=3) rfl] at h4;exact absurd h4 (by decide))
def onS (h t:Int):Bool :=
 cond (h==1||h==2||h==3) (t==1) (cond (h==4||h==5) (t==1||t==2) (cond (h==7) (t==1||t==3) (cond (h==6||h==8) (t==1||t==2||t==3) false)))
def mN (h:Int):Bool:=h==6||h==7||h==8
def QI (h:Int):Bool:=h==6||h==8
def gx (h:Int):Bool:=h==2||h==4||h==6
def Sj (d:Del) (free:Bool):Int :=
  cond (d.how==0) (cond (!(d.victim==0)) 14 (cond (!(d.fielder==0) || !(d.second==0)||d.sub) 15 0))
    (cond (!onS d.how d.type||free && !mN d.how) 13 (cond (!QI d.how&&(!(d.source==0) || !(d.runs==0))) 12
      (cond (!(d.victim==1) && !(d.victim==2&&QI d.how)) 14
        (cond (gx d.how && !btw d.fielder 1 11 || !gx d.how && !(d.fielder==0)) 15
          (cond (!(d.second==0)&&(!(d.how==6) || !btw d.second 1 11||d.second==d.fielder)) 15
            (cond (d.sub && !(d.how==2) && !(d.how==6)) 18 0))))))
def Ca:Rows:=match CJ 0 [] with
 | some [.rows l]=>l
 | _=>[]
theorem Rq {N:Nat}:CJ N []=some [.rows Ca]:=rfl
theorem dX:Ca.length=11:=rfl
theorem Z2 {N:Nat} {h:Int} {n:ByteArray} {b:Bool} {c:Bool} {d:Bool} {e:Bool} {x:Bool} {t:Int}  : Ej N [.int h,.str n,.bool b,.bool c,.bool d,.bool e,.bool x,.int t]=some [.bool (t==1&&b||t==2&&c||t==3&&d)]:=by
 show Gm (std (OD N) N) (xOf _)=_;simp only [Gm,lq9,std,xOf,PXb,PXc,PXn,PXm,Nat.reduceAdd,Int.reduceBEq]
theorem WD {N:Nat} {n:Int}  : DV N [.int n]=some [.bool (btw n 1 11)]:=by
 show EX (std (Kd N) N) (xOf _)=_;simp only [EX,lq9,std,xOf,PXb,PXc,PXn,PXm,Nat.reduceAdd,Int.reduceBEq];rfl
def se (i j:Nat):Bool:=pvB (AF Ca i j)
def wOk (t:Int) (free:Bool) (i:Nat):Bool :=
  (t==1&&se i 2||t==2&&se i 3||t==3&&se i 4)&&(!free||atI Ca i 0==6||atI Ca i 0==7||atI Ca i 0==8)
def Iz (t:Int) (free:Bool):Nat→Rows
 | 0=>[]
 | i+1=>cond (wOk t free i) (Iz t free i++[[.int (atI Ca i 0)]]) (Iz t free i)
theorem di (t:Int) (free:Bool):∀ i,(Iz t free i).length≤i
 | 0=>Nat.le_refl _
 | i+1=>by
  have:=di t free i;unfold Iz;cases wOk t free i
  ·exact Nat.le_succ_of_le this
  ·simp;exact this
theorem eG {N:Nat} {t:Int} {f:Bool} (hN:2097152<N):F6 N [.int t,.bool f]=some [.rows (Iz t f 11)]:=by
 show Iv (std (Gy N) N) (xOf _)=_;simp only [Iv,NB,MI,lq9,std,xOf,PXb,PXc,PXn,AG,Rq,Z2];refine AZ (CA (len:=Ca.length) (fun i=>[.rows (Iz t f i),.int (i:Int)]) [.rows (Iz t f 11)] ?_ ?_ N (by rw [dX];omega)) rfl
 ·intro self;simp only [PXb,PXc,PXn,AG,A3];rfl
 ·intro i self hi;have hi2:i<11:=hi;have h2:(Iz t f i++[[PV.int (atI Ca i 0)]]).length≤4194304:=by have:=di t f i;simp;omega
  simp only [PXb,PXc,AG,BO (show i≤1099511627776 by omega),Ay hi,AN hi,C9,Iz,Gu h2 (show 1≤4096 by omega)];unfold wOk se;cases ((t==1&&pvB (AF Ca i 2)||t==2&&pvB (AF Ca i 3)||t==3&&pvB (AF Ca i 4))&&(!f||atI Ca i 0==6||atI Ca i 0==7||atI Ca i 0==8))<;>rfl
theorem Zl {N:Nat} {L:Rows} {v:Int} (hN:L.length<N) (hl:L.length≤1048576):Ep N [.rows L,.int v]=some [.int (Rl (fun j=>v==atI L j 0) L.length)]:=by
 show HA (std (OS N) N) (xOf _)=_;simp only [HA,lq9,std,xOf,PXb,PXc,PXn,AG];refine AZ (DN (len:=L.length) (Hf fun j=>v==atI L j 0) ?_ ?_ L.length 0 N (by omega) (by omega)) ?_
 ·intro self;simp only [PXb,PXc,PXn,AG,A3]
 ·intro i self hi;simp only [PXb,PXc,PXn,AG,BO (show i≤1099511627776 by omega),Ay hi,AN hi,Hf,C9];cases v==atI L i 0<;>rfl
 ·unfold Rl;cases Bd (Hf fun j=>v==atI L j 0) L.length 0<;>rfl
theorem WO {N:Nat} {L:Rows} {v:Int} (hN:L.length<N) (hl:L.length≤1048576):Dk N [.rows L,.int v]=some [.bool (L1 L L.length v)]:=by
 show Et (std (GX N) N) (xOf _)=_;simp only [Et,Jt,lq9,std,xOf,PXb,PXc,PXn,AG,Zl hN hl,LQ,L1]
theorem xH (L:Rows) (v:Int):L1 L L.length v=MC (fun x=>v==x) L:=rfl
theorem AAo (p:Int→Bool) (b:Bool) (L:Rows) (x:Int):MC p (cond b (L++[[.int x]]) L)=(MC p L||(b&&p x)):=by
 cases b with
 | false=>simp
 | true=>rw [cond_true,nA,Bool.true_and];congr 1;rw [P2];simp [AA,pvI]
theorem nU (t:Int) (free:Bool) (p:Int→Bool):∀ i,MC p (Iz t free i)=CO (fun j=>wOk t free j&&p (atI Ca j 0)) i 0
 | 0=>rfl
 | i+1=>by rw [Zc,← nU t free p i,Iz,AAo,Nat.zero_add]
theorem xI (t h:Int) (free:Bool):L1 (Iz t free 11) (Iz t free 11).length h=(onS h t&&(!free||mN h)):=by
 rw [xH,nU];have key:∀ j,j<11→atI Ca j 0=j:=by
  intro j hj;have:j=0∨j=1∨j=2∨j=3∨j=4∨j=5∨j=6∨j=7∨j=8∨j=9∨j=10:=by omega
  rcases this with h | h | h | h | h | h | h | h | h | h | h<;>subst h<;>rfl
 by_cases hr:0≤h∧h≤10
 ·obtain ⟨k,rfl⟩:∃ k:Nat,h=k:=⟨h.toNat,by omega⟩;have:k=0∨k=1∨k=2∨k=3∨k=4∨k=5∨k=6∨k=7∨k=8∨k=9∨k=10:=by omega
  rcases this with h | h | h | h | h | h | h | h | h | h | h<;>subst h<;>simp only [Cr,Ka,wOk,onS]<;>cases free<;>cases t==1<;>cases t==2<;>cases t==3<;>rfl
 ·rw [Fa.2 fun j _ hj=>by
   rw [key j (by omega),show (h==(j:Int))=false from beq_false_of_ne (by omega),Bool.and_false]]
  have e:∀ n:Int,0≤n→n≤10→(h==n)=false:=fun n h0 h1=>beq_false_of_ne (by omega)
  unfold onS;rw [e 1 (by omega) (by omega),e 2 (by omega) (by omega),e 3 (by omega) (by omega),e 4 (by omega) (by omega),e 5 (by omega) (by omega),e 6 (by omega) (by omega),e 7 (by omega) (by omega),e 8 (by omega) (by omega)];rfl
def XJ (h:Int):List PV:=match Bd (fun i=>cond (atI Ca i 0==h) (some [.int (pvI (AF Ca i 0)),.str (pvS (AF Ca i 1)),.bool (pvB (AF Ca i 2)),.bool (pvB (AF Ca i 3)),.bool (pvB (AF Ca i 4)),.bool (pvB (AF Ca i 5)),.bool (pvB (AF Ca i 6))]) none) 11 0 with
 | some r=>r
 | none=>[.int 0,.str ⟨#[]⟩,.bool false,.bool false,.bool false,.bool false,.bool false]
theorem Sa {ans:Nat→Option (List PV)} {r:List PV}:∀ (k i:Nat),Bd ans k i=some r→∃ j,i≤j∧j<i+k∧ans j=some r
 | 0,i,h=>by cases h
 | k+1,i,h=>by
  simp only [Bd] at h;cases ha:ans i with
  | some x=>rw [ha] at h;cases h;exact ⟨i,Nat.le_refl _,by omega,ha⟩
  | none =>
   rw [ha] at h;obtain ⟨j,h1,h2,h3⟩:=Sa k (i+1) h;exact ⟨j,by omega,by omega,h3⟩
theorem xo (h:Int):∃ a b c d e f g,XJ h=[.int a,.str b,.bool c,.bool d,.bool e,.bool f,.bool g]:=by
 unfold XJ;generalize hf:Bd _ 11 0=o;cases o with
 | none=>exact ⟨_,_,_,_,_,_,_,rfl⟩
 | some r =>
  obtain ⟨j,_,_,h3⟩:=Sa _ _ hf;cases hb:atI Ca j 0==h with
  | false=>rw [hb] at h3;cases h3
  | true=>rw [hb] at h3;cases h3;exact ⟨_,_,_,_,_,_,_,rfl⟩
theorem jF {N:Nat} {h:Int} (hN:2097152<N):Ia N [.int h]=some (XJ h):=by
 show Lo (std (M8 N) N) (xOf _)=_;simp only [Lo,N0,lq9,std,xOf,PXb,PXc,PXn,AG,Rq];refine AZ (DN (len:=Ca.length) (fun i=>cond (atI Ca i 0==h) (some [.int (pvI (AF Ca i 0)),.str (pvS (AF Ca i 1)),.bool (pvB (AF Ca i 2)),.bool (pvB (AF Ca i 3)),.bool (pvB (AF Ca i 4)),.bool (pvB (AF Ca i 5)),.bool (pvB (AF Ca i 6))]) none) ?_ ?_ Ca.length 0 N (by omega) (by rw [dX];omega)) ?_
 ·intro self;simp only [PXb,PXc,PXn,AG,A3]
 ·intro i self hi;have hi2:i<11:=hi;simp only [PXb,PXc,PXn,AG,BO (show i≤1099511627776 by omega),Ay hi,AN hi,C9];cases atI Ca i 0==h<;>rfl
 ·unfold XJ;rw [dX];generalize hf:Bd _ 11 0=o;cases o with
  | none=>rfl
  | some r =>
   obtain ⟨j,_,_,h3⟩:=Sa _ _ hf;cases hb:atI Ca j 0==h with
   | false=>rw [hb] at h3;cases h3
   | true=>rw [hb] at h3;cases h3;rfl
theorem wB (h:Int):pvB (AA (XJ h) 5)=gx h∧pvB (AA (XJ h) 6)=QI h:=by
 by_cases hr:0≤h∧h≤10
 ·obtain ⟨k,rfl⟩:∃ k:Nat,h=k:=⟨h.toNat,by omega⟩;have:k=0∨k=1∨k=2∨k=3∨k=4∨k=5∨k=6∨k=7∨k=8∨k=9∨k=10:=by omega
  rcases this with h | h | h | h | h | h | h | h | h | h | h<;>subst h<;>exact ⟨rfl,rfl⟩
 ·have e:∀ n:Int,0≤n→n≤10→(h==n)=false:=fun n h0 h1=>beq_false_of_ne (by omega)
  have key:∀ j,j<11→atI Ca j 0=j:=by
   intro j hj;have:j=0∨j=1∨j=2∨j=3∨j=4∨j=5∨j=6∨j=7∨j=8∨j=9∨j=10:=by omega
   rcases this with h | h | h | h | h | h | h | h | h | h | h<;>subst h<;>rfl
  unfold XJ;generalize hf:Bd _ 11 0=o;cases o with
  | none =>
   unfold gx QI;rw [e 2 (by omega) (by omega),e 4 (by omega) (by omega),e 6 (by omega) (by omega),e 8 (by omega) (by omega)];exact ⟨rfl,rfl⟩
  | some r =>
   obtain ⟨j,_,hj,h3⟩:=Sa _ _ hf;rw [key j (by omega),show ((j:Int)==h)=false from beq_false_of_ne (by omega)] at h3;cases h3
def Q3 (d:Del) (m:Bool):Bool :=
 !(!(m==btw d.fielder 1 11) || !m && !(d.fielder==0))&&(d.second==0||d.how==6&&btw d.second 1 11 && !(d.second==d.fielder))
theorem Xj {N:Nat} {d5 d10:Bool} {a:Int} {n:ByteArray} {b:Bool} {c:Bool} {e:Bool} {f:Bool} {g:Bool}  : Dy N [.int d0,.int d1,.int d2,.int d3,.int d4,.bool d5,.int d6,.int d7,.int d8,.int d9,.bool d10,.int d11,.int a,.str n,.bool b,.bool c,.bool e,.bool f,.bool g]=some [.bool (Q3 (⟨d0,d1,d2,d3,d4,d5,d6,d7,d8,d9,d10,d11⟩:Del) f)]:=by
 show FZ (std (Hd N) N) (xOf _)=_;generalize hres:(some [.bool (Q3 (⟨d0,d1,d2,d3,d4,d5,d6,d7,d8,d9,d10,d11⟩:Del) f)]:Option (List PV))=RR;simp only [FZ,Ig,lq9,std,xOf,PXb,PXc,PXn,PXm,Nat.reduceAdd,Int.reduceBEq,WD];subst hres;simp only [Q3];cases d9==0<;>cases d6==6<;>cases f<;>cases btw d8 1 11<;>cases d8==0<;>first | rfl | (cases btw d9 1 11<;>rfl)
theorem ABe {α:Type} (a b:Bool) (x y:α):cond (a||b) x y=cond a x (cond b x y):=by cases a<;>rfl
theorem qY (d:Del) (m:Bool):(!Q3 d m)=((m && !btw d.fielder 1 11 || !m && !(d.fielder==0))||(!(d.second==0)&&(!(d.how==6) || !btw d.second 1 11||d.second==d.fielder))):=by
 unfold Q3;cases hb:btw d.fielder 1 11<;>cases hf:d.fielder==0
 ·cases m<;>cases d.second==0<;>cases d.how==6<;>cases btw d.second 1 11<;>cases d.second==d.fielder<;>rfl
 ·cases m<;>cases d.second==0<;>cases d.how==6<;>cases btw d.second 1 11<;>cases d.second==d.fielder<;>rfl
 ·cases m<;>cases d.second==0<;>cases d.how==6<;>cases btw d.second 1 11<;>cases d.second==d.fielder<;>rfl
 ·rw [beq_iff_eq.1 hf] at hb;exact absurd hb (by decide)
theorem X1 {N:Nat} {d5 d10:Bool} {f:Bool} (hN:2097152<N):Dz N [.int d0,.int d1,.int d2,.int d3,.int d4,.bool d5,.int d6,.int d7,.int d8,.int d9,.bool d10,.int d11,.bool f]=some [.int (Sj (⟨d0,d1,d2,d3,d4,d5,d6,d7,d8,d9,d10,d11⟩:Del) f)]:=by
 show Fc (std (Cj N) N) (xOf _)=_;generalize hres:(some [.int (Sj (⟨d0,d1,d2,d3,d4,d5,d6,d7,d8,d9,d10,d11⟩:Del) f)]:Option (List PV))=RR;have hl:=di d0 f 11;obtain ⟨a,b,c,d,e,m,g,hline⟩:=xo d6;have hbits:=wB d6;rw [hline] at hbits;have hm:m=gx d6:=hbits.1;have hg:g=QI d6:=hbits.2;have h1:(Iz d0 f 11).length<N:=by omega
 have h2:(Iz d0 f 11).length≤1048576:=by omega
 simp only [Fc,MY,I6,Lb,Jh,lq9,std,xOf,PXb,PXc,PXn,PXm,Nat.reduceAdd,Int.reduceBEq,jF hN,hline,eG hN,WO h1 h2,xI,Xj,qY];subst hres;simp only [Sj,ABe];rw [hm,hg];unfold QI;cases d6==0<;>cases onS d6 d0<;>cases f<;>cases mN d6<;>try rfl
 all_goals (cases d6==6<;>cases d6==8<;>cases d7==2<;>rfl)
theorem ZY {N:Nat} {a:Int} {b:Int} {c:Int}  : Ei N [.int a,.int b,.int c]=some [.bool (btw a b c)]:=by
 show K9 (std (O5 N) N) (xOf _)=_;show some [PV.bool (cond (iLe b a) (iLe a c) false)]=_;rw [gj];rfl
theorem fO {N:Nat} {a:Int} {b:Int} {c:Int}  : Gh N [.int a,.int b,.int c]=some [.bool (btw a b c)]:=by
 show Oo (std (SJ N) N) (xOf _)=_;show some [PV.bool (cond (iLe b a) (iLe a c) false)]=_;rw [gj];rfl
def mG (d:Del):Int :=
  cond (iLt d.type 1||iLt 3 d.type||iLt 3 d.source||iLt 10 d.how) 3
    (cond (!btw d.runs 0 7 || !btw d.short 0 d.runs||(!(d.boundary==0) && !(d.boundary==4) && !(d.boundary==6)) || !btw d.victim 0 2 || !btw d.fielder 0 11 || !btw d.second 0 11 || !btw d.sector 0 8) 2 0)
theorem dn {N:Nat} {d5 d10:Bool}  : Dg N [.int d0,.int d1,.int d2,.int d3,.int d4,.bool d5,.int d6,.int d7,.int d8,.int d9,.bool d10,.int d11]=some [.int (mG (⟨d0,d1,d2,d3,d4,d5,d6,d7,d8,d9,d10,d11⟩:Del))]:=by
 show I7 (std (Kg N) N) (xOf _)=_;generalize hres:(some [.int (mG (⟨d0,d1,d2,d3,d4,d5,d6,d7,d8,d9,d10,d11⟩:Del))]:Option (List PV))=RR;simp only [I7,MX,lq9,std,xOf,PXb,PXc,PXn,PXm,Nat.reduceAdd,Int.reduceBEq,ZY];subst hres;simp only [mG]
def loS (k:Int):Int:=cond (k==7) 0 (cond (k==13) 1 0)
def hiS (k:Int):Int:=cond (k==7) 11 (cond (k==13) 99 100000)
theorem ic {N:Nat} {k:Int}  : IU N [.int k]=some [.int (loS k),.int (hiS k)]:=by
 show Lx (std (Te N) N) (xOf _)=_;simp only [Lx,lq9,std,xOf,PXb,PXc,PXn,PXm,Nat.reduceAdd,Int.reduceBEq];unfold loS hiS;cases k==7<;>cases k==13<;>rfl
def uS (k:Int):Bool:=k==1||k==12||k==14||k==11||k==13
def uP (k:Int):Bool:=k==2||k==3||k==8||k==5||k==6||k==9
def uO (k:Int):Bool:=k==2
def uY (k:Int):Bool:=k==1||k==12||k==14||k==5||k==6||k==9
def uR (k:Int):Bool:=k==7||k==13||k==15
def uV (k:Int):Bool:=k==15
def uB (k:Int):Bool:=k==4
theorem jq {k:Int} (h:(iLt k 1||iLt 16 k)=false):k=1∨k=2∨k=3∨k=4∨k=5∨k=6∨k=7∨k=8∨k=9∨k=10∨k=11∨k=12∨k=13∨k=14∨k=15∨k=16:=by
 simp only [iLt,Bool.or_eq_false_iff,decide_eq_false_iff_not] at h;omega
def tq:Rows:=match Gb 0 [] with
 | some [.rows l]=>l
 | _=>[]
theorem lw {N:Nat}:Gb N []=some [.rows tq]:=rfl
def EB (k f:Int):Bool:=iLe 0 (Lib.indexByte (pvS (AF tq (IntKind.u8.wrap (k - 1)).toNat 1)).data.toList f.toNat.toUInt8)||(k==5&&f==121)
theorem Y6 {N:Nat} {s:ByteArray} {f:Int}  : EL N [.str s,.int f]=some [.int (Lib.indexByte s.data.toList f.toNat.toUInt8)]:=by
 show GO (std (H2 N) N) (xOf _)=_;simp only [GO,Ih,lq9,std,xOf,PXb,PXc,PXn,PXm,Nat.reduceAdd,Int.reduceBEq,DH,gN]
theorem Zh {N:Nat} {k:Int} {f:Int} (h:(iLt k 1||iLt 16 k)=false):LC N [.int k,.int f]=some [.bool (EB k f)]:=by
 show OH (std (LU N) N) (xOf _)=_;have hi:iIn (IntKind.u8.wrap (k - 1)) (tq.length:Int)=true:=by
  rcases jq h with h | h | h | h | h | h | h | h | h | h | h | h | h | h | h | h<;>subst h<;>rfl
 simp only [OH,Oi,UD,lq9,std,xOf,PXb,PXc,PXn,PXm,Nat.reduceAdd,Int.reduceBEq,lw,Y6,hi,EB]
theorem ABG {k:Int} (h:(iLt k 1||iLt 16 k)=false):EB k 115=uS k∧EB k 112=uP k∧EB k 111=uO k∧EB k 121=uY k∧EB k 114=uR k∧EB k 118=uV k∧EB k 98=uB k:=by
 rcases jq h with h | h | h | h | h | h | h | h | h | h | h | h | h | h | h | h<;>subst h<;>exact ⟨rfl,rfl,rfl,rfl,rfl,rfl,rfl⟩
def sR (d:Del):Bool:=d.type==0&&(d.source==0&&(d.runs==0&&(d.short==0&&(d.boundary==0&&(d.crossed==false&&(d.how==0&&(d.victim==0&&(d.fielder==0&&(d.second==0&&(d.sub==false&&d.sector==0))))))))))
def og (e:Ev):Bool:=(!(e.side==0) && !uS e.kind)||((!(e.player==0) && !uP e.kind)||((!(e.other==0) && !uO e.kind)||((e.yes && !uY e.kind)||((!(e.runs==0) && !uR e.kind)||((!(e.overs==0) && !uV e.kind)||(!sR e.ball && !uB e.kind))))))
def de (e:Ev):Bool:=(!btw e.side 1 2&&uS e.kind)||((!btw e.player 1 11&&uP e.kind)||((!btw e.other 1 11&&uO e.kind)||((!btw e.runs (loS e.kind) (hiS e.kind)&&uR e.kind)||(!btw e.overs 0 90&&uV e.kind))))
def evS (e:Ev):Int:=cond (iLt e.kind 1||iLt 16 e.kind) 3 (cond (og e) 1 (cond (de e) 2 (cond (e.kind==4) (mG e.ball) 0)))
def evT (e:Ev):Rows:=[[.int 115,.bool (e.side==0),.bool (btw e.side 1 2)],[.int 112,.bool (e.player==0),.bool (btw e.player 1 11)],[.int 111,.bool (e.other==0),.bool (btw e.other 1 11)],[.int 121,.bool (!e.yes),.bool true],[.int 114,.bool (e.runs==0),.bool (btw e.runs (loS e.kind) (hiS e.kind))],[.int 118,.bool (e.overs==0),.bool (btw e.overs 0 90)],[.int 98,.bool (sR e.ball),.bool true]]
theorem Yg {N:Nat} {e4 e12 e17:Bool} (hN:2097152<N):D6 N [.int e0,.int e1,.int e2,.int e3,.bool e4,.int e5,.int e6,.int e7,.int e8,.int e9,.int e10,.int e11,.bool e12,.int e13,.int e14,.int e15,.int e16,.bool e17,.int e18]=some [.int (evS (⟨e0,e1,e2,e3,e4,e5,e6,⟨e7,e8,e9,e10,e11,e12,e13,e14,e15,e16,e17,e18⟩⟩:Ev))]:=by
 show Jl (std (Ez N) N) (xOf _)=_;generalize hres:(some [.int (evS (⟨e0,e1,e2,e3,e4,e5,e6,⟨e7,e8,e9,e10,e11,e12,e13,e14,e15,e16,e17,e18⟩⟩:Ev))]:Option (List PV))=RR;cases hk:iLt e0 1||iLt 16 e0 with
 | true =>
  simp only [Jl,EU,JW,Ij,Ku,lq9,std,xOf,PXb,PXc,AG,hk,← hres,evS]
 | false =>
  simp only [Jl,EU,JW,Ij,Ku,lq9,std,xOf,PXb,PXc,AG,hk,ic,fO];subst hres;obtain ⟨g1,g2,g3,g4,g5,g6,g7⟩:=ABG hk;refine AZ (M6 (len:=7) (fun i => !pvB (AF (evT (⟨e0,e1,e2,e3,e4,e5,e6,⟨e7,e8,e9,e10,e11,e12,e13,e14,e15,e16,e17,e18⟩⟩:Ev)) i 1) && !EB e0 (pvI (AF (evT (⟨e0,e1,e2,e3,e4,e5,e6,⟨e7,e8,e9,e10,e11,e12,e13,e14,e15,e16,e17,e18⟩⟩:Ev)) i 0))) [.int 1] ?_ ?_ N (by omega)) ?_
  ·intro self;rfl
  ·intro i self hi;simp only [PXb,PXc,AG,BO (show i≤1099511627776 by omega),List.length_cons,List.length_nil,Nat.reduceAdd,Ay hi,AN hi,Zh hk];change cond (!pvB (AF (evT (⟨e0,e1,e2,e3,e4,e5,e6,⟨e7,e8,e9,e10,e11,e12,e13,e14,e15,e16,e17,e18⟩⟩:Ev)) i 1) && !(!pvB (AF (evT (⟨e0,e1,e2,e3,e4,e5,e6,⟨e7,e8,e9,e10,e11,e12,e13,e14,e15,e16,e17,e18⟩⟩:Ev)) i 1)&&EB e0 (pvI (AF (evT (⟨e0,e1,e2,e3,e4,e5,e6,⟨e7,e8,e9,e10,e11,e12,e13,e14,e15,e16,e17,e18⟩⟩:Ev)) i 0)))) _ _=_;cases pvB (AF (evT (⟨e0,e1,e2,e3,e4,e5,e6,⟨e7,e8,e9,e10,e11,e12,e13,e14,e15,e16,e17,e18⟩⟩:Ev)) i 1)<;>rfl
  ·have a1:CO (fun i => !pvB (AF (evT (⟨e0,e1,e2,e3,e4,e5,e6,⟨e7,e8,e9,e10,e11,e12,e13,e14,e15,e16,e17,e18⟩⟩:Ev)) i 1) && !EB e0 (pvI (AF (evT (⟨e0,e1,e2,e3,e4,e5,e6,⟨e7,e8,e9,e10,e11,e12,e13,e14,e15,e16,e17,e18⟩⟩:Ev)) i 0))) 7 0=og (⟨e0,e1,e2,e3,e4,e5,e6,⟨e7,e8,e9,e10,e11,e12,e13,e14,e15,e16,e17,e18⟩⟩:Ev):=by
    simp only [Cr,Ka];change (!(e1==0) && !EB e0 115||(!(e2==0) && !EB e0 112||(!(e3==0) && !EB e0 111||(!(!e4) && !EB e0 121||(!(e5==0) && !EB e0 114||(!(e6==0) && !EB e0 118||(!(sR (⟨e0,e1,e2,e3,e4,e5,e6,⟨e7,e8,e9,e10,e11,e12,e13,e14,e15,e16,e17,e18⟩⟩:Ev).ball) && !EB e0 98||false)))))))=_;rw [g1,g2,g3,g4,g5,g6,g7,Bool.not_not,Bool.or_false];rfl
   rw [a1];simp only [evS,hk,cond_false];cases og (⟨e0,e1,e2,e3,e4,e5,e6,⟨e7,e8,e9,e10,e11,e12,e13,e14,e15,e16,e17,e18⟩⟩:Ev) with
   | true=>rfl
   | false =>
    simp only [PXb,PXc,AG];refine AZ (M6 (len:=7) (fun i => !pvB (AF (evT (⟨e0,e1,e2,e3,e4,e5,e6,⟨e7,e8,e9,e10,e11,e12,e13,e14,e15,e16,e17,e18⟩⟩:Ev)) i 2)&&EB e0 (pvI (AF (evT (⟨e0,e1,e2,e3,e4,e5,e6,⟨e7,e8,e9,e10,e11,e12,e13,e14,e15,e16,e17,e18⟩⟩:Ev)) i 0))) [.int 2] ?_ ?_ N (by omega)) ?_
    ·intro self;rfl
    ·intro i self hi;simp only [PXb,PXc,AG,BO (show i≤1099511627776 by omega),List.length_cons,List.length_nil,Nat.reduceAdd,Ay hi,AN hi,Zh hk];rfl
    ·have a2:CO (fun i => !pvB (AF (evT (⟨e0,e1,e2,e3,e4,e5,e6,⟨e7,e8,e9,e10,e11,e12,e13,e14,e15,e16,e17,e18⟩⟩:Ev)) i 2)&&EB e0 (pvI (AF (evT (⟨e0,e1,e2,e3,e4,e5,e6,⟨e7,e8,e9,e10,e11,e12,e13,e14,e15,e16,e17,e18⟩⟩:Ev)) i 0))) 7 0=de (⟨e0,e1,e2,e3,e4,e5,e6,⟨e7,e8,e9,e10,e11,e12,e13,e14,e15,e16,e17,e18⟩⟩:Ev):=by
      simp only [Cr,Ka];change (!(btw e1 1 2)&&EB e0 115||(!(btw e2 1 11)&&EB e0 112||(!(btw e3 1 11)&&EB e0 111||(!true&&EB e0 121||(!(btw e5 (loS e0) (hiS e0))&&EB e0 114||(!(btw e6 0 90)&&EB e0 118||(!true&&EB e0 98||false)))))))=_;rw [g1,g2,g3,g4,g5,g6,g7];simp only [Bool.not_true,Bool.false_and,Bool.false_or,Bool.or_false];rfl
     rw [a2];cases de (⟨e0,e1,e2,e3,e4,e5,e6,⟨e7,e8,e9,e10,e11,e12,e13,e14,e15,e16,e17,e18⟩⟩:Ev) with
     | true=>rfl
     | false =>
      simp only [PXb,PXc,PXn,PXm,Nat.reduceAdd,Int.reduceBEq,EU,dn]
theorem c4 {c x x' y y':Bool} {a b d z z':Int} (h1:x=x') (h2:y=y') (h3:z=z'):(some [PV.int (cond c a (cond x b (cond y d z)))]:Option (List PV))=some [PV.int (cond c a (cond x' b (cond y' d z')))]:=by subst h1;subst h2;subst h3;rfl
structure Lens (s t:Inn):Prop where
 bt:t.batters.length=s.batters.length
 bd:t.bowled.length=s.bowled.length
 sb:t.subs.length=s.subs.length
 bw:t.bowlers.length≤s.bowlers.length+1
 bf:t.before.length≤s.before.length+s.bowlers.length+1
theorem Lens.refl (s:Inn):Lens s s:=⟨rfl,rfl,rfl,by omega,by omega⟩
theorem P_c {α:Type} {P:α→Prop} (b:Bool) (x y:α) (hx:P x) (hy:P y):P (cond b x y):=by cases b<;>assumption
theorem pZ (s:Inn) (d:Del):Lens s (Ag s d):=by
 have hb:∀ (b:Bool),(cond b (DX s.batters s.striker 2) s.batters).length=s.batters.length:=fun b=>by cases b<;>simp [FA]
 have hc:∀ (b:Bool),(cond b (DX s.batters s.other 2) s.batters).length=s.batters.length:=fun b=>by cases b<;>simp [FA]
 unfold Ag;cases (!(d.runs.tmod 2==0) != d.crossed)<;>refine P_c _ _ _ ⟨hb _,rfl,rfl,?_,?_⟩ (P_c _ _ _ ⟨hc _,rfl,rfl,?_,?_⟩ ⟨rfl,rfl,rfl,?_,?_⟩)<;>simp<;>omega
theorem jz (r:Rul) (s:Inn) (c:Bool):Lens s (Av r s c).1:=by
 have hl:(cond (L1 s.bowlers s.bowlers.length s.bowler) s.bowlers (s.bowlers++[[.int s.bowler]])).length≤s.bowlers.length+1:=by
  cases L1 s.bowlers s.bowlers.length s.bowler<;>simp
 have hd:(cond c (DX s.bowled s.bowler (inc (atI s.bowled (ix s.bowler) 0))) s.bowled).length=s.bowled.length:=by cases c<;>simp [FA]
 unfold Av;refine P_c (P:=fun x:Inn×Bool=>Lens s x.1) _ _ _ (Lens.refl s) (P_c (P:=fun x:Inn×Bool=>Lens s x.1) _ _ _ ⟨rfl,hd,rfl,hl,by simp;omega⟩ ⟨rfl,hd,rfl,by simp,?_⟩);simp only;omega
def iP (a b c d:Int):Int:=cond (!(a==0)) a (cond (!(b==0)) b (cond (!(c==0)) c (cond (!(d==0)) d 0)))
def IM (r:Rul) (s:Inn) (d:Del):Int :=
 cond (GB s.batters s.striker s.other) 6 (cond (s.bowler==0) 7 (iP (UT r s) (Dp d) (Sj d s.freehit) (T7 s d)))
theorem bv {N:Nat} {r8:Bool} {r0:ByteArray} {r13:Rows} {s18 s20:Bool} {d5 d10:Bool} (h:Fit s14 s16 s17 s19 s24) (hN:2097152<N) (h13:r13.length≤1048576):FD N [.str r0,.int r1,.int r2,.int r3,.int r4,.int r5,.int r6,.int r7,.bool r8,.int r9,.int r10,.int r11,.int r12,.rows r13,.int s0,.int s1,.int s2,.int s3,.int s4,.int s5,.int s6,.int s7,.int s8,.int s9,.int s10,.int s11,.int s12,.int s13,.rows s14,.int s15,.rows s16,.rows s17,.bool s18,.rows s19,.bool s20,.int s21,.int s22,.int s23,.rows s24,.int s25,.int s26,.int s27,.int d0,.int d1,.int d2,.int d3,.int d4,.bool d5,.int d6,.int d7,.int d8,.int d9,.bool d10,.int d11]=some [.int (IM (⟨r0,r1,r2,r3,r4,r5,r6,r7,r8,r9,r10,r11,r12,r13⟩:Rul) (⟨s0,s1,s2,s3,s4,s5,s6,s7,s8,s9,s10,s11,s12,s13,s14,s15,s16,s17,s18,s19,s20,s21,s22,s23,s24,s25,s26,s27⟩:Inn) (⟨d0,d1,d2,d3,d4,d5,d6,d7,d8,d9,d10,d11⟩:Del))]:=by
 show Hn (std (Ct N) N) (xOf _)=_;generalize hres:(some [.int (IM (⟨r0,r1,r2,r3,r4,r5,r6,r7,r8,r9,r10,r11,r12,r13⟩:Rul) (⟨s0,s1,s2,s3,s4,s5,s6,s7,s8,s9,s10,s11,s12,s13,s14,s15,s16,s17,s18,s19,s20,s21,s22,s23,s24,s25,s26,s27⟩:Inn) (⟨d0,d1,d2,d3,d4,d5,d6,d7,d8,d9,d10,d11⟩:Del))]:Option (List PV))=RR;simp only [Hn,NK,Nt,PG,Kk,O8,lq9,std,xOf,PXb,VM h.bt hN,lr h hN h13,Tl,X1 hN,lP h];subst hres;simp only [IM];cases GB s14 s12 s13<;>try rfl
 cases s15==0<;>try rfl
 simp only [PXb];generalize UT (⟨r0,r1,r2,r3,r4,r5,r6,r7,r8,r9,r10,r11,r12,r13⟩:Rul) (⟨s0,s1,s2,s3,s4,s5,s6,s7,s8,s9,s10,s11,s12,s13,s14,s15,s16,s17,s18,s19,s20,s21,s22,s23,s24,s25,s26,s27⟩:Inn)=a;generalize Dp (⟨d0,d1,d2,d3,d4,d5,d6,d7,d8,d9,d10,d11⟩:Del)=b;generalize Sj (⟨d0,d1,d2,d3,d4,d5,d6,d7,d8,d9,d10,d11⟩:Del) s20=c;generalize T7 (⟨s0,s1,s2,s3,s4,s5,s6,s7,s8,s9,s10,s11,s12,s13,s14,s15,s16,s17,s18,s19,s20,s21,s22,s23,s24,s25,s26,s27⟩:Inn) (⟨d0,d1,d2,d3,d4,d5,d6,d7,d8,d9,d10,d11⟩:Del)=e;refine AZ (DN (len:=4) (fun i=>cond (!(atI [[.int a],[.int b],[.int c],[.int e]] i 0==0)) (some [.int (atI [[.int a],[.int b],[.int c],[.int e]] i 0)]) none) ?_ ?_ 4 0 N (by omega) (by omega)) ?_
 ·intro self;rfl
 ·intro i self hi;simp only [PXb,BO (show i≤1099511627776 by omega),List.length_cons,List.length_nil,Nat.reduceAdd,Ay hi,AN hi,C9];cases atI [[.int a],[.int b],[.int c],[.int e]] i 0==0<;>rfl
 ·refine (gO _).trans (congrArg (fun z=>some [PV.int z]) ?_);unfold iP;simp only [Bd];rw [show atI [[.int a],[.int b],[.int c],[.int e]] 0 0=a from rfl,show atI [[.int a],[.int b],[.int c],[.int e]] (0+1) 0=b from rfl,show atI [[.int a],[.int b],[.int c],[.int e]] (0+1+1) 0=c from rfl,show atI [[.int a],[.int b],[.int c],[.int e]] (0+1+1+1) 0=e from rfl];cases a==0<;>try rfl
  cases b==0<;>try rfl
  cases c==0<;>try rfl
  cases e==0<;>rfl
theorem UJ {s t:Inn} (l:Lens s t) (h:s.Fit) (hw:s.before.length+s.bowlers.length≤1048575):t.Fit:=⟨l.bt▸h.bt,by have:=l.bw;omega,by have:=l.bf;omega,l.bd▸h.bd,l.sb▸h.sb⟩
theorem vO (s:Inn) (d:Del):(Ag s d).bowlers=s.bowlers:=by
 unfold Ag;cases (!(d.runs.tmod 2==0) != d.crossed)<;>exact P_c (P:=fun x:Inn=>x.bowlers=s.bowlers) _ _ _ rfl (P_c (P:=fun x:Inn=>x.bowlers=s.bowlers) _ _ _ rfl rfl)
theorem vW (s:Inn) (d:Del):(Ag s d).before=s.before:=by
 unfold Ag;cases (!(d.runs.tmod 2==0) != d.crossed)<;>exact P_c (P:=fun x:Inn=>x.before=s.before) _ _ _ rfl (P_c (P:=fun x:Inn=>x.before=s.before) _ _ _ rfl rfl)
@[reducible] def aG (t:Inn) (a b e f g:Int):Inn:=⟨t.side,t.target,t.overs,a,t.wickets,b,e,f,g,t.pens,t.complete,t.inover,t.striker,t.other,t.batters,t.bowler,t.bowlers,t.before,t.fresh,t.bowled,t.freehit,t.ballage,t.keeper,t.outside,t.subs,t.rev1,t.rev2,t.ending⟩
def KN (r:Rul) (s:Inn) (d:Del):Inn×Int :=
  cond (!(IM r s d==0)) (s,IM r s d)
    (let c:=AD r d
     let t:=Ag s d
     let o:=Av r (aG t (IntKind.i64.wrap (t.runs+CT c)) (IntKind.i64.wrap (t.wides+c.wides)) (IntKind.i64.wrap (t.noballs+c.noballs)) (IntKind.i64.wrap (t.byes+c.byes)) (IntKind.i64.wrap (t.legbyes+c.legbyes))) c.counts
     let t:Inn:=cond o.2 (H4 o.1) o.1
     ({ t with freehit:=cond (d.type==1) false (cond (d.type==3&&r.freehit) true o.1.freehit) },0))
theorem jh {N:Nat} {r8:Bool} {r0:ByteArray} {r13:Rows} {s18 s20:Bool} {d5 d10:Bool} (h:Fit s14 s16 s17 s19 s24) (hw:s17.length+s16.length≤1000000) (hN:2097152<N) (hs:r0.size≤1048576) (h13:r13.length≤1048576):H9 N [.str r0,.int r1,.int r2,.int r3,.int r4,.int r5,.int r6,.int r7,.bool r8,.int r9,.int r10,.int r11,.int r12,.rows r13,.int s0,.int s1,.int s2,.int s3,.int s4,.int s5,.int s6,.int s7,.int s8,.int s9,.int s10,.int s11,.int s12,.int s13,.rows s14,.int s15,.rows s16,.rows s17,.bool s18,.rows s19,.bool s20,.int s21,.int s22,.int s23,.rows s24,.int s25,.int s26,.int s27,.int d0,.int d1,.int d2,.int d3,.int d4,.bool d5,.int d6,.int d7,.int d8,.int d9,.bool d10,.int d11]=some (Bk (KN (⟨r0,r1,r2,r3,r4,r5,r6,r7,r8,r9,r10,r11,r12,r13⟩:Rul) (⟨s0,s1,s2,s3,s4,s5,s6,s7,s8,s9,s10,s11,s12,s13,s14,s15,s16,s17,s18,s19,s20,s21,s22,s23,s24,s25,s26,s27⟩:Inn) (⟨d0,d1,d2,d3,d4,d5,d6,d7,d8,d9,d10,d11⟩:Del))):=by
 show LT (std (Cb N) N) (xOf _)=_;generalize hres:(some (Bk (KN (⟨r0,r1,r2,r3,r4,r5,r6,r7,r8,r9,r10,r11,r12,r13⟩:Rul) (⟨s0,s1,s2,s3,s4,s5,s6,s7,s8,s9,s10,s11,s12,s13,s14,s15,s16,s17,s18,s19,s20,s21,s22,s23,s24,s25,s26,s27⟩:Inn) (⟨d0,d1,d2,d3,d4,d5,d6,d7,d8,d9,d10,d11⟩:Del))):Option (List PV))=RR;have l1:=pZ (⟨s0,s1,s2,s3,s4,s5,s6,s7,s8,s9,s10,s11,s12,s13,s14,s15,s16,s17,s18,s19,s20,s21,s22,s23,s24,s25,s26,s27⟩:Inn) (⟨d0,d1,d2,d3,d4,d5,d6,d7,d8,d9,d10,d11⟩:Del);have f1:=UJ l1 h (by simp only;omega);have w1:(Ag (⟨s0,s1,s2,s3,s4,s5,s6,s7,s8,s9,s10,s11,s12,s13,s14,s15,s16,s17,s18,s19,s20,s21,s22,s23,s24,s25,s26,s27⟩:Inn) (⟨d0,d1,d2,d3,d4,d5,d6,d7,d8,d9,d10,d11⟩:Del)).bowlers.length=s16.length:=congrArg List.length (vO _ _);have w2:(Ag (⟨s0,s1,s2,s3,s4,s5,s6,s7,s8,s9,s10,s11,s12,s13,s14,s15,s16,s17,s18,s19,s20,s21,s22,s23,s24,s25,s26,s27⟩:Inn) (⟨d0,d1,d2,d3,d4,d5,d6,d7,d8,d9,d10,d11⟩:Del)).before.length=s17.length:=congrArg List.length (vW _ _);have l2:=fun (x:Rul) (c:Bool) (a b e f g:Int)=>jz x (aG (Ag (⟨s0,s1,s2,s3,s4,s5,s6,s7,s8,s9,s10,s11,s12,s13,s14,s15,s16,s17,s18,s19,s20,s21,s22,s23,s24,s25,s26,s27⟩:Inn) (⟨d0,d1,d2,d3,d4,d5,d6,d7,d8,d9,d10,d11⟩:Del)) a b e f g) c
 have f2:=fun (x:Rul) (c:Bool) (a b e f g:Int)=>UJ (l2 x c a b e f g) f1 (show (Ag (⟨s0,s1,s2,s3,s4,s5,s6,s7,s8,s9,s10,s11,s12,s13,s14,s15,s16,s17,s18,s19,s20,s21,s22,s23,s24,s25,s26,s27⟩:Inn) (⟨d0,d1,d2,d3,d4,d5,d6,d7,d8,d9,d10,d11⟩:Del)).before.length+(Ag (⟨s0,s1,s2,s3,s4,s5,s6,s7,s8,s9,s10,s11,s12,s13,s14,s15,s16,s17,s18,s19,s20,s21,s22,s23,s24,s25,s26,s27⟩:Inn) (⟨d0,d1,d2,d3,d4,d5,d6,d7,d8,d9,d10,d11⟩:Del)).bowlers.length≤1048575 by omega)
 simp only [LT,OB,PB,QK,O2,Si,Sc,Py,lq9,std,xOf,PXb,PXc,PXn,PXm,Nat.reduceAdd,Int.reduceBEq,bv h hN h13,Cy h,L7,oy h,Ta,Cre.ls,pA f1 (show (Ag (⟨s0,s1,s2,s3,s4,s5,s6,s7,s8,s9,s10,s11,s12,s13,s14,s15,s16,s17,s18,s19,s20,s21,s22,s23,s24,s25,s26,s27⟩:Inn) (⟨d0,d1,d2,d3,d4,d5,d6,d7,d8,d9,d10,d11⟩:Del)).bowlers.length≤1048575 by omega) hN hs,xF,fu (f2 _ _ _ _ _ _ _)];subst hres;simp only [KN,aG];cases IM (⟨r0,r1,r2,r3,r4,r5,r6,r7,r8,r9,r10,r11,r12,r13⟩:Rul) (⟨s0,s1,s2,s3,s4,s5,s6,s7,s8,s9,s10,s11,s12,s13,s14,s15,s16,s17,s18,s19,s20,s21,s22,s23,s24,s25,s26,s27⟩:Inn) (⟨d0,d1,d2,d3,d4,d5,d6,d7,d8,d9,d10,d11⟩:Del)==0 with
 | false=>rfl
 | true =>
  obtain ⟨o,ho⟩:∃ o,o=Av (⟨r0,r1,r2,r3,r4,r5,r6,r7,r8,r9,r10,r11,r12,r13⟩:Rul) (aG (Ag (⟨s0,s1,s2,s3,s4,s5,s6,s7,s8,s9,s10,s11,s12,s13,s14,s15,s16,s17,s18,s19,s20,s21,s22,s23,s24,s25,s26,s27⟩:Inn) (⟨d0,d1,d2,d3,d4,d5,d6,d7,d8,d9,d10,d11⟩:Del)) (IntKind.i64.wrap ((Ag (⟨s0,s1,s2,s3,s4,s5,s6,s7,s8,s9,s10,s11,s12,s13,s14,s15,s16,s17,s18,s19,s20,s21,s22,s23,s24,s25,s26,s27⟩:Inn) (⟨d0,d1,d2,d3,d4,d5,d6,d7,d8,d9,d10,d11⟩:Del)).runs+CT (AD (⟨r0,r1,r2,r3,r4,r5,r6,r7,r8,r9,r10,r11,r12,r13⟩:Rul) (⟨d0,d1,d2,d3,d4,d5,d6,d7,d8,d9,d10,d11⟩:Del)))) (IntKind.i64.wrap ((Ag (⟨s0,s1,s2,s3,s4,s5,s6,s7,s8,s9,s10,s11,s12,s13,s14,s15,s16,s17,s18,s19,s20,s21,s22,s23,s24,s25,s26,s27⟩:Inn) (⟨d0,d1,d2,d3,d4,d5,d6,d7,d8,d9,d10,d11⟩:Del)).wides+(AD (⟨r0,r1,r2,r3,r4,r5,r6,r7,r8,r9,r10,r11,r12,r13⟩:Rul) (⟨d0,d1,d2,d3,d4,d5,d6,d7,d8,d9,d10,d11⟩:Del)).wides)) (IntKind.i64.wrap ((Ag (⟨s0,s1,s2,s3,s4,s5,s6,s7,s8,s9,s10,s11,s12,s13,s14,s15,s16,s17,s18,s19,s20,s21,s22,s23,s24,s25,s26,s27⟩:Inn) (⟨d0,d1,d2,d3,d4,d5,d6,d7,d8,d9,d10,d11⟩:Del)).noballs+(AD (⟨r0,r1,r2,r3,r4,r5,r6,r7,r8,r9,r10,r11,r12,r13⟩:Rul) (⟨d0,d1,d2,d3,d4,d5,d6,d7,d8,d9,d10,d11⟩:Del)).noballs)) (IntKind.i64.wrap ((Ag (⟨s0,s1,s2,s3,s4,s5,s6,s7,s8,s9,s10,s11,s12,s13,s14,s15,s16,s17,s18,s19,s20,s21,s22,s23,s24,s25,s26,s27⟩:Inn) (⟨d0,d1,d2,d3,d4,d5,d6,d7,d8,d9,d10,d11⟩:Del)).byes+(AD (⟨r0,r1,r2,r3,r4,r5,r6,r7,r8,r9,r10,r11,r12,r13⟩:Rul) (⟨d0,d1,d2,d3,d4,d5,d6,d7,d8,d9,d10,d11⟩:Del)).byes)) (IntKind.i64.wrap ((Ag (⟨s0,s1,s2,s3,s4,s5,s6,s7,s8,s9,s10,s11,s12,s13,s14,s15,s16,s17,s18,s19,s20,s21,s22,s23,s24,s25,s26,s27⟩:Inn) (⟨d0,d1,d2,d3,d4,d5,d6,d7,d8,d9,d10,d11⟩:Del)).legbyes+(AD (⟨r0,r1,r2,r3,r4,r5,r6,r7,r8,r9,r10,r11,r12,r13⟩:Rul) (⟨d0,d1,d2,d3,d4,d5,d6,d7,d8,d9,d10,d11⟩:Del)).legbyes))) (AD (⟨r0,r1,r2,r3,r4,r5,r6,r7,r8,r9,r10,r11,r12,r13⟩:Rul) (⟨d0,d1,d2,d3,d4,d5,d6,d7,d8,d9,d10,d11⟩:Del)).counts:=⟨_,rfl⟩;simp only [aG,CT] at ho ⊢;simp only [← ho];obtain ⟨o1,o2⟩:=o;cases o2<;>cases d0==1<;>cases d0==3<;>cases r8<;>rfl
theorem ni (r:Rul) (s:Inn) (b:Bool) (a c d e f:Int):Av r (aG s a c d e f) b=(aG (Av r s b).1 a c d e f,(Av r s b).2):=by
 unfold Av aG;simp only;cases (!inR s.bowler s.bowled.length || !(BJ r==0)) with
 | true=>rfl
 | false =>
  simp only [cond_false];cases iLt (cond b (inc s.inover) s.inover) r.balls<;>rfl
def JG (r:Rul) (s:Inn) (side:Int):Inn×Int:=cond (!(side==s.side)) (s,2) (cond (!(r.overs==0)) (s,20) ({ s with ending:=4 },0))
theorem bh {N:Nat} {r8:Bool} {r0:ByteArray} {r13:Rows} {s18 s20:Bool} {e4 e12 e17:Bool} (h:Fit s14 s16 s17 s19 s24):FR N [.str r0,.int r1,.int r2,.int r3,.int r4,.int r5,.int r6,.int r7,.bool r8,.int r9,.int r10,.int r11,.int r12,.rows r13,.int s0,.int s1,.int s2,.int s3,.int s4,.int s5,.int s6,.int s7,.int s8,.int s9,.int s10,.int s11,.int s12,.int s13,.rows s14,.int s15,.rows s16,.rows s17,.bool s18,.rows s19,.bool s20,.int s21,.int s22,.int s23,.rows s24,.int s25,.int s26,.int s27,.int e0,.int e1,.int e2,.int e3,.bool e4,.int e5,.int e6,.int e7,.int e8,.int e9,.int e10,.int e11,.bool e12,.int e13,.int e14,.int e15,.int e16,.bool e17,.int e18]=some (Bk (JG (⟨r0,r1,r2,r3,r4,r5,r6,r7,r8,r9,r10,r11,r12,r13⟩:Rul) (⟨s0,s1,s2,s3,s4,s5,s6,s7,s8,s9,s10,s11,s12,s13,s14,s15,s16,s17,s18,s19,s20,s21,s22,s23,s24,s25,s26,s27⟩:Inn) e1)):=by
 show Hq (std (Jy N) N) (xOf _)=_;generalize hres:(some (Bk (JG (⟨r0,r1,r2,r3,r4,r5,r6,r7,r8,r9,r10,r11,r12,r13⟩:Rul) (⟨s0,s1,s2,s3,s4,s5,s6,s7,s8,s9,s10,s11,s12,s13,s14,s15,s16,s17,s18,s19,s20,s21,s22,s23,s24,s25,s26,s27⟩:Inn) e1)):Option (List PV))=RR;simp only [Hq,Nu,lq9,std,xOf,PXb,PXc,PXn,PXm,Nat.reduceAdd,Int.reduceBEq,Cy h];subst hres;simp only [JG];cases e1==s0<;>cases r3==0<;>rfl
def Ky (s:Inn):Inn:={ s with runs:=IntKind.i64.wrap (s.runs+5),pens:=IntKind.i64.wrap (s.pens+5) }
theorem R3 {N:Nat} {s18 s20:Bool} (h:Fit s14 s16 s17 s19 s24):Cs N [.int s0,.int s1,.int s2,.int s3,.int s4,.int s5,.int s6,.int s7,.int s8,.int s9,.int s10,.int s11,.int s12,.int s13,.rows s14,.int s15,.rows s16,.rows s17,.bool s18,.rows s19,.bool s20,.int s21,.int s22,.int s23,.rows s24,.int s25,.int s26,.int s27]=some (Ky (⟨s0,s1,s2,s3,s4,s5,s6,s7,s8,s9,s10,s11,s12,s13,s14,s15,s16,s17,s18,s19,s20,s21,s22,s23,s24,s25,s26,s27⟩:Inn)).ls:=by
 show Hs (std (Jv N) N) (xOf _)=_;generalize hres:(some (Ky (⟨s0,s1,s2,s3,s4,s5,s6,s7,s8,s9,s10,s11,s12,s13,s14,s15,s16,s17,s18,s19,s20,s21,s22,s23,s24,s25,s26,s27⟩:Inn)).ls:Option (List PV))=RR;simp only [Hs,Ns,lq9,std,xOf,PXb,PXc,PXn,PXm,Nat.reduceAdd,Int.reduceBEq,Cy h];subst hres;simp only [Ky];rfl
def F1 (s:Inn) (side runs:Int):Inn×Int :=
 cond (!(runs==5)) (s,23) (cond (side==s.side) (Ky s,0) ({ s with target:=cond (iLt 0 s.target) (IntKind.i64.wrap (s.target+5)) s.target },0))
theorem bU {N:Nat} {s18 s20:Bool} {e4 e12 e17:Bool} (h:Fit s14 s16 s17 s19 s24):FO N [.int s0,.int s1,.int s2,.int s3,.int s4,.int s5,.int s6,.int s7,.int s8,.int s9,.int s10,.int s11,.int s12,.int s13,.rows s14,.int s15,.rows s16,.rows s17,.bool s18,.rows s19,.bool s20,.int s21,.int s22,.int s23,.rows s24,.int s25,.int s26,.int s27,.int e0,.int e1,.int e2,.int e3,.bool e4,.int e5,.int e6,.int e7,.int e8,.int e9,.int e10,.int e11,.bool e12,.int e13,.int e14,.int e15,.int e16,.bool e17,.int e18]=some (Bk (F1 (⟨s0,s1,s2,s3,s4,s5,s6,s7,s8,s9,s10,s11,s12,s13,s14,s15,s16,s17,s18,s19,s20,s21,s22,s23,s24,s25,s26,s27⟩:Inn) e1 e5)):=by
 show Hr (std (GM N) N) (xOf _)=_;generalize hres:(some (Bk (F1 (⟨s0,s1,s2,s3,s4,s5,s6,s7,s8,s9,s10,s11,s12,s13,s14,s15,s16,s17,s18,s19,s20,s21,s22,s23,s24,s25,s26,s27⟩:Inn) e1 e5)):Option (List PV))=RR;simp only [Hr,Np,MM,lq9,std,xOf,PXb,PXc,PXn,PXm,Nat.reduceAdd,Int.reduceBEq,Cy h,R3 h];subst hres;simp only [F1];cases e5==5<;>cases e1==s0<;>cases iLt 0 s1<;>rfl
def Jq (r:Rul) (s:Inn) (side:Int) (yes:Bool):Inn×Int :=
 cond (!s.fresh||iLe r.reviews (cond (side==2) s.rev2 s.rev1)) (s,24) (cond (!yes) ({ s with rev1:=cond (side==1) (inc s.rev1) s.rev1,rev2:=cond (side==2) (inc s.rev2) s.rev2 },0) (s,0))
theorem wr1:IntKind.i64.wrap (1 - 1)=0:=rfl
theorem wr2:IntKind.i64.wrap (2 - 1)=1:=rfl
theorem nF:iIn 0 2=true:=rfl
theorem nS:iIn 1 2=true:=rfl
theorem dZ {N:Nat} {r8:Bool} {r0:ByteArray} {r13:Rows} {s18 s20:Bool} {e4 e12 e17:Bool} (h:Fit s14 s16 s17 s19 s24) (he:e1=1∨e1=2):F3 N [.str r0,.int r1,.int r2,.int r3,.int r4,.int r5,.int r6,.int r7,.bool r8,.int r9,.int r10,.int r11,.int r12,.rows r13,.int s0,.int s1,.int s2,.int s3,.int s4,.int s5,.int s6,.int s7,.int s8,.int s9,.int s10,.int s11,.int s12,.int s13,.rows s14,.int s15,.rows s16,.rows s17,.bool s18,.rows s19,.bool s20,.int s21,.int s22,.int s23,.rows s24,.int s25,.int s26,.int s27,.int e0,.int e1,.int e2,.int e3,.bool e4,.int e5,.int e6,.int e7,.int e8,.int e9,.int e10,.int e11,.bool e12,.int e13,.int e14,.int e15,.int e16,.bool e17,.int e18]=some (Bk (Jq (⟨r0,r1,r2,r3,r4,r5,r6,r7,r8,r9,r10,r11,r12,r13⟩:Rul) (⟨s0,s1,s2,s3,s4,s5,s6,s7,s8,s9,s10,s11,s12,s13,s14,s15,s16,s17,s18,s19,s20,s21,s22,s23,s24,s25,s26,s27⟩:Inn) e1 e4)):=by
 show F9 (std (Ks N) N) (xOf _)=_;generalize hres:(some (Bk (Jq (⟨r0,r1,r2,r3,r4,r5,r6,r7,r8,r9,r10,r11,r12,r13⟩:Rul) (⟨s0,s1,s2,s3,s4,s5,s6,s7,s8,s9,s10,s11,s12,s13,s14,s15,s16,s17,s18,s19,s20,s21,s22,s23,s24,s25,s26,s27⟩:Inn) e1 e4)):Option (List PV))=RR
 rcases he with he | he<;>subst he
 ·simp only [F9,Gx,lq9,std,xOf,PXb,PXc,PXn,PXm,Nat.reduceAdd,Int.reduceBEq,Cy h,wr1,wr2,nF,nS];subst hres;simp only [Jq,Int.reduceBEq,beq_self_eq_true,cond_true,cond_false];cases s18<;>cases e4<;>first | rfl | (cases iLe r11 s25<;>rfl)
 ·simp only [F9,Gx,lq9,std,xOf,PXb,PXc,PXn,PXm,Nat.reduceAdd,Int.reduceBEq,Cy h,wr1,wr2,nF,nS];subst hres;simp only [Jq,Int.reduceBEq,beq_self_eq_true,cond_true,cond_false];cases s18<;>cases e4<;>first | rfl | (cases iLe r11 s26<;>rfl)
theorem iJ {N:Nat} {r8:Bool} {r0:ByteArray} {r13:Rows} {s18 s20:Bool}  : HU N [.str r0,.int r1,.int r2,.int r3,.int r4,.int r5,.int r6,.int r7,.bool r8,.int r9,.int r10,.int r11,.int r12,.rows r13,.int s0,.int s1,.int s2,.int s3,.int s4,.int s5,.int s6,.int s7,.int s8,.int s9,.int s10,.int s11,.int s12,.int s13,.rows s14,.int s15,.rows s16,.rows s17,.bool s18,.rows s19,.bool s20,.int s21,.int s22,.int s23,.rows s24,.int s25,.int s26,.int s27]=some [.int (DG r4 s10 s11)]:=by
 rfl
def Ld (r:Rul) (s:Inn) (runs overs:Int):Inn×Int :=
  cond (r.overs==0||(runs==0&&overs==0)) (s,25) (cond (iLt 0 runs&&(s.target==0||iLe runs s.runs)) (s,25)
    (cond (iLt 0 overs&&(iLt r.overs overs||iLt (IntKind.i64.wrap (overs * r.balls)) (DG r.balls s.complete s.inover))) (s,25)
      ({ s with target:=cond (iLt 0 runs) runs s.target,overs:=cond (iLt 0 overs) overs s.overs },0)))
theorem ed {N:Nat} {r8:Bool} {r0:ByteArray} {r13:Rows} {s18 s20:Bool} {e4 e12 e17:Bool} (h:Fit s14 s16 s17 s19 s24):Fn N [.str r0,.int r1,.int r2,.int r3,.int r4,.int r5,.int r6,.int r7,.bool r8,.int r9,.int r10,.int r11,.int r12,.rows r13,.int s0,.int s1,.int s2,.int s3,.int s4,.int s5,.int s6,.int s7,.int s8,.int s9,.int s10,.int s11,.int s12,.int s13,.rows s14,.int s15,.rows s16,.rows s17,.bool s18,.rows s19,.bool s20,.int s21,.int s22,.int s23,.rows s24,.int s25,.int s26,.int s27,.int e0,.int e1,.int e2,.int e3,.bool e4,.int e5,.int e6,.int e7,.int e8,.int e9,.int e10,.int e11,.bool e12,.int e13,.int e14,.int e15,.int e16,.bool e17,.int e18]=some (Bk (Ld (⟨r0,r1,r2,r3,r4,r5,r6,r7,r8,r9,r10,r11,r12,r13⟩:Rul) (⟨s0,s1,s2,s3,s4,s5,s6,s7,s8,s9,s10,s11,s12,s13,s14,s15,s16,s17,s18,s19,s20,s21,s22,s23,s24,s25,s26,s27⟩:Inn) e5 e6)):=by
 show Is (std (HD N) N) (xOf _)=_;generalize hres:(some (Bk (Ld (⟨r0,r1,r2,r3,r4,r5,r6,r7,r8,r9,r10,r11,r12,r13⟩:Rul) (⟨s0,s1,s2,s3,s4,s5,s6,s7,s8,s9,s10,s11,s12,s13,s14,s15,s16,s17,s18,s19,s20,s21,s22,s23,s24,s25,s26,s27⟩:Inn) e5 e6)):Option (List PV))=RR;simp only [Is,Om,N9,lq9,std,xOf,PXb,PXc,PXn,PXm,Nat.reduceAdd,Int.reduceBEq,Cy h,iJ];subst hres;simp only [Ld];cases (r3==0||e5==0&&e6==0)<;>try rfl
 cases (iLt 0 e5&&(s1==0||iLe e5 s3))<;>try rfl
 cases iLt 0 e6<;>cases iLt r3 e6<;>try rfl
 simp only [PXb,PXc,PXn,PXm,Nat.reduceAdd,Int.reduceBEq];cases iLt (IntKind.i64.wrap (e6 * r4)) (DG r4 s10 s11)<;>rfl
def Al (r:Rul) (s:Inn) (e:Ev):Inn×Int :=
  cond (e.kind==2) (I5 s e.player e.other) (cond (e.kind==3) (Sm r s e.player) (cond (e.kind==4) (KN r s e.ball)
    (cond (e.kind==5) (cond e.yes (DK s e.player) (Fy s e.player)) (cond (e.kind==6) (D2 s e.player e.yes) (cond (e.kind==7) (JB s e.runs)
      (cond (e.kind==8) (LP s e.player) (cond (e.kind==9) (Oj s e.player e.yes) (cond (e.kind==10) (JM r s) (cond (e.kind==11) (JG r s e.side)
        (cond (e.kind==13) (F1 s e.side e.runs) (cond (e.kind==14) (Jq r s e.side e.yes) (Ld r s e.runs e.overs))))))))))))
theorem iW {e:Ev} (h:(evS e==0)=true):(iLt e.kind 1||iLt 16 e.kind)=false:=by
 unfold evS at h;cases hk:(iLt e.kind 1||iLt 16 e.kind) with
 | false=>rfl
 | true=>rw [hk] at h;cases h
theorem zA {e:Ev} (h:(evS e==0)=true) (hk:e.kind=14):e.side=1∨e.side=2:=by
 have h0:=iW h;unfold evS at h;rw [h0] at h;cases h1:og e with
 | true=>rw [h1] at h;cases h
 | false =>
  cases h2:de e with
  | true=>rw [h1,h2] at h;cases h
  | false =>
   unfold de at h2;rw [Bool.or_eq_false_iff] at h2;have h3:=h2.1;rw [hk,show uS 14=true from rfl,Bool.and_true] at h3;simp only [btw,iLe,Bool.not_eq_false',zzj,decide_eq_true_eq] at h3;omega
set_option maxHeartbeats 4000000 in
theorem cD {N:Nat} {r8:Bool} {r0:ByteArray} {r13:Rows} {s18 s20:Bool} {e4 e12 e17:Bool} (h:Fit s14 s16 s17 s19 s24) (hw:s17.length+s16.length≤1000000) (hN:2097152<N) (hs:r0.size≤1048576) (h13:r13.length≤1048576) (he:(evS (⟨e0,e1,e2,e3,e4,e5,e6,⟨e7,e8,e9,e10,e11,e12,e13,e14,e15,e16,e17,e18⟩⟩:Ev)==0)=true):FL N [.str r0,.int r1,.int r2,.int r3,.int r4,.int r5,.int r6,.int r7,.bool r8,.int r9,.int r10,.int r11,.int r12,.rows r13,.int s0,.int s1,.int s2,.int s3,.int s4,.int s5,.int s6,.int s7,.int s8,.int s9,.int s10,.int s11,.int s12,.int s13,.rows s14,.int s15,.rows s16,.rows s17,.bool s18,.rows s19,.bool s20,.int s21,.int s22,.int s23,.rows s24,.int s25,.int s26,.int s27,.int e0,.int e1,.int e2,.int e3,.bool e4,.int e5,.int e6,.int e7,.int e8,.int e9,.int e10,.int e11,.bool e12,.int e13,.int e14,.int e15,.int e16,.bool e17,.int e18]=some (Bk (Al (⟨r0,r1,r2,r3,r4,r5,r6,r7,r8,r9,r10,r11,r12,r13⟩:Rul) (⟨s0,s1,s2,s3,s4,s5,s6,s7,s8,s9,s10,s11,s12,s13,s14,s15,s16,s17,s18,s19,s20,s21,s22,s23,s24,s25,s26,s27⟩:Inn) (⟨e0,e1,e2,e3,e4,e5,e6,⟨e7,e8,e9,e10,e11,e12,e13,e14,e15,e16,e17,e18⟩⟩:Ev))):=by
  show FT (std (Au N) N) (xOf _)=_;generalize hres:(some (Bk (Al (⟨r0,r1,r2,r3,r4,r5,r6,r7,r8,r9,r10,r11,r12,r13⟩:Rul) (⟨s0,s1,s2,s3,s4,s5,s6,s7,s8,s9,s10,s11,s12,s13,s14,s15,s16,s17,s18,s19,s20,s21,s22,s23,s24,s25,s26,s27⟩:Inn) (⟨e0,e1,e2,e3,e4,e5,e6,⟨e7,e8,e9,e10,e11,e12,e13,e14,e15,e16,e17,e18⟩⟩:Ev))):Option (List PV))=RR;have hsd:e0=14→e1=1∨e1=2:=zA (e:=(⟨e0,e1,e2,e3,e4,e5,e6,⟨e7,e8,e9,e10,e11,e12,e13,e14,e15,e16,e17,e18⟩⟩:Ev)) he
  rcases jq (iW he) with hk | hk | hk | hk | hk | hk | hk | hk | hk | hk | hk | hk | hk | hk | hk | hk<;>simp only at hk<;>subst hk<;>clear he
  all_goals (first
    | (have hsd := hsd rfl
       simp only [FT,Hg,H0,HQ,Ft,G9,GR,GU,HO,FJ,GT,Fd,Fg,Fq,GD,lq9,std,xOf,PXb,PXc,PXn,PXm,Nat.reduceAdd,Int.reduceBEq,dZ h hsd];subst hres;rfl)
    | (simp only [FT, Hg, H0, HQ, Ft, G9, GR, GU, HO, FJ, GT, Fd, Fg, Fq, GD, lq9,std,xOf, PXb, PXc, PXn, PXm, Nat.reduceAdd, Int.reduceBEq, lm h hN, oZ h hN hs, jh h hw hN hs h13, eK h hN, im h hN, ez h hN, gZ h, jS h, Zf h, gD h hN hs, bh h, bU h, ed h]
       subst hres
       first
       | rfl
       | (cases e4<;>rfl)))
theorem Lens.of {s t:Inn} (h1:t.batters.length=s.batters.length) (h2:t.bowled.length=s.bowled.length) (h3:t.subs.length=s.subs.length) (h4:t.bowlers=s.bowlers) (h5:t.before=s.before):Lens s t:=⟨h1,h2,h3,by rw [h4];omega,by rw [h5];omega⟩
theorem L_c {s:Inn} (b:Bool) (x y:Inn×Int) (hx:Lens s x.1) (hy:Lens s y.1):Lens s (cond b x y).1:=by cases b<;>assumption
theorem uw (s:Inn) (p q:Int):Lens s (I5 s p q).1:=by
 unfold I5;exact L_c _ _ _ (Lens.refl s) (L_c _ _ _ (Lens.refl s) (L_c _ _ _ (Lens.refl s) (Lens.of (by simp [FA]) rfl rfl rfl rfl)))
theorem uj (r:Rul) (s:Inn) (p:Int):Lens s (Sm r s p).1:=by
 unfold Sm;exact P_c (P:=fun x:Inn=>Lens s x) _ _ _ (Lens.of rfl rfl rfl rfl rfl) (Lens.refl s)
theorem uL (r:Rul) (s:Inn) (d:Del):Lens s (KN r s d).1:=by
 unfold KN;refine L_c _ _ _ (Lens.refl s) ?_;have l1:=pZ s d;have w1:=vO s d;have w2:=vW s d;simp only [ni];have l2:=jz r (Ag s d) (AD r d).counts;cases (Av r (Ag s d) (AD r d).counts).2
 ·exact ⟨l2.bt.trans l1.bt,l2.bd.trans l1.bd,l2.sb.trans l1.sb,by have:=l2.bw;rw [w1] at this;exact this,by have:=l2.bf;rw [w1,w2] at this;exact this⟩
 ·exact ⟨l2.bt.trans l1.bt,l2.bd.trans l1.bd,l2.sb.trans l1.sb,by have:=l2.bw;rw [w1] at this;exact this,by have:=l2.bf;rw [w1,w2] at this;exact this⟩
theorem ml (s:Inn) (p:Int):Lens s (DK s p).1:=by
 unfold DK;exact L_c _ _ _ (Lens.of (by simp [FA]) rfl rfl rfl rfl) (Lens.refl s)
theorem sO (s:Inn) (p:Int):Lens s (Fy s p).1:=by
 unfold Fy;exact L_c _ _ _ (Lens.of (by simp [FA]) rfl rfl rfl rfl) (Lens.refl s)
theorem qX (s:Inn) (p:Int) (b:Bool):Lens s (D2 s p b).1:=by
 unfold D2;exact L_c _ _ _ (Lens.refl s) (L_c _ _ _ (Lens.refl s) (L_c _ _ _ (Lens.refl s) (L_c _ _ _ (Lens.refl s) (Lens.of (by simp [FA]) rfl rfl rfl rfl))))
theorem oX (s:Inn) (n:Int):Lens s (JB s n).1:=by
 unfold JB;exact L_c _ _ _ (Lens.refl s) (Lens.of rfl rfl rfl rfl rfl)
theorem qU (s:Inn) (n:Int):Lens s (LP s n).1:=by
 unfold LP;exact L_c _ _ _ (Lens.refl s) (L_c _ _ _ (Lens.refl s) (L_c _ _ _ (Lens.refl s) (Lens.of rfl rfl rfl rfl rfl)))
theorem sL (s:Inn) (n:Int) (b:Bool):Lens s (Oj s n b).1:=by
 unfold Oj;exact L_c _ _ _ (Lens.refl s) (L_c _ _ _ (Lens.refl s) (Lens.of rfl rfl (by simp [xj]) rfl rfl))
theorem nH (r:Rul) (s:Inn):Lens s (JM r s).1:=by
 unfold JM;exact L_c _ _ _ (Lens.refl s) (Lens.of rfl rfl rfl rfl rfl)
theorem oP (r:Rul) (s:Inn) (n:Int):Lens s (JG r s n).1:=by
 unfold JG;exact L_c _ _ _ (Lens.refl s) (L_c _ _ _ (Lens.refl s) (Lens.of rfl rfl rfl rfl rfl))
theorem pN (s:Inn) (n m:Int):Lens s (F1 s n m).1:=by
 unfold F1;exact L_c _ _ _ (Lens.refl s) (L_c _ _ _ (Lens.of rfl rfl rfl rfl rfl) (Lens.of rfl rfl rfl rfl rfl))
theorem qZ (r:Rul) (s:Inn) (n:Int) (b:Bool):Lens s (Jq r s n b).1:=by
 unfold Jq;exact L_c _ _ _ (Lens.refl s) (L_c _ _ _ (Lens.of rfl rfl rfl rfl rfl) (Lens.refl s))
theorem px (r:Rul) (s:Inn) (n m:Int):Lens s (Ld r s n m).1:=by
 unfold Ld;exact L_c _ _ _ (Lens.refl s) (L_c _ _ _ (Lens.refl s) (L_c _ _ _ (Lens.refl s) (Lens.of rfl rfl rfl rfl rfl)))
theorem aE (r:Rul) (s:Inn) (e:Ev):Lens s (Al r s e).1:=by
  unfold Al;exact L_c _ _ _ (uw ..) (L_c _ _ _ (uj ..) (L_c _ _ _ (uL ..) (L_c _ _ _ (L_c _ _ _ (ml ..) (sO ..)) (L_c _ _ _ (qX ..) (L_c _ _ _ (oX ..)
    (L_c _ _ _ (qU ..) (L_c _ _ _ (sL ..) (L_c _ _ _ (nH ..) (L_c _ _ _ (oP ..) (L_c _ _ _ (pN ..) (L_c _ _ _ (qZ ..) (px ..))))))))))))
def IK (r:Rul) (s:Inn):Bool:=WI r.name r.side r.innings r.overs r.balls r.quota r.wide r.noball r.newball r.followon r.reviews r.outside r.power s.batters s.bowlers s.before s.bowled s.subs s.side s.target s.overs s.runs s.wickets s.wides s.noballs s.byes s.legbyes s.pens s.complete s.inover s.striker s.other s.bowler s.ballage s.keeper s.outside s.rev1 s.rev2 s.ending
def AAg (r:Rul) (s:Inn):Int:=wg (IK r s) s.batters s.striker s.other s.target s.overs s.runs s.complete
theorem VE {N:Nat} {r8:Bool} {r0:ByteArray} {r13:Rows} {s18 s20:Bool} (h:Fit s14 s16 s17 s19 s24) (hN:2097152<N) (hs:r0.size≤1048576):Bm N [.str r0,.int r1,.int r2,.int r3,.int r4,.int r5,.int r6,.int r7,.bool r8,.int r9,.int r10,.int r11,.int r12,.rows r13,.int s0,.int s1,.int s2,.int s3,.int s4,.int s5,.int s6,.int s7,.int s8,.int s9,.int s10,.int s11,.int s12,.int s13,.rows s14,.int s15,.rows s16,.rows s17,.bool s18,.rows s19,.bool s20,.int s21,.int s22,.int s23,.rows s24,.int s25,.int s26,.int s27]=some [.bool (IK (⟨r0,r1,r2,r3,r4,r5,r6,r7,r8,r9,r10,r11,r12,r13⟩:Rul) (⟨s0,s1,s2,s3,s4,s5,s6,s7,s8,s9,s10,s11,s12,s13,s14,s15,s16,s17,s18,s19,s20,s21,s22,s23,s24,s25,s26,s27⟩:Inn))]:=by
 exact UE N _ _ _ _ _ _ _ _ _ _ _ _ _ _ _ _ _ _ _ _ _ _ _ _ _ _ _ _ _ _ _ _ _ _ _ _ _ _ _ _ _ _ hN hs h.bt h.bw h.bf h.bd
theorem eP {N:Nat} {r8:Bool} {r0:ByteArray} {r13:Rows} {s18 s20:Bool} (h:Fit s14 s16 s17 s19 s24) (hN:2097152<N) (hs:r0.size≤1048576):EN N [.str r0,.int r1,.int r2,.int r3,.int r4,.int r5,.int r6,.int r7,.bool r8,.int r9,.int r10,.int r11,.int r12,.rows r13,.int s0,.int s1,.int s2,.int s3,.int s4,.int s5,.int s6,.int s7,.int s8,.int s9,.int s10,.int s11,.int s12,.int s13,.rows s14,.int s15,.rows s16,.rows s17,.bool s18,.rows s19,.bool s20,.int s21,.int s22,.int s23,.rows s24,.int s25,.int s26,.int s27]=some [.int (AAg (⟨r0,r1,r2,r3,r4,r5,r6,r7,r8,r9,r10,r11,r12,r13⟩:Rul) (⟨s0,s1,s2,s3,s4,s5,s6,s7,s8,s9,s10,s11,s12,s13,s14,s15,s16,s17,s18,s19,s20,s21,s22,s23,s24,s25,s26,s27⟩:Inn))]:=by
 exact bn N _ _ _ _ _ _ _ _ _ _ _ _ _ _ _ _ _ _ _ _ _ _ _ _ _ _ _ _ _ _ _ _ _ _ _ _ _ _ _ _ _ _ hN hs h.bt h.bw h.bf h.bd
def fG (t:Inn) (b:Bool):Inn:=⟨t.side,t.target,t.overs,t.runs,t.wickets,t.wides,t.noballs,t.byes,t.legbyes,t.pens,t.complete,t.inover,t.striker,t.other,t.batters,t.bowler,t.bowlers,t.before,b,t.bowled,t.freehit,t.ballage,t.keeper,t.outside,t.subs,t.rev1,t.rev2,t.ending⟩
def CC (r:Rul) (t:Inn) (b:Bool):Inn:={ fG t b with ending:=cond (t.ending==0) (AAg r (fG t b)) t.ending }
def XK (s:Inn) (e:Ev):Bool:=e.kind==1||e.kind==12||e.kind==16||(!Ce s.batters && !(e.kind==2))
def Af (r:Rul) (s:Inn) (e:Ev):Inn×Int :=
  cond (!IK r s || !(evS e==0)) (s,1) (cond (!(s.ending==0)) (s,26) (cond (XK s e) (s,1)
    (cond (!((Al r s e).2==0)) (s,(Al r s e).2) (CC r (Al r s e).1 (e.kind==4),0))))
set_option maxHeartbeats 4000000 in
theorem Pg {N:Nat} {r8:Bool} {r0:ByteArray} {r13:Rows} {s18 s20:Bool} {e4 e12 e17:Bool} (h:Fit s14 s16 s17 s19 s24) (hw:s17.length+s16.length≤1000000) (hN:2097152<N) (hs:r0.size≤1048576) (h13:r13.length≤1048576):IC N [.str r0,.int r1,.int r2,.int r3,.int r4,.int r5,.int r6,.int r7,.bool r8,.int r9,.int r10,.int r11,.int r12,.rows r13,.int s0,.int s1,.int s2,.int s3,.int s4,.int s5,.int s6,.int s7,.int s8,.int s9,.int s10,.int s11,.int s12,.int s13,.rows s14,.int s15,.rows s16,.rows s17,.bool s18,.rows s19,.bool s20,.int s21,.int s22,.int s23,.rows s24,.int s25,.int s26,.int s27,.int e0,.int e1,.int e2,.int e3,.bool e4,.int e5,.int e6,.int e7,.int e8,.int e9,.int e10,.int e11,.bool e12,.int e13,.int e14,.int e15,.int e16,.bool e17,.int e18]=some (Bk (Af (⟨r0,r1,r2,r3,r4,r5,r6,r7,r8,r9,r10,r11,r12,r13⟩:Rul) (⟨s0,s1,s2,s3,s4,s5,s6,s7,s8,s9,s10,s11,s12,s13,s14,s15,s16,s17,s18,s19,s20,s21,s22,s23,s24,s25,s26,s27⟩:Inn) (⟨e0,e1,e2,e3,e4,e5,e6,⟨e7,e8,e9,e10,e11,e12,e13,e14,e15,e16,e17,e18⟩⟩:Ev))):=by
 show Lh (std (C6 N) N) (xOf _)=_;generalize hres:(some (Bk (Af (⟨r0,r1,r2,r3,r4,r5,r6,r7,r8,r9,r10,r11,r12,r13⟩:Rul) (⟨s0,s1,s2,s3,s4,s5,s6,s7,s8,s9,s10,s11,s12,s13,s14,s15,s16,s17,s18,s19,s20,s21,s22,s23,s24,s25,s26,s27⟩:Inn) (⟨e0,e1,e2,e3,e4,e5,e6,⟨e7,e8,e9,e10,e11,e12,e13,e14,e15,e16,e17,e18⟩⟩:Ev))):Option (List PV))=RR;have l1:=aE (⟨r0,r1,r2,r3,r4,r5,r6,r7,r8,r9,r10,r11,r12,r13⟩:Rul) (⟨s0,s1,s2,s3,s4,s5,s6,s7,s8,s9,s10,s11,s12,s13,s14,s15,s16,s17,s18,s19,s20,s21,s22,s23,s24,s25,s26,s27⟩:Inn) (⟨e0,e1,e2,e3,e4,e5,e6,⟨e7,e8,e9,e10,e11,e12,e13,e14,e15,e16,e17,e18⟩⟩:Ev);have f1:=UJ l1 h (by simp only;omega);simp only [Lh,RL,QC,QH,PY,HI,Hh,lq9,std,xOf,PXb,VE h hN hs,Yg hN,Cy h,gX h.bt hN];subst hres;simp only [Af,XK];cases IK (⟨r0,r1,r2,r3,r4,r5,r6,r7,r8,r9,r10,r11,r12,r13⟩:Rul) (⟨s0,s1,s2,s3,s4,s5,s6,s7,s8,s9,s10,s11,s12,s13,s14,s15,s16,s17,s18,s19,s20,s21,s22,s23,s24,s25,s26,s27⟩:Inn)
 ·rfl
 cases he:evS (⟨e0,e1,e2,e3,e4,e5,e6,⟨e7,e8,e9,e10,e11,e12,e13,e14,e15,e16,e17,e18⟩⟩:Ev)==0
 ·simp only [PXb,PXc,PXn,PXm,Nat.reduceAdd,Int.reduceBEq,he]
 simp only [PXb,PXc,PXn,PXm,Nat.reduceAdd,Int.reduceBEq,he];cases s27==0<;>try rfl
 cases (e0==1||e0==12||e0==16)<;>cases Ce s14<;>cases e0==2<;>try rfl
 all_goals (simp only [PXb,PXc,PXn,PXm,Nat.reduceAdd,Int.reduceBEq,HI,Hh,cD h hw hN hs h13 he,eP f1 hN hs])
 all_goals (unfold CC fG;cases (Al (⟨r0,r1,r2,r3,r4,r5,r6,r7,r8,r9,r10,r11,r12,r13⟩:Rul) (⟨s0,s1,s2,s3,s4,s5,s6,s7,s8,s9,s10,s11,s12,s13,s14,s15,s16,s17,s18,s19,s20,s21,s22,s23,s24,s25,s26,s27⟩:Inn) (⟨e0,e1,e2,e3,e4,e5,e6,⟨e7,e8,e9,e10,e11,e12,e13,e14,e15,e16,e17,e18⟩⟩:Ev)).2==0<;>cases (Al (⟨r0,r1,r2,r3,r4,r5,r6,r7,r8,r9,r10,r11,r12,r13⟩:Rul) (⟨s0,s1,s2,s3,s4,s5,s6,s7,s8,s9,s10,s11,s12,s13,s14,s15,s16,s17,s18,s19,s20,s21,s22,s23,s24,s25,s26,s27⟩:Inn) (⟨e0,e1,e2,e3,e4,e5,e6,⟨e7,e8,e9,e10,e11,e12,e13,e14,e15,e16,e17,e18⟩⟩:Ev)).1.ending==0<;>rfl)
theorem AAZ (L:Rows) (c:Nat):(cut L c).length≤c:=by
 unfold cut;rw [List.length_drop,List.length_take];cases h:iLt (c:Int) (L.length:Int) with
 | true=>simp only [cond_true];omega
 | false=>simp only [iLt,decide_eq_false_iff_not] at h;simp only [cond_false];omega
theorem pt {s t:Inn} (r:Rul) (b:Bool) (h:Lens s t):Lens s (CC r t b):=⟨h.bt,h.bd,h.sb,h.bw,h.bf⟩
theorem Nf (r:Rul) (s:Inn) (e:Ev):Lens s (Af r s e).1:=by
 unfold Af;exact L_c _ _ _ (Lens.refl s) (L_c _ _ _ (Lens.refl s) (L_c _ _ _ (Lens.refl s) (L_c _ _ _ (Lens.refl s) (pt r _ (aE r s e)))))
theorem LN {r : Rul} {s : Inn} {e : Ev} (h : ((Af r s e).2 == 0) = true) :
    IK r s=true∧(evS e==0)=true∧(s.ending==0)=true∧XK s e=false∧((Al r s e).2==0)=true∧(Af r s e).1=CC r (Al r s e).1 (e.kind==4):=by
  unfold Af at h ⊢;cases hv:IK r s with
  | false=>rw [hv] at h;cases h
  | true =>
    cases he:evS e==0 with
    | false=>rw [hv,he] at h;cases h
    | true =>
      cases hn:s.ending==0 with
      | false=>rw [hv,he,hn] at h;cases h
      | true =>
        cases hw:XK s e with
        | true=>rw [hv,he,hn,hw] at h;cases h
        | false =>
          cases hp:(Al r s e).2==0 with
          | false=>rw [hv,he,hn,hw,hp] at h;exact absurd (hp▸h) (by decide)
          | true=>exact ⟨rfl,rfl,rfl,rfl,rfl,rfl⟩
theorem Wq {x a b:Int}:btw x a b=true↔a≤x∧x≤b:=by simp [btw,iLe]
structure RulOk (r:Rul):Prop where
 side:2≤r.side∧r.side≤11
 innings:1≤r.innings∧r.innings≤2
 overs:0≤r.overs∧r.overs≤90
 balls:4≤r.balls∧r.balls≤8
 quota:0≤r.quota∧r.quota≤90
 wide:1≤r.wide∧r.wide≤5
 noball:1≤r.noball∧r.noball≤5
 newball:0≤r.newball∧r.newball≤200
 followon:0≤r.followon∧r.followon≤1000
 reviews:0≤r.reviews∧r.reviews≤9
 outside:0≤r.outside∧r.outside≤11
theorem Dm {r:Rul} (h:BJ r=0):RulOk r:=by
 unfold BJ NW at h;cases hn:aV r.name with
 | false=>rw [hn] at h;cases h
 | true =>
  cases hr:Ph r.side r.innings r.overs r.balls r.quota r.wide r.noball r.newball r.followon r.reviews r.outside with
  | false=>rw [hn,hr] at h;cases h
  | true =>
   unfold Ph at hr;simp only [zzj,Wq] at hr;obtain ⟨⟨⟨⟨⟨⟨⟨⟨⟨⟨h1,h2⟩,h3⟩,h4⟩,h5⟩,h6⟩,h7⟩,h8⟩,h9⟩,h10⟩,h11⟩:=hr;exact ⟨h1,h2,h3,h4,h5,h6,h7,h8,h9,h10,h11⟩
def CK (x:Int):Prop:=0≤x∧x≤1000000000
structure InnOk (r:Rul) (s:Inn):Prop where
 code:BJ r=0
 side:1≤s.side∧s.side≤2
 lb:(s.batters.length:Int)=r.side
 ld:(s.bowled.length:Int)=r.side
 lz:(s.subs.length:Int)=r.side
 ending:s.ending≤5
 st:0≤s.striker∧s.striker≤r.side
 ot:0≤s.other∧s.other≤r.side
 bat:U0 s.batters s.striker s.other s.wickets=true
 bow:0≤s.bowler∧s.bowler≤r.side
 kee:0≤s.keeper∧s.keeper≤r.side
 dw:MH s.bowlers r.side=true
 df:MH s.before r.side=true
 ov:jj r.overs s.overs=true
 io:0≤s.inover∧s.inover≤r.balls - 1
 target:CK s.target
 runs:CK s.runs
 wides:CK s.wides
 noballs:CK s.noballs
 byes:CK s.byes
 legbyes:CK s.legbyes
 pens:CK s.pens
 complete:CK s.complete
 ballage:CK s.ballage
 outside:CK s.outside
 rev1:CK s.rev1
 rev2:CK s.rev2
 bowled:MC Kw s.bowled=false
theorem zy {x:Int}:Kw x=false↔CK x:=by
 unfold Kw CK;rw [Bool.not_eq_false',Wq]
theorem wo (a b c d e f g h i j k l:Int):MC Kw (pV a b c d e f g h i j k l)=false↔CK a∧CK b∧CK c∧CK d∧CK e∧CK f∧CK g∧CK h∧CK i∧CK j∧CK k∧CK l:=by
 rw [P2];simp only [pV,List.any_cons,List.any_nil,Bool.or_false,ka,zC,Bool.or_eq_false_iff,zy]
theorem fp {r:Rul} (h:RulOk r):IntKind.i64.wrap (r.balls - 1)=r.balls - 1:=by
 have:=h.balls;exact A9 (by omega) (by omega)
theorem rR {x:Int}:(!iLt 5 x)=true↔x≤5:=by
 rw [Bool.not_eq_true'];simp only [iLt,decide_eq_false_iff_not];omega
theorem Fe {r:Rul} {s:Inn}:IK r s=true↔InnOk r s:=by
 unfold IK WI;simp only [zzj,Bool.not_eq_true',wo,Wq];constructor
 ·intro ⟨h1,h2,h3,h4,h5,h6,h7,h8,h9,h10,h11,h12,h13,h14,h15,⟨n1,n2,n3,n4,n5,n6,n7,n8,n9,n10,n11,n12⟩,h17⟩;have hc:BJ r=0:=beq_iff_eq.1 h1;exact ⟨hc,h2,beq_iff_eq.1 h3,beq_iff_eq.1 h4,beq_iff_eq.1 h5,rR.1 (by rw [h6];rfl),h7,h8,h9,h10,h11,h12,h13,h14,by rw [fp (Dm hc)] at h15;exact h15,n1,n2,n3,n4,n5,n6,n7,n8,n9,n10,n11,n12,h17⟩
 ·intro h;have h6:=rR.2 h.ending;rw [Bool.not_eq_true'] at h6;exact ⟨beq_iff_eq.2 h.code,h.side,beq_iff_eq.2 h.lb,beq_iff_eq.2 h.ld,beq_iff_eq.2 h.lz,h6,h.st,h.ot,h.bat,h.bow,h.kee,h.dw,h.df,h.ov,by rw [fp (Dm h.code)];exact h.io,
   ⟨h.target,h.runs,h.wides,h.noballs,h.byes,h.legbyes,h.pens,h.complete,h.ballage,h.outside,h.rev1,h.rev2⟩,h.bowled⟩
theorem P4 (n:Int):IntKind.i64.wrap n=(n+9223372036854775808) % 18446744073709551616 - 9223372036854775808:=by
 unfold IntKind.wrap;simp only [IntKind.signed,IntKind.bits];simp
 split<;>omega
theorem Im (n:Int):IntKind.i64.wrap (IntKind.i64.wrap n)=IntKind.i64.wrap n:=by
 simp only [P4];omega
theorem NU (a b:Int):IntKind.i64.wrap (IntKind.i64.wrap (a+b) - a)=IntKind.i64.wrap b:=by
 simp only [P4];omega
theorem YX (a:Int):IntKind.i64.wrap (a - a)=0:=by rw [Int.sub_self];rfl
theorem XS (s:Inn) (d:Del):(Ag s d).runs=s.runs∧(Ag s d).wides=s.wides∧(Ag s d).noballs=s.noballs∧(Ag s d).byes=s.byes∧(Ag s d).legbyes=s.legbyes∧(Ag s d).pens=s.pens∧(Ag s d).complete=s.complete∧(Ag s d).inover=s.inover∧(Ag s d).bowler=s.bowler∧(Ag s d).bowled=s.bowled:=by
  unfold Ag;cases (!(d.runs.tmod 2==0) != d.crossed)<;>exact P_c (P:=fun x:Inn=>x.runs=s.runs∧x.wides=s.wides∧x.noballs=s.noballs∧x.byes=s.byes∧x.legbyes=s.legbyes∧x.pens=s.pens∧x.complete=s.complete∧x.inover=s.inover∧x.bowler=s.bowler∧x.bowled=s.bowled) _ _ _ ⟨rfl,rfl,rfl,rfl,rfl,rfl,rfl,rfl,rfl,rfl⟩
    (P_c (P:=fun x:Inn=>x.runs=s.runs∧x.wides=s.wides∧x.noballs=s.noballs∧x.byes=s.byes∧x.legbyes=s.legbyes∧x.pens=s.pens∧x.complete=s.complete∧x.inover=s.inover∧x.bowler=s.bowler∧x.bowled=s.bowled) _ _ _ ⟨rfl,rfl,rfl,rfl,rfl,rfl,rfl,rfl,rfl,rfl⟩ ⟨rfl,rfl,rfl,rfl,rfl,rfl,rfl,rfl,rfl,rfl⟩)
def Ic (r:Rul) (s:Inn) (d:Del):Inn :=
 let o:=Av r (Ag s d) (AD r d).counts
 let t:Inn:=cond o.2 (H4 o.1) o.1
 { t with runs:=IntKind.i64.wrap (s.runs+CT (AD r d)),wides:=IntKind.i64.wrap (s.wides+(AD r d).wides),noballs:=IntKind.i64.wrap (s.noballs+(AD r d).noballs),byes:=IntKind.i64.wrap (s.byes+(AD r d).byes),legbyes:=IntKind.i64.wrap (s.legbyes+(AD r d).legbyes),freehit:=cond (d.type==1) false (cond (d.type==3&&r.freehit) true o.1.freehit) }
theorem WY {r:Rul} {s:Inn} {d:Del} (h:((KN r s d).2==0)=true):(IM r s d==0)=true∧(KN r s d).1=Ic r s d:=by
 unfold KN at h ⊢;cases hr:IM r s d==0 with
 | false=>rw [hr] at h;exact absurd (hr▸h) (by decide)
 | true =>
  refine ⟨rfl,?_⟩;obtain ⟨k1,k2,k3,k4,k5,_⟩:=XS s d;simp only [Bool.not_true,cond_false,ni,k1,k2,k3,k4,k5,Ic];generalize Av r (Ag s d) (AD r d).counts=o;obtain ⟨o1,o2⟩:=o;cases o2<;>rfl
theorem HT {r:Rul} {s:Inn} {d:Del} (h:(IM r s d==0)=true):GB s.batters s.striker s.other=false∧(s.bowler==0)=false∧(UT r s==0)=true∧(Dp d==0)=true∧(Sj d s.freehit==0)=true∧(T7 s d==0)=true:=by
 unfold IM at h;cases h1:GB s.batters s.striker s.other with
 | true=>rw [h1] at h;cases h
 | false =>
  cases h2:s.bowler==0 with
  | true=>rw [h1,h2] at h;cases h
  | false =>
   rw [h1,h2] at h;change (iP _ _ _ _==0)=true at h;unfold iP at h;cases h3:UT r s==0 with
   | false=>rw [h3] at h;exact absurd (h3▸h) (by decide)
   | true =>
    cases h4:Dp d==0 with
    | false=>rw [h3,h4] at h;exact absurd (h4▸h) (by decide)
    | true =>
     cases h5:Sj d s.freehit==0 with
     | false=>rw [h3,h4,h5] at h;exact absurd (h5▸h) (by decide)
     | true =>
      cases h6:T7 s d==0 with
      | false=>rw [h3,h4,h5,h6] at h;exact absurd (h6▸h) (by decide)
      | true=>exact ⟨rfl,rfl,rfl,rfl,rfl,rfl⟩
theorem Qe {d:Del} {f:Bool} (h:(Sj d f==0)=true) (hd:(d.how==0)=false):(d.victim==1)=true∨(d.victim==2)=true:=by
 unfold Sj at h;rw [hd] at h;cases h1:d.victim==1 with
 | true=>exact .inl rfl
 | false =>
  cases h2:d.victim==2 with
  | true=>exact .inr rfl
  | false =>
   rw [h1,h2] at h
   exfalso
   revert h
   cases (!onS d.how d.type||f && !mN d.how)<;>cases (!QI d.how&&(!(d.source==0) || !(d.runs==0)))<;>intro h<;>cases h
theorem Xp {s:Inn} {e:Ev} (h:XK s e=false) (hk:(e.kind==2)=false):Ce s.batters=true:=by
 unfold XK at h;rw [hk] at h;cases hb:Ce s.batters with
 | true=>rfl
 | false=>rw [hb] at h;simp at h
theorem qk {s : Inn} {d : Del} (h1 : (s.striker == 0) = false) (h2 : (s.other == 0) = false) (hv : (d.how == 0) = false → (d.victim == 1) = true ∨ (d.victim == 2) = true) :
    (Ag s d).wickets=cond (d.how==0) s.wickets (inc s.wickets):=by
  unfold Ag;rw [h1,h2];cases hd:d.how==0 with
  | true=>cases (!(d.runs.tmod 2==0) != d.crossed)<;>rfl
  | false =>
    rcases hv hd with h | h<;>rw [h]<;>cases (!(d.runs.tmod 2==0) != d.crossed)<;>cases d.victim==1<;>rfl
theorem rW (r:Rul) (s:Inn) (b:Bool):(Av r s b).1.wickets=s.wickets∧(Av r s b).1.pens=s.pens:=by
 unfold Av;exact P_c (P:=fun x:Inn×Bool=>x.1.wickets=s.wickets∧x.1.pens=s.pens) _ _ _ ⟨rfl,rfl⟩ (P_c (P:=fun x:Inn×Bool=>x.1.wickets=s.wickets∧x.1.pens=s.pens) _ _ _ ⟨rfl,rfl⟩ ⟨rfl,rfl⟩)
theorem sY {r : Rul} {s : Inn} {b : Bool} (hr : RulOk r) (hc : BJ r = 0) (hb : inR s.bowler s.bowled.length = true) (hi : 0 ≤ s.inover ∧ s.inover ≤ r.balls - 1) (hn : CK s.complete) :
    IntKind.i64.wrap (DG r.balls (Av r s b).1.complete (Av r s b).1.inover - DG r.balls s.complete s.inover)=cond b 1 0:=by
  have hk:∃ k:Nat,r.balls=k:=⟨r.balls.toNat,by have:=hr.balls;omega⟩;have hz:=hr.balls;unfold CK at hn;unfold Av DG;rw [hb,hc];cases b with
  | false =>
    have h1:iLt s.inover r.balls=true:=by simp only [iLt,decide_eq_true_eq];omega
    simp only [cond_false,h1,beq_self_eq_true,Bool.not_true,Bool.or_false,cond_true];exact YX _
  | true =>
    have h2:inc s.inover=s.inover+1:=A9 (by omega) (by omega);simp only [cond_true,h2,beq_self_eq_true,Bool.not_true,Bool.or_false,cond_false];have h3:inc s.complete=s.complete+1:=A9 (by omega) (by omega);have hb5:r.balls=4∨r.balls=5∨r.balls=6∨r.balls=7∨r.balls=8:=by omega
    cases h1:iLt (s.inover+1) r.balls with
    | true =>
      simp only [cond_true]
      rcases hb5 with e | e | e | e | e<;>rw [e] at hi ⊢<;>simp only [P4]<;>omega
    | false =>
      simp only [iLt,decide_eq_false_iff_not] at h1;simp only [cond_false,h3]
      rcases hb5 with e | e | e | e | e<;>rw [e] at hi h1 ⊢<;>simp only [P4]<;>omega
theorem X2 {L:Rows} {s n:Int} (h:GB L s n=false) (hb:Ce L=true):(s==0)=false∧(n==0)=false:=by
 unfold GB at h;rw [hb,Bool.true_and,Bool.or_eq_false_iff] at h;exact h
theorem kt {r:Rul} {s:Inn} (h:InnOk r s) (hb:(s.bowler==0)=false):inR s.bowler s.bowled.length=true:=by
 have h1:=h.bow;have h2:=h.ld;rw [beq_eq_false_iff_ne] at hb;simp only [inR,iLe,zzj,decide_eq_true_eq];omega
theorem tz {r : Rul} {s : Inn} {e : Ev} (hk : (e.kind == 4) = true) (h : ((Af r s e).2 == 0) = true) :
    IntKind.i64.wrap ((Af r s e).1.runs - s.runs)=CT (AD r e.ball)∧IntKind.i64.wrap ((Af r s e).1.wides - s.wides)=(AD r e.ball).wides∧IntKind.i64.wrap ((Af r s e).1.noballs - s.noballs)=(AD r e.ball).noballs ∧
    IntKind.i64.wrap ((Af r s e).1.byes - s.byes)=(AD r e.ball).byes∧IntKind.i64.wrap ((Af r s e).1.legbyes - s.legbyes)=(AD r e.ball).legbyes∧(Af r s e).1.pens=s.pens ∧
    IntKind.i64.wrap (DG r.balls (Af r s e).1.complete (Af r s e).1.inover - DG r.balls s.complete s.inover)=cond (AD r e.ball).counts 1 0 ∧
    IntKind.i64.wrap ((Af r s e).1.wickets - s.wickets)=cond (e.ball.how==0) 0 1∧(Af r s e).1.fresh=true∧IntKind.i64.wrap (Af r s e).1.runs=(Af r s e).1.runs:=by
  obtain ⟨hv,he,hn,hw,hp,hs⟩:=LN h;have k4:=beq_iff_eq.1 hk;have hpb:Al r s e=KN r s e.ball:=by unfold Al;rw [k4];rfl
  obtain ⟨d,hd0⟩:∃ d,d=e.ball:=⟨_,rfl⟩;rw [← hd0] at hpb ⊢;rw [hpb] at hp hs;obtain ⟨hr,hb⟩:=WY hp;obtain ⟨q1,q2,q3,q4,q5,q6⟩:=HT hr;have ok:=Fe.1 hv;have rk:=Dm ok.code;have hbeg:Ce s.batters=true:=Xp hw (by rw [k4];rfl);obtain ⟨z1,z2⟩:=X2 q1 hbeg;have hin:=kt ok q2;have hout:=qk (d:=d) z1 z2 (fun hd=>Qe q5 hd);obtain ⟨k1,k2,k3,k4,k5,k6,k7,k8,k9,k10⟩:=XS s d;have hbl:=sY (b:=(AD r d).counts) (s:=Ag s d) rk ok.code (by rw [k9,k10];exact hin) (by rw [k8];exact ok.io) (by rw [k7];exact ok.complete);rw [k7,k8] at hbl;obtain ⟨w1,w2⟩:=rW r (Ag s d) (AD r d).counts;rw [hs,hb];have hc:AD r d=KA r d:=by unfold AD;rw [q4];rfl
  have ht:IntKind.i64.wrap (CT (AD r d))=CT (AD r d):=Im _;have c1:IntKind.i64.wrap (AD r d).wides=(AD r d).wides:=by rw [hc];unfold KA;simp only;cases d.type==2<;>first | rfl | exact Im _
  have c2:IntKind.i64.wrap (AD r d).noballs=(AD r d).noballs:=by
    have:=rk.noball;rw [hc];unfold KA;simp only;cases d.type==3<;>first | rfl | exact A9 (n:=r.noball) (by omega) (by omega)
  have c3:IntKind.i64.wrap (AD r d).byes=(AD r d).byes:=by rw [hc];unfold KA;simp only;cases (!(d.type==2)&&d.source==2)<;>first | rfl | exact Im _
  have c4:IntKind.i64.wrap (AD r d).legbyes=(AD r d).legbyes:=by rw [hc];unfold KA;simp only;cases (!(d.type==2)&&d.source==3)<;>first | rfl | exact Im _
  refine ⟨(NU _ _).trans ht,(NU _ _).trans c1,(NU _ _).trans c2,(NU _ _).trans c3,(NU _ _).trans c4,?_,?_,?_,hk,Im _⟩
  · have : (CC r (Ic r s d) (e.kind == 4)).pens = (Av r (Ag s d) (AD r d).counts).1.pens := by
      show (cond (Av r (Ag s d) (AD r d).counts).2 (H4 (Av r (Ag s d) (AD r d).counts).1) (Av r (Ag s d) (AD r d).counts).1).pens=_;cases (Av r (Ag s d) (AD r d).counts).2<;>rfl
    rw [this,w2,k6]
  · have e1 : (CC r (Ic r s d) (e.kind == 4)).complete = (Av r (Ag s d) (AD r d).counts).1.complete := by
      show (cond (Av r (Ag s d) (AD r d).counts).2 (H4 (Av r (Ag s d) (AD r d).counts).1) (Av r (Ag s d) (AD r d).counts).1).complete=_;cases (Av r (Ag s d) (AD r d).counts).2<;>rfl
    have e2:(CC r (Ic r s d) (e.kind==4)).inover=(Av r (Ag s d) (AD r d).counts).1.inover:=by
      show (cond (Av r (Ag s d) (AD r d).counts).2 (H4 (Av r (Ag s d) (AD r d).counts).1) (Av r (Ag s d) (AD r d).counts).1).inover=_;cases (Av r (Ag s d) (AD r d).counts).2<;>rfl
    rw [e1,e2,hbl]
  · have : (CC r (Ic r s d) (e.kind == 4)).wickets = (Av r (Ag s d) (AD r d).counts).1.wickets := by
      show (cond (Av r (Ag s d) (AD r d).counts).2 (H4 (Av r (Ag s d) (AD r d).counts).1) (Av r (Ag s d) (AD r d).counts).1).wickets=_;cases (Av r (Ag s d) (AD r d).counts).2<;>rfl
    rw [this,w1,hout];unfold inc;cases d.how==0 with
    | true=>exact YX _
    | false=>exact (NU s.wickets 1).trans rfl
def ya:Inn:=⟨0,0,0,0,0,0,0,0,0,0,0,0,0,0,[],0,[],[],false,[],false,0,0,0,[],0,0,0⟩
def ABa (n:Nat) (overs side t p:Int):Inn:=⟨side,t,overs,p,0,0,0,0,0,p,0,0,0,0,List.replicate n [.int 0],0,[],[],false,List.replicate n [.int 0],false,0,0,0,List.replicate n [.bool false],0,0,0⟩
def B7 (r:Rul) (side t p:Int):Inn×Int :=
 cond (!(BJ r==0)) (ya,BJ r) (cond (!btw side 1 2 || !btw t 0 1000000 || !btw p 0 1000000) (ya,2) (ABa r.side.toNat r.overs side t p,0))
theorem Us {N:Nat} {r8:Bool} {r0:ByteArray} {r13:Rows} {a:Int} {b:Int} {c:Int} (hN:2097152<N) (hs:r0.size≤1048576):Gw N [.str r0,.int r1,.int r2,.int r3,.int r4,.int r5,.int r6,.int r7,.bool r8,.int r9,.int r10,.int r11,.int r12,.rows r13,.int a,.int b,.int c]=some (Bk (B7 (⟨r0,r1,r2,r3,r4,r5,r6,r7,r8,r9,r10,r11,r12,r13⟩:Rul) a b c)):=by
 show KF (std (Hp N) N) (xOf _)=_;generalize hres:(some (Bk (B7 (⟨r0,r1,r2,r3,r4,r5,r6,r7,r8,r9,r10,r11,r12,r13⟩:Rul) a b c)):Option (List PV))=RR;simp only [KF,Q0,Nw,lq9,std,xOf,PXb,D4 hN hs,Eg];subst hres;simp only [B7];cases hc:BJ (⟨r0,r1,r2,r3,r4,r5,r6,r7,r8,r9,r10,r11,r12,r13⟩:Rul)==0 with
 | false=>rfl
 | true =>
  have rk:=(Dm (beq_iff_eq.1 hc)).side;obtain ⟨k,hk⟩:∃ k:Nat,r1=k:=⟨r1.toNat,by simp only at rk;omega⟩;subst hk;simp only at rk;have h1:iSm (k:Int) 1=true:=Gu (by omega) (by omega);have h8:iSm (k:Int) 8=true:=Gu (by omega) (by omega);simp only [PXb,PXc,PXn,PXm,Nat.reduceAdd,Int.reduceBEq,h1,h8];cases btw a 1 2<;>cases btw b 0 1000000<;>cases btw c 0 1000000<;>rfl
theorem So (r:Rul) (side t p:Int):(B7 r side t p).1.Fit∧(B7 r side t p).1.before=[]∧(B7 r side t p).1.bowlers=[]:=by
 unfold B7;cases hc:BJ r==0 with
 | false=>exact ⟨⟨by show 0≤1048576;omega,by show 0≤1048576;omega,by show 0≤1048576;omega,by show 0≤1048576;omega,by show 0≤1048576;omega⟩,rfl,rfl⟩
 | true =>
  have hs:=(Dm (beq_iff_eq.1 hc)).side;have hl:∀ x:List PV,(List.replicate r.side.toNat x).length≤1048576:=fun x=>by rw [List.length_replicate];omega
  cases (!btw side 1 2 || !btw t 0 1000000 || !btw p 0 1000000) with
  | true=>exact ⟨⟨by show 0≤1048576;omega,by show 0≤1048576;omega,by show 0≤1048576;omega,by show 0≤1048576;omega,by show 0≤1048576;omega⟩,rfl,rfl⟩
  | false=>exact ⟨⟨hl _,by show 0≤1048576;omega,by show 0≤1048576;omega,hl _,hl _⟩,rfl,rfl⟩
theorem z7 {s:Inn} (h:s.Fit):(Ky s).Fit:=⟨h.bt,h.bw,h.bf,h.bd,h.sb⟩
def Shp (L:Rows):Prop:=∀ r∈L,r≠[]
theorem AAQ (r:List PV) (v:PV) (h:r≠[]):AA (Ac r 0 [v]) 0=v:=by
 cases r with
 | nil=>exact absurd rfl h
 | cons a b=>rfl
theorem rY {L:Rows} {i:Nat} (h:i<L.length):AB L i∈L:=by
 unfold AB;rw [zzk,zzn h];exact List.getElem_mem h
theorem pT {L:Rows} {p v:Int} (hs:Shp L) (hp:ix p<L.length) (i:Nat):atI (DX L p v) i 0=cond (Nat.beq i (ix p)) v (atI L i 0):=by
 unfold DX atI AF
 by_cases h:i=ix p
 ·subst h;have e:AB (L.set (ix p) (Ac (AB L (ix p)) 0 [.int v])) (ix p)=Ac (AB L (ix p)) 0 [.int v]:=by
   unfold AB;rw [zzk,List.getElem?_set_self hp];rfl
  rw [e,AAQ _ _ (hs _ (rY hp)),Nat.beq_refl];rfl
 ·have e:AB (L.set (ix p) (Ac (AB L (ix p)) 0 [.int v])) i=AB L i:=by
   unfold AB;simp only [zzk];rw [List.getElem?_set_ne (fun e=>h e.symm)]
  have hb:Nat.beq i (ix p)=false:=by
   cases hb:Nat.beq i (ix p) with
   | false=>rfl
   | true=>exact absurd (Nat.eq_of_beq_eq_true hb) h
  rw [e,hb];rfl
theorem AAR (r:List PV) (v:PV) (h:r≠[]):Ac r 0 [v]≠[]:=by
 cases r with
 | nil=>exact absurd rfl h
 | cons a b=>intro e;cases e
theorem Nj {L:Rows} {p v:Int} (hs:Shp L):Shp (DX L p v):=by
 unfold DX
 by_cases hp:ix p<L.length
 ·intro r hr
  rcases List.mem_or_eq_of_mem_set hr with h | h
  ·exact hs r h
  ·rw [h];exact AAR _ _ (hs _ (rY hp))
 ·rw [List.set_eq_of_length_le (by omega)];exact hs
theorem Ot {p:Int} {n:Nat} (h:inR p n=true) (hn:n≤1048576):(ix p:Int)=p - 1∧ix p<n:=by
 simp only [inR,iLe,zzj,decide_eq_true_eq] at h;unfold ix;rw [A9 (by omega) (by omega)];omega
theorem rO {p q:Nat→Bool} {k:Nat} (h:∀ j,j≠k→q j=p j):∀ n,k<n→Bq q n+cond (p k) 1 0=Bq p n+cond (q k) 1 0
 | 0,hn=>by omega
 | n+1,hn=>by
  unfold Bq
  by_cases e:k=n
  ·subst e;have:Bq q k=Bq p k:=NV k (fun j hj=>h j (by omega));rw [this];cases p k<;>cases q k<;>simp only [cond_true,cond_false]<;>omega
  ·have ih:=rO h n (by omega);rw [h n (fun x=>e x.symm)];cases p n<;>simp only [cond_true,cond_false]<;>omega
theorem AB3 {L:Rows} {p v w:Int} (hs:Shp L) (hp:ix p<L.length):Bq (pIs (DX L p v) w) L.length+cond (atI L (ix p) 0==w) 1 0=Bq (pIs L w) L.length+cond (v==w) 1 0:=by
 have h1:=rO (p:=pIs L w) (q:=pIs (DX L p v) w) (k:=ix p) (fun j hj=>by
  unfold pIs;rw [pT hs hp];have:Nat.beq j (ix p)=false:=by
   cases hb:Nat.beq j (ix p) with
   | false=>rfl
   | true=>exact absurd (Nat.eq_of_beq_eq_true hb) hj
  rw [this];rfl) L.length hp
 have h2:pIs (DX L p v) w (ix p)=(v==w):=by unfold pIs;rw [pT hs hp,Nat.beq_refl];rfl
 rw [h2] at h1;exact h1
structure BatOk (L:Rows) (s n wk:Int):Prop where
 le:∀ i,i<L.length→atI L i 0≤3
 at1:∀ i,i<L.length→(atI L i 0=1↔(s=(i:Int)+1∨n=(i:Int)+1))
 here:Ce L=true→s≠0∨n≠0
 ne:s≠0→s≠n
 wk:wk=Fr L
theorem yN {L:Rows} {s n:Int} (h:∀ i,i<L.length→(atI L i 0=1↔(s=(i:Int)+1∨n=(i:Int)+1))):∀ i,i<L.length→pIs L 1 i=UF s n i:=fun i hi=>by
 have:=h i hi;unfold pIs UF;rw [Bool.eq_iff_iff,Bool.or_eq_true,beq_iff_eq,beq_iff_eq,beq_iff_eq];exact this
theorem qf {L : Rows} {s n : Int} (hs : 0 ≤ s ∧ s ≤ (L.length : Int)) (hn : 0 ≤ n ∧ n ≤ (L.length : Int)) (hd : s ≠ 0 → s ≠ n) (h : ∀ i, i < L.length → (atI L i 0 = 1 ↔ (s = (i : Int) + 1 ∨ n = (i : Int) + 1))) :
    ins L=cond (!(s==0)) 1 0+cond (!(n==0)) 1 0:=by
  have h1:(s==n && !(s==0))=false:=by
    cases h2:s==0 with
    | true=>simp
    | false =>
      rw [beq_eq_false_iff_ne] at h2;rw [beq_false_of_ne (hd h2)];rfl
  unfold ins;rw [NV L.length (yN h),← rN hs hn h1,rC]
theorem zO {L:Rows} {s n wk:Int} (hs:0≤s∧s≤(L.length:Int)) (hn:0≤n∧n≤(L.length:Int)):U0 L s n wk=true↔BatOk L s n wk:=by
 unfold U0;rw [zzj,zzj,Bool.not_eq_true',Bool.not_eq_true',Fa,beq_iff_eq,Bool.or_eq_false_iff];constructor
 ·intro ⟨h1,⟨h2,h3⟩,h4⟩;have hd:s≠0→s≠n:=fun h5 h6=>by
   rw [h6,beq_self_eq_true,Bool.and_true,Bool.not_eq_false',beq_iff_eq] at h3;exact h5 (h6.trans h3)
  have ha:∀ i,i<L.length→(atI L i 0=1↔(s=(i:Int)+1∨n=(i:Int)+1)):=fun i hi=>by
   have:=h1 i (by omega) (by omega);unfold VY at this;rw [Bool.or_eq_false_iff,Bool.not_eq_false',beq_iff_eq] at this;have:=this.2;unfold pIs UF at this;rw [Bool.eq_iff_iff,Bool.or_eq_true,beq_iff_eq,beq_iff_eq,beq_iff_eq] at this;exact this
  refine ⟨fun i hi=>?_,ha,fun hb=>?_,hd,h4⟩
  ·have:=h1 i (by omega) (by omega);unfold VY at this;rw [Bool.or_eq_false_iff] at this;have:=this.1;simp only [iLt,decide_eq_false_iff_not] at this;omega
  ·rw [hb,Bool.true_and,qf hs hn hd ha] at h2;simp only [iLt,decide_eq_false_iff_not] at h2
   by_cases h5:s=0
   ·by_cases h6:n=0
    ·subst h5;subst h6;exact absurd (by decide) h2
    ·exact .inr h6
   ·exact .inl h5
 ·intro h;refine ⟨fun i _ hi=>?_,⟨?_,?_⟩,h.wk⟩
  ·unfold VY;rw [Bool.or_eq_false_iff,Bool.not_eq_false',beq_iff_eq,yN h.at1 i (by omega)];have:=h.le i (by omega);exact ⟨by simp only [iLt,decide_eq_false_iff_not];omega,rfl⟩
  ·cases hb:Ce L with
   | false=>rfl
   | true =>
    rw [qf hs hn h.ne h.at1,Bool.true_and]
    rcases h.here hb with h5 | h5
    ·rw [beq_false_of_ne h5];cases n==0<;>rfl
    ·rw [beq_false_of_ne h5];cases s==0<;>rfl
  ·cases h5:s==0 with
   | true=>rfl
   | false =>
    rw [beq_eq_false_iff_ne] at h5;rw [beq_false_of_ne (h.ne h5)];rfl
end Go.Px
end
