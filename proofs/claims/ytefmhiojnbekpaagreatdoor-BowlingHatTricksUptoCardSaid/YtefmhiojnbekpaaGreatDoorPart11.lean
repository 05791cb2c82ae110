/- Part 11. -/
import Derived.Test.YtefmhiojnbekpaaGreatDoorPart08
import Derived.Test.YtefmhiojnbekpaaGreatDoorPart10
set_option linter.unusedVariables false
set_option linter.unusedSimpArgs false
variable {s0 s1 s2 s3 s4 s5 s6 s7 s8 s9 s10 s11 s12 s13 s15 s21 s22 s23 s25 s26 s27:Int}
variable {s14 s16 s17 s19 s24:Go.Px.Rows}
variable {r1 r2 r3 r4 r5 r6 r7 r9 r10 r11 r12:Int}
section
namespace Go.Px
set_option maxRecDepth 100000
theorem He {N:Nat} {s18 s20:Bool} (h:Fit s14 s16 s17 s19 s24):A8 N [.int s0,.int s1,.int s2,.int s3,.int s4,.int s5,.int s6,.int s7,.int s8,.int s9,.int s10,.int s11,.int s12,.int s13,.rows s14,.int s15,.rows s16,.rows s17,.bool s18,.rows s19,.bool s20,.int s21,.int s22,.int s23,.rows s24,.int s25,.int s26,.int s27]=some [.int s0,.int s1,.int s2,.int s3,.int s4,.int s5,.int s6,.int s7,.int s8,.int s9,.int s10,.int s11,.int s12,.int s13,.rows s14,.int s15,.rows s16,.rows s17,.bool s18,.rows s19,.bool s20,.int s21,.int s22,.int s23,.rows s24,.int s25,.int s26,.int s27]:=by
 show QQ (std (Hj N) N) (xOf _)=_;simp only [QQ,N3,Qf,Pf,lq9,std,xOf,PXb,PXc,PXn,PXm,Nat.reduceAdd,Int.reduceBEq,Ae,Aq,Aj,Br h.bt (show 1≤4096 by omega),Br h.bw' (show 8≤4096 by omega),Br h.bf (show 8≤4096 by omega),Br h.bd (show 8≤4096 by omega),Br h.sb (show 1≤4096 by omega)]
theorem CP {N:Nat} {s18 s20:Bool} (h:Fit s14 s16 s17 s19 s24):AQ N [.int s0,.int s1,.int s2,.int s3,.int s4,.int s5,.int s6,.int s7,.int s8,.int s9,.int s10,.int s11,.int s12,.int s13,.rows s14,.int s15,.rows s16,.rows s17,.bool s18,.rows s19,.bool s20,.int s21,.int s22,.int s23,.rows s24,.int s25,.int s26,.int s27]=some [.int s0,.int s1,.int s2,.int s3,.int s4,.int s5,.int s6,.int s7,.int s8,.int s9,.int s10,.int s11,.int s12,.int s13,.rows s14,.int s15,.rows s16,.rows s17,.bool s18,.rows s19,.bool s20,.int s21,.int s22,.int s23,.rows s24,.int s25,.int s26,.int s27]:=by
 show R6 (std (eE N) N) (xOf _)=_;simp only [R6,lq9,std,xOf,PXb,PXc,PXn,PXm,Nat.reduceAdd,Int.reduceBEq,KW h.bt (show 1≤4096 by omega),KW h.bw' (show 8≤4096 by omega),KW h.bf (show 8≤4096 by omega),KW h.bd (show 8≤4096 by omega),KW h.sb (show 1≤4096 by omega)]
theorem H1 {N:Nat} {s18 s20:Bool} {p:Int}  : BA N [.int s0,.int s1,.int s2,.int s3,.int s4,.int s5,.int s6,.int s7,.int s8,.int s9,.int s10,.int s11,.int s12,.int s13,.rows s14,.int s15,.rows s16,.rows s17,.bool s18,.rows s19,.bool s20,.int s21,.int s22,.int s23,.rows s24,.int s25,.int s26,.int s27,.int p]=some [.bool (inR p s14.length)]:=by
 show MA (std (Vt N) N) (xOf _)=_;simp only [MA,lq9,std,xOf,PXb,PXc,PXn,PXm,Nat.reduceAdd,Int.reduceBEq];rfl
theorem QD {N:Nat} {s18 s20:Bool} {p:Int}  : Bo N [.int s0,.int s1,.int s2,.int s3,.int s4,.int s5,.int s6,.int s7,.int s8,.int s9,.int s10,.int s11,.int s12,.int s13,.rows s14,.int s15,.rows s16,.rows s17,.bool s18,.rows s19,.bool s20,.int s21,.int s22,.int s23,.rows s24,.int s25,.int s26,.int s27,.int p]=some [.bool (inR p s14.length)]:=by
 show PO (std (Zw N) N) (xOf _)=_;simp only [PO,lq9,std,xOf,PXb,PXc,PXn,PXm,Nat.reduceAdd,Int.reduceBEq];rfl
def Ah (s:Inn) (d:Del):Inn :=
  let odd := !(d.runs.tmod 2==0) != d.crossed
  let t:Inn:=cond odd { s with striker:=s.other,other:=s.striker } s
  let k:Bool:=d.how==0
  cond (!k&&(d.victim==1 && !(s.striker==0)))
    { t with striker:=cond odd t.striker 0,other:=cond odd 0 t.other,batters:=cond (inR s.striker s.batters.length) (LE s.batters s.striker 2) s.batters,wickets:=IntKind.i64.wrap (s.wickets+1) }
    (cond (!k&&(d.victim==2 && !(s.other==0)))
      { t with striker:=cond odd 0 t.striker,other:=cond odd t.other 0,batters:=cond (inR s.other s.batters.length) (LE s.batters s.other 2) s.batters,wickets:=IntKind.i64.wrap (s.wickets+1) }
      t)
theorem yh {N:Nat} {s18 s20:Bool} {d0 d1 d2 d3 d4 d6 d7 d8 d9 d11:Int} {d5 d10:Bool} (h:Fit s14 s16 s17 s19 s24):Kk N [.int s0,.int s1,.int s2,.int s3,.int s4,.int s5,.int s6,.int s7,.int s8,.int s9,.int s10,.int s11,.int s12,.int s13,.rows s14,.int s15,.rows s16,.rows s17,.bool s18,.rows s19,.bool s20,.int s21,.int s22,.int s23,.rows s24,.int s25,.int s26,.int s27,.int d0,.int d1,.int d2,.int d3,.int d4,.bool d5,.int d6,.int d7,.int d8,.int d9,.bool d10,.int d11]=some (Ah (⟨s0,s1,s2,s3,s4,s5,s6,s7,s8,s9,s10,s11,s12,s13,s14,s15,s16,s17,s18,s19,s20,s21,s22,s23,s24,s25,s26,s27⟩:Inn) (⟨d0,d1,d2,d3,d4,d5,d6,d7,d8,d9,d10,d11⟩:Del)).ls:=by
 show O9 (std (Lm N) N) (xOf _)=_;simp only [O9,Wi,UQ,lq9,std,xOf,PXb,PXc,PXn,PXm,Nat.reduceAdd,Int.reduceBEq,He h,H1,ABy h.bt];unfold Ah;cases d5<;>cases d2.tmod 2==0<;>cases d6==0<;>cases d7==1<;>cases d7==2<;>cases s12==0<;>cases s13==0<;>rfl
def GK (s:Inn):Inn:={ s with striker:=s.other,other:=s.striker }
theorem oN {N:Nat} {s18 s20:Bool} (h:Fit s14 s16 s17 s19 s24):G2 N [.int s0,.int s1,.int s2,.int s3,.int s4,.int s5,.int s6,.int s7,.int s8,.int s9,.int s10,.int s11,.int s12,.int s13,.rows s14,.int s15,.rows s16,.rows s17,.bool s18,.rows s19,.bool s20,.int s21,.int s22,.int s23,.rows s24,.int s25,.int s26,.int s27]=some (GK (⟨s0,s1,s2,s3,s4,s5,s6,s7,s8,s9,s10,s11,s12,s13,s14,s15,s16,s17,s18,s19,s20,s21,s22,s23,s24,s25,s26,s27⟩:Inn)).ls:=by
 show J6 (std (MN N) N) (xOf _)=_;simp only [J6,Tg,lq9,std,xOf,PXb,PXc,PXn,PXm,Nat.reduceAdd,Int.reduceBEq,He h];rfl
theorem f9 {N:Nat} {s18 s20:Bool} (h:Fit s14 s16 s17 s19 s24):Fq N [.int s0,.int s1,.int s2,.int s3,.int s4,.int s5,.int s6,.int s7,.int s8,.int s9,.int s10,.int s11,.int s12,.int s13,.rows s14,.int s15,.rows s16,.rows s17,.bool s18,.rows s19,.bool s20,.int s21,.int s22,.int s23,.rows s24,.int s25,.int s26,.int s27]=some (GK (⟨s0,s1,s2,s3,s4,s5,s6,s7,s8,s9,s10,s11,s12,s13,s14,s15,s16,s17,s18,s19,s20,s21,s22,s23,s24,s25,s26,s27⟩:Inn)).ls:=by
 show QG (std (Q6 N) N) (xOf _)=_;simp only [QG,Yk,lq9,std,xOf,PXb,PXc,PXn,PXm,Nat.reduceAdd,Int.reduceBEq,CP h];rfl
theorem AC8 {N:Nat} {s18 s20:Bool} {d0 d1 d2 d3 d4 d6 d7 d8 d9 d11:Int} {d5 d10:Bool} (h:Fit s14 s16 s17 s19 s24):XA N [.int s0,.int s1,.int s2,.int s3,.int s4,.int s5,.int s6,.int s7,.int s8,.int s9,.int s10,.int s11,.int s12,.int s13,.rows s14,.int s15,.rows s16,.rows s17,.bool s18,.rows s19,.bool s20,.int s21,.int s22,.int s23,.rows s24,.int s25,.int s26,.int s27,.int d0,.int d1,.int d2,.int d3,.int d4,.bool d5,.int d6,.int d7,.int d8,.int d9,.bool d10,.int d11]=some (Ah (⟨s0,s1,s2,s3,s4,s5,s6,s7,s8,s9,s10,s11,s12,s13,s14,s15,s16,s17,s18,s19,s20,s21,s22,s23,s24,s25,s26,s27⟩:Inn) (⟨d0,d1,d2,d3,d4,d5,d6,d7,d8,d9,d10,d11⟩:Del)).ls:=by
 show XW (std (Me N) N) (xOf _)=_;simp only [XW,et,bn,cp,lq9,std,xOf,PXb,PXc,PXn,PXm,Nat.reduceAdd,Int.reduceBEq,CP h,QD,ABy h.bt,f9 h,GK,Ah];cases h71:d7==1
 ·cases d5<;>cases d2.tmod 2==0<;>cases d6==0<;>cases d7==2<;>cases s12==0<;>cases s13==0<;>rfl
 ·rw [rZ h71];cases d5<;>cases d2.tmod 2==0<;>cases d6==0<;>cases s12==0<;>rfl
theorem nT {N:Nat} {v:Int}  : DM N [.int v]=some [.bool (!(v==0))]:=by
 show N2 (std (SX N) N) (xOf _)=_;rfl
theorem kF {N:Nat} {v:Int}  : E0 N [.int v]=some [.bool (!(v==0))]:=by
 show MM (std (Qq N) N) (xOf _)=_;rfl
theorem Y9 {N:Nat} {s18 s20:Bool} (h:s14.length≤1048576) (hN:2097152<N):CH N [.int s0,.int s1,.int s2,.int s3,.int s4,.int s5,.int s6,.int s7,.int s8,.int s9,.int s10,.int s11,.int s12,.int s13,.rows s14,.int s15,.rows s16,.rows s17,.bool s18,.rows s19,.bool s20,.int s21,.int s22,.int s23,.rows s24,.int s25,.int s26,.int s27]=some [.bool (B2 s14)]:=by
 show FU (std (FZ N) N) (xOf _)=_;simp only [FU,HJ,lq9,std,xOf,PXb,PXc,PXn,AB];rw [show B2 s14=iLe 0 (TZ (fun i => !(atI s14 i 0==0)) s14.length) from (L7 _ _).symm];rw [Option.bind_assoc];refine AN (Cg (len:=s14.length) (HB fun i => !(atI s14 i 0==0)) ?_ ?_ s14.length 0 N (by omega) (by omega)) ?_
 ·intro self;simp only [PXb,PXc,PXn,AB,Ak]
 ·intro i self hi;simp only [PXb,PXc,PXn,AB,Aa (show i≤1099511627776 by omega),Af hi,AO hi,HB,BJ,HJ,nT];cases atI s14 i 0==0<;>rfl
 ·unfold TZ;cases Bc (HB fun i => !(atI s14 i 0==0)) s14.length 0<;>rfl
theorem oZ {N:Nat} {s18 s20:Bool} (h:s14.length≤1048576) (hN:2097152<N):GW N [.int s0,.int s1,.int s2,.int s3,.int s4,.int s5,.int s6,.int s7,.int s8,.int s9,.int s10,.int s11,.int s12,.int s13,.rows s14,.int s15,.rows s16,.rows s17,.bool s18,.rows s19,.bool s20,.int s21,.int s22,.int s23,.rows s24,.int s25,.int s26,.int s27]=some [.bool (B2 s14)]:=by
 show J8 (std (MG N) N) (xOf _)=_;simp only [J8,F7,lq9,std,xOf,PXb,PXc,PXn,AB];rw [show B2 s14=iLe 0 (TZ (fun i => !(atI s14 i 0==0)) s14.length) from (L7 _ _).symm];rw [Option.bind_assoc];refine AN (Cg (len:=s14.length) (HB fun i => !(atI s14 i 0==0)) ?_ ?_ s14.length 0 N (by omega) (by omega)) ?_
 ·intro self;simp only [PXb,PXc,PXn,AB,Ak]
 ·intro i self hi;simp only [PXb,PXc,PXn,AB,Aa (show i≤1099511627776 by omega),Af hi,AO hi,HB,BJ,F7,kF];cases atI s14 i 0==0<;>rfl
 ·unfold TZ;cases Bc (HB fun i => !(atI s14 i 0==0)) s14.length 0<;>rfl
theorem YA {N:Nat} {s18 s20:Bool} (h:s14.length≤1048576) (hN:2097152<N):Bq N [.int s0,.int s1,.int s2,.int s3,.int s4,.int s5,.int s6,.int s7,.int s8,.int s9,.int s10,.int s11,.int s12,.int s13,.rows s14,.int s15,.rows s16,.rows s17,.bool s18,.rows s19,.bool s20,.int s21,.int s22,.int s23,.rows s24,.int s25,.int s26,.int s27]=some [.bool (B2 s14)]:=by
 show Jm (std (Te N) N) (xOf _)=_;simp only [Jm,lq9,std,xOf,PXb,PXc,PXn,AB];refine AN (Cy (len:=s14.length) (fun i => !(atI s14 i 0==0)) [.bool true] ?_ ?_ N (by omega)) ?_
 ·intro self;simp only [PXb,PXc,PXn,AB,Ak]
 ·intro i self hi;simp only [PXb,PXc,PXn,AB,Aa (show i≤1099511627776 by omega),Af hi,AO hi,BJ]
 ·unfold B2;cases A3 (fun i => !(atI s14 i 0==0)) s14.length 0<;>rfl
theorem Xm {N:Nat} {s18 s20:Bool} (h:s14.length≤1048576) (hN:2097152<N):BW N [.int s0,.int s1,.int s2,.int s3,.int s4,.int s5,.int s6,.int s7,.int s8,.int s9,.int s10,.int s11,.int s12,.int s13,.rows s14,.int s15,.rows s16,.rows s17,.bool s18,.rows s19,.bool s20,.int s21,.int s22,.int s23,.rows s24,.int s25,.int s26,.int s27]=some [.bool (Df s14 s12 s13)]:=by
 show Ed (std (E1 N) N) (xOf _)=_;simp only [Ed,RP,lq9,std,xOf,PXb,PXc,PXn,PXm,Nat.reduceAdd,Int.reduceBEq,Y9 h hN];rfl
theorem gX {N:Nat} {s18 s20:Bool} (h:s14.length≤1048576) (hN:2097152<N):Cj N [.int s0,.int s1,.int s2,.int s3,.int s4,.int s5,.int s6,.int s7,.int s8,.int s9,.int s10,.int s11,.int s12,.int s13,.rows s14,.int s15,.rows s16,.rows s17,.bool s18,.rows s19,.bool s20,.int s21,.int s22,.int s23,.rows s24,.int s25,.int s26,.int s27]=some [.bool (Df s14 s12 s13)]:=by
 show H2 (std (Hz N) N) (xOf _)=_;simp only [H2,YZ,lq9,std,xOf,PXb,PXc,PXn,PXm,Nat.reduceAdd,Int.reduceBEq,YA h hN];rfl
theorem ur {N:Nat} {s18 s20:Bool} (h:s14.length≤1048576) (hN:2097152<N):DH N [.int s0,.int s1,.int s2,.int s3,.int s4,.int s5,.int s6,.int s7,.int s8,.int s9,.int s10,.int s11,.int s12,.int s13,.rows s14,.int s15,.rows s16,.rows s17,.bool s18,.rows s19,.bool s20,.int s21,.int s22,.int s23,.rows s24,.int s25,.int s26,.int s27]=some [.rows (CA s14 s14.length)]:=by
 show GF (std (PT N) N) (xOf _)=_;simp only [GF,lq9,std,xOf,PXb,PXc,PXn,AB];refine AN (CV (len:=s14.length) (fun i=>[.rows (CA s14 i),.int (i:Int)]) [.rows (CA s14 s14.length)] ?_ ?_ N (by omega)) rfl
 ·intro self;simp only [PXb,PXc,PXn,AB,Ak]
 ·intro i self hi;have h2:(CA s14 i++[[PV.int ((i:Int)+1)]]).length≤4194304:=by have:=WI s14 i;simp;omega
  simp only [PXb,PXc,PXn,AB,Aa (show i≤1099511627776 by omega),Af hi,AO hi,BJ,CA,DL h2 (show 8≤4096 by omega)];cases (atI s14 i 0==0||atI s14 i 0==3)<;>rfl
theorem AB0 {N:Nat} {s18 s20:Bool} (h:s14.length≤1048576) (hN:2097152<N):FF N [.int s0,.int s1,.int s2,.int s3,.int s4,.int s5,.int s6,.int s7,.int s8,.int s9,.int s10,.int s11,.int s12,.int s13,.rows s14,.int s15,.rows s16,.rows s17,.bool s18,.rows s19,.bool s20,.int s21,.int s22,.int s23,.rows s24,.int s25,.int s26,.int s27]=some [.rows (CA s14 s14.length)]:=by
 show LY (std (VS N) N) (xOf _)=_;simp only [LY,lq9,std,xOf,PXb,PXc,PXn,AB];refine AN (CV (len:=s14.length) (fun i=>[.rows (CA s14 i),.int (i:Int)]) [.rows (CA s14 s14.length)] ?_ ?_ N (by omega)) rfl
 ·intro self;simp only [PXb,PXc,PXn,AB,Ak]
 ·intro i self hi;have h2:(CA s14 i++[[PV.int ((i:Int)+1)]]).length≤4194304:=by have:=WI s14 i;simp;omega
  simp only [PXb,PXc,PXn,AB,Aa (show i≤1099511627776 by omega),Af hi,AO hi,BJ,CA,DL h2 (show 8≤4096 by omega)];cases (atI s14 i 0==0||atI s14 i 0==3)<;>rfl
def R7 (s:Inn) (p q:Int):Inn×Int :=
  cond (B2 s.batters) (s,1) (cond (!inR p s.batters.length || !inR q s.batters.length) (s,3) (cond (p==q) (s,4)
    ({ s with batters:=LE (LE s.batters p 1) q 1,striker:=p,other:=q },0)))
theorem uz {N:Nat} {s18 s20:Bool} {p:Int} {q:Int} (h:Fit s14 s16 s17 s19 s24) (hN:2097152<N):JG N [.int s0,.int s1,.int s2,.int s3,.int s4,.int s5,.int s6,.int s7,.int s8,.int s9,.int s10,.int s11,.int s12,.int s13,.rows s14,.int s15,.rows s16,.rows s17,.bool s18,.rows s19,.bool s20,.int s21,.int s22,.int s23,.rows s24,.int s25,.int s26,.int s27,.int p,.int q]=some (Ag (R7 (⟨s0,s1,s2,s3,s4,s5,s6,s7,s8,s9,s10,s11,s12,s13,s14,s15,s16,s17,s18,s19,s20,s21,s22,s23,s24,s25,s26,s27⟩:Inn) p q)):=by
 show NY (std (Gd N) N) (xOf _)=_;generalize hres:(some (Ag (R7 (⟨s0,s1,s2,s3,s4,s5,s6,s7,s8,s9,s10,s11,s12,s13,s14,s15,s16,s17,s18,s19,s20,s21,s22,s23,s24,s25,s26,s27⟩:Inn) p q)):Option (List PV))=RR;simp only [NY,VY,TP,TL,lq9,std,xOf,PXb,PXc,PXn,PXm,Nat.reduceAdd,Int.reduceBEq,He h,Y9 h.bt hN,H1];subst hres;simp only [R7];cases B2 s14<;>try rfl
 cases hp:inR p s14.length<;>cases hq:inR q s14.length<;>try rfl
 rw [Dt hp h.bt,Dt hq h.bt];cases p==q<;>rfl
theorem ABm {N:Nat} {s18 s20:Bool} {p:Int} {q:Int} (h:Fit s14 s16 s17 s19 s24) (hN:2097152<N):UP N [.int s0,.int s1,.int s2,.int s3,.int s4,.int s5,.int s6,.int s7,.int s8,.int s9,.int s10,.int s11,.int s12,.int s13,.rows s14,.int s15,.rows s16,.rows s17,.bool s18,.rows s19,.bool s20,.int s21,.int s22,.int s23,.rows s24,.int s25,.int s26,.int s27,.int p,.int q]=some (Ag (R7 (⟨s0,s1,s2,s3,s4,s5,s6,s7,s8,s9,s10,s11,s12,s13,s14,s15,s16,s17,s18,s19,s20,s21,s22,s23,s24,s25,s26,s27⟩:Inn) p q)):=by
 show Ug (std (K3 N) N) (xOf _)=_;generalize hres:(some (Ag (R7 (⟨s0,s1,s2,s3,s4,s5,s6,s7,s8,s9,s10,s11,s12,s13,s14,s15,s16,s17,s18,s19,s20,s21,s22,s23,s24,s25,s26,s27⟩:Inn) p q)):Option (List PV))=RR;simp only [Ug,bI,cK,aP,lq9,std,xOf,PXb,PXc,PXn,PXm,Nat.reduceAdd,Int.reduceBEq,CP h,YA h.bt hN,QD];subst hres;simp only [R7];cases B2 s14<;>try rfl
 cases hp:inR p s14.length<;>cases hq:inR q s14.length<;>try rfl
 rw [Dt hp h.bt,Dt hq h.bt];cases p==q<;>rfl
def Ju (s:Inn) (p:Int):Int :=
 cond (!inR p s.batters.length) 3 (cond (!Df s.batters s.striker s.other||atI s.batters (ix p) 0==1) 4 (cond (atI s.batters (ix p) 0==2) 5 0))
theorem iQ {N:Nat} {s18 s20:Bool} {p:Int} (h:s14.length≤1048576) (hN:2097152<N):EN N [.int s0,.int s1,.int s2,.int s3,.int s4,.int s5,.int s6,.int s7,.int s8,.int s9,.int s10,.int s11,.int s12,.int s13,.rows s14,.int s15,.rows s16,.rows s17,.bool s18,.rows s19,.bool s20,.int s21,.int s22,.int s23,.rows s24,.int s25,.int s26,.int s27,.int p]=some [.int (Ju (⟨s0,s1,s2,s3,s4,s5,s6,s7,s8,s9,s10,s11,s12,s13,s14,s15,s16,s17,s18,s19,s20,s21,s22,s23,s24,s25,s26,s27⟩:Inn) p)]:=by
 show Pi (std (Lc N) N) (xOf _)=_;generalize hres:(some [.int (Ju (⟨s0,s1,s2,s3,s4,s5,s6,s7,s8,s9,s10,s11,s12,s13,s14,s15,s16,s17,s18,s19,s20,s21,s22,s23,s24,s25,s26,s27⟩:Inn) p)]:Option (List PV))=RR;simp only [Pi,Tb,UK,lq9,std,xOf,PXb,PXc,PXn,PXm,Nat.reduceAdd,Int.reduceBEq,H1,Xm h hN];subst hres;simp only [Ju];cases hp:inR p s14.length<;>try rfl
 rw [Dt hp h];cases Df s14 s12 s13<;>try rfl
 simp only [PXb,PXc,PXn,PXm,Nat.reduceAdd,Int.reduceBEq,atI,ix]
theorem mD {N:Nat} {s18 s20:Bool} {p:Int} (h:s14.length≤1048576) (hN:2097152<N):FR N [.int s0,.int s1,.int s2,.int s3,.int s4,.int s5,.int s6,.int s7,.int s8,.int s9,.int s10,.int s11,.int s12,.int s13,.rows s14,.int s15,.rows s16,.rows s17,.bool s18,.rows s19,.bool s20,.int s21,.int s22,.int s23,.rows s24,.int s25,.int s26,.int s27,.int p]=some [.int (Ju (⟨s0,s1,s2,s3,s4,s5,s6,s7,s8,s9,s10,s11,s12,s13,s14,s15,s16,s17,s18,s19,s20,s21,s22,s23,s24,s25,s26,s27⟩:Inn) p)]:=by
 show Rx (std (M3 N) N) (xOf _)=_;generalize hres:(some [.int (Ju (⟨s0,s1,s2,s3,s4,s5,s6,s7,s8,s9,s10,s11,s12,s13,s14,s15,s16,s17,s18,s19,s20,s21,s22,s23,s24,s25,s26,s27⟩:Inn) p)]:Option (List PV))=RR;simp only [Rx,Yq,Ye,lq9,std,xOf,PXb,PXc,PXn,PXm,Nat.reduceAdd,Int.reduceBEq,QD,gX h hN];subst hres;simp only [Ju];cases hp:inR p s14.length<;>try rfl
 rw [Dt hp h];cases Df s14 s12 s13<;>try rfl
 simp only [PXb,PXc,PXn,PXm,Nat.reduceAdd,Int.reduceBEq,atI,ix]
theorem XY {s:Inn} {p:Int} (h:(Ju s p==0)=true):inR p s.batters.length=true:=by
 unfold Ju at h;cases hp:inR p s.batters.length with
 | true=>rfl
 | false=>rw [hp] at h;cases h
def K4 (s:Inn) (p:Int):Inn×Int :=
 cond (Ju s p==0) ({ s with batters:=LE s.batters p 1,striker:=cond (s.striker==0) p s.striker,other:=cond (s.striker==0) s.other p },0) (s,Ju s p)
def Ek (s:Inn) (p:Int):Inn×Int :=
 cond (Ju s p==0) ({ s with batters:=LE s.batters p 2,wickets:=IntKind.i64.wrap (s.wickets+1) },0) (s,Ju s p)
theorem sC {N:Nat} {s18 s20:Bool} {p:Int} (h:Fit s14 s16 s17 s19 s24) (hN:2097152<N):IE N [.int s0,.int s1,.int s2,.int s3,.int s4,.int s5,.int s6,.int s7,.int s8,.int s9,.int s10,.int s11,.int s12,.int s13,.rows s14,.int s15,.rows s16,.rows s17,.bool s18,.rows s19,.bool s20,.int s21,.int s22,.int s23,.rows s24,.int s25,.int s26,.int s27,.int p]=some (Ag (K4 (⟨s0,s1,s2,s3,s4,s5,s6,s7,s8,s9,s10,s11,s12,s13,s14,s15,s16,s17,s18,s19,s20,s21,s22,s23,s24,s25,s26,s27⟩:Inn) p)):=by
 show Lz (std (Iw N) N) (xOf _)=_;generalize hres:(some (Ag (K4 (⟨s0,s1,s2,s3,s4,s5,s6,s7,s8,s9,s10,s11,s12,s13,s14,s15,s16,s17,s18,s19,s20,s21,s22,s23,s24,s25,s26,s27⟩:Inn) p)):Option (List PV))=RR;simp only [Lz,Uf,UZ,lq9,std,xOf,PXb,PXc,PXn,PXm,Nat.reduceAdd,Int.reduceBEq,He h,iQ h.bt hN];subst hres;simp only [K4];cases hm:Ju (⟨s0,s1,s2,s3,s4,s5,s6,s7,s8,s9,s10,s11,s12,s13,s14,s15,s16,s17,s18,s19,s20,s21,s22,s23,s24,s25,s26,s27⟩:Inn) p==0<;>try rfl
 rw [Dt (XY hm) h.bt];cases s12==0<;>rfl
theorem yq {N:Nat} {s18 s20:Bool} {p:Int} (h:Fit s14 s16 s17 s19 s24) (hN:2097152<N):SA N [.int s0,.int s1,.int s2,.int s3,.int s4,.int s5,.int s6,.int s7,.int s8,.int s9,.int s10,.int s11,.int s12,.int s13,.rows s14,.int s15,.rows s16,.rows s17,.bool s18,.rows s19,.bool s20,.int s21,.int s22,.int s23,.rows s24,.int s25,.int s26,.int s27,.int p]=some (Ag (K4 (⟨s0,s1,s2,s3,s4,s5,s6,s7,s8,s9,s10,s11,s12,s13,s14,s15,s16,s17,s18,s19,s20,s21,s22,s23,s24,s25,s26,s27⟩:Inn) p)):=by
 show SE (std (NC N) N) (xOf _)=_;generalize hres:(some (Ag (K4 (⟨s0,s1,s2,s3,s4,s5,s6,s7,s8,s9,s10,s11,s12,s13,s14,s15,s16,s17,s18,s19,s20,s21,s22,s23,s24,s25,s26,s27⟩:Inn) p)):Option (List PV))=RR;simp only [SE,Zy,Zd,lq9,std,xOf,PXb,PXc,PXn,PXm,Nat.reduceAdd,Int.reduceBEq,CP h,mD h.bt hN];subst hres;simp only [K4];cases hm:Ju (⟨s0,s1,s2,s3,s4,s5,s6,s7,s8,s9,s10,s11,s12,s13,s14,s15,s16,s17,s18,s19,s20,s21,s22,s23,s24,s25,s26,s27⟩:Inn) p==0<;>try rfl
 rw [Dt (XY hm) h.bt];cases s12==0<;>rfl
theorem mR {N:Nat} {s18 s20:Bool} {p:Int} (h:Fit s14 s16 s17 s19 s24) (hN:2097152<N):Fa N [.int s0,.int s1,.int s2,.int s3,.int s4,.int s5,.int s6,.int s7,.int s8,.int s9,.int s10,.int s11,.int s12,.int s13,.rows s14,.int s15,.rows s16,.rows s17,.bool s18,.rows s19,.bool s20,.int s21,.int s22,.int s23,.rows s24,.int s25,.int s26,.int s27,.int p]=some (Ag (Ek (⟨s0,s1,s2,s3,s4,s5,s6,s7,s8,s9,s10,s11,s12,s13,s14,s15,s16,s17,s18,s19,s20,s21,s22,s23,s24,s25,s26,s27⟩:Inn) p)):=by
 show Ir (std (EM N) N) (xOf _)=_;generalize hres:(some (Ag (Ek (⟨s0,s1,s2,s3,s4,s5,s6,s7,s8,s9,s10,s11,s12,s13,s14,s15,s16,s17,s18,s19,s20,s21,s22,s23,s24,s25,s26,s27⟩:Inn) p)):Option (List PV))=RR;simp only [Ir,Ss,Qe,Sf,lq9,std,xOf,PXb,PXc,PXn,PXm,Nat.reduceAdd,Int.reduceBEq,He h,iQ h.bt hN,H1];subst hres;simp only [Ek];cases hm:Ju (⟨s0,s1,s2,s3,s4,s5,s6,s7,s8,s9,s10,s11,s12,s13,s14,s15,s16,s17,s18,s19,s20,s21,s22,s23,s24,s25,s26,s27⟩:Inn) p==0<;>try rfl
 have hk:inR p s14.length=true:=XY hm;rw [Dt hk h.bt,hk];rfl
theorem uc {N:Nat} {s18 s20:Bool} {p:Int} (h:Fit s14 s16 s17 s19 s24) (hN:2097152<N):Nh N [.int s0,.int s1,.int s2,.int s3,.int s4,.int s5,.int s6,.int s7,.int s8,.int s9,.int s10,.int s11,.int s12,.int s13,.rows s14,.int s15,.rows s16,.rows s17,.bool s18,.rows s19,.bool s20,.int s21,.int s22,.int s23,.rows s24,.int s25,.int s26,.int s27,.int p]=some (Ag (Ek (⟨s0,s1,s2,s3,s4,s5,s6,s7,s8,s9,s10,s11,s12,s13,s14,s15,s16,s17,s18,s19,s20,s21,s22,s23,s24,s25,s26,s27⟩:Inn) p)):=by
 show Np (std (J9 N) N) (xOf _)=_;generalize hres:(some (Ag (Ek (⟨s0,s1,s2,s3,s4,s5,s6,s7,s8,s9,s10,s11,s12,s13,s14,s15,s16,s17,s18,s19,s20,s21,s22,s23,s24,s25,s26,s27⟩:Inn) p)):Option (List PV))=RR;simp only [Np,Wk,Wd,lq9,std,xOf,PXb,PXc,PXn,PXm,Nat.reduceAdd,Int.reduceBEq,CP h,mD h.bt hN];subst hres;simp only [Ek];cases hm:Ju (⟨s0,s1,s2,s3,s4,s5,s6,s7,s8,s9,s10,s11,s12,s13,s14,s15,s16,s17,s18,s19,s20,s21,s22,s23,s24,s25,s26,s27⟩:Inn) p==0<;>try rfl
 rw [Dt (XY hm) h.bt];rfl
def GP (s:Inn) (p:Int) (hurt:Bool):Inn×Int :=
  cond (!inR p s.batters.length) (s,3) (cond (s.striker==0||s.other==0) (s,6) (cond (!(p==s.striker) && !(p==s.other)) (s,4)
    (cond (hurt&&((CA s.batters s.batters.length).length:Int)==0) (s,19)
      ({ s with striker:=cond (p==s.striker) 0 s.striker,other:=cond (p==s.striker) s.other 0,batters:=LE s.batters p (cond hurt 3 2),wickets:=cond hurt s.wickets (IntKind.i64.wrap (s.wickets+1)) },0))))
theorem pj {N:Nat} {s18 s20:Bool} {p:Int} {b:Bool} (h:Fit s14 s16 s17 s19 s24) (hN:2097152<N):Gc N [.int s0,.int s1,.int s2,.int s3,.int s4,.int s5,.int s6,.int s7,.int s8,.int s9,.int s10,.int s11,.int s12,.int s13,.rows s14,.int s15,.rows s16,.rows s17,.bool s18,.rows s19,.bool s20,.int s21,.int s22,.int s23,.rows s24,.int s25,.int s26,.int s27,.int p,.bool b]=some (Ag (GP (⟨s0,s1,s2,s3,s4,s5,s6,s7,s8,s9,s10,s11,s12,s13,s14,s15,s16,s17,s18,s19,s20,s21,s22,s23,s24,s25,s26,s27⟩:Inn) p b)):=by
 show KJ (std (Ew N) N) (xOf _)=_;generalize hres:(some (Ag (GP (⟨s0,s1,s2,s3,s4,s5,s6,s7,s8,s9,s10,s11,s12,s13,s14,s15,s16,s17,s18,s19,s20,s21,s22,s23,s24,s25,s26,s27⟩:Inn) p b)):Option (List PV))=RR;simp only [KJ,Sk,TO,RU,lq9,std,xOf,PXb,PXc,PXn,PXm,Nat.reduceAdd,Int.reduceBEq,He h,H1,ur h.bt hN];subst hres;simp only [GP];cases hp:inR p s14.length<;>try rfl
 rw [Dt hp h.bt];cases s12==0<;>cases s13==0<;>try rfl
 cases p==s12<;>cases p==s13<;>cases b<;>try rfl
 all_goals (simp only [PXb,PXc,PXn,PXm,Nat.reduceAdd,Int.reduceBEq];cases ((CA s14 s14.length).length:Int)==0<;>rfl)
theorem ACW (L:Rows) (p a b:Int):LE (LE L p a) p b=LE L p b:=by
 unfold LE;rw [List.set_set]
 rcases Nat.lt_or_ge (ix p) L.length with h | h
 ·have:AE (L.set (ix p) (BB (AE L (ix p)) 0 [.int a])) (ix p)=BB (AE L (ix p)) 0 [.int a]:=by
   unfold AE;simp [zzl,List.getElem?_set,h]
  rw [this];simp only [BB,List.set_set]
 ·rw [List.set_eq_of_length_le h,List.set_eq_of_length_le h]
theorem vy {N:Nat} {s18 s20:Bool} {p:Int} {b:Bool} (h:Fit s14 s16 s17 s19 s24) (hN:2097152<N):PK N [.int s0,.int s1,.int s2,.int s3,.int s4,.int s5,.int s6,.int s7,.int s8,.int s9,.int s10,.int s11,.int s12,.int s13,.rows s14,.int s15,.rows s16,.rows s17,.bool s18,.rows s19,.bool s20,.int s21,.int s22,.int s23,.rows s24,.int s25,.int s26,.int s27,.int p,.bool b]=some (Ag (GP (⟨s0,s1,s2,s3,s4,s5,s6,s7,s8,s9,s10,s11,s12,s13,s14,s15,s16,s17,s18,s19,s20,s21,s22,s23,s24,s25,s26,s27⟩:Inn) p b)):=by
 show PS (std (IM N) N) (xOf _)=_;generalize hres:(some (Ag (GP (⟨s0,s1,s2,s3,s4,s5,s6,s7,s8,s9,s10,s11,s12,s13,s14,s15,s16,s17,s18,s19,s20,s21,s22,s23,s24,s25,s26,s27⟩:Inn) p b)):Option (List PV))=RR;simp only [PS,YV,Zs,Ww,lq9,std,xOf,PXb,PXc,PXn,PXm,Nat.reduceAdd,Int.reduceBEq,CP h,QD,AB0 h.bt hN];subst hres;simp only [GP];rw [BEq.comm (a:=s12) (b:=p),BEq.comm (a:=s13) (b:=p)];cases hp:inR p s14.length<;>try rfl
 simp only [Dt hp h.bt,PXb,PXc,PXn,PXm,Nat.reduceAdd,Int.reduceBEq];have e:=ACW s14 p 3 2;cases s12==0<;>cases s13==0<;>try rfl
 cases p==s12<;>cases p==s13<;>cases b<;>try rfl
 all_goals (simp only [PXb,PXc,PXn,PXm,Nat.reduceAdd,Int.reduceBEq];first | rfl | (cases ((CA s14 s14.length).length:Int)==0<;>first | rfl | (rw [← e];rfl)) | (rw [← e];rfl))
def btw (a b c:Int):Bool:=iLe b a&&iLe a c
theorem EX (N:Nat) (a b c:Int):Ax N [.int a,.int b,.int c]=some [.bool (btw a b c)]:=by
 show some [PV.bool (cond (iLe b a) (iLe a c) false)]=_;rw [SN];rfl
theorem OA (N:Nat) (a b c:Int):C2 N [.int a,.int b,.int c]=some [.bool (btw a b c)]:=by
 show some [PV.bool (cond (iLe b a) (iLe a c) false)]=_;rw [SN];rfl
theorem ADE (N:Nat) (a b c:Int):VP N [.int a,.int b,.int c]=some [.bool (btw a b c)]:=by
 show some [PV.bool (cond (iLe b a) (iLe a c) false)]=_;rw [SN];rfl
theorem iL (N:Nat) (a b c:Int):Fh N [.int a,.int b,.int c]=some [.bool (btw a b c)]:=by
 show some [PV.bool (cond (iLe b a) (iLe a c) false)]=_;rw [SN];rfl
def G8 (x1 x2 x3 x4 x5 x6 x7 x9 x10 x11 x12:Int):Bool:=btw x1 2 11&&btw x2 1 2&&btw x3 0 90&&btw x4 4 8&&btw x5 0 90&&btw x6 1 5&&btw x7 1 5&&btw x9 0 200&&btw x10 0 1000&&btw x11 0 9&&btw x12 0 11
theorem nU (N : Nat) (x0 : ByteArray) (x1 x2 x3 x4 x5 x6 x7 x9 x10 x11 x12 : Int) (x8 : Bool) (x13 : Rows) :
   Gj N [.str x0,.int x1,.int x2,.int x3,.int x4,.int x5,.int x6,.int x7,.bool x8,.int x9,.int x10,.int x11,.int x12,.rows x13]=some [.bool (G8 x1 x2 x3 x4 x5 x6 x7 x9 x10 x11 x12)]:=by
  show KF (std (MI N) N) (xOf _)=_;have e:∀ ls,MI N 115 [] ls=C2 N ls:=fun ls=>rfl
  simp only [KF,lq9,std,xOf,e,OA,PXb,PXc,PXn,AB,G8]
def RX (s:ByteArray) (i:Nat):Bool := !(iLe 65 (Nj s i)&&iLe (Nj s i) 90)&&((i:Int)==0||((!(Nj s i==95) && !(Nj s i==45))&&(iLt (Nj s i) 48||iLt 57 (Nj s i))))
def Mp (s:ByteArray):Bool := !A3 (RX s) s.size 0&&(iLe 1 s.size&&iLe s.size 16)
theorem AFb (s:ByteArray):(GR s).length=s.size:=by
 simp only [GR,List.length_map,Array.length_toList];rfl
theorem AGK (s:ByteArray) (i:Nat) (h:i<s.size):pvI (AG (GR s) i 0)=Nj s i:=by
 unfold AG AE AA GR Nj;simp only [zzl,List.getElem?_map];have:i<s.data.toList.length:=by simpa using h
 rw [zzo this];simp [zzo this]
theorem wQ (N:Nat) (s:ByteArray) (hN:s.size<N) (hs:s.size≤1048576):MQ N [.str s]=some [.bool (Mp s)]:=by
 show SG (std (dq N) N) (xOf _)=_;simp only [SG,lq9,std,xOf,AFb,PXb,PXc,PXn,AB];refine AN (Cy (len:=s.size) (RX s) [.bool false] ?_ ?_ N hN) ?_
 ·intro self;simp only [PXb,PXc,PXn,AB,Ak]
 ·intro i self hi;simp only [PXb,PXc,PXn,AB,Int.toNat_natCast,AGK s i hi,Aa (show i≤1099511627776 by omega),Af hi,AO hi,RX]
 ·unfold Mp;cases A3 (RX s) s.size 0<;>rfl
theorem ADm (bs:ByteArray) (i:Nat) (r:List UInt8):(ByteArray.toList.loop bs i r).length=r.length+(bs.size - i):=by
 induction i,r using ByteArray.toList.loop.induct (bs:=bs) with
 | case1 i r h ih=>unfold ByteArray.toList.loop;rw [if_pos h,ih];simp;omega
 | case2 i r h=>unfold ByteArray.toList.loop;rw [if_neg h];simp;omega
theorem pw (bs:ByteArray):bs.toList.length=bs.size:=by
 unfold ByteArray.toList;rw [ADm];simp
theorem yz (s:ByteArray):(s.toList==(⟨#[]⟩:ByteArray).toList) = !iLe 1 (s.size:Int):=by
 have h:=pw s;have h0:=pw (⟨#[]⟩:ByteArray);rw [Bool.eq_iff_iff];simp only [beq_iff_eq,iLe,Bool.not_eq_true',decide_eq_false_iff_not];constructor
 ·intro e;rw [e,h0] at h;have:(⟨#[]⟩:ByteArray).size=0:=rfl;omega
 ·intro e;have e1:s.toList=[]:=List.eq_nil_of_length_eq_zero (by omega);have e2:(⟨#[]⟩:ByteArray).toList=[]:=List.eq_nil_of_length_eq_zero h0;rw [e1,e2]
theorem zC (N:Nat) (s:ByteArray) (hN:s.size<N) (hs:s.size≤1048576):QY N [.str s]=some [.bool (Mp s)]:=by
 show UY (std (fj N) N) (xOf _)=_;simp only [UY,lq9,std,xOf,PXb,PXc,PXn,AB,yz];have e:iLe 1 (s.size:Int)=false∨iLe 1 (s.size:Int)=true:=by cases iLe 1 (s.size:Int)<;>simp
 have e2:iLt 16 (s.size:Int) = !iLe (s.size:Int) 16:=by unfold iLt iLe;rw [Bool.eq_iff_iff];simp
 rw [e2];cases h:iLe 1 (s.size:Int)&&iLe (s.size:Int) 16 with
 | false =>
  have:(!iLe 1 (s.size:Int) || !iLe (s.size:Int) 16)=true:=by rw [← Bool.not_and,h];rfl
  simp only [this,cond_true,Mp,h,Bool.and_false]
 | true =>
  have:(!iLe 1 (s.size:Int) || !iLe (s.size:Int) 16)=false:=by rw [← Bool.not_and,h];rfl
  simp only [this,cond_false,Mp,h,Bool.and_true];refine AN (Cy (len:=s.size) (RX s) [.bool false] ?_ ?_ N hN) ?_
  ·intro self;simp only [PXb,PXc,PXn,AB,Ak]
  ·intro i self hi;simp only [PXb,PXc,AB,Int.toNat_natCast,Aa (show i≤1099511627776 by omega),Af hi,AO hi,RX];cases (iLe 65 (Nj s i)&&iLe (Nj s i) 90)<;>rfl
  ·cases A3 (RX s) s.size 0<;>rfl
theorem AAI {i len:Nat} (h:i<len) (hl:len≤1099511627776):(!iLt 0 (i:Int)||iIn (IntKind.i64.wrap ((i:Int) - 1)) (len:Int))=true:=by
 rw [Bv (by omega) (by omega)];simp only [iLt,iIn,Bool.or_eq_true,Bool.not_eq_true',decide_eq_false_iff_not,decide_eq_true_eq];omega
def ABs (L:Rows) (ov:Int) (i:Nat):Bool:=(iLt (atI L i 0) 1||iLt (atI L i 1) (atI L i 0)||iLt ov (atI L i 1)) || !btw (atI L i 2) 0 11
def vz (L:Rows) (i:Nat):Bool:=iLt 0 (i:Int)&&iLe (atI L i 0) (pvI (AG L (IntKind.i64.wrap ((i:Int) - 1)).toNat 1))
def qP (L:Rows) (ov:Int) (i:Nat):Option (List PV):=cond (ABs L ov i) (some [.int 2]) (cond (vz L i) (some [.int 8]) none)
def AC6:Option (List PV)→Int
 | none=>0
 | some r=>pvI (AA r 0)
def qO (L:Rows) (ov:Int):Int:=cond (iLt 8 (L.length:Int)) 9 (AC6 (Bc (qP L ov) L.length 0))
theorem ah (o:Option (List PV)):cond (pvI (AA (Nf o) 0)==((0:Nat):Int)) (some [PV.int (pvI (AA (Nf o) 1))]) (some [PV.int 0])=some [PV.int (AC6 o)]:=by
 cases o<;>rfl
theorem pN (N : Nat) (x0 : ByteArray) (x1 x2 x3 x4 x5 x6 x7 x9 x10 x11 x12 : Int) (x8 : Bool) (L : Rows) (hN : 2097152 < N) :
   Hg N [.str x0,.int x1,.int x2,.int x3,.int x4,.int x5,.int x6,.int x7,.bool x8,.int x9,.int x10,.int x11,.int x12,.rows L]=some [.int (qO L x3)]:=by
  show Lp (std (N8 N) N) (xOf _)=_;have e:∀ ls,N8 N 115 [] ls=C2 N ls:=fun ls=>rfl
  simp only [Lp,lq9,std,xOf,e,OA,PXb,PXc,PXn,AB,qO];cases h8:iLt 8 (L.length:Int) with
  | true=>rfl
  | false =>
    have hl:L.length≤8:=by simp [iLt] at h8;omega
    simp only [cond_false];refine AN (Cg (len:=L.length) (qP L x3) ?_ ?_ L.length 0 N (by omega) (by omega)) ?_
    · intro self;simp only [PXb,PXc,PXn,AB,Ak]
    · intro i self hi;simp only [PXb,PXc,PXn,AB,Int.toNat_natCast,Aa (show i≤1099511627776 by omega),Af hi,AO hi,OA,e,AAI hi (by omega)];simp only [qP,ABs,vz,atI];cases (iLt (pvI (AG L i 0)) 1||iLt (pvI (AG L i 1)) (pvI (AG L i 0))||iLt x3 (pvI (AG L i 1)) || !btw (pvI (AG L i 2)) 0 11) <;>
      cases (iLt 0 (i:Int)&&iLe (pvI (AG L i 0)) (pvI (AG L (IntKind.i64.wrap ((i:Int) - 1)).toNat 1)))<;>rfl
    · exact ah _
def EW (x0:ByteArray) (x1 x2 x3 x4 x5 x6 x7 x9 x10 x11 x12:Int) (L:Rows):Int :=
  cond (!Mp x0) 5 (cond (!G8 x1 x2 x3 x4 x5 x6 x7 x9 x10 x11 x12) 2
    (cond ((!(x10==0)&&x2==1)||((!(x5==0)||iLt 0 (L.length:Int))&&x3==0)) 1
      (cond (!(x5==0)&&iLt (IntKind.i64.wrap (x5 * x1)) x3) 13 (qO L x3))))
theorem ZW (N : Nat) (x0 : ByteArray) (x1 x2 x3 x4 x5 x6 x7 x9 x10 x11 x12 : Int) (x8 : Bool) (L : Rows) (hN : 2097152 < N) (hs : x0.size ≤ 1048576) :
   Ab N [.str x0,.int x1,.int x2,.int x3,.int x4,.int x5,.int x6,.int x7,.bool x8,.int x9,.int x10,.int x11,.int x12,.rows L]=some [.int (EW x0 x1 x2 x3 x4 x5 x6 x7 x9 x10 x11 x12 L)]:=by
  show NJ (std (G0 N) N) (xOf _)=_;have e:∀ ls,G0 N 92 [] ls=MQ N ls:=fun ls=>rfl
  have e2:∀ ls,G0 N 93 [] ls=Gj N ls:=fun ls=>rfl
  have e3:∀ ls,G0 N 94 [] ls=Hg N ls:=fun ls=>rfl
  simp only [NJ,lq9,std,xOf,e,e2,e3,wQ N x0 (by omega) hs,nU,pN N _ _ _ _ _ _ _ _ _ _ _ _ _ _ hN,PXb,PXc,AB,EW];cases Mp x0<;>cases G8 x1 x2 x3 x4 x5 x6 x7 x9 x10 x11 x12<;>try rfl
  simp only [PXb,PXc,AB,Bool.not_true];cases (!(x10==0)&&x2==1)<;>cases ((!(x5==0)||iLt 0 (L.length:Int))&&x3==0)<;>try rfl
  cases (!(x5==0)&&iLt (IntKind.i64.wrap (x5 * x1)) x3)<;>rfl
theorem gJ (N : Nat) (x0 : ByteArray) (x1 x2 x3 x4 x5 x6 x7 x9 x10 x11 x12 : Int) (x8 : Bool) (L : Rows) (hN : 2097152 < N) (hs : x0.size ≤ 1048576) :
   Am N [.str x0,.int x1,.int x2,.int x3,.int x4,.int x5,.int x6,.int x7,.bool x8,.int x9,.int x10,.int x11,.int x12,.rows L]=some [.int (EW x0 x1 x2 x3 x4 x5 x6 x7 x9 x10 x11 x12 L)]:=by
  show SC (std (NG N) N) (xOf _)=_;have e:∀ ls,NG N 97 [] ls=QY N ls:=fun ls=>rfl
  have e2:∀ ls,NG N 98 [] ls=VP N ls:=fun ls=>rfl
  simp only [SC,lq9,std,xOf,e,e2,zC N x0 (by omega) hs,ADE,PXb,PXc,PXn,AB];simp only [← Bool.not_and,EW];rw [show (btw x1 2 11&&btw x2 1 2&&btw x3 0 90&&btw x4 4 8&&btw x5 0 90&&btw x6 1 5&&btw x7 1 5&&btw x9 0 200&&btw x10 0 1000&&btw x11 0 9&&btw x12 0 11)=G8 x1 x2 x3 x4 x5 x6 x7 x9 x10 x11 x12 from rfl];rw [Bool.and_comm (x3==0)];cases Mp x0<;>cases G8 x1 x2 x3 x4 x5 x6 x7 x9 x10 x11 x12<;>try rfl
  cases (!(x10==0)&&x2==1)||((!(x5==0)||iLt 0 (L.length:Int))&&x3==0)<;>try rfl
  cases (!(x5==0)&&iLt (IntKind.i64.wrap (x5 * x1)) x3)<;>try rfl
  simp only [Bool.not_true,cond_false,qO];cases h8:iLt 8 (L.length:Int) with
  | true=>rfl
  | false =>
    have hl:L.length≤8:=by simp [iLt] at h8;omega
    simp only [cond_false];refine AN (Cg (len:=L.length) (qP L x3) ?_ ?_ L.length 0 N (by omega) (by omega)) ?_
    · intro self;simp only [PXb,PXc,PXn,AB,Ak]
    · intro i self hi;simp only [PXb,PXc,PXn,AB,Int.toNat_natCast,Aa (show i≤1099511627776 by omega),Af hi,AO hi,AAI hi (by omega)];simp only [qP,ABs,vz,atI];cases (iLt (pvI (AG L i 0)) 1||iLt (pvI (AG L i 1)) (pvI (AG L i 0))||iLt x3 (pvI (AG L i 1)) || !btw (pvI (AG L i 2)) 0 11) <;>
      cases (iLt 0 (i:Int)&&iLe (pvI (AG L i 0)) (pvI (AG L (IntKind.i64.wrap ((i:Int) - 1)).toNat 1)))<;>rfl
    · exact ah _
theorem fK (N:Nat) (L:Rows) (v:Int) (hN:L.length<N) (hl:L.length≤2097152):EG N [.rows L,.int v]=some [.int (TZ (fun j=>v==atI L j 0) L.length)]:=by
 show Ge (std (O7 N) N) (xOf _)=_;simp only [Ge,lq9,std,xOf,PXb,PXc,PXn,AB];refine AN (Cg (len:=L.length) (HB fun j=>v==atI L j 0) ?_ ?_ L.length 0 N (by omega) (by omega)) ?_
 ·intro self;simp only [PXb,PXc,PXn,AB,Ak]
 ·intro i self hi;simp only [PXb,PXc,PXn,AB,Aa (show i≤1099511627776 by omega),Af hi,AO hi,HB,BJ];cases v==atI L i 0<;>rfl
 ·unfold TZ;cases Bc (HB fun j=>v==atI L j 0) L.length 0<;>rfl
def H6 (L:Rows) (k:Nat) (v:Int):Bool:=A3 (fun j=>v==atI L j 0) k 0
theorem MR (N:Nat) (L:Rows) (v:Int) (hN:L.length<N) (hl:L.length≤2097152):A0 N [.rows L,.int v]=some [.bool (H6 L L.length v)]:=by
 show Eb (std (GD N) N) (xOf _)=_;have e:∀ ls,GD N 206 [] ls=EG N ls:=fun ls=>rfl
 simp only [Eb,lq9,std,xOf,PXb,PXc,PXn,AB,e,fK N L v hN hl,L7,H6]
theorem ADk (L:Rows) (i:Nat) (v:Int) (h:i≤L.length):H6 (L.take i) (L.take i).length v=H6 L i v:=by
 rw [List.length_take,Nat.min_eq_left h];exact pK i 0 (fun j _ hj=>by rw [yJ (by omega)])
def LX (L:Rows) (n:Int) (i:Nat):Bool := !btw (atI L i 0) 1 n||H6 L i (atI L i 0)
def Gr (L:Rows) (n:Int):Bool := !A3 (LX L n) L.length 0
theorem P7 (N:Nat) (L:Rows) (n:Int) (hN:L.length<N) (hl:L.length≤2097152):D1 N [.rows L,.int n]=some [.bool (Gr L n)]:=by
 show F6 (std (Ef N) N) (xOf _)=_;have e:∀ ls,Ef N 164 [] ls=Ax N ls:=fun ls=>rfl
 have e2:∀ ls,Ef N 185 [] ls=A0 N ls:=fun ls=>rfl
 simp only [F6,lq9,std,xOf,PXb,PXc,PXn,AB];refine AN (Cy (len:=L.length) (LX L n) [.bool false] ?_ ?_ N hN) ?_
 ·intro self;simp only [PXb,PXc,PXn,AB,Ak]
 ·intro i self hi;have h1:(L.take i).length≤L.length:=List.length_take_le' i L;simp only [PXb,PXc,PXn,AB,Aa (show i≤1099511627776 by omega),Af hi,AO hi,e,e2,EX,AEg (Nat.le_of_lt hi),Int.toNat_zero,List.drop_zero,MR N (L.take i) _ (by omega) (by omega),ADk L i _ (by omega),BJ,LX];cases btw (atI L i 0) 1 n<;>cases H6 L i (atI L i 0)<;>rfl
 ·unfold Gr;cases A3 (LX L n) L.length 0<;>rfl
theorem oL (N:Nat) (L:Rows) (n:Int) (hN:L.length<N) (hl:L.length≤2097152):Sd N [.rows L,.int n]=some [.bool (Gr L n)]:=by
 show X2 (std (Yp N) N) (xOf _)=_;have e:∀ ls,Yp N 179 [] ls=Fh N ls:=fun ls=>rfl
 simp only [X2,lq9,std,xOf,PXb,PXc,PXn,AB];refine AN (Cy (len:=L.length) (LX L n) [.bool false] ?_ ?_ N hN) ?_
 ·intro self;simp only [PXb,PXc,PXn,AB,Ak]
 ·intro i self hi;have h1:(L.take i).length=i:=by rw [List.length_take];omega
  simp only [PXb,PXc,PXn,AB,Aa (show i≤1099511627776 by omega),Af hi,AO hi,e,iL,AEg (Nat.le_of_lt hi),Int.toNat_zero,List.drop_zero,BJ,LX,h1];cases btw (atI L i 0) 1 n with
  | false=>rfl
  | true =>
   simp only [PXb,PXc,PXn,AB];refine AN (bT (len:=i) (fun j=>[.int (j:Int)]) (fun j=>atI L i 0==atI L j 0) [.int 0,.bool false] [.int 1,.int (i:Int)] ?_ ?_ N (by omega)) ?_
   ·intro self;simp only [PXb,PXc,PXn,AB,Ak]
   ·intro j self hj;simp only [PXb,PXc,PXn,AB,Aa (show j≤1099511627776 by omega),Af hj,AO hj,yJ hj];rfl
   ·unfold H6;cases A3 (fun j=>atI L i 0==atI L j 0) i 0<;>rfl
 ·unfold Gr;cases A3 (LX L n) L.length 0<;>rfl
theorem jj (N:Nat) (v:Int):DM N [.int v]=some [.bool (!(v==0))]:=rfl
def lsI (L14 L16 L17 L19 L24:Rows) (b18 b20:Bool) (x0 x1 x2 x3 x4 x5 x6 x7 x8 x9 x10 x11 x12 x13 x15 x21 x22 x23 x25 x26 x27:Int):List PV :=
 [.int x0,.int x1,.int x2,.int x3,.int x4,.int x5,.int x6,.int x7,.int x8,.int x9,.int x10,.int x11,.int x12,.int x13,.rows L14,.int x15,.rows L16,.rows L17,.bool b18,.rows L19,.bool b20,.int x21,.int x22,.int x23,.rows L24,.int x25,.int x26,.int x27]
section
variable (N:Nat) (L14 L16 L17 L19 L24:Rows) (b18 b20:Bool) (x0 x1 x2 x3 x4 x5 x6 x7 x8 x9 x10 x11 x12 x13 x15 x21 x22 x23 x25 x26 x27:Int)
theorem px (hN:L14.length<N) (hl:L14.length≤2097152):CH N (lsI L14 L16 L17 L19 L24 b18 b20 x0 x1 x2 x3 x4 x5 x6 x7 x8 x9 x10 x11 x12 x13 x15 x21 x22 x23 x25 x26 x27)=some [.bool (B2 L14)]:=by
 show FU (std (FZ N) N) (xOf (lsI ..))=_;have e:∀ ls,FZ N 262 [] ls=DM N ls:=fun ls=>rfl
 simp only [FU,lq9,std,xOf,lsI,PXb,PXc,PXn,AB];rw [show B2 L14=iLe 0 (TZ (fun i => !(atI L14 i 0==0)) L14.length) from (L7 _ _).symm];rw [Option.bind_assoc];refine AN (Cg (len:=L14.length) (HB fun i => !(atI L14 i 0==0)) ?_ ?_ L14.length 0 N (by omega) (by omega)) ?_
 ·intro self;simp only [PXb,PXc,PXn,AB,Ak]
 ·intro i self hi;simp only [PXb,PXc,PXn,AB,Aa (show i≤1099511627776 by omega),Af hi,AO hi,HB,BJ,e,jj];cases atI L14 i 0==0<;>rfl
 ·unfold TZ;cases Bc (HB fun i => !(atI L14 i 0==0)) L14.length 0<;>rfl
theorem gV (hN:L14.length<N) (hl:L14.length≤2097152):Bq N (lsI L14 L16 L17 L19 L24 b18 b20 x0 x1 x2 x3 x4 x5 x6 x7 x8 x9 x10 x11 x12 x13 x15 x21 x22 x23 x25 x26 x27)=some [.bool (B2 L14)]:=by
 show Jm (std (Te N) N) (xOf (lsI ..))=_;simp only [Jm,lq9,std,xOf,lsI,PXb,PXc,PXn,AB];refine AN (Cy (len:=L14.length) (fun i => !(atI L14 i 0==0)) [.bool true] ?_ ?_ N hN) ?_
 ·intro self;simp only [PXb,PXc,PXn,AB,Ak]
 ·intro i self hi;simp only [PXb,PXc,PXn,AB,Aa (show i≤1099511627776 by omega),Af hi,AO hi,BJ]
 ·unfold B2;cases A3 (fun i => !(atI L14 i 0==0)) L14.length 0<;>rfl
theorem ma (hN:L14.length<N) (hl:L14.length≤2097152):BW N (lsI L14 L16 L17 L19 L24 b18 b20 x0 x1 x2 x3 x4 x5 x6 x7 x8 x9 x10 x11 x12 x13 x15 x21 x22 x23 x25 x26 x27)=some [.bool (Df L14 x12 x13)]:=by
 show Ed (std (E1 N) N) (xOf (lsI ..))=_;have e:∀ ls,E1 N 241 [] ls=CH N ls:=fun ls=>rfl
 have:=px N L14 L16 L17 L19 L24 b18 b20 x0 x1 x2 x3 x4 x5 x6 x7 x8 x9 x10 x11 x12 x13 x15 x21 x22 x23 x25 x26 x27 hN hl;simp only [lsI] at this;simp only [Ed,lq9,std,xOf,lsI,PXb,PXc,PXn,AB,e,this,Df]
theorem uQ (hN:L14.length<N) (hl:L14.length≤2097152):Cj N (lsI L14 L16 L17 L19 L24 b18 b20 x0 x1 x2 x3 x4 x5 x6 x7 x8 x9 x10 x11 x12 x13 x15 x21 x22 x23 x25 x26 x27)=some [.bool (Df L14 x12 x13)]:=by
 show H2 (std (Hz N) N) (xOf (lsI ..))=_;have e:∀ ls,Hz N 182 [] ls=Bq N ls:=fun ls=>rfl
 have:=gV N L14 L16 L17 L19 L24 b18 b20 x0 x1 x2 x3 x4 x5 x6 x7 x8 x9 x10 x11 x12 x13 x15 x21 x22 x23 x25 x26 x27 hN hl;simp only [lsI] at this;simp only [H2,lq9,std,xOf,lsI,PXb,PXc,PXn,AB,e,this,Df]
theorem sL (hN:L14.length<N) (hl:L14.length≤2097152):DH N (lsI L14 L16 L17 L19 L24 b18 b20 x0 x1 x2 x3 x4 x5 x6 x7 x8 x9 x10 x11 x12 x13 x15 x21 x22 x23 x25 x26 x27)=some [.rows (CA L14 L14.length)]:=by
 show GF (std (PT N) N) (xOf (lsI ..))=_;simp only [GF,lq9,std,xOf,lsI,PXb,PXc,PXn,AB];refine AN (CV (len:=L14.length) (fun i=>[.rows (CA L14 i),.int (i:Int)]) [.rows (CA L14 L14.length)] ?_ ?_ N hN) rfl
 ·intro self;simp only [PXb,PXc,PXn,AB,Ak]
 ·intro i self hi;have h2:(CA L14 i++[[PV.int ((i:Int)+1)]]).length≤4194304:=by have:=WI L14 i;simp;omega
  simp only [PXb,PXc,PXn,AB,Aa (show i≤1099511627776 by omega),Af hi,AO hi,BJ,CA,DL h2 (show 8≤4096 by omega)];cases (atI L14 i 0==0||atI L14 i 0==3)<;>rfl
theorem zU (hN:L14.length<N) (hl:L14.length≤2097152):FF N (lsI L14 L16 L17 L19 L24 b18 b20 x0 x1 x2 x3 x4 x5 x6 x7 x8 x9 x10 x11 x12 x13 x15 x21 x22 x23 x25 x26 x27)=some [.rows (CA L14 L14.length)]:=by
 show LY (std (VS N) N) (xOf (lsI ..))=_;simp only [LY,lq9,std,xOf,lsI,PXb,PXc,PXn,AB];refine AN (CV (len:=L14.length) (fun i=>[.rows (CA L14 i),.int (i:Int)]) [.rows (CA L14 L14.length)] ?_ ?_ N hN) rfl
 ·intro self;simp only [PXb,PXc,PXn,AB,Ak]
 ·intro i self hi;have h2:(CA L14 i++[[PV.int ((i:Int)+1)]]).length≤4194304:=by have:=WI L14 i;simp;omega
  simp only [PXb,PXc,PXn,AB,Aa (show i≤1099511627776 by omega),Af hi,AO hi,BJ,CA,DL h2 (show 8≤4096 by omega)];cases (atI L14 i 0==0||atI L14 i 0==3)<;>rfl
end
theorem aX (N:Nat) (v:Int):Dw N [.int v]=some [.bool (!btw v 0 1000000000)]:=by
 show Fx (std (Hk N) N) (xOf _)=_;have e:∀ ls,Hk N 164 [] ls=Ax N ls:=fun ls=>rfl
 simp only [Fx,lq9,std,xOf,PXb,PXc,PXn,AB,e,EX]
def pIs (L:Rows) (v:Int) (i:Nat):Bool:=atI L i 0==v
def cZ (s n:Int) (i:Nat):Bool:=s==(i:Int)+1||n==(i:Int)+1
def UR (L:Rows) (s n:Int) (i:Nat):Bool:=iLt 3 (atI L i 0)||(pIs L 1 i && !cZ s n i)
def Wz (L:Rows) (s n:Int) (i:Nat):Bool:=iLt 3 (atI L i 0) || !(pIs L 1 i==cZ s n i)
def gl (L:Rows):Int:=Cf (pIs L 2) L.length
def ins (L:Rows):Int:=Cf (pIs L 1) L.length
def two (s n:Int):Int:=cond (!(n==0)) (IntKind.i64.wrap (cond (!(s==0)) (IntKind.i64.wrap (0+1)) 0+1)) (cond (!(s==0)) (IntKind.i64.wrap (0+1)) 0)
def vY (L:Rows) (s n wk k:Int):Bool :=
 !A3 (UR L s n) L.length 0&&((btw s 0 k&&btw n 0 k)&&(!(s==n && !(s==0))&&((two s n==ins L&&(!B2 L||iLt 0 (two s n)))&&gl L==wk)))
def Ud (L:Rows) (s n wk:Int):Bool :=
 !A3 (Wz L s n) L.length 0&&(!((B2 L&&iLt (ins L) 1)||(!(s==0)&&s==n))&&wk==gl L)
def AB7 (L:Rows):Nat→Bool
 | 0=>false
 | i+1=>AB7 L i || !(atI L i 0==0)
theorem AAN (L:Rows):∀ i,AB7 L i=A3 (fun j => !(atI L j 0==0)) i 0
 | 0=>rfl
 | i+1=>by rw [fN,Nat.zero_add,← AAN L i];rfl
section
variable (N:Nat) (L14 L16 L17 L19 L24:Rows) (b18 b20:Bool) (x0 x1 x2 x3 x4 x5 x6 x7 x8 x9 x10 x11 x12 x13 x15 x21 x22 x23 x25 x26 x27:Int)
theorem gr (k:Int) (hN:L14.length<N) (hl:L14.length≤2097152):E5 N (lsI L14 L16 L17 L19 L24 b18 b20 x0 x1 x2 x3 x4 x5 x6 x7 x8 x9 x10 x11 x12 x13 x15 x21 x22 x23 x25 x26 x27++[.int k])=some [.bool (vY L14 x12 x13 x4 k)]:=by
  simp only [lsI,List.cons_append,List.nil_append];show HU (std (Jw N) N) (xOf _)=_;have e:∀ ls,Jw N 164 [] ls=Ax N ls:=fun ls=>rfl
  simp only [HU,lq9,std,xOf,lsI,PXb,PXc,PXn,AB];refine AN (bT (len:=L14.length) (fun i=>[.int (Cf (pIs L14 2) i),.int (Cf (pIs L14 1) i),.bool (AB7 L14 i),.int (i:Int)])
    (UR L14 x12 x13) [.int 0,.bool false] [.int 1,.int (gl L14),.int (ins L14),.bool (B2 L14)] ?_ ?_ N hN) ?_
  · intro self;simp only [PXb,PXc,PXn,AB,Ak,AAN];rfl
  · intro i self hi;simp only [PXb,PXc,AB,Aa (show i≤1099511627776 by omega),Af hi,AO hi,BJ,cU (pIs L14 2) (show i≤1099511627776 by omega),cU (pIs L14 1) (show i≤1099511627776 by omega)];unfold UR pIs cZ;simp only [Cf,AB7];cases h3:iLt 3 (atI L14 i 0) with
    | true=>rfl
    | false =>
      cases h1:atI L14 i 0==1 with
      | true =>
        rw [rZ h1];cases x12==(i:Int)+1<;>cases x13==(i:Int)+1<;>rfl
      | false=>cases h2:atI L14 i 0==2<;>rfl
  · unfold vY;simp only [e,EX];cases A3 (UR L14 x12 x13) L14.length 0 with
    | true=>rfl
    | false =>
      simp only [PXb,PXc,PXn,AB];unfold two;cases btw x12 0 k<;>cases btw x13 0 k<;>try rfl
      cases x12==0<;>cases x13==0<;>cases x12==x13<;>try rfl
theorem rm (hN:L14.length<N) (hl:L14.length≤2097152):JM N (lsI L14 L16 L17 L19 L24 b18 b20 x0 x1 x2 x3 x4 x5 x6 x7 x8 x9 x10 x11 x12 x13 x15 x21 x22 x23 x25 x26 x27)=some [.bool (Ud L14 x12 x13 x4)]:=by
  show NA (std (QX N) N) (xOf (lsI ..))=_;have e:∀ ls,QX N 182 [] ls=Bq N ls:=fun ls=>rfl
  have h70:=gV N L14 L16 L17 L19 L24 b18 b20 x0 x1 x2 x3 x4 x5 x6 x7 x8 x9 x10 x11 x12 x13 x15 x21 x22 x23 x25 x26 x27 hN hl;simp only [lsI] at h70;simp only [NA,lq9,std,xOf,lsI,PXb,PXc,PXn,AB,e,h70];refine AN (bT (len:=L14.length) (fun i=>[.int (Cf (pIs L14 2) i),.int (Cf (pIs L14 1) i),.int (i:Int)])
    (Wz L14 x12 x13) [.int 0,.bool false] [.int 1,.int (gl L14),.int (ins L14)] ?_ ?_ N hN) ?_
  · intro self;simp only [PXb,PXc,PXn,AB,Ak];rfl
  · intro i self hi;simp only [PXb,PXc,AB,Aa (show i≤1099511627776 by omega),Af hi,AO hi,BJ,cU (pIs L14 2) (show i≤1099511627776 by omega),cU (pIs L14 1) (show i≤1099511627776 by omega)];unfold Wz pIs cZ;simp only [Cf];cases h3:iLt 3 (atI L14 i 0) with
    | true=>rfl
    | false =>
      cases h1:atI L14 i 0==1 with
      | true =>
        rw [rZ h1];cases x12==(i:Int)+1<;>cases x13==(i:Int)+1<;>rfl
      | false=>cases h2:atI L14 i 0==2<;>cases x12==(i:Int)+1<;>cases x13==(i:Int)+1<;>rfl
  · unfold Ud;cases A3 (Wz L14 x12 x13) L14.length 0 with
    | true=>rfl
    | false =>
      simp only [PXb,PXc,PXn,AB];cases B2 L14<;>cases h:iLt (ins L14) 1<;>cases x12==0<;>cases x12==x13<;>first | rfl | (simp [Nf,AA,h])
end
theorem AFQ (s n:Int):two s n=cond (!(s==0)) 1 0+cond (!(n==0)) 1 0:=by
 unfold two;cases s==0<;>cases n==0<;>rfl
theorem AEs {s n:Int} {len:Nat} (h1:0≤s∧s≤(len:Int)) (h2:0≤n∧n≤(len:Int)) (hd:(s==n && !(s==0))=false):two s n=Cf (cZ s n) len:=by
 have hs:iLe s (len:Int)=true:=by simp only [iLe,decide_eq_true_eq];omega
 have hn:iLe n (len:Int)=true:=by simp only [iLe,decide_eq_true_eq];omega
 unfold cZ;rw [ADD (p:=fun i=>s==(i:Int)+1) (q:=fun i=>n==(i:Int)+1) len (fun j _ hp=>by
  have e1:s=(j:Int)+1:=by simpa using hp
  show (n==(j:Int)+1)=false;rw [beq_eq_false_iff_ne];intro e2;have e3:(s==n)=true:=by rw [beq_iff_eq];omega
  have e4:(s==0)=false:=by rw [beq_eq_false_iff_ne];omega
  rw [e3,e4] at hd;cases hd),vm s len h1.1,vm n len h2.1,hs,hn,Bool.and_true,Bool.and_true,AFQ]
theorem AFX (x:Int):iLt 0 x = !iLt x 1:=by
 unfold iLt;rw [Bool.eq_iff_iff];simp only [decide_eq_true_eq,Bool.not_eq_true',decide_eq_false_iff_not];omega
theorem ADi {L : Rows} {s n : Int} (h1 : 0 ≤ s ∧ s ≤ (L.length : Int)) (h2 : 0 ≤ n ∧ n ≤ (L.length : Int)) (hd : (s == n && !(s == 0)) = false) :
    (!A3 (UR L s n) L.length 0&&two s n==ins L) = !A3 (Wz L s n) L.length 0:=by
  have h2c:=AEs h1 h2 hd;rw [Bool.eq_iff_iff];simp only [zzk,Bool.not_eq_true',L1,beq_iff_eq];constructor
  · intro ⟨ha,hb⟩ j _ hj;have hm:∀ j,j<L.length→pIs L 1 j=true→cZ s n j=true:=fun j hj hp=>by
      have:=ha j (Nat.zero_le _) (by omega);unfold UR at this;rw [hp] at this;simp only [Bool.or_eq_false_iff,Bool.true_and,Bool.not_eq_false'] at this;exact this.2
    have he:=ACG L.length hm (by rw [← h2c,hb];rfl) j (by omega);have:=ha j (Nat.zero_le _) hj;unfold UR at this;unfold Wz;rw [Bool.or_eq_false_iff] at this ⊢;exact ⟨this.1,by rw [he];simp⟩
  · intro ha;have hm:∀ j,j<L.length→pIs L 1 j=cZ s n j:=fun j hj=>by
      have:=ha j (Nat.zero_le _) (by omega);unfold Wz at this;rw [Bool.or_eq_false_iff] at this;simpa using this.2
    refine ⟨fun j h0 hj=>?_,?_⟩
    · have:=ha j h0 hj;unfold Wz at this;unfold UR;rw [Bool.or_eq_false_iff] at this ⊢;refine ⟨this.1,?_⟩;rw [hm j (by omega)];cases cZ s n j<;>rfl
    · rw [h2c];exact (tc L.length hm).symm
theorem AF9 (L:Rows) (s n wk k:Int) (hk:(L.length:Int)=k):vY L s n wk k=(btw s 0 k&&btw n 0 k&&Ud L s n wk):=by
 subst hk;unfold vY Ud;cases hs:btw s 0 (L.length:Int) with
 | false=>simp only [Bool.false_and,Bool.and_false]
 | true =>
  cases hn:btw n 0 (L.length:Int) with
  | false=>simp only [Bool.false_and,Bool.and_false]
  | true =>
   have h1:0≤s∧s≤(L.length:Int):=by simpa [btw,iLe] using hs
   have h2:0≤n∧n≤(L.length:Int):=by simpa [btw,iLe] using hn
   simp only [Bool.true_and];cases hd:(s==n && !(s==0)) with
   | true =>
    have:(!(s==0)&&s==n)=true:=by rw [Bool.and_comm];exact hd
    rw [this];simp only [Bool.or_true,Bool.not_true,Bool.false_and,Bool.and_false]
   | false =>
    have:(!(s==0)&&s==n)=false:=by rw [Bool.and_comm];exact hd
    rw [this,← ADi h1 h2 hd];simp only [Bool.or_false,Bool.not_false,Bool.true_and];rw [show (wk==gl L)=(gl L==wk) from BEq.comm];cases hA:A3 (UR L s n) L.length 0 with
    | true=>rfl
    | false =>
     cases hB:two s n==ins L with
     | false=>rfl
     | true =>
      rw [beq_iff_eq.1 hB,AFX];simp only [Bool.true_and,Bool.not_false,Bool.not_and]
def Dg (v:Int):Bool := !btw v 0 1000000000
def bh (x1 x3 x5 x6 x7 x8 x9 x10 x21 x23 x25 x26:Int):Rows:=[[.int x1],[.int x3],[.int x5],[.int x6],[.int x7],[.int x8],[.int x9],[.int x10],[.int x21],[.int x23],[.int x25],[.int x26]]
section
variable (N:Nat) (L14 L16 L17 L19 L24:Rows) (b18 b20:Bool) (x0 x1 x2 x3 x4 x5 x6 x7 x8 x9 x10 x11 x12 x13 x15 x21 x22 x23 x25 x26 x27:Int)
theorem fk (hN:2097152<N) (hl:L19.length≤1048576):Er N (lsI L14 L16 L17 L19 L24 b18 b20 x0 x1 x2 x3 x4 x5 x6 x7 x8 x9 x10 x11 x12 x13 x15 x21 x22 x23 x25 x26 x27)=some [.bool (!(MP Dg (bh x1 x3 x5 x6 x7 x8 x9 x10 x21 x23 x25 x26)||MP Dg L19))]:=by
 show HV (std (Js N) N) (xOf (lsI ..))=_;have e:∀ ls,Js N 186 [] ls=Dw N ls:=fun ls=>rfl
 rw [← xZ];simp only [HV,lq9,std,xOf,lsI,PXb,PXc,PXn,AB,bh];generalize hM:([PV.int x1]::[PV.int x3]::[PV.int x5]::[PV.int x6]::[PV.int x7]::[PV.int x8]::[PV.int x9]::[PV.int x10]::[PV.int x21]::[PV.int x23]::[PV.int x25]::[PV.int x26]::L19:Rows)=M;have hM2:M.length≤2097152:=by rw [← hM];simp only [List.length_cons];omega
 rw [DL (n:=M.length) (by omega) (by omega)];simp only [PXb,PXc,PXn,AB];rw [Option.bind_assoc];refine AN (Cg (len:=M.length) (HB fun i=>Dg (atI M i 0)) ?_ ?_ M.length 0 N (by omega) (by omega)) ?_
 ·intro self;simp only [PXb,PXc,PXn,AB,Ak]
 ·intro i self hi;simp only [PXb,PXc,PXn,AB,Aa (show i≤1099511627776 by omega),Af hi,AO hi,HB,BJ,e,aX,Dg];cases btw (atI M i 0) 0 1000000000<;>rfl
 ·unfold MP;rw [← L7];unfold TZ;cases Bc (HB fun i=>Dg (atI M i 0)) M.length 0<;>rfl
end
def OP (a3 x2:Int):Bool:=cond (a3==0) (x2==0) (btw x2 1 a3)
def Mf (s:ByteArray) (a1 a2 a3 a4 a5 a6 a7 a9 a10 a11 a12:Int) (La L14 L16 L17 L19 L24:Rows) (x0 x1 x2 x3 x4 x5 x6 x7 x8 x9 x10 x11 x12 x13 x15 x21 x22 x23 x25 x26 x27:Int):Bool :=
  EW s a1 a2 a3 a4 a5 a6 a7 a9 a10 a11 a12 La==0&&(btw x0 1 2&&((L14.length:Int)==a1&&((L19.length:Int)==a1&&((L24.length:Int)==a1&&(!iLt 5 x27 &&
    (btw x12 0 a1&&(btw x13 0 a1&&(Ud L14 x12 x13 x4&&(btw x15 0 a1&&(btw x22 0 a1&&(Gr L16 a1&&(Gr L17 a1&&(OP a3 x2&&(btw x11 0 (IntKind.i64.wrap (a4 - 1)) &&
      (!MP Dg (bh x1 x3 x5 x6 x7 x8 x9 x10 x21 x23 x25 x26) && !MP Dg L19)))))))))))))))
theorem ABJ {s:ByteArray} {a1 a2 a3 a4 a5 a6 a7 a9 a10 a11 a12:Int} {La:Rows} (h:(EW s a1 a2 a3 a4 a5 a6 a7 a9 a10 a11 a12 La==0)=true):0≤a3:=by
 unfold EW at h;cases hn:Mp s with
 | false=>rw [hn] at h;exact absurd h Bool.false_ne_true
 | true =>
  cases hr:G8 a1 a2 a3 a4 a5 a6 a7 a9 a10 a11 a12 with
  | false=>rw [hn,hr] at h;exact absurd h Bool.false_ne_true
  | true =>
   unfold G8 at hr;simp only [zzk] at hr;have:=hr.1.1.1.1.1.1.1.1.2;unfold btw iLe at this;simp only [zzk,decide_eq_true_eq] at this;omega
theorem rN {a:Int} (h:0≤a):iLt 0 a = !(a==0):=by
 unfold iLt;rw [Bool.eq_iff_iff];simp only [decide_eq_true_eq,Bool.not_eq_true',beq_eq_false_iff_ne];omega
section
variable (N:Nat) (s:ByteArray) (a1 a2 a3 a4 a5 a6 a7 a9 a10 a11 a12:Int) (a8:Bool) (La:Rows) (L14 L16 L17 L19 L24:Rows) (b18 b20:Bool) (x0 x1 x2 x3 x4 x5 x6 x7 x8 x9 x10 x11 x12 x13 x15 x21 x22 x23 x25 x26 x27:Int)
theorem WY (hN:2097152<N) (hs:s.size≤1048576) (h14:L14.length≤1048576) (h16:L16.length≤1048576) (h17:L17.length≤1048576) (h19:L19.length≤1048576):BX N ([.str s,.int a1,.int a2,.int a3,.int a4,.int a5,.int a6,.int a7,.bool a8,.int a9,.int a10,.int a11,.int a12,.rows La]++lsI L14 L16 L17 L19 L24 b18 b20 x0 x1 x2 x3 x4 x5 x6 x7 x8 x9 x10 x11 x12 x13 x15 x21 x22 x23 x25 x26 x27)=some [.bool (Mf s a1 a2 a3 a4 a5 a6 a7 a9 a10 a11 a12 La L14 L16 L17 L19 L24 x0 x1 x2 x3 x4 x5 x6 x7 x8 x9 x10 x11 x12 x13 x15 x21 x22 x23 x25 x26 x27)]:=by
 simp only [lsI,List.cons_append,List.nil_append];show KG (std (Cw N) N) (xOf _)=_;have e1:∀ ls,Cw N 70 [] ls=Ab N ls:=fun ls=>rfl
 have e2:∀ ls,Cw N 164 [] ls=Ax N ls:=fun ls=>rfl
 have e3:∀ ls,Cw N 165 [] ls=E5 N ls:=fun ls=>rfl
 have e4:∀ ls,Cw N 166 [] ls=D1 N ls:=fun ls=>rfl
 have e5:∀ ls,Cw N 167 [] ls=Er N ls:=fun ls=>rfl
 have l54:=gr N L14 L16 L17 L19 L24 b18 b20 x0 x1 x2 x3 x4 x5 x6 x7 x8 x9 x10 x11 x12 x13 x15 x21 x22 x23 x25 x26 x27 a1 (by omega) (by omega);have l56:=fk N L14 L16 L17 L19 L24 b18 b20 x0 x1 x2 x3 x4 x5 x6 x7 x8 x9 x10 x11 x12 x13 x15 x21 x22 x23 x25 x26 x27 (by omega) (by omega);simp only [lsI,List.cons_append,List.nil_append] at l54 l56;simp only [KG,lq9,std,xOf,PXb,PXc,PXn,AB,e1,e2,e3,e4,e5,ZW N s _ _ _ _ _ _ _ _ _ _ _ _ _ hN hs,EX,l54,l56,P7 N L16 _ (by omega) (by omega),P7 N L17 _ (by omega) (by omega)];unfold Mf OP;cases hc:EW s a1 a2 a3 a4 a5 a6 a7 a9 a10 a11 a12 La==0<;>try rfl
 cases btw x0 1 2<;>try rfl
 cases h14:(L14.length:Int)==a1<;>try rfl
 cases (L19.length:Int)==a1<;>try rfl
 cases (L24.length:Int)==a1<;>try rfl
 cases iLt 5 x27<;>try rfl
 rw [AF9 L14 x12 x13 x4 a1 (beq_iff_eq.1 h14)];cases btw x12 0 a1<;>try rfl
 cases btw x13 0 a1<;>try rfl
 cases Ud L14 x12 x13 x4<;>try rfl
 cases btw x15 0 a1<;>try rfl
 cases btw x22 0 a1<;>try rfl
 cases Gr L16 a1<;>try rfl
 cases Gr L17 a1<;>try rfl
 cases a3==0<;>cases x2==0<;>cases btw x2 1 a3<;>rfl
theorem ia (hN:2097152<N) (hs:s.size≤1048576) (h14:L14.length≤1048576) (h16:L16.length≤1048576) (h17:L17.length≤1048576) (h19:L19.length≤1048576):C7 N ([.str s,.int a1,.int a2,.int a3,.int a4,.int a5,.int a6,.int a7,.bool a8,.int a9,.int a10,.int a11,.int a12,.rows La]++lsI L14 L16 L17 L19 L24 b18 b20 x0 x1 x2 x3 x4 x5 x6 x7 x8 x9 x10 x11 x12 x13 x15 x21 x22 x23 x25 x26 x27)=some [.bool (Mf s a1 a2 a3 a4 a5 a6 a7 a9 a10 a11 a12 La L14 L16 L17 L19 L24 x0 x1 x2 x3 x4 x5 x6 x7 x8 x9 x10 x11 x12 x13 x15 x21 x22 x23 x25 x26 x27)]:=by
 simp only [lsI,List.cons_append,List.nil_append];show SL (std (GL N) N) (xOf _)=_;have e1:∀ ls,GL N 80 [] ls=Am N ls:=fun ls=>rfl
 have e2:∀ ls,GL N 179 [] ls=Fh N ls:=fun ls=>rfl
 have e3:∀ ls,GL N 181 [] ls=JM N ls:=fun ls=>rfl
 have e4:∀ ls,GL N 180 [] ls=Sd N ls:=fun ls=>rfl
 have l60:=rm N L14 L16 L17 L19 L24 b18 b20 x0 x1 x2 x3 x4 x5 x6 x7 x8 x9 x10 x11 x12 x13 x15 x21 x22 x23 x25 x26 x27 (by omega) (by omega);simp only [lsI,List.cons_append,List.nil_append] at l60;simp only [SL,lq9,std,xOf,PXb,PXc,PXn,AB,e1,e2,e3,e4,gJ N s _ _ _ _ _ _ _ _ _ _ _ _ _ hN hs,iL,l60,oL N L16 _ (by omega) (by omega),oL N L17 _ (by omega) (by omega)];unfold Mf OP;cases hc:EW s a1 a2 a3 a4 a5 a6 a7 a9 a10 a11 a12 La==0<;>try rfl
 rw [rN (ABJ hc)];cases btw x0 1 2<;>try rfl
 cases h14:(L14.length:Int)==a1<;>try rfl
 cases (L19.length:Int)==a1<;>try rfl
 cases (L24.length:Int)==a1<;>try rfl
 cases iLt 5 x27<;>try rfl
 cases btw x12 0 a1<;>try rfl
 cases btw x13 0 a1<;>try rfl
 cases Ud L14 x12 x13 x4
 ·simp only [PXb,PXc,PXn,AB]
 cases btw x15 0 a1<;>try rfl
 cases btw x22 0 a1<;>try rfl
 cases Gr L16 a1<;>try rfl
 cases Gr L17 a1<;>try rfl
 have ho:(a3==0 && !(x2==0) || !(a3==0)&&(a3==0 && !(x2==0) || !!(a3==0) || !btw x2 1 a3) || !btw x11 0 (IntKind.i64.wrap (a4 - 1))) = !(OP a3 x2&&btw x11 0 (IntKind.i64.wrap (a4 - 1))):=by
  unfold OP;cases a3==0<;>cases x2==0<;>cases btw x2 1 a3<;>cases btw x11 0 (IntKind.i64.wrap (a4 - 1))<;>rfl
 rw [ho];show _=some [PV.bool (OP a3 x2&&(btw x11 0 (IntKind.i64.wrap (a4 - 1))&&_))];rw [← Bool.and_assoc];cases OP a3 x2&&btw x11 0 (IntKind.i64.wrap (a4 - 1))<;>try rfl
 simp only [PXb,PXc,PXn,AB];change (DU (fun s11 c11=>cond (iLt (pvI (AA c11 0)) ((bh x1 x3 x5 x6 x7 x8 x9 x10 x21 x23 x25 x26).length:Int)) (cond (iIn (pvI (AA c11 0)) ((bh x1 x3 x5 x6 x7 x8 x9 x10 x21 x23 x25 x26).length:Int)) (cond (!btw (pvI (AG (bh x1 x3 x5 x6 x7 x8 x9 x10 x21 x23 x25 x26) (pvI (AA c11 0)).toNat 0)) 0 1000000000) (some [PV.int 0,PV.bool false]) (s11 [Leaf.int (IntKind.i64.wrap (pvI (AA c11 0)+1))])) none) (some [PV.int 1])) N [PV.int 0]).bind _=_;generalize hM:bh x1 x3 x5 x6 x7 x8 x9 x10 x21 x23 x25 x26=M;have hM2:M.length=12:=by rw [← hM];rfl
 refine AN (Cy (len:=M.length) (fun i=>Dg (atI M i 0)) [.bool false] ?_ ?_ N (by omega)) ?_
 ·intro self;simp only [PXb,PXc,PXn,AB,Ak]
 ·intro i self hi;simp only [PXb,PXc,PXn,AB,Aa (show i≤1099511627776 by omega),Af hi,AO hi,BJ,Dg]
 ·show _=some [PV.bool (!A3 (fun i=>Dg (atI M i 0)) M.length 0&&_)];cases A3 (fun i=>Dg (atI M i 0)) M.length 0<;>try rfl
  refine AN (Cy (len:=L19.length) (fun i=>Dg (atI L19 i 0)) [.bool false] ?_ ?_ N (by omega)) ?_
  ·intro self;simp only [PXb,PXc,PXn,AB,Ak]
  ·intro i self hi;simp only [PXb,PXc,PXn,AB,Aa (show i≤1099511627776 by omega),Af hi,AO hi,BJ,Dg]
  ·show _=some [PV.bool (!A3 (fun i=>Dg (atI L19 i 0)) L19.length 0)];cases A3 (fun i=>Dg (atI L19 i 0)) L19.length 0<;>rfl
end
def vx (v:Bool) (L:Rows) (s n:Int) (x1 x2 x3 x10:Int):Int :=
 cond (!v) 0 (cond (iLt 0 x1&&iLe x1 x3) 3 (cond (Df L s n&&((CA L L.length).length:Int)==0) 1 (cond (iLt 0 x2&&iLe x2 x10) 2 0)))
theorem AGa {c:Int} {n:Nat} (hc:0≤c):iRg 0 (cond (iLt c (n:Int)) c (n:Int)) (n:Int)=true:=by
 cases h:iLt c (n:Int) with
 | true=>simp only [iLt,decide_eq_true_eq] at h;simp only [cond_true,iRg,decide_eq_true_eq];omega
 | false=>simp only [cond_false,iRg,decide_eq_true_eq];omega
def cut (L:Rows) (c:Int):Rows:=(L.take (cond (iLt c (L.length:Int)) c (L.length:Int)).toNat).drop (0:Int).toNat
section
variable (N:Nat) (s:ByteArray) (a1 a2 a3 a4 a5 a6 a7 a9 a10 a11 a12:Int) (a8:Bool) (La:Rows) (L14 L16 L17 L19 L24:Rows) (b18 b20:Bool) (x0 x1 x2 x3 x4 x5 x6 x7 x8 x9 x10 x11 x12 x13 x15 x21 x22 x23 x25 x26 x27:Int)
theorem jy (hN : 2097152 < N) (hs : s.size ≤ 1048576) (h14 : L14.length ≤ 1048576) (h16 : L16.length ≤ 1048576) (h17 : L17.length ≤ 1048576) (h19 : L19.length ≤ 1048576) : D6 N ([.str s, .int a1, .int a2, .int a3, .int a4, .int a5, .int a6, .int a7, .bool a8, .int a9, .int a10, .int a11, .int a12, .rows La] ++ lsI L14 L16 L17 L19 L24 b18 b20 x0 x1 x2 x3 x4 x5 x6 x7 x8 x9 x10 x11 x12 x13 x15 x21 x22 x23 x25 x26 x27) =
    some [.int (vx (Mf s a1 a2 a3 a4 a5 a6 a7 a9 a10 a11 a12 La L14 L16 L17 L19 L24 x0 x1 x2 x3 x4 x5 x6 x7 x8 x9 x10 x11 x12 x13 x15 x21 x22 x23 x25 x26 x27) L14 x12 x13 x1 x2 x3 x10)]:=by
  simp only [lsI,List.cons_append,List.nil_append];show I9 (std (EV N) N) (xOf _)=_;have e1:∀ ls,EV N 140 [] ls=BX N ls:=fun ls=>rfl
  have e2:∀ ls,EV N 224 [] ls=BW N ls:=fun ls=>rfl
  have e3:∀ ls,EV N 225 [] ls=DH N ls:=fun ls=>rfl
  have l16:=WY N s a1 a2 a3 a4 a5 a6 a7 a9 a10 a11 a12 a8 La L14 L16 L17 L19 L24 b18 b20 x0 x1 x2 x3 x4 x5 x6 x7 x8 x9 x10 x11 x12 x13 x15 x21 x22 x23 x25 x26 x27 hN hs h14 h16 h17 h19;have l61:=ma N L14 L16 L17 L19 L24 b18 b20 x0 x1 x2 x3 x4 x5 x6 x7 x8 x9 x10 x11 x12 x13 x15 x21 x22 x23 x25 x26 x27 (by omega) (by omega);have l62:=sL N L14 L16 L17 L19 L24 b18 b20 x0 x1 x2 x3 x4 x5 x6 x7 x8 x9 x10 x11 x12 x13 x15 x21 x22 x23 x25 x26 x27 (by omega) (by omega);simp only [lsI,List.cons_append,List.nil_append] at l16 l61 l62;simp only [I9,lq9,std,xOf,PXb,PXc,PXn,AB,e1,e2,e3,l16,l61,l62,vx];cases Mf s a1 a2 a3 a4 a5 a6 a7 a9 a10 a11 a12 La L14 L16 L17 L19 L24 x0 x1 x2 x3 x4 x5 x6 x7 x8 x9 x10 x11 x12 x13 x15 x21 x22 x23 x25 x26 x27<;>try rfl
  cases (iLt 0 x1&&iLe x1 x3)<;>try rfl
  cases Df L14 x12 x13
  · cases (iLt 0 x2&&iLe x2 x10)<;>rfl
  · simp only [PXb,PXc,PXn,AB];cases ((CA L14 L14.length).length:Int)==0<;>cases (iLt 0 x2&&iLe x2 x10)<;>rfl
theorem vD (hN : 2097152 < N) (hs : s.size ≤ 1048576) (h14 : L14.length ≤ 1048576) (h16 : L16.length ≤ 1048576) (h17 : L17.length ≤ 1048576) (h19 : L19.length ≤ 1048576) : K2 N ([.str s, .int a1, .int a2, .int a3, .int a4, .int a5, .int a6, .int a7, .bool a8, .int a9, .int a10, .int a11, .int a12, .rows La] ++ lsI L14 L16 L17 L19 L24 b18 b20 x0 x1 x2 x3 x4 x5 x6 x7 x8 x9 x10 x11 x12 x13 x15 x21 x22 x23 x25 x26 x27) =
    some [.int (vx (Mf s a1 a2 a3 a4 a5 a6 a7 a9 a10 a11 a12 La L14 L16 L17 L19 L24 x0 x1 x2 x3 x4 x5 x6 x7 x8 x9 x10 x11 x12 x13 x15 x21 x22 x23 x25 x26 x27) L14 x12 x13 x1 x2 x3 x10)]:=by
  simp only [lsI,List.cons_append,List.nil_append];show Pm (std (IA N) N) (xOf _)=_;have e1:∀ ls,IA N 155 [] ls=C7 N ls:=fun ls=>rfl
  have e2:∀ ls,IA N 204 [] ls=Cj N ls:=fun ls=>rfl
  have e3:∀ ls,IA N 205 [] ls=FF N ls:=fun ls=>rfl
  have l16:=ia N s a1 a2 a3 a4 a5 a6 a7 a9 a10 a11 a12 a8 La L14 L16 L17 L19 L24 b18 b20 x0 x1 x2 x3 x4 x5 x6 x7 x8 x9 x10 x11 x12 x13 x15 x21 x22 x23 x25 x26 x27 hN hs h14 h16 h17 h19;have l61:=uQ N L14 L16 L17 L19 L24 b18 b20 x0 x1 x2 x3 x4 x5 x6 x7 x8 x9 x10 x11 x12 x13 x15 x21 x22 x23 x25 x26 x27 (by omega) (by omega);have l62:=zU N L14 L16 L17 L19 L24 b18 b20 x0 x1 x2 x3 x4 x5 x6 x7 x8 x9 x10 x11 x12 x13 x15 x21 x22 x23 x25 x26 x27 (by omega) (by omega);simp only [lsI,List.cons_append,List.nil_append] at l16 l61 l62;simp only [Pm,lq9,std,xOf,PXb,PXc,PXn,AB,e1,e2,e3,l16,l61,l62,vx];cases Mf s a1 a2 a3 a4 a5 a6 a7 a9 a10 a11 a12 La L14 L16 L17 L19 L24 x0 x1 x2 x3 x4 x5 x6 x7 x8 x9 x10 x11 x12 x13 x15 x21 x22 x23 x25 x26 x27<;>try rfl
  cases (iLt 0 x1&&iLe x1 x3)<;>try rfl
  cases Df L14 x12 x13
  · cases (iLt 0 x2&&iLe x2 x10)<;>rfl
  · simp only [PXb,PXc,PXn,AB];cases ((CA L14 L14.length).length:Int)==0<;>cases (iLt 0 x2&&iLe x2 x10)<;>rfl
end
section
variable (N:Nat) (s:ByteArray) (a1 a2 a3 a4 a5 a6 a7 a9 a10 a11 a12:Int) (a8:Bool) (La:Rows) (L14 L16 L17 L19 L24:Rows) (b18 b20:Bool) (x0 x1 x2 x3 x4 x5 x6 x7 x8 x9 x10 x11 x12 x13 x15 x21 x22 x23 x25 x26 x27:Int)
def Ce (a4 x10 x11:Int):Int:=IntKind.i64.wrap (IntKind.i64.wrap (x10 * a4)+x11)
end
def A5 (r:Rul):Int:=EW r.name r.side r.innings r.overs r.balls r.quota r.wide r.noball r.newball r.followon r.reviews r.outside r.power
theorem Dj {N:Nat} {r8:Bool} {r0:ByteArray} {r13:Rows} (hN:2097152<N) (hs:r0.size≤1048576):Ab N [.str r0,.int r1,.int r2,.int r3,.int r4,.int r5,.int r6,.int r7,.bool r8,.int r9,.int r10,.int r11,.int r12,.rows r13]=some [.int (A5 (⟨r0,r1,r2,r3,r4,r5,r6,r7,r8,r9,r10,r11,r12,r13⟩:Rul))]:=by
 exact ZW N _ _ _ _ _ _ _ _ _ _ _ _ _ _ hN hs
theorem FQ {N:Nat} {r8:Bool} {r0:ByteArray} {r13:Rows} (hN:2097152<N) (hs:r0.size≤1048576):Am N [.str r0,.int r1,.int r2,.int r3,.int r4,.int r5,.int r6,.int r7,.bool r8,.int r9,.int r10,.int r11,.int r12,.rows r13]=some [.int (A5 (⟨r0,r1,r2,r3,r4,r5,r6,r7,r8,r9,r10,r11,r12,r13⟩:Rul))]:=by
 exact gJ N _ _ _ _ _ _ _ _ _ _ _ _ _ _ hN hs
theorem YF {N:Nat} {s18 s20:Bool} (h:Fit s14 s16 s17 s19 s24):C9 N [.int s0,.int s1,.int s2,.int s3,.int s4,.int s5,.int s6,.int s7,.int s8,.int s9,.int s10,.int s11,.int s12,.int s13,.rows s14,.int s15,.rows s16,.rows s17,.bool s18,.rows s19,.bool s20,.int s21,.int s22,.int s23,.rows s24,.int s25,.int s26,.int s27]=some [.int s0,.int s1,.int s2,.int s3,.int s4,.int s5,.int s6,.int s7,.int s8,.int s9,.int s10,.int s11,.int s12,.int s13,.rows s14,.int s15,.rows s16,.rows s17,.bool s18,.rows s19,.bool s20,.int s21,.int s22,.int s23,.rows s24,.int s25,.int s26,.int s27]:=by
 show SF (std (JE N) N) (xOf _)=_;simp only [SF,Oj,Rh,Qk,lq9,std,xOf,PXb,PXc,PXn,PXm,Nat.reduceAdd,Int.reduceBEq,Ae,Aq,Aj,Br h.bt (show 1≤4096 by omega),Br h.bw' (show 8≤4096 by omega),Br h.bf (show 8≤4096 by omega),Br h.bd (show 8≤4096 by omega),Br h.sb (show 1≤4096 by omega)]
theorem YB {N:Nat} {s18 s20:Bool} (h:Fit s14 s16 s17 s19 s24):DA N [.int s0,.int s1,.int s2,.int s3,.int s4,.int s5,.int s6,.int s7,.int s8,.int s9,.int s10,.int s11,.int s12,.int s13,.rows s14,.int s15,.rows s16,.rows s17,.bool s18,.rows s19,.bool s20,.int s21,.int s22,.int s23,.rows s24,.int s25,.int s26,.int s27]=some [.int s0,.int s1,.int s2,.int s3,.int s4,.int s5,.int s6,.int s7,.int s8,.int s9,.int s10,.int s11,.int s12,.int s13,.rows s14,.int s15,.rows s16,.rows s17,.bool s18,.rows s19,.bool s20,.int s21,.int s22,.int s23,.rows s24,.int s25,.int s26,.int s27]:=by
 show ST (std (JQ N) N) (xOf _)=_;simp only [ST,Ok,RD,Qh,lq9,std,xOf,PXb,PXc,PXn,PXm,Nat.reduceAdd,Int.reduceBEq,Ae,Aq,Aj,Br h.bt (show 1≤4096 by omega),Br h.bw' (show 8≤4096 by omega),Br h.bf (show 8≤4096 by omega),Br h.bd (show 8≤4096 by omega),Br h.sb (show 1≤4096 by omega)]
theorem CW {N:Nat} {s18 s20:Bool} (h:Fit s14 s16 s17 s19 s24):AX N [.int s0,.int s1,.int s2,.int s3,.int s4,.int s5,.int s6,.int s7,.int s8,.int s9,.int s10,.int s11,.int s12,.int s13,.rows s14,.int s15,.rows s16,.rows s17,.bool s18,.rows s19,.bool s20,.int s21,.int s22,.int s23,.rows s24,.int s25,.int s26,.int s27]=some [.int s0,.int s1,.int s2,.int s3,.int s4,.int s5,.int s6,.int s7,.int s8,.int s9,.int s10,.int s11,.int s12,.int s13,.rows s14,.int s15,.rows s16,.rows s17,.bool s18,.rows s19,.bool s20,.int s21,.int s22,.int s23,.rows s24,.int s25,.int s26,.int s27]:=by
 show KO (std (E4 N) N) (xOf _)=_;simp only [KO,MB,Nr,Mn,lq9,std,xOf,PXb,PXc,PXn,PXm,Nat.reduceAdd,Int.reduceBEq,Ae,Aq,Aj,Br h.bt (show 1≤4096 by omega),Br h.bw' (show 8≤4096 by omega),Br h.bf (show 8≤4096 by omega),Br h.bd (show 8≤4096 by omega),Br h.sb (show 1≤4096 by omega)]
theorem Yg {N:Nat} {s18 s20:Bool} (h:Fit s14 s16 s17 s19 s24):DV N [.int s0,.int s1,.int s2,.int s3,.int s4,.int s5,.int s6,.int s7,.int s8,.int s9,.int s10,.int s11,.int s12,.int s13,.rows s14,.int s15,.rows s16,.rows s17,.bool s18,.rows s19,.bool s20,.int s21,.int s22,.int s23,.rows s24,.int s25,.int s26,.int s27]=some [.int s0,.int s1,.int s2,.int s3,.int s4,.int s5,.int s6,.int s7,.int s8,.int s9,.int s10,.int s11,.int s12,.int s13,.rows s14,.int s15,.rows s16,.rows s17,.bool s18,.rows s19,.bool s20,.int s21,.int s22,.int s23,.rows s24,.int s25,.int s26,.int s27]:=by
 show R5 (std (Tc N) N) (xOf _)=_;simp only [R5,Zg,lq9,std,xOf,PXb,PXc,PXn,PXm,Nat.reduceAdd,Int.reduceBEq,CP h]
theorem Tl {N:Nat} {s18 s20:Bool} {p:Int}  : CB N [.int s0,.int s1,.int s2,.int s3,.int s4,.int s5,.int s6,.int s7,.int s8,.int s9,.int s10,.int s11,.int s12,.int s13,.rows s14,.int s15,.rows s16,.rows s17,.bool s18,.rows s19,.bool s20,.int s21,.int s22,.int s23,.rows s24,.int s25,.int s26,.int s27,.int p]=some [.bool (inR p s19.length)]:=by
 show NV (std (XC N) N) (xOf _)=_;simp only [NV,lq9,std,xOf,PXb,PXc,PXn,PXm,Nat.reduceAdd,Int.reduceBEq];rfl
theorem Vi {N:Nat} {s18 s20:Bool} {p:Int}  : Co N [.int s0,.int s1,.int s2,.int s3,.int s4,.int s5,.int s6,.int s7,.int s8,.int s9,.int s10,.int s11,.int s12,.int s13,.rows s14,.int s15,.rows s16,.rows s17,.bool s18,.rows s19,.bool s20,.int s21,.int s22,.int s23,.rows s24,.int s25,.int s26,.int s27,.int p]=some [.bool (inR p s19.length)]:=by
 show PU (std (Z4 N) N) (xOf _)=_;simp only [PU,lq9,std,xOf,PXb,PXc,PXn,PXm,Nat.reduceAdd,Int.reduceBEq];rfl
theorem Ja {N:Nat} {s18 s20:Bool} {p:Int}  : BD N [.int s0,.int s1,.int s2,.int s3,.int s4,.int s5,.int s6,.int s7,.int s8,.int s9,.int s10,.int s11,.int s12,.int s13,.rows s14,.int s15,.rows s16,.rows s17,.bool s18,.rows s19,.bool s20,.int s21,.int s22,.int s23,.rows s24,.int s25,.int s26,.int s27,.int p]=some [.bool (inR p s24.length)]:=by
 show NZ (std (XK N) N) (xOf _)=_;simp only [NZ,lq9,std,xOf,PXb,PXc,PXn,PXm,Nat.reduceAdd,Int.reduceBEq];rfl
theorem QF {N:Nat} {s18 s20:Bool} {p:Int}  : Bp N [.int s0,.int s1,.int s2,.int s3,.int s4,.int s5,.int s6,.int s7,.int s8,.int s9,.int s10,.int s11,.int s12,.int s13,.rows s14,.int s15,.rows s16,.rows s17,.bool s18,.rows s19,.bool s20,.int s21,.int s22,.int s23,.rows s24,.int s25,.int s26,.int s27,.int p]=some [.bool (inR p s24.length)]:=by
 show QW (std (Zi N) N) (xOf _)=_;simp only [QW,lq9,std,xOf,PXb,PXc,PXn,PXm,Nat.reduceAdd,Int.reduceBEq];rfl
def atB (L:Rows) (i j:Nat):Bool:=pvB (AG L i j)
theorem RT (L:Rows) (i j:Nat):pvB (AG L i j)=atB L i j:=rfl
def DS (s:Inn) (p:Int):Bool:=inR p s.subs.length&&atB s.subs (ix p) 0
theorem Iu {N:Nat} {s18 s20:Bool} {p:Int} (h:s24.length≤1048576):BC N [.int s0,.int s1,.int s2,.int s3,.int s4,.int s5,.int s6,.int s7,.int s8,.int s9,.int s10,.int s11,.int s12,.int s13,.rows s14,.int s15,.rows s16,.rows s17,.bool s18,.rows s19,.bool s20,.int s21,.int s22,.int s23,.rows s24,.int s25,.int s26,.int s27,.int p]=some [.bool (DS (⟨s0,s1,s2,s3,s4,s5,s6,s7,s8,s9,s10,s11,s12,s13,s14,s15,s16,s17,s18,s19,s20,s21,s22,s23,s24,s25,s26,s27⟩:Inn) p)]:=by
 show I6 (std (Ke N) N) (xOf _)=_;generalize hres:(some [.bool (DS (⟨s0,s1,s2,s3,s4,s5,s6,s7,s8,s9,s10,s11,s12,s13,s14,s15,s16,s17,s18,s19,s20,s21,s22,s23,s24,s25,s26,s27⟩:Inn) p)]:Option (List PV))=RR;simp only [I6,RV,lq9,std,xOf,PXb,PXc,PXn,PXm,Nat.reduceAdd,Int.reduceBEq,Ja,ABy h];subst hres;simp only [DS];cases hp:inR p s24.length with
 | false=>rfl
 | true=>first | rfl | (rw [Dt hp h];rfl)
theorem Hq {N:Nat} {s18 s20:Bool} {p:Int} (h:s24.length≤1048576):A7 N [.int s0,.int s1,.int s2,.int s3,.int s4,.int s5,.int s6,.int s7,.int s8,.int s9,.int s10,.int s11,.int s12,.int s13,.rows s14,.int s15,.rows s16,.rows s17,.bool s18,.rows s19,.bool s20,.int s21,.int s22,.int s23,.rows s24,.int s25,.int s26,.int s27,.int p]=some [.bool (DS (⟨s0,s1,s2,s3,s4,s5,s6,s7,s8,s9,s10,s11,s12,s13,s14,s15,s16,s17,s18,s19,s20,s21,s22,s23,s24,s25,s26,s27⟩:Inn) p)]:=by
 show LV (std (WW N) N) (xOf _)=_;generalize hres:(some [.bool (DS (⟨s0,s1,s2,s3,s4,s5,s6,s7,s8,s9,s10,s11,s12,s13,s14,s15,s16,s17,s18,s19,s20,s21,s22,s23,s24,s25,s26,s27⟩:Inn) p)]:Option (List PV))=RR;simp only [LV,lq9,std,xOf,PXb,PXc,PXn,PXm,Nat.reduceAdd,Int.reduceBEq,ABy h];subst hres;simp only [DS];cases hp:inR p s24.length with
 | false =>
  unfold inR at hp;have hq:(!iLe 1 p || !iLe p (s24.length:Int)||iIn (IntKind.i64.wrap (p - 1)) (s24.length:Int))=true:=by rw [← Bool.not_and,hp];rfl
  simp only [hp,hq,PXb,PXc,PXn,PXm,Nat.reduceAdd,Int.reduceBEq]
 | true=>have hk:=Dt hp h;unfold inR at hp;simp only [hp,hk,PXb,PXc,PXn,PXm,Nat.reduceAdd,Int.reduceBEq,atB,ix]
def nG (x:Int):Int:=cond (iLt x 0) 0 x
def PA (r:Rul) (s:Inn) (p:Int):Int :=
 cond (!inR p s.bowled.length || !(A5 r==0)) 0 (cond (r.quota==0) (-1) (nG (IntKind.i64.wrap (IntKind.i64.wrap (r.quota * r.balls) - nG (atI s.bowled (ix p) 0)))))
theorem AA6 (r:Rul) (s:Inn) (p:Int):iLe 0 (PA r s p) = !(PA r s p == -1):=by
 unfold PA;cases (!inR p s.bowled.length || !(A5 r==0)) with
 | true=>rfl
 | false =>
  cases r.quota==0 with
  | true=>rfl
  | false =>
   simp only [cond_false];generalize IntKind.i64.wrap (IntKind.i64.wrap (r.quota * r.balls) - nG (atI s.bowled (ix p) 0))=x;unfold nG;cases h:iLt x 0 with
   | true=>rfl
   | false =>
    simp only [iLt,decide_eq_false_iff_not] at h;simp only [cond_false];have h1:iLe 0 x=true:=by simp only [iLe,decide_eq_true_eq];omega
    have h2:(x == -1)=false:=by simp only [beq_eq_false_iff_ne];omega
    rw [h1,h2];rfl
theorem wK {N:Nat} {r8:Bool} {r0:ByteArray} {r13:Rows} {s18 s20:Bool} {p:Int} (h:Fit s14 s16 s17 s19 s24) (hN:2097152<N) (hs:r0.size≤1048576):Kb N [.str r0,.int r1,.int r2,.int r3,.int r4,.int r5,.int r6,.int r7,.bool r8,.int r9,.int r10,.int r11,.int r12,.rows r13,.int s0,.int s1,.int s2,.int s3,.int s4,.int s5,.int s6,.int s7,.int s8,.int s9,.int s10,.int s11,.int s12,.int s13,.rows s14,.int s15,.rows s16,.rows s17,.bool s18,.rows s19,.bool s20,.int s21,.int s22,.int s23,.rows s24,.int s25,.int s26,.int s27,.int p]=some [.int (PA (⟨r0,r1,r2,r3,r4,r5,r6,r7,r8,r9,r10,r11,r12,r13⟩:Rul) (⟨s0,s1,s2,s3,s4,s5,s6,s7,s8,s9,s10,s11,s12,s13,s14,s15,s16,s17,s18,s19,s20,s21,s22,s23,s24,s25,s26,s27⟩:Inn) p)]:=by
 show Pz (std (L9 N) N) (xOf _)=_;generalize hres:(some [.int (PA (⟨r0,r1,r2,r3,r4,r5,r6,r7,r8,r9,r10,r11,r12,r13⟩:Rul) (⟨s0,s1,s2,s3,s4,s5,s6,s7,s8,s9,s10,s11,s12,s13,s14,s15,s16,s17,s18,s19,s20,s21,s22,s23,s24,s25,s26,s27⟩:Inn) p)]:Option (List PV))=RR;simp only [Pz,V6,WU,lq9,std,xOf,PXb,PXc,PXn,PXm,Nat.reduceAdd,Int.reduceBEq,Dj hN hs,Tl];subst hres;simp only [PA];cases hp:inR p s19.length with
 | false=>rfl
 | true=>rw [Dt hp h.bd];cases A5 (⟨r0,r1,r2,r3,r4,r5,r6,r7,r8,r9,r10,r11,r12,r13⟩:Rul)==0<;>cases r5==0<;>rfl
theorem ABb {N:Nat} {r8:Bool} {r0:ByteArray} {r13:Rows} {s18 s20:Bool} {p:Int} (h:Fit s14 s16 s17 s19 s24) (hN:2097152<N) (hs:r0.size≤1048576):PQ N [.str r0,.int r1,.int r2,.int r3,.int r4,.int r5,.int r6,.int r7,.bool r8,.int r9,.int r10,.int r11,.int r12,.rows r13,.int s0,.int s1,.int s2,.int s3,.int s4,.int s5,.int s6,.int s7,.int s8,.int s9,.int s10,.int s11,.int s12,.int s13,.rows s14,.int s15,.rows s16,.rows s17,.bool s18,.rows s19,.bool s20,.int s21,.int s22,.int s23,.rows s24,.int s25,.int s26,.int s27,.int p]=some [.int (PA (⟨r0,r1,r2,r3,r4,r5,r6,r7,r8,r9,r10,r11,r12,r13⟩:Rul) (⟨s0,s1,s2,s3,s4,s5,s6,s7,s8,s9,s10,s11,s12,s13,s14,s15,s16,s17,s18,s19,s20,s21,s22,s23,s24,s25,s26,s27⟩:Inn) p)]:=by
 show U0 (std (QN N) N) (xOf _)=_;generalize hres:(some [.int (PA (⟨r0,r1,r2,r3,r4,r5,r6,r7,r8,r9,r10,r11,r12,r13⟩:Rul) (⟨s0,s1,s2,s3,s4,s5,s6,s7,s8,s9,s10,s11,s12,s13,s14,s15,s16,s17,s18,s19,s20,s21,s22,s23,s24,s25,s26,s27⟩:Inn) p)]:Option (List PV))=RR;simp only [U0,bP,aJ,lq9,std,xOf,PXb,PXc,PXn,PXm,Nat.reduceAdd,Int.reduceBEq,FQ hN hs,Vi];subst hres;simp only [PA];cases hp:inR p s19.length with
 | false=>cases A5 (⟨r0,r1,r2,r3,r4,r5,r6,r7,r8,r9,r10,r11,r12,r13⟩:Rul)==0<;>rfl
 | true=>rw [Dt hp h.bd];cases A5 (⟨r0,r1,r2,r3,r4,r5,r6,r7,r8,r9,r10,r11,r12,r13⟩:Rul)==0<;>cases r5==0<;>rfl
theorem uA {N:Nat} {L:Rows} {v:Int} (hN:2097152<N) (hl:L.length≤1048576):IU N [.rows L,.int v]=some [.bool (H6 L L.length v)]:=by
 show W4 (std (kU N) N) (xOf _)=_;simp only [W4,lq9,std,xOf,PXb,PXc,PXn,AB];refine AN (Cy (len:=L.length) (fun j=>v==atI L j 0) [.bool true] ?_ ?_ N (by omega)) ?_
 ·intro self;simp only [PXb,PXc,PXn,AB,Ak]
 ·intro i self hi;simp only [PXb,PXc,PXn,AB,Aa (show i≤1099511627776 by omega),Af hi,AO hi,BJ];rw [BEq.comm (a:=v)]
 ·unfold H6;cases A3 (fun j=>v==atI L j 0) L.length 0<;>rfl
theorem OS {N:Nat} {L:Rows} {v:Int} (hN:2097152<N) (hl:L.length≤1048576):A0 N [.rows L,.int v]=some [.bool (H6 L L.length v)]:=by
 exact MR N L v (by omega) (by omega)
def Hd (r:Rul) (s:Inn) (p:Int):Int :=
  cond (!inR p s.bowled.length || !(A5 r==0)) 3 (cond (p==s.keeper||p==s.bowler||DS s p) 7
    (cond (H6 s.before s.before.length p) 8 (cond (!(PA r s p == -1)&&iLt s.inover (IntKind.i64.wrap (r.balls - PA r s p))) 9 0)))
theorem ADI {p:Int} {n m:Nat} (h:inR p n=true):inR p m=iLe p (m:Int):=by
 unfold inR at h ⊢;rw [zzk] at h;rw [h.1,Bool.true_and]
theorem zJ {N:Nat} {r8:Bool} {r0:ByteArray} {r13:Rows} {s18 s20:Bool} {p:Int} (h:Fit s14 s16 s17 s19 s24) (hN:2097152<N) (hs:r0.size≤1048576):Mk N [.str r0,.int r1,.int r2,.int r3,.int r4,.int r5,.int r6,.int r7,.bool r8,.int r9,.int r10,.int r11,.int r12,.rows r13,.int s0,.int s1,.int s2,.int s3,.int s4,.int s5,.int s6,.int s7,.int s8,.int s9,.int s10,.int s11,.int s12,.int s13,.rows s14,.int s15,.rows s16,.rows s17,.bool s18,.rows s19,.bool s20,.int s21,.int s22,.int s23,.rows s24,.int s25,.int s26,.int s27,.int p]=some [.int (Hd (⟨r0,r1,r2,r3,r4,r5,r6,r7,r8,r9,r10,r11,r12,r13⟩:Rul) (⟨s0,s1,s2,s3,s4,s5,s6,s7,s8,s9,s10,s11,s12,s13,s14,s15,s16,s17,s18,s19,s20,s21,s22,s23,s24,s25,s26,s27⟩:Inn) p)]:=by
 show SQ (std (GM N) N) (xOf _)=_;generalize hres:(some [.int (Hd (⟨r0,r1,r2,r3,r4,r5,r6,r7,r8,r9,r10,r11,r12,r13⟩:Rul) (⟨s0,s1,s2,s3,s4,s5,s6,s7,s8,s9,s10,s11,s12,s13,s14,s15,s16,s17,s18,s19,s20,s21,s22,s23,s24,s25,s26,s27⟩:Inn) p)]:Option (List PV))=RR;simp only [SQ,Wc,Om,We,Yc,lq9,std,xOf,PXb,PXc,PXn,PXm,Nat.reduceAdd,Int.reduceBEq,Dj hN hs,Tl,wK h hN hs,OS hN h.bf];subst hres;simp only [Hd,DS];cases hp:inR p s19.length with
 | false=>rfl
 | true =>
  rw [ADI (m:=s24.length) hp];have hq:(!(iLe p (s24.length:Int))||iIn (IntKind.i64.wrap (p - 1)) (s24.length:Int))=true:=by
   cases h1:iLe p (s24.length:Int) with
   | false=>rfl
   | true=>rw [Dt (by rw [ADI hp];exact h1) h.sb];rfl
  rw [hq];cases A5 (⟨r0,r1,r2,r3,r4,r5,r6,r7,r8,r9,r10,r11,r12,r13⟩:Rul)==0<;>rfl
theorem ACg {N:Nat} {r8:Bool} {r0:ByteArray} {r13:Rows} {s18 s20:Bool} {p:Int} (h:Fit s14 s16 s17 s19 s24) (hN:2097152<N) (hs:r0.size≤1048576):Sb N [.str r0,.int r1,.int r2,.int r3,.int r4,.int r5,.int r6,.int r7,.bool r8,.int r9,.int r10,.int r11,.int r12,.rows r13,.int s0,.int s1,.int s2,.int s3,.int s4,.int s5,.int s6,.int s7,.int s8,.int s9,.int s10,.int s11,.int s12,.int s13,.rows s14,.int s15,.rows s16,.rows s17,.bool s18,.rows s19,.bool s20,.int s21,.int s22,.int s23,.rows s24,.int s25,.int s26,.int s27,.int p]=some [.int (Hd (⟨r0,r1,r2,r3,r4,r5,r6,r7,r8,r9,r10,r11,r12,r13⟩:Rul) (⟨s0,s1,s2,s3,s4,s5,s6,s7,s8,s9,s10,s11,s12,s13,s14,s15,s16,s17,s18,s19,s20,s21,s22,s23,s24,s25,s26,s27⟩:Inn) p)]:=by
 show XH (std (HA N) N) (xOf _)=_;generalize hres:(some [.int (Hd (⟨r0,r1,r2,r3,r4,r5,r6,r7,r8,r9,r10,r11,r12,r13⟩:Rul) (⟨s0,s1,s2,s3,s4,s5,s6,s7,s8,s9,s10,s11,s12,s13,s14,s15,s16,s17,s18,s19,s20,s21,s22,s23,s24,s25,s26,s27⟩:Inn) p)]:Option (List PV))=RR;simp only [XH,fA,YG,cJ,fV,j9,lq9,std,xOf,PXb,PXc,PXn,PXm,Nat.reduceAdd,Int.reduceBEq,FQ hN hs,Vi,ABb h hN hs,uA hN h.bf,Hq h.sb,AA6];subst hres;simp only [Hd];cases hp:inR p s19.length<;>cases A5 (⟨r0,r1,r2,r3,r4,r5,r6,r7,r8,r9,r10,r11,r12,r13⟩:Rul)==0<;>cases p==s22<;>cases p==s15<;>rfl
def Rn (r:Rul) (s:Inn) (p:Int):Inn×Int:=(cond (Hd r s p==0) { s with bowler:=p } s,Hd r s p)
theorem xE {N:Nat} {r8:Bool} {r0:ByteArray} {r13:Rows} {s18 s20:Bool} {p:Int} (h:Fit s14 s16 s17 s19 s24) (hN:2097152<N) (hs:r0.size≤1048576):Ko N [.str r0,.int r1,.int r2,.int r3,.int r4,.int r5,.int r6,.int r7,.bool r8,.int r9,.int r10,.int r11,.int r12,.rows r13,.int s0,.int s1,.int s2,.int s3,.int s4,.int s5,.int s6,.int s7,.int s8,.int s9,.int s10,.int s11,.int s12,.int s13,.rows s14,.int s15,.rows s16,.rows s17,.bool s18,.rows s19,.bool s20,.int s21,.int s22,.int s23,.rows s24,.int s25,.int s26,.int s27,.int p]=some (Ag (Rn (⟨r0,r1,r2,r3,r4,r5,r6,r7,r8,r9,r10,r11,r12,r13⟩:Rul) (⟨s0,s1,s2,s3,s4,s5,s6,s7,s8,s9,s10,s11,s12,s13,s14,s15,s16,s17,s18,s19,s20,s21,s22,s23,s24,s25,s26,s27⟩:Inn) p)):=by
 show Ps (std (Li N) N) (xOf _)=_;generalize hres:(some (Ag (Rn (⟨r0,r1,r2,r3,r4,r5,r6,r7,r8,r9,r10,r11,r12,r13⟩:Rul) (⟨s0,s1,s2,s3,s4,s5,s6,s7,s8,s9,s10,s11,s12,s13,s14,s15,s16,s17,s18,s19,s20,s21,s22,s23,s24,s25,s26,s27⟩:Inn) p)):Option (List PV))=RR;simp only [Ps,Ym,Yh,lq9,std,xOf,PXb,PXc,PXn,PXm,Nat.reduceAdd,Int.reduceBEq,YF h,zJ h hN hs];subst hres;simp only [Rn];cases Hd (⟨r0,r1,r2,r3,r4,r5,r6,r7,r8,r9,r10,r11,r12,r13⟩:Rul) (⟨s0,s1,s2,s3,s4,s5,s6,s7,s8,s9,s10,s11,s12,s13,s14,s15,s16,s17,s18,s19,s20,s21,s22,s23,s24,s25,s26,s27⟩:Inn) p==0<;>rfl
theorem ABM {N:Nat} {r8:Bool} {r0:ByteArray} {r13:Rows} {s18 s20:Bool} {p:Int} (h:Fit s14 s16 s17 s19 s24) (hN:2097152<N) (hs:r0.size≤1048576):Us N [.str r0,.int r1,.int r2,.int r3,.int r4,.int r5,.int r6,.int r7,.bool r8,.int r9,.int r10,.int r11,.int r12,.rows r13,.int s0,.int s1,.int s2,.int s3,.int s4,.int s5,.int s6,.int s7,.int s8,.int s9,.int s10,.int s11,.int s12,.int s13,.rows s14,.int s15,.rows s16,.rows s17,.bool s18,.rows s19,.bool s20,.int s21,.int s22,.int s23,.rows s24,.int s25,.int s26,.int s27,.int p]=some (Ag (Rn (⟨r0,r1,r2,r3,r4,r5,r6,r7,r8,r9,r10,r11,r12,r13⟩:Rul) (⟨s0,s1,s2,s3,s4,s5,s6,s7,s8,s9,s10,s11,s12,s13,s14,s15,s16,s17,s18,s19,s20,s21,s22,s23,s24,s25,s26,s27⟩:Inn) p)):=by
 show Ul (std (QR N) N) (xOf _)=_;generalize hres:(some (Ag (Rn (⟨r0,r1,r2,r3,r4,r5,r6,r7,r8,r9,r10,r11,r12,r13⟩:Rul) (⟨s0,s1,s2,s3,s4,s5,s6,s7,s8,s9,s10,s11,s12,s13,s14,s15,s16,s17,s18,s19,s20,s21,s22,s23,s24,s25,s26,s27⟩:Inn) p)):Option (List PV))=RR;simp only [Ul,bi,fT,lq9,std,xOf,PXb,PXc,PXn,PXm,Nat.reduceAdd,Int.reduceBEq,CP h,ACg h hN hs];subst hres;simp only [Rn];cases Hd (⟨r0,r1,r2,r3,r4,r5,r6,r7,r8,r9,r10,r11,r12,r13⟩:Rul) (⟨s0,s1,s2,s3,s4,s5,s6,s7,s8,s9,s10,s11,s12,s13,s14,s15,s16,s17,s18,s19,s20,s21,s22,s23,s24,s25,s26,s27⟩:Inn) p==0<;>rfl
def qp (x:Inn×Bool):List PV:=[.int x.1.side,.int x.1.target,.int x.1.overs,.int x.1.runs,.int x.1.wickets,.int x.1.wides,.int x.1.noballs,.int x.1.byes,.int x.1.legbyes,.int x.1.pens,.int x.1.complete,.int x.1.inover,.int x.1.striker,.int x.1.other,.rows x.1.batters,.int x.1.bowler,.rows x.1.bowlers,.rows x.1.before,.bool x.1.fresh,.rows x.1.bowled,.bool x.1.freehit,.int x.1.ballage,.int x.1.keeper,.int x.1.outside,.rows x.1.subs,.int x.1.rev1,.int x.1.rev2,.int x.1.ending,.bool x.2]
def inc (x:Int):Int:=IntKind.i64.wrap (x+1)
def Ap (r:Rul) (s:Inn) (counts:Bool):Inn×Bool :=
  cond (!inR s.bowler s.bowled.length || !(A5 r==0)) (s,false)
    (let L:=cond (H6 s.bowlers s.bowlers.length s.bowler) s.bowlers (s.bowlers++[[.int s.bowler]])
     let o:=cond counts (inc s.inover) s.inover
     let t:Inn:={ s with bowlers:=L,bowled:=cond counts (LE s.bowled s.bowler (inc (atI s.bowled (ix s.bowler) 0))) s.bowled,inover:=o,ballage:=cond counts (inc s.ballage) s.ballage }
     cond (iLt o r.balls) (t,false) ({ t with complete:=inc s.complete,inover:=0,before:=L,bowlers:=[],bowler:=0 },true))
theorem xB {N:Nat} {r8:Bool} {r0:ByteArray} {r13:Rows} {s18 s20:Bool} {b:Bool} (h:Fit s14 s16 s17 s19 s24) (hw:s16.length≤1048575) (hN:2097152<N) (hs:r0.size≤1048576):KY N [.str r0,.int r1,.int r2,.int r3,.int r4,.int r5,.int r6,.int r7,.bool r8,.int r9,.int r10,.int r11,.int r12,.rows r13,.int s0,.int s1,.int s2,.int s3,.int s4,.int s5,.int s6,.int s7,.int s8,.int s9,.int s10,.int s11,.int s12,.int s13,.rows s14,.int s15,.rows s16,.rows s17,.bool s18,.rows s19,.bool s20,.int s21,.int s22,.int s23,.rows s24,.int s25,.int s26,.int s27,.bool b]=some (qp (Ap (⟨r0,r1,r2,r3,r4,r5,r6,r7,r8,r9,r10,r11,r12,r13⟩:Rul) (⟨s0,s1,s2,s3,s4,s5,s6,s7,s8,s9,s10,s11,s12,s13,s14,s15,s16,s17,s18,s19,s20,s21,s22,s23,s24,s25,s26,s27⟩:Inn) b)):=by
 show QK (std (FW N) N) (xOf _)=_;generalize hres:(some (qp (Ap (⟨r0,r1,r2,r3,r4,r5,r6,r7,r8,r9,r10,r11,r12,r13⟩:Rul) (⟨s0,s1,s2,s3,s4,s5,s6,s7,s8,s9,s10,s11,s12,s13,s14,s15,s16,s17,s18,s19,s20,s21,s22,s23,s24,s25,s26,s27⟩:Inn) b)):Option (List PV))=RR;have ha:(s16++[[PV.int s15]]).length≤1048576:=by simp;omega
 simp only [QK,VL,Ns,Yy,VF,lq9,std,xOf,PXb,PXc,PXn,PXm,Nat.reduceAdd,Int.reduceBEq,YF h,Tl,Dj hN hs,OS hN h.bw',KW ha (show 8≤4096 by omega)];subst hres;simp only [Ap];cases hp:inR s15 s19.length with
 | false=>rfl
 | true =>
  rw [Dt hp h.bd];cases A5 (⟨r0,r1,r2,r3,r4,r5,r6,r7,r8,r9,r10,r11,r12,r13⟩:Rul)==0<;>try rfl
  cases H6 s16 s16.length s15<;>cases b<;>simp only [PXb,PXc,PXn,PXm,Nat.reduceAdd,Int.reduceBEq,inc]
  all_goals first | (cases iLt s11 r4<;>rfl) | (cases iLt (IntKind.i64.wrap (s11+1)) r4<;>rfl)
theorem AAn {N:Nat} {r8:Bool} {r0:ByteArray} {r13:Rows} {s18 s20:Bool} {b:Bool} (h:Fit s14 s16 s17 s19 s24) (hw:s16.length≤1048575) (hN:2097152<N) (hs:r0.size≤1048576):Uu N [.str r0,.int r1,.int r2,.int r3,.int r4,.int r5,.int r6,.int r7,.bool r8,.int r9,.int r10,.int r11,.int r12,.rows r13,.int s0,.int s1,.int s2,.int s3,.int s4,.int s5,.int s6,.int s7,.int s8,.int s9,.int s10,.int s11,.int s12,.int s13,.rows s14,.int s15,.rows s16,.rows s17,.bool s18,.rows s19,.bool s20,.int s21,.int s22,.int s23,.rows s24,.int s25,.int s26,.int s27,.bool b]=some (qp (Ap (⟨r0,r1,r2,r3,r4,r5,r6,r7,r8,r9,r10,r11,r12,r13⟩:Rul) (⟨s0,s1,s2,s3,s4,s5,s6,s7,s8,s9,s10,s11,s12,s13,s14,s15,s16,s17,s18,s19,s20,s21,s22,s23,s24,s25,s26,s27⟩:Inn) b)):=by
 show Ux (std (Hf N) N) (xOf _)=_;generalize hres:(some (qp (Ap (⟨r0,r1,r2,r3,r4,r5,r6,r7,r8,r9,r10,r11,r12,r13⟩:Rul) (⟨s0,s1,s2,s3,s4,s5,s6,s7,s8,s9,s10,s11,s12,s13,s14,s15,s16,s17,s18,s19,s20,s21,s22,s23,s24,s25,s26,s27⟩:Inn) b)):Option (List PV))=RR;have ha:(s16++[[PV.int s15]]).length≤1048576:=by simp;omega
 simp only [Ux,bK,dF,aK,iU,lq9,std,xOf,PXb,PXc,PXn,PXm,Nat.reduceAdd,Int.reduceBEq,CP h,Vi,FQ hN hs,uA hN h.bw',KW ha (show 8≤4096 by omega)];subst hres;simp only [Ap];cases hp:inR s15 s19.length with
 | false=>cases A5 (⟨r0,r1,r2,r3,r4,r5,r6,r7,r8,r9,r10,r11,r12,r13⟩:Rul)==0<;>rfl
 | true =>
  rw [Dt hp h.bd];cases A5 (⟨r0,r1,r2,r3,r4,r5,r6,r7,r8,r9,r10,r11,r12,r13⟩:Rul)==0<;>try rfl
  cases H6 s16 s16.length s15<;>cases b<;>simp only [PXb,PXc,PXn,PXm,Nat.reduceAdd,Int.reduceBEq,inc]
  all_goals first | (cases iLt s11 r4<;>rfl) | (cases iLt (IntKind.i64.wrap (s11+1)) r4<;>rfl)
def HI (r:Rul) (s:Inn):Inn×Int :=
 cond (!(A5 r==0)||r.newball==0||iLt s.ballage (IntKind.i64.wrap (r.newball * r.balls))) (s,22) ({ s with ballage:=0 },0)
theorem pd {N:Nat} {r8:Bool} {r0:ByteArray} {r13:Rows} {s18 s20:Bool} (h:Fit s14 s16 s17 s19 s24) (hN:2097152<N) (hs:r0.size≤1048576):Gn N [.str r0,.int r1,.int r2,.int r3,.int r4,.int r5,.int r6,.int r7,.bool r8,.int r9,.int r10,.int r11,.int r12,.rows r13,.int s0,.int s1,.int s2,.int s3,.int s4,.int s5,.int s6,.int s7,.int s8,.int s9,.int s10,.int s11,.int s12,.int s13,.rows s14,.int s15,.rows s16,.rows s17,.bool s18,.rows s19,.bool s20,.int s21,.int s22,.int s23,.rows s24,.int s25,.int s26,.int s27]=some (Ag (HI (⟨r0,r1,r2,r3,r4,r5,r6,r7,r8,r9,r10,r11,r12,r13⟩:Rul) (⟨s0,s1,s2,s3,s4,s5,s6,s7,s8,s9,s10,s11,s12,s13,s14,s15,s16,s17,s18,s19,s20,s21,s22,s23,s24,s25,s26,s27⟩:Inn))):=by
 show KL (std (HP N) N) (xOf _)=_;generalize hres:(some (Ag (HI (⟨r0,r1,r2,r3,r4,r5,r6,r7,r8,r9,r10,r11,r12,r13⟩:Rul) (⟨s0,s1,s2,s3,s4,s5,s6,s7,s8,s9,s10,s11,s12,s13,s14,s15,s16,s17,s18,s19,s20,s21,s22,s23,s24,s25,s26,s27⟩:Inn))):Option (List PV))=RR;simp only [KL,Sr,Ur,lq9,std,xOf,PXb,PXc,PXn,PXm,Nat.reduceAdd,Int.reduceBEq,YF h,Dj hN hs];subst hres;simp only [HI];cases (!(A5 (⟨r0,r1,r2,r3,r4,r5,r6,r7,r8,r9,r10,r11,r12,r13⟩:Rul)==0)||r9==0||iLt s21 (IntKind.i64.wrap (r9 * r4)))<;>rfl
theorem vL {N:Nat} {r8:Bool} {r0:ByteArray} {r13:Rows} {s18 s20:Bool} (h:Fit s14 s16 s17 s19 s24) (hN:2097152<N) (hs:r0.size≤1048576):NQ N [.str r0,.int r1,.int r2,.int r3,.int r4,.int r5,.int r6,.int r7,.bool r8,.int r9,.int r10,.int r11,.int r12,.rows r13,.int s0,.int s1,.int s2,.int s3,.int s4,.int s5,.int s6,.int s7,.int s8,.int s9,.int s10,.int s11,.int s12,.int s13,.rows s14,.int s15,.rows s16,.rows s17,.bool s18,.rows s19,.bool s20,.int s21,.int s22,.int s23,.rows s24,.int s25,.int s26,.int s27]=some (Ag (HI (⟨r0,r1,r2,r3,r4,r5,r6,r7,r8,r9,r10,r11,r12,r13⟩:Rul) (⟨s0,s1,s2,s3,s4,s5,s6,s7,s8,s9,s10,s11,s12,s13,s14,s15,s16,s17,s18,s19,s20,s21,s22,s23,s24,s25,s26,s27⟩:Inn))):=by
 show ND (std (J3 N) N) (xOf _)=_;generalize hres:(some (Ag (HI (⟨r0,r1,r2,r3,r4,r5,r6,r7,r8,r9,r10,r11,r12,r13⟩:Rul) (⟨s0,s1,s2,s3,s4,s5,s6,s7,s8,s9,s10,s11,s12,s13,s14,s15,s16,s17,s18,s19,s20,s21,s22,s23,s24,s25,s26,s27⟩:Inn))):Option (List PV))=RR;simp only [ND,Ws,Wm,lq9,std,xOf,PXb,PXc,PXn,PXm,Nat.reduceAdd,Int.reduceBEq,CP h,FQ hN hs];subst hres;simp only [HI];cases (!(A5 (⟨r0,r1,r2,r3,r4,r5,r6,r7,r8,r9,r10,r11,r12,r13⟩:Rul)==0)||r9==0||iLt s21 (IntKind.i64.wrap (r9 * r4)))<;>rfl
end Go.Px
end
