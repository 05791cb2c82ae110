/- Part 10. -/
import Derived.Test.YteolngdncakekaaGreatPart07
import Derived.Test.YteolngdncakekaaGreatPart09
set_option linter.unusedVariables false
set_option linter.unusedSimpArgs false
section
namespace Go.Px
set_option maxRecDepth 100000
theorem HU {N:Nat} {s0 s1 s2 s3 s4 s5 s6 s7 s8 s9 s10 s11 s12 s13 s15 s21 s22 s23 s25 s26 s27:Int} {s18 s20:Bool} {s14 s16 s17 s19 s24:Rows} (h:Fit s14 s16 s17 s19 s24):Az N [.int s0,.int s1,.int s2,.int s3,.int s4,.int s5,.int s6,.int s7,.int s8,.int s9,.int s10,.int s11,.int s12,.int s13,.rows s14,.int s15,.rows s16,.rows s17,.bool s18,.rows s19,.bool s20,.int s21,.int s22,.int s23,.rows s24,.int s25,.int s26,.int s27]=some [.int s0,.int s1,.int s2,.int s3,.int s4,.int s5,.int s6,.int s7,.int s8,.int s9,.int s10,.int s11,.int s12,.int s13,.rows s14,.int s15,.rows s16,.rows s17,.bool s18,.rows s19,.bool s20,.int s21,.int s22,.int s23,.rows s24,.int s25,.int s26,.int s27]:=by
 show PA (std (Hf N) N) (xOf _)=_
 simp only [PA,Ml,PI,OQ,std,xOf,PXb,PXc,PXn,PXm,Nat.reduceAdd,Int.reduceBEq,AS,Ag,Ad,Bi h.bt (show 1≤4096 by omega),Bi h.bw' (show 8≤4096 by omega),Bi h.bf (show 8≤4096 by omega),Bi h.bd (show 8≤4096 by omega),Bi h.sb (show 1≤4096 by omega)]
theorem CF {N:Nat} {s0 s1 s2 s3 s4 s5 s6 s7 s8 s9 s10 s11 s12 s13 s15 s21 s22 s23 s25 s26 s27:Int} {s18 s20:Bool} {s14 s16 s17 s19 s24:Rows} (h:Fit s14 s16 s17 s19 s24):AP N [.int s0,.int s1,.int s2,.int s3,.int s4,.int s5,.int s6,.int s7,.int s8,.int s9,.int s10,.int s11,.int s12,.int s13,.rows s14,.int s15,.rows s16,.rows s17,.bool s18,.rows s19,.bool s20,.int s21,.int s22,.int s23,.rows s24,.int s25,.int s26,.int s27]=some [.int s0,.int s1,.int s2,.int s3,.int s4,.int s5,.int s6,.int s7,.int s8,.int s9,.int s10,.int s11,.int s12,.int s13,.rows s14,.int s15,.rows s16,.rows s17,.bool s18,.rows s19,.bool s20,.int s21,.int s22,.int s23,.rows s24,.int s25,.int s26,.int s27]:=by
 show Qz (std (Zu N) N) (xOf _)=_
 simp only [Qz,std,xOf,PXb,PXc,PXn,PXm,Nat.reduceAdd,Int.reduceBEq,Ju h.bt (show 1≤4096 by omega),Ju h.bw' (show 8≤4096 by omega),Ju h.bf (show 8≤4096 by omega),Ju h.bd (show 8≤4096 by omega),Ju h.sb (show 1≤4096 by omega)]
theorem G8 {N:Nat} {s0 s1 s2 s3 s4 s5 s6 s7 s8 s9 s10 s11 s12 s13 s15 s21 s22 s23 s25 s26 s27:Int} {s18 s20:Bool} {s14 s16 s17 s19 s24:Rows} {p:Int}  : A0 N [.int s0,.int s1,.int s2,.int s3,.int s4,.int s5,.int s6,.int s7,.int s8,.int s9,.int s10,.int s11,.int s12,.int s13,.rows s14,.int s15,.rows s16,.rows s17,.bool s18,.rows s19,.bool s20,.int s21,.int s22,.int s23,.rows s24,.int s25,.int s26,.int s27,.int p]=some [.bool (inR p s14.length)]:=by
 show Kn (std (Ug N) N) (xOf _)=_
 simp only [Kn,std,xOf,PXb,PXc,PXn,PXm,Nat.reduceAdd,Int.reduceBEq]
 rfl
theorem OE {N:Nat} {s0 s1 s2 s3 s4 s5 s6 s7 s8 s9 s10 s11 s12 s13 s15 s21 s22 s23 s25 s26 s27:Int} {s18 s20:Bool} {s14 s16 s17 s19 s24:Rows} {p:Int}  : Bf N [.int s0,.int s1,.int s2,.int s3,.int s4,.int s5,.int s6,.int s7,.int s8,.int s9,.int s10,.int s11,.int s12,.int s13,.rows s14,.int s15,.rows s16,.rows s17,.bool s18,.rows s19,.bool s20,.int s21,.int s22,.int s23,.rows s24,.int s25,.int s26,.int s27,.int p]=some [.bool (inR p s14.length)]:=by
 show Nh (std (YB N) N) (xOf _)=_
 simp only [Nh,std,xOf,PXb,PXc,PXn,PXm,Nat.reduceAdd,Int.reduceBEq]
 rfl
def BV (s:Inn) (d:Del):Inn :=
  let odd := !(d.runs.tmod 2==0) != d.crossed
  let t:Inn:=cond odd { s with striker:=s.other,other:=s.striker } s
  let k:Bool:=d.how==0
  cond (!k&&(d.victim==1 && !(s.striker==0)))
    { t with striker:=cond odd t.striker 0,other:=cond odd 0 t.other,batters:=cond (inR s.striker s.batters.length) (KE s.batters s.striker 2) s.batters,wickets:=IntKind.i64.wrap (s.wickets+1) }
    (cond (!k&&(d.victim==2 && !(s.other==0)))
      { t with striker:=cond odd 0 t.striker,other:=cond odd t.other 0,batters:=cond (inR s.other s.batters.length) (KE s.batters s.other 2) s.batters,wickets:=IntKind.i64.wrap (s.wickets+1) }
      t)
theorem pP {N:Nat} {s0 s1 s2 s3 s4 s5 s6 s7 s8 s9 s10 s11 s12 s13 s15 s21 s22 s23 s25 s26 s27:Int} {s18 s20:Bool} {s14 s16 s17 s19 s24:Rows} {d0 d1 d2 d3 d4 d6 d7 d8 d9 d11:Int} {d5 d10:Bool} (h:Fit s14 s16 s17 s19 s24):KN N [.int s0,.int s1,.int s2,.int s3,.int s4,.int s5,.int s6,.int s7,.int s8,.int s9,.int s10,.int s11,.int s12,.int s13,.rows s14,.int s15,.rows s16,.rows s17,.bool s18,.rows s19,.bool s20,.int s21,.int s22,.int s23,.rows s24,.int s25,.int s26,.int s27,.int d0,.int d1,.int d2,.int d3,.int d4,.bool d5,.int d6,.int d7,.int d8,.int d9,.bool d10,.int d11]=some (BV (⟨s0,s1,s2,s3,s4,s5,s6,s7,s8,s9,s10,s11,s12,s13,s14,s15,s16,s17,s18,s19,s20,s21,s22,s23,s24,s25,s26,s27⟩:Inn) (⟨d0,d1,d2,d3,d4,d5,d6,d7,d8,d9,d10,d11⟩:Del)).ls:=by
 show PG (std (Kc N) N) (xOf _)=_
 simp only [PG,Um,TK,std,xOf,PXb,PXc,PXn,PXm,Nat.reduceAdd,Int.reduceBEq,HU h,G8,sv h.bt]
 unfold BV
 cases d5<;>cases d2.tmod 2==0<;>cases d6==0<;>cases d7==1<;>cases d7==2<;>cases s12==0<;>cases s13==0<;>rfl
def Xr (s:Inn):Inn:={ s with striker:=s.other,other:=s.striker }
theorem iE {N:Nat} {s0 s1 s2 s3 s4 s5 s6 s7 s8 s9 s10 s11 s12 s13 s15 s21 s22 s23 s25 s26 s27:Int} {s18 s20:Bool} {s14 s16 s17 s19 s24:Rows} (h:Fit s14 s16 s17 s19 s24):GE N [.int s0,.int s1,.int s2,.int s3,.int s4,.int s5,.int s6,.int s7,.int s8,.int s9,.int s10,.int s11,.int s12,.int s13,.rows s14,.int s15,.rows s16,.rows s17,.bool s18,.rows s19,.bool s20,.int s21,.int s22,.int s23,.rows s24,.int s25,.int s26,.int s27]=some (Xr (⟨s0,s1,s2,s3,s4,s5,s6,s7,s8,s9,s10,s11,s12,s13,s14,s15,s16,s17,s18,s19,s20,s21,s22,s23,s24,s25,s26,s27⟩:Inn)).ls:=by
 show JW (std (K9 N) N) (xOf _)=_
 simp only [JW,Ry,std,xOf,PXb,PXc,PXn,PXm,Nat.reduceAdd,Int.reduceBEq,HU h]
 rfl
theorem dJ {N:Nat} {s0 s1 s2 s3 s4 s5 s6 s7 s8 s9 s10 s11 s12 s13 s15 s21 s22 s23 s25 s26 s27:Int} {s18 s20:Bool} {s14 s16 s17 s19 s24:Rows} (h:Fit s14 s16 s17 s19 s24):FE N [.int s0,.int s1,.int s2,.int s3,.int s4,.int s5,.int s6,.int s7,.int s8,.int s9,.int s10,.int s11,.int s12,.int s13,.rows s14,.int s15,.rows s16,.rows s17,.bool s18,.rows s19,.bool s20,.int s21,.int s22,.int s23,.rows s24,.int s25,.int s26,.int s27]=some (Xr (⟨s0,s1,s2,s3,s4,s5,s6,s7,s8,s9,s10,s11,s12,s13,s14,s15,s16,s17,s18,s19,s20,s21,s22,s23,s24,s25,s26,s27⟩:Inn)).ls:=by
 show Ot (std (QH N) N) (xOf _)=_
 simp only [Ot,WP,std,xOf,PXb,PXc,PXn,PXm,Nat.reduceAdd,Int.reduceBEq,CF h]
 rfl
theorem vX {N:Nat} {s0 s1 s2 s3 s4 s5 s6 s7 s8 s9 s10 s11 s12 s13 s15 s21 s22 s23 s25 s26 s27:Int} {s18 s20:Bool} {s14 s16 s17 s19 s24:Rows} {d0 d1 d2 d3 d4 d6 d7 d8 d9 d11:Int} {d5 d10:Bool} (h:Fit s14 s16 s17 s19 s24):VS N [.int s0,.int s1,.int s2,.int s3,.int s4,.int s5,.int s6,.int s7,.int s8,.int s9,.int s10,.int s11,.int s12,.int s13,.rows s14,.int s15,.rows s16,.rows s17,.bool s18,.rows s19,.bool s20,.int s21,.int s22,.int s23,.rows s24,.int s25,.int s26,.int s27,.int d0,.int d1,.int d2,.int d3,.int d4,.bool d5,.int d6,.int d7,.int d8,.int d9,.bool d10,.int d11]=some (BV (⟨s0,s1,s2,s3,s4,s5,s6,s7,s8,s9,s10,s11,s12,s13,s14,s15,s16,s17,s18,s19,s20,s21,s22,s23,s24,s25,s26,s27⟩:Inn) (⟨d0,d1,d2,d3,d4,d5,d6,d7,d8,d9,d10,d11⟩:Del)).ls:=by
 show VA (std (Lo N) N) (xOf _)=_
 simp only [VA,aK,Y8,Yj,std,xOf,PXb,PXc,PXn,PXm,Nat.reduceAdd,Int.reduceBEq,CF h,OE,sv h.bt,dJ h,Xr,BV]
 cases h71:d7==1
 ·cases d5<;>cases d2.tmod 2==0<;>cases d6==0<;>cases d7==2<;>cases s12==0<;>cases s13==0<;>rfl
 ·rw [lO h71]
  cases d5<;>cases d2.tmod 2==0<;>cases d6==0<;>cases s12==0<;>rfl
theorem gP {N:Nat} {v:Int}  : C5 N [.int v]=some [.bool (!(v==0))]:=by
 show Mg (std (RI N) N) (xOf _)=_
 rfl
theorem eA {N:Nat} {v:Int}  : EU N [.int v]=some [.bool (!(v==0))]:=by
 show LB (std (PU N) N) (xOf _)=_
 rfl
theorem Xw {N:Nat} {s0 s1 s2 s3 s4 s5 s6 s7 s8 s9 s10 s11 s12 s13 s15 s21 s22 s23 s25 s26 s27:Int} {s18 s20:Bool} {s14 s16 s17 s19 s24:Rows} (h:s14.length≤1048576) (hN:2097152<N):CJ N [.int s0,.int s1,.int s2,.int s3,.int s4,.int s5,.int s6,.int s7,.int s8,.int s9,.int s10,.int s11,.int s12,.int s13,.rows s14,.int s15,.rows s16,.rows s17,.bool s18,.rows s19,.bool s20,.int s21,.int s22,.int s23,.rows s24,.int s25,.int s26,.int s27]=some [.bool (Cg s14)]:=by
 show Eu (std (FL N) N) (xOf _)=_
 simp only [Eu,Ge,std,xOf,PXb,PXc,PXn,AB]
 rw [show Cg s14=iLe 0 (SF (fun i => !(atI s14 i 0==0)) s14.length) from (Ks _ _).symm]
 rw [Option.bind_assoc]
 refine AH (Cm (len:=s14.length) (GU fun i => !(atI s14 i 0==0)) ?_ ?_ s14.length 0 N (by omega) (by omega)) ?_
 ·intro self
  simp only [PXb,PXc,PXn,AB,Au]
 ·intro i self hi
  simp only [PXb,PXc,PXn,AB,Aa (show i≤1099511627776 by omega),Aj hi,AQ hi,GU,Bx,Ge,gP]
  cases atI s14 i 0==0<;>rfl
 ·unfold SF
  cases CR (GU fun i => !(atI s14 i 0==0)) s14.length 0<;>rfl
theorem jM {N:Nat} {s0 s1 s2 s3 s4 s5 s6 s7 s8 s9 s10 s11 s12 s13 s15 s21 s22 s23 s25 s26 s27:Int} {s18 s20:Bool} {s14 s16 s17 s19 s24:Rows} (h:s14.length≤1048576) (hN:2097152<N):GO N [.int s0,.int s1,.int s2,.int s3,.int s4,.int s5,.int s6,.int s7,.int s8,.int s9,.int s10,.int s11,.int s12,.int s13,.rows s14,.int s15,.rows s16,.rows s17,.bool s18,.rows s19,.bool s20,.int s21,.int s22,.int s23,.rows s24,.int s25,.int s26,.int s27]=some [.bool (Cg s14)]:=by
 show JI (std (K8 N) N) (xOf _)=_
 simp only [JI,Fa,std,xOf,PXb,PXc,PXn,AB]
 rw [show Cg s14=iLe 0 (SF (fun i => !(atI s14 i 0==0)) s14.length) from (Ks _ _).symm]
 rw [Option.bind_assoc]
 refine AH (Cm (len:=s14.length) (GU fun i => !(atI s14 i 0==0)) ?_ ?_ s14.length 0 N (by omega) (by omega)) ?_
 ·intro self
  simp only [PXb,PXc,PXn,AB,Au]
 ·intro i self hi
  simp only [PXb,PXc,PXn,AB,Aa (show i≤1099511627776 by omega),Aj hi,AQ hi,GU,Bx,Fa,eA]
  cases atI s14 i 0==0<;>rfl
 ·unfold SF
  cases CR (GU fun i => !(atI s14 i 0==0)) s14.length 0<;>rfl
theorem Wv {N:Nat} {s0 s1 s2 s3 s4 s5 s6 s7 s8 s9 s10 s11 s12 s13 s15 s21 s22 s23 s25 s26 s27:Int} {s18 s20:Bool} {s14 s16 s17 s19 s24:Rows} (h:s14.length≤1048576) (hN:2097152<N):Bh N [.int s0,.int s1,.int s2,.int s3,.int s4,.int s5,.int s6,.int s7,.int s8,.int s9,.int s10,.int s11,.int s12,.int s13,.rows s14,.int s15,.rows s16,.rows s17,.bool s18,.rows s19,.bool s20,.int s21,.int s22,.int s23,.rows s24,.int s25,.int s26,.int s27]=some [.bool (Cg s14)]:=by
 show I5 (std (R2 N) N) (xOf _)=_
 simp only [I5,std,xOf,PXb,PXc,PXn,AB]
 refine AH (Cj (len:=s14.length) (fun i => !(atI s14 i 0==0)) [.bool true] ?_ ?_ N (by omega)) ?_
 ·intro self
  simp only [PXb,PXc,PXn,AB,Au]
 ·intro i self hi
  simp only [PXb,PXc,PXn,AB,Aa (show i≤1099511627776 by omega),Aj hi,AQ hi,Bx]
 ·unfold Cg
  cases Ao (fun i => !(atI s14 i 0==0)) s14.length 0<;>rfl
theorem Vz {N:Nat} {s0 s1 s2 s3 s4 s5 s6 s7 s8 s9 s10 s11 s12 s13 s15 s21 s22 s23 s25 s26 s27:Int} {s18 s20:Bool} {s14 s16 s17 s19 s24:Rows} (h:s14.length≤1048576) (hN:2097152<N):BP N [.int s0,.int s1,.int s2,.int s3,.int s4,.int s5,.int s6,.int s7,.int s8,.int s9,.int s10,.int s11,.int s12,.int s13,.rows s14,.int s15,.rows s16,.rows s17,.bool s18,.rows s19,.bool s20,.int s21,.int s22,.int s23,.rows s24,.int s25,.int s26,.int s27]=some [.bool (EC s14 s12 s13)]:=by
 show EK (std (Eb N) N) (xOf _)=_
 simp only [EK,Pj,std,xOf,PXb,PXc,PXn,PXm,Nat.reduceAdd,Int.reduceBEq,Xw h hN]
 rfl
theorem cP {N:Nat} {s0 s1 s2 s3 s4 s5 s6 s7 s8 s9 s10 s11 s12 s13 s15 s21 s22 s23 s25 s26 s27:Int} {s18 s20:Bool} {s14 s16 s17 s19 s24:Rows} (h:s14.length≤1048576) (hN:2097152<N):Cb N [.int s0,.int s1,.int s2,.int s3,.int s4,.int s5,.int s6,.int s7,.int s8,.int s9,.int s10,.int s11,.int s12,.int s13,.rows s14,.int s15,.rows s16,.rows s17,.bool s18,.rows s19,.bool s20,.int s21,.int s22,.int s23,.rows s24,.int s25,.int s26,.int s27]=some [.bool (EC s14 s12 s13)]:=by
 show Hj (std (HY N) N) (xOf _)=_
 simp only [Hj,V9,std,xOf,PXb,PXc,PXn,PXm,Nat.reduceAdd,Int.reduceBEq,Wv h hN]
 rfl
theorem nB {N:Nat} {s0 s1 s2 s3 s4 s5 s6 s7 s8 s9 s10 s11 s12 s13 s15 s21 s22 s23 s25 s26 s27:Int} {s18 s20:Bool} {s14 s16 s17 s19 s24:Rows} (h:s14.length≤1048576) (hN:2097152<N):C2 N [.int s0,.int s1,.int s2,.int s3,.int s4,.int s5,.int s6,.int s7,.int s8,.int s9,.int s10,.int s11,.int s12,.int s13,.rows s14,.int s15,.rows s16,.rows s17,.bool s18,.rows s19,.bool s20,.int s21,.int s22,.int s23,.rows s24,.int s25,.int s26,.int s27]=some [.rows (B6 s14 s14.length)]:=by
 show Fn (std (OV N) N) (xOf _)=_
 simp only [Fn,std,xOf,PXb,PXc,PXn,AB]
 refine AH (Al (len:=s14.length) (fun i=>[.rows (B6 s14 i),.int (i:Int)]) [.rows (B6 s14 s14.length)] ?_ ?_ N (by omega)) rfl
 ·intro self
  simp only [PXb,PXc,PXn,AB,Au]
 ·intro i self hi
  have h2:(B6 s14 i++[[PV.int ((i:Int)+1)]]).length≤4194304:=by have:=UO s14 i;simp;omega
  simp only [PXb,PXc,PXn,AB,Aa (show i≤1099511627776 by omega),Aj hi,AQ hi,Bx,B6,DM h2 (show 8≤4096 by omega)]
  cases (atI s14 i 0==0||atI s14 i 0==3)<;>rfl
theorem sP {N:Nat} {s0 s1 s2 s3 s4 s5 s6 s7 s8 s9 s10 s11 s12 s13 s15 s21 s22 s23 s25 s26 s27:Int} {s18 s20:Bool} {s14 s16 s17 s19 s24:Rows} (h:s14.length≤1048576) (hN:2097152<N):Eh N [.int s0,.int s1,.int s2,.int s3,.int s4,.int s5,.int s6,.int s7,.int s8,.int s9,.int s10,.int s11,.int s12,.int s13,.rows s14,.int s15,.rows s16,.rows s17,.bool s18,.rows s19,.bool s20,.int s21,.int s22,.int s23,.rows s24,.int s25,.int s26,.int s27]=some [.rows (B6 s14 s14.length)]:=by
 show KO (std (UE N) N) (xOf _)=_
 simp only [KO,std,xOf,PXb,PXc,PXn,AB]
 refine AH (Al (len:=s14.length) (fun i=>[.rows (B6 s14 i),.int (i:Int)]) [.rows (B6 s14 s14.length)] ?_ ?_ N (by omega)) rfl
 ·intro self
  simp only [PXb,PXc,PXn,AB,Au]
 ·intro i self hi
  have h2:(B6 s14 i++[[PV.int ((i:Int)+1)]]).length≤4194304:=by have:=UO s14 i;simp;omega
  simp only [PXb,PXc,PXn,AB,Aa (show i≤1099511627776 by omega),Aj hi,AQ hi,Bx,B6,DM h2 (show 8≤4096 by omega)]
  cases (atI s14 i 0==0||atI s14 i 0==3)<;>rfl
def TW (s:Inn) (p q:Int):Inn×Int :=
  cond (Cg s.batters) (s,1) (cond (!inR p s.batters.length || !inR q s.batters.length) (s,3) (cond (p==q) (s,4)
    ({ s with batters:=KE (KE s.batters p 1) q 1,striker:=p,other:=q },0)))
theorem mw {N:Nat} {s0 s1 s2 s3 s4 s5 s6 s7 s8 s9 s10 s11 s12 s13 s15 s21 s22 s23 s25 s26 s27:Int} {s18 s20:Bool} {s14 s16 s17 s19 s24:Rows} {p:Int} {q:Int} (h:Fit s14 s16 s17 s19 s24) (hN:2097152<N):Il N [.int s0,.int s1,.int s2,.int s3,.int s4,.int s5,.int s6,.int s7,.int s8,.int s9,.int s10,.int s11,.int s12,.int s13,.rows s14,.int s15,.rows s16,.rows s17,.bool s18,.rows s19,.bool s20,.int s21,.int s22,.int s23,.rows s24,.int s25,.int s26,.int s27,.int p,.int q]=some (AY (TW (⟨s0,s1,s2,s3,s4,s5,s6,s7,s8,s9,s10,s11,s12,s13,s14,s15,s16,s17,s18,s19,s20,s21,s22,s23,s24,s25,s26,s27⟩:Inn) p q)):=by
 show L7 (std (GL N) N) (xOf _)=_
 generalize hres:(some (AY (TW (⟨s0,s1,s2,s3,s4,s5,s6,s7,s8,s9,s10,s11,s12,s13,s14,s15,s16,s17,s18,s19,s20,s21,s22,s23,s24,s25,s26,s27⟩:Inn) p q)):Option (List PV))=RR
 simp only [L7,T7,SH,SE,std,xOf,PXb,PXc,PXn,PXm,Nat.reduceAdd,Int.reduceBEq,HU h,Xw h.bt hN,G8]
 subst hres;simp only [TW]
 cases Cg s14<;>try rfl
 cases hp:inR p s14.length<;>cases hq:inR q s14.length<;>try rfl
 rw [Db hp h.bt,Db hq h.bt]
 cases p==q<;>rfl
theorem sF {N:Nat} {s0 s1 s2 s3 s4 s5 s6 s7 s8 s9 s10 s11 s12 s13 s15 s21 s22 s23 s25 s26 s27:Int} {s18 s20:Bool} {s14 s16 s17 s19 s24:Rows} {p:Int} {q:Int} (h:Fit s14 s16 s17 s19 s24) (hN:2097152<N):S4 N [.int s0,.int s1,.int s2,.int s3,.int s4,.int s5,.int s6,.int s7,.int s8,.int s9,.int s10,.int s11,.int s12,.int s13,.rows s14,.int s15,.rows s16,.rows s17,.bool s18,.rows s19,.bool s20,.int s21,.int s22,.int s23,.rows s24,.int s25,.int s26,.int s27,.int p,.int q]=some (AY (TW (⟨s0,s1,s2,s3,s4,s5,s6,s7,s8,s9,s10,s11,s12,s13,s14,s15,s16,s17,s18,s19,s20,s21,s22,s23,s24,s25,s26,s27⟩:Inn) p q)):=by
 show TG (std (KG N) N) (xOf _)=_
 generalize hres:(some (AY (TW (⟨s0,s1,s2,s3,s4,s5,s6,s7,s8,s9,s10,s11,s12,s13,s14,s15,s16,s17,s18,s19,s20,s21,s22,s23,s24,s25,s26,s27⟩:Inn) p q)):Option (List PV))=RR
 simp only [TG,Y3,Yk,Xu,std,xOf,PXb,PXc,PXn,PXm,Nat.reduceAdd,Int.reduceBEq,CF h,Wv h.bt hN,OE]
 subst hres;simp only [TW]
 cases Cg s14<;>try rfl
 cases hp:inR p s14.length<;>cases hq:inR q s14.length<;>try rfl
 rw [Db hp h.bt,Db hq h.bt]
 cases p==q<;>rfl
def K6 (s:Inn) (p:Int):Int :=
 cond (!inR p s.batters.length) 3 (cond (!EC s.batters s.striker s.other||atI s.batters (ix p) 0==1) 4 (cond (atI s.batters (ix p) 0==2) 5 0))
theorem cT {N:Nat} {s0 s1 s2 s3 s4 s5 s6 s7 s8 s9 s10 s11 s12 s13 s15 s21 s22 s23 s25 s26 s27:Int} {s18 s20:Bool} {s14 s16 s17 s19 s24:Rows} {p:Int} (h:s14.length≤1048576) (hN:2097152<N):D2 N [.int s0,.int s1,.int s2,.int s3,.int s4,.int s5,.int s6,.int s7,.int s8,.int s9,.int s10,.int s11,.int s12,.int s13,.rows s14,.int s15,.rows s16,.rows s17,.bool s18,.rows s19,.bool s20,.int s21,.int s22,.int s23,.rows s24,.int s25,.int s26,.int s27,.int p]=some [.int (K6 (⟨s0,s1,s2,s3,s4,s5,s6,s7,s8,s9,s10,s11,s12,s13,s14,s15,s16,s17,s18,s19,s20,s21,s22,s23,s24,s25,s26,s27⟩:Inn) p)]:=by
 show Nl (std (KZ N) N) (xOf _)=_
 generalize hres:(some [.int (K6 (⟨s0,s1,s2,s3,s4,s5,s6,s7,s8,s9,s10,s11,s12,s13,s14,s15,s16,s17,s18,s19,s20,s21,s22,s23,s24,s25,s26,s27⟩:Inn) p)]:Option (List PV))=RR
 simp only [Nl,SG,Sj,std,xOf,PXb,PXc,PXn,PXm,Nat.reduceAdd,Int.reduceBEq,G8,Vz h hN]
 subst hres;simp only [K6]
 cases hp:inR p s14.length<;>try rfl
 rw [Db hp h]
 cases EC s14 s12 s13<;>try rfl
 simp only [PXb,PXc,PXn,PXm,Nat.reduceAdd,Int.reduceBEq,atI,ix]
theorem eE {N:Nat} {s0 s1 s2 s3 s4 s5 s6 s7 s8 s9 s10 s11 s12 s13 s15 s21 s22 s23 s25 s26 s27:Int} {s18 s20:Bool} {s14 s16 s17 s19 s24:Rows} {p:Int} (h:s14.length≤1048576) (hN:2097152<N):Em N [.int s0,.int s1,.int s2,.int s3,.int s4,.int s5,.int s6,.int s7,.int s8,.int s9,.int s10,.int s11,.int s12,.int s13,.rows s14,.int s15,.rows s16,.rows s17,.bool s18,.rows s19,.bool s20,.int s21,.int s22,.int s23,.rows s24,.int s25,.int s26,.int s27,.int p]=some [.int (K6 (⟨s0,s1,s2,s3,s4,s5,s6,s7,s8,s9,s10,s11,s12,s13,s14,s15,s16,s17,s18,s19,s20,s21,s22,s23,s24,s25,s26,s27⟩:Inn) p)]:=by
 show QN (std (L8 N) N) (xOf _)=_
 generalize hres:(some [.int (K6 (⟨s0,s1,s2,s3,s4,s5,s6,s7,s8,s9,s10,s11,s12,s13,s14,s15,s16,s17,s18,s19,s20,s21,s22,s23,s24,s25,s26,s27⟩:Inn) p)]:Option (List PV))=RR
 simp only [QN,WZ,WS,std,xOf,PXb,PXc,PXn,PXm,Nat.reduceAdd,Int.reduceBEq,OE,cP h hN]
 subst hres;simp only [K6]
 cases hp:inR p s14.length<;>try rfl
 rw [Db hp h]
 cases EC s14 s12 s13<;>try rfl
 simp only [PXb,PXc,PXn,PXm,Nat.reduceAdd,Int.reduceBEq,atI,ix]
theorem VH {s:Inn} {p:Int} (h:(K6 s p==0)=true):inR p s.batters.length=true:=by
 unfold K6 at h
 cases hp:inR p s.batters.length with
 | true=>rfl
 | false=>rw [hp] at h;cases h
def Og (s:Inn) (p:Int):Inn×Int :=
 cond (K6 s p==0) ({ s with batters:=KE s.batters p 1,striker:=cond (s.striker==0) p s.striker,other:=cond (s.striker==0) s.other p },0) (s,K6 s p)
def H8 (s:Inn) (p:Int):Inn×Int :=
 cond (K6 s p==0) ({ s with batters:=KE s.batters p 2,wickets:=IntKind.i64.wrap (s.wickets+1) },0) (s,K6 s p)
theorem kW {N:Nat} {s0 s1 s2 s3 s4 s5 s6 s7 s8 s9 s10 s11 s12 s13 s15 s21 s22 s23 s25 s26 s27:Int} {s18 s20:Bool} {s14 s16 s17 s19 s24:Rows} {p:Int} (h:Fit s14 s16 s17 s19 s24) (hN:2097152<N):Gy N [.int s0,.int s1,.int s2,.int s3,.int s4,.int s5,.int s6,.int s7,.int s8,.int s9,.int s10,.int s11,.int s12,.int s13,.rows s14,.int s15,.rows s16,.rows s17,.bool s18,.rows s19,.bool s20,.int s21,.int s22,.int s23,.rows s24,.int s25,.int s26,.int s27,.int p]=some (AY (Og (⟨s0,s1,s2,s3,s4,s5,s6,s7,s8,s9,s10,s11,s12,s13,s14,s15,s16,s17,s18,s19,s20,s21,s22,s23,s24,s25,s26,s27⟩:Inn) p)):=by
 show KX (std (IJ N) N) (xOf _)=_
 generalize hres:(some (AY (Og (⟨s0,s1,s2,s3,s4,s5,s6,s7,s8,s9,s10,s11,s12,s13,s14,s15,s16,s17,s18,s19,s20,s21,s22,s23,s24,s25,s26,s27⟩:Inn) p)):Option (List PV))=RR
 simp only [KX,Sy,Sw,std,xOf,PXb,PXc,PXn,PXm,Nat.reduceAdd,Int.reduceBEq,HU h,cT h.bt hN]
 subst hres;simp only [Og]
 cases hm:K6 (⟨s0,s1,s2,s3,s4,s5,s6,s7,s8,s9,s10,s11,s12,s13,s14,s15,s16,s17,s18,s19,s20,s21,s22,s23,s24,s25,s26,s27⟩:Inn) p==0<;>try rfl
 rw [Db (VH hm) h.bt]
 cases s12==0<;>rfl
theorem qI {N:Nat} {s0 s1 s2 s3 s4 s5 s6 s7 s8 s9 s10 s11 s12 s13 s15 s21 s22 s23 s25 s26 s27:Int} {s18 s20:Bool} {s14 s16 s17 s19 s24:Rows} {p:Int} (h:Fit s14 s16 s17 s19 s24) (hN:2097152<N):Qk N [.int s0,.int s1,.int s2,.int s3,.int s4,.int s5,.int s6,.int s7,.int s8,.int s9,.int s10,.int s11,.int s12,.int s13,.rows s14,.int s15,.rows s16,.rows s17,.bool s18,.rows s19,.bool s20,.int s21,.int s22,.int s23,.rows s24,.int s25,.int s26,.int s27,.int p]=some (AY (Og (⟨s0,s1,s2,s3,s4,s5,s6,s7,s8,s9,s10,s11,s12,s13,s14,s15,s16,s17,s18,s19,s20,s21,s22,s23,s24,s25,s26,s27⟩:Inn) p)):=by
 show Qc (std (L6 N) N) (xOf _)=_
 generalize hres:(some (AY (Og (⟨s0,s1,s2,s3,s4,s5,s6,s7,s8,s9,s10,s11,s12,s13,s14,s15,s16,s17,s18,s19,s20,s21,s22,s23,s24,s25,s26,s27⟩:Inn) p)):Option (List PV))=RR
 simp only [Qc,XZ,W4,std,xOf,PXb,PXc,PXn,PXm,Nat.reduceAdd,Int.reduceBEq,CF h,eE h.bt hN]
 subst hres;simp only [Og]
 cases hm:K6 (⟨s0,s1,s2,s3,s4,s5,s6,s7,s8,s9,s10,s11,s12,s13,s14,s15,s16,s17,s18,s19,s20,s21,s22,s23,s24,s25,s26,s27⟩:Inn) p==0<;>try rfl
 rw [Db (VH hm) h.bt]
 cases s12==0<;>rfl
theorem gm {N:Nat} {s0 s1 s2 s3 s4 s5 s6 s7 s8 s9 s10 s11 s12 s13 s15 s21 s22 s23 s25 s26 s27:Int} {s18 s20:Bool} {s14 s16 s17 s19 s24:Rows} {p:Int} (h:Fit s14 s16 s17 s19 s24) (hN:2097152<N):FP N [.int s0,.int s1,.int s2,.int s3,.int s4,.int s5,.int s6,.int s7,.int s8,.int s9,.int s10,.int s11,.int s12,.int s13,.rows s14,.int s15,.rows s16,.rows s17,.bool s18,.rows s19,.bool s20,.int s21,.int s22,.int s23,.rows s24,.int s25,.int s26,.int s27,.int p]=some (AY (H8 (⟨s0,s1,s2,s3,s4,s5,s6,s7,s8,s9,s10,s11,s12,s13,s14,s15,s16,s17,s18,s19,s20,s21,s22,s23,s24,s25,s26,s27⟩:Inn) p)):=by
 show H0 (std (Dy N) N) (xOf _)=_
 generalize hres:(some (AY (H8 (⟨s0,s1,s2,s3,s4,s5,s6,s7,s8,s9,s10,s11,s12,s13,s14,s15,s16,s17,s18,s19,s20,s21,s22,s23,s24,s25,s26,s27⟩:Inn) p)):Option (List PV))=RR
 simp only [H0,Ri,PH,RA,std,xOf,PXb,PXc,PXn,PXm,Nat.reduceAdd,Int.reduceBEq,HU h,cT h.bt hN,G8]
 subst hres;simp only [H8]
 cases hm:K6 (⟨s0,s1,s2,s3,s4,s5,s6,s7,s8,s9,s10,s11,s12,s13,s14,s15,s16,s17,s18,s19,s20,s21,s22,s23,s24,s25,s26,s27⟩:Inn) p==0<;>try rfl
 have hk:inR p s14.length=true:=VH hm
 rw [Db hk h.bt,hk]
 rfl
theorem mX {N:Nat} {s0 s1 s2 s3 s4 s5 s6 s7 s8 s9 s10 s11 s12 s13 s15 s21 s22 s23 s25 s26 s27:Int} {s18 s20:Bool} {s14 s16 s17 s19 s24:Rows} {p:Int} (h:Fit s14 s16 s17 s19 s24) (hN:2097152<N):MA N [.int s0,.int s1,.int s2,.int s3,.int s4,.int s5,.int s6,.int s7,.int s8,.int s9,.int s10,.int s11,.int s12,.int s13,.rows s14,.int s15,.rows s16,.rows s17,.bool s18,.rows s19,.bool s20,.int s21,.int s22,.int s23,.rows s24,.int s25,.int s26,.int s27,.int p]=some (AY (H8 (⟨s0,s1,s2,s3,s4,s5,s6,s7,s8,s9,s10,s11,s12,s13,s14,s15,s16,s17,s18,s19,s20,s21,s22,s23,s24,s25,s26,s27⟩:Inn) p)):=by
 show L4 (std (JZ N) N) (xOf _)=_
 generalize hres:(some (AY (H8 (⟨s0,s1,s2,s3,s4,s5,s6,s7,s8,s9,s10,s11,s12,s13,s14,s15,s16,s17,s18,s19,s20,s21,s22,s23,s24,s25,s26,s27⟩:Inn) p)):Option (List PV))=RR
 simp only [L4,Uz,Us,std,xOf,PXb,PXc,PXn,PXm,Nat.reduceAdd,Int.reduceBEq,CF h,eE h.bt hN]
 subst hres;simp only [H8]
 cases hm:K6 (⟨s0,s1,s2,s3,s4,s5,s6,s7,s8,s9,s10,s11,s12,s13,s14,s15,s16,s17,s18,s19,s20,s21,s22,s23,s24,s25,s26,s27⟩:Inn) p==0<;>try rfl
 rw [Db (VH hm) h.bt]
 rfl
def KQ (s:Inn) (p:Int) (hurt:Bool):Inn×Int :=
  cond (!inR p s.batters.length) (s,3) (cond (s.striker==0||s.other==0) (s,6) (cond (!(p==s.striker) && !(p==s.other)) (s,4)
    (cond (hurt&&((B6 s.batters s.batters.length).length:Int)==0) (s,19)
      ({ s with striker:=cond (p==s.striker) 0 s.striker,other:=cond (p==s.striker) s.other 0,batters:=KE s.batters p (cond hurt 3 2),wickets:=cond hurt s.wickets (IntKind.i64.wrap (s.wickets+1)) },0))))
theorem jH {N:Nat} {s0 s1 s2 s3 s4 s5 s6 s7 s8 s9 s10 s11 s12 s13 s15 s21 s22 s23 s25 s26 s27:Int} {s18 s20:Bool} {s14 s16 s17 s19 s24:Rows} {p:Int} {b:Bool} (h:Fit s14 s16 s17 s19 s24) (hN:2097152<N):F5 N [.int s0,.int s1,.int s2,.int s3,.int s4,.int s5,.int s6,.int s7,.int s8,.int s9,.int s10,.int s11,.int s12,.int s13,.rows s14,.int s15,.rows s16,.rows s17,.bool s18,.rows s19,.bool s20,.int s21,.int s22,.int s23,.rows s24,.int s25,.int s26,.int s27,.int p,.bool b]=some (AY (KQ (⟨s0,s1,s2,s3,s4,s5,s6,s7,s8,s9,s10,s11,s12,s13,s14,s15,s16,s17,s18,s19,s20,s21,s22,s23,s24,s25,s26,s27⟩:Inn) p b)):=by
 show JM (std (EX N) N) (xOf _)=_
 generalize hres:(some (AY (KQ (⟨s0,s1,s2,s3,s4,s5,s6,s7,s8,s9,s10,s11,s12,s13,s14,s15,s16,s17,s18,s19,s20,s21,s22,s23,s24,s25,s26,s27⟩:Inn) p b)):Option (List PV))=RR
 simp only [JM,RF,R0,QA,std,xOf,PXb,PXc,PXn,PXm,Nat.reduceAdd,Int.reduceBEq,HU h,G8,nB h.bt hN]
 subst hres;simp only [KQ]
 cases hp:inR p s14.length<;>try rfl
 rw [Db hp h.bt]
 cases s12==0<;>cases s13==0<;>try rfl
 cases p==s12<;>cases p==s13<;>cases b<;>try rfl
 all_goals (simp only [PXb,PXc,PXn,PXm,Nat.reduceAdd,Int.reduceBEq];cases ((B6 s14 s14.length).length:Int)==0<;>rfl)
theorem tx (L:Rows) (p a b:Int):KE (KE L p a) p b=KE L p b:=by
 unfold KE
 rw [List.set_set]
 rcases Nat.lt_or_ge (ix p) L.length with h | h
 ·have:Ai (L.set (ix p) (CO (Ai L (ix p)) 0 [.int a])) (ix p)=CO (Ai L (ix p)) 0 [.int a]:=by
   unfold Ai
   simp [List.getD_eq_getElem?_getD,List.getElem?_set,h]
  rw [this]
  simp only [CO,List.set_set]
 ·rw [List.set_eq_of_length_le h,List.set_eq_of_length_le h]
theorem o3 {N:Nat} {s0 s1 s2 s3 s4 s5 s6 s7 s8 s9 s10 s11 s12 s13 s15 s21 s22 s23 s25 s26 s27:Int} {s18 s20:Bool} {s14 s16 s17 s19 s24:Rows} {p:Int} {b:Bool} (h:Fit s14 s16 s17 s19 s24) (hN:2097152<N):N6 N [.int s0,.int s1,.int s2,.int s3,.int s4,.int s5,.int s6,.int s7,.int s8,.int s9,.int s10,.int s11,.int s12,.int s13,.rows s14,.int s15,.rows s16,.rows s17,.bool s18,.rows s19,.bool s20,.int s21,.int s22,.int s23,.rows s24,.int s25,.int s26,.int s27,.int p,.bool b]=some (AY (KQ (⟨s0,s1,s2,s3,s4,s5,s6,s7,s8,s9,s10,s11,s12,s13,s14,s15,s16,s17,s18,s19,s20,s21,s22,s23,s24,s25,s26,s27⟩:Inn) p b)):=by
 show ON (std (HM N) N) (xOf _)=_
 generalize hres:(some (AY (KQ (⟨s0,s1,s2,s3,s4,s5,s6,s7,s8,s9,s10,s11,s12,s13,s14,s15,s16,s17,s18,s19,s20,s21,s22,s23,s24,s25,s26,s27⟩:Inn) p b)):Option (List PV))=RR
 simp only [ON,Wt,XQ,Uy,std,xOf,PXb,PXc,PXn,PXm,Nat.reduceAdd,Int.reduceBEq,CF h,OE,sP h.bt hN]
 subst hres;simp only [KQ]
 rw [BEq.comm (a:=s12) (b:=p),BEq.comm (a:=s13) (b:=p)]
 cases hp:inR p s14.length<;>try rfl
 simp only [Db hp h.bt,PXb,PXc,PXn,PXm,Nat.reduceAdd,Int.reduceBEq]
 have e:=tx s14 p 3 2
 cases s12==0<;>cases s13==0<;>try rfl
 cases p==s12<;>cases p==s13<;>cases b<;>try rfl
 all_goals (simp only [PXb,PXc,PXn,PXm,Nat.reduceAdd,Int.reduceBEq];first | rfl | (cases ((B6 s14 s14.length).length:Int)==0<;>first | rfl | (rw [← e];rfl)) | (rw [← e];rfl))
end Go.Px
end
section
namespace Go.Px
set_option maxRecDepth 100000
def btw (a b c:Int):Bool:=iLe b a&&iLe a c
theorem D6 (N:Nat) (a b c:Int):Ak N [.int a,.int b,.int c]=some [.bool (btw a b c)]:=by
 show some [PV.bool (cond (iLe b a) (iLe a c) false)]=_
 rw [QR];rfl
theorem Mr (N:Nat) (a b c:Int):Cq N [.int a,.int b,.int c]=some [.bool (btw a b c)]:=by
 show some [PV.bool (cond (iLe b a) (iLe a c) false)]=_
 rw [QR];rfl
theorem uI (N:Nat) (a b c:Int):Tv N [.int a,.int b,.int c]=some [.bool (btw a b c)]:=by
 show some [PV.bool (cond (iLe b a) (iLe a c) false)]=_
 rw [QR];rfl
theorem aV (N:Nat) (a b c:Int):E5 N [.int a,.int b,.int c]=some [.bool (btw a b c)]:=by
 show some [PV.bool (cond (iLe b a) (iLe a c) false)]=_
 rw [QR];rfl
def GV (x1 x2 x3 x4 x5 x6 x7 x9 x10 x11 x12:Int):Bool:=btw x1 2 11&&btw x2 1 2&&btw x3 0 90&&btw x4 4 8&&btw x5 0 90&&btw x6 1 5&&btw x7 1 5&&btw x9 0 200&&btw x10 0 1000&&btw x11 0 9&&btw x12 0 11
theorem gk (N : Nat) (x0 : ByteArray) (x1 x2 x3 x4 x5 x6 x7 x9 x10 x11 x12 : Int) (x8 : Bool) (x13 : Rows) :
   F6 N [.str x0,.int x1,.int x2,.int x3,.int x4,.int x5,.int x6,.int x7,.bool x8,.int x9,.int x10,.int x11,.int x12,.rows x13]=some [.bool (GV x1 x2 x3 x4 x5 x6 x7 x9 x10 x11 x12)]:=by
  show JX (std (LA N) N) (xOf _)=_
  have e:∀ ls,LA N 87 [] ls=Cq N ls:=fun ls=>rfl
  simp only [JX,std,xOf,e,Mr,PXb,PXc,PXn,AB,GV]
def Pn (s:ByteArray) (i:Nat):Bool := !(iLe 65 (Lz s i)&&iLe (Lz s i) 90)&&((i:Int)==0||((!(Lz s i==95) && !(Lz s i==45))&&(iLt (Lz s i) 48||iLt 57 (Lz s i))))
def Lj (s:ByteArray):Bool := !Ao (Pn s) s.size 0&&(iLe 1 s.size&&iLe s.size 16)
theorem yD (s:ByteArray):(Fx s).length=s.size:=by
 simp only [Fx,List.length_map,Array.length_toList];rfl
theorem yo (s:ByteArray) (i:Nat) (h:i<s.size):pvI (AE (Fx s) i 0)=Lz s i:=by
 unfold AE Ai AJ Fx Lz
 simp only [List.getD_eq_getElem?_getD,List.getElem?_map]
 have:i<s.data.toList.length:=by simpa using h
 rw [List.getElem?_eq_getElem this]
 simp [List.getElem?_eq_getElem this]
theorem o4 (N:Nat) (s:ByteArray) (hN:s.size<N) (hs:s.size≤1048576):LM N [.str s]=some [.bool (Lj s)]:=by
 show Ql (std (Zm N) N) (xOf _)=_
 simp only [Ql,std,xOf,yD,PXb,PXc,PXn,AB]
 refine AH (Cj (len:=s.size) (Pn s) [.bool false] ?_ ?_ N hN) ?_
 ·intro self
  simp only [PXb,PXc,PXn,AB,Au]
 ·intro i self hi
  simp only [PXb,PXc,PXn,AB,Int.toNat_natCast,yo s i hi,Aa (show i≤1099511627776 by omega),Aj hi,AQ hi,Pn]
 ·unfold Lj
  cases Ao (Pn s) s.size 0<;>rfl
theorem wi (bs:ByteArray) (i:Nat) (r:List UInt8):(ByteArray.toList.loop bs i r).length=r.length+(bs.size - i):=by
 induction i,r using ByteArray.toList.loop.induct (bs:=bs) with
 | case1 i r h ih=>unfold ByteArray.toList.loop;rw [if_pos h,ih];simp;omega
 | case2 i r h=>unfold ByteArray.toList.loop;rw [if_neg h];simp;omega
theorem jv (bs:ByteArray):bs.toList.length=bs.size:=by
 unfold ByteArray.toList;rw [wi];simp
theorem qR (s:ByteArray):(s.toList==(⟨#[]⟩:ByteArray).toList) = !iLe 1 (s.size:Int):=by
 have h:=jv s
 have h0:=jv (⟨#[]⟩:ByteArray)
 rw [Bool.eq_iff_iff]
 simp only [beq_iff_eq,iLe,Bool.not_eq_true',decide_eq_false_iff_not]
 constructor
 ·intro e;rw [e,h0] at h
  have:(⟨#[]⟩:ByteArray).size=0:=rfl
  omega
 ·intro e
  have e1:s.toList=[]:=List.eq_nil_of_length_eq_zero (by omega)
  have e2:(⟨#[]⟩:ByteArray).toList=[]:=List.eq_nil_of_length_eq_zero h0
  rw [e1,e2]
theorem q0 (N:Nat) (s:ByteArray) (hN:s.size<N) (hs:s.size≤1048576):Oc N [.str s]=some [.bool (Lj s)]:=by
 show TR (std (ac N) N) (xOf _)=_
 simp only [TR,std,xOf,PXb,PXc,PXn,AB,qR]
 have e:iLe 1 (s.size:Int)=false∨iLe 1 (s.size:Int)=true:=by cases iLe 1 (s.size:Int)<;>simp
 have e2:iLt 16 (s.size:Int) = !iLe (s.size:Int) 16:=by unfold iLt iLe;rw [Bool.eq_iff_iff];simp
 rw [e2]
 cases h:iLe 1 (s.size:Int)&&iLe (s.size:Int) 16 with
 | false =>
  have:(!iLe 1 (s.size:Int) || !iLe (s.size:Int) 16)=true:=by rw [← Bool.not_and,h];rfl
  simp only [this,cond_true,Lj,h,Bool.and_false]
 | true =>
  have:(!iLe 1 (s.size:Int) || !iLe (s.size:Int) 16)=false:=by rw [← Bool.not_and,h];rfl
  simp only [this,cond_false,Lj,h,Bool.and_true]
  refine AH (Cj (len:=s.size) (Pn s) [.bool false] ?_ ?_ N hN) ?_
  ·intro self
   simp only [PXb,PXc,PXn,AB,Au]
  ·intro i self hi
   simp only [PXb,PXc,AB,Int.toNat_natCast,Aa (show i≤1099511627776 by omega),Aj hi,AQ hi,Pn]
   cases (iLe 65 (Lz s i)&&iLe (Lz s i) 90)<;>rfl
  ·cases Ao (Pn s) s.size 0<;>rfl
end Go.Px
end
section
namespace Go.Px
set_option maxRecDepth 100000
theorem rK {i len:Nat} (h:i<len) (hl:len≤1099511627776):(!iLt 0 (i:Int)||iIn (IntKind.i64.wrap ((i:Int) - 1)) (len:Int))=true:=by
 rw [FJ (by omega) (by omega)]
 simp only [iLt,iIn,Bool.or_eq_true,Bool.not_eq_true',decide_eq_false_iff_not,decide_eq_true_eq]
 omega
def sa (L:Rows) (ov:Int) (i:Nat):Bool:=(iLt (atI L i 0) 1||iLt (atI L i 1) (atI L i 0)||iLt ov (atI L i 1)) || !btw (atI L i 2) 0 11
def na (L:Rows) (i:Nat):Bool:=iLt 0 (i:Int)&&iLe (atI L i 0) (pvI (AE L (IntKind.i64.wrap ((i:Int) - 1)).toNat 1))
def iV (L:Rows) (ov:Int) (i:Nat):Option (List PV):=cond (sa L ov i) (some [.int 2]) (cond (na L i) (some [.int 8]) none)
def vV:Option (List PV)→Int
 | none=>0
 | some r=>pvI (AJ r 0)
def jI (L:Rows) (ov:Int):Int:=cond (iLt 8 (L.length:Int)) 9 (vV (CR (iV L ov) L.length 0))
theorem Yq (o:Option (List PV)):cond (pvI (AJ (TB o) 0)==((0:Nat):Int)) (some [PV.int (pvI (AJ (TB o) 1))]) (some [PV.int 0])=some [PV.int (vV o)]:=by
 cases o<;>rfl
theorem jh (N : Nat) (x0 : ByteArray) (x1 x2 x3 x4 x5 x6 x7 x9 x10 x11 x12 : Int) (x8 : Bool) (L : Rows) (hN : 2097152 < N) :
   HL N [.str x0,.int x1,.int x2,.int x3,.int x4,.int x5,.int x6,.int x7,.bool x8,.int x9,.int x10,.int x11,.int x12,.rows L]=some [.int (jI L x3)]:=by
  show KU (std (Me N) N) (xOf _)=_
  have e:∀ ls,Me N 87 [] ls=Cq N ls:=fun ls=>rfl
  simp only [KU,std,xOf,e,Mr,PXb,PXc,PXn,AB,jI]
  cases h8:iLt 8 (L.length:Int) with
  | true=>rfl
  | false =>
    have hl:L.length≤8:=by simp [iLt] at h8;omega
    simp only [cond_false]
    refine AH (Cm (len:=L.length) (iV L x3) ?_ ?_ L.length 0 N (by omega) (by omega)) ?_
    · intro self
      simp only [PXb,PXc,PXn,AB,Au]
    · intro i self hi
      simp only [PXb,PXc,PXn,AB,Int.toNat_natCast,Aa (show i≤1099511627776 by omega),Aj hi,AQ hi,Mr,e,rK hi (by omega)]
      simp only [iV,sa,na,atI]
      cases (iLt (pvI (AE L i 0)) 1||iLt (pvI (AE L i 1)) (pvI (AE L i 0))||iLt x3 (pvI (AE L i 1)) || !btw (pvI (AE L i 2)) 0 11) <;>
      cases (iLt 0 (i:Int)&&iLe (pvI (AE L i 0)) (pvI (AE L (IntKind.i64.wrap ((i:Int) - 1)).toNat 1)))<;>rfl
    · exact Yq _
def D9 (x0:ByteArray) (x1 x2 x3 x4 x5 x6 x7 x9 x10 x11 x12:Int) (L:Rows):Int :=
  cond (!Lj x0) 5 (cond (!GV x1 x2 x3 x4 x5 x6 x7 x9 x10 x11 x12) 2
    (cond ((!(x10==0)&&x2==1)||((!(x5==0)||iLt 0 (L.length:Int))&&x3==0)) 1
      (cond (!(x5==0)&&iLt (IntKind.i64.wrap (x5 * x1)) x3) 13 (jI L x3))))
theorem X0 (N : Nat) (x0 : ByteArray) (x1 x2 x3 x4 x5 x6 x7 x9 x10 x11 x12 : Int) (x8 : Bool) (L : Rows) (hN : 2097152 < N) (hs : x0.size ≤ 1048576) :
   AW N [.str x0,.int x1,.int x2,.int x3,.int x4,.int x5,.int x6,.int x7,.bool x8,.int x9,.int x10,.int x11,.int x12,.rows L]=some [.int (D9 x0 x1 x2 x3 x4 x5 x6 x7 x9 x10 x11 x12 L)]:=by
  show Lq (std (Fv N) N) (xOf _)=_
  have e:∀ ls,Fv N 57 [] ls=LM N ls:=fun ls=>rfl
  have e2:∀ ls,Fv N 58 [] ls=F6 N ls:=fun ls=>rfl
  have e3:∀ ls,Fv N 59 [] ls=HL N ls:=fun ls=>rfl
  simp only [Lq,std,xOf,e,e2,e3,o4 N x0 (by omega) hs,gk,jh N _ _ _ _ _ _ _ _ _ _ _ _ _ _ hN,PXb,PXc,AB,D9]
  cases Lj x0<;>cases GV x1 x2 x3 x4 x5 x6 x7 x9 x10 x11 x12<;>try rfl
  simp only [PXb,PXc,AB,Bool.not_true]
  cases (!(x10==0)&&x2==1)<;>cases ((!(x5==0)||iLt 0 (L.length:Int))&&x3==0)<;>try rfl
  cases (!(x5==0)&&iLt (IntKind.i64.wrap (x5 * x1)) x3)<;>rfl
theorem bZ (N : Nat) (x0 : ByteArray) (x1 x2 x3 x4 x5 x6 x7 x9 x10 x11 x12 : Int) (x8 : Bool) (L : Rows) (hN : 2097152 < N) (hs : x0.size ≤ 1048576) :
   Ap N [.str x0,.int x1,.int x2,.int x3,.int x4,.int x5,.int x6,.int x7,.bool x8,.int x9,.int x10,.int x11,.int x12,.rows L]=some [.int (D9 x0 x1 x2 x3 x4 x5 x6 x7 x9 x10 x11 x12 L)]:=by
  show QP (std (MT N) N) (xOf _)=_
  have e:∀ ls,MT N 121 [] ls=Oc N ls:=fun ls=>rfl
  have e2:∀ ls,MT N 122 [] ls=Tv N ls:=fun ls=>rfl
  simp only [QP,std,xOf,e,e2,q0 N x0 (by omega) hs,uI,PXb,PXc,PXn,AB]
  simp only [← Bool.not_and,D9]
  rw [show (btw x1 2 11&&btw x2 1 2&&btw x3 0 90&&btw x4 4 8&&btw x5 0 90&&btw x6 1 5&&btw x7 1 5&&btw x9 0 200&&btw x10 0 1000&&btw x11 0 9&&btw x12 0 11)=GV x1 x2 x3 x4 x5 x6 x7 x9 x10 x11 x12 from rfl]
  rw [Bool.and_comm (x3==0)]
  cases Lj x0<;>cases GV x1 x2 x3 x4 x5 x6 x7 x9 x10 x11 x12<;>try rfl
  cases (!(x10==0)&&x2==1)||((!(x5==0)||iLt 0 (L.length:Int))&&x3==0)<;>try rfl
  cases (!(x5==0)&&iLt (IntKind.i64.wrap (x5 * x1)) x3)<;>try rfl
  simp only [Bool.not_true,cond_false,jI]
  cases h8:iLt 8 (L.length:Int) with
  | true=>rfl
  | false =>
    have hl:L.length≤8:=by simp [iLt] at h8;omega
    simp only [cond_false]
    refine AH (Cm (len:=L.length) (iV L x3) ?_ ?_ L.length 0 N (by omega) (by omega)) ?_
    · intro self
      simp only [PXb,PXc,PXn,AB,Au]
    · intro i self hi
      simp only [PXb,PXc,PXn,AB,Int.toNat_natCast,Aa (show i≤1099511627776 by omega),Aj hi,AQ hi,rK hi (by omega)]
      simp only [iV,sa,na,atI]
      cases (iLt (pvI (AE L i 0)) 1||iLt (pvI (AE L i 1)) (pvI (AE L i 0))||iLt x3 (pvI (AE L i 1)) || !btw (pvI (AE L i 2)) 0 11) <;>
      cases (iLt 0 (i:Int)&&iLe (pvI (AE L i 0)) (pvI (AE L (IntKind.i64.wrap ((i:Int) - 1)).toNat 1)))<;>rfl
    · exact Yq _
end Go.Px
end
section
namespace Go.Px
set_option maxRecDepth 100000
theorem aA (N:Nat) (L:Rows) (v:Int) (hN:L.length<N) (hl:L.length≤2097152):D7 N [.rows L,.int v]=some [.int (SF (fun j=>v==atI L j 0) L.length)]:=by
 show Fy (std (PC N) N) (xOf _)=_
 simp only [Fy,std,xOf,PXb,PXc,PXn,AB]
 refine AH (Cm (len:=L.length) (GU fun j=>v==atI L j 0) ?_ ?_ L.length 0 N (by omega) (by omega)) ?_
 ·intro self
  simp only [PXb,PXc,PXn,AB,Au]
 ·intro i self hi
  simp only [PXb,PXc,PXn,AB,Aa (show i≤1099511627776 by omega),Aj hi,AQ hi,GU,Bx]
  cases v==atI L i 0<;>rfl
 ·unfold SF
  cases CR (GU fun j=>v==atI L j 0) L.length 0<;>rfl
def Hb (L:Rows) (k:Nat) (v:Int):Bool:=Ao (fun j=>v==atI L j 0) k 0
theorem Lg (N:Nat) (L:Rows) (v:Int) (hN:L.length<N) (hl:L.length≤2097152):Aq N [.rows L,.int v]=some [.bool (Hb L L.length v)]:=by
 show EL (std (Ff N) N) (xOf _)=_
 have e:∀ ls,Ff N 118 [] ls=D7 N ls:=fun ls=>rfl
 simp only [EL,std,xOf,PXb,PXc,PXn,AB,e,aA N L v hN hl,Ks,Hb]
theorem vq (L:Rows) (i:Nat) (v:Int) (h:i≤L.length):Hb (L.take i) (L.take i).length v=Hb L i v:=by
 rw [List.length_take,Nat.min_eq_left h]
 exact jb i 0 (fun j _ hj=>by rw [nj (by omega)])
def K0 (L:Rows) (n:Int) (i:Nat):Bool := !btw (atI L i 0) 1 n||Hb L i (atI L i 0)
def GK (L:Rows) (n:Int):Bool := !Ao (K0 L n) L.length 0
theorem OL (N:Nat) (L:Rows) (n:Int) (hN:L.length<N) (hl:L.length≤2097152):Df N [.rows L,.int n]=some [.bool (GK L n)]:=by
 show FY (std (EJ N) N) (xOf _)=_
 have e:∀ ls,EJ N 60 [] ls=Ak N ls:=fun ls=>rfl
 have e2:∀ ls,EJ N 88 [] ls=Aq N ls:=fun ls=>rfl
 simp only [FY,std,xOf,PXb,PXc,PXn,AB]
 refine AH (Cj (len:=L.length) (K0 L n) [.bool false] ?_ ?_ N hN) ?_
 ·intro self
  simp only [PXb,PXc,PXn,AB,Au]
 ·intro i self hi
  have h1:(L.take i).length≤L.length:=List.length_take_le' i L
  simp only [PXb,PXc,PXn,AB,Aa (show i≤1099511627776 by omega),Aj hi,AQ hi,e,e2,D6,wv (Nat.le_of_lt hi),Int.toNat_zero,List.drop_zero,Lg N (L.take i) _ (by omega) (by omega),vq L i _ (by omega),Bx,K0]
  cases btw (atI L i 0) 1 n<;>cases Hb L i (atI L i 0)<;>rfl
 ·unfold GK
  cases Ao (K0 L n) L.length 0<;>rfl
theorem jx (N:Nat) (L:Rows) (n:Int) (hN:L.length<N) (hl:L.length≤2097152):RK N [.rows L,.int n]=some [.bool (GK L n)]:=by
 show VF (std (Wd N) N) (xOf _)=_
 have e:∀ ls,Wd N 153 [] ls=E5 N ls:=fun ls=>rfl
 simp only [VF,std,xOf,PXb,PXc,PXn,AB]
 refine AH (Cj (len:=L.length) (K0 L n) [.bool false] ?_ ?_ N hN) ?_
 ·intro self
  simp only [PXb,PXc,PXn,AB,Au]
 ·intro i self hi
  have h1:(L.take i).length=i:=by rw [List.length_take];omega
  simp only [PXb,PXc,PXn,AB,Aa (show i≤1099511627776 by omega),Aj hi,AQ hi,e,aV,wv (Nat.le_of_lt hi),Int.toNat_zero,List.drop_zero,Bx,K0,h1]
  cases btw (atI L i 0) 1 n with
  | false=>rfl
  | true =>
   simp only [PXb,PXc,PXn,AB]
   refine AH (T2 (len:=i) (fun j=>[.int (j:Int)]) (fun j=>atI L i 0==atI L j 0) [.int 0,.bool false] [.int 1,.int (i:Int)] ?_ ?_ N (by omega)) ?_
   ·intro self
    simp only [PXb,PXc,PXn,AB,Au]
   ·intro j self hj
    simp only [PXb,PXc,PXn,AB,Aa (show j≤1099511627776 by omega),Aj hj,AQ hj,nj hj]
    rfl
   ·unfold Hb
    cases Ao (fun j=>atI L i 0==atI L j 0) i 0<;>rfl
 ·unfold GK
  cases Ao (K0 L n) L.length 0<;>rfl
theorem dy (N:Nat) (v:Int):C5 N [.int v]=some [.bool (!(v==0))]:=rfl
def lsI (L14 L16 L17 L19 L24:Rows) (b18 b20:Bool) (x0 x1 x2 x3 x4 x5 x6 x7 x8 x9 x10 x11 x12 x13 x15 x21 x22 x23 x25 x26 x27:Int):List PV :=
 [.int x0,.int x1,.int x2,.int x3,.int x4,.int x5,.int x6,.int x7,.int x8,.int x9,.int x10,.int x11,.int x12,.int x13,.rows L14,.int x15,.rows L16,.rows L17,.bool b18,.rows L19,.bool b20,.int x21,.int x22,.int x23,.rows L24,.int x25,.int x26,.int x27]
section
variable (N:Nat) (L14 L16 L17 L19 L24:Rows) (b18 b20:Bool) (x0 x1 x2 x3 x4 x5 x6 x7 x8 x9 x10 x11 x12 x13 x15 x21 x22 x23 x25 x26 x27:Int)
theorem jX (hN:L14.length<N) (hl:L14.length≤2097152):CJ N (lsI L14 L16 L17 L19 L24 b18 b20 x0 x1 x2 x3 x4 x5 x6 x7 x8 x9 x10 x11 x12 x13 x15 x21 x22 x23 x25 x26 x27)=some [.bool (Cg L14)]:=by
 show Eu (std (FL N) N) (xOf (lsI ..))=_
 have e:∀ ls,FL N 191 [] ls=C5 N ls:=fun ls=>rfl
 simp only [Eu,std,xOf,lsI,PXb,PXc,PXn,AB]
 rw [show Cg L14=iLe 0 (SF (fun i => !(atI L14 i 0==0)) L14.length) from (Ks _ _).symm]
 rw [Option.bind_assoc]
 refine AH (Cm (len:=L14.length) (GU fun i => !(atI L14 i 0==0)) ?_ ?_ L14.length 0 N (by omega) (by omega)) ?_
 ·intro self
  simp only [PXb,PXc,PXn,AB,Au]
 ·intro i self hi
  simp only [PXb,PXc,PXn,AB,Aa (show i≤1099511627776 by omega),Aj hi,AQ hi,GU,Bx,e,dy]
  cases atI L14 i 0==0<;>rfl
 ·unfold SF
  cases CR (GU fun i => !(atI L14 i 0==0)) L14.length 0<;>rfl
theorem cM (hN:L14.length<N) (hl:L14.length≤2097152):Bh N (lsI L14 L16 L17 L19 L24 b18 b20 x0 x1 x2 x3 x4 x5 x6 x7 x8 x9 x10 x11 x12 x13 x15 x21 x22 x23 x25 x26 x27)=some [.bool (Cg L14)]:=by
 show I5 (std (R2 N) N) (xOf (lsI ..))=_
 simp only [I5,std,xOf,lsI,PXb,PXc,PXn,AB]
 refine AH (Cj (len:=L14.length) (fun i => !(atI L14 i 0==0)) [.bool true] ?_ ?_ N hN) ?_
 ·intro self
  simp only [PXb,PXc,PXn,AB,Au]
 ·intro i self hi
  simp only [PXb,PXc,PXn,AB,Aa (show i≤1099511627776 by omega),Aj hi,AQ hi,Bx]
 ·unfold Cg
  cases Ao (fun i => !(atI L14 i 0==0)) L14.length 0<;>rfl
theorem gx (hN:L14.length<N) (hl:L14.length≤2097152):BP N (lsI L14 L16 L17 L19 L24 b18 b20 x0 x1 x2 x3 x4 x5 x6 x7 x8 x9 x10 x11 x12 x13 x15 x21 x22 x23 x25 x26 x27)=some [.bool (EC L14 x12 x13)]:=by
 show EK (std (Eb N) N) (xOf (lsI ..))=_
 have e:∀ ls,Eb N 161 [] ls=CJ N ls:=fun ls=>rfl
 have:=jX N L14 L16 L17 L19 L24 b18 b20 x0 x1 x2 x3 x4 x5 x6 x7 x8 x9 x10 x11 x12 x13 x15 x21 x22 x23 x25 x26 x27 hN hl
 simp only [lsI] at this
 simp only [EK,std,xOf,lsI,PXb,PXc,PXn,AB,e,this,EC]
theorem mq (hN:L14.length<N) (hl:L14.length≤2097152):Cb N (lsI L14 L16 L17 L19 L24 b18 b20 x0 x1 x2 x3 x4 x5 x6 x7 x8 x9 x10 x11 x12 x13 x15 x21 x22 x23 x25 x26 x27)=some [.bool (EC L14 x12 x13)]:=by
 show Hj (std (HY N) N) (xOf (lsI ..))=_
 have e:∀ ls,HY N 156 [] ls=Bh N ls:=fun ls=>rfl
 have:=cM N L14 L16 L17 L19 L24 b18 b20 x0 x1 x2 x3 x4 x5 x6 x7 x8 x9 x10 x11 x12 x13 x15 x21 x22 x23 x25 x26 x27 hN hl
 simp only [lsI] at this
 simp only [Hj,std,xOf,lsI,PXb,PXc,PXn,AB,e,this,EC]
theorem kq (hN:L14.length<N) (hl:L14.length≤2097152):C2 N (lsI L14 L16 L17 L19 L24 b18 b20 x0 x1 x2 x3 x4 x5 x6 x7 x8 x9 x10 x11 x12 x13 x15 x21 x22 x23 x25 x26 x27)=some [.rows (B6 L14 L14.length)]:=by
 show Fn (std (OV N) N) (xOf (lsI ..))=_
 simp only [Fn,std,xOf,lsI,PXb,PXc,PXn,AB]
 refine AH (Al (len:=L14.length) (fun i=>[.rows (B6 L14 i),.int (i:Int)]) [.rows (B6 L14 L14.length)] ?_ ?_ N hN) rfl
 ·intro self
  simp only [PXb,PXc,PXn,AB,Au]
 ·intro i self hi
  have h2:(B6 L14 i++[[PV.int ((i:Int)+1)]]).length≤4194304:=by have:=UO L14 i;simp;omega
  simp only [PXb,PXc,PXn,AB,Aa (show i≤1099511627776 by omega),Aj hi,AQ hi,Bx,B6,DM h2 (show 8≤4096 by omega)]
  cases (atI L14 i 0==0||atI L14 i 0==3)<;>rfl
theorem qC (hN:L14.length<N) (hl:L14.length≤2097152):Eh N (lsI L14 L16 L17 L19 L24 b18 b20 x0 x1 x2 x3 x4 x5 x6 x7 x8 x9 x10 x11 x12 x13 x15 x21 x22 x23 x25 x26 x27)=some [.rows (B6 L14 L14.length)]:=by
 show KO (std (UE N) N) (xOf (lsI ..))=_
 simp only [KO,std,xOf,lsI,PXb,PXc,PXn,AB]
 refine AH (Al (len:=L14.length) (fun i=>[.rows (B6 L14 i),.int (i:Int)]) [.rows (B6 L14 L14.length)] ?_ ?_ N hN) rfl
 ·intro self
  simp only [PXb,PXc,PXn,AB,Au]
 ·intro i self hi
  have h2:(B6 L14 i++[[PV.int ((i:Int)+1)]]).length≤4194304:=by have:=UO L14 i;simp;omega
  simp only [PXb,PXc,PXn,AB,Aa (show i≤1099511627776 by omega),Aj hi,AQ hi,Bx,B6,DM h2 (show 8≤4096 by omega)]
  cases (atI L14 i 0==0||atI L14 i 0==3)<;>rfl
end
theorem Y2 (N:Nat) (v:Int):Dg N [.int v]=some [.bool (!btw v 0 1000000000)]:=by
 show FU (std (Gz N) N) (xOf _)=_
 have e:∀ ls,Gz N 60 [] ls=Ak N ls:=fun ls=>rfl
 simp only [FU,std,xOf,PXb,PXc,PXn,AB,e,D6]
end Go.Px
end
section
namespace Go.Px
set_option maxRecDepth 100000
def pIs (L:Rows) (v:Int) (i:Nat):Bool:=atI L i 0==v
def YI (s n:Int) (i:Nat):Bool:=s==(i:Int)+1||n==(i:Int)+1
def TN (L:Rows) (s n:Int) (i:Nat):Bool:=iLt 3 (atI L i 0)||(pIs L 1 i && !YI s n i)
def Vx (L:Rows) (s n:Int) (i:Nat):Bool:=iLt 3 (atI L i 0) || !(pIs L 1 i==YI s n i)
def gV (L:Rows):Int:=Ca (pIs L 2) L.length
def ins (L:Rows):Int:=Ca (pIs L 1) L.length
def two (s n:Int):Int:=cond (!(n==0)) (IntKind.i64.wrap (cond (!(s==0)) (IntKind.i64.wrap (0+1)) 0+1)) (cond (!(s==0)) (IntKind.i64.wrap (0+1)) 0)
def nG (L:Rows) (s n wk k:Int):Bool :=
 !Ao (TN L s n) L.length 0&&((btw s 0 k&&btw n 0 k)&&(!(s==n && !(s==0))&&((two s n==ins L&&(!Cg L||iLt 0 (two s n)))&&gV L==wk)))
def Vs (L:Rows) (s n wk:Int):Bool :=
 !Ao (Vx L s n) L.length 0&&(!((Cg L&&iLt (ins L) 1)||(!(s==0)&&s==n))&&wk==gV L)
def ri (L:Rows):Nat→Bool
 | 0=>false
 | i+1=>ri L i || !(atI L i 0==0)
theorem rg (L:Rows):∀ i,ri L i=Ao (fun j => !(atI L j 0==0)) i 0
 | 0=>rfl
 | i+1=>by rw [bX,Nat.zero_add,← rg L i];rfl
section
variable (N:Nat) (L14 L16 L17 L19 L24:Rows) (b18 b20:Bool) (x0 x1 x2 x3 x4 x5 x6 x7 x8 x9 x10 x11 x12 x13 x15 x21 x22 x23 x25 x26 x27:Int)
theorem aw (k:Int) (hN:L14.length<N) (hl:L14.length≤2097152):EW N (lsI L14 L16 L17 L19 L24 b18 b20 x0 x1 x2 x3 x4 x5 x6 x7 x8 x9 x10 x11 x12 x13 x15 x21 x22 x23 x25 x26 x27++[.int k])=some [.bool (nG L14 x12 x13 x4 k)]:=by
  simp only [lsI,List.cons_append,List.nil_append]
  show Gm (std (I9 N) N) (xOf _)=_
  have e:∀ ls,I9 N 60 [] ls=Ak N ls:=fun ls=>rfl
  simp only [Gm,std,xOf,lsI,PXb,PXc,PXn,AB]
  refine AH (T2 (len:=L14.length) (fun i=>[.int (Ca (pIs L14 2) i),.int (Ca (pIs L14 1) i),.bool (ri L14 i),.int (i:Int)])
    (TN L14 x12 x13) [.int 0,.bool false] [.int 1,.int (gV L14),.int (ins L14),.bool (Cg L14)] ?_ ?_ N hN) ?_
  · intro self
    simp only [PXb,PXc,PXn,AB,Au,rg]
    rfl
  · intro i self hi
    simp only [PXb,PXc,AB,Aa (show i≤1099511627776 by omega),Aj hi,AQ hi,Bx,Y6 (pIs L14 2) (show i≤1099511627776 by omega),Y6 (pIs L14 1) (show i≤1099511627776 by omega)]
    unfold TN pIs YI
    simp only [Ca,ri]
    cases h3:iLt 3 (atI L14 i 0) with
    | true=>rfl
    | false =>
      cases h1:atI L14 i 0==1 with
      | true =>
        rw [lO h1]
        cases x12==(i:Int)+1<;>cases x13==(i:Int)+1<;>rfl
      | false=>cases h2:atI L14 i 0==2<;>rfl
  · unfold nG
    simp only [e,D6]
    cases Ao (TN L14 x12 x13) L14.length 0 with
    | true=>rfl
    | false =>
      simp only [PXb,PXc,PXn,AB]
      unfold two
      cases btw x12 0 k<;>cases btw x13 0 k<;>try rfl
      cases x12==0<;>cases x13==0<;>cases x12==x13<;>try rfl
theorem kg (hN:L14.length<N) (hl:L14.length≤2097152):Ii N (lsI L14 L16 L17 L19 L24 b18 b20 x0 x1 x2 x3 x4 x5 x6 x7 x8 x9 x10 x11 x12 x13 x15 x21 x22 x23 x25 x26 x27)=some [.bool (Vs L14 x12 x13 x4)]:=by
  show Lw (std (O4 N) N) (xOf (lsI ..))=_
  have e:∀ ls,O4 N 156 [] ls=Bh N ls:=fun ls=>rfl
  have h70:=cM N L14 L16 L17 L19 L24 b18 b20 x0 x1 x2 x3 x4 x5 x6 x7 x8 x9 x10 x11 x12 x13 x15 x21 x22 x23 x25 x26 x27 hN hl
  simp only [lsI] at h70
  simp only [Lw,std,xOf,lsI,PXb,PXc,PXn,AB,e,h70]
  refine AH (T2 (len:=L14.length) (fun i=>[.int (Ca (pIs L14 2) i),.int (Ca (pIs L14 1) i),.int (i:Int)])
    (Vx L14 x12 x13) [.int 0,.bool false] [.int 1,.int (gV L14),.int (ins L14)] ?_ ?_ N hN) ?_
  · intro self
    simp only [PXb,PXc,PXn,AB,Au]
    rfl
  · intro i self hi
    simp only [PXb,PXc,AB,Aa (show i≤1099511627776 by omega),Aj hi,AQ hi,Bx,Y6 (pIs L14 2) (show i≤1099511627776 by omega),Y6 (pIs L14 1) (show i≤1099511627776 by omega)]
    unfold Vx pIs YI
    simp only [Ca]
    cases h3:iLt 3 (atI L14 i 0) with
    | true=>rfl
    | false =>
      cases h1:atI L14 i 0==1 with
      | true =>
        rw [lO h1]
        cases x12==(i:Int)+1<;>cases x13==(i:Int)+1<;>rfl
      | false=>cases h2:atI L14 i 0==2<;>cases x12==(i:Int)+1<;>cases x13==(i:Int)+1<;>rfl
  · unfold Vs
    cases Ao (Vx L14 x12 x13) L14.length 0 with
    | true=>rfl
    | false =>
      simp only [PXb,PXc,PXn,AB]
      cases Cg L14<;>cases h:iLt (ins L14) 1<;>cases x12==0<;>cases x12==x13<;>first | rfl | (simp [TB,AJ,h])
end
end Go.Px
end
section
namespace Go.Px
set_option maxRecDepth 100000
theorem xd (s n:Int):two s n=cond (!(s==0)) 1 0+cond (!(n==0)) 1 0:=by
 unfold two
 cases s==0<;>cases n==0<;>rfl
theorem xX {s n:Int} {len:Nat} (h1:0≤s∧s≤(len:Int)) (h2:0≤n∧n≤(len:Int)) (hd:(s==n && !(s==0))=false):two s n=Ca (YI s n) len:=by
 have hs:iLe s (len:Int)=true:=by simp only [iLe,decide_eq_true_eq];omega
 have hn:iLe n (len:Int)=true:=by simp only [iLe,decide_eq_true_eq];omega
 unfold YI
 rw [vQ (p:=fun i=>s==(i:Int)+1) (q:=fun i=>n==(i:Int)+1) len (fun j _ hp=>by
  have e1:s=(j:Int)+1:=by simpa using hp
  show (n==(j:Int)+1)=false
  rw [beq_eq_false_iff_ne]
  intro e2
  have e3:(s==n)=true:=by rw [beq_iff_eq];omega
  have e4:(s==0)=false:=by rw [beq_eq_false_iff_ne];omega
  rw [e3,e4] at hd;cases hd),po s len h1.1,po n len h2.1,hs,hn,Bool.and_true,Bool.and_true,xd]
theorem xg (x:Int):iLt 0 x = !iLt x 1:=by
 unfold iLt
 rw [Bool.eq_iff_iff]
 simp only [decide_eq_true_eq,Bool.not_eq_true',decide_eq_false_iff_not]
 omega
theorem wg {L : Rows} {s n : Int} (h1 : 0 ≤ s ∧ s ≤ (L.length : Int)) (h2 : 0 ≤ n ∧ n ≤ (L.length : Int)) (hd : (s == n && !(s == 0)) = false) :
    (!Ao (TN L s n) L.length 0&&two s n==ins L) = !Ao (Vx L s n) L.length 0:=by
  have h2c:=xX h1 h2 hd
  rw [Bool.eq_iff_iff]
  simp only [Bool.and_eq_true,Bool.not_eq_true',Fu,beq_iff_eq]
  constructor
  · intro ⟨ha,hb⟩ j _ hj
    have hm:∀ j,j<L.length→pIs L 1 j=true→YI s n j=true:=fun j hj hp=>by
      have:=ha j (Nat.zero_le _) (by omega)
      unfold TN at this
      rw [hp] at this
      simp only [Bool.or_eq_false_iff,Bool.true_and,Bool.not_eq_false'] at this
      exact this.2
    have he:=uM L.length hm (by rw [← h2c,hb];rfl) j (by omega)
    have:=ha j (Nat.zero_le _) hj
    unfold TN at this
    unfold Vx
    rw [Bool.or_eq_false_iff] at this ⊢
    exact ⟨this.1,by rw [he];simp⟩
  · intro ha
    have hm:∀ j,j<L.length→pIs L 1 j=YI s n j:=fun j hj=>by
      have:=ha j (Nat.zero_le _) (by omega)
      unfold Vx at this
      rw [Bool.or_eq_false_iff] at this
      simpa using this.2
    refine ⟨fun j h0 hj=>?_,?_⟩
    · have:=ha j h0 hj
      unfold Vx at this
      unfold TN
      rw [Bool.or_eq_false_iff] at this ⊢
      refine ⟨this.1,?_⟩
      rw [hm j (by omega)]
      cases YI s n j<;>rfl
    · rw [h2c]
      exact (mN L.length hm).symm
theorem yU (L:Rows) (s n wk k:Int) (hk:(L.length:Int)=k):nG L s n wk k=(btw s 0 k&&btw n 0 k&&Vs L s n wk):=by
 subst hk
 unfold nG Vs
 cases hs:btw s 0 (L.length:Int) with
 | false=>simp only [Bool.false_and,Bool.and_false]
 | true =>
  cases hn:btw n 0 (L.length:Int) with
  | false=>simp only [Bool.false_and,Bool.and_false]
  | true =>
   have h1:0≤s∧s≤(L.length:Int):=by simpa [btw,iLe] using hs
   have h2:0≤n∧n≤(L.length:Int):=by simpa [btw,iLe] using hn
   simp only [Bool.true_and]
   cases hd:(s==n && !(s==0)) with
   | true =>
    have:(!(s==0)&&s==n)=true:=by rw [Bool.and_comm];exact hd
    rw [this]
    simp only [Bool.or_true,Bool.not_true,Bool.false_and,Bool.and_false]
   | false =>
    have:(!(s==0)&&s==n)=false:=by rw [Bool.and_comm];exact hd
    rw [this,← wg h1 h2 hd]
    simp only [Bool.or_false,Bool.not_false,Bool.true_and]
    rw [show (wk==gV L)=(gV L==wk) from BEq.comm]
    cases hA:Ao (TN L s n) L.length 0 with
    | true=>rfl
    | false =>
     cases hB:two s n==ins L with
     | false=>rfl
     | true =>
      rw [beq_iff_eq.1 hB,xg]
      simp only [Bool.true_and,Bool.not_false,Bool.not_and]
end Go.Px
end
section
namespace Go.Px
set_option maxRecDepth 100000
def DH (v:Int):Bool := !btw v 0 1000000000
def YG (x1 x3 x5 x6 x7 x8 x9 x10 x21 x23 x25 x26:Int):Rows:=[[.int x1],[.int x3],[.int x5],[.int x6],[.int x7],[.int x8],[.int x9],[.int x10],[.int x21],[.int x23],[.int x25],[.int x26]]
section
variable (N:Nat) (L14 L16 L17 L19 L24:Rows) (b18 b20:Bool) (x0 x1 x2 x3 x4 x5 x6 x7 x8 x9 x10 x11 x12 x13 x15 x21 x22 x23 x25 x26 x27:Int)
theorem ae (hN:2097152<N) (hl:L19.length≤1048576):Ec N (lsI L14 L16 L17 L19 L24 b18 b20 x0 x1 x2 x3 x4 x5 x6 x7 x8 x9 x10 x11 x12 x13 x15 x21 x22 x23 x25 x26 x27)=some [.bool (!(K7 DH (YG x1 x3 x5 x6 x7 x8 x9 x10 x21 x23 x25 x26)||K7 DH L19))]:=by
 show Gu (std (I6 N) N) (xOf (lsI ..))=_
 have e:∀ ls,I6 N 90 [] ls=Dg N ls:=fun ls=>rfl
 rw [← oC]
 simp only [Gu,std,xOf,lsI,PXb,PXc,PXn,AB,YG]
 generalize hM:([PV.int x1]::[PV.int x3]::[PV.int x5]::[PV.int x6]::[PV.int x7]::[PV.int x8]::[PV.int x9]::[PV.int x10]::[PV.int x21]::[PV.int x23]::[PV.int x25]::[PV.int x26]::L19:Rows)=M
 have hM2:M.length≤2097152:=by rw [← hM];simp only [List.length_cons];omega
 rw [DM (n:=M.length) (by omega) (by omega)]
 simp only [PXb,PXc,PXn,AB]
 rw [Option.bind_assoc]
 refine AH (Cm (len:=M.length) (GU fun i=>DH (atI M i 0)) ?_ ?_ M.length 0 N (by omega) (by omega)) ?_
 ·intro self
  simp only [PXb,PXc,PXn,AB,Au]
 ·intro i self hi
  simp only [PXb,PXc,PXn,AB,Aa (show i≤1099511627776 by omega),Aj hi,AQ hi,GU,Bx,e,Y2,DH]
  cases btw (atI M i 0) 0 1000000000<;>rfl
 ·unfold K7
  rw [← Ks]
  unfold SF
  cases CR (GU fun i=>DH (atI M i 0)) M.length 0<;>rfl
end
def NB (a3 x2:Int):Bool:=cond (a3==0) (x2==0) (btw x2 1 a3)
def Ld (s:ByteArray) (a1 a2 a3 a4 a5 a6 a7 a9 a10 a11 a12:Int) (La L14 L16 L17 L19 L24:Rows) (x0 x1 x2 x3 x4 x5 x6 x7 x8 x9 x10 x11 x12 x13 x15 x21 x22 x23 x25 x26 x27:Int):Bool :=
  D9 s a1 a2 a3 a4 a5 a6 a7 a9 a10 a11 a12 La==0&&(btw x0 1 2&&((L14.length:Int)==a1&&((L19.length:Int)==a1&&((L24.length:Int)==a1&&(!iLt 5 x27 &&
    (btw x12 0 a1&&(btw x13 0 a1&&(Vs L14 x12 x13 x4&&(btw x15 0 a1&&(btw x22 0 a1&&(GK L16 a1&&(GK L17 a1&&(NB a3 x2&&(btw x11 0 (IntKind.i64.wrap (a4 - 1)) &&
      (!K7 DH (YG x1 x3 x5 x6 x7 x8 x9 x10 x21 x23 x25 x26) && !K7 DH L19)))))))))))))))
theorem rp {s:ByteArray} {a1 a2 a3 a4 a5 a6 a7 a9 a10 a11 a12:Int} {La:Rows} (h:(D9 s a1 a2 a3 a4 a5 a6 a7 a9 a10 a11 a12 La==0)=true):0≤a3:=by
 unfold D9 at h
 cases hn:Lj s with
 | false=>rw [hn] at h;exact absurd h Bool.false_ne_true
 | true =>
  cases hr:GV a1 a2 a3 a4 a5 a6 a7 a9 a10 a11 a12 with
  | false=>rw [hn,hr] at h;exact absurd h Bool.false_ne_true
  | true =>
   unfold GV at hr
   simp only [Bool.and_eq_true] at hr
   have:=hr.1.1.1.1.1.1.1.1.2
   unfold btw iLe at this
   simp only [Bool.and_eq_true,decide_eq_true_eq] at this
   omega
theorem kP {a:Int} (h:0≤a):iLt 0 a = !(a==0):=by
 unfold iLt
 rw [Bool.eq_iff_iff]
 simp only [decide_eq_true_eq,Bool.not_eq_true',beq_eq_false_iff_ne]
 omega
section
variable (N:Nat) (s:ByteArray) (a1 a2 a3 a4 a5 a6 a7 a9 a10 a11 a12:Int) (a8:Bool) (La:Rows) (L14 L16 L17 L19 L24:Rows) (b18 b20:Bool) (x0 x1 x2 x3 x4 x5 x6 x7 x8 x9 x10 x11 x12 x13 x15 x21 x22 x23 x25 x26 x27:Int)
theorem Ti (hN:2097152<N) (hs:s.size≤1048576) (h14:L14.length≤1048576) (h16:L16.length≤1048576) (h17:L17.length≤1048576) (h19:L19.length≤1048576):BO N ([.str s,.int a1,.int a2,.int a3,.int a4,.int a5,.int a6,.int a7,.bool a8,.int a9,.int a10,.int a11,.int a12,.rows La]++lsI L14 L16 L17 L19 L24 b18 b20 x0 x1 x2 x3 x4 x5 x6 x7 x8 x9 x10 x11 x12 x13 x15 x21 x22 x23 x25 x26 x27)=some [.bool (Ld s a1 a2 a3 a4 a5 a6 a7 a9 a10 a11 a12 La L14 L16 L17 L19 L24 x0 x1 x2 x3 x4 x5 x6 x7 x8 x9 x10 x11 x12 x13 x15 x21 x22 x23 x25 x26 x27)]:=by
 simp only [lsI,List.cons_append,List.nil_append]
 show JU (std (Ck N) N) (xOf _)=_
 have e1:∀ ls,Ck N 32 [] ls=AW N ls:=fun ls=>rfl
 have e2:∀ ls,Ck N 60 [] ls=Ak N ls:=fun ls=>rfl
 have e3:∀ ls,Ck N 61 [] ls=EW N ls:=fun ls=>rfl
 have e4:∀ ls,Ck N 62 [] ls=Df N ls:=fun ls=>rfl
 have e5:∀ ls,Ck N 63 [] ls=Ec N ls:=fun ls=>rfl
 have l54:=aw N L14 L16 L17 L19 L24 b18 b20 x0 x1 x2 x3 x4 x5 x6 x7 x8 x9 x10 x11 x12 x13 x15 x21 x22 x23 x25 x26 x27 a1 (by omega) (by omega)
 have l56:=ae N L14 L16 L17 L19 L24 b18 b20 x0 x1 x2 x3 x4 x5 x6 x7 x8 x9 x10 x11 x12 x13 x15 x21 x22 x23 x25 x26 x27 (by omega) (by omega)
 simp only [lsI,List.cons_append,List.nil_append] at l54 l56
 simp only [JU,std,xOf,PXb,PXc,PXn,AB,e1,e2,e3,e4,e5,X0 N s _ _ _ _ _ _ _ _ _ _ _ _ _ hN hs,D6,l54,l56,OL N L16 _ (by omega) (by omega),OL N L17 _ (by omega) (by omega)]
 unfold Ld NB
 cases hc:D9 s a1 a2 a3 a4 a5 a6 a7 a9 a10 a11 a12 La==0<;>try rfl
 cases btw x0 1 2<;>try rfl
 cases h14:(L14.length:Int)==a1<;>try rfl
 cases (L19.length:Int)==a1<;>try rfl
 cases (L24.length:Int)==a1<;>try rfl
 cases iLt 5 x27<;>try rfl
 rw [yU L14 x12 x13 x4 a1 (beq_iff_eq.1 h14)]
 cases btw x12 0 a1<;>try rfl
 cases btw x13 0 a1<;>try rfl
 cases Vs L14 x12 x13 x4<;>try rfl
 cases btw x15 0 a1<;>try rfl
 cases btw x22 0 a1<;>try rfl
 cases GK L16 a1<;>try rfl
 cases GK L17 a1<;>try rfl
 cases a3==0<;>cases x2==0<;>cases btw x2 1 a3<;>rfl
theorem cV (hN:2097152<N) (hs:s.size≤1048576) (h14:L14.length≤1048576) (h16:L16.length≤1048576) (h17:L17.length≤1048576) (h19:L19.length≤1048576):Ct N ([.str s,.int a1,.int a2,.int a3,.int a4,.int a5,.int a6,.int a7,.bool a8,.int a9,.int a10,.int a11,.int a12,.rows La]++lsI L14 L16 L17 L19 L24 b18 b20 x0 x1 x2 x3 x4 x5 x6 x7 x8 x9 x10 x11 x12 x13 x15 x21 x22 x23 x25 x26 x27)=some [.bool (Ld s a1 a2 a3 a4 a5 a6 a7 a9 a10 a11 a12 La L14 L16 L17 L19 L24 x0 x1 x2 x3 x4 x5 x6 x7 x8 x9 x10 x11 x12 x13 x15 x21 x22 x23 x25 x26 x27)]:=by
 simp only [lsI,List.cons_append,List.nil_append]
 show Qv (std (Fj N) N) (xOf _)=_
 have e1:∀ ls,Fj N 93 [] ls=Ap N ls:=fun ls=>rfl
 have e2:∀ ls,Fj N 153 [] ls=E5 N ls:=fun ls=>rfl
 have e3:∀ ls,Fj N 155 [] ls=Ii N ls:=fun ls=>rfl
 have e4:∀ ls,Fj N 154 [] ls=RK N ls:=fun ls=>rfl
 have l60:=kg N L14 L16 L17 L19 L24 b18 b20 x0 x1 x2 x3 x4 x5 x6 x7 x8 x9 x10 x11 x12 x13 x15 x21 x22 x23 x25 x26 x27 (by omega) (by omega)
 simp only [lsI,List.cons_append,List.nil_append] at l60
 simp only [Qv,std,xOf,PXb,PXc,PXn,AB,e1,e2,e3,e4,bZ N s _ _ _ _ _ _ _ _ _ _ _ _ _ hN hs,aV,l60,jx N L16 _ (by omega) (by omega),jx N L17 _ (by omega) (by omega)]
 unfold Ld NB
 cases hc:D9 s a1 a2 a3 a4 a5 a6 a7 a9 a10 a11 a12 La==0<;>try rfl
 rw [kP (rp hc)]
 cases btw x0 1 2<;>try rfl
 cases h14:(L14.length:Int)==a1<;>try rfl
 cases (L19.length:Int)==a1<;>try rfl
 cases (L24.length:Int)==a1<;>try rfl
 cases iLt 5 x27<;>try rfl
 cases btw x12 0 a1<;>try rfl
 cases btw x13 0 a1<;>try rfl
 cases Vs L14 x12 x13 x4
 ·simp only [PXb,PXc,PXn,AB]
 cases btw x15 0 a1<;>try rfl
 cases btw x22 0 a1<;>try rfl
 cases GK L16 a1<;>try rfl
 cases GK L17 a1<;>try rfl
 have ho:(a3==0 && !(x2==0) || !(a3==0)&&(a3==0 && !(x2==0) || !!(a3==0) || !btw x2 1 a3) || !btw x11 0 (IntKind.i64.wrap (a4 - 1))) = !(NB a3 x2&&btw x11 0 (IntKind.i64.wrap (a4 - 1))):=by
  unfold NB
  cases a3==0<;>cases x2==0<;>cases btw x2 1 a3<;>cases btw x11 0 (IntKind.i64.wrap (a4 - 1))<;>rfl
 rw [ho]
 show _=some [PV.bool (NB a3 x2&&(btw x11 0 (IntKind.i64.wrap (a4 - 1))&&_))]
 rw [← Bool.and_assoc]
 cases NB a3 x2&&btw x11 0 (IntKind.i64.wrap (a4 - 1))<;>try rfl
 simp only [PXb,PXc,PXn,AB]
 change (EM (fun s11 c11=>cond (iLt (pvI (AJ c11 0)) ((YG x1 x3 x5 x6 x7 x8 x9 x10 x21 x23 x25 x26).length:Int)) (cond (iIn (pvI (AJ c11 0)) ((YG x1 x3 x5 x6 x7 x8 x9 x10 x21 x23 x25 x26).length:Int)) (cond (!btw (pvI (AE (YG x1 x3 x5 x6 x7 x8 x9 x10 x21 x23 x25 x26) (pvI (AJ c11 0)).toNat 0)) 0 1000000000) (some [PV.int 0,PV.bool false]) (s11 [Leaf.int (IntKind.i64.wrap (pvI (AJ c11 0)+1))])) none) (some [PV.int 1])) N [PV.int 0]).bind _=_
 generalize hM:YG x1 x3 x5 x6 x7 x8 x9 x10 x21 x23 x25 x26=M
 have hM2:M.length=12:=by rw [← hM];rfl
 refine AH (Cj (len:=M.length) (fun i=>DH (atI M i 0)) [.bool false] ?_ ?_ N (by omega)) ?_
 ·intro self
  simp only [PXb,PXc,PXn,AB,Au]
 ·intro i self hi
  simp only [PXb,PXc,PXn,AB,Aa (show i≤1099511627776 by omega),Aj hi,AQ hi,Bx,DH]
 ·show _=some [PV.bool (!Ao (fun i=>DH (atI M i 0)) M.length 0&&_)]
  cases Ao (fun i=>DH (atI M i 0)) M.length 0<;>try rfl
  refine AH (Cj (len:=L19.length) (fun i=>DH (atI L19 i 0)) [.bool false] ?_ ?_ N (by omega)) ?_
  ·intro self
   simp only [PXb,PXc,PXn,AB,Au]
  ·intro i self hi
   simp only [PXb,PXc,PXn,AB,Aa (show i≤1099511627776 by omega),Aj hi,AQ hi,Bx,DH]
  ·show _=some [PV.bool (!Ao (fun i=>DH (atI L19 i 0)) L19.length 0)]
   cases Ao (fun i=>DH (atI L19 i 0)) L19.length 0<;>rfl
end
end Go.Px
end
section
namespace Go.Px
set_option maxRecDepth 100000
def pf (v:Bool) (L:Rows) (s n:Int) (x1 x2 x3 x10:Int):Int :=
 cond (!v) 0 (cond (iLt 0 x1&&iLe x1 x3) 3 (cond (EC L s n&&((B6 L L.length).length:Int)==0) 1 (cond (iLt 0 x2&&iLe x2 x10) 2 0)))
theorem sQ {c:Int} {n:Nat} (hc:0≤c):iRg 0 (cond (iLt c (n:Int)) c (n:Int)) (n:Int)=true:=by
 cases h:iLt c (n:Int) with
 | true=>simp only [iLt,decide_eq_true_eq] at h;simp only [cond_true,iRg,decide_eq_true_eq];omega
 | false=>simp only [cond_false,iRg,decide_eq_true_eq];omega
def cut (L:Rows) (c:Int):Rows:=(L.take (cond (iLt c (L.length:Int)) c (L.length:Int)).toNat).drop (0:Int).toNat
def wD (s:ByteArray) (c:Int):ByteArray:=s.extract (0:Int).toNat (cond (iLt c (s.size:Int)) c (s.size:Int)).toNat
theorem vl (s:ByteArray) (c:Int):(wD s c).size≤s.size:=by
 unfold wD
 rw [ByteArray.size_extract]
 omega
end Go.Px
end
section
namespace Go.Px
set_option maxRecDepth 100000
section
variable (N:Nat) (s:ByteArray) (a1 a2 a3 a4 a5 a6 a7 a9 a10 a11 a12:Int) (a8:Bool) (La:Rows) (L14 L16 L17 L19 L24:Rows) (b18 b20:Bool) (x0 x1 x2 x3 x4 x5 x6 x7 x8 x9 x10 x11 x12 x13 x15 x21 x22 x23 x25 x26 x27:Int)
theorem de (hN : 2097152 < N) (hs : s.size ≤ 1048576) (h14 : L14.length ≤ 1048576) (h16 : L16.length ≤ 1048576) (h17 : L17.length ≤ 1048576) (h19 : L19.length ≤ 1048576) : Dj N ([.str s, .int a1, .int a2, .int a3, .int a4, .int a5, .int a6, .int a7, .bool a8, .int a9, .int a10, .int a11, .int a12, .rows La] ++ lsI L14 L16 L17 L19 L24 b18 b20 x0 x1 x2 x3 x4 x5 x6 x7 x8 x9 x10 x11 x12 x13 x15 x21 x22 x23 x25 x26 x27) =
    some [.int (pf (Ld s a1 a2 a3 a4 a5 a6 a7 a9 a10 a11 a12 La L14 L16 L17 L19 L24 x0 x1 x2 x3 x4 x5 x6 x7 x8 x9 x10 x11 x12 x13 x15 x21 x22 x23 x25 x26 x27) L14 x12 x13 x1 x2 x3 x10)]:=by
  simp only [lsI,List.cons_append,List.nil_append]
  show IM (std (D4 N) N) (xOf _)=_
  have e1:∀ ls,D4 N 33 [] ls=BO N ls:=fun ls=>rfl
  have e2:∀ ls,D4 N 151 [] ls=BP N ls:=fun ls=>rfl
  have e3:∀ ls,D4 N 152 [] ls=C2 N ls:=fun ls=>rfl
  have l16:=Ti N s a1 a2 a3 a4 a5 a6 a7 a9 a10 a11 a12 a8 La L14 L16 L17 L19 L24 b18 b20 x0 x1 x2 x3 x4 x5 x6 x7 x8 x9 x10 x11 x12 x13 x15 x21 x22 x23 x25 x26 x27 hN hs h14 h16 h17 h19
  have l61:=gx N L14 L16 L17 L19 L24 b18 b20 x0 x1 x2 x3 x4 x5 x6 x7 x8 x9 x10 x11 x12 x13 x15 x21 x22 x23 x25 x26 x27 (by omega) (by omega)
  have l62:=kq N L14 L16 L17 L19 L24 b18 b20 x0 x1 x2 x3 x4 x5 x6 x7 x8 x9 x10 x11 x12 x13 x15 x21 x22 x23 x25 x26 x27 (by omega) (by omega)
  simp only [lsI,List.cons_append,List.nil_append] at l16 l61 l62
  simp only [IM,std,xOf,PXb,PXc,PXn,AB,e1,e2,e3,l16,l61,l62,pf]
  cases Ld s a1 a2 a3 a4 a5 a6 a7 a9 a10 a11 a12 La L14 L16 L17 L19 L24 x0 x1 x2 x3 x4 x5 x6 x7 x8 x9 x10 x11 x12 x13 x15 x21 x22 x23 x25 x26 x27<;>try rfl
  cases (iLt 0 x1&&iLe x1 x3)<;>try rfl
  cases EC L14 x12 x13
  · cases (iLt 0 x2&&iLe x2 x10)<;>rfl
  · simp only [PXb,PXc,PXn,AB]
    cases ((B6 L14 L14.length).length:Int)==0<;>cases (iLt 0 x2&&iLe x2 x10)<;>rfl
theorem ml (hN : 2097152 < N) (hs : s.size ≤ 1048576) (h14 : L14.length ≤ 1048576) (h16 : L16.length ≤ 1048576) (h17 : L17.length ≤ 1048576) (h19 : L19.length ≤ 1048576) : Jp N ([.str s, .int a1, .int a2, .int a3, .int a4, .int a5, .int a6, .int a7, .bool a8, .int a9, .int a10, .int a11, .int a12, .rows La] ++ lsI L14 L16 L17 L19 L24 b18 b20 x0 x1 x2 x3 x4 x5 x6 x7 x8 x9 x10 x11 x12 x13 x15 x21 x22 x23 x25 x26 x27) =
    some [.int (pf (Ld s a1 a2 a3 a4 a5 a6 a7 a9 a10 a11 a12 La L14 L16 L17 L19 L24 x0 x1 x2 x3 x4 x5 x6 x7 x8 x9 x10 x11 x12 x13 x15 x21 x22 x23 x25 x26 x27) L14 x12 x13 x1 x2 x3 x10)]:=by
  simp only [lsI,List.cons_append,List.nil_append]
  show Ng (std (HB N) N) (xOf _)=_
  have e1:∀ ls,HB N 123 [] ls=Ct N ls:=fun ls=>rfl
  have e2:∀ ls,HB N 189 [] ls=Cb N ls:=fun ls=>rfl
  have e3:∀ ls,HB N 190 [] ls=Eh N ls:=fun ls=>rfl
  have l16:=cV N s a1 a2 a3 a4 a5 a6 a7 a9 a10 a11 a12 a8 La L14 L16 L17 L19 L24 b18 b20 x0 x1 x2 x3 x4 x5 x6 x7 x8 x9 x10 x11 x12 x13 x15 x21 x22 x23 x25 x26 x27 hN hs h14 h16 h17 h19
  have l61:=mq N L14 L16 L17 L19 L24 b18 b20 x0 x1 x2 x3 x4 x5 x6 x7 x8 x9 x10 x11 x12 x13 x15 x21 x22 x23 x25 x26 x27 (by omega) (by omega)
  have l62:=qC N L14 L16 L17 L19 L24 b18 b20 x0 x1 x2 x3 x4 x5 x6 x7 x8 x9 x10 x11 x12 x13 x15 x21 x22 x23 x25 x26 x27 (by omega) (by omega)
  simp only [lsI,List.cons_append,List.nil_append] at l16 l61 l62
  simp only [Ng,std,xOf,PXb,PXc,PXn,AB,e1,e2,e3,l16,l61,l62,pf]
  cases Ld s a1 a2 a3 a4 a5 a6 a7 a9 a10 a11 a12 La L14 L16 L17 L19 L24 x0 x1 x2 x3 x4 x5 x6 x7 x8 x9 x10 x11 x12 x13 x15 x21 x22 x23 x25 x26 x27<;>try rfl
  cases (iLt 0 x1&&iLe x1 x3)<;>try rfl
  cases EC L14 x12 x13
  · cases (iLt 0 x2&&iLe x2 x10)<;>rfl
  · simp only [PXb,PXc,PXn,AB]
    cases ((B6 L14 L14.length).length:Int)==0<;>cases (iLt 0 x2&&iLe x2 x10)<;>rfl
end
end Go.Px
end
section
namespace Go.Px
set_option maxRecDepth 100000
section
variable (N:Nat) (s:ByteArray) (a1 a2 a3 a4 a5 a6 a7 a9 a10 a11 a12:Int) (a8:Bool) (La:Rows) (L14 L16 L17 L19 L24:Rows) (b18 b20:Bool) (x0 x1 x2 x3 x4 x5 x6 x7 x8 x9 x10 x11 x12 x13 x15 x21 x22 x23 x25 x26 x27:Int)
def cO (a4 x10 x11:Int):Int:=IntKind.i64.wrap (IntKind.i64.wrap (x10 * a4)+x11)
end
end Go.Px
end
section
namespace Go.Px
set_option maxRecDepth 100000
def Bj (r:Rul):Int:=D9 r.name r.side r.innings r.overs r.balls r.quota r.wide r.noball r.newball r.followon r.reviews r.outside r.power
theorem EP {N:Nat} {r1 r2 r3 r4 r5 r6 r7 r9 r10 r11 r12:Int} {r8:Bool} {r0:ByteArray} {r13:Rows} (hN:2097152<N) (hs:r0.size≤1048576):AW N [.str r0,.int r1,.int r2,.int r3,.int r4,.int r5,.int r6,.int r7,.bool r8,.int r9,.int r10,.int r11,.int r12,.rows r13]=some [.int (Bj (⟨r0,r1,r2,r3,r4,r5,r6,r7,r8,r9,r10,r11,r12,r13⟩:Rul))]:=by
 exact X0 N _ _ _ _ _ _ _ _ _ _ _ _ _ _ hN hs
theorem Iw {N:Nat} {r1 r2 r3 r4 r5 r6 r7 r9 r10 r11 r12:Int} {r8:Bool} {r0:ByteArray} {r13:Rows} (hN:2097152<N) (hs:r0.size≤1048576):Ap N [.str r0,.int r1,.int r2,.int r3,.int r4,.int r5,.int r6,.int r7,.bool r8,.int r9,.int r10,.int r11,.int r12,.rows r13]=some [.int (Bj (⟨r0,r1,r2,r3,r4,r5,r6,r7,r8,r9,r10,r11,r12,r13⟩:Rul))]:=by
 exact bZ N _ _ _ _ _ _ _ _ _ _ _ _ _ _ hN hs
theorem Wi {N:Nat} {s0 s1 s2 s3 s4 s5 s6 s7 s8 s9 s10 s11 s12 s13 s15 s21 s22 s23 s25 s26 s27:Int} {s18 s20:Bool} {s14 s16 s17 s19 s24:Rows} (h:Fit s14 s16 s17 s19 s24):Cx N [.int s0,.int s1,.int s2,.int s3,.int s4,.int s5,.int s6,.int s7,.int s8,.int s9,.int s10,.int s11,.int s12,.int s13,.rows s14,.int s15,.rows s16,.rows s17,.bool s18,.rows s19,.bool s20,.int s21,.int s22,.int s23,.rows s24,.int s25,.int s26,.int s27]=some [.int s0,.int s1,.int s2,.int s3,.int s4,.int s5,.int s6,.int s7,.int s8,.int s9,.int s10,.int s11,.int s12,.int s13,.rows s14,.int s15,.rows s16,.rows s17,.bool s18,.rows s19,.bool s20,.int s21,.int s22,.int s23,.rows s24,.int s25,.int s26,.int s27]:=by
 show Qw (std (Ip N) N) (xOf _)=_
 simp only [Qw,NU,Pg,PM,std,xOf,PXb,PXc,PXn,PXm,Nat.reduceAdd,Int.reduceBEq,AS,Ag,Ad,Bi h.bt (show 1≤4096 by omega),Bi h.bw' (show 8≤4096 by omega),Bi h.bf (show 8≤4096 by omega),Bi h.bd (show 8≤4096 by omega),Bi h.sb (show 1≤4096 by omega)]
theorem WJ {N:Nat} {s0 s1 s2 s3 s4 s5 s6 s7 s8 s9 s10 s11 s12 s13 s15 s21 s22 s23 s25 s26 s27:Int} {s18 s20:Bool} {s14 s16 s17 s19 s24:Rows} (h:Fit s14 s16 s17 s19 s24):Cy N [.int s0,.int s1,.int s2,.int s3,.int s4,.int s5,.int s6,.int s7,.int s8,.int s9,.int s10,.int s11,.int s12,.int s13,.rows s14,.int s15,.rows s16,.rows s17,.bool s18,.rows s19,.bool s20,.int s21,.int s22,.int s23,.rows s24,.int s25,.int s26,.int s27]=some [.int s0,.int s1,.int s2,.int s3,.int s4,.int s5,.int s6,.int s7,.int s8,.int s9,.int s10,.int s11,.int s12,.int s13,.rows s14,.int s15,.rows s16,.rows s17,.bool s18,.rows s19,.bool s20,.int s21,.int s22,.int s23,.rows s24,.int s25,.int s26,.int s27]:=by
 show Qs (std (Iq N) N) (xOf _)=_
 simp only [Qs,NR,QC,PL,std,xOf,PXb,PXc,PXn,PXm,Nat.reduceAdd,Int.reduceBEq,AS,Ag,Ad,Bi h.bt (show 1≤4096 by omega),Bi h.bw' (show 8≤4096 by omega),Bi h.bf (show 8≤4096 by omega),Bi h.bd (show 8≤4096 by omega),Bi h.sb (show 1≤4096 by omega)]
theorem CN {N:Nat} {s0 s1 s2 s3 s4 s5 s6 s7 s8 s9 s10 s11 s12 s13 s15 s21 s22 s23 s25 s26 s27:Int} {s18 s20:Bool} {s14 s16 s17 s19 s24:Rows} (h:Fit s14 s16 s17 s19 s24):AR N [.int s0,.int s1,.int s2,.int s3,.int s4,.int s5,.int s6,.int s7,.int s8,.int s9,.int s10,.int s11,.int s12,.int s13,.rows s14,.int s15,.rows s16,.rows s17,.bool s18,.rows s19,.bool s20,.int s21,.int s22,.int s23,.rows s24,.int s25,.int s26,.int s27]=some [.int s0,.int s1,.int s2,.int s3,.int s4,.int s5,.int s6,.int s7,.int s8,.int s9,.int s10,.int s11,.int s12,.int s13,.rows s14,.int s15,.rows s16,.rows s17,.bool s18,.rows s19,.bool s20,.int s21,.int s22,.int s23,.rows s24,.int s25,.int s26,.int s27]:=by
 show JY (std (EY N) N) (xOf _)=_
 simp only [JY,Kh,Mf,LX,std,xOf,PXb,PXc,PXn,PXm,Nat.reduceAdd,Int.reduceBEq,AS,Ag,Ad,Bi h.bt (show 1≤4096 by omega),Bi h.bw' (show 8≤4096 by omega),Bi h.bf (show 8≤4096 by omega),Bi h.bd (show 8≤4096 by omega),Bi h.sb (show 1≤4096 by omega)]
theorem Wo {N:Nat} {s0 s1 s2 s3 s4 s5 s6 s7 s8 s9 s10 s11 s12 s13 s15 s21 s22 s23 s25 s26 s27:Int} {s18 s20:Bool} {s14 s16 s17 s19 s24:Rows} (h:Fit s14 s16 s17 s19 s24):DF N [.int s0,.int s1,.int s2,.int s3,.int s4,.int s5,.int s6,.int s7,.int s8,.int s9,.int s10,.int s11,.int s12,.int s13,.rows s14,.int s15,.rows s16,.rows s17,.bool s18,.rows s19,.bool s20,.int s21,.int s22,.int s23,.rows s24,.int s25,.int s26,.int s27]=some [.int s0,.int s1,.int s2,.int s3,.int s4,.int s5,.int s6,.int s7,.int s8,.int s9,.int s10,.int s11,.int s12,.int s13,.rows s14,.int s15,.rows s16,.rows s17,.bool s18,.rows s19,.bool s20,.int s21,.int s22,.int s23,.rows s24,.int s25,.int s26,.int s27]:=by
 show Qr (std (SJ N) N) (xOf _)=_
 simp only [Qr,W8,std,xOf,PXb,PXc,PXn,PXm,Nat.reduceAdd,Int.reduceBEq,CF h]
theorem R3 {N:Nat} {s0 s1 s2 s3 s4 s5 s6 s7 s8 s9 s10 s11 s12 s13 s15 s21 s22 s23 s25 s26 s27:Int} {s18 s20:Bool} {s14 s16 s17 s19 s24:Rows} {p:Int}  : B5 N [.int s0,.int s1,.int s2,.int s3,.int s4,.int s5,.int s6,.int s7,.int s8,.int s9,.int s10,.int s11,.int s12,.int s13,.rows s14,.int s15,.rows s16,.rows s17,.bool s18,.rows s19,.bool s20,.int s21,.int s22,.int s23,.rows s24,.int s25,.int s26,.int s27,.int p]=some [.bool (inR p s19.length)]:=by
 show MJ (std (VT N) N) (xOf _)=_
 simp only [MJ,std,xOf,PXb,PXc,PXn,PXm,Nat.reduceAdd,Int.reduceBEq]
 rfl
theorem Tt {N:Nat} {s0 s1 s2 s3 s4 s5 s6 s7 s8 s9 s10 s11 s12 s13 s15 s21 s22 s23 s25 s26 s27:Int} {s18 s20:Bool} {s14 s16 s17 s19 s24:Rows} {p:Int}  : CV N [.int s0,.int s1,.int s2,.int s3,.int s4,.int s5,.int s6,.int s7,.int s8,.int s9,.int s10,.int s11,.int s12,.int s13,.rows s14,.int s15,.rows s16,.rows s17,.bool s18,.rows s19,.bool s20,.int s21,.int s22,.int s23,.rows s24,.int s25,.int s26,.int s27,.int p]=some [.bool (inR p s19.length)]:=by
 show PF (std (Xq N) N) (xOf _)=_
 simp only [PF,std,xOf,PXb,PXc,PXn,PXm,Nat.reduceAdd,Int.reduceBEq]
 rfl
theorem IW {N:Nat} {s0 s1 s2 s3 s4 s5 s6 s7 s8 s9 s10 s11 s12 s13 s15 s21 s22 s23 s25 s26 s27:Int} {s18 s20:Bool} {s14 s16 s17 s19 s24:Rows} {p:Int}  : A4 N [.int s0,.int s1,.int s2,.int s3,.int s4,.int s5,.int s6,.int s7,.int s8,.int s9,.int s10,.int s11,.int s12,.int s13,.rows s14,.int s15,.rows s16,.rows s17,.bool s18,.rows s19,.bool s20,.int s21,.int s22,.int s23,.rows s24,.int s25,.int s26,.int s27,.int p]=some [.bool (inR p s24.length)]:=by
 show Lx (std (U5 N) N) (xOf _)=_
 simp only [Lx,std,xOf,PXb,PXc,PXn,PXm,Nat.reduceAdd,Int.reduceBEq]
 rfl
theorem Oi {N:Nat} {s0 s1 s2 s3 s4 s5 s6 s7 s8 s9 s10 s11 s12 s13 s15 s21 s22 s23 s25 s26 s27:Int} {s18 s20:Bool} {s14 s16 s17 s19 s24:Rows} {p:Int}  : Be N [.int s0,.int s1,.int s2,.int s3,.int s4,.int s5,.int s6,.int s7,.int s8,.int s9,.int s10,.int s11,.int s12,.int s13,.rows s14,.int s15,.rows s16,.rows s17,.bool s18,.rows s19,.bool s20,.int s21,.int s22,.int s23,.rows s24,.int s25,.int s26,.int s27,.int p]=some [.bool (inR p s24.length)]:=by
 show OA (std (XT N) N) (xOf _)=_
 simp only [OA,std,xOf,PXb,PXc,PXn,PXm,Nat.reduceAdd,Int.reduceBEq]
 rfl
def atB (L:Rows) (i j:Nat):Bool:=pvB (AE L i j)
def DD (s:Inn) (p:Int):Bool:=inR p s.subs.length&&atB s.subs (ix p) 0
theorem IK {N:Nat} {s0 s1 s2 s3 s4 s5 s6 s7 s8 s9 s10 s11 s12 s13 s15 s21 s22 s23 s25 s26 s27:Int} {s18 s20:Bool} {s14 s16 s17 s19 s24:Rows} {p:Int} (h:s24.length≤1048576):A3 N [.int s0,.int s1,.int s2,.int s3,.int s4,.int s5,.int s6,.int s7,.int s8,.int s9,.int s10,.int s11,.int s12,.int s13,.rows s14,.int s15,.rows s16,.rows s17,.bool s18,.rows s19,.bool s20,.int s21,.int s22,.int s23,.rows s24,.int s25,.int s26,.int s27,.int p]=some [.bool (DD (⟨s0,s1,s2,s3,s4,s5,s6,s7,s8,s9,s10,s11,s12,s13,s14,s15,s16,s17,s18,s19,s20,s21,s22,s23,s24,s25,s26,s27⟩:Inn) p)]:=by
 show IE (std (KI N) N) (xOf _)=_
 generalize hres:(some [.bool (DD (⟨s0,s1,s2,s3,s4,s5,s6,s7,s8,s9,s10,s11,s12,s13,s14,s15,s16,s17,s18,s19,s20,s21,s22,s23,s24,s25,s26,s27⟩:Inn) p)]:Option (List PV))=RR
 simp only [IE,QF,std,xOf,PXb,PXc,PXn,PXm,Nat.reduceAdd,Int.reduceBEq,IW,sv h]
 subst hres;simp only [DD]
 cases hp:inR p s24.length with
 | false=>rfl
 | true=>first | rfl | (rw [Db hp h];rfl)
theorem HT {N:Nat} {s0 s1 s2 s3 s4 s5 s6 s7 s8 s9 s10 s11 s12 s13 s15 s21 s22 s23 s25 s26 s27:Int} {s18 s20:Bool} {s14 s16 s17 s19 s24:Rows} {p:Int} (h:s24.length≤1048576):Ay N [.int s0,.int s1,.int s2,.int s3,.int s4,.int s5,.int s6,.int s7,.int s8,.int s9,.int s10,.int s11,.int s12,.int s13,.rows s14,.int s15,.rows s16,.rows s17,.bool s18,.rows s19,.bool s20,.int s21,.int s22,.int s23,.rows s24,.int s25,.int s26,.int s27,.int p]=some [.bool (DD (⟨s0,s1,s2,s3,s4,s5,s6,s7,s8,s9,s10,s11,s12,s13,s14,s15,s16,s17,s18,s19,s20,s21,s22,s23,s24,s25,s26,s27⟩:Inn) p)]:=by
 show Ky (std (UP N) N) (xOf _)=_
 generalize hres:(some [.bool (DD (⟨s0,s1,s2,s3,s4,s5,s6,s7,s8,s9,s10,s11,s12,s13,s14,s15,s16,s17,s18,s19,s20,s21,s22,s23,s24,s25,s26,s27⟩:Inn) p)]:Option (List PV))=RR
 simp only [Ky,std,xOf,PXb,PXc,PXn,PXm,Nat.reduceAdd,Int.reduceBEq,sv h]
 subst hres;simp only [DD]
 cases hp:inR p s24.length with
 | false =>
  unfold inR at hp
  have hq:(!iLe 1 p || !iLe p (s24.length:Int)||iIn (IntKind.i64.wrap (p - 1)) (s24.length:Int))=true:=by rw [← Bool.not_and,hp];rfl
  simp only [hp,hq,PXb,PXc,PXn,PXm,Nat.reduceAdd,Int.reduceBEq]
 | true=>have hk:=Db hp h;unfold inR at hp;simp only [hp,hk,PXb,PXc,PXn,PXm,Nat.reduceAdd,Int.reduceBEq,atB,ix]
def gE (x:Int):Int:=cond (iLt x 0) 0 x
def Oe (r:Rul) (s:Inn) (p:Int):Int :=
 cond (!inR p s.bowled.length || !(Bj r==0)) 0 (cond (r.quota==0) (-1) (gE (IntKind.i64.wrap (IntKind.i64.wrap (r.quota * r.balls) - gE (atI s.bowled (ix p) 0)))))
theorem sq (r:Rul) (s:Inn) (p:Int):iLe 0 (Oe r s p) = !(Oe r s p == -1):=by
 unfold Oe
 cases (!inR p s.bowled.length || !(Bj r==0)) with
 | true=>rfl
 | false =>
  cases r.quota==0 with
  | true=>rfl
  | false =>
   simp only [cond_false]
   generalize IntKind.i64.wrap (IntKind.i64.wrap (r.quota * r.balls) - gE (atI s.bowled (ix p) 0))=x
   unfold gE
   cases h:iLt x 0 with
   | true=>rfl
   | false =>
    simp only [iLt,decide_eq_false_iff_not] at h
    simp only [cond_false]
    have h1:iLe 0 x=true:=by simp only [iLe,decide_eq_true_eq];omega
    have h2:(x == -1)=false:=by simp only [beq_eq_false_iff_ne];omega
    rw [h1,h2];rfl
theorem pi {N:Nat} {r1 r2 r3 r4 r5 r6 r7 r9 r10 r11 r12:Int} {r8:Bool} {r0:ByteArray} {r13:Rows} {s0 s1 s2 s3 s4 s5 s6 s7 s8 s9 s10 s11 s12 s13 s15 s21 s22 s23 s25 s26 s27:Int} {s18 s20:Bool} {s14 s16 s17 s19 s24:Rows} {p:Int} (h:Fit s14 s16 s17 s19 s24) (hN:2097152<N) (hs:r0.size≤1048576):KL N [.str r0,.int r1,.int r2,.int r3,.int r4,.int r5,.int r6,.int r7,.bool r8,.int r9,.int r10,.int r11,.int r12,.rows r13,.int s0,.int s1,.int s2,.int s3,.int s4,.int s5,.int s6,.int s7,.int s8,.int s9,.int s10,.int s11,.int s12,.int s13,.rows s14,.int s15,.rows s16,.rows s17,.bool s18,.rows s19,.bool s20,.int s21,.int s22,.int s23,.rows s24,.int s25,.int s26,.int s27,.int p]=some [.int (Oe (⟨r0,r1,r2,r3,r4,r5,r6,r7,r8,r9,r10,r11,r12,r13⟩:Rul) (⟨s0,s1,s2,s3,s4,s5,s6,s7,s8,s9,s10,s11,s12,s13,s14,s15,s16,s17,s18,s19,s20,s21,s22,s23,s24,s25,s26,s27⟩:Inn) p)]:=by
 show O2 (std (Ki N) N) (xOf _)=_
 generalize hres:(some [.int (Oe (⟨r0,r1,r2,r3,r4,r5,r6,r7,r8,r9,r10,r11,r12,r13⟩:Rul) (⟨s0,s1,s2,s3,s4,s5,s6,s7,s8,s9,s10,s11,s12,s13,s14,s15,s16,s17,s18,s19,s20,s21,s22,s23,s24,s25,s26,s27⟩:Inn) p)]:Option (List PV))=RR
 simp only [O2,UQ,UF,std,xOf,PXb,PXc,PXn,PXm,Nat.reduceAdd,Int.reduceBEq,EP hN hs,R3]
 subst hres;simp only [Oe]
 cases hp:inR p s19.length with
 | false=>rfl
 | true=>rw [Db hp h.bd];cases Bj (⟨r0,r1,r2,r3,r4,r5,r6,r7,r8,r9,r10,r11,r12,r13⟩:Rul)==0<;>cases r5==0<;>rfl
theorem tK {N:Nat} {r1 r2 r3 r4 r5 r6 r7 r9 r10 r11 r12:Int} {r8:Bool} {r0:ByteArray} {r13:Rows} {s0 s1 s2 s3 s4 s5 s6 s7 s8 s9 s10 s11 s12 s13 s15 s21 s22 s23 s25 s26 s27:Int} {s18 s20:Bool} {s14 s16 s17 s19 s24:Rows} {p:Int} (h:Fit s14 s16 s17 s19 s24) (hN:2097152<N) (hs:r0.size≤1048576):Oh N [.str r0,.int r1,.int r2,.int r3,.int r4,.int r5,.int r6,.int r7,.bool r8,.int r9,.int r10,.int r11,.int r12,.rows r13,.int s0,.int s1,.int s2,.int s3,.int s4,.int s5,.int s6,.int s7,.int s8,.int s9,.int s10,.int s11,.int s12,.int s13,.rows s14,.int s15,.rows s16,.rows s17,.bool s18,.rows s19,.bool s20,.int s21,.int s22,.int s23,.rows s24,.int s25,.int s26,.int s27,.int p]=some [.int (Oe (⟨r0,r1,r2,r3,r4,r5,r6,r7,r8,r9,r10,r11,r12,r13⟩:Rul) (⟨s0,s1,s2,s3,s4,s5,s6,s7,s8,s9,s10,s11,s12,s13,s14,s15,s16,s17,s18,s19,s20,s21,s22,s23,s24,s25,s26,s27⟩:Inn) p)]:=by
 show S9 (std (Nw N) N) (xOf _)=_
 generalize hres:(some [.int (Oe (⟨r0,r1,r2,r3,r4,r5,r6,r7,r8,r9,r10,r11,r12,r13⟩:Rul) (⟨s0,s1,s2,s3,s4,s5,s6,s7,s8,s9,s10,s11,s12,s13,s14,s15,s16,s17,s18,s19,s20,s21,s22,s23,s24,s25,s26,s27⟩:Inn) p)]:Option (List PV))=RR
 simp only [S9,Y5,XA,std,xOf,PXb,PXc,PXn,PXm,Nat.reduceAdd,Int.reduceBEq,Iw hN hs,Tt]
 subst hres;simp only [Oe]
 cases hp:inR p s19.length with
 | false=>cases Bj (⟨r0,r1,r2,r3,r4,r5,r6,r7,r8,r9,r10,r11,r12,r13⟩:Rul)==0<;>rfl
 | true=>rw [Db hp h.bd];cases Bj (⟨r0,r1,r2,r3,r4,r5,r6,r7,r8,r9,r10,r11,r12,r13⟩:Rul)==0<;>cases r5==0<;>rfl
theorem lX {N:Nat} {L:Rows} {v:Int} (hN:2097152<N) (hl:L.length≤1048576):Ho N [.rows L,.int v]=some [.bool (Hb L L.length v)]:=by
 show VJ (std (eu N) N) (xOf _)=_
 simp only [VJ,std,xOf,PXb,PXc,PXn,AB]
 refine AH (Cj (len:=L.length) (fun j=>v==atI L j 0) [.bool true] ?_ ?_ N (by omega)) ?_
 ·intro self
  simp only [PXb,PXc,PXn,AB,Au]
 ·intro i self hi
  simp only [PXb,PXc,PXn,AB,Aa (show i≤1099511627776 by omega),Aj hi,AQ hi,Bx]
  rw [BEq.comm (a:=v)]
 ·unfold Hb
  cases Ao (fun j=>v==atI L j 0) L.length 0<;>rfl
theorem NG {N:Nat} {L:Rows} {v:Int} (hN:2097152<N) (hl:L.length≤1048576):Aq N [.rows L,.int v]=some [.bool (Hb L L.length v)]:=by
 exact Lg N L v (by omega) (by omega)
def Iz (r:Rul) (s:Inn) (p:Int):Int :=
  cond (!inR p s.bowled.length || !(Bj r==0)) 3 (cond (p==s.keeper||p==s.bowler||DD s p) 7
    (cond (Hb s.before s.before.length p) 8 (cond (!(Oe r s p == -1)&&iLt s.inover (IntKind.i64.wrap (r.balls - Oe r s p))) 9 0)))
theorem uK {p:Int} {n m:Nat} (h:inR p n=true):inR p m=iLe p (m:Int):=by
 unfold inR at h ⊢
 rw [Bool.and_eq_true] at h
 rw [h.1,Bool.true_and]
theorem qw {N:Nat} {r1 r2 r3 r4 r5 r6 r7 r9 r10 r11 r12:Int} {r8:Bool} {r0:ByteArray} {r13:Rows} {s0 s1 s2 s3 s4 s5 s6 s7 s8 s9 s10 s11 s12 s13 s15 s21 s22 s23 s25 s26 s27:Int} {s18 s20:Bool} {s14 s16 s17 s19 s24:Rows} {p:Int} (h:Fit s14 s16 s17 s19 s24) (hN:2097152<N) (hs:r0.size≤1048576):Ll N [.str r0,.int r1,.int r2,.int r3,.int r4,.int r5,.int r6,.int r7,.bool r8,.int r9,.int r10,.int r11,.int r12,.rows r13,.int s0,.int s1,.int s2,.int s3,.int s4,.int s5,.int s6,.int s7,.int s8,.int s9,.int s10,.int s11,.int s12,.int s13,.rows s14,.int s15,.rows s16,.rows s17,.bool s18,.rows s19,.bool s20,.int s21,.int s22,.int s23,.rows s24,.int s25,.int s26,.int s27,.int p]=some [.int (Iz (⟨r0,r1,r2,r3,r4,r5,r6,r7,r8,r9,r10,r11,r12,r13⟩:Rul) (⟨s0,s1,s2,s3,s4,s5,s6,s7,s8,s9,s10,s11,s12,s13,s14,s15,s16,s17,s18,s19,s20,s21,s22,s23,s24,s25,s26,s27⟩:Inn) p)]:=by
 show Qg (std (Fo N) N) (xOf _)=_
 generalize hres:(some [.int (Iz (⟨r0,r1,r2,r3,r4,r5,r6,r7,r8,r9,r10,r11,r12,r13⟩:Rul) (⟨s0,s1,s2,s3,s4,s5,s6,s7,s8,s9,s10,s11,s12,s13,s14,s15,s16,s17,s18,s19,s20,s21,s22,s23,s24,s25,s26,s27⟩:Inn) p)]:Option (List PV))=RR
 simp only [Qg,Ux,NT,Ur,WA,std,xOf,PXb,PXc,PXn,PXm,Nat.reduceAdd,Int.reduceBEq,EP hN hs,R3,pi h hN hs,NG hN h.bf]
 subst hres;simp only [Iz,DD]
 cases hp:inR p s19.length with
 | false=>rfl
 | true =>
  rw [uK (m:=s24.length) hp]
  have hq:(!(iLe p (s24.length:Int))||iIn (IntKind.i64.wrap (p - 1)) (s24.length:Int))=true:=by
   cases h1:iLe p (s24.length:Int) with
   | false=>rfl
   | true=>rw [Db (by rw [uK hp];exact h1) h.sb];rfl
  rw [hq]
  cases Bj (⟨r0,r1,r2,r3,r4,r5,r6,r7,r8,r9,r10,r11,r12,r13⟩:Rul)==0<;>rfl
theorem ul {N:Nat} {r1 r2 r3 r4 r5 r6 r7 r9 r10 r11 r12:Int} {r8:Bool} {r0:ByteArray} {r13:Rows} {s0 s1 s2 s3 s4 s5 s6 s7 s8 s9 s10 s11 s12 s13 s15 s21 s22 s23 s25 s26 s27:Int} {s18 s20:Bool} {s14 s16 s17 s19 s24:Rows} {p:Int} (h:Fit s14 s16 s17 s19 s24) (hN:2097152<N) (hs:r0.size≤1048576):RC N [.str r0,.int r1,.int r2,.int r3,.int r4,.int r5,.int r6,.int r7,.bool r8,.int r9,.int r10,.int r11,.int r12,.rows r13,.int s0,.int s1,.int s2,.int s3,.int s4,.int s5,.int s6,.int s7,.int s8,.int s9,.int s10,.int s11,.int s12,.int s13,.rows s14,.int s15,.rows s16,.rows s17,.bool s18,.rows s19,.bool s20,.int s21,.int s22,.int s23,.rows s24,.int s25,.int s26,.int s27,.int p]=some [.int (Iz (⟨r0,r1,r2,r3,r4,r5,r6,r7,r8,r9,r10,r11,r12,r13⟩:Rul) (⟨s0,s1,s2,s3,s4,s5,s6,s7,s8,s9,s10,s11,s12,s13,s14,s15,s16,s17,s18,s19,s20,s21,s22,s23,s24,s25,s26,s27⟩:Inn) p)]:=by
 show U2 (std (GX N) N) (xOf _)=_
 generalize hres:(some [.int (Iz (⟨r0,r1,r2,r3,r4,r5,r6,r7,r8,r9,r10,r11,r12,r13⟩:Rul) (⟨s0,s1,s2,s3,s4,s5,s6,s7,s8,s9,s10,s11,s12,s13,s14,s15,s16,s17,s18,s19,s20,s21,s22,s23,s24,s25,s26,s27⟩:Inn) p)]:Option (List PV))=RR
 simp only [U2,aJ,Wn,ZB,aW,dv,std,xOf,PXb,PXc,PXn,PXm,Nat.reduceAdd,Int.reduceBEq,Iw hN hs,Tt,tK h hN hs,lX hN h.bf,HT h.sb,sq]
 subst hres;simp only [Iz]
 cases hp:inR p s19.length<;>cases Bj (⟨r0,r1,r2,r3,r4,r5,r6,r7,r8,r9,r10,r11,r12,r13⟩:Rul)==0<;>cases p==s22<;>cases p==s15<;>rfl
def TJ (r:Rul) (s:Inn) (p:Int):Inn×Int:=(cond (Iz r s p==0) { s with bowler:=p } s,Iz r s p)
theorem oo {N:Nat} {r1 r2 r3 r4 r5 r6 r7 r9 r10 r11 r12:Int} {r8:Bool} {r0:ByteArray} {r13:Rows} {s0 s1 s2 s3 s4 s5 s6 s7 s8 s9 s10 s11 s12 s13 s15 s21 s22 s23 s25 s26 s27:Int} {s18 s20:Bool} {s14 s16 s17 s19 s24:Rows} {p:Int} (h:Fit s14 s16 s17 s19 s24) (hN:2097152<N) (hs:r0.size≤1048576):Jf N [.str r0,.int r1,.int r2,.int r3,.int r4,.int r5,.int r6,.int r7,.bool r8,.int r9,.int r10,.int r11,.int r12,.rows r13,.int s0,.int s1,.int s2,.int s3,.int s4,.int s5,.int s6,.int s7,.int s8,.int s9,.int s10,.int s11,.int s12,.int s13,.rows s14,.int s15,.rows s16,.rows s17,.bool s18,.rows s19,.bool s20,.int s21,.int s22,.int s23,.rows s24,.int s25,.int s26,.int s27,.int p]=some (AY (TJ (⟨r0,r1,r2,r3,r4,r5,r6,r7,r8,r9,r10,r11,r12,r13⟩:Rul) (⟨s0,s1,s2,s3,s4,s5,s6,s7,s8,s9,s10,s11,s12,s13,s14,s15,s16,s17,s18,s19,s20,s21,s22,s23,s24,s25,s26,s27⟩:Inn) p)):=by
 show OX (std (KR N) N) (xOf _)=_
 generalize hres:(some (AY (TJ (⟨r0,r1,r2,r3,r4,r5,r6,r7,r8,r9,r10,r11,r12,r13⟩:Rul) (⟨s0,s1,s2,s3,s4,s5,s6,s7,s8,s9,s10,s11,s12,s13,s14,s15,s16,s17,s18,s19,s20,s21,s22,s23,s24,s25,s26,s27⟩:Inn) p)):Option (List PV))=RR
 simp only [OX,WN,WK,std,xOf,PXb,PXc,PXn,PXm,Nat.reduceAdd,Int.reduceBEq,Wi h,qw h hN hs]
 subst hres;simp only [TJ]
 cases Iz (⟨r0,r1,r2,r3,r4,r5,r6,r7,r8,r9,r10,r11,r12,r13⟩:Rul) (⟨s0,s1,s2,s3,s4,s5,s6,s7,s8,s9,s10,s11,s12,s13,s14,s15,s16,s17,s18,s19,s20,s21,s22,s23,s24,s25,s26,s27⟩:Inn) p==0<;>rfl
theorem sO {N:Nat} {r1 r2 r3 r4 r5 r6 r7 r9 r10 r11 r12:Int} {r8:Bool} {r0:ByteArray} {r13:Rows} {s0 s1 s2 s3 s4 s5 s6 s7 s8 s9 s10 s11 s12 s13 s15 s21 s22 s23 s25 s26 s27:Int} {s18 s20:Bool} {s14 s16 s17 s19 s24:Rows} {p:Int} (h:Fit s14 s16 s17 s19 s24) (hN:2097152<N) (hs:r0.size≤1048576):S0 N [.str r0,.int r1,.int r2,.int r3,.int r4,.int r5,.int r6,.int r7,.bool r8,.int r9,.int r10,.int r11,.int r12,.rows r13,.int s0,.int s1,.int s2,.int s3,.int s4,.int s5,.int s6,.int s7,.int s8,.int s9,.int s10,.int s11,.int s12,.int s13,.rows s14,.int s15,.rows s16,.rows s17,.bool s18,.rows s19,.bool s20,.int s21,.int s22,.int s23,.rows s24,.int s25,.int s26,.int s27,.int p]=some (AY (TJ (⟨r0,r1,r2,r3,r4,r5,r6,r7,r8,r9,r10,r11,r12,r13⟩:Rul) (⟨s0,s1,s2,s3,s4,s5,s6,s7,s8,s9,s10,s11,s12,s13,s14,s15,s16,s17,s18,s19,s20,s21,s22,s23,s24,s25,s26,s27⟩:Inn) p)):=by
 show Ss (std (Oj N) N) (xOf _)=_
 generalize hres:(some (AY (TJ (⟨r0,r1,r2,r3,r4,r5,r6,r7,r8,r9,r10,r11,r12,r13⟩:Rul) (⟨s0,s1,s2,s3,s4,s5,s6,s7,s8,s9,s10,s11,s12,s13,s14,s15,s16,s17,s18,s19,s20,s21,s22,s23,s24,s25,s26,s27⟩:Inn) p)):Option (List PV))=RR
 simp only [Ss,YW,az,std,xOf,PXb,PXc,PXn,PXm,Nat.reduceAdd,Int.reduceBEq,CF h,ul h hN hs]
 subst hres;simp only [TJ]
 cases Iz (⟨r0,r1,r2,r3,r4,r5,r6,r7,r8,r9,r10,r11,r12,r13⟩:Rul) (⟨s0,s1,s2,s3,s4,s5,s6,s7,s8,s9,s10,s11,s12,s13,s14,s15,s16,s17,s18,s19,s20,s21,s22,s23,s24,s25,s26,s27⟩:Inn) p==0<;>rfl
def ka (x:Inn×Bool):List PV:=[.int x.1.side,.int x.1.target,.int x.1.overs,.int x.1.runs,.int x.1.wickets,.int x.1.wides,.int x.1.noballs,.int x.1.byes,.int x.1.legbyes,.int x.1.pens,.int x.1.complete,.int x.1.inover,.int x.1.striker,.int x.1.other,.rows x.1.batters,.int x.1.bowler,.rows x.1.bowlers,.rows x.1.before,.bool x.1.fresh,.rows x.1.bowled,.bool x.1.freehit,.int x.1.ballage,.int x.1.keeper,.int x.1.outside,.rows x.1.subs,.int x.1.rev1,.int x.1.rev2,.int x.1.ending,.bool x.2]
def inc (x:Int):Int:=IntKind.i64.wrap (x+1)
def DB (r:Rul) (s:Inn) (counts:Bool):Inn×Bool :=
  cond (!inR s.bowler s.bowled.length || !(Bj r==0)) (s,false)
    (let L:=cond (Hb s.bowlers s.bowlers.length s.bowler) s.bowlers (s.bowlers++[[.int s.bowler]])
     let o:=cond counts (inc s.inover) s.inover
     let t:Inn:={ s with bowlers:=L,bowled:=cond counts (KE s.bowled s.bowler (inc (atI s.bowled (ix s.bowler) 0))) s.bowled,inover:=o,ballage:=cond counts (inc s.ballage) s.ballage }
     cond (iLt o r.balls) (t,false) ({ t with complete:=inc s.complete,inover:=0,before:=L,bowlers:=[],bowler:=0 },true))
theorem pY {N:Nat} {r1 r2 r3 r4 r5 r6 r7 r9 r10 r11 r12:Int} {r8:Bool} {r0:ByteArray} {r13:Rows} {s0 s1 s2 s3 s4 s5 s6 s7 s8 s9 s10 s11 s12 s13 s15 s21 s22 s23 s25 s26 s27:Int} {s18 s20:Bool} {s14 s16 s17 s19 s24:Rows} {b:Bool} (h:Fit s14 s16 s17 s19 s24) (hw:s16.length≤1048575) (hN:2097152<N) (hs:r0.size≤1048576):KH N [.str r0,.int r1,.int r2,.int r3,.int r4,.int r5,.int r6,.int r7,.bool r8,.int r9,.int r10,.int r11,.int r12,.rows r13,.int s0,.int s1,.int s2,.int s3,.int s4,.int s5,.int s6,.int s7,.int s8,.int s9,.int s10,.int s11,.int s12,.int s13,.rows s14,.int s15,.rows s16,.rows s17,.bool s18,.rows s19,.bool s20,.int s21,.int s22,.int s23,.rows s24,.int s25,.int s26,.int s27,.bool b]=some (ka (DB (⟨r0,r1,r2,r3,r4,r5,r6,r7,r8,r9,r10,r11,r12,r13⟩:Rul) (⟨s0,s1,s2,s3,s4,s5,s6,s7,s8,s9,s10,s11,s12,s13,s14,s15,s16,s17,s18,s19,s20,s21,s22,s23,s24,s25,s26,s27⟩:Inn) b)):=by
 show Ov (std (Ey N) N) (xOf _)=_
 generalize hres:(some (ka (DB (⟨r0,r1,r2,r3,r4,r5,r6,r7,r8,r9,r10,r11,r12,r13⟩:Rul) (⟨s0,s1,s2,s3,s4,s5,s6,s7,s8,s9,s10,s11,s12,s13,s14,s15,s16,s17,s18,s19,s20,s21,s22,s23,s24,s25,s26,s27⟩:Inn) b)):Option (List PV))=RR
 have ha:(s16++[[PV.int s15]]).length≤1048576:=by simp;omega
 simp only [Ov,UU,Mv,WX,Tk,std,xOf,PXb,PXc,PXn,PXm,Nat.reduceAdd,Int.reduceBEq,Wi h,R3,EP hN hs,NG hN h.bw',Ju ha (show 8≤4096 by omega)]
 subst hres;simp only [DB]
 cases hp:inR s15 s19.length with
 | false=>rfl
 | true =>
  rw [Db hp h.bd]
  cases Bj (⟨r0,r1,r2,r3,r4,r5,r6,r7,r8,r9,r10,r11,r12,r13⟩:Rul)==0<;>try rfl
  cases Hb s16 s16.length s15<;>cases b<;>simp only [PXb,PXc,PXn,PXm,Nat.reduceAdd,Int.reduceBEq,inc]
  all_goals first | (cases iLt s11 r4<;>rfl) | (cases iLt (IntKind.i64.wrap (s11+1)) r4<;>rfl)
theorem tQ {N:Nat} {r1 r2 r3 r4 r5 r6 r7 r9 r10 r11 r12:Int} {r8:Bool} {r0:ByteArray} {r13:Rows} {s0 s1 s2 s3 s4 s5 s6 s7 s8 s9 s10 s11 s12 s13 s15 s21 s22 s23 s25 s26 s27:Int} {s18 s20:Bool} {s14 s16 s17 s19 s24:Rows} {b:Bool} (h:Fit s14 s16 s17 s19 s24) (hw:s16.length≤1048575) (hN:2097152<N) (hs:r0.size≤1048576):Si N [.str r0,.int r1,.int r2,.int r3,.int r4,.int r5,.int r6,.int r7,.bool r8,.int r9,.int r10,.int r11,.int r12,.rows r13,.int s0,.int s1,.int s2,.int s3,.int s4,.int s5,.int s6,.int s7,.int s8,.int s9,.int s10,.int s11,.int s12,.int s13,.rows s14,.int s15,.rows s16,.rows s17,.bool s18,.rows s19,.bool s20,.int s21,.int s22,.int s23,.rows s24,.int s25,.int s26,.int s27,.bool b]=some (ka (DB (⟨r0,r1,r2,r3,r4,r5,r6,r7,r8,r9,r10,r11,r12,r13⟩:Rul) (⟨s0,s1,s2,s3,s4,s5,s6,s7,s8,s9,s10,s11,s12,s13,s14,s15,s16,s17,s18,s19,s20,s21,s22,s23,s24,s25,s26,s27⟩:Inn) b)):=by
 show Sv (std (Gx N) N) (xOf _)=_
 generalize hres:(some (ka (DB (⟨r0,r1,r2,r3,r4,r5,r6,r7,r8,r9,r10,r11,r12,r13⟩:Rul) (⟨s0,s1,s2,s3,s4,s5,s6,s7,s8,s9,s10,s11,s12,s13,s14,s15,s16,s17,s18,s19,s20,s21,s22,s23,s24,s25,s26,s27⟩:Inn) b)):Option (List PV))=RR
 have ha:(s16++[[PV.int s15]]).length≤1048576:=by simp;omega
 simp only [Sv,Yf,ZF,X7,cE,std,xOf,PXb,PXc,PXn,PXm,Nat.reduceAdd,Int.reduceBEq,CF h,Tt,Iw hN hs,lX hN h.bw',Ju ha (show 8≤4096 by omega)]
 subst hres;simp only [DB]
 cases hp:inR s15 s19.length with
 | false=>cases Bj (⟨r0,r1,r2,r3,r4,r5,r6,r7,r8,r9,r10,r11,r12,r13⟩:Rul)==0<;>rfl
 | true =>
  rw [Db hp h.bd]
  cases Bj (⟨r0,r1,r2,r3,r4,r5,r6,r7,r8,r9,r10,r11,r12,r13⟩:Rul)==0<;>try rfl
  cases Hb s16 s16.length s15<;>cases b<;>simp only [PXb,PXc,PXn,PXm,Nat.reduceAdd,Int.reduceBEq,inc]
  all_goals first | (cases iLt s11 r4<;>rfl) | (cases iLt (IntKind.i64.wrap (s11+1)) r4<;>rfl)
def IC (r:Rul) (s:Inn):Inn×Int :=
 cond (!(Bj r==0)||r.newball==0||iLt s.ballage (IntKind.i64.wrap (r.newball * r.balls))) (s,22) ({ s with ballage:=0 },0)
theorem ja {N:Nat} {r1 r2 r3 r4 r5 r6 r7 r9 r10 r11 r12:Int} {r8:Bool} {r0:ByteArray} {r13:Rows} {s0 s1 s2 s3 s4 s5 s6 s7 s8 s9 s10 s11 s12 s13 s15 s21 s22 s23 s25 s26 s27:Int} {s18 s20:Bool} {s14 s16 s17 s19 s24:Rows} (h:Fit s14 s16 s17 s19 s24) (hN:2097152<N) (hs:r0.size≤1048576):F0 N [.str r0,.int r1,.int r2,.int r3,.int r4,.int r5,.int r6,.int r7,.bool r8,.int r9,.int r10,.int r11,.int r12,.rows r13,.int s0,.int s1,.int s2,.int s3,.int s4,.int s5,.int s6,.int s7,.int s8,.int s9,.int s10,.int s11,.int s12,.int s13,.rows s14,.int s15,.rows s16,.rows s17,.bool s18,.rows s19,.bool s20,.int s21,.int s22,.int s23,.rows s24,.int s25,.int s26,.int s27]=some (AY (IC (⟨r0,r1,r2,r3,r4,r5,r6,r7,r8,r9,r10,r11,r12,r13⟩:Rul) (⟨s0,s1,s2,s3,s4,s5,s6,s7,s8,s9,s10,s11,s12,s13,s14,s15,s16,s17,s18,s19,s20,s21,s22,s23,s24,s25,s26,s27⟩:Inn))):=by
 show JN (std (Gi N) N) (xOf _)=_
 generalize hres:(some (AY (IC (⟨r0,r1,r2,r3,r4,r5,r6,r7,r8,r9,r10,r11,r12,r13⟩:Rul) (⟨s0,s1,s2,s3,s4,s5,s6,s7,s8,s9,s10,s11,s12,s13,s14,s15,s16,s17,s18,s19,s20,s21,s22,s23,s24,s25,s26,s27⟩:Inn))):Option (List PV))=RR
 simp only [JN,Rh,TT,std,xOf,PXb,PXc,PXn,PXm,Nat.reduceAdd,Int.reduceBEq,Wi h,EP hN hs]
 subst hres;simp only [IC]
 cases (!(Bj (⟨r0,r1,r2,r3,r4,r5,r6,r7,r8,r9,r10,r11,r12,r13⟩:Rul)==0)||r9==0||iLt s21 (IntKind.i64.wrap (r9 * r4)))<;>rfl
theorem mj {N:Nat} {r1 r2 r3 r4 r5 r6 r7 r9 r10 r11 r12:Int} {r8:Bool} {r0:ByteArray} {r13:Rows} {s0 s1 s2 s3 s4 s5 s6 s7 s8 s9 s10 s11 s12 s13 s15 s21 s22 s23 s25 s26 s27:Int} {s18 s20:Bool} {s14 s16 s17 s19 s24:Rows} (h:Fit s14 s16 s17 s19 s24) (hN:2097152<N) (hs:r0.size≤1048576):MX N [.str r0,.int r1,.int r2,.int r3,.int r4,.int r5,.int r6,.int r7,.bool r8,.int r9,.int r10,.int r11,.int r12,.rows r13,.int s0,.int s1,.int s2,.int s3,.int s4,.int s5,.int s6,.int s7,.int s8,.int s9,.int s10,.int s11,.int s12,.int s13,.rows s14,.int s15,.rows s16,.rows s17,.bool s18,.rows s19,.bool s20,.int s21,.int s22,.int s23,.rows s24,.int s25,.int s26,.int s27]=some (AY (IC (⟨r0,r1,r2,r3,r4,r5,r6,r7,r8,r9,r10,r11,r12,r13⟩:Rul) (⟨s0,s1,s2,s3,s4,s5,s6,s7,s8,s9,s10,s11,s12,s13,s14,s15,s16,s17,s18,s19,s20,s21,s22,s23,s24,s25,s26,s27⟩:Inn))):=by
 show MB (std (JQ N) N) (xOf _)=_
 generalize hres:(some (AY (IC (⟨r0,r1,r2,r3,r4,r5,r6,r7,r8,r9,r10,r11,r12,r13⟩:Rul) (⟨s0,s1,s2,s3,s4,s5,s6,s7,s8,s9,s10,s11,s12,s13,s14,s15,s16,s17,s18,s19,s20,s21,s22,s23,s24,s25,s26,s27⟩:Inn))):Option (List PV))=RR
 simp only [MB,Ui,Uw,std,xOf,PXb,PXc,PXn,PXm,Nat.reduceAdd,Int.reduceBEq,CF h,Iw hN hs]
 subst hres;simp only [IC]
 cases (!(Bj (⟨r0,r1,r2,r3,r4,r5,r6,r7,r8,r9,r10,r11,r12,r13⟩:Rul)==0)||r9==0||iLt s21 (IntKind.i64.wrap (r9 * r4)))<;>rfl
end Go.Px
end
