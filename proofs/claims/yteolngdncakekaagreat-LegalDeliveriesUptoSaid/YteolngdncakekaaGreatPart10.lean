/- Part 10. -/
import Derived.Test.YteolngdncakekaaGreatPart07
import Derived.Test.YteolngdncakekaaGreatPart09
set_option linter.unusedVariables false
set_option linter.unusedSimpArgs false
section
namespace Go.Px
set_option maxRecDepth 100000
theorem G7 {N:Nat} {s0 s1 s2 s3 s4 s5 s6 s7 s8 s9 s10 s11 s12 s13 s15 s21 s22 s23 s25 s26 s27:Int} {s18 s20:Bool} {s14 s16 s17 s19 s24:Rows} (h:Fit s14 s16 s17 s19 s24):Ax N [.int s0,.int s1,.int s2,.int s3,.int s4,.int s5,.int s6,.int s7,.int s8,.int s9,.int s10,.int s11,.int s12,.int s13,.rows s14,.int s15,.rows s16,.rows s17,.bool s18,.rows s19,.bool s20,.int s21,.int s22,.int s23,.rows s24,.int s25,.int s26,.int s27]=some [.int s0,.int s1,.int s2,.int s3,.int s4,.int s5,.int s6,.int s7,.int s8,.int s9,.int s10,.int s11,.int s12,.int s13,.rows s14,.int s15,.rows s16,.rows s17,.bool s18,.rows s19,.bool s20,.int s21,.int s22,.int s23,.rows s24,.int s25,.int s26,.int s27]:=by
 show O2 (std (Gi N) N) (xOf _)=_
 simp only [O2,Mm,PB,ON,std,xOf,PXb,PXc,PXn,PXm,Nat.reduceAdd,Int.reduceBEq,AR,Af,Ac,BZ h.bt (show 1≤4096 by omega),BZ h.bw' (show 8≤4096 by omega),BZ h.bf (show 8≤4096 by omega),BZ h.bd (show 8≤4096 by omega),BZ h.sb (show 1≤4096 by omega)]
theorem Bz {N:Nat} {s0 s1 s2 s3 s4 s5 s6 s7 s8 s9 s10 s11 s12 s13 s15 s21 s22 s23 s25 s26 s27:Int} {s18 s20:Bool} {s14 s16 s17 s19 s24:Rows} (h:Fit s14 s16 s17 s19 s24):AO N [.int s0,.int s1,.int s2,.int s3,.int s4,.int s5,.int s6,.int s7,.int s8,.int s9,.int s10,.int s11,.int s12,.int s13,.rows s14,.int s15,.rows s16,.rows s17,.bool s18,.rows s19,.bool s20,.int s21,.int s22,.int s23,.rows s24,.int s25,.int s26,.int s27]=some [.int s0,.int s1,.int s2,.int s3,.int s4,.int s5,.int s6,.int s7,.int s8,.int s9,.int s10,.int s11,.int s12,.int s13,.rows s14,.int s15,.rows s16,.rows s17,.bool s18,.rows s19,.bool s20,.int s21,.int s22,.int s23,.rows s24,.int s25,.int s26,.int s27]:=by
 show Qc (std (ZG N) N) (xOf _)=_
 simp only [Qc,std,xOf,PXb,PXc,PXn,PXm,Nat.reduceAdd,Int.reduceBEq,Jo h.bt (show 1≤4096 by omega),Jo h.bw' (show 8≤4096 by omega),Jo h.bf (show 8≤4096 by omega),Jo h.bd (show 8≤4096 by omega),Jo h.sb (show 1≤4096 by omega)]
theorem Gx {N:Nat} {s0 s1 s2 s3 s4 s5 s6 s7 s8 s9 s10 s11 s12 s13 s15 s21 s22 s23 s25 s26 s27:Int} {s18 s20:Bool} {s14 s16 s17 s19 s24:Rows} {p:Int}  : Ay N [.int s0,.int s1,.int s2,.int s3,.int s4,.int s5,.int s6,.int s7,.int s8,.int s9,.int s10,.int s11,.int s12,.int s13,.rows s14,.int s15,.rows s16,.rows s17,.bool s18,.rows s19,.bool s20,.int s21,.int s22,.int s23,.rows s24,.int s25,.int s26,.int s27,.int p]=some [.bool (inR p s14.length)]:=by
 show Kj (std (T1 N) N) (xOf _)=_
 simp only [Kj,std,xOf,PXb,PXc,PXn,PXm,Nat.reduceAdd,Int.reduceBEq]
 rfl
theorem Nj {N:Nat} {s0 s1 s2 s3 s4 s5 s6 s7 s8 s9 s10 s11 s12 s13 s15 s21 s22 s23 s25 s26 s27:Int} {s18 s20:Bool} {s14 s16 s17 s19 s24:Rows} {p:Int}  : BV N [.int s0,.int s1,.int s2,.int s3,.int s4,.int s5,.int s6,.int s7,.int s8,.int s9,.int s10,.int s11,.int s12,.int s13,.rows s14,.int s15,.rows s16,.rows s17,.bool s18,.rows s19,.bool s20,.int s21,.int s22,.int s23,.rows s24,.int s25,.int s26,.int s27,.int p]=some [.bool (inR p s14.length)]:=by
 show Ny (std (Wc N) N) (xOf _)=_
 simp only [Ny,std,xOf,PXb,PXc,PXn,PXm,Nat.reduceAdd,Int.reduceBEq]
 rfl
def BQ (s:Inn) (d:Del):Inn :=
  let odd := !(d.runs.tmod 2==0) != d.crossed
  let t:Inn:=cond odd { s with striker:=s.other,other:=s.striker } s
  let k:Bool:=d.how==0
  cond (!k&&(d.victim==1 && !(s.striker==0)))
    { t with striker:=cond odd t.striker 0,other:=cond odd 0 t.other,batters:=cond (inR s.striker s.batters.length) (Jp s.batters s.striker 2) s.batters,wickets:=IntKind.i64.wrap (s.wickets+1) }
    (cond (!k&&(d.victim==2 && !(s.other==0)))
      { t with striker:=cond odd 0 t.striker,other:=cond odd t.other 0,batters:=cond (inR s.other s.batters.length) (Jp s.batters s.other 2) s.batters,wickets:=IntKind.i64.wrap (s.wickets+1) }
      t)
theorem mE {N:Nat} {s0 s1 s2 s3 s4 s5 s6 s7 s8 s9 s10 s11 s12 s13 s15 s21 s22 s23 s25 s26 s27:Int} {s18 s20:Bool} {s14 s16 s17 s19 s24:Rows} {d0 d1 d2 d3 d4 d6 d7 d8 d9 d11:Int} {d5 d10:Bool} (h:Fit s14 s16 s17 s19 s24):Jf N [.int s0,.int s1,.int s2,.int s3,.int s4,.int s5,.int s6,.int s7,.int s8,.int s9,.int s10,.int s11,.int s12,.int s13,.rows s14,.int s15,.rows s16,.rows s17,.bool s18,.rows s19,.bool s20,.int s21,.int s22,.int s23,.rows s24,.int s25,.int s26,.int s27,.int d0,.int d1,.int d2,.int d3,.int d4,.bool d5,.int d6,.int d7,.int d8,.int d9,.bool d10,.int d11]=some (BQ (⟨s0,s1,s2,s3,s4,s5,s6,s7,s8,s9,s10,s11,s12,s13,s14,s15,s16,s17,s18,s19,s20,s21,s22,s23,s24,s25,s26,s27⟩:Inn) (⟨d0,d1,d2,d3,d4,d5,d6,d7,d8,d9,d10,d11⟩:Del)).ls:=by
 show OI (std (Ki N) N) (xOf _)=_
 simp only [OI,UO,SJ,std,xOf,PXb,PXc,PXn,PXm,Nat.reduceAdd,Int.reduceBEq,G7 h,Gx,rb h.bt]
 unfold BQ
 cases d5<;>cases d2.tmod 2==0<;>cases d6==0<;>cases d7==1<;>cases d7==2<;>cases s12==0<;>cases s13==0<;>rfl
def Wi (s:Inn):Inn:={ s with striker:=s.other,other:=s.striker }
theorem fw {N:Nat} {s0 s1 s2 s3 s4 s5 s6 s7 s8 s9 s10 s11 s12 s13 s15 s21 s22 s23 s25 s26 s27:Int} {s18 s20:Bool} {s14 s16 s17 s19 s24:Rows} (h:Fit s14 s16 s17 s19 s24):GB N [.int s0,.int s1,.int s2,.int s3,.int s4,.int s5,.int s6,.int s7,.int s8,.int s9,.int s10,.int s11,.int s12,.int s13,.rows s14,.int s15,.rows s16,.rows s17,.bool s18,.rows s19,.bool s20,.int s21,.int s22,.int s23,.rows s24,.int s25,.int s26,.int s27]=some (Wi (⟨s0,s1,s2,s3,s4,s5,s6,s7,s8,s9,s10,s11,s12,s13,s14,s15,s16,s17,s18,s19,s20,s21,s22,s23,s24,s25,s26,s27⟩:Inn)).ls:=by
 show JE (std (K0 N) N) (xOf _)=_
 simp only [JE,Rl,std,xOf,PXb,PXc,PXn,PXm,Nat.reduceAdd,Int.reduceBEq,G7 h]
 rfl
theorem ar {N:Nat} {s0 s1 s2 s3 s4 s5 s6 s7 s8 s9 s10 s11 s12 s13 s15 s21 s22 s23 s25 s26 s27:Int} {s18 s20:Bool} {s14 s16 s17 s19 s24:Rows} (h:Fit s14 s16 s17 s19 s24):FC N [.int s0,.int s1,.int s2,.int s3,.int s4,.int s5,.int s6,.int s7,.int s8,.int s9,.int s10,.int s11,.int s12,.int s13,.rows s14,.int s15,.rows s16,.rows s17,.bool s18,.rows s19,.bool s20,.int s21,.int s22,.int s23,.rows s24,.int s25,.int s26,.int s27]=some (Wi (⟨s0,s1,s2,s3,s4,s5,s6,s7,s8,s9,s10,s11,s12,s13,s14,s15,s16,s17,s18,s19,s20,s21,s22,s23,s24,s25,s26,s27⟩:Inn)).ls:=by
 show NW (std (Pf N) N) (xOf _)=_
 simp only [NW,Vl,std,xOf,PXb,PXc,PXn,PXm,Nat.reduceAdd,Int.reduceBEq,Bz h]
 rfl
theorem sY {N:Nat} {s0 s1 s2 s3 s4 s5 s6 s7 s8 s9 s10 s11 s12 s13 s15 s21 s22 s23 s25 s26 s27:Int} {s18 s20:Bool} {s14 s16 s17 s19 s24:Rows} {d0 d1 d2 d3 d4 d6 d7 d8 d9 d11:Int} {d5 d10:Bool} (h:Fit s14 s16 s17 s19 s24):VO N [.int s0,.int s1,.int s2,.int s3,.int s4,.int s5,.int s6,.int s7,.int s8,.int s9,.int s10,.int s11,.int s12,.int s13,.rows s14,.int s15,.rows s16,.rows s17,.bool s18,.rows s19,.bool s20,.int s21,.int s22,.int s23,.rows s24,.int s25,.int s26,.int s27,.int d0,.int d1,.int d2,.int d3,.int d4,.bool d5,.int d6,.int d7,.int d8,.int d9,.bool d10,.int d11]=some (BQ (⟨s0,s1,s2,s3,s4,s5,s6,s7,s8,s9,s10,s11,s12,s13,s14,s15,s16,s17,s18,s19,s20,s21,s22,s23,s24,s25,s26,s27⟩:Inn) (⟨d0,d1,d2,d3,d4,d5,d6,d7,d8,d9,d10,d11⟩:Del)).ls:=by
 show VS (std (Lc N) N) (xOf _)=_
 simp only [VS,Ze,YG,Xo,std,xOf,PXb,PXc,PXn,PXm,Nat.reduceAdd,Int.reduceBEq,Bz h,Nj,rb h.bt,ar h,Wi,BQ]
 cases h71:d7==1
 ·cases d5<;>cases d2.tmod 2==0<;>cases d6==0<;>cases d7==2<;>cases s12==0<;>cases s13==0<;>rfl
 ·rw [jZ h71]
  cases d5<;>cases d2.tmod 2==0<;>cases d6==0<;>cases s12==0<;>rfl
theorem fQ {N:Nat} {v:Int}  : Cx N [.int v]=some [.bool (!(v==0))]:=by
 show MV (std (Q0 N) N) (xOf _)=_
 rfl
theorem ct {N:Nat} {v:Int}  : EH N [.int v]=some [.bool (!(v==0))]:=by
 show K2 (std (PE N) N) (xOf _)=_
 rfl
theorem Wu {N:Nat} {s0 s1 s2 s3 s4 s5 s6 s7 s8 s9 s10 s11 s12 s13 s15 s21 s22 s23 s25 s26 s27:Int} {s18 s20:Bool} {s14 s16 s17 s19 s24:Rows} (h:s14.length≤1048576) (hN:2097152<N):B3 N [.int s0,.int s1,.int s2,.int s3,.int s4,.int s5,.int s6,.int s7,.int s8,.int s9,.int s10,.int s11,.int s12,.int s13,.rows s14,.int s15,.rows s16,.rows s17,.bool s18,.rows s19,.bool s20,.int s21,.int s22,.int s23,.rows s24,.int s25,.int s26,.int s27]=some [.bool (CY s14)]:=by
 show Eo (std (E7 N) N) (xOf _)=_
 simp only [Eo,GT,std,xOf,PXb,PXc,PXn,AA]
 rw [show CY s14=iLe 0 (Ra (fun i => !(atI s14 i 0==0)) s14.length) from (Kb _ _).symm]
 rw [Option.bind_assoc]
 refine AJ (Ce (len:=s14.length) (GL fun i => !(atI s14 i 0==0)) ?_ ?_ s14.length 0 N (by omega) (by omega)) ?_
 ·intro self
  simp only [PXb,PXc,PXn,AA,Ap]
 ·intro i self hi
  simp only [PXb,PXc,PXn,AA,AW (show i≤1099511627776 by omega),Ah hi,AP hi,GL,Bo,GT,fQ]
  cases atI s14 i 0==0<;>rfl
 ·unfold Ra
  cases CH (GL fun i => !(atI s14 i 0==0)) s14.length 0<;>rfl
theorem gW {N:Nat} {s0 s1 s2 s3 s4 s5 s6 s7 s8 s9 s10 s11 s12 s13 s15 s21 s22 s23 s25 s26 s27:Int} {s18 s20:Bool} {s14 s16 s17 s19 s24:Rows} (h:s14.length≤1048576) (hN:2097152<N):Fm N [.int s0,.int s1,.int s2,.int s3,.int s4,.int s5,.int s6,.int s7,.int s8,.int s9,.int s10,.int s11,.int s12,.int s13,.rows s14,.int s15,.rows s16,.rows s17,.bool s18,.rows s19,.bool s20,.int s21,.int s22,.int s23,.rows s24,.int s25,.int s26,.int s27]=some [.bool (CY s14)]:=by
 show JI (std (Kz N) N) (xOf _)=_
 simp only [JI,FU,std,xOf,PXb,PXc,PXn,AA]
 rw [show CY s14=iLe 0 (Ra (fun i => !(atI s14 i 0==0)) s14.length) from (Kb _ _).symm]
 rw [Option.bind_assoc]
 refine AJ (Ce (len:=s14.length) (GL fun i => !(atI s14 i 0==0)) ?_ ?_ s14.length 0 N (by omega) (by omega)) ?_
 ·intro self
  simp only [PXb,PXc,PXn,AA,Ap]
 ·intro i self hi
  simp only [PXb,PXc,PXn,AA,AW (show i≤1099511627776 by omega),Ah hi,AP hi,GL,Bo,FU,ct]
  cases atI s14 i 0==0<;>rfl
 ·unfold Ra
  cases CH (GL fun i => !(atI s14 i 0==0)) s14.length 0<;>rfl
theorem Vf {N:Nat} {s0 s1 s2 s3 s4 s5 s6 s7 s8 s9 s10 s11 s12 s13 s15 s21 s22 s23 s25 s26 s27:Int} {s18 s20:Bool} {s14 s16 s17 s19 s24:Rows} (h:s14.length≤1048576) (hN:2097152<N):Ba N [.int s0,.int s1,.int s2,.int s3,.int s4,.int s5,.int s6,.int s7,.int s8,.int s9,.int s10,.int s11,.int s12,.int s13,.rows s14,.int s15,.rows s16,.rows s17,.bool s18,.rows s19,.bool s20,.int s21,.int s22,.int s23,.rows s24,.int s25,.int s26,.int s27]=some [.bool (CY s14)]:=by
 show Is (std (RS N) N) (xOf _)=_
 simp only [Is,std,xOf,PXb,PXc,PXn,AA]
 refine AJ (Cb (len:=s14.length) (fun i => !(atI s14 i 0==0)) [.bool true] ?_ ?_ N (by omega)) ?_
 ·intro self
  simp only [PXb,PXc,PXn,AA,Ap]
 ·intro i self hi
  simp only [PXb,PXc,PXn,AA,AW (show i≤1099511627776 by omega),Ah hi,AP hi,Bo]
 ·unfold CY
  cases Aq (fun i => !(atI s14 i 0==0)) s14.length 0<;>rfl
theorem Ug {N:Nat} {s0 s1 s2 s3 s4 s5 s6 s7 s8 s9 s10 s11 s12 s13 s15 s21 s22 s23 s25 s26 s27:Int} {s18 s20:Bool} {s14 s16 s17 s19 s24:Rows} (h:s14.length≤1048576) (hN:2097152<N):BL N [.int s0,.int s1,.int s2,.int s3,.int s4,.int s5,.int s6,.int s7,.int s8,.int s9,.int s10,.int s11,.int s12,.int s13,.rows s14,.int s15,.rows s16,.rows s17,.bool s18,.rows s19,.bool s20,.int s21,.int s22,.int s23,.rows s24,.int s25,.int s26,.int s27]=some [.bool (Dk s14 s12 s13)]:=by
 show D6 (std (EO N) N) (xOf _)=_
 simp only [D6,PR,std,xOf,PXb,PXc,PXn,PXm,Nat.reduceAdd,Int.reduceBEq,Wu h hN]
 rfl
theorem ai {N:Nat} {s0 s1 s2 s3 s4 s5 s6 s7 s8 s9 s10 s11 s12 s13 s15 s21 s22 s23 s25 s26 s27:Int} {s18 s20:Bool} {s14 s16 s17 s19 s24:Rows} (h:s14.length≤1048576) (hN:2097152<N):CO N [.int s0,.int s1,.int s2,.int s3,.int s4,.int s5,.int s6,.int s7,.int s8,.int s9,.int s10,.int s11,.int s12,.int s13,.rows s14,.int s15,.rows s16,.rows s17,.bool s18,.rows s19,.bool s20,.int s21,.int s22,.int s23,.rows s24,.int s25,.int s26,.int s27]=some [.bool (Dk s14 s12 s13)]:=by
 show HR (std (HL N) N) (xOf _)=_
 simp only [HR,V8,std,xOf,PXb,PXc,PXn,PXm,Nat.reduceAdd,Int.reduceBEq,Vf h hN]
 rfl
theorem lK {N:Nat} {s0 s1 s2 s3 s4 s5 s6 s7 s8 s9 s10 s11 s12 s13 s15 s21 s22 s23 s25 s26 s27:Int} {s18 s20:Bool} {s14 s16 s17 s19 s24:Rows} (h:s14.length≤1048576) (hN:2097152<N):Cw N [.int s0,.int s1,.int s2,.int s3,.int s4,.int s5,.int s6,.int s7,.int s8,.int s9,.int s10,.int s11,.int s12,.int s13,.rows s14,.int s15,.rows s16,.rows s17,.bool s18,.rows s19,.bool s20,.int s21,.int s22,.int s23,.rows s24,.int s25,.int s26,.int s27]=some [.rows (Bw s14 s14.length)]:=by
 show Fa (std (OK N) N) (xOf _)=_
 simp only [Fa,std,xOf,PXb,PXc,PXn,AA]
 refine AJ (Av (len:=s14.length) (fun i=>[.rows (Bw s14 i),.int (i:Int)]) [.rows (Bw s14 s14.length)] ?_ ?_ N (by omega)) rfl
 ·intro self
  simp only [PXb,PXc,PXn,AA,Ap]
 ·intro i self hi
  have h2:(Bw s14 i++[[PV.int ((i:Int)+1)]]).length≤4194304:=by have:=T6 s14 i;simp;omega
  simp only [PXb,PXc,PXn,AA,AW (show i≤1099511627776 by omega),Ah hi,AP hi,Bo,Bw,DV h2 (show 8≤4096 by omega)]
  cases (atI s14 i 0==0||atI s14 i 0==3)<;>rfl
theorem qQ {N:Nat} {s0 s1 s2 s3 s4 s5 s6 s7 s8 s9 s10 s11 s12 s13 s15 s21 s22 s23 s25 s26 s27:Int} {s18 s20:Bool} {s14 s16 s17 s19 s24:Rows} (h:s14.length≤1048576) (hN:2097152<N):EZ N [.int s0,.int s1,.int s2,.int s3,.int s4,.int s5,.int s6,.int s7,.int s8,.int s9,.int s10,.int s11,.int s12,.int s13,.rows s14,.int s15,.rows s16,.rows s17,.bool s18,.rows s19,.bool s20,.int s21,.int s22,.int s23,.rows s24,.int s25,.int s26,.int s27]=some [.rows (Bw s14 s14.length)]:=by
 show Kg (std (Tz N) N) (xOf _)=_
 simp only [Kg,std,xOf,PXb,PXc,PXn,AA]
 refine AJ (Av (len:=s14.length) (fun i=>[.rows (Bw s14 i),.int (i:Int)]) [.rows (Bw s14 s14.length)] ?_ ?_ N (by omega)) rfl
 ·intro self
  simp only [PXb,PXc,PXn,AA,Ap]
 ·intro i self hi
  have h2:(Bw s14 i++[[PV.int ((i:Int)+1)]]).length≤4194304:=by have:=T6 s14 i;simp;omega
  simp only [PXb,PXc,PXn,AA,AW (show i≤1099511627776 by omega),Ah hi,AP hi,Bo,Bw,DV h2 (show 8≤4096 by omega)]
  cases (atI s14 i 0==0||atI s14 i 0==3)<;>rfl
def Ss (s:Inn) (p q:Int):Inn×Int :=
  cond (CY s.batters) (s,1) (cond (!inR p s.batters.length || !inR q s.batters.length) (s,3) (cond (p==q) (s,4)
    ({ s with batters:=Jp (Jp s.batters p 1) q 1,striker:=p,other:=q },0)))
theorem lX {N:Nat} {s0 s1 s2 s3 s4 s5 s6 s7 s8 s9 s10 s11 s12 s13 s15 s21 s22 s23 s25 s26 s27:Int} {s18 s20:Bool} {s14 s16 s17 s19 s24:Rows} {p:Int} {q:Int} (h:Fit s14 s16 s17 s19 s24) (hN:2097152<N):IP N [.int s0,.int s1,.int s2,.int s3,.int s4,.int s5,.int s6,.int s7,.int s8,.int s9,.int s10,.int s11,.int s12,.int s13,.rows s14,.int s15,.rows s16,.rows s17,.bool s18,.rows s19,.bool s20,.int s21,.int s22,.int s23,.rows s24,.int s25,.int s26,.int s27,.int p,.int q]=some (AY (Ss (⟨s0,s1,s2,s3,s4,s5,s6,s7,s8,s9,s10,s11,s12,s13,s14,s15,s16,s17,s18,s19,s20,s21,s22,s23,s24,s25,s26,s27⟩:Inn) p q)):=by
 show MB (std (Fp N) N) (xOf _)=_
 generalize hres:(some (AY (Ss (⟨s0,s1,s2,s3,s4,s5,s6,s7,s8,s9,s10,s11,s12,s13,s14,s15,s16,s17,s18,s19,s20,s21,s22,s23,s24,s25,s26,s27⟩:Inn) p q)):Option (List PV))=RR
 simp only [MB,TT,Re,Rn,std,xOf,PXb,PXc,PXn,PXm,Nat.reduceAdd,Int.reduceBEq,G7 h,Wu h.bt hN,Gx]
 subst hres;simp only [Ss]
 cases CY s14<;>try rfl
 cases hp:inR p s14.length<;>cases hq:inR q s14.length<;>try rfl
 rw [DS hp h.bt,DS hq h.bt]
 cases p==q<;>rfl
theorem rp {N:Nat} {s0 s1 s2 s3 s4 s5 s6 s7 s8 s9 s10 s11 s12 s13 s15 s21 s22 s23 s25 s26 s27:Int} {s18 s20:Bool} {s14 s16 s17 s19 s24:Rows} {p:Int} {q:Int} (h:Fit s14 s16 s17 s19 s24) (hN:2097152<N):Si N [.int s0,.int s1,.int s2,.int s3,.int s4,.int s5,.int s6,.int s7,.int s8,.int s9,.int s10,.int s11,.int s12,.int s13,.rows s14,.int s15,.rows s16,.rows s17,.bool s18,.rows s19,.bool s20,.int s21,.int s22,.int s23,.rows s24,.int s25,.int s26,.int s27,.int p,.int q]=some (AY (Ss (⟨s0,s1,s2,s3,s4,s5,s6,s7,s8,s9,s10,s11,s12,s13,s14,s15,s16,s17,s18,s19,s20,s21,s22,s23,s24,s25,s26,s27⟩:Inn) p q)):=by
 show SF (std (Jc N) N) (xOf _)=_
 generalize hres:(some (AY (Ss (⟨s0,s1,s2,s3,s4,s5,s6,s7,s8,s9,s10,s11,s12,s13,s14,s15,s16,s17,s18,s19,s20,s21,s22,s23,s24,s25,s26,s27⟩:Inn) p q)):Option (List PV))=RR
 simp only [SF,YX,Yg,Xf,std,xOf,PXb,PXc,PXn,PXm,Nat.reduceAdd,Int.reduceBEq,Bz h,Vf h.bt hN,Nj]
 subst hres;simp only [Ss]
 cases CY s14<;>try rfl
 cases hp:inR p s14.length<;>cases hq:inR q s14.length<;>try rfl
 rw [DS hp h.bt,DS hq h.bt]
 cases p==q<;>rfl
def K4 (s:Inn) (p:Int):Int :=
 cond (!inR p s.batters.length) 3 (cond (!Dk s.batters s.striker s.other||atI s.batters (ix p) 0==1) 4 (cond (atI s.batters (ix p) 0==2) 5 0))
theorem bJ {N:Nat} {s0 s1 s2 s3 s4 s5 s6 s7 s8 s9 s10 s11 s12 s13 s15 s21 s22 s23 s25 s26 s27:Int} {s18 s20:Bool} {s14 s16 s17 s19 s24:Rows} {p:Int} (h:s14.length≤1048576) (hN:2097152<N):D3 N [.int s0,.int s1,.int s2,.int s3,.int s4,.int s5,.int s6,.int s7,.int s8,.int s9,.int s10,.int s11,.int s12,.int s13,.rows s14,.int s15,.rows s16,.rows s17,.bool s18,.rows s19,.bool s20,.int s21,.int s22,.int s23,.rows s24,.int s25,.int s26,.int s27,.int p]=some [.int (K4 (⟨s0,s1,s2,s3,s4,s5,s6,s7,s8,s9,s10,s11,s12,s13,s14,s15,s16,s17,s18,s19,s20,s21,s22,s23,s24,s25,s26,s27⟩:Inn) p)]:=by
 show Ow (std (KH N) N) (xOf _)=_
 generalize hres:(some [.int (K4 (⟨s0,s1,s2,s3,s4,s5,s6,s7,s8,s9,s10,s11,s12,s13,s14,s15,s16,s17,s18,s19,s20,s21,s22,s23,s24,s25,s26,s27⟩:Inn) p)]:Option (List PV))=RR
 simp only [Ow,RU,Sk,std,xOf,PXb,PXc,PXn,PXm,Nat.reduceAdd,Int.reduceBEq,Gx,Ug h hN]
 subst hres;simp only [K4]
 cases hp:inR p s14.length<;>try rfl
 rw [DS hp h]
 cases Dk s14 s12 s13<;>try rfl
 simp only [PXb,PXc,PXn,PXm,Nat.reduceAdd,Int.reduceBEq,atI,ix]
theorem eG {N:Nat} {s0 s1 s2 s3 s4 s5 s6 s7 s8 s9 s10 s11 s12 s13 s15 s21 s22 s23 s25 s26 s27:Int} {s18 s20:Bool} {s14 s16 s17 s19 s24:Rows} {p:Int} (h:s14.length≤1048576) (hN:2097152<N):Eg N [.int s0,.int s1,.int s2,.int s3,.int s4,.int s5,.int s6,.int s7,.int s8,.int s9,.int s10,.int s11,.int s12,.int s13,.rows s14,.int s15,.rows s16,.rows s17,.bool s18,.rows s19,.bool s20,.int s21,.int s22,.int s23,.rows s24,.int s25,.int s26,.int s27,.int p]=some [.int (K4 (⟨s0,s1,s2,s3,s4,s5,s6,s7,s8,s9,s10,s11,s12,s13,s14,s15,s16,s17,s18,s19,s20,s21,s22,s23,s24,s25,s26,s27⟩:Inn) p)]:=by
 show QP (std (Lp N) N) (xOf _)=_
 generalize hres:(some [.int (K4 (⟨s0,s1,s2,s3,s4,s5,s6,s7,s8,s9,s10,s11,s12,s13,s14,s15,s16,s17,s18,s19,s20,s21,s22,s23,s24,s25,s26,s27⟩:Inn) p)]:Option (List PV))=RR
 simp only [QP,WT,WI,std,xOf,PXb,PXc,PXn,PXm,Nat.reduceAdd,Int.reduceBEq,Nj,ai h hN]
 subst hres;simp only [K4]
 cases hp:inR p s14.length<;>try rfl
 rw [DS hp h]
 cases Dk s14 s12 s13<;>try rfl
 simp only [PXb,PXc,PXn,PXm,Nat.reduceAdd,Int.reduceBEq,atI,ix]
theorem Um {s:Inn} {p:Int} (h:(K4 s p==0)=true):inR p s.batters.length=true:=by
 unfold K4 at h
 cases hp:inR p s.batters.length with
 | true=>rfl
 | false=>rw [hp] at h;cases h
def OC (s:Inn) (p:Int):Inn×Int :=
 cond (K4 s p==0) ({ s with batters:=Jp s.batters p 1,striker:=cond (s.striker==0) p s.striker,other:=cond (s.striker==0) s.other p },0) (s,K4 s p)
def Hi (s:Inn) (p:Int):Inn×Int :=
 cond (K4 s p==0) ({ s with batters:=Jp s.batters p 2,wickets:=IntKind.i64.wrap (s.wickets+1) },0) (s,K4 s p)
theorem jd {N:Nat} {s0 s1 s2 s3 s4 s5 s6 s7 s8 s9 s10 s11 s12 s13 s15 s21 s22 s23 s25 s26 s27:Int} {s18 s20:Bool} {s14 s16 s17 s19 s24:Rows} {p:Int} (h:Fit s14 s16 s17 s19 s24) (hN:2097152<N):Gp N [.int s0,.int s1,.int s2,.int s3,.int s4,.int s5,.int s6,.int s7,.int s8,.int s9,.int s10,.int s11,.int s12,.int s13,.rows s14,.int s15,.rows s16,.rows s17,.bool s18,.rows s19,.bool s20,.int s21,.int s22,.int s23,.rows s24,.int s25,.int s26,.int s27,.int p]=some (AY (OC (⟨s0,s1,s2,s3,s4,s5,s6,s7,s8,s9,s10,s11,s12,s13,s14,s15,s16,s17,s18,s19,s20,s21,s22,s23,s24,s25,s26,s27⟩:Inn) p)):=by
 show Kd (std (Hl N) N) (xOf _)=_
 generalize hres:(some (AY (OC (⟨s0,s1,s2,s3,s4,s5,s6,s7,s8,s9,s10,s11,s12,s13,s14,s15,s16,s17,s18,s19,s20,s21,s22,s23,s24,s25,s26,s27⟩:Inn) p)):Option (List PV))=RR
 simp only [Kd,Sb,SN,std,xOf,PXb,PXc,PXn,PXm,Nat.reduceAdd,Int.reduceBEq,G7 h,bJ h.bt hN]
 subst hres;simp only [OC]
 cases hm:K4 (⟨s0,s1,s2,s3,s4,s5,s6,s7,s8,s9,s10,s11,s12,s13,s14,s15,s16,s17,s18,s19,s20,s21,s22,s23,s24,s25,s26,s27⟩:Inn) p==0<;>try rfl
 rw [DS (Um hm) h.bt]
 cases s12==0<;>rfl
theorem pK {N:Nat} {s0 s1 s2 s3 s4 s5 s6 s7 s8 s9 s10 s11 s12 s13 s15 s21 s22 s23 s25 s26 s27:Int} {s18 s20:Bool} {s14 s16 s17 s19 s24:Rows} {p:Int} (h:Fit s14 s16 s17 s19 s24) (hN:2097152<N):P2 N [.int s0,.int s1,.int s2,.int s3,.int s4,.int s5,.int s6,.int s7,.int s8,.int s9,.int s10,.int s11,.int s12,.int s13,.rows s14,.int s15,.rows s16,.rows s17,.bool s18,.rows s19,.bool s20,.int s21,.int s22,.int s23,.rows s24,.int s25,.int s26,.int s27,.int p]=some (AY (OC (⟨s0,s1,s2,s3,s4,s5,s6,s7,s8,s9,s10,s11,s12,s13,s14,s15,s16,s17,s18,s19,s20,s21,s22,s23,s24,s25,s26,s27⟩:Inn) p)):=by
 show QY (std (Ln N) N) (xOf _)=_
 generalize hres:(some (AY (OC (⟨s0,s1,s2,s3,s4,s5,s6,s7,s8,s9,s10,s11,s12,s13,s14,s15,s16,s17,s18,s19,s20,s21,s22,s23,s24,s25,s26,s27⟩:Inn) p)):Option (List PV))=RR
 simp only [QY,XU,XR,std,xOf,PXb,PXc,PXn,PXm,Nat.reduceAdd,Int.reduceBEq,Bz h,eG h.bt hN]
 subst hres;simp only [OC]
 cases hm:K4 (⟨s0,s1,s2,s3,s4,s5,s6,s7,s8,s9,s10,s11,s12,s13,s14,s15,s16,s17,s18,s19,s20,s21,s22,s23,s24,s25,s26,s27⟩:Inn) p==0<;>try rfl
 rw [DS (Um hm) h.bt]
 cases s12==0<;>rfl
theorem fc {N:Nat} {s0 s1 s2 s3 s4 s5 s6 s7 s8 s9 s10 s11 s12 s13 s15 s21 s22 s23 s25 s26 s27:Int} {s18 s20:Bool} {s14 s16 s17 s19 s24:Rows} {p:Int} (h:Fit s14 s16 s17 s19 s24) (hN:2097152<N):E3 N [.int s0,.int s1,.int s2,.int s3,.int s4,.int s5,.int s6,.int s7,.int s8,.int s9,.int s10,.int s11,.int s12,.int s13,.rows s14,.int s15,.rows s16,.rows s17,.bool s18,.rows s19,.bool s20,.int s21,.int s22,.int s23,.rows s24,.int s25,.int s26,.int s27,.int p]=some (AY (Hi (⟨s0,s1,s2,s3,s4,s5,s6,s7,s8,s9,s10,s11,s12,s13,s14,s15,s16,s17,s18,s19,s20,s21,s22,s23,s24,s25,s26,s27⟩:Inn) p)):=by
 show H6 (std (Dl N) N) (xOf _)=_
 generalize hres:(some (AY (Hi (⟨s0,s1,s2,s3,s4,s5,s6,s7,s8,s9,s10,s11,s12,s13,s14,s15,s16,s17,s18,s19,s20,s21,s22,s23,s24,s25,s26,s27⟩:Inn) p)):Option (List PV))=RR
 simp only [H6,RQ,O7,Ql,std,xOf,PXb,PXc,PXn,PXm,Nat.reduceAdd,Int.reduceBEq,G7 h,bJ h.bt hN,Gx]
 subst hres;simp only [Hi]
 cases hm:K4 (⟨s0,s1,s2,s3,s4,s5,s6,s7,s8,s9,s10,s11,s12,s13,s14,s15,s16,s17,s18,s19,s20,s21,s22,s23,s24,s25,s26,s27⟩:Inn) p==0<;>try rfl
 have hk:inR p s14.length=true:=Um hm
 rw [DS hk h.bt,hk]
 rfl
theorem kv {N:Nat} {s0 s1 s2 s3 s4 s5 s6 s7 s8 s9 s10 s11 s12 s13 s15 s21 s22 s23 s25 s26 s27:Int} {s18 s20:Bool} {s14 s16 s17 s19 s24:Rows} {p:Int} (h:Fit s14 s16 s17 s19 s24) (hN:2097152<N):MM N [.int s0,.int s1,.int s2,.int s3,.int s4,.int s5,.int s6,.int s7,.int s8,.int s9,.int s10,.int s11,.int s12,.int s13,.rows s14,.int s15,.rows s16,.rows s17,.bool s18,.rows s19,.bool s20,.int s21,.int s22,.int s23,.rows s24,.int s25,.int s26,.int s27,.int p]=some (AY (Hi (⟨s0,s1,s2,s3,s4,s5,s6,s7,s8,s9,s10,s11,s12,s13,s14,s15,s16,s17,s18,s19,s20,s21,s22,s23,s24,s25,s26,s27⟩:Inn) p)):=by
 show Lj (std (I3 N) N) (xOf _)=_
 generalize hres:(some (AY (Hi (⟨s0,s1,s2,s3,s4,s5,s6,s7,s8,s9,s10,s11,s12,s13,s14,s15,s16,s17,s18,s19,s20,s21,s22,s23,s24,s25,s26,s27⟩:Inn) p)):Option (List PV))=RR
 simp only [Lj,UF,UC,std,xOf,PXb,PXc,PXn,PXm,Nat.reduceAdd,Int.reduceBEq,Bz h,eG h.bt hN]
 subst hres;simp only [Hi]
 cases hm:K4 (⟨s0,s1,s2,s3,s4,s5,s6,s7,s8,s9,s10,s11,s12,s13,s14,s15,s16,s17,s18,s19,s20,s21,s22,s23,s24,s25,s26,s27⟩:Inn) p==0<;>try rfl
 rw [DS (Um hm) h.bt]
 rfl
def KY (s:Inn) (p:Int) (hurt:Bool):Inn×Int :=
  cond (!inR p s.batters.length) (s,3) (cond (s.striker==0||s.other==0) (s,6) (cond (!(p==s.striker) && !(p==s.other)) (s,4)
    (cond (hurt&&((Bw s.batters s.batters.length).length:Int)==0) (s,19)
      ({ s with striker:=cond (p==s.striker) 0 s.striker,other:=cond (p==s.striker) s.other 0,batters:=Jp s.batters p (cond hurt 3 2),wickets:=cond hurt s.wickets (IntKind.i64.wrap (s.wickets+1)) },0))))
theorem gy {N:Nat} {s0 s1 s2 s3 s4 s5 s6 s7 s8 s9 s10 s11 s12 s13 s15 s21 s22 s23 s25 s26 s27:Int} {s18 s20:Bool} {s14 s16 s17 s19 s24:Rows} {p:Int} {b:Bool} (h:Fit s14 s16 s17 s19 s24) (hN:2097152<N):Ft N [.int s0,.int s1,.int s2,.int s3,.int s4,.int s5,.int s6,.int s7,.int s8,.int s9,.int s10,.int s11,.int s12,.int s13,.rows s14,.int s15,.rows s16,.rows s17,.bool s18,.rows s19,.bool s20,.int s21,.int s22,.int s23,.rows s24,.int s25,.int s26,.int s27,.int p,.bool b]=some (AY (KY (⟨s0,s1,s2,s3,s4,s5,s6,s7,s8,s9,s10,s11,s12,s13,s14,s15,s16,s17,s18,s19,s20,s21,s22,s23,s24,s25,s26,s27⟩:Inn) p b)):=by
 show JP (std (EV N) N) (xOf _)=_
 generalize hres:(some (AY (KY (⟨s0,s1,s2,s3,s4,s5,s6,s7,s8,s9,s10,s11,s12,s13,s14,s15,s16,s17,s18,s19,s20,s21,s22,s23,s24,s25,s26,s27⟩:Inn) p b)):Option (List PV))=RR
 simp only [JP,Q4,Rh,PQ,std,xOf,PXb,PXc,PXn,PXm,Nat.reduceAdd,Int.reduceBEq,G7 h,Gx,lK h.bt hN]
 subst hres;simp only [KY]
 cases hp:inR p s14.length<;>try rfl
 rw [DS hp h.bt]
 cases s12==0<;>cases s13==0<;>try rfl
 cases p==s12<;>cases p==s13<;>cases b<;>try rfl
 all_goals (simp only [PXb,PXc,PXn,PXm,Nat.reduceAdd,Int.reduceBEq];cases ((Bw s14 s14.length).length:Int)==0<;>rfl)
theorem tI (L:Rows) (p a b:Int):Jp (Jp L p a) p b=Jp L p b:=by
 unfold Jp
 rw [List.set_set]
 rcases Nat.lt_or_ge (ix p) L.length with h | h
 ·have:Aj (L.set (ix p) (CC (Aj L (ix p)) 0 [.int a])) (ix p)=CC (Aj L (ix p)) 0 [.int a]:=by
   unfold Aj
   simp [List.getD_eq_getElem?_getD,List.getElem?_set,h]
  rw [this]
  simp only [CC,List.set_set]
 ·rw [List.set_eq_of_length_le h,List.set_eq_of_length_le h]
theorem ma {N:Nat} {s0 s1 s2 s3 s4 s5 s6 s7 s8 s9 s10 s11 s12 s13 s15 s21 s22 s23 s25 s26 s27:Int} {s18 s20:Bool} {s14 s16 s17 s19 s24:Rows} {p:Int} {b:Bool} (h:Fit s14 s16 s17 s19 s24) (hN:2097152<N):Oc N [.int s0,.int s1,.int s2,.int s3,.int s4,.int s5,.int s6,.int s7,.int s8,.int s9,.int s10,.int s11,.int s12,.int s13,.rows s14,.int s15,.rows s16,.rows s17,.bool s18,.rows s19,.bool s20,.int s21,.int s22,.int s23,.rows s24,.int s25,.int s26,.int s27,.int p,.bool b]=some (AY (KY (⟨s0,s1,s2,s3,s4,s5,s6,s7,s8,s9,s10,s11,s12,s13,s14,s15,s16,s17,s18,s19,s20,s21,s22,s23,s24,s25,s26,s27⟩:Inn) p b)):=by
 show Nw (std (HE N) N) (xOf _)=_
 generalize hres:(some (AY (KY (⟨s0,s1,s2,s3,s4,s5,s6,s7,s8,s9,s10,s11,s12,s13,s14,s15,s16,s17,s18,s19,s20,s21,s22,s23,s24,s25,s26,s27⟩:Inn) p b)):Option (List PV))=RR
 simp only [Nw,Vc,Wb,UI,std,xOf,PXb,PXc,PXn,PXm,Nat.reduceAdd,Int.reduceBEq,Bz h,Nj,qQ h.bt hN]
 subst hres;simp only [KY]
 rw [BEq.comm (a:=s12) (b:=p),BEq.comm (a:=s13) (b:=p)]
 cases hp:inR p s14.length<;>try rfl
 simp only [DS hp h.bt,PXb,PXc,PXn,PXm,Nat.reduceAdd,Int.reduceBEq]
 have e:=tI s14 p 3 2
 cases s12==0<;>cases s13==0<;>try rfl
 cases p==s12<;>cases p==s13<;>cases b<;>try rfl
 all_goals (simp only [PXb,PXc,PXn,PXm,Nat.reduceAdd,Int.reduceBEq];first | rfl | (cases ((Bw s14 s14.length).length:Int)==0<;>first | rfl | (rw [← e];rfl)) | (rw [← e];rfl))
end Go.Px
end
section
namespace Go.Px
set_option maxRecDepth 100000
def btw (a b c:Int):Bool:=iLe b a&&iLe a c
theorem Dt (N:Nat) (a b c:Int):Ai N [.int a,.int b,.int c]=some [.bool (btw a b c)]:=by
 show some [PV.bool (cond (iLe b a) (iLe a c) false)]=_
 rw [QX];rfl
theorem Mf (N:Nat) (a b c:Int):Cd N [.int a,.int b,.int c]=some [.bool (btw a b c)]:=by
 show some [PV.bool (cond (iLe b a) (iLe a c) false)]=_
 rw [QX];rfl
theorem tC (N:Nat) (a b c:Int):Tj N [.int a,.int b,.int c]=some [.bool (btw a b c)]:=by
 show some [PV.bool (cond (iLe b a) (iLe a c) false)]=_
 rw [QX];rfl
theorem ab (N:Nat) (a b c:Int):FG N [.int a,.int b,.int c]=some [.bool (btw a b c)]:=by
 show some [PV.bool (cond (iLe b a) (iLe a c) false)]=_
 rw [QX];rfl
def GK (x1 x2 x3 x4 x5 x6 x7 x9 x10 x11 x12:Int):Bool:=btw x1 2 11&&btw x2 1 2&&btw x3 0 90&&btw x4 4 8&&btw x5 0 90&&btw x6 1 5&&btw x7 1 5&&btw x9 0 200&&btw x10 0 1000&&btw x11 0 9&&btw x12 0 11
theorem eY (N : Nat) (x0 : ByteArray) (x1 x2 x3 x4 x5 x6 x7 x9 x10 x11 x12 : Int) (x8 : Bool) (x13 : Rows) :
   Fv N [.str x0,.int x1,.int x2,.int x3,.int x4,.int x5,.int x6,.int x7,.bool x8,.int x9,.int x10,.int x11,.int x12,.rows x13]=some [.bool (GK x1 x2 x3 x4 x5 x6 x7 x9 x10 x11 x12)]:=by
  show I6 (std (K1 N) N) (xOf _)=_
  have e:∀ ls,K1 N 87 [] ls=Cd N ls:=fun ls=>rfl
  simp only [I6,std,xOf,e,Mf,PXb,PXc,PXn,AA,GK]
def P0 (s:ByteArray) (i:Nat):Bool := !(iLe 65 (MO s i)&&iLe (MO s i) 90)&&((i:Int)==0||((!(MO s i==95) && !(MO s i==45))&&(iLt (MO s i) 48||iLt 57 (MO s i))))
def LB (s:ByteArray):Bool := !Aq (P0 s) s.size 0&&(iLe 1 s.size&&iLe s.size 16)
theorem ww (s:ByteArray):(GA s).length=s.size:=by
 simp only [GA,List.length_map,Array.length_toList];rfl
theorem xI (s:ByteArray) (i:Nat) (h:i<s.size):pvI (AD (GA s) i 0)=MO s i:=by
 unfold AD Aj AH GA MO
 simp only [List.getD_eq_getElem?_getD,List.getElem?_map]
 have:i<s.data.toList.length:=by simpa using h
 rw [List.getElem?_eq_getElem this]
 simp [List.getElem?_eq_getElem this]
theorem mM (N:Nat) (s:ByteArray) (hN:s.size<N) (hs:s.size≤1048576):LS N [.str s]=some [.bool (LB s)]:=by
 show QV (std (Y2 N) N) (xOf _)=_
 simp only [QV,std,xOf,ww,PXb,PXc,PXn,AA]
 refine AJ (Cb (len:=s.size) (P0 s) [.bool false] ?_ ?_ N hN) ?_
 ·intro self
  simp only [PXb,PXc,PXn,AA,Ap]
 ·intro i self hi
  simp only [PXb,PXc,PXn,AA,Int.toNat_natCast,xI s i hi,AW (show i≤1099511627776 by omega),Ah hi,AP hi,P0]
 ·unfold LB
  cases Aq (P0 s) s.size 0<;>rfl
theorem uk (bs:ByteArray) (i:Nat) (r:List UInt8):(ByteArray.toList.loop bs i r).length=r.length+(bs.size - i):=by
 induction i,r using ByteArray.toList.loop.induct (bs:=bs) with
 | case1 i r h ih=>unfold ByteArray.toList.loop;rw [if_pos h,ih];simp;omega
 | case2 i r h=>unfold ByteArray.toList.loop;rw [if_neg h];simp;omega
theorem gb (bs:ByteArray):bs.toList.length=bs.size:=by
 unfold ByteArray.toList;rw [uk];simp
theorem pC (s:ByteArray):(s.toList==(⟨#[]⟩:ByteArray).toList) = !iLe 1 (s.size:Int):=by
 have h:=gb s
 have h0:=gb (⟨#[]⟩:ByteArray)
 rw [Bool.eq_iff_iff]
 simp only [beq_iff_eq,iLe,Bool.not_eq_true',decide_eq_false_iff_not]
 constructor
 ·intro e;rw [e,h0] at h
  have:(⟨#[]⟩:ByteArray).size=0:=rfl
  omega
 ·intro e
  have e1:s.toList=[]:=List.eq_nil_of_length_eq_zero (by omega)
  have e2:(⟨#[]⟩:ByteArray).toList=[]:=List.eq_nil_of_length_eq_zero h0
  rw [e1,e2]
theorem ph (N:Nat) (s:ByteArray) (hN:s.size<N) (hs:s.size≤1048576):Og N [.str s]=some [.bool (LB s)]:=by
 show Sp (std (bV N) N) (xOf _)=_
 simp only [Sp,std,xOf,PXb,PXc,PXn,AA,pC]
 have e:iLe 1 (s.size:Int)=false∨iLe 1 (s.size:Int)=true:=by cases iLe 1 (s.size:Int)<;>simp
 have e2:iLt 16 (s.size:Int) = !iLe (s.size:Int) 16:=by unfold iLt iLe;rw [Bool.eq_iff_iff];simp
 rw [e2]
 cases h:iLe 1 (s.size:Int)&&iLe (s.size:Int) 16 with
 | false =>
  have:(!iLe 1 (s.size:Int) || !iLe (s.size:Int) 16)=true:=by rw [← Bool.not_and,h];rfl
  simp only [this,cond_true,LB,h,Bool.and_false]
 | true =>
  have:(!iLe 1 (s.size:Int) || !iLe (s.size:Int) 16)=false:=by rw [← Bool.not_and,h];rfl
  simp only [this,cond_false,LB,h,Bool.and_true]
  refine AJ (Cb (len:=s.size) (P0 s) [.bool false] ?_ ?_ N hN) ?_
  ·intro self
   simp only [PXb,PXc,PXn,AA,Ap]
  ·intro i self hi
   simp only [PXb,PXc,AA,Int.toNat_natCast,AW (show i≤1099511627776 by omega),Ah hi,AP hi,P0]
   cases (iLe 65 (MO s i)&&iLe (MO s i) 90)<;>rfl
  ·cases Aq (P0 s) s.size 0<;>rfl
end Go.Px
end
section
namespace Go.Px
set_option maxRecDepth 100000
theorem qF {i len:Nat} (h:i<len) (hl:len≤1099511627776):(!iLt 0 (i:Int)||iIn (IntKind.i64.wrap ((i:Int) - 1)) (len:Int))=true:=by
 rw [Dn (by omega) (by omega)]
 simp only [iLt,iIn,Bool.or_eq_true,Bool.not_eq_true',decide_eq_false_iff_not,decide_eq_true_eq]
 omega
def rC (L:Rows) (ov:Int) (i:Nat):Bool:=(iLt (atI L i 0) 1||iLt (atI L i 1) (atI L i 0)||iLt ov (atI L i 1)) || !btw (atI L i 2) 0 11
def mL (L:Rows) (i:Nat):Bool:=iLt 0 (i:Int)&&iLe (atI L i 0) (pvI (AD L (IntKind.i64.wrap ((i:Int) - 1)).toNat 1))
def iu (L:Rows) (ov:Int) (i:Nat):Option (List PV):=cond (rC L ov i) (some [.int 2]) (cond (mL L i) (some [.int 8]) none)
def tp:Option (List PV)→Int
 | none=>0
 | some r=>pvI (AH r 0)
def gk (L:Rows) (ov:Int):Int:=cond (iLt 8 (L.length:Int)) 9 (tp (CH (iu L ov) L.length 0))
theorem Xq (o:Option (List PV)):cond (pvI (AH (Su o) 0)==((0:Nat):Int)) (some [PV.int (pvI (AH (Su o) 1))]) (some [PV.int 0])=some [PV.int (tp o)]:=by
 cases o<;>rfl
theorem gm (N : Nat) (x0 : ByteArray) (x1 x2 x3 x4 x5 x6 x7 x9 x10 x11 x12 : Int) (x8 : Bool) (L : Rows) (hN : 2097152 < N) :
   Gn N [.str x0,.int x1,.int x2,.int x3,.int x4,.int x5,.int x6,.int x7,.bool x8,.int x9,.int x10,.int x11,.int x12,.rows L]=some [.int (gk L x3)]:=by
  show Kr (std (Mc N) N) (xOf _)=_
  have e:∀ ls,Mc N 87 [] ls=Cd N ls:=fun ls=>rfl
  simp only [Kr,std,xOf,e,Mf,PXb,PXc,PXn,AA,gk]
  cases h8:iLt 8 (L.length:Int) with
  | true=>rfl
  | false =>
    have hl:L.length≤8:=by simp [iLt] at h8;omega
    simp only [cond_false]
    refine AJ (Ce (len:=L.length) (iu L x3) ?_ ?_ L.length 0 N (by omega) (by omega)) ?_
    · intro self
      simp only [PXb,PXc,PXn,AA,Ap]
    · intro i self hi
      simp only [PXb,PXc,PXn,AA,Int.toNat_natCast,AW (show i≤1099511627776 by omega),Ah hi,AP hi,Mf,e,qF hi (by omega)]
      simp only [iu,rC,mL,atI]
      cases (iLt (pvI (AD L i 0)) 1||iLt (pvI (AD L i 1)) (pvI (AD L i 0))||iLt x3 (pvI (AD L i 1)) || !btw (pvI (AD L i 2)) 0 11) <;>
      cases (iLt 0 (i:Int)&&iLe (pvI (AD L i 0)) (pvI (AD L (IntKind.i64.wrap ((i:Int) - 1)).toNat 1)))<;>rfl
    · exact Xq _
def D2 (x0:ByteArray) (x1 x2 x3 x4 x5 x6 x7 x9 x10 x11 x12:Int) (L:Rows):Int :=
  cond (!LB x0) 5 (cond (!GK x1 x2 x3 x4 x5 x6 x7 x9 x10 x11 x12) 2
    (cond ((!(x10==0)&&x2==1)||((!(x5==0)||iLt 0 (L.length:Int))&&x3==0)) 1
      (cond (!(x5==0)&&iLt (IntKind.i64.wrap (x5 * x1)) x3) 13 (gk L x3))))
theorem Wv (N : Nat) (x0 : ByteArray) (x1 x2 x3 x4 x5 x6 x7 x9 x10 x11 x12 : Int) (x8 : Bool) (L : Rows) (hN : 2097152 < N) (hs : x0.size ≤ 1048576) :
   AU N [.str x0,.int x1,.int x2,.int x3,.int x4,.int x5,.int x6,.int x7,.bool x8,.int x9,.int x10,.int x11,.int x12,.rows L]=some [.int (D2 x0 x1 x2 x3 x4 x5 x6 x7 x9 x10 x11 x12 L)]:=by
  show L1 (std (F6 N) N) (xOf _)=_
  have e:∀ ls,F6 N 57 [] ls=LS N ls:=fun ls=>rfl
  have e2:∀ ls,F6 N 58 [] ls=Fv N ls:=fun ls=>rfl
  have e3:∀ ls,F6 N 59 [] ls=Gn N ls:=fun ls=>rfl
  simp only [L1,std,xOf,e,e2,e3,mM N x0 (by omega) hs,eY,gm N _ _ _ _ _ _ _ _ _ _ _ _ _ _ hN,PXb,PXc,AA,D2]
  cases LB x0<;>cases GK x1 x2 x3 x4 x5 x6 x7 x9 x10 x11 x12<;>try rfl
  simp only [PXb,PXc,AA,Bool.not_true]
  cases (!(x10==0)&&x2==1)<;>cases ((!(x5==0)||iLt 0 (L.length:Int))&&x3==0)<;>try rfl
  cases (!(x5==0)&&iLt (IntKind.i64.wrap (x5 * x1)) x3)<;>rfl
theorem bh (N : Nat) (x0 : ByteArray) (x1 x2 x3 x4 x5 x6 x7 x9 x10 x11 x12 : Int) (x8 : Bool) (L : Rows) (hN : 2097152 < N) (hs : x0.size ≤ 1048576) :
   Al N [.str x0,.int x1,.int x2,.int x3,.int x4,.int x5,.int x6,.int x7,.bool x8,.int x9,.int x10,.int x11,.int x12,.rows L]=some [.int (D2 x0 x1 x2 x3 x4 x5 x6 x7 x9 x10 x11 x12 L)]:=by
  show QL (std (Lw N) N) (xOf _)=_
  have e:∀ ls,Lw N 121 [] ls=Og N ls:=fun ls=>rfl
  have e2:∀ ls,Lw N 122 [] ls=Tj N ls:=fun ls=>rfl
  simp only [QL,std,xOf,e,e2,ph N x0 (by omega) hs,tC,PXb,PXc,PXn,AA]
  simp only [← Bool.not_and,D2]
  rw [show (btw x1 2 11&&btw x2 1 2&&btw x3 0 90&&btw x4 4 8&&btw x5 0 90&&btw x6 1 5&&btw x7 1 5&&btw x9 0 200&&btw x10 0 1000&&btw x11 0 9&&btw x12 0 11)=GK x1 x2 x3 x4 x5 x6 x7 x9 x10 x11 x12 from rfl]
  rw [Bool.and_comm (x3==0)]
  cases LB x0<;>cases GK x1 x2 x3 x4 x5 x6 x7 x9 x10 x11 x12<;>try rfl
  cases (!(x10==0)&&x2==1)||((!(x5==0)||iLt 0 (L.length:Int))&&x3==0)<;>try rfl
  cases (!(x5==0)&&iLt (IntKind.i64.wrap (x5 * x1)) x3)<;>try rfl
  simp only [Bool.not_true,cond_false,gk]
  cases h8:iLt 8 (L.length:Int) with
  | true=>rfl
  | false =>
    have hl:L.length≤8:=by simp [iLt] at h8;omega
    simp only [cond_false]
    refine AJ (Ce (len:=L.length) (iu L x3) ?_ ?_ L.length 0 N (by omega) (by omega)) ?_
    · intro self
      simp only [PXb,PXc,PXn,AA,Ap]
    · intro i self hi
      simp only [PXb,PXc,PXn,AA,Int.toNat_natCast,AW (show i≤1099511627776 by omega),Ah hi,AP hi,qF hi (by omega)]
      simp only [iu,rC,mL,atI]
      cases (iLt (pvI (AD L i 0)) 1||iLt (pvI (AD L i 1)) (pvI (AD L i 0))||iLt x3 (pvI (AD L i 1)) || !btw (pvI (AD L i 2)) 0 11) <;>
      cases (iLt 0 (i:Int)&&iLe (pvI (AD L i 0)) (pvI (AD L (IntKind.i64.wrap ((i:Int) - 1)).toNat 1)))<;>rfl
    · exact Xq _
end Go.Px
end
section
namespace Go.Px
set_option maxRecDepth 100000
theorem Zd (N:Nat) (L:Rows) (v:Int) (hN:L.length<N) (hl:L.length≤2097152):Dv N [.rows L,.int v]=some [.int (Ra (fun j=>v==atI L j 0) L.length)]:=by
 show F7 (std (N5 N) N) (xOf _)=_
 simp only [F7,std,xOf,PXb,PXc,PXn,AA]
 refine AJ (Ce (len:=L.length) (GL fun j=>v==atI L j 0) ?_ ?_ L.length 0 N (by omega) (by omega)) ?_
 ·intro self
  simp only [PXb,PXc,PXn,AA,Ap]
 ·intro i self hi
  simp only [PXb,PXc,PXn,AA,AW (show i≤1099511627776 by omega),Ah hi,AP hi,GL,Bo]
  cases v==atI L i 0<;>rfl
 ·unfold Ra
  cases CH (GL fun j=>v==atI L j 0) L.length 0<;>rfl
def HP (L:Rows) (k:Nat) (v:Int):Bool:=Aq (fun j=>v==atI L j 0) k 0
theorem LI (N:Nat) (L:Rows) (v:Int) (hN:L.length<N) (hl:L.length≤2097152):Am N [.rows L,.int v]=some [.bool (HP L L.length v)]:=by
 show D4 (std (FW N) N) (xOf _)=_
 have e:∀ ls,FW N 118 [] ls=Dv N ls:=fun ls=>rfl
 simp only [D4,std,xOf,PXb,PXc,PXn,AA,e,Zd N L v hN hl,Kb,HP]
theorem uN (L:Rows) (i:Nat) (v:Int) (h:i≤L.length):HP (L.take i) (L.take i).length v=HP L i v:=by
 rw [List.length_take,Nat.min_eq_left h]
 exact iB i 0 (fun j _ hj=>by rw [mW (by omega)])
def KL (L:Rows) (n:Int) (i:Nat):Bool := !btw (atI L i 0) 1 n||HP L i (atI L i 0)
def Fn (L:Rows) (n:Int):Bool := !Aq (KL L n) L.length 0
theorem OJ (N:Nat) (L:Rows) (n:Int) (hN:L.length<N) (hl:L.length≤2097152):DY N [.rows L,.int n]=some [.bool (Fn L n)]:=by
 show FN (std (EC N) N) (xOf _)=_
 have e:∀ ls,EC N 60 [] ls=Ai N ls:=fun ls=>rfl
 have e2:∀ ls,EC N 88 [] ls=Am N ls:=fun ls=>rfl
 simp only [FN,std,xOf,PXb,PXc,PXn,AA]
 refine AJ (Cb (len:=L.length) (KL L n) [.bool false] ?_ ?_ N hN) ?_
 ·intro self
  simp only [PXb,PXc,PXn,AA,Ap]
 ·intro i self hi
  have h1:(L.take i).length≤L.length:=List.length_take_le' i L
  simp only [PXb,PXc,PXn,AA,AW (show i≤1099511627776 by omega),Ah hi,AP hi,e,e2,Dt,vb (Nat.le_of_lt hi),Int.toNat_zero,List.drop_zero,LI N (L.take i) _ (by omega) (by omega),uN L i _ (by omega),Bo,KL]
  cases btw (atI L i 0) 1 n<;>cases HP L i (atI L i 0)<;>rfl
 ·unfold Fn
  cases Aq (KL L n) L.length 0<;>rfl
theorem fp (N:Nat) (L:Rows) (n:Int) (hN:L.length<N) (hl:L.length≤2097152):RK N [.rows L,.int n]=some [.bool (Fn L n)]:=by
 show Uq (std (WD N) N) (xOf _)=_
 have e:∀ ls,WD N 153 [] ls=FG N ls:=fun ls=>rfl
 simp only [Uq,std,xOf,PXb,PXc,PXn,AA]
 refine AJ (Cb (len:=L.length) (KL L n) [.bool false] ?_ ?_ N hN) ?_
 ·intro self
  simp only [PXb,PXc,PXn,AA,Ap]
 ·intro i self hi
  have h1:(L.take i).length=i:=by rw [List.length_take];omega
  simp only [PXb,PXc,PXn,AA,AW (show i≤1099511627776 by omega),Ah hi,AP hi,e,ab,vb (Nat.le_of_lt hi),Int.toNat_zero,List.drop_zero,Bo,KL,h1]
  cases btw (atI L i 0) 1 n with
  | false=>rfl
  | true =>
   simp only [PXb,PXc,PXn,AA]
   refine AJ (Xj (len:=i) (fun j=>[.int (j:Int)]) (fun j=>atI L i 0==atI L j 0) [.int 0,.bool false] [.int 1,.int (i:Int)] ?_ ?_ N (by omega)) ?_
   ·intro self
    simp only [PXb,PXc,PXn,AA,Ap]
   ·intro j self hj
    simp only [PXb,PXc,PXn,AA,AW (show j≤1099511627776 by omega),Ah hj,AP hj,mW hj]
    rfl
   ·unfold HP
    cases Aq (fun j=>atI L i 0==atI L j 0) i 0<;>rfl
 ·unfold Fn
  cases Aq (KL L n) L.length 0<;>rfl
theorem cj (N:Nat) (v:Int):Cx N [.int v]=some [.bool (!(v==0))]:=rfl
def lsI (L14 L16 L17 L19 L24:Rows) (b18 b20:Bool) (x0 x1 x2 x3 x4 x5 x6 x7 x8 x9 x10 x11 x12 x13 x15 x21 x22 x23 x25 x26 x27:Int):List PV :=
 [.int x0,.int x1,.int x2,.int x3,.int x4,.int x5,.int x6,.int x7,.int x8,.int x9,.int x10,.int x11,.int x12,.int x13,.rows L14,.int x15,.rows L16,.rows L17,.bool b18,.rows L19,.bool b20,.int x21,.int x22,.int x23,.rows L24,.int x25,.int x26,.int x27]
section
variable (N:Nat) (L14 L16 L17 L19 L24:Rows) (b18 b20:Bool) (x0 x1 x2 x3 x4 x5 x6 x7 x8 x9 x10 x11 x12 x13 x15 x21 x22 x23 x25 x26 x27:Int)
theorem gj (hN:L14.length<N) (hl:L14.length≤2097152):B3 N (lsI L14 L16 L17 L19 L24 b18 b20 x0 x1 x2 x3 x4 x5 x6 x7 x8 x9 x10 x11 x12 x13 x15 x21 x22 x23 x25 x26 x27)=some [.bool (CY L14)]:=by
 show Eo (std (E7 N) N) (xOf (lsI ..))=_
 have e:∀ ls,E7 N 191 [] ls=Cx N ls:=fun ls=>rfl
 simp only [Eo,std,xOf,lsI,PXb,PXc,PXn,AA]
 rw [show CY L14=iLe 0 (Ra (fun i => !(atI L14 i 0==0)) L14.length) from (Kb _ _).symm]
 rw [Option.bind_assoc]
 refine AJ (Ce (len:=L14.length) (GL fun i => !(atI L14 i 0==0)) ?_ ?_ L14.length 0 N (by omega) (by omega)) ?_
 ·intro self
  simp only [PXb,PXc,PXn,AA,Ap]
 ·intro i self hi
  simp only [PXb,PXc,PXn,AA,AW (show i≤1099511627776 by omega),Ah hi,AP hi,GL,Bo,e,cj]
  cases atI L14 i 0==0<;>rfl
 ·unfold Ra
  cases CH (GL fun i => !(atI L14 i 0==0)) L14.length 0<;>rfl
theorem aw (hN:L14.length<N) (hl:L14.length≤2097152):Ba N (lsI L14 L16 L17 L19 L24 b18 b20 x0 x1 x2 x3 x4 x5 x6 x7 x8 x9 x10 x11 x12 x13 x15 x21 x22 x23 x25 x26 x27)=some [.bool (CY L14)]:=by
 show Is (std (RS N) N) (xOf (lsI ..))=_
 simp only [Is,std,xOf,lsI,PXb,PXc,PXn,AA]
 refine AJ (Cb (len:=L14.length) (fun i => !(atI L14 i 0==0)) [.bool true] ?_ ?_ N hN) ?_
 ·intro self
  simp only [PXb,PXc,PXn,AA,Ap]
 ·intro i self hi
  simp only [PXb,PXc,PXn,AA,AW (show i≤1099511627776 by omega),Ah hi,AP hi,Bo]
 ·unfold CY
  cases Aq (fun i => !(atI L14 i 0==0)) L14.length 0<;>rfl
theorem eh (hN:L14.length<N) (hl:L14.length≤2097152):BL N (lsI L14 L16 L17 L19 L24 b18 b20 x0 x1 x2 x3 x4 x5 x6 x7 x8 x9 x10 x11 x12 x13 x15 x21 x22 x23 x25 x26 x27)=some [.bool (Dk L14 x12 x13)]:=by
 show D6 (std (EO N) N) (xOf (lsI ..))=_
 have e:∀ ls,EO N 161 [] ls=B3 N ls:=fun ls=>rfl
 have:=gj N L14 L16 L17 L19 L24 b18 b20 x0 x1 x2 x3 x4 x5 x6 x7 x8 x9 x10 x11 x12 x13 x15 x21 x22 x23 x25 x26 x27 hN hl
 simp only [lsI] at this
 simp only [D6,std,xOf,lsI,PXb,PXc,PXn,AA,e,this,Dk]
theorem kn (hN:L14.length<N) (hl:L14.length≤2097152):CO N (lsI L14 L16 L17 L19 L24 b18 b20 x0 x1 x2 x3 x4 x5 x6 x7 x8 x9 x10 x11 x12 x13 x15 x21 x22 x23 x25 x26 x27)=some [.bool (Dk L14 x12 x13)]:=by
 show HR (std (HL N) N) (xOf (lsI ..))=_
 have e:∀ ls,HL N 156 [] ls=Ba N ls:=fun ls=>rfl
 have:=aw N L14 L16 L17 L19 L24 b18 b20 x0 x1 x2 x3 x4 x5 x6 x7 x8 x9 x10 x11 x12 x13 x15 x21 x22 x23 x25 x26 x27 hN hl
 simp only [lsI] at this
 simp only [HR,std,xOf,lsI,PXb,PXc,PXn,AA,e,this,Dk]
theorem jX (hN:L14.length<N) (hl:L14.length≤2097152):Cw N (lsI L14 L16 L17 L19 L24 b18 b20 x0 x1 x2 x3 x4 x5 x6 x7 x8 x9 x10 x11 x12 x13 x15 x21 x22 x23 x25 x26 x27)=some [.rows (Bw L14 L14.length)]:=by
 show Fa (std (OK N) N) (xOf (lsI ..))=_
 simp only [Fa,std,xOf,lsI,PXb,PXc,PXn,AA]
 refine AJ (Av (len:=L14.length) (fun i=>[.rows (Bw L14 i),.int (i:Int)]) [.rows (Bw L14 L14.length)] ?_ ?_ N hN) rfl
 ·intro self
  simp only [PXb,PXc,PXn,AA,Ap]
 ·intro i self hi
  have h2:(Bw L14 i++[[PV.int ((i:Int)+1)]]).length≤4194304:=by have:=T6 L14 i;simp;omega
  simp only [PXb,PXc,PXn,AA,AW (show i≤1099511627776 by omega),Ah hi,AP hi,Bo,Bw,DV h2 (show 8≤4096 by omega)]
  cases (atI L14 i 0==0||atI L14 i 0==3)<;>rfl
theorem oi (hN:L14.length<N) (hl:L14.length≤2097152):EZ N (lsI L14 L16 L17 L19 L24 b18 b20 x0 x1 x2 x3 x4 x5 x6 x7 x8 x9 x10 x11 x12 x13 x15 x21 x22 x23 x25 x26 x27)=some [.rows (Bw L14 L14.length)]:=by
 show Kg (std (Tz N) N) (xOf (lsI ..))=_
 simp only [Kg,std,xOf,lsI,PXb,PXc,PXn,AA]
 refine AJ (Av (len:=L14.length) (fun i=>[.rows (Bw L14 i),.int (i:Int)]) [.rows (Bw L14 L14.length)] ?_ ?_ N hN) rfl
 ·intro self
  simp only [PXb,PXc,PXn,AA,Ap]
 ·intro i self hi
  have h2:(Bw L14 i++[[PV.int ((i:Int)+1)]]).length≤4194304:=by have:=T6 L14 i;simp;omega
  simp only [PXb,PXc,PXn,AA,AW (show i≤1099511627776 by omega),Ah hi,AP hi,Bo,Bw,DV h2 (show 8≤4096 by omega)]
  cases (atI L14 i 0==0||atI L14 i 0==3)<;>rfl
end
theorem X8 (N:Nat) (v:Int):DZ N [.int v]=some [.bool (!btw v 0 1000000000)]:=by
 show FO (std (HV N) N) (xOf _)=_
 have e:∀ ls,HV N 60 [] ls=Ai N ls:=fun ls=>rfl
 simp only [FO,std,xOf,PXb,PXc,PXn,AA,e,Dt]
end Go.Px
end
section
namespace Go.Px
set_option maxRecDepth 100000
def pIs (L:Rows) (v:Int) (i:Nat):Bool:=atI L i 0==v
def YQ (s n:Int) (i:Nat):Bool:=s==(i:Int)+1||n==(i:Int)+1
def SZ (L:Rows) (s n:Int) (i:Nat):Bool:=iLt 3 (atI L i 0)||(pIs L 1 i && !YQ s n i)
def VM (L:Rows) (s n:Int) (i:Nat):Bool:=iLt 3 (atI L i 0) || !(pIs L 1 i==YQ s n i)
def ez (L:Rows):Int:=CP (pIs L 2) L.length
def ins (L:Rows):Int:=CP (pIs L 1) L.length
def two (s n:Int):Int:=cond (!(n==0)) (IntKind.i64.wrap (cond (!(s==0)) (IntKind.i64.wrap (0+1)) 0+1)) (cond (!(s==0)) (IntKind.i64.wrap (0+1)) 0)
def lu (L:Rows) (s n wk k:Int):Bool :=
 !Aq (SZ L s n) L.length 0&&((btw s 0 k&&btw n 0 k)&&(!(s==n && !(s==0))&&((two s n==ins L&&(!CY L||iLt 0 (two s n)))&&ez L==wk)))
def UW (L:Rows) (s n wk:Int):Bool :=
 !Aq (VM L s n) L.length 0&&(!((CY L&&iLt (ins L) 1)||(!(s==0)&&s==n))&&wk==ez L)
def qR (L:Rows):Nat→Bool
 | 0=>false
 | i+1=>qR L i || !(atI L i 0==0)
theorem pq (L:Rows):∀ i,qR L i=Aq (fun j => !(atI L j 0==0)) i 0
 | 0=>rfl
 | i+1=>by rw [aj,Nat.zero_add,← pq L i];rfl
section
variable (N:Nat) (L14 L16 L17 L19 L24:Rows) (b18 b20:Bool) (x0 x1 x2 x3 x4 x5 x6 x7 x8 x9 x10 x11 x12 x13 x15 x21 x22 x23 x25 x26 x27:Int)
theorem am (k:Int) (hN:L14.length<N) (hl:L14.length≤2097152):EN N (lsI L14 L16 L17 L19 L24 b18 b20 x0 x1 x2 x3 x4 x5 x6 x7 x8 x9 x10 x11 x12 x13 x15 x21 x22 x23 x25 x26 x27++[.int k])=some [.bool (lu L14 x12 x13 x4 k)]:=by
  simp only [lsI,List.cons_append,List.nil_append]
  show Ge (std (Iy N) N) (xOf _)=_
  have e:∀ ls,Iy N 60 [] ls=Ai N ls:=fun ls=>rfl
  simp only [Ge,std,xOf,lsI,PXb,PXc,PXn,AA]
  refine AJ (Xj (len:=L14.length) (fun i=>[.int (CP (pIs L14 2) i),.int (CP (pIs L14 1) i),.bool (qR L14 i),.int (i:Int)])
    (SZ L14 x12 x13) [.int 0,.bool false] [.int 1,.int (ez L14),.int (ins L14),.bool (CY L14)] ?_ ?_ N hN) ?_
  · intro self
    simp only [PXb,PXc,PXn,AA,Ap,pq]
    rfl
  · intro i self hi
    simp only [PXb,PXc,AA,AW (show i≤1099511627776 by omega),Ah hi,AP hi,Bo,Yb (pIs L14 2) (show i≤1099511627776 by omega),Yb (pIs L14 1) (show i≤1099511627776 by omega)]
    unfold SZ pIs YQ
    simp only [CP,qR]
    cases h3:iLt 3 (atI L14 i 0) with
    | true=>rfl
    | false =>
      cases h1:atI L14 i 0==1 with
      | true =>
        rw [jZ h1]
        cases x12==(i:Int)+1<;>cases x13==(i:Int)+1<;>rfl
      | false=>cases h2:atI L14 i 0==2<;>rfl
  · unfold lu
    simp only [e,Dt]
    cases Aq (SZ L14 x12 x13) L14.length 0 with
    | true=>rfl
    | false =>
      simp only [PXb,PXc,PXn,AA]
      unfold two
      cases btw x12 0 k<;>cases btw x13 0 k<;>try rfl
      cases x12==0<;>cases x13==0<;>cases x12==x13<;>try rfl
theorem jA (hN:L14.length<N) (hl:L14.length≤2097152):IY N (lsI L14 L16 L17 L19 L24 b18 b20 x0 x1 x2 x3 x4 x5 x6 x7 x8 x9 x10 x11 x12 x13 x15 x21 x22 x23 x25 x26 x27)=some [.bool (UW L14 x12 x13 x4)]:=by
  show ML (std (Ok N) N) (xOf (lsI ..))=_
  have e:∀ ls,Ok N 156 [] ls=Ba N ls:=fun ls=>rfl
  have h70:=aw N L14 L16 L17 L19 L24 b18 b20 x0 x1 x2 x3 x4 x5 x6 x7 x8 x9 x10 x11 x12 x13 x15 x21 x22 x23 x25 x26 x27 hN hl
  simp only [lsI] at h70
  simp only [ML,std,xOf,lsI,PXb,PXc,PXn,AA,e,h70]
  refine AJ (Xj (len:=L14.length) (fun i=>[.int (CP (pIs L14 2) i),.int (CP (pIs L14 1) i),.int (i:Int)])
    (VM L14 x12 x13) [.int 0,.bool false] [.int 1,.int (ez L14),.int (ins L14)] ?_ ?_ N hN) ?_
  · intro self
    simp only [PXb,PXc,PXn,AA,Ap]
    rfl
  · intro i self hi
    simp only [PXb,PXc,AA,AW (show i≤1099511627776 by omega),Ah hi,AP hi,Bo,Yb (pIs L14 2) (show i≤1099511627776 by omega),Yb (pIs L14 1) (show i≤1099511627776 by omega)]
    unfold VM pIs YQ
    simp only [CP]
    cases h3:iLt 3 (atI L14 i 0) with
    | true=>rfl
    | false =>
      cases h1:atI L14 i 0==1 with
      | true =>
        rw [jZ h1]
        cases x12==(i:Int)+1<;>cases x13==(i:Int)+1<;>rfl
      | false=>cases h2:atI L14 i 0==2<;>cases x12==(i:Int)+1<;>cases x13==(i:Int)+1<;>rfl
  · unfold UW
    cases Aq (VM L14 x12 x13) L14.length 0 with
    | true=>rfl
    | false =>
      simp only [PXb,PXc,PXn,AA]
      cases CY L14<;>cases h:iLt (ins L14) 1<;>cases x12==0<;>cases x12==x13<;>first | rfl | (simp [Su,AH,h])
end
end Go.Px
end
section
namespace Go.Px
set_option maxRecDepth 100000
theorem vw (s n:Int):two s n=cond (!(s==0)) 1 0+cond (!(n==0)) 1 0:=by
 unfold two
 cases s==0<;>cases n==0<;>rfl
theorem vh {s n:Int} {len:Nat} (h1:0≤s∧s≤(len:Int)) (h2:0≤n∧n≤(len:Int)) (hd:(s==n && !(s==0))=false):two s n=CP (YQ s n) len:=by
 have hs:iLe s (len:Int)=true:=by simp only [iLe,decide_eq_true_eq];omega
 have hn:iLe n (len:Int)=true:=by simp only [iLe,decide_eq_true_eq];omega
 unfold YQ
 rw [sV (p:=fun i=>s==(i:Int)+1) (q:=fun i=>n==(i:Int)+1) len (fun j _ hp=>by
  have e1:s=(j:Int)+1:=by simpa using hp
  show (n==(j:Int)+1)=false
  rw [beq_eq_false_iff_ne]
  intro e2
  have e3:(s==n)=true:=by rw [beq_iff_eq];omega
  have e4:(s==0)=false:=by rw [beq_eq_false_iff_ne];omega
  rw [e3,e4] at hd;cases hd),mz s len h1.1,mz n len h2.1,hs,hn,Bool.and_true,Bool.and_true,vw]
theorem vg (x:Int):iLt 0 x = !iLt x 1:=by
 unfold iLt
 rw [Bool.eq_iff_iff]
 simp only [decide_eq_true_eq,Bool.not_eq_true',decide_eq_false_iff_not]
 omega
theorem vN {L : Rows} {s n : Int} (h1 : 0 ≤ s ∧ s ≤ (L.length : Int)) (h2 : 0 ≤ n ∧ n ≤ (L.length : Int)) (hd : (s == n && !(s == 0)) = false) :
    (!Aq (SZ L s n) L.length 0&&two s n==ins L) = !Aq (VM L s n) L.length 0:=by
  have h2c:=vh h1 h2 hd
  rw [Bool.eq_iff_iff]
  simp only [Bool.and_eq_true,Bool.not_eq_true',KN,beq_iff_eq]
  constructor
  · intro ⟨ha,hb⟩ j _ hj
    have hm:∀ j,j<L.length→pIs L 1 j=true→YQ s n j=true:=fun j hj hp=>by
      have:=ha j (Nat.zero_le _) (by omega)
      unfold SZ at this
      rw [hp] at this
      simp only [Bool.or_eq_false_iff,Bool.true_and,Bool.not_eq_false'] at this
      exact this.2
    have he:=tg L.length hm (by rw [← h2c,hb];rfl) j (by omega)
    have:=ha j (Nat.zero_le _) hj
    unfold SZ at this
    unfold VM
    rw [Bool.or_eq_false_iff] at this ⊢
    exact ⟨this.1,by rw [he];simp⟩
  · intro ha
    have hm:∀ j,j<L.length→pIs L 1 j=YQ s n j:=fun j hj=>by
      have:=ha j (Nat.zero_le _) (by omega)
      unfold VM at this
      rw [Bool.or_eq_false_iff] at this
      simpa using this.2
    refine ⟨fun j h0 hj=>?_,?_⟩
    · have:=ha j h0 hj
      unfold VM at this
      unfold SZ
      rw [Bool.or_eq_false_iff] at this ⊢
      refine ⟨this.1,?_⟩
      rw [hm j (by omega)]
      cases YQ s n j<;>rfl
    · rw [h2c]
      exact (j4 L.length hm).symm
theorem wS (L:Rows) (s n wk k:Int) (hk:(L.length:Int)=k):lu L s n wk k=(btw s 0 k&&btw n 0 k&&UW L s n wk):=by
 subst hk
 unfold lu UW
 cases hs:btw s 0 (L.length:Int) with
 | false=>simp only [Bool.false_and,Bool.and_false]
 | true =>
  cases hn:btw n 0 (L.length:Int) with
  | false=>simp only [Bool.false_and,Bool.and_false]
  | true =>
   have h1:0≤s∧s≤(L.length:Int):=by simpa [btw,iLe] using hs
   have h2:0≤n∧n≤(L.length:Int):=by simpa [btw,iLe] using hn
   simp only [Bool.true_and]
   cases hd:(s==n && !(s==0)) with
   | true =>
    have:(!(s==0)&&s==n)=true:=by rw [Bool.and_comm];exact hd
    rw [this]
    simp only [Bool.or_true,Bool.not_true,Bool.false_and,Bool.and_false]
   | false =>
    have:(!(s==0)&&s==n)=false:=by rw [Bool.and_comm];exact hd
    rw [this,← vN h1 h2 hd]
    simp only [Bool.or_false,Bool.not_false,Bool.true_and]
    rw [show (wk==ez L)=(ez L==wk) from BEq.comm]
    cases hA:Aq (SZ L s n) L.length 0 with
    | true=>rfl
    | false =>
     cases hB:two s n==ins L with
     | false=>rfl
     | true =>
      rw [beq_iff_eq.1 hB,vg]
      simp only [Bool.true_and,Bool.not_false,Bool.not_and]
end Go.Px
end
section
namespace Go.Px
set_option maxRecDepth 100000
def DF (v:Int):Bool := !btw v 0 1000000000
def Xg (x1 x3 x5 x6 x7 x8 x9 x10 x21 x23 x25 x26:Int):Rows:=[[.int x1],[.int x3],[.int x5],[.int x6],[.int x7],[.int x8],[.int x9],[.int x10],[.int x21],[.int x23],[.int x25],[.int x26]]
section
variable (N:Nat) (L14 L16 L17 L19 L24:Rows) (b18 b20:Bool) (x0 x1 x2 x3 x4 x5 x6 x7 x8 x9 x10 x11 x12 x13 x15 x21 x22 x23 x25 x26 x27:Int)
theorem be (hN:2097152<N) (hl:L19.length≤1048576):ET N (lsI L14 L16 L17 L19 L24 b18 b20 x0 x1 x2 x3 x4 x5 x6 x7 x8 x9 x10 x11 x12 x13 x15 x21 x22 x23 x25 x26 x27)=some [.bool (!(K3 DF (Xg x1 x3 x5 x6 x7 x8 x9 x10 x21 x23 x25 x26)||K3 DF L19))]:=by
 show GV (std (Ix N) N) (xOf (lsI ..))=_
 have e:∀ ls,Ix N 90 [] ls=DZ N ls:=fun ls=>rfl
 rw [← nQ]
 simp only [GV,std,xOf,lsI,PXb,PXc,PXn,AA,Xg]
 generalize hM:([PV.int x1]::[PV.int x3]::[PV.int x5]::[PV.int x6]::[PV.int x7]::[PV.int x8]::[PV.int x9]::[PV.int x10]::[PV.int x21]::[PV.int x23]::[PV.int x25]::[PV.int x26]::L19:Rows)=M
 have hM2:M.length≤2097152:=by rw [← hM];simp only [List.length_cons];omega
 rw [DV (n:=M.length) (by omega) (by omega)]
 simp only [PXb,PXc,PXn,AA]
 rw [Option.bind_assoc]
 refine AJ (Ce (len:=M.length) (GL fun i=>DF (atI M i 0)) ?_ ?_ M.length 0 N (by omega) (by omega)) ?_
 ·intro self
  simp only [PXb,PXc,PXn,AA,Ap]
 ·intro i self hi
  simp only [PXb,PXc,PXn,AA,AW (show i≤1099511627776 by omega),Ah hi,AP hi,GL,Bo,e,X8,DF]
  cases btw (atI M i 0) 0 1000000000<;>rfl
 ·unfold K3
  rw [← Kb]
  unfold Ra
  cases CH (GL fun i=>DF (atI M i 0)) M.length 0<;>rfl
end
def Mp (a3 x2:Int):Bool:=cond (a3==0) (x2==0) (btw x2 1 a3)
def K6 (s:ByteArray) (a1 a2 a3 a4 a5 a6 a7 a9 a10 a11 a12:Int) (La L14 L16 L17 L19 L24:Rows) (x0 x1 x2 x3 x4 x5 x6 x7 x8 x9 x10 x11 x12 x13 x15 x21 x22 x23 x25 x26 x27:Int):Bool :=
  D2 s a1 a2 a3 a4 a5 a6 a7 a9 a10 a11 a12 La==0&&(btw x0 1 2&&((L14.length:Int)==a1&&((L19.length:Int)==a1&&((L24.length:Int)==a1&&(!iLt 5 x27 &&
    (btw x12 0 a1&&(btw x13 0 a1&&(UW L14 x12 x13 x4&&(btw x15 0 a1&&(btw x22 0 a1&&(Fn L16 a1&&(Fn L17 a1&&(Mp a3 x2&&(btw x11 0 (IntKind.i64.wrap (a4 - 1)) &&
      (!K3 DF (Xg x1 x3 x5 x6 x7 x8 x9 x10 x21 x23 x25 x26) && !K3 DF L19)))))))))))))))
theorem sA {s:ByteArray} {a1 a2 a3 a4 a5 a6 a7 a9 a10 a11 a12:Int} {La:Rows} (h:(D2 s a1 a2 a3 a4 a5 a6 a7 a9 a10 a11 a12 La==0)=true):0≤a3:=by
 unfold D2 at h
 cases hn:LB s with
 | false=>rw [hn] at h;exact absurd h Bool.false_ne_true
 | true =>
  cases hr:GK a1 a2 a3 a4 a5 a6 a7 a9 a10 a11 a12 with
  | false=>rw [hn,hr] at h;exact absurd h Bool.false_ne_true
  | true =>
   unfold GK at hr
   simp only [Bool.and_eq_true] at hr
   have:=hr.1.1.1.1.1.1.1.1.2
   unfold btw iLe at this
   simp only [Bool.and_eq_true,decide_eq_true_eq] at this
   omega
theorem j0 {a:Int} (h:0≤a):iLt 0 a = !(a==0):=by
 unfold iLt
 rw [Bool.eq_iff_iff]
 simp only [decide_eq_true_eq,Bool.not_eq_true',beq_eq_false_iff_ne]
 omega
section
variable (N:Nat) (s:ByteArray) (a1 a2 a3 a4 a5 a6 a7 a9 a10 a11 a12:Int) (a8:Bool) (La:Rows) (L14 L16 L17 L19 L24:Rows) (b18 b20:Bool) (x0 x1 x2 x3 x4 x5 x6 x7 x8 x9 x10 x11 x12 x13 x15 x21 x22 x23 x25 x26 x27:Int)
theorem Tp (hN:2097152<N) (hs:s.size≤1048576) (h14:L14.length≤1048576) (h16:L16.length≤1048576) (h17:L17.length≤1048576) (h19:L19.length≤1048576):BJ N ([.str s,.int a1,.int a2,.int a3,.int a4,.int a5,.int a6,.int a7,.bool a8,.int a9,.int a10,.int a11,.int a12,.rows La]++lsI L14 L16 L17 L19 L24 b18 b20 x0 x1 x2 x3 x4 x5 x6 x7 x8 x9 x10 x11 x12 x13 x15 x21 x22 x23 x25 x26 x27)=some [.bool (K6 s a1 a2 a3 a4 a5 a6 a7 a9 a10 a11 a12 La L14 L16 L17 L19 L24 x0 x1 x2 x3 x4 x5 x6 x7 x8 x9 x10 x11 x12 x13 x15 x21 x22 x23 x25 x26 x27)]:=by
 simp only [lsI,List.cons_append,List.nil_append]
 show I9 (std (Ca N) N) (xOf _)=_
 have e1:∀ ls,Ca N 32 [] ls=AU N ls:=fun ls=>rfl
 have e2:∀ ls,Ca N 60 [] ls=Ai N ls:=fun ls=>rfl
 have e3:∀ ls,Ca N 61 [] ls=EN N ls:=fun ls=>rfl
 have e4:∀ ls,Ca N 62 [] ls=DY N ls:=fun ls=>rfl
 have e5:∀ ls,Ca N 63 [] ls=ET N ls:=fun ls=>rfl
 have l54:=am N L14 L16 L17 L19 L24 b18 b20 x0 x1 x2 x3 x4 x5 x6 x7 x8 x9 x10 x11 x12 x13 x15 x21 x22 x23 x25 x26 x27 a1 (by omega) (by omega)
 have l56:=be N L14 L16 L17 L19 L24 b18 b20 x0 x1 x2 x3 x4 x5 x6 x7 x8 x9 x10 x11 x12 x13 x15 x21 x22 x23 x25 x26 x27 (by omega) (by omega)
 simp only [lsI,List.cons_append,List.nil_append] at l54 l56
 simp only [I9,std,xOf,PXb,PXc,PXn,AA,e1,e2,e3,e4,e5,Wv N s _ _ _ _ _ _ _ _ _ _ _ _ _ hN hs,Dt,l54,l56,OJ N L16 _ (by omega) (by omega),OJ N L17 _ (by omega) (by omega)]
 unfold K6 Mp
 cases hc:D2 s a1 a2 a3 a4 a5 a6 a7 a9 a10 a11 a12 La==0<;>try rfl
 cases btw x0 1 2<;>try rfl
 cases h14:(L14.length:Int)==a1<;>try rfl
 cases (L19.length:Int)==a1<;>try rfl
 cases (L24.length:Int)==a1<;>try rfl
 cases iLt 5 x27<;>try rfl
 rw [wS L14 x12 x13 x4 a1 (beq_iff_eq.1 h14)]
 cases btw x12 0 a1<;>try rfl
 cases btw x13 0 a1<;>try rfl
 cases UW L14 x12 x13 x4<;>try rfl
 cases btw x15 0 a1<;>try rfl
 cases btw x22 0 a1<;>try rfl
 cases Fn L16 a1<;>try rfl
 cases Fn L17 a1<;>try rfl
 cases a3==0<;>cases x2==0<;>cases btw x2 1 a3<;>rfl
theorem aW (hN:2097152<N) (hs:s.size≤1048576) (h14:L14.length≤1048576) (h16:L16.length≤1048576) (h17:L17.length≤1048576) (h19:L19.length≤1048576):Cm N ([.str s,.int a1,.int a2,.int a3,.int a4,.int a5,.int a6,.int a7,.bool a8,.int a9,.int a10,.int a11,.int a12,.rows La]++lsI L14 L16 L17 L19 L24 b18 b20 x0 x1 x2 x3 x4 x5 x6 x7 x8 x9 x10 x11 x12 x13 x15 x21 x22 x23 x25 x26 x27)=some [.bool (K6 s a1 a2 a3 a4 a5 a6 a7 a9 a10 a11 a12 La L14 L16 L17 L19 L24 x0 x1 x2 x3 x4 x5 x6 x7 x8 x9 x10 x11 x12 x13 x15 x21 x22 x23 x25 x26 x27)]:=by
 simp only [lsI,List.cons_append,List.nil_append]
 show QU (std (Fg N) N) (xOf _)=_
 have e1:∀ ls,Fg N 93 [] ls=Al N ls:=fun ls=>rfl
 have e2:∀ ls,Fg N 153 [] ls=FG N ls:=fun ls=>rfl
 have e3:∀ ls,Fg N 155 [] ls=IY N ls:=fun ls=>rfl
 have e4:∀ ls,Fg N 154 [] ls=RK N ls:=fun ls=>rfl
 have l60:=jA N L14 L16 L17 L19 L24 b18 b20 x0 x1 x2 x3 x4 x5 x6 x7 x8 x9 x10 x11 x12 x13 x15 x21 x22 x23 x25 x26 x27 (by omega) (by omega)
 simp only [lsI,List.cons_append,List.nil_append] at l60
 simp only [QU,std,xOf,PXb,PXc,PXn,AA,e1,e2,e3,e4,bh N s _ _ _ _ _ _ _ _ _ _ _ _ _ hN hs,ab,l60,fp N L16 _ (by omega) (by omega),fp N L17 _ (by omega) (by omega)]
 unfold K6 Mp
 cases hc:D2 s a1 a2 a3 a4 a5 a6 a7 a9 a10 a11 a12 La==0<;>try rfl
 rw [j0 (sA hc)]
 cases btw x0 1 2<;>try rfl
 cases h14:(L14.length:Int)==a1<;>try rfl
 cases (L19.length:Int)==a1<;>try rfl
 cases (L24.length:Int)==a1<;>try rfl
 cases iLt 5 x27<;>try rfl
 cases btw x12 0 a1<;>try rfl
 cases btw x13 0 a1<;>try rfl
 cases UW L14 x12 x13 x4
 ·simp only [PXb,PXc,PXn,AA]
 cases btw x15 0 a1<;>try rfl
 cases btw x22 0 a1<;>try rfl
 cases Fn L16 a1<;>try rfl
 cases Fn L17 a1<;>try rfl
 have ho:(a3==0 && !(x2==0) || !(a3==0)&&(a3==0 && !(x2==0) || !!(a3==0) || !btw x2 1 a3) || !btw x11 0 (IntKind.i64.wrap (a4 - 1))) = !(Mp a3 x2&&btw x11 0 (IntKind.i64.wrap (a4 - 1))):=by
  unfold Mp
  cases a3==0<;>cases x2==0<;>cases btw x2 1 a3<;>cases btw x11 0 (IntKind.i64.wrap (a4 - 1))<;>rfl
 rw [ho]
 show _=some [PV.bool (Mp a3 x2&&(btw x11 0 (IntKind.i64.wrap (a4 - 1))&&_))]
 rw [← Bool.and_assoc]
 cases Mp a3 x2&&btw x11 0 (IntKind.i64.wrap (a4 - 1))<;>try rfl
 simp only [PXb,PXc,PXn,AA]
 change (EF (fun s11 c11=>cond (iLt (pvI (AH c11 0)) ((Xg x1 x3 x5 x6 x7 x8 x9 x10 x21 x23 x25 x26).length:Int)) (cond (iIn (pvI (AH c11 0)) ((Xg x1 x3 x5 x6 x7 x8 x9 x10 x21 x23 x25 x26).length:Int)) (cond (!btw (pvI (AD (Xg x1 x3 x5 x6 x7 x8 x9 x10 x21 x23 x25 x26) (pvI (AH c11 0)).toNat 0)) 0 1000000000) (some [PV.int 0,PV.bool false]) (s11 [Leaf.int (IntKind.i64.wrap (pvI (AH c11 0)+1))])) none) (some [PV.int 1])) N [PV.int 0]).bind _=_
 generalize hM:Xg x1 x3 x5 x6 x7 x8 x9 x10 x21 x23 x25 x26=M
 have hM2:M.length=12:=by rw [← hM];rfl
 refine AJ (Cb (len:=M.length) (fun i=>DF (atI M i 0)) [.bool false] ?_ ?_ N (by omega)) ?_
 ·intro self
  simp only [PXb,PXc,PXn,AA,Ap]
 ·intro i self hi
  simp only [PXb,PXc,PXn,AA,AW (show i≤1099511627776 by omega),Ah hi,AP hi,Bo,DF]
 ·show _=some [PV.bool (!Aq (fun i=>DF (atI M i 0)) M.length 0&&_)]
  cases Aq (fun i=>DF (atI M i 0)) M.length 0<;>try rfl
  refine AJ (Cb (len:=L19.length) (fun i=>DF (atI L19 i 0)) [.bool false] ?_ ?_ N (by omega)) ?_
  ·intro self
   simp only [PXb,PXc,PXn,AA,Ap]
  ·intro i self hi
   simp only [PXb,PXc,PXn,AA,AW (show i≤1099511627776 by omega),Ah hi,AP hi,Bo,DF]
  ·show _=some [PV.bool (!Aq (fun i=>DF (atI L19 i 0)) L19.length 0)]
   cases Aq (fun i=>DF (atI L19 i 0)) L19.length 0<;>rfl
end
end Go.Px
end
section
namespace Go.Px
set_option maxRecDepth 100000
def mZ (v:Bool) (L:Rows) (s n:Int) (x1 x2 x3 x10:Int):Int :=
 cond (!v) 0 (cond (iLt 0 x1&&iLe x1 x3) 3 (cond (Dk L s n&&((Bw L L.length).length:Int)==0) 1 (cond (iLt 0 x2&&iLe x2 x10) 2 0)))
theorem rf {c:Int} {n:Nat} (hc:0≤c):iRg 0 (cond (iLt c (n:Int)) c (n:Int)) (n:Int)=true:=by
 cases h:iLt c (n:Int) with
 | true=>simp only [iLt,decide_eq_true_eq] at h;simp only [cond_true,iRg,decide_eq_true_eq];omega
 | false=>simp only [cond_false,iRg,decide_eq_true_eq];omega
def cut (L:Rows) (c:Int):Rows:=(L.take (cond (iLt c (L.length:Int)) c (L.length:Int)).toNat).drop (0:Int).toNat
def uq (s:ByteArray) (c:Int):ByteArray:=s.extract (0:Int).toNat (cond (iLt c (s.size:Int)) c (s.size:Int)).toNat
theorem um (s:ByteArray) (c:Int):(uq s c).size≤s.size:=by
 unfold uq
 rw [ByteArray.size_extract]
 omega
end Go.Px
end
section
namespace Go.Px
set_option maxRecDepth 100000
section
variable (N:Nat) (s:ByteArray) (a1 a2 a3 a4 a5 a6 a7 a9 a10 a11 a12:Int) (a8:Bool) (La:Rows) (L14 L16 L17 L19 L24:Rows) (b18 b20:Bool) (x0 x1 x2 x3 x4 x5 x6 x7 x8 x9 x10 x11 x12 x13 x15 x21 x22 x23 x25 x26 x27:Int)
theorem cZ (hN : 2097152 < N) (hs : s.size ≤ 1048576) (h14 : L14.length ≤ 1048576) (h16 : L16.length ≤ 1048576) (h17 : L17.length ≤ 1048576) (h19 : L19.length ≤ 1048576) : Dd N ([.str s, .int a1, .int a2, .int a3, .int a4, .int a5, .int a6, .int a7, .bool a8, .int a9, .int a10, .int a11, .int a12, .rows La] ++ lsI L14 L16 L17 L19 L24 b18 b20 x0 x1 x2 x3 x4 x5 x6 x7 x8 x9 x10 x11 x12 x13 x15 x21 x22 x23 x25 x26 x27) =
    some [.int (mZ (K6 s a1 a2 a3 a4 a5 a6 a7 a9 a10 a11 a12 La L14 L16 L17 L19 L24 x0 x1 x2 x3 x4 x5 x6 x7 x8 x9 x10 x11 x12 x13 x15 x21 x22 x23 x25 x26 x27) L14 x12 x13 x1 x2 x3 x10)]:=by
  simp only [lsI,List.cons_append,List.nil_append]
  show Hn (std (Dm N) N) (xOf _)=_
  have e1:∀ ls,Dm N 33 [] ls=BJ N ls:=fun ls=>rfl
  have e2:∀ ls,Dm N 151 [] ls=BL N ls:=fun ls=>rfl
  have e3:∀ ls,Dm N 152 [] ls=Cw N ls:=fun ls=>rfl
  have l16:=Tp N s a1 a2 a3 a4 a5 a6 a7 a9 a10 a11 a12 a8 La L14 L16 L17 L19 L24 b18 b20 x0 x1 x2 x3 x4 x5 x6 x7 x8 x9 x10 x11 x12 x13 x15 x21 x22 x23 x25 x26 x27 hN hs h14 h16 h17 h19
  have l61:=eh N L14 L16 L17 L19 L24 b18 b20 x0 x1 x2 x3 x4 x5 x6 x7 x8 x9 x10 x11 x12 x13 x15 x21 x22 x23 x25 x26 x27 (by omega) (by omega)
  have l62:=jX N L14 L16 L17 L19 L24 b18 b20 x0 x1 x2 x3 x4 x5 x6 x7 x8 x9 x10 x11 x12 x13 x15 x21 x22 x23 x25 x26 x27 (by omega) (by omega)
  simp only [lsI,List.cons_append,List.nil_append] at l16 l61 l62
  simp only [Hn,std,xOf,PXb,PXc,PXn,AA,e1,e2,e3,l16,l61,l62,mZ]
  cases K6 s a1 a2 a3 a4 a5 a6 a7 a9 a10 a11 a12 La L14 L16 L17 L19 L24 x0 x1 x2 x3 x4 x5 x6 x7 x8 x9 x10 x11 x12 x13 x15 x21 x22 x23 x25 x26 x27<;>try rfl
  cases (iLt 0 x1&&iLe x1 x3)<;>try rfl
  cases Dk L14 x12 x13
  · cases (iLt 0 x2&&iLe x2 x10)<;>rfl
  · simp only [PXb,PXc,PXn,AA]
    cases ((Bw L14 L14.length).length:Int)==0<;>cases (iLt 0 x2&&iLe x2 x10)<;>rfl
theorem kw (hN : 2097152 < N) (hs : s.size ≤ 1048576) (h14 : L14.length ≤ 1048576) (h16 : L16.length ≤ 1048576) (h17 : L17.length ≤ 1048576) (h19 : L19.length ≤ 1048576) : J3 N ([.str s, .int a1, .int a2, .int a3, .int a4, .int a5, .int a6, .int a7, .bool a8, .int a9, .int a10, .int a11, .int a12, .rows La] ++ lsI L14 L16 L17 L19 L24 b18 b20 x0 x1 x2 x3 x4 x5 x6 x7 x8 x9 x10 x11 x12 x13 x15 x21 x22 x23 x25 x26 x27) =
    some [.int (mZ (K6 s a1 a2 a3 a4 a5 a6 a7 a9 a10 a11 a12 La L14 L16 L17 L19 L24 x0 x1 x2 x3 x4 x5 x6 x7 x8 x9 x10 x11 x12 x13 x15 x21 x22 x23 x25 x26 x27) L14 x12 x13 x1 x2 x3 x10)]:=by
  simp only [lsI,List.cons_append,List.nil_append]
  show NQ (std (G0 N) N) (xOf _)=_
  have e1:∀ ls,G0 N 123 [] ls=Cm N ls:=fun ls=>rfl
  have e2:∀ ls,G0 N 189 [] ls=CO N ls:=fun ls=>rfl
  have e3:∀ ls,G0 N 190 [] ls=EZ N ls:=fun ls=>rfl
  have l16:=aW N s a1 a2 a3 a4 a5 a6 a7 a9 a10 a11 a12 a8 La L14 L16 L17 L19 L24 b18 b20 x0 x1 x2 x3 x4 x5 x6 x7 x8 x9 x10 x11 x12 x13 x15 x21 x22 x23 x25 x26 x27 hN hs h14 h16 h17 h19
  have l61:=kn N L14 L16 L17 L19 L24 b18 b20 x0 x1 x2 x3 x4 x5 x6 x7 x8 x9 x10 x11 x12 x13 x15 x21 x22 x23 x25 x26 x27 (by omega) (by omega)
  have l62:=oi N L14 L16 L17 L19 L24 b18 b20 x0 x1 x2 x3 x4 x5 x6 x7 x8 x9 x10 x11 x12 x13 x15 x21 x22 x23 x25 x26 x27 (by omega) (by omega)
  simp only [lsI,List.cons_append,List.nil_append] at l16 l61 l62
  simp only [NQ,std,xOf,PXb,PXc,PXn,AA,e1,e2,e3,l16,l61,l62,mZ]
  cases K6 s a1 a2 a3 a4 a5 a6 a7 a9 a10 a11 a12 La L14 L16 L17 L19 L24 x0 x1 x2 x3 x4 x5 x6 x7 x8 x9 x10 x11 x12 x13 x15 x21 x22 x23 x25 x26 x27<;>try rfl
  cases (iLt 0 x1&&iLe x1 x3)<;>try rfl
  cases Dk L14 x12 x13
  · cases (iLt 0 x2&&iLe x2 x10)<;>rfl
  · simp only [PXb,PXc,PXn,AA]
    cases ((Bw L14 L14.length).length:Int)==0<;>cases (iLt 0 x2&&iLe x2 x10)<;>rfl
end
end Go.Px
end
section
namespace Go.Px
set_option maxRecDepth 100000
section
variable (N:Nat) (s:ByteArray) (a1 a2 a3 a4 a5 a6 a7 a9 a10 a11 a12:Int) (a8:Bool) (La:Rows) (L14 L16 L17 L19 L24:Rows) (b18 b20:Bool) (x0 x1 x2 x3 x4 x5 x6 x7 x8 x9 x10 x11 x12 x13 x15 x21 x22 x23 x25 x26 x27:Int)
def bm (a4 x10 x11:Int):Int:=IntKind.i64.wrap (IntKind.i64.wrap (x10 * a4)+x11)
end
end Go.Px
end
section
namespace Go.Px
set_option maxRecDepth 100000
def Bb (r:Rul):Int:=D2 r.name r.side r.innings r.overs r.balls r.quota r.wide r.noball r.newball r.followon r.reviews r.outside r.power
theorem ED {N:Nat} {r1 r2 r3 r4 r5 r6 r7 r9 r10 r11 r12:Int} {r8:Bool} {r0:ByteArray} {r13:Rows} (hN:2097152<N) (hs:r0.size≤1048576):AU N [.str r0,.int r1,.int r2,.int r3,.int r4,.int r5,.int r6,.int r7,.bool r8,.int r9,.int r10,.int r11,.int r12,.rows r13]=some [.int (Bb (⟨r0,r1,r2,r3,r4,r5,r6,r7,r8,r9,r10,r11,r12,r13⟩:Rul))]:=by
 exact Wv N _ _ _ _ _ _ _ _ _ _ _ _ _ _ hN hs
theorem Il {N:Nat} {r1 r2 r3 r4 r5 r6 r7 r9 r10 r11 r12:Int} {r8:Bool} {r0:ByteArray} {r13:Rows} (hN:2097152<N) (hs:r0.size≤1048576):Al N [.str r0,.int r1,.int r2,.int r3,.int r4,.int r5,.int r6,.int r7,.bool r8,.int r9,.int r10,.int r11,.int r12,.rows r13]=some [.int (Bb (⟨r0,r1,r2,r3,r4,r5,r6,r7,r8,r9,r10,r11,r12,r13⟩:Rul))]:=by
 exact bh N _ _ _ _ _ _ _ _ _ _ _ _ _ _ hN hs
theorem V7 {N:Nat} {s0 s1 s2 s3 s4 s5 s6 s7 s8 s9 s10 s11 s12 s13 s15 s21 s22 s23 s25 s26 s27:Int} {s18 s20:Bool} {s14 s16 s17 s19 s24:Rows} (h:Fit s14 s16 s17 s19 s24):Ct N [.int s0,.int s1,.int s2,.int s3,.int s4,.int s5,.int s6,.int s7,.int s8,.int s9,.int s10,.int s11,.int s12,.int s13,.rows s14,.int s15,.rows s16,.rows s17,.bool s18,.rows s19,.bool s20,.int s21,.int s22,.int s23,.rows s24,.int s25,.int s26,.int s27]=some [.int s0,.int s1,.int s2,.int s3,.int s4,.int s5,.int s6,.int s7,.int s8,.int s9,.int s10,.int s11,.int s12,.int s13,.rows s14,.int s15,.rows s16,.rows s17,.bool s18,.rows s19,.bool s20,.int s21,.int s22,.int s23,.rows s24,.int s25,.int s26,.int s27]:=by
 show P5 (std (IE N) N) (xOf _)=_
 simp only [P5,NK,PX,O9,std,xOf,PXb,PXc,PXn,PXm,Nat.reduceAdd,Int.reduceBEq,AR,Af,Ac,BZ h.bt (show 1≤4096 by omega),BZ h.bw' (show 8≤4096 by omega),BZ h.bf (show 8≤4096 by omega),BZ h.bd (show 8≤4096 by omega),BZ h.sb (show 1≤4096 by omega)]
theorem Vm {N:Nat} {s0 s1 s2 s3 s4 s5 s6 s7 s8 s9 s10 s11 s12 s13 s15 s21 s22 s23 s25 s26 s27:Int} {s18 s20:Bool} {s14 s16 s17 s19 s24:Rows} (h:Fit s14 s16 s17 s19 s24):Cl N [.int s0,.int s1,.int s2,.int s3,.int s4,.int s5,.int s6,.int s7,.int s8,.int s9,.int s10,.int s11,.int s12,.int s13,.rows s14,.int s15,.rows s16,.rows s17,.bool s18,.rows s19,.bool s20,.int s21,.int s22,.int s23,.rows s24,.int s25,.int s26,.int s27]=some [.int s0,.int s1,.int s2,.int s3,.int s4,.int s5,.int s6,.int s7,.int s8,.int s9,.int s10,.int s11,.int s12,.int s13,.rows s14,.int s15,.rows s16,.rows s17,.bool s18,.rows s19,.bool s20,.int s21,.int s22,.int s23,.rows s24,.int s25,.int s26,.int s27]:=by
 show QN (std (IZ N) N) (xOf _)=_
 simp only [QN,NF,Pt,O6,std,xOf,PXb,PXc,PXn,PXm,Nat.reduceAdd,Int.reduceBEq,AR,Af,Ac,BZ h.bt (show 1≤4096 by omega),BZ h.bw' (show 8≤4096 by omega),BZ h.bf (show 8≤4096 by omega),BZ h.bd (show 8≤4096 by omega),BZ h.sb (show 1≤4096 by omega)]
theorem CE {N:Nat} {s0 s1 s2 s3 s4 s5 s6 s7 s8 s9 s10 s11 s12 s13 s15 s21 s22 s23 s25 s26 s27:Int} {s18 s20:Bool} {s14 s16 s17 s19 s24:Rows} (h:Fit s14 s16 s17 s19 s24):AQ N [.int s0,.int s1,.int s2,.int s3,.int s4,.int s5,.int s6,.int s7,.int s8,.int s9,.int s10,.int s11,.int s12,.int s13,.rows s14,.int s15,.rows s16,.rows s17,.bool s18,.rows s19,.bool s20,.int s21,.int s22,.int s23,.rows s24,.int s25,.int s26,.int s27]=some [.int s0,.int s1,.int s2,.int s3,.int s4,.int s5,.int s6,.int s7,.int s8,.int s9,.int s10,.int s11,.int s12,.int s13,.rows s14,.int s15,.rows s16,.rows s17,.bool s18,.rows s19,.bool s20,.int s21,.int s22,.int s23,.rows s24,.int s25,.int s26,.int s27]:=by
 show I4 (std (EX N) N) (xOf _)=_
 simp only [I4,KR,Mh,LN,std,xOf,PXb,PXc,PXn,PXm,Nat.reduceAdd,Int.reduceBEq,AR,Af,Ac,BZ h.bt (show 1≤4096 by omega),BZ h.bw' (show 8≤4096 by omega),BZ h.bf (show 8≤4096 by omega),BZ h.bd (show 8≤4096 by omega),BZ h.sb (show 1≤4096 by omega)]
theorem V2 {N:Nat} {s0 s1 s2 s3 s4 s5 s6 s7 s8 s9 s10 s11 s12 s13 s15 s21 s22 s23 s25 s26 s27:Int} {s18 s20:Bool} {s14 s16 s17 s19 s24:Rows} (h:Fit s14 s16 s17 s19 s24):C9 N [.int s0,.int s1,.int s2,.int s3,.int s4,.int s5,.int s6,.int s7,.int s8,.int s9,.int s10,.int s11,.int s12,.int s13,.rows s14,.int s15,.rows s16,.rows s17,.bool s18,.rows s19,.bool s20,.int s21,.int s22,.int s23,.rows s24,.int s25,.int s26,.int s27]=some [.int s0,.int s1,.int s2,.int s3,.int s4,.int s5,.int s6,.int s7,.int s8,.int s9,.int s10,.int s11,.int s12,.int s13,.rows s14,.int s15,.rows s16,.rows s17,.bool s18,.rows s19,.bool s20,.int s21,.int s22,.int s23,.rows s24,.int s25,.int s26,.int s27]:=by
 show P3 (std (Ri N) N) (xOf _)=_
 simp only [P3,Xe,std,xOf,PXb,PXc,PXn,PXm,Nat.reduceAdd,Int.reduceBEq,Bz h]
theorem Rp {N:Nat} {s0 s1 s2 s3 s4 s5 s6 s7 s8 s9 s10 s11 s12 s13 s15 s21 s22 s23 s25 s26 s27:Int} {s18 s20:Bool} {s14 s16 s17 s19 s24:Rows} {p:Int}  : Bt N [.int s0,.int s1,.int s2,.int s3,.int s4,.int s5,.int s6,.int s7,.int s8,.int s9,.int s10,.int s11,.int s12,.int s13,.rows s14,.int s15,.rows s16,.rows s17,.bool s18,.rows s19,.bool s20,.int s21,.int s22,.int s23,.rows s24,.int s25,.int s26,.int s27,.int p]=some [.bool (inR p s19.length)]:=by
 show Lk (std (UZ N) N) (xOf _)=_
 simp only [Lk,std,xOf,PXb,PXc,PXn,PXm,Nat.reduceAdd,Int.reduceBEq]
 rfl
theorem T0 {N:Nat} {s0 s1 s2 s3 s4 s5 s6 s7 s8 s9 s10 s11 s12 s13 s15 s21 s22 s23 s25 s26 s27:Int} {s18 s20:Bool} {s14 s16 s17 s19 s24:Rows} {p:Int}  : CM N [.int s0,.int s1,.int s2,.int s3,.int s4,.int s5,.int s6,.int s7,.int s8,.int s9,.int s10,.int s11,.int s12,.int s13,.rows s14,.int s15,.rows s16,.rows s17,.bool s18,.rows s19,.bool s20,.int s21,.int s22,.int s23,.rows s24,.int s25,.int s26,.int s27,.int p]=some [.bool (inR p s19.length)]:=by
 show OO (std (WY N) N) (xOf _)=_
 simp only [OO,std,xOf,PXb,PXc,PXn,PXm,Nat.reduceAdd,Int.reduceBEq]
 rfl
theorem Ig {N:Nat} {s0 s1 s2 s3 s4 s5 s6 s7 s8 s9 s10 s11 s12 s13 s15 s21 s22 s23 s25 s26 s27:Int} {s18 s20:Bool} {s14 s16 s17 s19 s24:Rows} {p:Int}  : A1 N [.int s0,.int s1,.int s2,.int s3,.int s4,.int s5,.int s6,.int s7,.int s8,.int s9,.int s10,.int s11,.int s12,.int s13,.rows s14,.int s15,.rows s16,.rows s17,.bool s18,.rows s19,.bool s20,.int s21,.int s22,.int s23,.rows s24,.int s25,.int s26,.int s27,.int p]=some [.bool (inR p s24.length)]:=by
 show MA (std (U8 N) N) (xOf _)=_
 simp only [MA,std,xOf,PXb,PXc,PXn,PXm,Nat.reduceAdd,Int.reduceBEq]
 rfl
theorem Om {N:Nat} {s0 s1 s2 s3 s4 s5 s6 s7 s8 s9 s10 s11 s12 s13 s15 s21 s22 s23 s25 s26 s27:Int} {s18 s20:Bool} {s14 s16 s17 s19 s24:Rows} {p:Int}  : BX N [.int s0,.int s1,.int s2,.int s3,.int s4,.int s5,.int s6,.int s7,.int s8,.int s9,.int s10,.int s11,.int s12,.int s13,.rows s14,.int s15,.rows s16,.rows s17,.bool s18,.rows s19,.bool s20,.int s21,.int s22,.int s23,.rows s24,.int s25,.int s26,.int s27,.int p]=some [.bool (inR p s24.length)]:=by
 show OL (std (W1 N) N) (xOf _)=_
 simp only [OL,std,xOf,PXb,PXc,PXn,PXm,Nat.reduceAdd,Int.reduceBEq]
 rfl
def atB (L:Rows) (i j:Nat):Bool:=pvB (AD L i j)
def C4 (s:Inn) (p:Int):Bool:=inR p s.subs.length&&atB s.subs (ix p) 0
theorem H7 {N:Nat} {s0 s1 s2 s3 s4 s5 s6 s7 s8 s9 s10 s11 s12 s13 s15 s21 s22 s23 s25 s26 s27:Int} {s18 s20:Bool} {s14 s16 s17 s19 s24:Rows} {p:Int} (h:s24.length≤1048576):A0 N [.int s0,.int s1,.int s2,.int s3,.int s4,.int s5,.int s6,.int s7,.int s8,.int s9,.int s10,.int s11,.int s12,.int s13,.rows s14,.int s15,.rows s16,.rows s17,.bool s18,.rows s19,.bool s20,.int s21,.int s22,.int s23,.rows s24,.int s25,.int s26,.int s27,.int p]=some [.bool (C4 (⟨s0,s1,s2,s3,s4,s5,s6,s7,s8,s9,s10,s11,s12,s13,s14,s15,s16,s17,s18,s19,s20,s21,s22,s23,s24,s25,s26,s27⟩:Inn) p)]:=by
 show H9 (std (Je N) N) (xOf _)=_
 generalize hres:(some [.bool (C4 (⟨s0,s1,s2,s3,s4,s5,s6,s7,s8,s9,s10,s11,s12,s13,s14,s15,s16,s17,s18,s19,s20,s21,s22,s23,s24,s25,s26,s27⟩:Inn) p)]:Option (List PV))=RR
 simp only [H9,Py,std,xOf,PXb,PXc,PXn,PXm,Nat.reduceAdd,Int.reduceBEq,Ig,rb h]
 subst hres;simp only [C4]
 cases hp:inR p s24.length with
 | false=>rfl
 | true=>first | rfl | (rw [DS hp h];rfl)
theorem HT {N:Nat} {s0 s1 s2 s3 s4 s5 s6 s7 s8 s9 s10 s11 s12 s13 s15 s21 s22 s23 s25 s26 s27:Int} {s18 s20:Bool} {s14 s16 s17 s19 s24:Rows} {p:Int} (h:s24.length≤1048576):Az N [.int s0,.int s1,.int s2,.int s3,.int s4,.int s5,.int s6,.int s7,.int s8,.int s9,.int s10,.int s11,.int s12,.int s13,.rows s14,.int s15,.rows s16,.rows s17,.bool s18,.rows s19,.bool s20,.int s21,.int s22,.int s23,.rows s24,.int s25,.int s26,.int s27,.int p]=some [.bool (C4 (⟨s0,s1,s2,s3,s4,s5,s6,s7,s8,s9,s10,s11,s12,s13,s14,s15,s16,s17,s18,s19,s20,s21,s22,s23,s24,s25,s26,s27⟩:Inn) p)]:=by
 show KZ (std (T8 N) N) (xOf _)=_
 generalize hres:(some [.bool (C4 (⟨s0,s1,s2,s3,s4,s5,s6,s7,s8,s9,s10,s11,s12,s13,s14,s15,s16,s17,s18,s19,s20,s21,s22,s23,s24,s25,s26,s27⟩:Inn) p)]:Option (List PV))=RR
 simp only [KZ,std,xOf,PXb,PXc,PXn,PXm,Nat.reduceAdd,Int.reduceBEq,rb h]
 subst hres;simp only [C4]
 cases hp:inR p s24.length with
 | false =>
  unfold inR at hp
  have hq:(!iLe 1 p || !iLe p (s24.length:Int)||iIn (IntKind.i64.wrap (p - 1)) (s24.length:Int))=true:=by rw [← Bool.not_and,hp];rfl
  simp only [hp,hq,PXb,PXc,PXn,PXm,Nat.reduceAdd,Int.reduceBEq]
 | true=>have hk:=DS hp h;unfold inR at hp;simp only [hp,hk,PXb,PXc,PXn,PXm,Nat.reduceAdd,Int.reduceBEq,atB,ix]
def fW (x:Int):Int:=cond (iLt x 0) 0 x
def Ng (r:Rul) (s:Inn) (p:Int):Int :=
 cond (!inR p s.bowled.length || !(Bb r==0)) 0 (cond (r.quota==0) (-1) (fW (IntKind.i64.wrap (IntKind.i64.wrap (r.quota * r.balls) - fW (atI s.bowled (ix p) 0)))))
theorem rT (r:Rul) (s:Inn) (p:Int):iLe 0 (Ng r s p) = !(Ng r s p == -1):=by
 unfold Ng
 cases (!inR p s.bowled.length || !(Bb r==0)) with
 | true=>rfl
 | false =>
  cases r.quota==0 with
  | true=>rfl
  | false =>
   simp only [cond_false]
   generalize IntKind.i64.wrap (IntKind.i64.wrap (r.quota * r.balls) - fW (atI s.bowled (ix p) 0))=x
   unfold fW
   cases h:iLt x 0 with
   | true=>rfl
   | false =>
    simp only [iLt,decide_eq_false_iff_not] at h
    simp only [cond_false]
    have h1:iLe 0 x=true:=by simp only [iLe,decide_eq_true_eq];omega
    have h2:(x == -1)=false:=by simp only [beq_eq_false_iff_ne];omega
    rw [h1,h2];rfl
theorem oH {N:Nat} {r1 r2 r3 r4 r5 r6 r7 r9 r10 r11 r12:Int} {r8:Bool} {r0:ByteArray} {r13:Rows} {s0 s1 s2 s3 s4 s5 s6 s7 s8 s9 s10 s11 s12 s13 s15 s21 s22 s23 s25 s26 s27:Int} {s18 s20:Bool} {s14 s16 s17 s19 s24:Rows} {p:Int} (h:Fit s14 s16 s17 s19 s24) (hN:2097152<N) (hs:r0.size≤1048576):Jy N [.str r0,.int r1,.int r2,.int r3,.int r4,.int r5,.int r6,.int r7,.bool r8,.int r9,.int r10,.int r11,.int r12,.rows r13,.int s0,.int s1,.int s2,.int s3,.int s4,.int s5,.int s6,.int s7,.int s8,.int s9,.int s10,.int s11,.int s12,.int s13,.rows s14,.int s15,.rows s16,.rows s17,.bool s18,.rows s19,.bool s20,.int s21,.int s22,.int s23,.rows s24,.int s25,.int s26,.int s27,.int p]=some [.int (Ng (⟨r0,r1,r2,r3,r4,r5,r6,r7,r8,r9,r10,r11,r12,r13⟩:Rul) (⟨s0,s1,s2,s3,s4,s5,s6,s7,s8,s9,s10,s11,s12,s13,s14,s15,s16,s17,s18,s19,s20,s21,s22,s23,s24,s25,s26,s27⟩:Inn) p)]:=by
 show Of (std (KW N) N) (xOf _)=_
 generalize hres:(some [.int (Ng (⟨r0,r1,r2,r3,r4,r5,r6,r7,r8,r9,r10,r11,r12,r13⟩:Rul) (⟨s0,s1,s2,s3,s4,s5,s6,s7,s8,s9,s10,s11,s12,s13,s14,s15,s16,s17,s18,s19,s20,s21,s22,s23,s24,s25,s26,s27⟩:Inn) p)]:Option (List PV))=RR
 simp only [Of,TC,TS,std,xOf,PXb,PXc,PXn,PXm,Nat.reduceAdd,Int.reduceBEq,ED hN hs,Rp]
 subst hres;simp only [Ng]
 cases hp:inR p s19.length with
 | false=>rfl
 | true=>rw [DS hp h.bd];cases Bb (⟨r0,r1,r2,r3,r4,r5,r6,r7,r8,r9,r10,r11,r12,r13⟩:Rul)==0<;>cases r5==0<;>rfl
theorem qm {N:Nat} {r1 r2 r3 r4 r5 r6 r7 r9 r10 r11 r12:Int} {r8:Bool} {r0:ByteArray} {r13:Rows} {s0 s1 s2 s3 s4 s5 s6 s7 s8 s9 s10 s11 s12 s13 s15 s21 s22 s23 s25 s26 s27:Int} {s18 s20:Bool} {s14 s16 s17 s19 s24:Rows} {p:Int} (h:Fit s14 s16 s17 s19 s24) (hN:2097152<N) (hs:r0.size≤1048576):OW N [.str r0,.int r1,.int r2,.int r3,.int r4,.int r5,.int r6,.int r7,.bool r8,.int r9,.int r10,.int r11,.int r12,.rows r13,.int s0,.int s1,.int s2,.int s3,.int s4,.int s5,.int s6,.int s7,.int s8,.int s9,.int s10,.int s11,.int s12,.int s13,.rows s14,.int s15,.rows s16,.rows s17,.bool s18,.rows s19,.bool s20,.int s21,.int s22,.int s23,.rows s24,.int s25,.int s26,.int s27,.int p]=some [.int (Ng (⟨r0,r1,r2,r3,r4,r5,r6,r7,r8,r9,r10,r11,r12,r13⟩:Rul) (⟨s0,s1,s2,s3,s4,s5,s6,s7,s8,s9,s10,s11,s12,s13,s14,s15,s16,s17,s18,s19,s20,s21,s22,s23,s24,s25,s26,s27⟩:Inn) p)]:=by
 show Sm (std (OV N) N) (xOf _)=_
 generalize hres:(some [.int (Ng (⟨r0,r1,r2,r3,r4,r5,r6,r7,r8,r9,r10,r11,r12,r13⟩:Rul) (⟨s0,s1,s2,s3,s4,s5,s6,s7,s8,s9,s10,s11,s12,s13,s14,s15,s16,s17,s18,s19,s20,s21,s22,s23,s24,s25,s26,s27⟩:Inn) p)]:Option (List PV))=RR
 simp only [Sm,YU,XB,std,xOf,PXb,PXc,PXn,PXm,Nat.reduceAdd,Int.reduceBEq,Il hN hs,T0]
 subst hres;simp only [Ng]
 cases hp:inR p s19.length with
 | false=>cases Bb (⟨r0,r1,r2,r3,r4,r5,r6,r7,r8,r9,r10,r11,r12,r13⟩:Rul)==0<;>rfl
 | true=>rw [DS hp h.bd];cases Bb (⟨r0,r1,r2,r3,r4,r5,r6,r7,r8,r9,r10,r11,r12,r13⟩:Rul)==0<;>cases r5==0<;>rfl
theorem ka {N:Nat} {L:Rows} {v:Int} (hN:2097152<N) (hl:L.length≤1048576):Hd N [.rows L,.int v]=some [.bool (HP L L.length v)]:=by
 show VF (std (cy N) N) (xOf _)=_
 simp only [VF,std,xOf,PXb,PXc,PXn,AA]
 refine AJ (Cb (len:=L.length) (fun j=>v==atI L j 0) [.bool true] ?_ ?_ N (by omega)) ?_
 ·intro self
  simp only [PXb,PXc,PXn,AA,Ap]
 ·intro i self hi
  simp only [PXb,PXc,PXn,AA,AW (show i≤1099511627776 by omega),Ah hi,AP hi,Bo]
  rw [BEq.comm (a:=v)]
 ·unfold HP
  cases Aq (fun j=>v==atI L j 0) L.length 0<;>rfl
theorem Mq {N:Nat} {L:Rows} {v:Int} (hN:2097152<N) (hl:L.length≤1048576):Am N [.rows L,.int v]=some [.bool (HP L L.length v)]:=by
 exact LI N L v (by omega) (by omega)
def Ij (r:Rul) (s:Inn) (p:Int):Int :=
  cond (!inR p s.bowled.length || !(Bb r==0)) 3 (cond (p==s.keeper||p==s.bowler||C4 s p) 7
    (cond (HP s.before s.before.length p) 8 (cond (!(Ng r s p == -1)&&iLt s.inover (IntKind.i64.wrap (r.balls - Ng r s p))) 9 0)))
theorem tw {p:Int} {n m:Nat} (h:inR p n=true):inR p m=iLe p (m:Int):=by
 unfold inR at h ⊢
 rw [Bool.and_eq_true] at h
 rw [h.1,Bool.true_and]
theorem pd {N:Nat} {r1 r2 r3 r4 r5 r6 r7 r9 r10 r11 r12:Int} {r8:Bool} {r0:ByteArray} {r13:Rows} {s0 s1 s2 s3 s4 s5 s6 s7 s8 s9 s10 s11 s12 s13 s15 s21 s22 s23 s25 s26 s27:Int} {s18 s20:Bool} {s14 s16 s17 s19 s24:Rows} {p:Int} (h:Fit s14 s16 s17 s19 s24) (hN:2097152<N) (hs:r0.size≤1048576):LM N [.str r0,.int r1,.int r2,.int r3,.int r4,.int r5,.int r6,.int r7,.bool r8,.int r9,.int r10,.int r11,.int r12,.rows r13,.int s0,.int s1,.int s2,.int s3,.int s4,.int s5,.int s6,.int s7,.int s8,.int s9,.int s10,.int s11,.int s12,.int s13,.rows s14,.int s15,.rows s16,.rows s17,.bool s18,.rows s19,.bool s20,.int s21,.int s22,.int s23,.rows s24,.int s25,.int s26,.int s27,.int p]=some [.int (Ij (⟨r0,r1,r2,r3,r4,r5,r6,r7,r8,r9,r10,r11,r12,r13⟩:Rul) (⟨s0,s1,s2,s3,s4,s5,s6,s7,s8,s9,s10,s11,s12,s13,s14,s15,s16,s17,s18,s19,s20,s21,s22,s23,s24,s25,s26,s27⟩:Inn) p)]:=by
 show QM (std (Fb N) N) (xOf _)=_
 generalize hres:(some [.int (Ij (⟨r0,r1,r2,r3,r4,r5,r6,r7,r8,r9,r10,r11,r12,r13⟩:Rul) (⟨s0,s1,s2,s3,s4,s5,s6,s7,s8,s9,s10,s11,s12,s13,s14,s15,s16,s17,s18,s19,s20,s21,s22,s23,s24,s25,s26,s27⟩:Inn) p)]:Option (List PV))=RR
 simp only [QM,UE,NJ,UP,Vj,std,xOf,PXb,PXc,PXn,PXm,Nat.reduceAdd,Int.reduceBEq,ED hN hs,Rp,oH h hN hs,Mq hN h.bf]
 subst hres;simp only [Ij,C4]
 cases hp:inR p s19.length with
 | false=>rfl
 | true =>
  rw [tw (m:=s24.length) hp]
  have hq:(!(iLe p (s24.length:Int))||iIn (IntKind.i64.wrap (p - 1)) (s24.length:Int))=true:=by
   cases h1:iLe p (s24.length:Int) with
   | false=>rfl
   | true=>rw [DS (by rw [tw hp];exact h1) h.sb];rfl
  rw [hq]
  cases Bb (⟨r0,r1,r2,r3,r4,r5,r6,r7,r8,r9,r10,r11,r12,r13⟩:Rul)==0<;>rfl
theorem si {N:Nat} {r1 r2 r3 r4 r5 r6 r7 r9 r10 r11 r12:Int} {r8:Bool} {r0:ByteArray} {r13:Rows} {s0 s1 s2 s3 s4 s5 s6 s7 s8 s9 s10 s11 s12 s13 s15 s21 s22 s23 s25 s26 s27:Int} {s18 s20:Bool} {s14 s16 s17 s19 s24:Rows} {p:Int} (h:Fit s14 s16 s17 s19 s24) (hN:2097152<N) (hs:r0.size≤1048576):Q6 N [.str r0,.int r1,.int r2,.int r3,.int r4,.int r5,.int r6,.int r7,.bool r8,.int r9,.int r10,.int r11,.int r12,.rows r13,.int s0,.int s1,.int s2,.int s3,.int s4,.int s5,.int s6,.int s7,.int s8,.int s9,.int s10,.int s11,.int s12,.int s13,.rows s14,.int s15,.rows s16,.rows s17,.bool s18,.rows s19,.bool s20,.int s21,.int s22,.int s23,.rows s24,.int s25,.int s26,.int s27,.int p]=some [.int (Ij (⟨r0,r1,r2,r3,r4,r5,r6,r7,r8,r9,r10,r11,r12,r13⟩:Rul) (⟨s0,s1,s2,s3,s4,s5,s6,s7,s8,s9,s10,s11,s12,s13,s14,s15,s16,s17,s18,s19,s20,s21,s22,s23,s24,s25,s26,s27⟩:Inn) p)]:=by
 show Uv (std (GN N) N) (xOf _)=_
 generalize hres:(some [.int (Ij (⟨r0,r1,r2,r3,r4,r5,r6,r7,r8,r9,r10,r11,r12,r13⟩:Rul) (⟨s0,s1,s2,s3,s4,s5,s6,s7,s8,s9,s10,s11,s12,s13,s14,s15,s16,s17,s18,s19,s20,s21,s22,s23,s24,s25,s26,s27⟩:Inn) p)]:Option (List PV))=RR
 simp only [Uv,Zl,WO,Xh,bS,cn,std,xOf,PXb,PXc,PXn,PXm,Nat.reduceAdd,Int.reduceBEq,Il hN hs,T0,qm h hN hs,ka hN h.bf,HT h.sb,rT]
 subst hres;simp only [Ij]
 cases hp:inR p s19.length<;>cases Bb (⟨r0,r1,r2,r3,r4,r5,r6,r7,r8,r9,r10,r11,r12,r13⟩:Rul)==0<;>cases p==s22<;>cases p==s15<;>rfl
def SX (r:Rul) (s:Inn) (p:Int):Inn×Int:=(cond (Ij r s p==0) { s with bowler:=p } s,Ij r s p)
theorem nG {N:Nat} {r1 r2 r3 r4 r5 r6 r7 r9 r10 r11 r12:Int} {r8:Bool} {r0:ByteArray} {r13:Rows} {s0 s1 s2 s3 s4 s5 s6 s7 s8 s9 s10 s11 s12 s13 s15 s21 s22 s23 s25 s26 s27:Int} {s18 s20:Bool} {s14 s16 s17 s19 s24:Rows} {p:Int} (h:Fit s14 s16 s17 s19 s24) (hN:2097152<N) (hs:r0.size≤1048576):Jr N [.str r0,.int r1,.int r2,.int r3,.int r4,.int r5,.int r6,.int r7,.bool r8,.int r9,.int r10,.int r11,.int r12,.rows r13,.int s0,.int s1,.int s2,.int s3,.int s4,.int s5,.int s6,.int s7,.int s8,.int s9,.int s10,.int s11,.int s12,.int s13,.rows s14,.int s15,.rows s16,.rows s17,.bool s18,.rows s19,.bool s20,.int s21,.int s22,.int s23,.rows s24,.int s25,.int s26,.int s27,.int p]=some (AY (SX (⟨r0,r1,r2,r3,r4,r5,r6,r7,r8,r9,r10,r11,r12,r13⟩:Rul) (⟨s0,s1,s2,s3,s4,s5,s6,s7,s8,s9,s10,s11,s12,s13,s14,s15,s16,s17,s18,s19,s20,s21,s22,s23,s24,s25,s26,s27⟩:Inn) p)):=by
 show Nk (std (Ks N) N) (xOf _)=_
 generalize hres:(some (AY (SX (⟨r0,r1,r2,r3,r4,r5,r6,r7,r8,r9,r10,r11,r12,r13⟩:Rul) (⟨s0,s1,s2,s3,s4,s5,s6,s7,s8,s9,s10,s11,s12,s13,s14,s15,s16,s17,s18,s19,s20,s21,s22,s23,s24,s25,s26,s27⟩:Inn) p)):Option (List PV))=RR
 simp only [Nk,WC,WA,std,xOf,PXb,PXc,PXn,PXm,Nat.reduceAdd,Int.reduceBEq,V7 h,pd h hN hs]
 subst hres;simp only [SX]
 cases Ij (⟨r0,r1,r2,r3,r4,r5,r6,r7,r8,r9,r10,r11,r12,r13⟩:Rul) (⟨s0,s1,s2,s3,s4,s5,s6,s7,s8,s9,s10,s11,s12,s13,s14,s15,s16,s17,s18,s19,s20,s21,s22,s23,s24,s25,s26,s27⟩:Inn) p==0<;>rfl
theorem qM {N:Nat} {r1 r2 r3 r4 r5 r6 r7 r9 r10 r11 r12:Int} {r8:Bool} {r0:ByteArray} {r13:Rows} {s0 s1 s2 s3 s4 s5 s6 s7 s8 s9 s10 s11 s12 s13 s15 s21 s22 s23 s25 s26 s27:Int} {s18 s20:Bool} {s14 s16 s17 s19 s24:Rows} {p:Int} (h:Fit s14 s16 s17 s19 s24) (hN:2097152<N) (hs:r0.size≤1048576):SI N [.str r0,.int r1,.int r2,.int r3,.int r4,.int r5,.int r6,.int r7,.bool r8,.int r9,.int r10,.int r11,.int r12,.rows r13,.int s0,.int s1,.int s2,.int s3,.int s4,.int s5,.int s6,.int s7,.int s8,.int s9,.int s10,.int s11,.int s12,.int s13,.rows s14,.int s15,.rows s16,.rows s17,.bool s18,.rows s19,.bool s20,.int s21,.int s22,.int s23,.rows s24,.int s25,.int s26,.int s27,.int p]=some (AY (SX (⟨r0,r1,r2,r3,r4,r5,r6,r7,r8,r9,r10,r11,r12,r13⟩:Rul) (⟨s0,s1,s2,s3,s4,s5,s6,s7,s8,s9,s10,s11,s12,s13,s14,s15,s16,s17,s18,s19,s20,s21,s22,s23,s24,s25,s26,s27⟩:Inn) p)):=by
 show Se (std (Oz N) N) (xOf _)=_
 generalize hres:(some (AY (SX (⟨r0,r1,r2,r3,r4,r5,r6,r7,r8,r9,r10,r11,r12,r13⟩:Rul) (⟨s0,s1,s2,s3,s4,s5,s6,s7,s8,s9,s10,s11,s12,s13,s14,s15,s16,s17,s18,s19,s20,s21,s22,s23,s24,s25,s26,s27⟩:Inn) p)):Option (List PV))=RR
 simp only [Se,YT,bU,std,xOf,PXb,PXc,PXn,PXm,Nat.reduceAdd,Int.reduceBEq,Bz h,si h hN hs]
 subst hres;simp only [SX]
 cases Ij (⟨r0,r1,r2,r3,r4,r5,r6,r7,r8,r9,r10,r11,r12,r13⟩:Rul) (⟨s0,s1,s2,s3,s4,s5,s6,s7,s8,s9,s10,s11,s12,s13,s14,s15,s16,s17,s18,s19,s20,s21,s22,s23,s24,s25,s26,s27⟩:Inn) p==0<;>rfl
def ja (x:Inn×Bool):List PV:=[.int x.1.side,.int x.1.target,.int x.1.overs,.int x.1.runs,.int x.1.wickets,.int x.1.wides,.int x.1.noballs,.int x.1.byes,.int x.1.legbyes,.int x.1.pens,.int x.1.complete,.int x.1.inover,.int x.1.striker,.int x.1.other,.rows x.1.batters,.int x.1.bowler,.rows x.1.bowlers,.rows x.1.before,.bool x.1.fresh,.rows x.1.bowled,.bool x.1.freehit,.int x.1.ballage,.int x.1.keeper,.int x.1.outside,.rows x.1.subs,.int x.1.rev1,.int x.1.rev2,.int x.1.ending,.bool x.2]
def inc (x:Int):Int:=IntKind.i64.wrap (x+1)
def C6 (r:Rul) (s:Inn) (counts:Bool):Inn×Bool :=
  cond (!inR s.bowler s.bowled.length || !(Bb r==0)) (s,false)
    (let L:=cond (HP s.bowlers s.bowlers.length s.bowler) s.bowlers (s.bowlers++[[.int s.bowler]])
     let o:=cond counts (inc s.inover) s.inover
     let t:Inn:={ s with bowlers:=L,bowled:=cond counts (Jp s.bowled s.bowler (inc (atI s.bowled (ix s.bowler) 0))) s.bowled,inover:=o,ballage:=cond counts (inc s.ballage) s.ballage }
     cond (iLt o r.balls) (t,false) ({ t with complete:=inc s.complete,inover:=0,before:=L,bowlers:=[],bowler:=0 },true))
theorem nJ {N:Nat} {r1 r2 r3 r4 r5 r6 r7 r9 r10 r11 r12:Int} {r8:Bool} {r0:ByteArray} {r13:Rows} {s0 s1 s2 s3 s4 s5 s6 s7 s8 s9 s10 s11 s12 s13 s15 s21 s22 s23 s25 s26 s27:Int} {s18 s20:Bool} {s14 s16 s17 s19 s24:Rows} {b:Bool} (h:Fit s14 s16 s17 s19 s24) (hw:s16.length≤1048575) (hN:2097152<N) (hs:r0.size≤1048576):JV N [.str r0,.int r1,.int r2,.int r3,.int r4,.int r5,.int r6,.int r7,.bool r8,.int r9,.int r10,.int r11,.int r12,.rows r13,.int s0,.int s1,.int s2,.int s3,.int s4,.int s5,.int s6,.int s7,.int s8,.int s9,.int s10,.int s11,.int s12,.int s13,.rows s14,.int s15,.rows s16,.rows s17,.bool s18,.rows s19,.bool s20,.int s21,.int s22,.int s23,.rows s24,.int s25,.int s26,.int s27,.bool b]=some (ja (C6 (⟨r0,r1,r2,r3,r4,r5,r6,r7,r8,r9,r10,r11,r12,r13⟩:Rul) (⟨s0,s1,s2,s3,s4,s5,s6,s7,s8,s9,s10,s11,s12,s13,s14,s15,s16,s17,s18,s19,s20,s21,s22,s23,s24,s25,s26,s27⟩:Inn) b)):=by
 show N0 (std (En N) N) (xOf _)=_
 generalize hres:(some (ja (C6 (⟨r0,r1,r2,r3,r4,r5,r6,r7,r8,r9,r10,r11,r12,r13⟩:Rul) (⟨s0,s1,s2,s3,s4,s5,s6,s7,s8,s9,s10,s11,s12,s13,s14,s15,s16,s17,s18,s19,s20,s21,s22,s23,s24,s25,s26,s27⟩:Inn) b)):Option (List PV))=RR
 have ha:(s16++[[PV.int s15]]).length≤1048576:=by simp;omega
 simp only [N0,TH,MS,WQ,TK,std,xOf,PXb,PXc,PXn,PXm,Nat.reduceAdd,Int.reduceBEq,V7 h,Rp,ED hN hs,Mq hN h.bw',Jo ha (show 8≤4096 by omega)]
 subst hres;simp only [C6]
 cases hp:inR s15 s19.length with
 | false=>rfl
 | true =>
  rw [DS hp h.bd]
  cases Bb (⟨r0,r1,r2,r3,r4,r5,r6,r7,r8,r9,r10,r11,r12,r13⟩:Rul)==0<;>try rfl
  cases HP s16 s16.length s15<;>cases b<;>simp only [PXb,PXc,PXn,PXm,Nat.reduceAdd,Int.reduceBEq,inc]
  all_goals first | (cases iLt s11 r4<;>rfl) | (cases iLt (IntKind.i64.wrap (s11+1)) r4<;>rfl)
theorem qz {N:Nat} {r1 r2 r3 r4 r5 r6 r7 r9 r10 r11 r12:Int} {r8:Bool} {r0:ByteArray} {r13:Rows} {s0 s1 s2 s3 s4 s5 s6 s7 s8 s9 s10 s11 s12 s13 s15 s21 s22 s23 s25 s26 s27:Int} {s18 s20:Bool} {s14 s16 s17 s19 s24:Rows} {b:Bool} (h:Fit s14 s16 s17 s19 s24) (hw:s16.length≤1048575) (hN:2097152<N) (hs:r0.size≤1048576):SY N [.str r0,.int r1,.int r2,.int r3,.int r4,.int r5,.int r6,.int r7,.bool r8,.int r9,.int r10,.int r11,.int r12,.rows r13,.int s0,.int s1,.int s2,.int s3,.int s4,.int s5,.int s6,.int s7,.int s8,.int s9,.int s10,.int s11,.int s12,.int s13,.rows s14,.int s15,.rows s16,.rows s17,.bool s18,.rows s19,.bool s20,.int s21,.int s22,.int s23,.rows s24,.int s25,.int s26,.int s27,.bool b]=some (ja (C6 (⟨r0,r1,r2,r3,r4,r5,r6,r7,r8,r9,r10,r11,r12,r13⟩:Rul) (⟨s0,s1,s2,s3,s4,s5,s6,s7,s8,s9,s10,s11,s12,s13,s14,s15,s16,s17,s18,s19,s20,s21,s22,s23,s24,s25,s26,s27⟩:Inn) b)):=by
 show SL (std (HN N) N) (xOf _)=_
 generalize hres:(some (ja (C6 (⟨r0,r1,r2,r3,r4,r5,r6,r7,r8,r9,r10,r11,r12,r13⟩:Rul) (⟨s0,s1,s2,s3,s4,s5,s6,s7,s8,s9,s10,s11,s12,s13,s14,s15,s16,s17,s18,s19,s20,s21,s22,s23,s24,s25,s26,s27⟩:Inn) b)):Option (List PV))=RR
 have ha:(s16++[[PV.int s15]]).length≤1048576:=by simp;omega
 simp only [SL,X7,Yo,XE,bc,std,xOf,PXb,PXc,PXn,PXm,Nat.reduceAdd,Int.reduceBEq,Bz h,T0,Il hN hs,ka hN h.bw',Jo ha (show 8≤4096 by omega)]
 subst hres;simp only [C6]
 cases hp:inR s15 s19.length with
 | false=>cases Bb (⟨r0,r1,r2,r3,r4,r5,r6,r7,r8,r9,r10,r11,r12,r13⟩:Rul)==0<;>rfl
 | true =>
  rw [DS hp h.bd]
  cases Bb (⟨r0,r1,r2,r3,r4,r5,r6,r7,r8,r9,r10,r11,r12,r13⟩:Rul)==0<;>try rfl
  cases HP s16 s16.length s15<;>cases b<;>simp only [PXb,PXc,PXn,PXm,Nat.reduceAdd,Int.reduceBEq,inc]
  all_goals first | (cases iLt s11 r4<;>rfl) | (cases iLt (IntKind.i64.wrap (s11+1)) r4<;>rfl)
def H0 (r:Rul) (s:Inn):Inn×Int :=
 cond (!(Bb r==0)||r.newball==0||iLt s.ballage (IntKind.i64.wrap (r.newball * r.balls))) (s,22) ({ s with ballage:=0 },0)
theorem iW {N:Nat} {r1 r2 r3 r4 r5 r6 r7 r9 r10 r11 r12:Int} {r8:Bool} {r0:ByteArray} {r13:Rows} {s0 s1 s2 s3 s4 s5 s6 s7 s8 s9 s10 s11 s12 s13 s15 s21 s22 s23 s25 s26 s27:Int} {s18 s20:Bool} {s14 s16 s17 s19 s24:Rows} (h:Fit s14 s16 s17 s19 s24) (hN:2097152<N) (hs:r0.size≤1048576):Fu N [.str r0,.int r1,.int r2,.int r3,.int r4,.int r5,.int r6,.int r7,.bool r8,.int r9,.int r10,.int r11,.int r12,.rows r13,.int s0,.int s1,.int s2,.int s3,.int s4,.int s5,.int s6,.int s7,.int s8,.int s9,.int s10,.int s11,.int s12,.int s13,.rows s14,.int s15,.rows s16,.rows s17,.bool s18,.rows s19,.bool s20,.int s21,.int s22,.int s23,.rows s24,.int s25,.int s26,.int s27]=some (AY (H0 (⟨r0,r1,r2,r3,r4,r5,r6,r7,r8,r9,r10,r11,r12,r13⟩:Rul) (⟨s0,s1,s2,s3,s4,s5,s6,s7,s8,s9,s10,s11,s12,s13,s14,s15,s16,s17,s18,s19,s20,s21,s22,s23,s24,s25,s26,s27⟩:Inn))):=by
 show JN (std (GY N) N) (xOf _)=_
 generalize hres:(some (AY (H0 (⟨r0,r1,r2,r3,r4,r5,r6,r7,r8,r9,r10,r11,r12,r13⟩:Rul) (⟨s0,s1,s2,s3,s4,s5,s6,s7,s8,s9,s10,s11,s12,s13,s14,s15,s16,s17,s18,s19,s20,s21,s22,s23,s24,s25,s26,s27⟩:Inn))):Option (List PV))=RR
 simp only [JN,Qn,Sn,std,xOf,PXb,PXc,PXn,PXm,Nat.reduceAdd,Int.reduceBEq,V7 h,ED hN hs]
 subst hres;simp only [H0]
 cases (!(Bb (⟨r0,r1,r2,r3,r4,r5,r6,r7,r8,r9,r10,r11,r12,r13⟩:Rul)==0)||r9==0||iLt s21 (IntKind.i64.wrap (r9 * r4)))<;>rfl
theorem lG {N:Nat} {r1 r2 r3 r4 r5 r6 r7 r9 r10 r11 r12:Int} {r8:Bool} {r0:ByteArray} {r13:Rows} {s0 s1 s2 s3 s4 s5 s6 s7 s8 s9 s10 s11 s12 s13 s15 s21 s22 s23 s25 s26 s27:Int} {s18 s20:Bool} {s14 s16 s17 s19 s24:Rows} (h:Fit s14 s16 s17 s19 s24) (hN:2097152<N) (hs:r0.size≤1048576):L0 N [.str r0,.int r1,.int r2,.int r3,.int r4,.int r5,.int r6,.int r7,.bool r8,.int r9,.int r10,.int r11,.int r12,.rows r13,.int s0,.int s1,.int s2,.int s3,.int s4,.int s5,.int s6,.int s7,.int s8,.int s9,.int s10,.int s11,.int s12,.int s13,.rows s14,.int s15,.rows s16,.rows s17,.bool s18,.rows s19,.bool s20,.int s21,.int s22,.int s23,.rows s24,.int s25,.int s26,.int s27]=some (AY (H0 (⟨r0,r1,r2,r3,r4,r5,r6,r7,r8,r9,r10,r11,r12,r13⟩:Rul) (⟨s0,s1,s2,s3,s4,s5,s6,s7,s8,s9,s10,s11,s12,s13,s14,s15,s16,s17,s18,s19,s20,s21,s22,s23,s24,s25,s26,s27⟩:Inn))):=by
 show MI (std (JR N) N) (xOf _)=_
 generalize hres:(some (AY (H0 (⟨r0,r1,r2,r3,r4,r5,r6,r7,r8,r9,r10,r11,r12,r13⟩:Rul) (⟨s0,s1,s2,s3,s4,s5,s6,s7,s8,s9,s10,s11,s12,s13,s14,s15,s16,s17,s18,s19,s20,s21,s22,s23,s24,s25,s26,s27⟩:Inn))):Option (List PV))=RR
 simp only [MI,UN,US,std,xOf,PXb,PXc,PXn,PXm,Nat.reduceAdd,Int.reduceBEq,Bz h,Il hN hs]
 subst hres;simp only [H0]
 cases (!(Bb (⟨r0,r1,r2,r3,r4,r5,r6,r7,r8,r9,r10,r11,r12,r13⟩:Rul)==0)||r9==0||iLt s21 (IntKind.i64.wrap (r9 * r4)))<;>rfl
end Go.Px
end
