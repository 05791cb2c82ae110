/- Part 10. -/
import Derived.Test.YtdpnocjfbplgjaaGreatPart07
import Derived.Test.YtdpnocjfbplgjaaGreatPart09
set_option linter.unusedVariables false
set_option linter.unusedSimpArgs false
section
namespace Go.Px
set_option maxRecDepth 100000
theorem Hg {N:Nat} {s0 s1 s2 s3 s4 s5 s6 s7 s8 s9 s10 s11 s12 s13 s15 s21 s22 s23 s25 s26 s27:Int} {s18 s20:Bool} {s14 s16 s17 s19 s24:Rows} (h:Fit s14 s16 s17 s19 s24):A3 N [.int s0,.int s1,.int s2,.int s3,.int s4,.int s5,.int s6,.int s7,.int s8,.int s9,.int s10,.int s11,.int s12,.int s13,.rows s14,.int s15,.rows s16,.rows s17,.bool s18,.rows s19,.bool s20,.int s21,.int s22,.int s23,.rows s24,.int s25,.int s26,.int s27]=some [.int s0,.int s1,.int s2,.int s3,.int s4,.int s5,.int s6,.int s7,.int s8,.int s9,.int s10,.int s11,.int s12,.int s13,.rows s14,.int s15,.rows s16,.rows s17,.bool s18,.rows s19,.bool s20,.int s21,.int s22,.int s23,.rows s24,.int s25,.int s26,.int s27]:=by
 show Oy (std (HG N) N) (xOf _)=_
 simp only [Oy,NA,Pk,OS,std,xOf,PXb,PXc,PXn,PXm,Nat.reduceAdd,Int.reduceBEq,AU,Al,Ah,Bi h.bt (show 1≤4096 by omega),Bi h.bw' (show 8≤4096 by omega),Bi h.bf (show 8≤4096 by omega),Bi h.bd (show 8≤4096 by omega),Bi h.sb (show 1≤4096 by omega)]
theorem CE {N:Nat} {s0 s1 s2 s3 s4 s5 s6 s7 s8 s9 s10 s11 s12 s13 s15 s21 s22 s23 s25 s26 s27:Int} {s18 s20:Bool} {s14 s16 s17 s19 s24:Rows} (h:Fit s14 s16 s17 s19 s24):AO N [.int s0,.int s1,.int s2,.int s3,.int s4,.int s5,.int s6,.int s7,.int s8,.int s9,.int s10,.int s11,.int s12,.int s13,.rows s14,.int s15,.rows s16,.rows s17,.bool s18,.rows s19,.bool s20,.int s21,.int s22,.int s23,.rows s24,.int s25,.int s26,.int s27]=some [.int s0,.int s1,.int s2,.int s3,.int s4,.int s5,.int s6,.int s7,.int s8,.int s9,.int s10,.int s11,.int s12,.int s13,.rows s14,.int s15,.rows s16,.rows s17,.bool s18,.rows s19,.bool s20,.int s21,.int s22,.int s23,.rows s24,.int s25,.int s26,.int s27]:=by
 show RE (std (bn N) N) (xOf _)=_
 simp only [RE,std,xOf,PXb,PXc,PXn,PXm,Nat.reduceAdd,Int.reduceBEq,J9 h.bt (show 1≤4096 by omega),J9 h.bw' (show 8≤4096 by omega),J9 h.bf (show 8≤4096 by omega),J9 h.bd (show 8≤4096 by omega),J9 h.sb (show 1≤4096 by omega)]
theorem Hw {N:Nat} {s0 s1 s2 s3 s4 s5 s6 s7 s8 s9 s10 s11 s12 s13 s15 s21 s22 s23 s25 s26 s27:Int} {s18 s20:Bool} {s14 s16 s17 s19 s24:Rows} {p:Int}  : A4 N [.int s0,.int s1,.int s2,.int s3,.int s4,.int s5,.int s6,.int s7,.int s8,.int s9,.int s10,.int s11,.int s12,.int s13,.rows s14,.int s15,.rows s16,.rows s17,.bool s18,.rows s19,.bool s20,.int s21,.int s22,.int s23,.rows s24,.int s25,.int s26,.int s27,.int p]=some [.bool (inR p s14.length)]:=by
 show LA (std (Ua N) N) (xOf _)=_
 simp only [LA,std,xOf,PXb,PXc,PXn,PXm,Nat.reduceAdd,Int.reduceBEq]
 rfl
theorem PP {N:Nat} {s0 s1 s2 s3 s4 s5 s6 s7 s8 s9 s10 s11 s12 s13 s15 s21 s22 s23 s25 s26 s27:Int} {s18 s20:Bool} {s14 s16 s17 s19 s24:Rows} {p:Int}  : Bf N [.int s0,.int s1,.int s2,.int s3,.int s4,.int s5,.int s6,.int s7,.int s8,.int s9,.int s10,.int s11,.int s12,.int s13,.rows s14,.int s15,.rows s16,.rows s17,.bool s18,.rows s19,.bool s20,.int s21,.int s22,.int s23,.rows s24,.int s25,.int s26,.int s27,.int p]=some [.bool (inR p s14.length)]:=by
 show PE (std (YJ N) N) (xOf _)=_
 simp only [PE,std,xOf,PXb,PXc,PXn,PXm,Nat.reduceAdd,Int.reduceBEq]
 rfl
def Ab (s:Inn) (d:Del):Inn :=
  let odd := !(d.runs.tmod 2==0) != d.crossed
  let t:Inn:=cond odd { s with striker:=s.other,other:=s.striker } s
  let k:Bool:=d.how==0
  cond (!k&&(d.victim==1 && !(s.striker==0)))
    { t with striker:=cond odd t.striker 0,other:=cond odd 0 t.other,batters:=cond (inR s.striker s.batters.length) (KH s.batters s.striker 2) s.batters,wickets:=IntKind.i64.wrap (s.wickets+1) }
    (cond (!k&&(d.victim==2 && !(s.other==0)))
      { t with striker:=cond odd 0 t.striker,other:=cond odd t.other 0,batters:=cond (inR s.other s.batters.length) (KH s.batters s.other 2) s.batters,wickets:=IntKind.i64.wrap (s.wickets+1) }
      t)
theorem qd {N:Nat} {s0 s1 s2 s3 s4 s5 s6 s7 s8 s9 s10 s11 s12 s13 s15 s21 s22 s23 s25 s26 s27:Int} {s18 s20:Bool} {s14 s16 s17 s19 s24:Rows} {d0 d1 d2 d3 d4 d6 d7 d8 d9 d11:Int} {d5 d10:Bool} (h:Fit s14 s16 s17 s19 s24):J0 N [.int s0,.int s1,.int s2,.int s3,.int s4,.int s5,.int s6,.int s7,.int s8,.int s9,.int s10,.int s11,.int s12,.int s13,.rows s14,.int s15,.rows s16,.rows s17,.bool s18,.rows s19,.bool s20,.int s21,.int s22,.int s23,.rows s24,.int s25,.int s26,.int s27,.int d0,.int d1,.int d2,.int d3,.int d4,.bool d5,.int d6,.int d7,.int d8,.int d9,.bool d10,.int d11]=some (Ab (⟨s0,s1,s2,s3,s4,s5,s6,s7,s8,s9,s10,s11,s12,s13,s14,s15,s16,s17,s18,s19,s20,s21,s22,s23,s24,s25,s26,s27⟩:Inn) (⟨d0,d1,d2,d3,d4,d5,d6,d7,d8,d9,d10,d11⟩:Del)).ls:=by
 show OW (std (LE N) N) (xOf _)=_
 simp only [OW,Vm,Tl,std,xOf,PXb,PXc,PXn,PXm,Nat.reduceAdd,Int.reduceBEq,Hg h,Hw,wO h.bt]
 unfold Ab
 cases d5<;>cases d2.tmod 2==0<;>cases d6==0<;>cases d7==1<;>cases d7==2<;>cases s12==0<;>cases s13==0<;>rfl
def Fw (s:Inn):Inn:={ s with striker:=s.other,other:=s.striker }
theorem kL {N:Nat} {s0 s1 s2 s3 s4 s5 s6 s7 s8 s9 s10 s11 s12 s13 s15 s21 s22 s23 s25 s26 s27:Int} {s18 s20:Bool} {s14 s16 s17 s19 s24:Rows} (h:Fit s14 s16 s17 s19 s24):GK N [.int s0,.int s1,.int s2,.int s3,.int s4,.int s5,.int s6,.int s7,.int s8,.int s9,.int s10,.int s11,.int s12,.int s13,.rows s14,.int s15,.rows s16,.rows s17,.bool s18,.rows s19,.bool s20,.int s21,.int s22,.int s23,.rows s24,.int s25,.int s26,.int s27]=some (Fw (⟨s0,s1,s2,s3,s4,s5,s6,s7,s8,s9,s10,s11,s12,s13,s14,s15,s16,s17,s18,s19,s20,s21,s22,s23,s24,s25,s26,s27⟩:Inn)).ls:=by
 show Ju (std (Lb N) N) (xOf _)=_
 simp only [Ju,SP,std,xOf,PXb,PXc,PXn,PXm,Nat.reduceAdd,Int.reduceBEq,Hg h]
 rfl
theorem ck {N:Nat} {s0 s1 s2 s3 s4 s5 s6 s7 s8 s9 s10 s11 s12 s13 s15 s21 s22 s23 s25 s26 s27:Int} {s18 s20:Bool} {s14 s16 s17 s19 s24:Rows} (h:Fit s14 s16 s17 s19 s24):FG N [.int s0,.int s1,.int s2,.int s3,.int s4,.int s5,.int s6,.int s7,.int s8,.int s9,.int s10,.int s11,.int s12,.int s13,.rows s14,.int s15,.rows s16,.rows s17,.bool s18,.rows s19,.bool s20,.int s21,.int s22,.int s23,.rows s24,.int s25,.int s26,.int s27]=some (Fw (⟨s0,s1,s2,s3,s4,s5,s6,s7,s8,s9,s10,s11,s12,s13,s14,s15,s16,s17,s18,s19,s20,s21,s22,s23,s24,s25,s26,s27⟩:Inn)).ls:=by
 show OJ (std (QF N) N) (xOf _)=_
 simp only [OJ,XD,std,xOf,PXb,PXc,PXn,PXm,Nat.reduceAdd,Int.reduceBEq,CE h]
 rfl
theorem yH {N:Nat} {s0 s1 s2 s3 s4 s5 s6 s7 s8 s9 s10 s11 s12 s13 s15 s21 s22 s23 s25 s26 s27:Int} {s18 s20:Bool} {s14 s16 s17 s19 s24:Rows} {d0 d1 d2 d3 d4 d6 d7 d8 d9 d11:Int} {d5 d10:Bool} (h:Fit s14 s16 s17 s19 s24):WL N [.int s0,.int s1,.int s2,.int s3,.int s4,.int s5,.int s6,.int s7,.int s8,.int s9,.int s10,.int s11,.int s12,.int s13,.rows s14,.int s15,.rows s16,.rows s17,.bool s18,.rows s19,.bool s20,.int s21,.int s22,.int s23,.rows s24,.int s25,.int s26,.int s27,.int d0,.int d1,.int d2,.int d3,.int d4,.bool d5,.int d6,.int d7,.int d8,.int d9,.bool d10,.int d11]=some (Ab (⟨s0,s1,s2,s3,s4,s5,s6,s7,s8,s9,s10,s11,s12,s13,s14,s15,s16,s17,s18,s19,s20,s21,s22,s23,s24,s25,s26,s27⟩:Inn) (⟨d0,d1,d2,d3,d4,d5,d6,d7,d8,d9,d10,d11⟩:Del)).ls:=by
 show V7 (std (Lc N) N) (xOf _)=_
 simp only [V7,cH,Z6,Zh,std,xOf,PXb,PXc,PXn,PXm,Nat.reduceAdd,Int.reduceBEq,CE h,PP,wO h.bt,ck h,Fw,Ab]
 cases h71:d7==1
 ·cases d5<;>cases d2.tmod 2==0<;>cases d6==0<;>cases d7==2<;>cases s12==0<;>cases s13==0<;>rfl
 ·rw [mS h71]
  cases d5<;>cases d2.tmod 2==0<;>cases d6==0<;>cases s12==0<;>rfl
theorem jD {N:Nat} {v:Int}  : C8 N [.int v]=some [.bool (!(v==0))]:=by
 show ND (std (Rw N) N) (xOf _)=_
 rfl
theorem f8 {N:Nat} {v:Int}  : Eb N [.int v]=some [.bool (!(v==0))]:=by
 show LS (std (Pv N) N) (xOf _)=_
 rfl
theorem YG {N:Nat} {s0 s1 s2 s3 s4 s5 s6 s7 s8 s9 s10 s11 s12 s13 s15 s21 s22 s23 s25 s26 s27:Int} {s18 s20:Bool} {s14 s16 s17 s19 s24:Rows} (h:s14.length≤1048576) (hN:2097152<N):CC N [.int s0,.int s1,.int s2,.int s3,.int s4,.int s5,.int s6,.int s7,.int s8,.int s9,.int s10,.int s11,.int s12,.int s13,.rows s14,.int s15,.rows s16,.rows s17,.bool s18,.rows s19,.bool s20,.int s21,.int s22,.int s23,.rows s24,.int s25,.int s26,.int s27]=some [.bool (Bp s14)]:=by
 show E7 (std (E9 N) N) (xOf _)=_
 simp only [E7,Gu,std,xOf,PXb,PXc,PXn,AB]
 rw [show Bp s14=iLe 0 (SO (fun i => !(atI s14 i 0==0)) s14.length) from (Ko _ _).symm]
 rw [Option.bind_assoc]
 refine AL (Cs (len:=s14.length) (Gj fun i => !(atI s14 i 0==0)) ?_ ?_ s14.length 0 N (by omega) (by omega)) ?_
 ·intro self
  simp only [PXb,PXc,PXn,AB,Au]
 ·intro i self hi
  simp only [PXb,PXc,PXn,AB,AX (show i≤1099511627776 by omega),Ao hi,AP hi,Gj,A6,Gu,jD]
  cases atI s14 i 0==0<;>rfl
 ·unfold SO
  cases CL (Gj fun i => !(atI s14 i 0==0)) s14.length 0<;>rfl
theorem kK {N:Nat} {s0 s1 s2 s3 s4 s5 s6 s7 s8 s9 s10 s11 s12 s13 s15 s21 s22 s23 s25 s26 s27:Int} {s18 s20:Bool} {s14 s16 s17 s19 s24:Rows} (h:s14.length≤1048576) (hN:2097152<N):F8 N [.int s0,.int s1,.int s2,.int s3,.int s4,.int s5,.int s6,.int s7,.int s8,.int s9,.int s10,.int s11,.int s12,.int s13,.rows s14,.int s15,.rows s16,.rows s17,.bool s18,.rows s19,.bool s20,.int s21,.int s22,.int s23,.rows s24,.int s25,.int s26,.int s27]=some [.bool (Bp s14)]:=by
 show JZ (std (LZ N) N) (xOf _)=_
 simp only [JZ,Fk,std,xOf,PXb,PXc,PXn,AB]
 rw [show Bp s14=iLe 0 (SO (fun i => !(atI s14 i 0==0)) s14.length) from (Ko _ _).symm]
 rw [Option.bind_assoc]
 refine AL (Cs (len:=s14.length) (Gj fun i => !(atI s14 i 0==0)) ?_ ?_ s14.length 0 N (by omega) (by omega)) ?_
 ·intro self
  simp only [PXb,PXc,PXn,AB,Au]
 ·intro i self hi
  simp only [PXb,PXc,PXn,AB,AX (show i≤1099511627776 by omega),Ao hi,AP hi,Gj,A6,Fk,f8]
  cases atI s14 i 0==0<;>rfl
 ·unfold SO
  cases CL (Gj fun i => !(atI s14 i 0==0)) s14.length 0<;>rfl
theorem Wx {N:Nat} {s0 s1 s2 s3 s4 s5 s6 s7 s8 s9 s10 s11 s12 s13 s15 s21 s22 s23 s25 s26 s27:Int} {s18 s20:Bool} {s14 s16 s17 s19 s24:Rows} (h:s14.length≤1048576) (hN:2097152<N):Bh N [.int s0,.int s1,.int s2,.int s3,.int s4,.int s5,.int s6,.int s7,.int s8,.int s9,.int s10,.int s11,.int s12,.int s13,.rows s14,.int s15,.rows s16,.rows s17,.bool s18,.rows s19,.bool s20,.int s21,.int s22,.int s23,.rows s24,.int s25,.int s26,.int s27]=some [.bool (Bp s14)]:=by
 show JF (std (Sd N) N) (xOf _)=_
 simp only [JF,std,xOf,PXb,PXc,PXn,AB]
 refine AL (CU (len:=s14.length) (fun i => !(atI s14 i 0==0)) [.bool true] ?_ ?_ N (by omega)) ?_
 ·intro self
  simp only [PXb,PXc,PXn,AB,Au]
 ·intro i self hi
  simp only [PXb,PXc,PXn,AB,AX (show i≤1099511627776 by omega),Ao hi,AP hi,A6]
 ·unfold Bp
  cases Aw (fun i => !(atI s14 i 0==0)) s14.length 0<;>rfl
theorem Wa {N:Nat} {s0 s1 s2 s3 s4 s5 s6 s7 s8 s9 s10 s11 s12 s13 s15 s21 s22 s23 s25 s26 s27:Int} {s18 s20:Bool} {s14 s16 s17 s19 s24:Rows} (h:s14.length≤1048576) (hN:2097152<N):BN N [.int s0,.int s1,.int s2,.int s3,.int s4,.int s5,.int s6,.int s7,.int s8,.int s9,.int s10,.int s11,.int s12,.int s13,.rows s14,.int s15,.rows s16,.rows s17,.bool s18,.rows s19,.bool s20,.int s21,.int s22,.int s23,.rows s24,.int s25,.int s26,.int s27]=some [.bool (DL s14 s12 s13)]:=by
 show EF (std (Ei N) N) (xOf _)=_
 simp only [EF,QZ,std,xOf,PXb,PXc,PXn,PXm,Nat.reduceAdd,Int.reduceBEq,YG h hN]
 rfl
theorem dQ {N:Nat} {s0 s1 s2 s3 s4 s5 s6 s7 s8 s9 s10 s11 s12 s13 s15 s21 s22 s23 s25 s26 s27:Int} {s18 s20:Bool} {s14 s16 s17 s19 s24:Rows} (h:s14.length≤1048576) (hN:2097152<N):CZ N [.int s0,.int s1,.int s2,.int s3,.int s4,.int s5,.int s6,.int s7,.int s8,.int s9,.int s10,.int s11,.int s12,.int s13,.rows s14,.int s15,.rows s16,.rows s17,.bool s18,.rows s19,.bool s20,.int s21,.int s22,.int s23,.rows s24,.int s25,.int s26,.int s27]=some [.bool (DL s14 s12 s13)]:=by
 show HW (std (Hm N) N) (xOf _)=_
 simp only [HW,Ws,std,xOf,PXb,PXc,PXn,PXm,Nat.reduceAdd,Int.reduceBEq,Wx h hN]
 rfl
theorem o4 {N:Nat} {s0 s1 s2 s3 s4 s5 s6 s7 s8 s9 s10 s11 s12 s13 s15 s21 s22 s23 s25 s26 s27:Int} {s18 s20:Bool} {s14 s16 s17 s19 s24:Rows} (h:s14.length≤1048576) (hN:2097152<N):C4 N [.int s0,.int s1,.int s2,.int s3,.int s4,.int s5,.int s6,.int s7,.int s8,.int s9,.int s10,.int s11,.int s12,.int s13,.rows s14,.int s15,.rows s16,.rows s17,.bool s18,.rows s19,.bool s20,.int s21,.int s22,.int s23,.rows s24,.int s25,.int s26,.int s27]=some [.rows (B2 s14 s14.length)]:=by
 show F5 (std (Oe N) N) (xOf _)=_
 simp only [F5,std,xOf,PXb,PXc,PXn,AB]
 refine AL (Ce (len:=s14.length) (fun i=>[.rows (B2 s14 i),.int (i:Int)]) [.rows (B2 s14 s14.length)] ?_ ?_ N (by omega)) rfl
 ·intro self
  simp only [PXb,PXc,PXn,AB,Au]
 ·intro i self hi
  have h2:(B2 s14 i++[[PV.int ((i:Int)+1)]]).length≤4194304:=by have:=UA s14 i;simp;omega
  simp only [PXb,PXc,PXn,AB,AX (show i≤1099511627776 by omega),Ao hi,AP hi,A6,B2,DF h2 (show 8≤4096 by omega)]
  cases (atI s14 i 0==0||atI s14 i 0==3)<;>rfl
theorem wM {N:Nat} {s0 s1 s2 s3 s4 s5 s6 s7 s8 s9 s10 s11 s12 s13 s15 s21 s22 s23 s25 s26 s27:Int} {s18 s20:Bool} {s14 s16 s17 s19 s24:Rows} (h:s14.length≤1048576) (hN:2097152<N):El N [.int s0,.int s1,.int s2,.int s3,.int s4,.int s5,.int s6,.int s7,.int s8,.int s9,.int s10,.int s11,.int s12,.int s13,.rows s14,.int s15,.rows s16,.rows s17,.bool s18,.rows s19,.bool s20,.int s21,.int s22,.int s23,.rows s24,.int s25,.int s26,.int s27]=some [.rows (B2 s14 s14.length)]:=by
 show LN (std (UH N) N) (xOf _)=_
 simp only [LN,std,xOf,PXb,PXc,PXn,AB]
 refine AL (Ce (len:=s14.length) (fun i=>[.rows (B2 s14 i),.int (i:Int)]) [.rows (B2 s14 s14.length)] ?_ ?_ N (by omega)) rfl
 ·intro self
  simp only [PXb,PXc,PXn,AB,Au]
 ·intro i self hi
  have h2:(B2 s14 i++[[PV.int ((i:Int)+1)]]).length≤4194304:=by have:=UA s14 i;simp;omega
  simp only [PXb,PXc,PXn,AB,AX (show i≤1099511627776 by omega),Ao hi,AP hi,A6,B2,DF h2 (show 8≤4096 by omega)]
  cases (atI s14 i 0==0||atI s14 i 0==3)<;>rfl
def RH (s:Inn) (p q:Int):Inn×Int :=
  cond (Bp s.batters) (s,1) (cond (!inR p s.batters.length || !inR q s.batters.length) (s,3) (cond (p==q) (s,4)
    ({ s with batters:=KH (KH s.batters p 1) q 1,striker:=p,other:=q },0)))
theorem pS {N:Nat} {s0 s1 s2 s3 s4 s5 s6 s7 s8 s9 s10 s11 s12 s13 s15 s21 s22 s23 s25 s26 s27:Int} {s18 s20:Bool} {s14 s16 s17 s19 s24:Rows} {p:Int} {q:Int} (h:Fit s14 s16 s17 s19 s24) (hN:2097152<N):It N [.int s0,.int s1,.int s2,.int s3,.int s4,.int s5,.int s6,.int s7,.int s8,.int s9,.int s10,.int s11,.int s12,.int s13,.rows s14,.int s15,.rows s16,.rows s17,.bool s18,.rows s19,.bool s20,.int s21,.int s22,.int s23,.rows s24,.int s25,.int s26,.int s27,.int p,.int q]=some (AZ (RH (⟨s0,s1,s2,s3,s4,s5,s6,s7,s8,s9,s10,s11,s12,s13,s14,s15,s16,s17,s18,s19,s20,s21,s22,s23,s24,s25,s26,s27⟩:Inn) p q)):=by
 show Mu (std (GH N) N) (xOf _)=_
 generalize hres:(some (AZ (RH (⟨s0,s1,s2,s3,s4,s5,s6,s7,s8,s9,s10,s11,s12,s13,s14,s15,s16,s17,s18,s19,s20,s21,s22,s23,s24,s25,s26,s27⟩:Inn) p q)):Option (List PV))=RR
 simp only [Mu,U9,SX,SW,std,xOf,PXb,PXc,PXn,PXm,Nat.reduceAdd,Int.reduceBEq,Hg h,YG h.bt hN,Hw]
 subst hres;simp only [RH]
 cases Bp s14<;>try rfl
 cases hp:inR p s14.length<;>cases hq:inR q s14.length<;>try rfl
 rw [Dd hp h.bt,Dd hq h.bt]
 cases p==q<;>rfl
theorem wK {N:Nat} {s0 s1 s2 s3 s4 s5 s6 s7 s8 s9 s10 s11 s12 s13 s15 s21 s22 s23 s25 s26 s27:Int} {s18 s20:Bool} {s14 s16 s17 s19 s24:Rows} {p:Int} {q:Int} (h:Fit s14 s16 s17 s19 s24) (hN:2097152<N):Td N [.int s0,.int s1,.int s2,.int s3,.int s4,.int s5,.int s6,.int s7,.int s8,.int s9,.int s10,.int s11,.int s12,.int s13,.rows s14,.int s15,.rows s16,.rows s17,.bool s18,.rows s19,.bool s20,.int s21,.int s22,.int s23,.rows s24,.int s25,.int s26,.int s27,.int p,.int q]=some (AZ (RH (⟨s0,s1,s2,s3,s4,s5,s6,s7,s8,s9,s10,s11,s12,s13,s14,s15,s16,s17,s18,s19,s20,s21,s22,s23,s24,s25,s26,s27⟩:Inn) p q)):=by
 show TY (std (KF N) N) (xOf _)=_
 generalize hres:(some (AZ (RH (⟨s0,s1,s2,s3,s4,s5,s6,s7,s8,s9,s10,s11,s12,s13,s14,s15,s16,s17,s18,s19,s20,s21,s22,s23,s24,s25,s26,s27⟩:Inn) p q)):Option (List PV))=RR
 simp only [TY,aG,Z7,Xp,std,xOf,PXb,PXc,PXn,PXm,Nat.reduceAdd,Int.reduceBEq,CE h,Wx h.bt hN,PP]
 subst hres;simp only [RH]
 cases Bp s14<;>try rfl
 cases hp:inR p s14.length<;>cases hq:inR q s14.length<;>try rfl
 rw [Dd hp h.bt,Dd hq h.bt]
 cases p==q<;>rfl
def JO (s:Inn) (p:Int):Int :=
 cond (!inR p s.batters.length) 3 (cond (!DL s.batters s.striker s.other||atI s.batters (ix p) 0==1) 4 (cond (atI s.batters (ix p) 0==2) 5 0))
theorem cn {N:Nat} {s0 s1 s2 s3 s4 s5 s6 s7 s8 s9 s10 s11 s12 s13 s15 s21 s22 s23 s25 s26 s27:Int} {s18 s20:Bool} {s14 s16 s17 s19 s24:Rows} {p:Int} (h:s14.length≤1048576) (hN:2097152<N):D1 N [.int s0,.int s1,.int s2,.int s3,.int s4,.int s5,.int s6,.int s7,.int s8,.int s9,.int s10,.int s11,.int s12,.int s13,.rows s14,.int s15,.rows s16,.rows s17,.bool s18,.rows s19,.bool s20,.int s21,.int s22,.int s23,.rows s24,.int s25,.int s26,.int s27,.int p]=some [.int (JO (⟨s0,s1,s2,s3,s4,s5,s6,s7,s8,s9,s10,s11,s12,s13,s14,s15,s16,s17,s18,s19,s20,s21,s22,s23,s24,s25,s26,s27⟩:Inn) p)]:=by
 show PF (std (Kt N) N) (xOf _)=_
 generalize hres:(some [.int (JO (⟨s0,s1,s2,s3,s4,s5,s6,s7,s8,s9,s10,s11,s12,s13,s14,s15,s16,s17,s18,s19,s20,s21,s22,s23,s24,s25,s26,s27⟩:Inn) p)]:Option (List PV))=RR
 simp only [PF,Sf,Te,std,xOf,PXb,PXc,PXn,PXm,Nat.reduceAdd,Int.reduceBEq,Hw,Wa h hN]
 subst hres;simp only [JO]
 cases hp:inR p s14.length<;>try rfl
 rw [Dd hp h]
 cases DL s14 s12 s13<;>try rfl
 simp only [PXb,PXc,PXn,PXm,Nat.reduceAdd,Int.reduceBEq,atI,ix]
theorem iK {N:Nat} {s0 s1 s2 s3 s4 s5 s6 s7 s8 s9 s10 s11 s12 s13 s15 s21 s22 s23 s25 s26 s27:Int} {s18 s20:Bool} {s14 s16 s17 s19 s24:Rows} {p:Int} (h:s14.length≤1048576) (hN:2097152<N):E2 N [.int s0,.int s1,.int s2,.int s3,.int s4,.int s5,.int s6,.int s7,.int s8,.int s9,.int s10,.int s11,.int s12,.int s13,.rows s14,.int s15,.rows s16,.rows s17,.bool s18,.rows s19,.bool s20,.int s21,.int s22,.int s23,.rows s24,.int s25,.int s26,.int s27,.int p]=some [.int (JO (⟨s0,s1,s2,s3,s4,s5,s6,s7,s8,s9,s10,s11,s12,s13,s14,s15,s16,s17,s18,s19,s20,s21,s22,s23,s24,s25,s26,s27⟩:Inn) p)]:=by
 show Qn (std (Mk N) N) (xOf _)=_
 generalize hres:(some [.int (JO (⟨s0,s1,s2,s3,s4,s5,s6,s7,s8,s9,s10,s11,s12,s13,s14,s15,s16,s17,s18,s19,s20,s21,s22,s23,s24,s25,s26,s27⟩:Inn) p)]:Option (List PV))=RR
 simp only [Qn,XE,XJ,std,xOf,PXb,PXc,PXn,PXm,Nat.reduceAdd,Int.reduceBEq,PP,dQ h hN]
 subst hres;simp only [JO]
 cases hp:inR p s14.length<;>try rfl
 rw [Dd hp h]
 cases DL s14 s12 s13<;>try rfl
 simp only [PXb,PXc,PXn,PXm,Nat.reduceAdd,Int.reduceBEq,atI,ix]
theorem WA {s:Inn} {p:Int} (h:(JO s p==0)=true):inR p s.batters.length=true:=by
 unfold JO at h
 cases hp:inR p s.batters.length with
 | true=>rfl
 | false=>rw [hp] at h;cases h
def KR (s:Inn) (p:Int):Inn×Int :=
 cond (JO s p==0) ({ s with batters:=KH s.batters p 1,striker:=cond (s.striker==0) p s.striker,other:=cond (s.striker==0) s.other p },0) (s,JO s p)
def ER (s:Inn) (p:Int):Inn×Int :=
 cond (JO s p==0) ({ s with batters:=KH s.batters p 2,wickets:=IntKind.i64.wrap (s.wickets+1) },0) (s,JO s p)
theorem nJ {N:Nat} {s0 s1 s2 s3 s4 s5 s6 s7 s8 s9 s10 s11 s12 s13 s15 s21 s22 s23 s25 s26 s27:Int} {s18 s20:Bool} {s14 s16 s17 s19 s24:Rows} {p:Int} (h:Fit s14 s16 s17 s19 s24) (hN:2097152<N):Hx N [.int s0,.int s1,.int s2,.int s3,.int s4,.int s5,.int s6,.int s7,.int s8,.int s9,.int s10,.int s11,.int s12,.int s13,.rows s14,.int s15,.rows s16,.rows s17,.bool s18,.rows s19,.bool s20,.int s21,.int s22,.int s23,.rows s24,.int s25,.int s26,.int s27,.int p]=some (AZ (KR (⟨s0,s1,s2,s3,s4,s5,s6,s7,s8,s9,s10,s11,s12,s13,s14,s15,s16,s17,s18,s19,s20,s21,s22,s23,s24,s25,s26,s27⟩:Inn) p)):=by
 show LL (std (Ib N) N) (xOf _)=_
 generalize hres:(some (AZ (KR (⟨s0,s1,s2,s3,s4,s5,s6,s7,s8,s9,s10,s11,s12,s13,s14,s15,s16,s17,s18,s19,s20,s21,s22,s23,s24,s25,s26,s27⟩:Inn) p)):Option (List PV))=RR
 simp only [LL,Tr,TW,std,xOf,PXb,PXc,PXn,PXm,Nat.reduceAdd,Int.reduceBEq,Hg h,cn h.bt hN]
 subst hres;simp only [KR]
 cases hm:JO (⟨s0,s1,s2,s3,s4,s5,s6,s7,s8,s9,s10,s11,s12,s13,s14,s15,s16,s17,s18,s19,s20,s21,s22,s23,s24,s25,s26,s27⟩:Inn) p==0<;>try rfl
 rw [Dd (WA hm) h.bt]
 cases s12==0<;>rfl
theorem uc {N:Nat} {s0 s1 s2 s3 s4 s5 s6 s7 s8 s9 s10 s11 s12 s13 s15 s21 s22 s23 s25 s26 s27:Int} {s18 s20:Bool} {s14 s16 s17 s19 s24:Rows} {p:Int} (h:Fit s14 s16 s17 s19 s24) (hN:2097152<N):RA N [.int s0,.int s1,.int s2,.int s3,.int s4,.int s5,.int s6,.int s7,.int s8,.int s9,.int s10,.int s11,.int s12,.int s13,.rows s14,.int s15,.rows s16,.rows s17,.bool s18,.rows s19,.bool s20,.int s21,.int s22,.int s23,.rows s24,.int s25,.int s26,.int s27,.int p]=some (AZ (KR (⟨s0,s1,s2,s3,s4,s5,s6,s7,s8,s9,s10,s11,s12,s13,s14,s15,s16,s17,s18,s19,s20,s21,s22,s23,s24,s25,s26,s27⟩:Inn) p)):=by
 show Qz (std (Mt N) N) (xOf _)=_
 generalize hres:(some (AZ (KR (⟨s0,s1,s2,s3,s4,s5,s6,s7,s8,s9,s10,s11,s12,s13,s14,s15,s16,s17,s18,s19,s20,s21,s22,s23,s24,s25,s26,s27⟩:Inn) p)):Option (List PV))=RR
 simp only [Qz,YL,Yb,std,xOf,PXb,PXc,PXn,PXm,Nat.reduceAdd,Int.reduceBEq,CE h,iK h.bt hN]
 subst hres;simp only [KR]
 cases hm:JO (⟨s0,s1,s2,s3,s4,s5,s6,s7,s8,s9,s10,s11,s12,s13,s14,s15,s16,s17,s18,s19,s20,s21,s22,s23,s24,s25,s26,s27⟩:Inn) p==0<;>try rfl
 rw [Dd (WA hm) h.bt]
 cases s12==0<;>rfl
theorem jG {N:Nat} {s0 s1 s2 s3 s4 s5 s6 s7 s8 s9 s10 s11 s12 s13 s15 s21 s22 s23 s25 s26 s27:Int} {s18 s20:Bool} {s14 s16 s17 s19 s24:Rows} {p:Int} (h:Fit s14 s16 s17 s19 s24) (hN:2097152<N):FC N [.int s0,.int s1,.int s2,.int s3,.int s4,.int s5,.int s6,.int s7,.int s8,.int s9,.int s10,.int s11,.int s12,.int s13,.rows s14,.int s15,.rows s16,.rows s17,.bool s18,.rows s19,.bool s20,.int s21,.int s22,.int s23,.rows s24,.int s25,.int s26,.int s27,.int p]=some (AZ (ER (⟨s0,s1,s2,s3,s4,s5,s6,s7,s8,s9,s10,s11,s12,s13,s14,s15,s16,s17,s18,s19,s20,s21,s22,s23,s24,s25,s26,s27⟩:Inn) p)):=by
 show IQ (std (Dy N) N) (xOf _)=_
 generalize hres:(some (AZ (ER (⟨s0,s1,s2,s3,s4,s5,s6,s7,s8,s9,s10,s11,s12,s13,s14,s15,s16,s17,s18,s19,s20,s21,s22,s23,s24,s25,s26,s27⟩:Inn) p)):Option (List PV))=RR
 simp only [IQ,RV,Pm,R4,std,xOf,PXb,PXc,PXn,PXm,Nat.reduceAdd,Int.reduceBEq,Hg h,cn h.bt hN,Hw]
 subst hres;simp only [ER]
 cases hm:JO (⟨s0,s1,s2,s3,s4,s5,s6,s7,s8,s9,s10,s11,s12,s13,s14,s15,s16,s17,s18,s19,s20,s21,s22,s23,s24,s25,s26,s27⟩:Inn) p==0<;>try rfl
 have hk:inR p s14.length=true:=WA hm
 rw [Dd hk h.bt,hk]
 rfl
theorem pE {N:Nat} {s0 s1 s2 s3 s4 s5 s6 s7 s8 s9 s10 s11 s12 s13 s15 s21 s22 s23 s25 s26 s27:Int} {s18 s20:Bool} {s14 s16 s17 s19 s24:Rows} {p:Int} (h:Fit s14 s16 s17 s19 s24) (hN:2097152<N):MW N [.int s0,.int s1,.int s2,.int s3,.int s4,.int s5,.int s6,.int s7,.int s8,.int s9,.int s10,.int s11,.int s12,.int s13,.rows s14,.int s15,.rows s16,.rows s17,.bool s18,.rows s19,.bool s20,.int s21,.int s22,.int s23,.rows s24,.int s25,.int s26,.int s27,.int p]=some (AZ (ER (⟨s0,s1,s2,s3,s4,s5,s6,s7,s8,s9,s10,s11,s12,s13,s14,s15,s16,s17,s18,s19,s20,s21,s22,s23,s24,s25,s26,s27⟩:Inn) p)):=by
 show Mi (std (Jo N) N) (xOf _)=_
 generalize hres:(some (AZ (ER (⟨s0,s1,s2,s3,s4,s5,s6,s7,s8,s9,s10,s11,s12,s13,s14,s15,s16,s17,s18,s19,s20,s21,s22,s23,s24,s25,s26,s27⟩:Inn) p)):Option (List PV))=RR
 simp only [Mi,VX,VW,std,xOf,PXb,PXc,PXn,PXm,Nat.reduceAdd,Int.reduceBEq,CE h,iK h.bt hN]
 subst hres;simp only [ER]
 cases hm:JO (⟨s0,s1,s2,s3,s4,s5,s6,s7,s8,s9,s10,s11,s12,s13,s14,s15,s16,s17,s18,s19,s20,s21,s22,s23,s24,s25,s26,s27⟩:Inn) p==0<;>try rfl
 rw [Dd (WA hm) h.bt]
 rfl
def Fy (s:Inn) (p:Int) (hurt:Bool):Inn×Int :=
  cond (!inR p s.batters.length) (s,3) (cond (s.striker==0||s.other==0) (s,6) (cond (!(p==s.striker) && !(p==s.other)) (s,4)
    (cond (hurt&&((B2 s.batters s.batters.length).length:Int)==0) (s,19)
      ({ s with striker:=cond (p==s.striker) 0 s.striker,other:=cond (p==s.striker) s.other 0,batters:=KH s.batters p (cond hurt 3 2),wickets:=cond hurt s.wickets (IntKind.i64.wrap (s.wickets+1)) },0))))
theorem kG {N:Nat} {s0 s1 s2 s3 s4 s5 s6 s7 s8 s9 s10 s11 s12 s13 s15 s21 s22 s23 s25 s26 s27:Int} {s18 s20:Bool} {s14 s16 s17 s19 s24:Rows} {p:Int} {b:Bool} (h:Fit s14 s16 s17 s19 s24) (hN:2097152<N):GB N [.int s0,.int s1,.int s2,.int s3,.int s4,.int s5,.int s6,.int s7,.int s8,.int s9,.int s10,.int s11,.int s12,.int s13,.rows s14,.int s15,.rows s16,.rows s17,.bool s18,.rows s19,.bool s20,.int s21,.int s22,.int s23,.rows s24,.int s25,.int s26,.int s27,.int p,.bool b]=some (AZ (Fy (⟨s0,s1,s2,s3,s4,s5,s6,s7,s8,s9,s10,s11,s12,s13,s14,s15,s16,s17,s18,s19,s20,s21,s22,s23,s24,s25,s26,s27⟩:Inn) p b)):=by
 show Jc (std (EZ N) N) (xOf _)=_
 generalize hres:(some (AZ (Fy (⟨s0,s1,s2,s3,s4,s5,s6,s7,s8,s9,s10,s11,s12,s13,s14,s15,s16,s17,s18,s19,s20,s21,s22,s23,s24,s25,s26,s27⟩:Inn) p b)):Option (List PV))=RR
 simp only [Jc,Ri,SM,QU,std,xOf,PXb,PXc,PXn,PXm,Nat.reduceAdd,Int.reduceBEq,Hg h,Hw,o4 h.bt hN]
 subst hres;simp only [Fy]
 cases hp:inR p s14.length<;>try rfl
 rw [Dd hp h.bt]
 cases s12==0<;>cases s13==0<;>try rfl
 cases p==s12<;>cases p==s13<;>cases b<;>try rfl
 all_goals (simp only [PXb,PXc,PXn,PXm,Nat.reduceAdd,Int.reduceBEq];cases ((B2 s14 s14.length).length:Int)==0<;>rfl)
theorem ya (L:Rows) (p a b:Int):KH (KH L p a) p b=KH L p b:=by
 unfold KH
 rw [List.set_set]
 rcases Nat.lt_or_ge (ix p) L.length with h | h
 ·have:Ad (L.set (ix p) (Bw (Ad L (ix p)) 0 [.int a])) (ix p)=Bw (Ad L (ix p)) 0 [.int a]:=by
   unfold Ad
   simp [List.getD_eq_getElem?_getD,List.getElem?_set,h]
  rw [this]
  simp only [Bw,List.set_set]
 ·rw [List.set_eq_of_length_le h,List.set_eq_of_length_le h]
theorem qX {N:Nat} {s0 s1 s2 s3 s4 s5 s6 s7 s8 s9 s10 s11 s12 s13 s15 s21 s22 s23 s25 s26 s27:Int} {s18 s20:Bool} {s14 s16 s17 s19 s24:Rows} {p:Int} {b:Bool} (h:Fit s14 s16 s17 s19 s24) (hN:2097152<N):Pa N [.int s0,.int s1,.int s2,.int s3,.int s4,.int s5,.int s6,.int s7,.int s8,.int s9,.int s10,.int s11,.int s12,.int s13,.rows s14,.int s15,.rows s16,.rows s17,.bool s18,.rows s19,.bool s20,.int s21,.int s22,.int s23,.rows s24,.int s25,.int s26,.int s27,.int p,.bool b]=some (AZ (Fy (⟨s0,s1,s2,s3,s4,s5,s6,s7,s8,s9,s10,s11,s12,s13,s14,s15,s16,s17,s18,s19,s20,s21,s22,s23,s24,s25,s26,s27⟩:Inn) p b)):=by
 show Oh (std (HX N) N) (xOf _)=_
 generalize hres:(some (AZ (Fy (⟨s0,s1,s2,s3,s4,s5,s6,s7,s8,s9,s10,s11,s12,s13,s14,s15,s16,s17,s18,s19,s20,s21,s22,s23,s24,s25,s26,s27⟩:Inn) p b)):Option (List PV))=RR
 simp only [Oh,Xh,YN,Va,std,xOf,PXb,PXc,PXn,PXm,Nat.reduceAdd,Int.reduceBEq,CE h,PP,wM h.bt hN]
 subst hres;simp only [Fy]
 rw [BEq.comm (a:=s12) (b:=p),BEq.comm (a:=s13) (b:=p)]
 cases hp:inR p s14.length<;>try rfl
 simp only [Dd hp h.bt,PXb,PXc,PXn,PXm,Nat.reduceAdd,Int.reduceBEq]
 have e:=ya s14 p 3 2
 cases s12==0<;>cases s13==0<;>try rfl
 cases p==s12<;>cases p==s13<;>cases b<;>try rfl
 all_goals (simp only [PXb,PXc,PXn,PXm,Nat.reduceAdd,Int.reduceBEq];first | rfl | (cases ((B2 s14 s14.length).length:Int)==0<;>first | rfl | (rw [← e];rfl)) | (rw [← e];rfl))
end Go.Px
end
section
namespace Go.Px
set_option maxRecDepth 100000
def btw (a b c:Int):Bool:=iLe b a&&iLe a c
theorem Dz (N:Nat) (a b c:Int):Ap N [.int a,.int b,.int c]=some [.bool (btw a b c)]:=by
 show some [PV.bool (cond (iLe b a) (iLe a c) false)]=_
 rw [Q9];rfl
theorem M7 (N:Nat) (a b c:Int):Cr N [.int a,.int b,.int c]=some [.bool (btw a b c)]:=by
 show some [PV.bool (cond (iLe b a) (iLe a c) false)]=_
 rw [Q9];rfl
theorem xq (N:Nat) (a b c:Int):US N [.int a,.int b,.int c]=some [.bool (btw a b c)]:=by
 show some [PV.bool (cond (iLe b a) (iLe a c) false)]=_
 rw [Q9];rfl
theorem cX (N:Nat) (a b c:Int):FJ N [.int a,.int b,.int c]=some [.bool (btw a b c)]:=by
 show some [PV.bool (cond (iLe b a) (iLe a c) false)]=_
 rw [Q9];rfl
def Gg (x1 x2 x3 x4 x5 x6 x7 x9 x10 x11 x12:Int):Bool:=btw x1 2 11&&btw x2 1 2&&btw x3 0 90&&btw x4 4 8&&btw x5 0 90&&btw x6 1 5&&btw x7 1 5&&btw x9 0 200&&btw x10 0 1000&&btw x11 0 9&&btw x12 0 11
theorem iy (N : Nat) (x0 : ByteArray) (x1 x2 x3 x4 x5 x6 x7 x9 x10 x11 x12 : Int) (x8 : Bool) (x13 : Rows) :
   GP N [.str x0,.int x1,.int x2,.int x3,.int x4,.int x5,.int x6,.int x7,.bool x8,.int x9,.int x10,.int x11,.int x12,.rows x13]=some [.bool (Gg x1 x2 x3 x4 x5 x6 x7 x9 x10 x11 x12)]:=by
  show Jd (std (LX N) N) (xOf _)=_
  have e:∀ ls,LX N 73 [] ls=Cr N ls:=fun ls=>rfl
  simp only [Jd,std,xOf,e,M7,PXb,PXc,PXn,AB,Gg]
def QQ (s:ByteArray) (i:Nat):Bool := !(iLe 65 (Mh s i)&&iLe (Mh s i) 90)&&((i:Int)==0||((!(Mh s i==95) && !(Mh s i==45))&&(iLt (Mh s i) 48||iLt 57 (Mh s i))))
def MA (s:ByteArray):Bool := !Aw (QQ s) s.size 0&&(iLe 1 s.size&&iLe s.size 16)
theorem ABD (s:ByteArray):(Gd s).length=s.size:=by
 simp only [Gd,List.length_map,Array.length_toList];rfl
theorem ABR (s:ByteArray) (i:Nat) (h:i<s.size):pvI (AK (Gd s) i 0)=Mh s i:=by
 unfold AK Ad AA Gd Mh
 simp only [List.getD_eq_getElem?_getD,List.getElem?_map]
 have:i<s.data.toList.length:=by simpa using h
 rw [List.getElem?_eq_getElem this]
 simp [List.getElem?_eq_getElem this]
theorem qr (N:Nat) (s:ByteArray) (hN:s.size<N) (hs:s.size≤1048576):Lm N [.str s]=some [.bool (MA s)]:=by
 show Qs (std (bQ N) N) (xOf _)=_
 simp only [Qs,std,xOf,ABD,PXb,PXc,PXn,AB]
 refine AL (CU (len:=s.size) (QQ s) [.bool false] ?_ ?_ N hN) ?_
 ·intro self
  simp only [PXb,PXc,PXn,AB,Au]
 ·intro i self hi
  simp only [PXb,PXc,PXn,AB,Int.toNat_natCast,ABR s i hi,AX (show i≤1099511627776 by omega),Ao hi,AP hi,QQ]
 ·unfold MA
  cases Aw (QQ s) s.size 0<;>rfl
theorem yx (bs:ByteArray) (i:Nat) (r:List UInt8):(ByteArray.toList.loop bs i r).length=r.length+(bs.size - i):=by
 induction i,r using ByteArray.toList.loop.induct (bs:=bs) with
 | case1 i r h ih=>unfold ByteArray.toList.loop;rw [if_pos h,ih];simp;omega
 | case2 i r h=>unfold ByteArray.toList.loop;rw [if_neg h];simp;omega
theorem mO (bs:ByteArray):bs.toList.length=bs.size:=by
 unfold ByteArray.toList;rw [yx];simp
theorem uq (s:ByteArray):(s.toList==(⟨#[]⟩:ByteArray).toList) = !iLe 1 (s.size:Int):=by
 have h:=mO s
 have h0:=mO (⟨#[]⟩:ByteArray)
 rw [Bool.eq_iff_iff]
 simp only [beq_iff_eq,iLe,Bool.not_eq_true',decide_eq_false_iff_not]
 constructor
 ·intro e;rw [e,h0] at h
  have:(⟨#[]⟩:ByteArray).size=0:=rfl
  omega
 ·intro e
  have e1:s.toList=[]:=List.eq_nil_of_length_eq_zero (by omega)
  have e2:(⟨#[]⟩:ByteArray).toList=[]:=List.eq_nil_of_length_eq_zero h0
  rw [e1,e2]
theorem uo (N:Nat) (s:ByteArray) (hN:s.size<N) (hs:s.size≤1048576):Pc N [.str s]=some [.bool (MA s)]:=by
 show TF (std (di N) N) (xOf _)=_
 simp only [TF,std,xOf,PXb,PXc,PXn,AB,uq]
 have e:iLe 1 (s.size:Int)=false∨iLe 1 (s.size:Int)=true:=by cases iLe 1 (s.size:Int)<;>simp
 have e2:iLt 16 (s.size:Int) = !iLe (s.size:Int) 16:=by unfold iLt iLe;rw [Bool.eq_iff_iff];simp
 rw [e2]
 cases h:iLe 1 (s.size:Int)&&iLe (s.size:Int) 16 with
 | false =>
  have:(!iLe 1 (s.size:Int) || !iLe (s.size:Int) 16)=true:=by rw [← Bool.not_and,h];rfl
  simp only [this,cond_true,MA,h,Bool.and_false]
 | true =>
  have:(!iLe 1 (s.size:Int) || !iLe (s.size:Int) 16)=false:=by rw [← Bool.not_and,h];rfl
  simp only [this,cond_false,MA,h,Bool.and_true]
  refine AL (CU (len:=s.size) (QQ s) [.bool false] ?_ ?_ N hN) ?_
  ·intro self
   simp only [PXb,PXc,PXn,AB,Au]
  ·intro i self hi
   simp only [PXb,PXc,AB,Int.toNat_natCast,AX (show i≤1099511627776 by omega),Ao hi,AP hi,QQ]
   cases (iLe 65 (Mh s i)&&iLe (Mh s i) 90)<;>rfl
  ·cases Aw (QQ s) s.size 0<;>rfl
end Go.Px
end
section
namespace Go.Px
set_option maxRecDepth 100000
theorem u9 {i len:Nat} (h:i<len) (hl:len≤1099511627776):(!iLt 0 (i:Int)||iIn (IntKind.i64.wrap ((i:Int) - 1)) (len:Int))=true:=by
 rw [Bs (by omega) (by omega)]
 simp only [iLt,iIn,Bool.or_eq_true,Bool.not_eq_true',decide_eq_false_iff_not,decide_eq_true_eq]
 omega
def wL (L:Rows) (ov:Int) (i:Nat):Bool:=(iLt (atI L i 0) 1||iLt (atI L i 1) (atI L i 0)||iLt ov (atI L i 1)) || !btw (atI L i 2) 0 11
def sF (L:Rows) (i:Nat):Bool:=iLt 0 (i:Int)&&iLe (atI L i 0) (pvI (AK L (IntKind.i64.wrap ((i:Int) - 1)).toNat 1))
def jx (L:Rows) (ov:Int) (i:Nat):Option (List PV):=cond (wL L ov i) (some [.int 2]) (cond (sF L i) (some [.int 8]) none)
def yZ:Option (List PV)→Int
 | none=>0
 | some r=>pvI (AA r 0)
def kJ (L:Rows) (ov:Int):Int:=cond (iLt 8 (L.length:Int)) 9 (yZ (CL (jx L ov) L.length 0))
theorem aA (o:Option (List PV)):cond (pvI (AA (TJ o) 0)==((0:Nat):Int)) (some [PV.int (pvI (AA (TJ o) 1))]) (some [PV.int 0])=some [PV.int (yZ o)]:=by
 cases o<;>rfl
theorem lO (N : Nat) (x0 : ByteArray) (x1 x2 x3 x4 x5 x6 x7 x9 x10 x11 x12 : Int) (x8 : Bool) (L : Rows) (hN : 2097152 < N) :
   HC N [.str x0,.int x1,.int x2,.int x3,.int x4,.int x5,.int x6,.int x7,.bool x8,.int x9,.int x10,.int x11,.int x12,.rows L]=some [.int (kJ L x3)]:=by
  show K9 (std (M6 N) N) (xOf _)=_
  have e:∀ ls,M6 N 73 [] ls=Cr N ls:=fun ls=>rfl
  simp only [K9,std,xOf,e,M7,PXb,PXc,PXn,AB,kJ]
  cases h8:iLt 8 (L.length:Int) with
  | true=>rfl
  | false =>
    have hl:L.length≤8:=by simp [iLt] at h8;omega
    simp only [cond_false]
    refine AL (Cs (len:=L.length) (jx L x3) ?_ ?_ L.length 0 N (by omega) (by omega)) ?_
    · intro self
      simp only [PXb,PXc,PXn,AB,Au]
    · intro i self hi
      simp only [PXb,PXc,PXn,AB,Int.toNat_natCast,AX (show i≤1099511627776 by omega),Ao hi,AP hi,M7,e,u9 hi (by omega)]
      simp only [jx,wL,sF,atI]
      cases (iLt (pvI (AK L i 0)) 1||iLt (pvI (AK L i 1)) (pvI (AK L i 0))||iLt x3 (pvI (AK L i 1)) || !btw (pvI (AK L i 2)) 0 11) <;>
      cases (iLt 0 (i:Int)&&iLe (pvI (AK L i 0)) (pvI (AK L (IntKind.i64.wrap ((i:Int) - 1)).toNat 1)))<;>rfl
    · exact aA _
def D8 (x0:ByteArray) (x1 x2 x3 x4 x5 x6 x7 x9 x10 x11 x12:Int) (L:Rows):Int :=
  cond (!MA x0) 5 (cond (!Gg x1 x2 x3 x4 x5 x6 x7 x9 x10 x11 x12) 2
    (cond ((!(x10==0)&&x2==1)||((!(x5==0)||iLt 0 (L.length:Int))&&x3==0)) 1
      (cond (!(x5==0)&&iLt (IntKind.i64.wrap (x5 * x1)) x3) 13 (kJ L x3))))
theorem Xr (N : Nat) (x0 : ByteArray) (x1 x2 x3 x4 x5 x6 x7 x9 x10 x11 x12 : Int) (x8 : Bool) (L : Rows) (hN : 2097152 < N) (hs : x0.size ≤ 1048576) :
   AS N [.str x0,.int x1,.int x2,.int x3,.int x4,.int x5,.int x6,.int x7,.bool x8,.int x9,.int x10,.int x11,.int x12,.rows L]=some [.int (D8 x0 x1 x2 x3 x4 x5 x6 x7 x9 x10 x11 x12 L)]:=by
  show Mq (std (GT N) N) (xOf _)=_
  have e:∀ ls,GT N 54 [] ls=Lm N ls:=fun ls=>rfl
  have e2:∀ ls,GT N 55 [] ls=GP N ls:=fun ls=>rfl
  have e3:∀ ls,GT N 56 [] ls=HC N ls:=fun ls=>rfl
  simp only [Mq,std,xOf,e,e2,e3,qr N x0 (by omega) hs,iy,lO N _ _ _ _ _ _ _ _ _ _ _ _ _ _ hN,PXb,PXc,AB,D8]
  cases MA x0<;>cases Gg x1 x2 x3 x4 x5 x6 x7 x9 x10 x11 x12<;>try rfl
  simp only [PXb,PXc,AB,Bool.not_true]
  cases (!(x10==0)&&x2==1)<;>cases ((!(x5==0)||iLt 0 (L.length:Int))&&x3==0)<;>try rfl
  cases (!(x5==0)&&iLt (IntKind.i64.wrap (x5 * x1)) x3)<;>rfl
theorem eD (N : Nat) (x0 : ByteArray) (x1 x2 x3 x4 x5 x6 x7 x9 x10 x11 x12 : Int) (x8 : Bool) (L : Rows) (hN : 2097152 < N) (hs : x0.size ≤ 1048576) :
   Aj N [.str x0,.int x1,.int x2,.int x3,.int x4,.int x5,.int x6,.int x7,.bool x8,.int x9,.int x10,.int x11,.int x12,.rows L]=some [.int (D8 x0 x1 x2 x3 x4 x5 x6 x7 x9 x10 x11 x12 L)]:=by
  show RT (std (MU N) N) (xOf _)=_
  have e:∀ ls,MU N 60 [] ls=Pc N ls:=fun ls=>rfl
  have e2:∀ ls,MU N 61 [] ls=US N ls:=fun ls=>rfl
  simp only [RT,std,xOf,e,e2,uo N x0 (by omega) hs,xq,PXb,PXc,PXn,AB]
  simp only [← Bool.not_and,D8]
  rw [show (btw x1 2 11&&btw x2 1 2&&btw x3 0 90&&btw x4 4 8&&btw x5 0 90&&btw x6 1 5&&btw x7 1 5&&btw x9 0 200&&btw x10 0 1000&&btw x11 0 9&&btw x12 0 11)=Gg x1 x2 x3 x4 x5 x6 x7 x9 x10 x11 x12 from rfl]
  rw [Bool.and_comm (x3==0)]
  cases MA x0<;>cases Gg x1 x2 x3 x4 x5 x6 x7 x9 x10 x11 x12<;>try rfl
  cases (!(x10==0)&&x2==1)||((!(x5==0)||iLt 0 (L.length:Int))&&x3==0)<;>try rfl
  cases (!(x5==0)&&iLt (IntKind.i64.wrap (x5 * x1)) x3)<;>try rfl
  simp only [Bool.not_true,cond_false,kJ]
  cases h8:iLt 8 (L.length:Int) with
  | true=>rfl
  | false =>
    have hl:L.length≤8:=by simp [iLt] at h8;omega
    simp only [cond_false]
    refine AL (Cs (len:=L.length) (jx L x3) ?_ ?_ L.length 0 N (by omega) (by omega)) ?_
    · intro self
      simp only [PXb,PXc,PXn,AB,Au]
    · intro i self hi
      simp only [PXb,PXc,PXn,AB,Int.toNat_natCast,AX (show i≤1099511627776 by omega),Ao hi,AP hi,u9 hi (by omega)]
      simp only [jx,wL,sF,atI]
      cases (iLt (pvI (AK L i 0)) 1||iLt (pvI (AK L i 1)) (pvI (AK L i 0))||iLt x3 (pvI (AK L i 1)) || !btw (pvI (AK L i 2)) 0 11) <;>
      cases (iLt 0 (i:Int)&&iLe (pvI (AK L i 0)) (pvI (AK L (IntKind.i64.wrap ((i:Int) - 1)).toNat 1)))<;>rfl
    · exact aA _
end Go.Px
end
section
namespace Go.Px
set_option maxRecDepth 100000
theorem cP (N:Nat) (L:Rows) (v:Int) (hN:L.length<N) (hl:L.length≤2097152):D9 N [.rows L,.int v]=some [.int (SO (fun j=>v==atI L j 0) L.length)]:=by
 show GN (std (OM N) N) (xOf _)=_
 simp only [GN,std,xOf,PXb,PXc,PXn,AB]
 refine AL (Cs (len:=L.length) (Gj fun j=>v==atI L j 0) ?_ ?_ L.length 0 N (by omega) (by omega)) ?_
 ·intro self
  simp only [PXb,PXc,PXn,AB,Au]
 ·intro i self hi
  simp only [PXb,PXc,PXn,AB,AX (show i≤1099511627776 by omega),Ao hi,AP hi,Gj,A6]
  cases v==atI L i 0<;>rfl
 ·unfold SO
  cases CL (Gj fun j=>v==atI L j 0) L.length 0<;>rfl
def Hh (L:Rows) (k:Nat) (v:Int):Bool:=Aw (fun j=>v==atI L j 0) k 0
theorem Lx (N:Nat) (L:Rows) (v:Int) (hN:L.length<N) (hl:L.length≤2097152):Av N [.rows L,.int v]=some [.bool (Hh L L.length v)]:=by
 show EI (std (Fo N) N) (xOf _)=_
 have e:∀ ls,Fo N 158 [] ls=D9 N ls:=fun ls=>rfl
 simp only [EI,std,xOf,PXb,PXc,PXn,AB,e,cP N L v hN hl,Ko,Hh]
theorem y4 (L:Rows) (i:Nat) (v:Int) (h:i≤L.length):Hh (L.take i) (L.take i).length v=Hh L i v:=by
 rw [List.length_take,Nat.min_eq_left h]
 exact mC i 0 (fun j _ hj=>by rw [rp (by omega)])
def Kv (L:Rows) (n:Int) (i:Nat):Bool := !btw (atI L i 0) 1 n||Hh L i (atI L i 0)
def Ge (L:Rows) (n:Int):Bool := !Aw (Kv L n) L.length 0
theorem PW (N:Nat) (L:Rows) (n:Int) (hN:L.length<N) (hl:L.length≤2097152):Di N [.rows L,.int n]=some [.bool (Ge L n)]:=by
 show FZ (std (EE N) N) (xOf _)=_
 have e:∀ ls,EE N 115 [] ls=Ap N ls:=fun ls=>rfl
 have e2:∀ ls,EE N 136 [] ls=Av N ls:=fun ls=>rfl
 simp only [FZ,std,xOf,PXb,PXc,PXn,AB]
 refine AL (CU (len:=L.length) (Kv L n) [.bool false] ?_ ?_ N hN) ?_
 ·intro self
  simp only [PXb,PXc,PXn,AB,Au]
 ·intro i self hi
  have h1:(L.take i).length≤L.length:=List.length_take_le' i L
  simp only [PXb,PXc,PXn,AB,AX (show i≤1099511627776 by omega),Ao hi,AP hi,e,e2,Dz,zu (Nat.le_of_lt hi),Int.toNat_zero,List.drop_zero,Lx N (L.take i) _ (by omega) (by omega),y4 L i _ (by omega),A6,Kv]
  cases btw (atI L i 0) 1 n<;>cases Hh L i (atI L i 0)<;>rfl
 ·unfold Ge
  cases Aw (Kv L n) L.length 0<;>rfl
theorem kg (N:Nat) (L:Rows) (n:Int) (hN:L.length<N) (hl:L.length≤2097152):R8 N [.rows L,.int n]=some [.bool (Ge L n)]:=by
 show We (std (Wt N) N) (xOf _)=_
 have e:∀ ls,Wt N 130 [] ls=FJ N ls:=fun ls=>rfl
 simp only [We,std,xOf,PXb,PXc,PXn,AB]
 refine AL (CU (len:=L.length) (Kv L n) [.bool false] ?_ ?_ N hN) ?_
 ·intro self
  simp only [PXb,PXc,PXn,AB,Au]
 ·intro i self hi
  have h1:(L.take i).length=i:=by rw [List.length_take];omega
  simp only [PXb,PXc,PXn,AB,AX (show i≤1099511627776 by omega),Ao hi,AP hi,e,cX,zu (Nat.le_of_lt hi),Int.toNat_zero,List.drop_zero,A6,Kv,h1]
  cases btw (atI L i 0) 1 n with
  | false=>rfl
  | true =>
   simp only [PXb,PXc,PXn,AB]
   refine AL (ZV (len:=i) (fun j=>[.int (j:Int)]) (fun j=>atI L i 0==atI L j 0) [.int 0,.bool false] [.int 1,.int (i:Int)] ?_ ?_ N (by omega)) ?_
   ·intro self
    simp only [PXb,PXc,PXn,AB,Au]
   ·intro j self hj
    simp only [PXb,PXc,PXn,AB,AX (show j≤1099511627776 by omega),Ao hj,AP hj,rp hj]
    rfl
   ·unfold Hh
    cases Aw (fun j=>atI L i 0==atI L j 0) i 0<;>rfl
 ·unfold Ge
  cases Aw (Kv L n) L.length 0<;>rfl
theorem fi (N:Nat) (v:Int):C8 N [.int v]=some [.bool (!(v==0))]:=rfl
def lsI (L14 L16 L17 L19 L24:Rows) (b18 b20:Bool) (x0 x1 x2 x3 x4 x5 x6 x7 x8 x9 x10 x11 x12 x13 x15 x21 x22 x23 x25 x26 x27:Int):List PV :=
 [.int x0,.int x1,.int x2,.int x3,.int x4,.int x5,.int x6,.int x7,.int x8,.int x9,.int x10,.int x11,.int x12,.int x13,.rows L14,.int x15,.rows L16,.rows L17,.bool b18,.rows L19,.bool b20,.int x21,.int x22,.int x23,.rows L24,.int x25,.int x26,.int x27]
section
variable (N:Nat) (L14 L16 L17 L19 L24:Rows) (b18 b20:Bool) (x0 x1 x2 x3 x4 x5 x6 x7 x8 x9 x10 x11 x12 x13 x15 x21 x22 x23 x25 x26 x27:Int)
theorem kv (hN:L14.length<N) (hl:L14.length≤2097152):CC N (lsI L14 L16 L17 L19 L24 b18 b20 x0 x1 x2 x3 x4 x5 x6 x7 x8 x9 x10 x11 x12 x13 x15 x21 x22 x23 x25 x26 x27)=some [.bool (Bp L14)]:=by
 show E7 (std (E9 N) N) (xOf (lsI ..))=_
 have e:∀ ls,E9 N 214 [] ls=C8 N ls:=fun ls=>rfl
 simp only [E7,std,xOf,lsI,PXb,PXc,PXn,AB]
 rw [show Bp L14=iLe 0 (SO (fun i => !(atI L14 i 0==0)) L14.length) from (Ko _ _).symm]
 rw [Option.bind_assoc]
 refine AL (Cs (len:=L14.length) (Gj fun i => !(atI L14 i 0==0)) ?_ ?_ L14.length 0 N (by omega) (by omega)) ?_
 ·intro self
  simp only [PXb,PXc,PXn,AB,Au]
 ·intro i self hi
  simp only [PXb,PXc,PXn,AB,AX (show i≤1099511627776 by omega),Ao hi,AP hi,Gj,A6,e,fi]
  cases atI L14 i 0==0<;>rfl
 ·unfold SO
  cases CL (Gj fun i => !(atI L14 i 0==0)) L14.length 0<;>rfl
theorem eu (hN:L14.length<N) (hl:L14.length≤2097152):Bh N (lsI L14 L16 L17 L19 L24 b18 b20 x0 x1 x2 x3 x4 x5 x6 x7 x8 x9 x10 x11 x12 x13 x15 x21 x22 x23 x25 x26 x27)=some [.bool (Bp L14)]:=by
 show JF (std (Sd N) N) (xOf (lsI ..))=_
 simp only [JF,std,xOf,lsI,PXb,PXc,PXn,AB]
 refine AL (CU (len:=L14.length) (fun i => !(atI L14 i 0==0)) [.bool true] ?_ ?_ N hN) ?_
 ·intro self
  simp only [PXb,PXc,PXn,AB,Au]
 ·intro i self hi
  simp only [PXb,PXc,PXn,AB,AX (show i≤1099511627776 by omega),Ao hi,AP hi,A6]
 ·unfold Bp
  cases Aw (fun i => !(atI L14 i 0==0)) L14.length 0<;>rfl
theorem jQ (hN:L14.length<N) (hl:L14.length≤2097152):BN N (lsI L14 L16 L17 L19 L24 b18 b20 x0 x1 x2 x3 x4 x5 x6 x7 x8 x9 x10 x11 x12 x13 x15 x21 x22 x23 x25 x26 x27)=some [.bool (DL L14 x12 x13)]:=by
 show EF (std (Ei N) N) (xOf (lsI ..))=_
 have e:∀ ls,Ei N 193 [] ls=CC N ls:=fun ls=>rfl
 have:=kv N L14 L16 L17 L19 L24 b18 b20 x0 x1 x2 x3 x4 x5 x6 x7 x8 x9 x10 x11 x12 x13 x15 x21 x22 x23 x25 x26 x27 hN hl
 simp only [lsI] at this
 simp only [EF,std,xOf,lsI,PXb,PXc,PXn,AB,e,this,DL]
theorem pF (hN:L14.length<N) (hl:L14.length≤2097152):CZ N (lsI L14 L16 L17 L19 L24 b18 b20 x0 x1 x2 x3 x4 x5 x6 x7 x8 x9 x10 x11 x12 x13 x15 x21 x22 x23 x25 x26 x27)=some [.bool (DL L14 x12 x13)]:=by
 show HW (std (Hm N) N) (xOf (lsI ..))=_
 have e:∀ ls,Hm N 133 [] ls=Bh N ls:=fun ls=>rfl
 have:=eu N L14 L16 L17 L19 L24 b18 b20 x0 x1 x2 x3 x4 x5 x6 x7 x8 x9 x10 x11 x12 x13 x15 x21 x22 x23 x25 x26 x27 hN hl
 simp only [lsI] at this
 simp only [HW,std,xOf,lsI,PXb,PXc,PXn,AB,e,this,DL]
theorem nS (hN:L14.length<N) (hl:L14.length≤2097152):C4 N (lsI L14 L16 L17 L19 L24 b18 b20 x0 x1 x2 x3 x4 x5 x6 x7 x8 x9 x10 x11 x12 x13 x15 x21 x22 x23 x25 x26 x27)=some [.rows (B2 L14 L14.length)]:=by
 show F5 (std (Oe N) N) (xOf (lsI ..))=_
 simp only [F5,std,xOf,lsI,PXb,PXc,PXn,AB]
 refine AL (Ce (len:=L14.length) (fun i=>[.rows (B2 L14 i),.int (i:Int)]) [.rows (B2 L14 L14.length)] ?_ ?_ N hN) rfl
 ·intro self
  simp only [PXb,PXc,PXn,AB,Au]
 ·intro i self hi
  have h2:(B2 L14 i++[[PV.int ((i:Int)+1)]]).length≤4194304:=by have:=UA L14 i;simp;omega
  simp only [PXb,PXc,PXn,AB,AX (show i≤1099511627776 by omega),Ao hi,AP hi,A6,B2,DF h2 (show 8≤4096 by omega)]
  cases (atI L14 i 0==0||atI L14 i 0==3)<;>rfl
theorem ux (hN:L14.length<N) (hl:L14.length≤2097152):El N (lsI L14 L16 L17 L19 L24 b18 b20 x0 x1 x2 x3 x4 x5 x6 x7 x8 x9 x10 x11 x12 x13 x15 x21 x22 x23 x25 x26 x27)=some [.rows (B2 L14 L14.length)]:=by
 show LN (std (UH N) N) (xOf (lsI ..))=_
 simp only [LN,std,xOf,lsI,PXb,PXc,PXn,AB]
 refine AL (Ce (len:=L14.length) (fun i=>[.rows (B2 L14 i),.int (i:Int)]) [.rows (B2 L14 L14.length)] ?_ ?_ N hN) rfl
 ·intro self
  simp only [PXb,PXc,PXn,AB,Au]
 ·intro i self hi
  have h2:(B2 L14 i++[[PV.int ((i:Int)+1)]]).length≤4194304:=by have:=UA L14 i;simp;omega
  simp only [PXb,PXc,PXn,AB,AX (show i≤1099511627776 by omega),Ao hi,AP hi,A6,B2,DF h2 (show 8≤4096 by omega)]
  cases (atI L14 i 0==0||atI L14 i 0==3)<;>rfl
end
theorem ZL (N:Nat) (v:Int):Dh N [.int v]=some [.bool (!btw v 0 1000000000)]:=by
 show Fh (std (HI N) N) (xOf _)=_
 have e:∀ ls,HI N 115 [] ls=Ap N ls:=fun ls=>rfl
 simp only [Fh,std,xOf,PXb,PXc,PXn,AB,e,Dz]
end Go.Px
end
section
namespace Go.Px
set_option maxRecDepth 100000
def pIs (L:Rows) (v:Int) (i:Nat):Bool:=atI L i 0==v
def aS (s n:Int) (i:Nat):Bool:=s==(i:Int)+1||n==(i:Int)+1
def Tu (L:Rows) (s n:Int) (i:Nat):Bool:=iLt 3 (atI L i 0)||(pIs L 1 i && !aS s n i)
def V4 (L:Rows) (s n:Int) (i:Nat):Bool:=iLt 3 (atI L i 0) || !(pIs L 1 i==aS s n i)
def eC (L:Rows):Int:=CS (pIs L 2) L.length
def ins (L:Rows):Int:=CS (pIs L 1) L.length
def two (s n:Int):Int:=cond (!(n==0)) (IntKind.i64.wrap (cond (!(s==0)) (IntKind.i64.wrap (0+1)) 0+1)) (cond (!(s==0)) (IntKind.i64.wrap (0+1)) 0)
def qC (L:Rows) (s n wk k:Int):Bool :=
 !Aw (Tu L s n) L.length 0&&((btw s 0 k&&btw n 0 k)&&(!(s==n && !(s==0))&&((two s n==ins L&&(!Bp L||iLt 0 (two s n)))&&eC L==wk)))
def TL (L:Rows) (s n wk:Int):Bool :=
 !Aw (V4 L s n) L.length 0&&(!((Bp L&&iLt (ins L) 1)||(!(s==0)&&s==n))&&wk==eC L)
def wE (L:Rows):Nat→Bool
 | 0=>false
 | i+1=>wE L i || !(atI L i 0==0)
theorem vG (L:Rows):∀ i,wE L i=Aw (fun j => !(atI L j 0==0)) i 0
 | 0=>rfl
 | i+1=>by rw [eh,Nat.zero_add,← vG L i];rfl
section
variable (N:Nat) (L14 L16 L17 L19 L24:Rows) (b18 b20:Bool) (x0 x1 x2 x3 x4 x5 x6 x7 x8 x9 x10 x11 x12 x13 x15 x21 x22 x23 x25 x26 x27:Int)
theorem eO (k:Int) (hN:L14.length<N) (hl:L14.length≤2097152):Ea N (lsI L14 L16 L17 L19 L24 b18 b20 x0 x1 x2 x3 x4 x5 x6 x7 x8 x9 x10 x11 x12 x13 x15 x21 x22 x23 x25 x26 x27++[.int k])=some [.bool (qC L14 x12 x13 x4 k)]:=by
  simp only [lsI,List.cons_append,List.nil_append]
  show G6 (std (JP N) N) (xOf _)=_
  have e:∀ ls,JP N 115 [] ls=Ap N ls:=fun ls=>rfl
  simp only [G6,std,xOf,lsI,PXb,PXc,PXn,AB]
  refine AL (ZV (len:=L14.length) (fun i=>[.int (CS (pIs L14 2) i),.int (CS (pIs L14 1) i),.bool (wE L14 i),.int (i:Int)])
    (Tu L14 x12 x13) [.int 0,.bool false] [.int 1,.int (eC L14),.int (ins L14),.bool (Bp L14)] ?_ ?_ N hN) ?_
  · intro self
    simp only [PXb,PXc,PXn,AB,Au,vG]
    rfl
  · intro i self hi
    simp only [PXb,PXc,AB,AX (show i≤1099511627776 by omega),Ao hi,AP hi,A6,aK (pIs L14 2) (show i≤1099511627776 by omega),aK (pIs L14 1) (show i≤1099511627776 by omega)]
    unfold Tu pIs aS
    simp only [CS,wE]
    cases h3:iLt 3 (atI L14 i 0) with
    | true=>rfl
    | false =>
      cases h1:atI L14 i 0==1 with
      | true =>
        rw [mS h1]
        cases x12==(i:Int)+1<;>cases x13==(i:Int)+1<;>rfl
      | false=>cases h2:atI L14 i 0==2<;>rfl
  · unfold qC
    simp only [e,Dz]
    cases Aw (Tu L14 x12 x13) L14.length 0 with
    | true=>rfl
    | false =>
      simp only [PXb,PXc,PXn,AB]
      unfold two
      cases btw x12 0 k<;>cases btw x13 0 k<;>try rfl
      cases x12==0<;>cases x13==0<;>cases x12==x13<;>try rfl
theorem mv (hN:L14.length<N) (hl:L14.length≤2097152):I3 N (lsI L14 L16 L17 L19 L24 b18 b20 x0 x1 x2 x3 x4 x5 x6 x7 x8 x9 x10 x11 x12 x13 x15 x21 x22 x23 x25 x26 x27)=some [.bool (TL L14 x12 x13 x4)]:=by
  show Mw (std (O3 N) N) (xOf (lsI ..))=_
  have e:∀ ls,O3 N 133 [] ls=Bh N ls:=fun ls=>rfl
  have h70:=eu N L14 L16 L17 L19 L24 b18 b20 x0 x1 x2 x3 x4 x5 x6 x7 x8 x9 x10 x11 x12 x13 x15 x21 x22 x23 x25 x26 x27 hN hl
  simp only [lsI] at h70
  simp only [Mw,std,xOf,lsI,PXb,PXc,PXn,AB,e,h70]
  refine AL (ZV (len:=L14.length) (fun i=>[.int (CS (pIs L14 2) i),.int (CS (pIs L14 1) i),.int (i:Int)])
    (V4 L14 x12 x13) [.int 0,.bool false] [.int 1,.int (eC L14),.int (ins L14)] ?_ ?_ N hN) ?_
  · intro self
    simp only [PXb,PXc,PXn,AB,Au]
    rfl
  · intro i self hi
    simp only [PXb,PXc,AB,AX (show i≤1099511627776 by omega),Ao hi,AP hi,A6,aK (pIs L14 2) (show i≤1099511627776 by omega),aK (pIs L14 1) (show i≤1099511627776 by omega)]
    unfold V4 pIs aS
    simp only [CS]
    cases h3:iLt 3 (atI L14 i 0) with
    | true=>rfl
    | false =>
      cases h1:atI L14 i 0==1 with
      | true =>
        rw [mS h1]
        cases x12==(i:Int)+1<;>cases x13==(i:Int)+1<;>rfl
      | false=>cases h2:atI L14 i 0==2<;>cases x12==(i:Int)+1<;>cases x13==(i:Int)+1<;>rfl
  · unfold TL
    cases Aw (V4 L14 x12 x13) L14.length 0 with
    | true=>rfl
    | false =>
      simp only [PXb,PXc,PXn,AB]
      cases Bp L14<;>cases h:iLt (ins L14) 1<;>cases x12==0<;>cases x12==x13<;>first | rfl | (simp [TJ,AA,h])
end
end Go.Px
end
section
namespace Go.Px
set_option maxRecDepth 100000
theorem AAQ (s n:Int):two s n=cond (!(s==0)) 1 0+cond (!(n==0)) 1 0:=by
 unfold two
 cases s==0<;>cases n==0<;>rfl
theorem AAD {s n:Int} {len:Nat} (h1:0≤s∧s≤(len:Int)) (h2:0≤n∧n≤(len:Int)) (hd:(s==n && !(s==0))=false):two s n=CS (aS s n) len:=by
 have hs:iLe s (len:Int)=true:=by simp only [iLe,decide_eq_true_eq];omega
 have hn:iLe n (len:Int)=true:=by simp only [iLe,decide_eq_true_eq];omega
 unfold aS
 rw [xN (p:=fun i=>s==(i:Int)+1) (q:=fun i=>n==(i:Int)+1) len (fun j _ hp=>by
  have e1:s=(j:Int)+1:=by simpa using hp
  show (n==(j:Int)+1)=false
  rw [beq_eq_false_iff_ne]
  intro e2
  have e3:(s==n)=true:=by rw [beq_iff_eq];omega
  have e4:(s==0)=false:=by rw [beq_eq_false_iff_ne];omega
  rw [e3,e4] at hd;cases hd),qv s len h1.1,qv n len h2.1,hs,hn,Bool.and_true,Bool.and_true,AAQ]
theorem AAK (x:Int):iLt 0 x = !iLt x 1:=by
 unfold iLt
 rw [Bool.eq_iff_iff]
 simp only [decide_eq_true_eq,Bool.not_eq_true',decide_eq_false_iff_not]
 omega
theorem zK {L : Rows} {s n : Int} (h1 : 0 ≤ s ∧ s ≤ (L.length : Int)) (h2 : 0 ≤ n ∧ n ≤ (L.length : Int)) (hd : (s == n && !(s == 0)) = false) :
    (!Aw (Tu L s n) L.length 0&&two s n==ins L) = !Aw (V4 L s n) L.length 0:=by
  have h2c:=AAD h1 h2 hd
  rw [Bool.eq_iff_iff]
  simp only [Bool.and_eq_true,Bool.not_eq_true',IR,beq_iff_eq]
  constructor
  · intro ⟨ha,hb⟩ j _ hj
    have hm:∀ j,j<L.length→pIs L 1 j=true→aS s n j=true:=fun j hj hp=>by
      have:=ha j (Nat.zero_le _) (by omega)
      unfold Tu at this
      rw [hp] at this
      simp only [Bool.or_eq_false_iff,Bool.true_and,Bool.not_eq_false'] at this
      exact this.2
    have he:=xT L.length hm (by rw [← h2c,hb];rfl) j (by omega)
    have:=ha j (Nat.zero_le _) hj
    unfold Tu at this
    unfold V4
    rw [Bool.or_eq_false_iff] at this ⊢
    exact ⟨this.1,by rw [he];simp⟩
  · intro ha
    have hm:∀ j,j<L.length→pIs L 1 j=aS s n j:=fun j hj=>by
      have:=ha j (Nat.zero_le _) (by omega)
      unfold V4 at this
      rw [Bool.or_eq_false_iff] at this
      simpa using this.2
    refine ⟨fun j h0 hj=>?_,?_⟩
    · have:=ha j h0 hj
      unfold V4 at this
      unfold Tu
      rw [Bool.or_eq_false_iff] at this ⊢
      refine ⟨this.1,?_⟩
      rw [hm j (by omega)]
      cases aS s n j<;>rfl
    · rw [h2c]
      exact (oJ L.length hm).symm
theorem AA3 (L:Rows) (s n wk k:Int) (hk:(L.length:Int)=k):qC L s n wk k=(btw s 0 k&&btw n 0 k&&TL L s n wk):=by
 subst hk
 unfold qC TL
 cases hs:btw s 0 (L.length:Int) with
 | false=>simp only [Bool.false_and,Bool.and_false]
 | true =>
  cases hn:btw n 0 (L.length:Int) with
  | false=>simp only [Bool.false_and,Bool.and_false]
  | true =>
   have h1:0≤s∧s≤(L.length:Int):=by simpa [btw,iLe] using hs
   have h2:0≤n∧n≤(L.length:Int):=by simpa [btw,iLe] using hn
   simp only [Bool.true_and]
   cases hd:(s==n && !(s==0)) with
   | true =>
    have:(!(s==0)&&s==n)=true:=by rw [Bool.and_comm];exact hd
    rw [this]
    simp only [Bool.or_true,Bool.not_true,Bool.false_and,Bool.and_false]
   | false =>
    have:(!(s==0)&&s==n)=false:=by rw [Bool.and_comm];exact hd
    rw [this,← zK h1 h2 hd]
    simp only [Bool.or_false,Bool.not_false,Bool.true_and]
    rw [show (wk==eC L)=(eC L==wk) from BEq.comm]
    cases hA:Aw (Tu L s n) L.length 0 with
    | true=>rfl
    | false =>
     cases hB:two s n==ins L with
     | false=>rfl
     | true =>
      rw [beq_iff_eq.1 hB,AAK]
      simp only [Bool.true_and,Bool.not_false,Bool.not_and]
end Go.Px
end
section
namespace Go.Px
set_option maxRecDepth 100000
def DQ (v:Int):Bool := !btw v 0 1000000000
def ZO (x1 x3 x5 x6 x7 x8 x9 x10 x21 x23 x25 x26:Int):Rows:=[[.int x1],[.int x3],[.int x5],[.int x6],[.int x7],[.int x8],[.int x9],[.int x10],[.int x21],[.int x23],[.int x25],[.int x26]]
section
variable (N:Nat) (L14 L16 L17 L19 L24:Rows) (b18 b20:Bool) (x0 x1 x2 x3 x4 x5 x6 x7 x8 x9 x10 x11 x12 x13 x15 x21 x22 x23 x25 x26 x27:Int)
theorem cq (hN:2097152<N) (hl:L19.length≤1048576):EY N (lsI L14 L16 L17 L19 L24 b18 b20 x0 x1 x2 x3 x4 x5 x6 x7 x8 x9 x10 x11 x12 x13 x15 x21 x22 x23 x25 x26 x27)=some [.bool (!(LW DQ (ZO x1 x3 x5 x6 x7 x8 x9 x10 x21 x23 x25 x26)||LW DQ L19))]:=by
 show G5 (std (JN N) N) (xOf (lsI ..))=_
 have e:∀ ls,JN N 138 [] ls=Dh N ls:=fun ls=>rfl
 rw [← tT]
 simp only [G5,std,xOf,lsI,PXb,PXc,PXn,AB,ZO]
 generalize hM:([PV.int x1]::[PV.int x3]::[PV.int x5]::[PV.int x6]::[PV.int x7]::[PV.int x8]::[PV.int x9]::[PV.int x10]::[PV.int x21]::[PV.int x23]::[PV.int x25]::[PV.int x26]::L19:Rows)=M
 have hM2:M.length≤2097152:=by rw [← hM];simp only [List.length_cons];omega
 rw [DF (n:=M.length) (by omega) (by omega)]
 simp only [PXb,PXc,PXn,AB]
 rw [Option.bind_assoc]
 refine AL (Cs (len:=M.length) (Gj fun i=>DQ (atI M i 0)) ?_ ?_ M.length 0 N (by omega) (by omega)) ?_
 ·intro self
  simp only [PXb,PXc,PXn,AB,Au]
 ·intro i self hi
  simp only [PXb,PXc,PXn,AB,AX (show i≤1099511627776 by omega),Ao hi,AP hi,Gj,A6,e,ZL,DQ]
  cases btw (atI M i 0) 0 1000000000<;>rfl
 ·unfold LW
  rw [← Ko]
  unfold SO
  cases CL (Gj fun i=>DQ (atI M i 0)) M.length 0<;>rfl
end
def NS (a3 x2:Int):Bool:=cond (a3==0) (x2==0) (btw x2 1 a3)
def Lr (s:ByteArray) (a1 a2 a3 a4 a5 a6 a7 a9 a10 a11 a12:Int) (La L14 L16 L17 L19 L24:Rows) (x0 x1 x2 x3 x4 x5 x6 x7 x8 x9 x10 x11 x12 x13 x15 x21 x22 x23 x25 x26 x27:Int):Bool :=
  D8 s a1 a2 a3 a4 a5 a6 a7 a9 a10 a11 a12 La==0&&(btw x0 1 2&&((L14.length:Int)==a1&&((L19.length:Int)==a1&&((L24.length:Int)==a1&&(!iLt 5 x27 &&
    (btw x12 0 a1&&(btw x13 0 a1&&(TL L14 x12 x13 x4&&(btw x15 0 a1&&(btw x22 0 a1&&(Ge L16 a1&&(Ge L17 a1&&(NS a3 x2&&(btw x11 0 (IntKind.i64.wrap (a4 - 1)) &&
      (!LW DQ (ZO x1 x3 x5 x6 x7 x8 x9 x10 x21 x23 x25 x26) && !LW DQ L19)))))))))))))))
theorem xG {s:ByteArray} {a1 a2 a3 a4 a5 a6 a7 a9 a10 a11 a12:Int} {La:Rows} (h:(D8 s a1 a2 a3 a4 a5 a6 a7 a9 a10 a11 a12 La==0)=true):0≤a3:=by
 unfold D8 at h
 cases hn:MA s with
 | false=>rw [hn] at h;exact absurd h Bool.false_ne_true
 | true =>
  cases hr:Gg a1 a2 a3 a4 a5 a6 a7 a9 a10 a11 a12 with
  | false=>rw [hn,hr] at h;exact absurd h Bool.false_ne_true
  | true =>
   unfold Gg at hr
   simp only [Bool.and_eq_true] at hr
   have:=hr.1.1.1.1.1.1.1.1.2
   unfold btw iLe at this
   simp only [Bool.and_eq_true,decide_eq_true_eq] at this
   omega
theorem nB {a:Int} (h:0≤a):iLt 0 a = !(a==0):=by
 unfold iLt
 rw [Bool.eq_iff_iff]
 simp only [decide_eq_true_eq,Bool.not_eq_true',beq_eq_false_iff_ne]
 omega
section
variable (N:Nat) (s:ByteArray) (a1 a2 a3 a4 a5 a6 a7 a9 a10 a11 a12:Int) (a8:Bool) (La:Rows) (L14 L16 L17 L19 L24:Rows) (b18 b20:Bool) (x0 x1 x2 x3 x4 x5 x6 x7 x8 x9 x10 x11 x12 x13 x15 x21 x22 x23 x25 x26 x27:Int)
theorem UV (hN:2097152<N) (hs:s.size≤1048576) (h14:L14.length≤1048576) (h16:L16.length≤1048576) (h17:L17.length≤1048576) (h19:L19.length≤1048576):BO N ([.str s,.int a1,.int a2,.int a3,.int a4,.int a5,.int a6,.int a7,.bool a8,.int a9,.int a10,.int a11,.int a12,.rows La]++lsI L14 L16 L17 L19 L24 b18 b20 x0 x1 x2 x3 x4 x5 x6 x7 x8 x9 x10 x11 x12 x13 x15 x21 x22 x23 x25 x26 x27)=some [.bool (Lr s a1 a2 a3 a4 a5 a6 a7 a9 a10 a11 a12 La L14 L16 L17 L19 L24 x0 x1 x2 x3 x4 x5 x6 x7 x8 x9 x10 x11 x12 x13 x15 x21 x22 x23 x25 x26 x27)]:=by
 simp only [lsI,List.cons_append,List.nil_append]
 show Jh (std (Cl N) N) (xOf _)=_
 have e1:∀ ls,Cl N 40 [] ls=AS N ls:=fun ls=>rfl
 have e2:∀ ls,Cl N 115 [] ls=Ap N ls:=fun ls=>rfl
 have e3:∀ ls,Cl N 116 [] ls=Ea N ls:=fun ls=>rfl
 have e4:∀ ls,Cl N 117 [] ls=Di N ls:=fun ls=>rfl
 have e5:∀ ls,Cl N 118 [] ls=EY N ls:=fun ls=>rfl
 have l54:=eO N L14 L16 L17 L19 L24 b18 b20 x0 x1 x2 x3 x4 x5 x6 x7 x8 x9 x10 x11 x12 x13 x15 x21 x22 x23 x25 x26 x27 a1 (by omega) (by omega)
 have l56:=cq N L14 L16 L17 L19 L24 b18 b20 x0 x1 x2 x3 x4 x5 x6 x7 x8 x9 x10 x11 x12 x13 x15 x21 x22 x23 x25 x26 x27 (by omega) (by omega)
 simp only [lsI,List.cons_append,List.nil_append] at l54 l56
 simp only [Jh,std,xOf,PXb,PXc,PXn,AB,e1,e2,e3,e4,e5,Xr N s _ _ _ _ _ _ _ _ _ _ _ _ _ hN hs,Dz,l54,l56,PW N L16 _ (by omega) (by omega),PW N L17 _ (by omega) (by omega)]
 unfold Lr NS
 cases hc:D8 s a1 a2 a3 a4 a5 a6 a7 a9 a10 a11 a12 La==0<;>try rfl
 cases btw x0 1 2<;>try rfl
 cases h14:(L14.length:Int)==a1<;>try rfl
 cases (L19.length:Int)==a1<;>try rfl
 cases (L24.length:Int)==a1<;>try rfl
 cases iLt 5 x27<;>try rfl
 rw [AA3 L14 x12 x13 x4 a1 (beq_iff_eq.1 h14)]
 cases btw x12 0 a1<;>try rfl
 cases btw x13 0 a1<;>try rfl
 cases TL L14 x12 x13 x4<;>try rfl
 cases btw x15 0 a1<;>try rfl
 cases btw x22 0 a1<;>try rfl
 cases Ge L16 a1<;>try rfl
 cases Ge L17 a1<;>try rfl
 cases a3==0<;>cases x2==0<;>cases btw x2 1 a3<;>rfl
theorem dY (hN:2097152<N) (hs:s.size≤1048576) (h14:L14.length≤1048576) (h16:L16.length≤1048576) (h17:L17.length≤1048576) (h19:L19.length≤1048576):Cy N ([.str s,.int a1,.int a2,.int a3,.int a4,.int a5,.int a6,.int a7,.bool a8,.int a9,.int a10,.int a11,.int a12,.rows La]++lsI L14 L16 L17 L19 L24 b18 b20 x0 x1 x2 x3 x4 x5 x6 x7 x8 x9 x10 x11 x12 x13 x15 x21 x22 x23 x25 x26 x27)=some [.bool (Lr s a1 a2 a3 a4 a5 a6 a7 a9 a10 a11 a12 La L14 L16 L17 L19 L24 x0 x1 x2 x3 x4 x5 x6 x7 x8 x9 x10 x11 x12 x13 x15 x21 x22 x23 x25 x26 x27)]:=by
 simp only [lsI,List.cons_append,List.nil_append]
 show Q3 (std (Fq N) N) (xOf _)=_
 have e1:∀ ls,Fq N 49 [] ls=Aj N ls:=fun ls=>rfl
 have e2:∀ ls,Fq N 130 [] ls=FJ N ls:=fun ls=>rfl
 have e3:∀ ls,Fq N 132 [] ls=I3 N ls:=fun ls=>rfl
 have e4:∀ ls,Fq N 131 [] ls=R8 N ls:=fun ls=>rfl
 have l60:=mv N L14 L16 L17 L19 L24 b18 b20 x0 x1 x2 x3 x4 x5 x6 x7 x8 x9 x10 x11 x12 x13 x15 x21 x22 x23 x25 x26 x27 (by omega) (by omega)
 simp only [lsI,List.cons_append,List.nil_append] at l60
 simp only [Q3,std,xOf,PXb,PXc,PXn,AB,e1,e2,e3,e4,eD N s _ _ _ _ _ _ _ _ _ _ _ _ _ hN hs,cX,l60,kg N L16 _ (by omega) (by omega),kg N L17 _ (by omega) (by omega)]
 unfold Lr NS
 cases hc:D8 s a1 a2 a3 a4 a5 a6 a7 a9 a10 a11 a12 La==0<;>try rfl
 rw [nB (xG hc)]
 cases btw x0 1 2<;>try rfl
 cases h14:(L14.length:Int)==a1<;>try rfl
 cases (L19.length:Int)==a1<;>try rfl
 cases (L24.length:Int)==a1<;>try rfl
 cases iLt 5 x27<;>try rfl
 cases btw x12 0 a1<;>try rfl
 cases btw x13 0 a1<;>try rfl
 cases TL L14 x12 x13 x4
 ·simp only [PXb,PXc,PXn,AB]
 cases btw x15 0 a1<;>try rfl
 cases btw x22 0 a1<;>try rfl
 cases Ge L16 a1<;>try rfl
 cases Ge L17 a1<;>try rfl
 have ho:(a3==0 && !(x2==0) || !(a3==0)&&(a3==0 && !(x2==0) || !!(a3==0) || !btw x2 1 a3) || !btw x11 0 (IntKind.i64.wrap (a4 - 1))) = !(NS a3 x2&&btw x11 0 (IntKind.i64.wrap (a4 - 1))):=by
  unfold NS
  cases a3==0<;>cases x2==0<;>cases btw x2 1 a3<;>cases btw x11 0 (IntKind.i64.wrap (a4 - 1))<;>rfl
 rw [ho]
 show _=some [PV.bool (NS a3 x2&&(btw x11 0 (IntKind.i64.wrap (a4 - 1))&&_))]
 rw [← Bool.and_assoc]
 cases NS a3 x2&&btw x11 0 (IntKind.i64.wrap (a4 - 1))<;>try rfl
 simp only [PXb,PXc,PXn,AB]
 change (ES (fun s11 c11=>cond (iLt (pvI (AA c11 0)) ((ZO x1 x3 x5 x6 x7 x8 x9 x10 x21 x23 x25 x26).length:Int)) (cond (iIn (pvI (AA c11 0)) ((ZO x1 x3 x5 x6 x7 x8 x9 x10 x21 x23 x25 x26).length:Int)) (cond (!btw (pvI (AK (ZO x1 x3 x5 x6 x7 x8 x9 x10 x21 x23 x25 x26) (pvI (AA c11 0)).toNat 0)) 0 1000000000) (some [PV.int 0,PV.bool false]) (s11 [Leaf.int (IntKind.i64.wrap (pvI (AA c11 0)+1))])) none) (some [PV.int 1])) N [PV.int 0]).bind _=_
 generalize hM:ZO x1 x3 x5 x6 x7 x8 x9 x10 x21 x23 x25 x26=M
 have hM2:M.length=12:=by rw [← hM];rfl
 refine AL (CU (len:=M.length) (fun i=>DQ (atI M i 0)) [.bool false] ?_ ?_ N (by omega)) ?_
 ·intro self
  simp only [PXb,PXc,PXn,AB,Au]
 ·intro i self hi
  simp only [PXb,PXc,PXn,AB,AX (show i≤1099511627776 by omega),Ao hi,AP hi,A6,DQ]
 ·show _=some [PV.bool (!Aw (fun i=>DQ (atI M i 0)) M.length 0&&_)]
  cases Aw (fun i=>DQ (atI M i 0)) M.length 0<;>try rfl
  refine AL (CU (len:=L19.length) (fun i=>DQ (atI L19 i 0)) [.bool false] ?_ ?_ N (by omega)) ?_
  ·intro self
   simp only [PXb,PXc,PXn,AB,Au]
  ·intro i self hi
   simp only [PXb,PXc,PXn,AB,AX (show i≤1099511627776 by omega),Ao hi,AP hi,A6,DQ]
  ·show _=some [PV.bool (!Aw (fun i=>DQ (atI L19 i 0)) L19.length 0)]
   cases Aw (fun i=>DQ (atI L19 i 0)) L19.length 0<;>rfl
end
end Go.Px
end
section
namespace Go.Px
set_option maxRecDepth 100000
def tD (v:Bool) (L:Rows) (s n:Int) (x1 x2 x3 x10:Int):Int :=
 cond (!v) 0 (cond (iLt 0 x1&&iLe x1 x3) 3 (cond (DL L s n&&((B2 L L.length).length:Int)==0) 1 (cond (iLt 0 x2&&iLe x2 x10) 2 0)))
theorem ABO {c:Int} {n:Nat} (hc:0≤c):iRg 0 (cond (iLt c (n:Int)) c (n:Int)) (n:Int)=true:=by
 cases h:iLt c (n:Int) with
 | true=>simp only [iLt,decide_eq_true_eq] at h;simp only [cond_true,iRg,decide_eq_true_eq];omega
 | false=>simp only [cond_false,iRg,decide_eq_true_eq];omega
def cut (L:Rows) (c:Int):Rows:=(L.take (cond (iLt c (L.length:Int)) c (L.length:Int)).toNat).drop (0:Int).toNat
end Go.Px
end
section
namespace Go.Px
set_option maxRecDepth 100000
section
variable (N:Nat) (s:ByteArray) (a1 a2 a3 a4 a5 a6 a7 a9 a10 a11 a12:Int) (a8:Bool) (La:Rows) (L14 L16 L17 L19 L24:Rows) (b18 b20:Bool) (x0 x1 x2 x3 x4 x5 x6 x7 x8 x9 x10 x11 x12 x13 x15 x21 x22 x23 x25 x26 x27:Int)
theorem fu (hN : 2097152 < N) (hs : s.size ≤ 1048576) (h14 : L14.length ≤ 1048576) (h16 : L16.length ≤ 1048576) (h17 : L17.length ≤ 1048576) (h19 : L19.length ≤ 1048576) : Dl N ([.str s, .int a1, .int a2, .int a3, .int a4, .int a5, .int a6, .int a7, .bool a8, .int a9, .int a10, .int a11, .int a12, .rows La] ++ lsI L14 L16 L17 L19 L24 b18 b20 x0 x1 x2 x3 x4 x5 x6 x7 x8 x9 x10 x11 x12 x13 x15 x21 x22 x23 x25 x26 x27) =
    some [.int (tD (Lr s a1 a2 a3 a4 a5 a6 a7 a9 a10 a11 a12 La L14 L16 L17 L19 L24 x0 x1 x2 x3 x4 x5 x6 x7 x8 x9 x10 x11 x12 x13 x15 x21 x22 x23 x25 x26 x27) L14 x12 x13 x1 x2 x3 x10)]:=by
  simp only [lsI,List.cons_append,List.nil_append]
  show IJ (std (D3 N) N) (xOf _)=_
  have e1:∀ ls,D3 N 93 [] ls=BO N ls:=fun ls=>rfl
  have e2:∀ ls,D3 N 177 [] ls=BN N ls:=fun ls=>rfl
  have e3:∀ ls,D3 N 178 [] ls=C4 N ls:=fun ls=>rfl
  have l16:=UV N s a1 a2 a3 a4 a5 a6 a7 a9 a10 a11 a12 a8 La L14 L16 L17 L19 L24 b18 b20 x0 x1 x2 x3 x4 x5 x6 x7 x8 x9 x10 x11 x12 x13 x15 x21 x22 x23 x25 x26 x27 hN hs h14 h16 h17 h19
  have l61:=jQ N L14 L16 L17 L19 L24 b18 b20 x0 x1 x2 x3 x4 x5 x6 x7 x8 x9 x10 x11 x12 x13 x15 x21 x22 x23 x25 x26 x27 (by omega) (by omega)
  have l62:=nS N L14 L16 L17 L19 L24 b18 b20 x0 x1 x2 x3 x4 x5 x6 x7 x8 x9 x10 x11 x12 x13 x15 x21 x22 x23 x25 x26 x27 (by omega) (by omega)
  simp only [lsI,List.cons_append,List.nil_append] at l16 l61 l62
  simp only [IJ,std,xOf,PXb,PXc,PXn,AB,e1,e2,e3,l16,l61,l62,tD]
  cases Lr s a1 a2 a3 a4 a5 a6 a7 a9 a10 a11 a12 La L14 L16 L17 L19 L24 x0 x1 x2 x3 x4 x5 x6 x7 x8 x9 x10 x11 x12 x13 x15 x21 x22 x23 x25 x26 x27<;>try rfl
  cases (iLt 0 x1&&iLe x1 x3)<;>try rfl
  cases DL L14 x12 x13
  · cases (iLt 0 x2&&iLe x2 x10)<;>rfl
  · simp only [PXb,PXc,PXn,AB]
    cases ((B2 L14 L14.length).length:Int)==0<;>cases (iLt 0 x2&&iLe x2 x10)<;>rfl
theorem pJ (hN : 2097152 < N) (hs : s.size ≤ 1048576) (h14 : L14.length ≤ 1048576) (h16 : L16.length ≤ 1048576) (h17 : L17.length ≤ 1048576) (h19 : L19.length ≤ 1048576) : Kj N ([.str s, .int a1, .int a2, .int a3, .int a4, .int a5, .int a6, .int a7, .bool a8, .int a9, .int a10, .int a11, .int a12, .rows La] ++ lsI L14 L16 L17 L19 L24 b18 b20 x0 x1 x2 x3 x4 x5 x6 x7 x8 x9 x10 x11 x12 x13 x15 x21 x22 x23 x25 x26 x27) =
    some [.int (tD (Lr s a1 a2 a3 a4 a5 a6 a7 a9 a10 a11 a12 La L14 L16 L17 L19 L24 x0 x1 x2 x3 x4 x5 x6 x7 x8 x9 x10 x11 x12 x13 x15 x21 x22 x23 x25 x26 x27) L14 x12 x13 x1 x2 x3 x10)]:=by
  simp only [lsI,List.cons_append,List.nil_append]
  show O6 (std (Ha N) N) (xOf _)=_
  have e1:∀ ls,Ha N 108 [] ls=Cy N ls:=fun ls=>rfl
  have e2:∀ ls,Ha N 156 [] ls=CZ N ls:=fun ls=>rfl
  have e3:∀ ls,Ha N 157 [] ls=El N ls:=fun ls=>rfl
  have l16:=dY N s a1 a2 a3 a4 a5 a6 a7 a9 a10 a11 a12 a8 La L14 L16 L17 L19 L24 b18 b20 x0 x1 x2 x3 x4 x5 x6 x7 x8 x9 x10 x11 x12 x13 x15 x21 x22 x23 x25 x26 x27 hN hs h14 h16 h17 h19
  have l61:=pF N L14 L16 L17 L19 L24 b18 b20 x0 x1 x2 x3 x4 x5 x6 x7 x8 x9 x10 x11 x12 x13 x15 x21 x22 x23 x25 x26 x27 (by omega) (by omega)
  have l62:=ux N L14 L16 L17 L19 L24 b18 b20 x0 x1 x2 x3 x4 x5 x6 x7 x8 x9 x10 x11 x12 x13 x15 x21 x22 x23 x25 x26 x27 (by omega) (by omega)
  simp only [lsI,List.cons_append,List.nil_append] at l16 l61 l62
  simp only [O6,std,xOf,PXb,PXc,PXn,AB,e1,e2,e3,l16,l61,l62,tD]
  cases Lr s a1 a2 a3 a4 a5 a6 a7 a9 a10 a11 a12 La L14 L16 L17 L19 L24 x0 x1 x2 x3 x4 x5 x6 x7 x8 x9 x10 x11 x12 x13 x15 x21 x22 x23 x25 x26 x27<;>try rfl
  cases (iLt 0 x1&&iLe x1 x3)<;>try rfl
  cases DL L14 x12 x13
  · cases (iLt 0 x2&&iLe x2 x10)<;>rfl
  · simp only [PXb,PXc,PXn,AB]
    cases ((B2 L14 L14.length).length:Int)==0<;>cases (iLt 0 x2&&iLe x2 x10)<;>rfl
end
end Go.Px
end
section
namespace Go.Px
set_option maxRecDepth 100000
section
variable (N:Nat) (s:ByteArray) (a1 a2 a3 a4 a5 a6 a7 a9 a10 a11 a12:Int) (a8:Bool) (La:Rows) (L14 L16 L17 L19 L24:Rows) (b18 b20:Bool) (x0 x1 x2 x3 x4 x5 x6 x7 x8 x9 x10 x11 x12 x13 x15 x21 x22 x23 x25 x26 x27:Int)
def CR (a4 x10 x11:Int):Int:=IntKind.i64.wrap (IntKind.i64.wrap (x10 * a4)+x11)
end
end Go.Px
end
section
namespace Go.Px
set_option maxRecDepth 100000
def A1 (r:Rul):Int:=D8 r.name r.side r.innings r.overs r.balls r.quota r.wide r.noball r.newball r.followon r.reviews r.outside r.power
theorem DX {N:Nat} {r1 r2 r3 r4 r5 r6 r7 r9 r10 r11 r12:Int} {r8:Bool} {r0:ByteArray} {r13:Rows} (hN:2097152<N) (hs:r0.size≤1048576):AS N [.str r0,.int r1,.int r2,.int r3,.int r4,.int r5,.int r6,.int r7,.bool r8,.int r9,.int r10,.int r11,.int r12,.rows r13]=some [.int (A1 (⟨r0,r1,r2,r3,r4,r5,r6,r7,r8,r9,r10,r11,r12,r13⟩:Rul))]:=by
 exact Xr N _ _ _ _ _ _ _ _ _ _ _ _ _ _ hN hs
theorem Ew {N:Nat} {r1 r2 r3 r4 r5 r6 r7 r9 r10 r11 r12:Int} {r8:Bool} {r0:ByteArray} {r13:Rows} (hN:2097152<N) (hs:r0.size≤1048576):Aj N [.str r0,.int r1,.int r2,.int r3,.int r4,.int r5,.int r6,.int r7,.bool r8,.int r9,.int r10,.int r11,.int r12,.rows r13]=some [.int (A1 (⟨r0,r1,r2,r3,r4,r5,r6,r7,r8,r9,r10,r11,r12,r13⟩:Rul))]:=by
 exact eD N _ _ _ _ _ _ _ _ _ _ _ _ _ _ hN hs
theorem XN {N:Nat} {s0 s1 s2 s3 s4 s5 s6 s7 s8 s9 s10 s11 s12 s13 s15 s21 s22 s23 s25 s26 s27:Int} {s18 s20:Bool} {s14 s16 s17 s19 s24:Rows} (h:Fit s14 s16 s17 s19 s24):Cv N [.int s0,.int s1,.int s2,.int s3,.int s4,.int s5,.int s6,.int s7,.int s8,.int s9,.int s10,.int s11,.int s12,.int s13,.rows s14,.int s15,.rows s16,.rows s17,.bool s18,.rows s19,.bool s20,.int s21,.int s22,.int s23,.rows s24,.int s25,.int s26,.int s27]=some [.int s0,.int s1,.int s2,.int s3,.int s4,.int s5,.int s6,.int s7,.int s8,.int s9,.int s10,.int s11,.int s12,.int s13,.rows s14,.int s15,.rows s16,.rows s17,.bool s18,.rows s19,.bool s20,.int s21,.int s22,.int s23,.rows s24,.int s25,.int s26,.int s27]:=by
 show Qw (std (I2 N) N) (xOf _)=_
 simp only [Qw,Np,QC,Pl,std,xOf,PXb,PXc,PXn,PXm,Nat.reduceAdd,Int.reduceBEq,AU,Al,Ah,Bi h.bt (show 1≤4096 by omega),Bi h.bw' (show 8≤4096 by omega),Bi h.bf (show 8≤4096 by omega),Bi h.bd (show 8≤4096 by omega),Bi h.sb (show 1≤4096 by omega)]
theorem XS {N:Nat} {s0 s1 s2 s3 s4 s5 s6 s7 s8 s9 s10 s11 s12 s13 s15 s21 s22 s23 s25 s26 s27:Int} {s18 s20:Bool} {s14 s16 s17 s19 s24:Rows} (h:Fit s14 s16 s17 s19 s24):C0 N [.int s0,.int s1,.int s2,.int s3,.int s4,.int s5,.int s6,.int s7,.int s8,.int s9,.int s10,.int s11,.int s12,.int s13,.rows s14,.int s15,.rows s16,.rows s17,.bool s18,.rows s19,.bool s20,.int s21,.int s22,.int s23,.rows s24,.int s25,.int s26,.int s27]=some [.int s0,.int s1,.int s2,.int s3,.int s4,.int s5,.int s6,.int s7,.int s8,.int s9,.int s10,.int s11,.int s12,.int s13,.rows s14,.int s15,.rows s16,.rows s17,.bool s18,.rows s19,.bool s20,.int s21,.int s22,.int s23,.rows s24,.int s25,.int s26,.int s27]:=by
 show RU (std (Ik N) N) (xOf _)=_
 simp only [RU,Nq,QB,Pj,std,xOf,PXb,PXc,PXn,PXm,Nat.reduceAdd,Int.reduceBEq,AU,Al,Ah,Bi h.bt (show 1≤4096 by omega),Bi h.bw' (show 8≤4096 by omega),Bi h.bf (show 8≤4096 by omega),Bi h.bd (show 8≤4096 by omega),Bi h.sb (show 1≤4096 by omega)]
theorem CK {N:Nat} {s0 s1 s2 s3 s4 s5 s6 s7 s8 s9 s10 s11 s12 s13 s15 s21 s22 s23 s25 s26 s27:Int} {s18 s20:Bool} {s14 s16 s17 s19 s24:Rows} (h:Fit s14 s16 s17 s19 s24):AQ N [.int s0,.int s1,.int s2,.int s3,.int s4,.int s5,.int s6,.int s7,.int s8,.int s9,.int s10,.int s11,.int s12,.int s13,.rows s14,.int s15,.rows s16,.rows s17,.bool s18,.rows s19,.bool s20,.int s21,.int s22,.int s23,.rows s24,.int s25,.int s26,.int s27]=some [.int s0,.int s1,.int s2,.int s3,.int s4,.int s5,.int s6,.int s7,.int s8,.int s9,.int s10,.int s11,.int s12,.int s13,.rows s14,.int s15,.rows s16,.rows s17,.bool s18,.rows s19,.bool s20,.int s21,.int s22,.int s23,.rows s24,.int s25,.int s26,.int s27]:=by
 show Jr (std (EW N) N) (xOf _)=_
 simp only [Jr,Ky,NI,Lp,std,xOf,PXb,PXc,PXn,PXm,Nat.reduceAdd,Int.reduceBEq,AU,Al,Ah,Bi h.bt (show 1≤4096 by omega),Bi h.bw' (show 8≤4096 by omega),Bi h.bf (show 8≤4096 by omega),Bi h.bd (show 8≤4096 by omega),Bi h.sb (show 1≤4096 by omega)]
theorem Xa {N:Nat} {s0 s1 s2 s3 s4 s5 s6 s7 s8 s9 s10 s11 s12 s13 s15 s21 s22 s23 s25 s26 s27:Int} {s18 s20:Bool} {s14 s16 s17 s19 s24:Rows} (h:Fit s14 s16 s17 s19 s24):DG N [.int s0,.int s1,.int s2,.int s3,.int s4,.int s5,.int s6,.int s7,.int s8,.int s9,.int s10,.int s11,.int s12,.int s13,.rows s14,.int s15,.rows s16,.rows s17,.bool s18,.rows s19,.bool s20,.int s21,.int s22,.int s23,.rows s24,.int s25,.int s26,.int s27]=some [.int s0,.int s1,.int s2,.int s3,.int s4,.int s5,.int s6,.int s7,.int s8,.int s9,.int s10,.int s11,.int s12,.int s13,.rows s14,.int s15,.rows s16,.rows s17,.bool s18,.rows s19,.bool s20,.int s21,.int s22,.int s23,.rows s24,.int s25,.int s26,.int s27]:=by
 show Qm (std (Sc N) N) (xOf _)=_
 simp only [Qm,Yh,std,xOf,PXb,PXc,PXn,PXm,Nat.reduceAdd,Int.reduceBEq,CE h]
theorem Sk {N:Nat} {s0 s1 s2 s3 s4 s5 s6 s7 s8 s9 s10 s11 s12 s13 s15 s21 s22 s23 s25 s26 s27:Int} {s18 s20:Bool} {s14 s16 s17 s19 s24:Rows} {p:Int}  : B3 N [.int s0,.int s1,.int s2,.int s3,.int s4,.int s5,.int s6,.int s7,.int s8,.int s9,.int s10,.int s11,.int s12,.int s13,.rows s14,.int s15,.rows s16,.rows s17,.bool s18,.rows s19,.bool s20,.int s21,.int s22,.int s23,.rows s24,.int s25,.int s26,.int s27,.int p]=some [.bool (inR p s19.length)]:=by
 show MS (std (WQ N) N) (xOf _)=_
 simp only [MS,std,xOf,PXb,PXc,PXn,PXm,Nat.reduceAdd,Int.reduceBEq]
 rfl
theorem UO {N:Nat} {s0 s1 s2 s3 s4 s5 s6 s7 s8 s9 s10 s11 s12 s13 s15 s21 s22 s23 s25 s26 s27:Int} {s18 s20:Bool} {s14 s16 s17 s19 s24:Rows} {p:Int}  : CV N [.int s0,.int s1,.int s2,.int s3,.int s4,.int s5,.int s6,.int s7,.int s8,.int s9,.int s10,.int s11,.int s12,.int s13,.rows s14,.int s15,.rows s16,.rows s17,.bool s18,.rows s19,.bool s20,.int s21,.int s22,.int s23,.rows s24,.int s25,.int s26,.int s27,.int p]=some [.bool (inR p s19.length)]:=by
 show Ol (std (Xq N) N) (xOf _)=_
 simp only [Ol,std,xOf,PXb,PXc,PXn,PXm,Nat.reduceAdd,Int.reduceBEq]
 rfl
theorem Is {N:Nat} {s0 s1 s2 s3 s4 s5 s6 s7 s8 s9 s10 s11 s12 s13 s15 s21 s22 s23 s25 s26 s27:Int} {s18 s20:Bool} {s14 s16 s17 s19 s24:Rows} {p:Int}  : A8 N [.int s0,.int s1,.int s2,.int s3,.int s4,.int s5,.int s6,.int s7,.int s8,.int s9,.int s10,.int s11,.int s12,.int s13,.rows s14,.int s15,.rows s16,.rows s17,.bool s18,.rows s19,.bool s20,.int s21,.int s22,.int s23,.rows s24,.int s25,.int s26,.int s27,.int p]=some [.bool (inR p s24.length)]:=by
 show Mj (std (V6 N) N) (xOf _)=_
 simp only [Mj,std,xOf,PXb,PXc,PXn,PXm,Nat.reduceAdd,Int.reduceBEq]
 rfl
theorem PO {N:Nat} {s0 s1 s2 s3 s4 s5 s6 s7 s8 s9 s10 s11 s12 s13 s15 s21 s22 s23 s25 s26 s27:Int} {s18 s20:Bool} {s14 s16 s17 s19 s24:Rows} {p:Int}  : Be N [.int s0,.int s1,.int s2,.int s3,.int s4,.int s5,.int s6,.int s7,.int s8,.int s9,.int s10,.int s11,.int s12,.int s13,.rows s14,.int s15,.rows s16,.rows s17,.bool s18,.rows s19,.bool s20,.int s21,.int s22,.int s23,.rows s24,.int s25,.int s26,.int s27,.int p]=some [.bool (inR p s24.length)]:=by
 show PQ (std (YF N) N) (xOf _)=_
 simp only [PQ,std,xOf,PXb,PXc,PXn,PXm,Nat.reduceAdd,Int.reduceBEq]
 rfl
def atB (L:Rows) (i j:Nat):Bool:=pvB (AK L i j)
theorem mt (L:Rows) (i j:Nat):pvB (AK L i j)=atB L i j:=rfl
def DE (s:Inn) (p:Int):Bool:=inR p s.subs.length&&atB s.subs (ix p) 0
theorem IC {N:Nat} {s0 s1 s2 s3 s4 s5 s6 s7 s8 s9 s10 s11 s12 s13 s15 s21 s22 s23 s25 s26 s27:Int} {s18 s20:Bool} {s14 s16 s17 s19 s24:Rows} {p:Int} (h:s24.length≤1048576):A7 N [.int s0,.int s1,.int s2,.int s3,.int s4,.int s5,.int s6,.int s7,.int s8,.int s9,.int s10,.int s11,.int s12,.int s13,.rows s14,.int s15,.rows s16,.rows s17,.bool s18,.rows s19,.bool s20,.int s21,.int s22,.int s23,.rows s24,.int s25,.int s26,.int s27,.int p]=some [.bool (DE (⟨s0,s1,s2,s3,s4,s5,s6,s7,s8,s9,s10,s11,s12,s13,s14,s15,s16,s17,s18,s19,s20,s21,s22,s23,s24,s25,s26,s27⟩:Inn) p)]:=by
 show II (std (Kd N) N) (xOf _)=_
 generalize hres:(some [.bool (DE (⟨s0,s1,s2,s3,s4,s5,s6,s7,s8,s9,s10,s11,s12,s13,s14,s15,s16,s17,s18,s19,s20,s21,s22,s23,s24,s25,s26,s27⟩:Inn) p)]:Option (List PV))=RR
 simp only [II,QS,std,xOf,PXb,PXc,PXn,PXm,Nat.reduceAdd,Int.reduceBEq,Is,wO h]
 subst hres;simp only [DE]
 cases hp:inR p s24.length with
 | false=>rfl
 | true=>first | rfl | (rw [Dd hp h];rfl)
theorem Hu {N:Nat} {s0 s1 s2 s3 s4 s5 s6 s7 s8 s9 s10 s11 s12 s13 s15 s21 s22 s23 s25 s26 s27:Int} {s18 s20:Bool} {s14 s16 s17 s19 s24:Rows} {p:Int} (h:s24.length≤1048576):A5 N [.int s0,.int s1,.int s2,.int s3,.int s4,.int s5,.int s6,.int s7,.int s8,.int s9,.int s10,.int s11,.int s12,.int s13,.rows s14,.int s15,.rows s16,.rows s17,.bool s18,.rows s19,.bool s20,.int s21,.int s22,.int s23,.rows s24,.int s25,.int s26,.int s27,.int p]=some [.bool (DE (⟨s0,s1,s2,s3,s4,s5,s6,s7,s8,s9,s10,s11,s12,s13,s14,s15,s16,s17,s18,s19,s20,s21,s22,s23,s24,s25,s26,s27⟩:Inn) p)]:=by
 show Kp (std (Un N) N) (xOf _)=_
 generalize hres:(some [.bool (DE (⟨s0,s1,s2,s3,s4,s5,s6,s7,s8,s9,s10,s11,s12,s13,s14,s15,s16,s17,s18,s19,s20,s21,s22,s23,s24,s25,s26,s27⟩:Inn) p)]:Option (List PV))=RR
 simp only [Kp,std,xOf,PXb,PXc,PXn,PXm,Nat.reduceAdd,Int.reduceBEq,wO h]
 subst hres;simp only [DE]
 cases hp:inR p s24.length with
 | false =>
  unfold inR at hp
  have hq:(!iLe 1 p || !iLe p (s24.length:Int)||iIn (IntKind.i64.wrap (p - 1)) (s24.length:Int))=true:=by rw [← Bool.not_and,hp];rfl
  simp only [hp,hq,PXb,PXc,PXn,PXm,Nat.reduceAdd,Int.reduceBEq]
 | true=>have hk:=Dd hp h;unfold inR at hp;simp only [hp,hk,PXb,PXc,PXn,PXm,Nat.reduceAdd,Int.reduceBEq,atB,ix]
def ir (x:Int):Int:=cond (iLt x 0) 0 x
def PH (r:Rul) (s:Inn) (p:Int):Int :=
 cond (!inR p s.bowled.length || !(A1 r==0)) 0 (cond (r.quota==0) (-1) (ir (IntKind.i64.wrap (IntKind.i64.wrap (r.quota * r.balls) - ir (atI s.bowled (ix p) 0)))))
theorem wQ (r:Rul) (s:Inn) (p:Int):iLe 0 (PH r s p) = !(PH r s p == -1):=by
 unfold PH
 cases (!inR p s.bowled.length || !(A1 r==0)) with
 | true=>rfl
 | false =>
  cases r.quota==0 with
  | true=>rfl
  | false =>
   simp only [cond_false]
   generalize IntKind.i64.wrap (IntKind.i64.wrap (r.quota * r.balls) - ir (atI s.bowled (ix p) 0))=x
   unfold ir
   cases h:iLt x 0 with
   | true=>rfl
   | false =>
    simp only [iLt,decide_eq_false_iff_not] at h
    simp only [cond_false]
    have h1:iLe 0 x=true:=by simp only [iLe,decide_eq_true_eq];omega
    have h2:(x == -1)=false:=by simp only [beq_eq_false_iff_ne];omega
    rw [h1,h2];rfl
theorem rG {N:Nat} {r1 r2 r3 r4 r5 r6 r7 r9 r10 r11 r12:Int} {r8:Bool} {r0:ByteArray} {r13:Rows} {s0 s1 s2 s3 s4 s5 s6 s7 s8 s9 s10 s11 s12 s13 s15 s21 s22 s23 s25 s26 s27:Int} {s18 s20:Bool} {s14 s16 s17 s19 s24:Rows} {p:Int} (h:Fit s14 s16 s17 s19 s24) (hN:2097152<N) (hs:r0.size≤1048576):KX N [.str r0,.int r1,.int r2,.int r3,.int r4,.int r5,.int r6,.int r7,.bool r8,.int r9,.int r10,.int r11,.int r12,.rows r13,.int s0,.int s1,.int s2,.int s3,.int s4,.int s5,.int s6,.int s7,.int s8,.int s9,.int s10,.int s11,.int s12,.int s13,.rows s14,.int s15,.rows s16,.rows s17,.bool s18,.rows s19,.bool s20,.int s21,.int s22,.int s23,.rows s24,.int s25,.int s26,.int s27,.int p]=some [.int (PH (⟨r0,r1,r2,r3,r4,r5,r6,r7,r8,r9,r10,r11,r12,r13⟩:Rul) (⟨s0,s1,s2,s3,s4,s5,s6,s7,s8,s9,s10,s11,s12,s13,s14,s15,s16,s17,s18,s19,s20,s21,s22,s23,s24,s25,s26,s27⟩:Inn) p)]:=by
 show O5 (std (LF N) N) (xOf _)=_
 generalize hres:(some [.int (PH (⟨r0,r1,r2,r3,r4,r5,r6,r7,r8,r9,r10,r11,r12,r13⟩:Rul) (⟨s0,s1,s2,s3,s4,s5,s6,s7,s8,s9,s10,s11,s12,s13,s14,s15,s16,s17,s18,s19,s20,s21,s22,s23,s24,s25,s26,s27⟩:Inn) p)]:Option (List PV))=RR
 simp only [O5,UT,Uf,std,xOf,PXb,PXc,PXn,PXm,Nat.reduceAdd,Int.reduceBEq,DX hN hs,Sk]
 subst hres;simp only [PH]
 cases hp:inR p s19.length with
 | false=>rfl
 | true=>rw [Dd hp h.bd];cases A1 (⟨r0,r1,r2,r3,r4,r5,r6,r7,r8,r9,r10,r11,r12,r13⟩:Rul)==0<;>cases r5==0<;>rfl
theorem wG {N:Nat} {r1 r2 r3 r4 r5 r6 r7 r9 r10 r11 r12:Int} {r8:Bool} {r0:ByteArray} {r13:Rows} {s0 s1 s2 s3 s4 s5 s6 s7 s8 s9 s10 s11 s12 s13 s15 s21 s22 s23 s25 s26 s27:Int} {s18 s20:Bool} {s14 s16 s17 s19 s24:Rows} {p:Int} (h:Fit s14 s16 s17 s19 s24) (hN:2097152<N) (hs:r0.size≤1048576):N9 N [.str r0,.int r1,.int r2,.int r3,.int r4,.int r5,.int r6,.int r7,.bool r8,.int r9,.int r10,.int r11,.int r12,.rows r13,.int s0,.int s1,.int s2,.int s3,.int s4,.int s5,.int s6,.int s7,.int s8,.int s9,.int s10,.int s11,.int s12,.int s13,.rows s14,.int s15,.rows s16,.rows s17,.bool s18,.rows s19,.bool s20,.int s21,.int s22,.int s23,.rows s24,.int s25,.int s26,.int s27,.int p]=some [.int (PH (⟨r0,r1,r2,r3,r4,r5,r6,r7,r8,r9,r10,r11,r12,r13⟩:Rul) (⟨s0,s1,s2,s3,s4,s5,s6,s7,s8,s9,s10,s11,s12,s13,s14,s15,s16,s17,s18,s19,s20,s21,s22,s23,s24,s25,s26,s27⟩:Inn) p)]:=by
 show Tn (std (Ok N) N) (xOf _)=_
 generalize hres:(some [.int (PH (⟨r0,r1,r2,r3,r4,r5,r6,r7,r8,r9,r10,r11,r12,r13⟩:Rul) (⟨s0,s1,s2,s3,s4,s5,s6,s7,s8,s9,s10,s11,s12,s13,s14,s15,s16,s17,s18,s19,s20,s21,s22,s23,s24,s25,s26,s27⟩:Inn) p)]:Option (List PV))=RR
 simp only [Tn,ZW,Xs,std,xOf,PXb,PXc,PXn,PXm,Nat.reduceAdd,Int.reduceBEq,Ew hN hs,UO]
 subst hres;simp only [PH]
 cases hp:inR p s19.length with
 | false=>cases A1 (⟨r0,r1,r2,r3,r4,r5,r6,r7,r8,r9,r10,r11,r12,r13⟩:Rul)==0<;>rfl
 | true=>rw [Dd hp h.bd];cases A1 (⟨r0,r1,r2,r3,r4,r5,r6,r7,r8,r9,r10,r11,r12,r13⟩:Rul)==0<;>cases r5==0<;>rfl
theorem oe {N:Nat} {L:Rows} {v:Int} (hN:2097152<N) (hl:L.length≤1048576):H0 N [.rows L,.int v]=some [.bool (Hh L L.length v)]:=by
 show WV (std (iR N) N) (xOf _)=_
 simp only [WV,std,xOf,PXb,PXc,PXn,AB]
 refine AL (CU (len:=L.length) (fun j=>v==atI L j 0) [.bool true] ?_ ?_ N (by omega)) ?_
 ·intro self
  simp only [PXb,PXc,PXn,AB,Au]
 ·intro i self hi
  simp only [PXb,PXc,PXn,AB,AX (show i≤1099511627776 by omega),Ao hi,AP hi,A6]
  rw [BEq.comm (a:=v)]
 ·unfold Hh
  cases Aw (fun j=>v==atI L j 0) L.length 0<;>rfl
theorem NX {N:Nat} {L:Rows} {v:Int} (hN:2097152<N) (hl:L.length≤1048576):Av N [.rows L,.int v]=some [.bool (Hh L L.length v)]:=by
 exact Lx N L v (by omega) (by omega)
def HE (r:Rul) (s:Inn) (p:Int):Int :=
  cond (!inR p s.bowled.length || !(A1 r==0)) 3 (cond (p==s.keeper||p==s.bowler||DE s p) 7
    (cond (Hh s.before s.before.length p) 8 (cond (!(PH r s p == -1)&&iLt s.inover (IntKind.i64.wrap (r.balls - PH r s p))) 9 0)))
theorem yK {p:Int} {n m:Nat} (h:inR p n=true):inR p m=iLe p (m:Int):=by
 unfold inR at h ⊢
 rw [Bool.and_eq_true] at h
 rw [h.1,Bool.true_and]
theorem u5 {N:Nat} {r1 r2 r3 r4 r5 r6 r7 r9 r10 r11 r12:Int} {r8:Bool} {r0:ByteArray} {r13:Rows} {s0 s1 s2 s3 s4 s5 s6 s7 s8 s9 s10 s11 s12 s13 s15 s21 s22 s23 s25 s26 s27:Int} {s18 s20:Bool} {s14 s16 s17 s19 s24:Rows} {p:Int} (h:Fit s14 s16 s17 s19 s24) (hN:2097152<N) (hs:r0.size≤1048576):L9 N [.str r0,.int r1,.int r2,.int r3,.int r4,.int r5,.int r6,.int r7,.bool r8,.int r9,.int r10,.int r11,.int r12,.rows r13,.int s0,.int s1,.int s2,.int s3,.int s4,.int s5,.int s6,.int s7,.int s8,.int s9,.int s10,.int s11,.int s12,.int s13,.rows s14,.int s15,.rows s16,.rows s17,.bool s18,.rows s19,.bool s20,.int s21,.int s22,.int s23,.rows s24,.int s25,.int s26,.int s27,.int p]=some [.int (HE (⟨r0,r1,r2,r3,r4,r5,r6,r7,r8,r9,r10,r11,r12,r13⟩:Rul) (⟨s0,s1,s2,s3,s4,s5,s6,s7,s8,s9,s10,s11,s12,s13,s14,s15,s16,s17,s18,s19,s20,s21,s22,s23,s24,s25,s26,s27⟩:Inn) p)]:=by
 show Qr (std (Fx N) N) (xOf _)=_
 generalize hres:(some [.int (HE (⟨r0,r1,r2,r3,r4,r5,r6,r7,r8,r9,r10,r11,r12,r13⟩:Rul) (⟨s0,s1,s2,s3,s4,s5,s6,s7,s8,s9,s10,s11,s12,s13,s14,s15,s16,s17,s18,s19,s20,s21,s22,s23,s24,s25,s26,s27⟩:Inn) p)]:Option (List PV))=RR
 simp only [Qr,VT,Nw,Vk,XC,std,xOf,PXb,PXc,PXn,PXm,Nat.reduceAdd,Int.reduceBEq,DX hN hs,Sk,rG h hN hs,NX hN h.bf]
 subst hres;simp only [HE,DE]
 cases hp:inR p s19.length with
 | false=>rfl
 | true =>
  rw [yK (m:=s24.length) hp]
  have hq:(!(iLe p (s24.length:Int))||iIn (IntKind.i64.wrap (p - 1)) (s24.length:Int))=true:=by
   cases h1:iLe p (s24.length:Int) with
   | false=>rfl
   | true=>rw [Dd (by rw [yK hp];exact h1) h.sb];rfl
  rw [hq]
  cases A1 (⟨r0,r1,r2,r3,r4,r5,r6,r7,r8,r9,r10,r11,r12,r13⟩:Rul)==0<;>rfl
theorem xu {N:Nat} {r1 r2 r3 r4 r5 r6 r7 r9 r10 r11 r12:Int} {r8:Bool} {r0:ByteArray} {r13:Rows} {s0 s1 s2 s3 s4 s5 s6 s7 s8 s9 s10 s11 s12 s13 s15 s21 s22 s23 s25 s26 s27:Int} {s18 s20:Bool} {s14 s16 s17 s19 s24:Rows} {p:Int} (h:Fit s14 s16 s17 s19 s24) (hN:2097152<N) (hs:r0.size≤1048576):Rr N [.str r0,.int r1,.int r2,.int r3,.int r4,.int r5,.int r6,.int r7,.bool r8,.int r9,.int r10,.int r11,.int r12,.rows r13,.int s0,.int s1,.int s2,.int s3,.int s4,.int s5,.int s6,.int s7,.int s8,.int s9,.int s10,.int s11,.int s12,.int s13,.rows s14,.int s15,.rows s16,.rows s17,.bool s18,.rows s19,.bool s20,.int s21,.int s22,.int s23,.rows s24,.int s25,.int s26,.int s27,.int p]=some [.int (HE (⟨r0,r1,r2,r3,r4,r5,r6,r7,r8,r9,r10,r11,r12,r13⟩:Rul) (⟨s0,s1,s2,s3,s4,s5,s6,s7,s8,s9,s10,s11,s12,s13,s14,s15,s16,s17,s18,s19,s20,s21,s22,s23,s24,s25,s26,s27⟩:Inn) p)]:=by
 show WU (std (Gk N) N) (xOf _)=_
 generalize hres:(some [.int (HE (⟨r0,r1,r2,r3,r4,r5,r6,r7,r8,r9,r10,r11,r12,r13⟩:Rul) (⟨s0,s1,s2,s3,s4,s5,s6,s7,s8,s9,s10,s11,s12,s13,s14,s15,s16,s17,s18,s19,s20,s21,s22,s23,s24,s25,s26,s27⟩:Inn) p)]:Option (List PV))=RR
 simp only [WU,cA,W9,Zr,dU,fq,std,xOf,PXb,PXc,PXn,PXm,Nat.reduceAdd,Int.reduceBEq,Ew hN hs,UO,wG h hN hs,oe hN h.bf,Hu h.sb,wQ]
 subst hres;simp only [HE]
 cases hp:inR p s19.length<;>cases A1 (⟨r0,r1,r2,r3,r4,r5,r6,r7,r8,r9,r10,r11,r12,r13⟩:Rul)==0<;>cases p==s22<;>cases p==s15<;>rfl
def RI (r:Rul) (s:Inn) (p:Int):Inn×Int:=(cond (HE r s p==0) { s with bowler:=p } s,HE r s p)
theorem rM {N:Nat} {r1 r2 r3 r4 r5 r6 r7 r9 r10 r11 r12:Int} {r8:Bool} {r0:ByteArray} {r13:Rows} {s0 s1 s2 s3 s4 s5 s6 s7 s8 s9 s10 s11 s12 s13 s15 s21 s22 s23 s25 s26 s27:Int} {s18 s20:Bool} {s14 s16 s17 s19 s24:Rows} {p:Int} (h:Fit s14 s16 s17 s19 s24) (hN:2097152<N) (hs:r0.size≤1048576):KA N [.str r0,.int r1,.int r2,.int r3,.int r4,.int r5,.int r6,.int r7,.bool r8,.int r9,.int r10,.int r11,.int r12,.rows r13,.int s0,.int s1,.int s2,.int s3,.int s4,.int s5,.int s6,.int s7,.int s8,.int s9,.int s10,.int s11,.int s12,.int s13,.rows s14,.int s15,.rows s16,.rows s17,.bool s18,.rows s19,.bool s20,.int s21,.int s22,.int s23,.rows s24,.int s25,.int s26,.int s27,.int p]=some (AZ (RI (⟨r0,r1,r2,r3,r4,r5,r6,r7,r8,r9,r10,r11,r12,r13⟩:Rul) (⟨s0,s1,s2,s3,s4,s5,s6,s7,s8,s9,s10,s11,s12,s13,s14,s15,s16,s17,s18,s19,s20,s21,s22,s23,s24,s25,s26,s27⟩:Inn) p)):=by
 show Ot (std (LB N) N) (xOf _)=_
 generalize hres:(some (AZ (RI (⟨r0,r1,r2,r3,r4,r5,r6,r7,r8,r9,r10,r11,r12,r13⟩:Rul) (⟨s0,s1,s2,s3,s4,s5,s6,s7,s8,s9,s10,s11,s12,s13,s14,s15,s16,s17,s18,s19,s20,s21,s22,s23,s24,s25,s26,s27⟩:Inn) p)):Option (List PV))=RR
 simp only [Ot,Xj,XO,std,xOf,PXb,PXc,PXn,PXm,Nat.reduceAdd,Int.reduceBEq,XN h,u5 h hN hs]
 subst hres;simp only [RI]
 cases HE (⟨r0,r1,r2,r3,r4,r5,r6,r7,r8,r9,r10,r11,r12,r13⟩:Rul) (⟨s0,s1,s2,s3,s4,s5,s6,s7,s8,s9,s10,s11,s12,s13,s14,s15,s16,s17,s18,s19,s20,s21,s22,s23,s24,s25,s26,s27⟩:Inn) p==0<;>rfl
theorem wF {N:Nat} {r1 r2 r3 r4 r5 r6 r7 r9 r10 r11 r12:Int} {r8:Bool} {r0:ByteArray} {r13:Rows} {s0 s1 s2 s3 s4 s5 s6 s7 s8 s9 s10 s11 s12 s13 s15 s21 s22 s23 s25 s26 s27:Int} {s18 s20:Bool} {s14 s16 s17 s19 s24:Rows} {p:Int} (h:Fit s14 s16 s17 s19 s24) (hN:2097152<N) (hs:r0.size≤1048576):Ts N [.str r0,.int r1,.int r2,.int r3,.int r4,.int r5,.int r6,.int r7,.bool r8,.int r9,.int r10,.int r11,.int r12,.rows r13,.int s0,.int s1,.int s2,.int s3,.int s4,.int s5,.int s6,.int s7,.int s8,.int s9,.int s10,.int s11,.int s12,.int s13,.rows s14,.int s15,.rows s16,.rows s17,.bool s18,.rows s19,.bool s20,.int s21,.int s22,.int s23,.rows s24,.int s25,.int s26,.int s27,.int p]=some (AZ (RI (⟨r0,r1,r2,r3,r4,r5,r6,r7,r8,r9,r10,r11,r12,r13⟩:Rul) (⟨s0,s1,s2,s3,s4,s5,s6,s7,s8,s9,s10,s11,s12,s13,s14,s15,s16,s17,s18,s19,s20,s21,s22,s23,s24,s25,s26,s27⟩:Inn) p)):=by
 show TA (std (PX N) N) (xOf _)=_
 generalize hres:(some (AZ (RI (⟨r0,r1,r2,r3,r4,r5,r6,r7,r8,r9,r10,r11,r12,r13⟩:Rul) (⟨s0,s1,s2,s3,s4,s5,s6,s7,s8,s9,s10,s11,s12,s13,s14,s15,s16,s17,s18,s19,s20,s21,s22,s23,s24,s25,s26,s27⟩:Inn) p)):Option (List PV))=RR
 simp only [TA,aE,dl,std,xOf,PXb,PXc,PXn,PXm,Nat.reduceAdd,Int.reduceBEq,CE h,xu h hN hs]
 subst hres;simp only [RI]
 cases HE (⟨r0,r1,r2,r3,r4,r5,r6,r7,r8,r9,r10,r11,r12,r13⟩:Rul) (⟨s0,s1,s2,s3,s4,s5,s6,s7,s8,s9,s10,s11,s12,s13,s14,s15,s16,s17,s18,s19,s20,s21,s22,s23,s24,s25,s26,s27⟩:Inn) p==0<;>rfl
def mw (x:Inn×Bool):List PV:=[.int x.1.side,.int x.1.target,.int x.1.overs,.int x.1.runs,.int x.1.wickets,.int x.1.wides,.int x.1.noballs,.int x.1.byes,.int x.1.legbyes,.int x.1.pens,.int x.1.complete,.int x.1.inover,.int x.1.striker,.int x.1.other,.rows x.1.batters,.int x.1.bowler,.rows x.1.bowlers,.rows x.1.before,.bool x.1.fresh,.rows x.1.bowled,.bool x.1.freehit,.int x.1.ballage,.int x.1.keeper,.int x.1.outside,.rows x.1.subs,.int x.1.rev1,.int x.1.rev2,.int x.1.ending,.bool x.2]
def inc (x:Int):Int:=IntKind.i64.wrap (x+1)
def Ak (r:Rul) (s:Inn) (counts:Bool):Inn×Bool :=
  cond (!inR s.bowler s.bowled.length || !(A1 r==0)) (s,false)
    (let L:=cond (Hh s.bowlers s.bowlers.length s.bowler) s.bowlers (s.bowlers++[[.int s.bowler]])
     let o:=cond counts (inc s.inover) s.inover
     let t:Inn:={ s with bowlers:=L,bowled:=cond counts (KH s.bowled s.bowler (inc (atI s.bowled (ix s.bowler) 0))) s.bowled,inover:=o,ballage:=cond counts (inc s.ballage) s.ballage }
     cond (iLt o r.balls) (t,false) ({ t with complete:=inc s.complete,inover:=0,before:=L,bowlers:=[],bowler:=0 },true))
theorem tR {N:Nat} {r1 r2 r3 r4 r5 r6 r7 r9 r10 r11 r12:Int} {r8:Bool} {r0:ByteArray} {r13:Rows} {s0 s1 s2 s3 s4 s5 s6 s7 s8 s9 s10 s11 s12 s13 s15 s21 s22 s23 s25 s26 s27:Int} {s18 s20:Bool} {s14 s16 s17 s19 s24:Rows} {b:Bool} (h:Fit s14 s16 s17 s19 s24) (hw:s16.length≤1048575) (hN:2097152<N) (hs:r0.size≤1048576):Ke N [.str r0,.int r1,.int r2,.int r3,.int r4,.int r5,.int r6,.int r7,.bool r8,.int r9,.int r10,.int r11,.int r12,.rows r13,.int s0,.int s1,.int s2,.int s3,.int s4,.int s5,.int s6,.int s7,.int s8,.int s9,.int s10,.int s11,.int s12,.int s13,.rows s14,.int s15,.rows s16,.rows s17,.bool s18,.rows s19,.bool s20,.int s21,.int s22,.int s23,.rows s24,.int s25,.int s26,.int s27,.bool b]=some (mw (Ak (⟨r0,r1,r2,r3,r4,r5,r6,r7,r8,r9,r10,r11,r12,r13⟩:Rul) (⟨s0,s1,s2,s3,s4,s5,s6,s7,s8,s9,s10,s11,s12,s13,s14,s15,s16,s17,s18,s19,s20,s21,s22,s23,s24,s25,s26,s27⟩:Inn) b)):=by
 show OY (std (E4 N) N) (xOf _)=_
 generalize hres:(some (mw (Ak (⟨r0,r1,r2,r3,r4,r5,r6,r7,r8,r9,r10,r11,r12,r13⟩:Rul) (⟨s0,s1,s2,s3,s4,s5,s6,s7,s8,s9,s10,s11,s12,s13,s14,s15,s16,s17,s18,s19,s20,s21,s22,s23,s24,s25,s26,s27⟩:Inn) b)):Option (List PV))=RR
 have ha:(s16++[[PV.int s15]]).length≤1048576:=by simp;omega
 simp only [OY,UF,NE,Xf,Uj,std,xOf,PXb,PXc,PXn,PXm,Nat.reduceAdd,Int.reduceBEq,XN h,Sk,DX hN hs,NX hN h.bw',J9 ha (show 8≤4096 by omega)]
 subst hres;simp only [Ak]
 cases hp:inR s15 s19.length with
 | false=>rfl
 | true =>
  rw [Dd hp h.bd]
  cases A1 (⟨r0,r1,r2,r3,r4,r5,r6,r7,r8,r9,r10,r11,r12,r13⟩:Rul)==0<;>try rfl
  cases Hh s16 s16.length s15<;>cases b<;>simp only [PXb,PXc,PXn,PXm,Nat.reduceAdd,Int.reduceBEq,inc]
  all_goals first | (cases iLt s11 r4<;>rfl) | (cases iLt (IntKind.i64.wrap (s11+1)) r4<;>rfl)
theorem wy {N:Nat} {r1 r2 r3 r4 r5 r6 r7 r9 r10 r11 r12:Int} {r8:Bool} {r0:ByteArray} {r13:Rows} {s0 s1 s2 s3 s4 s5 s6 s7 s8 s9 s10 s11 s12 s13 s15 s21 s22 s23 s25 s26 s27:Int} {s18 s20:Bool} {s14 s16 s17 s19 s24:Rows} {b:Bool} (h:Fit s14 s16 s17 s19 s24) (hw:s16.length≤1048575) (hN:2097152<N) (hs:r0.size≤1048576):TH N [.str r0,.int r1,.int r2,.int r3,.int r4,.int r5,.int r6,.int r7,.bool r8,.int r9,.int r10,.int r11,.int r12,.rows r13,.int s0,.int s1,.int s2,.int s3,.int s4,.int s5,.int s6,.int s7,.int s8,.int s9,.int s10,.int s11,.int s12,.int s13,.rows s14,.int s15,.rows s16,.rows s17,.bool s18,.rows s19,.bool s20,.int s21,.int s22,.int s23,.rows s24,.int s25,.int s26,.int s27,.bool b]=some (mw (Ak (⟨r0,r1,r2,r3,r4,r5,r6,r7,r8,r9,r10,r11,r12,r13⟩:Rul) (⟨s0,s1,s2,s3,s4,s5,s6,s7,s8,s9,s10,s11,s12,s13,s14,s15,s16,s17,s18,s19,s20,s21,s22,s23,s24,s25,s26,s27⟩:Inn) b)):=by
 show TE (std (Ht N) N) (xOf _)=_
 generalize hres:(some (mw (Ak (⟨r0,r1,r2,r3,r4,r5,r6,r7,r8,r9,r10,r11,r12,r13⟩:Rul) (⟨s0,s1,s2,s3,s4,s5,s6,s7,s8,s9,s10,s11,s12,s13,s14,s15,s16,s17,s18,s19,s20,s21,s22,s23,s24,s25,s26,s27⟩:Inn) b)):Option (List PV))=RR
 have ha:(s16++[[PV.int s15]]).length≤1048576:=by simp;omega
 simp only [TE,Zb,ZQ,Xn,dF,std,xOf,PXb,PXc,PXn,PXm,Nat.reduceAdd,Int.reduceBEq,CE h,UO,Ew hN hs,oe hN h.bw',J9 ha (show 8≤4096 by omega)]
 subst hres;simp only [Ak]
 cases hp:inR s15 s19.length with
 | false=>cases A1 (⟨r0,r1,r2,r3,r4,r5,r6,r7,r8,r9,r10,r11,r12,r13⟩:Rul)==0<;>rfl
 | true =>
  rw [Dd hp h.bd]
  cases A1 (⟨r0,r1,r2,r3,r4,r5,r6,r7,r8,r9,r10,r11,r12,r13⟩:Rul)==0<;>try rfl
  cases Hh s16 s16.length s15<;>cases b<;>simp only [PXb,PXc,PXn,PXm,Nat.reduceAdd,Int.reduceBEq,inc]
  all_goals first | (cases iLt s11 r4<;>rfl) | (cases iLt (IntKind.i64.wrap (s11+1)) r4<;>rfl)
def Gi (r:Rul) (s:Inn):Inn×Int :=
 cond (!(A1 r==0)||r.newball==0||iLt s.ballage (IntKind.i64.wrap (r.newball * r.balls))) (s,22) ({ s with ballage:=0 },0)
theorem mM {N:Nat} {r1 r2 r3 r4 r5 r6 r7 r9 r10 r11 r12:Int} {r8:Bool} {r0:ByteArray} {r13:Rows} {s0 s1 s2 s3 s4 s5 s6 s7 s8 s9 s10 s11 s12 s13 s15 s21 s22 s23 s25 s26 s27:Int} {s18 s20:Bool} {s14 s16 s17 s19 s24:Rows} (h:Fit s14 s16 s17 s19 s24) (hN:2097152<N) (hs:r0.size≤1048576):GY N [.str r0,.int r1,.int r2,.int r3,.int r4,.int r5,.int r6,.int r7,.bool r8,.int r9,.int r10,.int r11,.int r12,.rows r13,.int s0,.int s1,.int s2,.int s3,.int s4,.int s5,.int s6,.int s7,.int s8,.int s9,.int s10,.int s11,.int s12,.int s13,.rows s14,.int s15,.rows s16,.rows s17,.bool s18,.rows s19,.bool s20,.int s21,.int s22,.int s23,.rows s24,.int s25,.int s26,.int s27]=some (AZ (Gi (⟨r0,r1,r2,r3,r4,r5,r6,r7,r8,r9,r10,r11,r12,r13⟩:Rul) (⟨s0,s1,s2,s3,s4,s5,s6,s7,s8,s9,s10,s11,s12,s13,s14,s15,s16,s17,s18,s19,s20,s21,s22,s23,s24,s25,s26,s27⟩:Inn))):=by
 show Jq (std (G1 N) N) (xOf _)=_
 generalize hres:(some (AZ (Gi (⟨r0,r1,r2,r3,r4,r5,r6,r7,r8,r9,r10,r11,r12,r13⟩:Rul) (⟨s0,s1,s2,s3,s4,s5,s6,s7,s8,s9,s10,s11,s12,s13,s14,s15,s16,s17,s18,s19,s20,s21,s22,s23,s24,s25,s26,s27⟩:Inn))):Option (List PV))=RR
 simp only [Jq,Rv,TD,std,xOf,PXb,PXc,PXn,PXm,Nat.reduceAdd,Int.reduceBEq,XN h,DX hN hs]
 subst hres;simp only [Gi]
 cases (!(A1 (⟨r0,r1,r2,r3,r4,r5,r6,r7,r8,r9,r10,r11,r12,r13⟩:Rul)==0)||r9==0||iLt s21 (IntKind.i64.wrap (r9 * r4)))<;>rfl
theorem pG {N:Nat} {r1 r2 r3 r4 r5 r6 r7 r9 r10 r11 r12:Int} {r8:Bool} {r0:ByteArray} {r13:Rows} {s0 s1 s2 s3 s4 s5 s6 s7 s8 s9 s10 s11 s12 s13 s15 s21 s22 s23 s25 s26 s27:Int} {s18 s20:Bool} {s14 s16 s17 s19 s24:Rows} (h:Fit s14 s16 s17 s19 s24) (hN:2097152<N) (hs:r0.size≤1048576):Mn N [.str r0,.int r1,.int r2,.int r3,.int r4,.int r5,.int r6,.int r7,.bool r8,.int r9,.int r10,.int r11,.int r12,.rows r13,.int s0,.int s1,.int s2,.int s3,.int s4,.int s5,.int s6,.int s7,.int s8,.int s9,.int s10,.int s11,.int s12,.int s13,.rows s14,.int s15,.rows s16,.rows s17,.bool s18,.rows s19,.bool s20,.int s21,.int s22,.int s23,.rows s24,.int s25,.int s26,.int s27]=some (AZ (Gi (⟨r0,r1,r2,r3,r4,r5,r6,r7,r8,r9,r10,r11,r12,r13⟩:Rul) (⟨s0,s1,s2,s3,s4,s5,s6,s7,s8,s9,s10,s11,s12,s13,s14,s15,s16,s17,s18,s19,s20,s21,s22,s23,s24,s25,s26,s27⟩:Inn))):=by
 show MM (std (Jj N) N) (xOf _)=_
 generalize hres:(some (AZ (Gi (⟨r0,r1,r2,r3,r4,r5,r6,r7,r8,r9,r10,r11,r12,r13⟩:Rul) (⟨s0,s1,s2,s3,s4,s5,s6,s7,s8,s9,s10,s11,s12,s13,s14,s15,s16,s17,s18,s19,s20,s21,s22,s23,s24,s25,s26,s27⟩:Inn))):Option (List PV))=RR
 simp only [MM,Vn,Vf,std,xOf,PXb,PXc,PXn,PXm,Nat.reduceAdd,Int.reduceBEq,CE h,Ew hN hs]
 subst hres;simp only [Gi]
 cases (!(A1 (⟨r0,r1,r2,r3,r4,r5,r6,r7,r8,r9,r10,r11,r12,r13⟩:Rul)==0)||r9==0||iLt s21 (IntKind.i64.wrap (r9 * r4)))<;>rfl
end Go.Px
end
