/- Part 10. -/
import Derived.Test.YtmpgkalgfmnpjaaGreatPart07
import Derived.Test.YtmpgkalgfmnpjaaGreatPart09
set_option linter.unusedVariables false
set_option linter.unusedSimpArgs false
section
namespace Go.Px
set_option maxRecDepth 100000
theorem Hs {N:Nat} {s0 s1 s2 s3 s4 s5 s6 s7 s8 s9 s10 s11 s12 s13 s15 s21 s22 s23 s25 s26 s27:Int} {s18 s20:Bool} {s14 s16 s17 s19 s24:Rows} (h:Fit s14 s16 s17 s19 s24):A6 N [.int s0,.int s1,.int s2,.int s3,.int s4,.int s5,.int s6,.int s7,.int s8,.int s9,.int s10,.int s11,.int s12,.int s13,.rows s14,.int s15,.rows s16,.rows s17,.bool s18,.rows s19,.bool s20,.int s21,.int s22,.int s23,.rows s24,.int s25,.int s26,.int s27]=some [.int s0,.int s1,.int s2,.int s3,.int s4,.int s5,.int s6,.int s7,.int s8,.int s9,.int s10,.int s11,.int s12,.int s13,.rows s14,.int s15,.rows s16,.rows s17,.bool s18,.rows s19,.bool s20,.int s21,.int s22,.int s23,.rows s24,.int s25,.int s26,.int s27]:=by
 show PA (std (Hr N) N) (xOf _)=_
 simp only [PA,Ng,QH,Pe,std,xOf,PXb,PXc,PXn,PXm,Nat.reduceAdd,Int.reduceBEq,AY,Al,Ah,Bl h.bt (show 1≤4096 by omega),Bl h.bw' (show 8≤4096 by omega),Bl h.bf (show 8≤4096 by omega),Bl h.bd (show 8≤4096 by omega),Bl h.sb (show 1≤4096 by omega)]
theorem CF {N:Nat} {s0 s1 s2 s3 s4 s5 s6 s7 s8 s9 s10 s11 s12 s13 s15 s21 s22 s23 s25 s26 s27:Int} {s18 s20:Bool} {s14 s16 s17 s19 s24:Rows} (h:Fit s14 s16 s17 s19 s24):AQ N [.int s0,.int s1,.int s2,.int s3,.int s4,.int s5,.int s6,.int s7,.int s8,.int s9,.int s10,.int s11,.int s12,.int s13,.rows s14,.int s15,.rows s16,.rows s17,.bool s18,.rows s19,.bool s20,.int s21,.int s22,.int s23,.rows s24,.int s25,.int s26,.int s27]=some [.int s0,.int s1,.int s2,.int s3,.int s4,.int s5,.int s6,.int s7,.int s8,.int s9,.int s10,.int s11,.int s12,.int s13,.rows s14,.int s15,.rows s16,.rows s17,.bool s18,.rows s19,.bool s20,.int s21,.int s22,.int s23,.rows s24,.int s25,.int s26,.int s27]:=by
 show Rp (std (bl N) N) (xOf _)=_
 simp only [Rp,std,xOf,PXb,PXc,PXn,PXm,Nat.reduceAdd,Int.reduceBEq,Ki h.bt (show 1≤4096 by omega),Ki h.bw' (show 8≤4096 by omega),Ki h.bf (show 8≤4096 by omega),Ki h.bd (show 8≤4096 by omega),Ki h.sb (show 1≤4096 by omega)]
theorem H2 {N:Nat} {s0 s1 s2 s3 s4 s5 s6 s7 s8 s9 s10 s11 s12 s13 s15 s21 s22 s23 s25 s26 s27:Int} {s18 s20:Bool} {s14 s16 s17 s19 s24:Rows} {p:Int}  : A5 N [.int s0,.int s1,.int s2,.int s3,.int s4,.int s5,.int s6,.int s7,.int s8,.int s9,.int s10,.int s11,.int s12,.int s13,.rows s14,.int s15,.rows s16,.rows s17,.bool s18,.rows s19,.bool s20,.int s21,.int s22,.int s23,.rows s24,.int s25,.int s26,.int s27,.int p]=some [.bool (inR p s14.length)]:=by
 show Lo (std (Ul N) N) (xOf _)=_
 simp only [Lo,std,xOf,PXb,PXc,PXn,PXm,Nat.reduceAdd,Int.reduceBEq]
 rfl
theorem PJ {N:Nat} {s0 s1 s2 s3 s4 s5 s6 s7 s8 s9 s10 s11 s12 s13 s15 s21 s22 s23 s25 s26 s27:Int} {s18 s20:Bool} {s14 s16 s17 s19 s24:Rows} {p:Int}  : Bg N [.int s0,.int s1,.int s2,.int s3,.int s4,.int s5,.int s6,.int s7,.int s8,.int s9,.int s10,.int s11,.int s12,.int s13,.rows s14,.int s15,.rows s16,.rows s17,.bool s18,.rows s19,.bool s20,.int s21,.int s22,.int s23,.rows s24,.int s25,.int s26,.int s27,.int p]=some [.bool (inR p s14.length)]:=by
 show Ps (std (Yc N) N) (xOf _)=_
 simp only [Ps,std,xOf,PXb,PXc,PXn,PXm,Nat.reduceAdd,Int.reduceBEq]
 rfl
def Ad (s:Inn) (d:Del):Inn :=
  let odd := !(d.runs.tmod 2==0) != d.crossed
  let t:Inn:=cond odd { s with striker:=s.other,other:=s.striker } s
  let k:Bool:=d.how==0
  cond (!k&&(d.victim==1 && !(s.striker==0)))
    { t with striker:=cond odd t.striker 0,other:=cond odd 0 t.other,batters:=cond (inR s.striker s.batters.length) (LE s.batters s.striker 2) s.batters,wickets:=IntKind.i64.wrap (s.wickets+1) }
    (cond (!k&&(d.victim==2 && !(s.other==0)))
      { t with striker:=cond odd 0 t.striker,other:=cond odd t.other 0,batters:=cond (inR s.other s.batters.length) (LE s.batters s.other 2) s.batters,wickets:=IntKind.i64.wrap (s.wickets+1) }
      t)
theorem sR {N:Nat} {s0 s1 s2 s3 s4 s5 s6 s7 s8 s9 s10 s11 s12 s13 s15 s21 s22 s23 s25 s26 s27:Int} {s18 s20:Bool} {s14 s16 s17 s19 s24:Rows} {d0 d1 d2 d3 d4 d6 d7 d8 d9 d11:Int} {d5 d10:Bool} (h:Fit s14 s16 s17 s19 s24):Km N [.int s0,.int s1,.int s2,.int s3,.int s4,.int s5,.int s6,.int s7,.int s8,.int s9,.int s10,.int s11,.int s12,.int s13,.rows s14,.int s15,.rows s16,.rows s17,.bool s18,.rows s19,.bool s20,.int s21,.int s22,.int s23,.rows s24,.int s25,.int s26,.int s27,.int d0,.int d1,.int d2,.int d3,.int d4,.bool d5,.int d6,.int d7,.int d8,.int d9,.bool d10,.int d11]=some (Ad (⟨s0,s1,s2,s3,s4,s5,s6,s7,s8,s9,s10,s11,s12,s13,s14,s15,s16,s17,s18,s19,s20,s21,s22,s23,s24,s25,s26,s27⟩:Inn) (⟨d0,d1,d2,d3,d4,d5,d6,d7,d8,d9,d10,d11⟩:Del)).ls:=by
 show Pm (std (LO N) N) (xOf _)=_
 simp only [Pm,V6,UF,std,xOf,PXb,PXc,PXn,PXm,Nat.reduceAdd,Int.reduceBEq,Hs h,H2,wB h.bt]
 unfold Ad
 cases d5<;>cases d2.tmod 2==0<;>cases d6==0<;>cases d7==1<;>cases d7==2<;>cases s12==0<;>cases s13==0<;>rfl
def F8 (s:Inn):Inn:={ s with striker:=s.other,other:=s.striker }
theorem mH {N:Nat} {s0 s1 s2 s3 s4 s5 s6 s7 s8 s9 s10 s11 s12 s13 s15 s21 s22 s23 s25 s26 s27:Int} {s18 s20:Bool} {s14 s16 s17 s19 s24:Rows} (h:Fit s14 s16 s17 s19 s24):GN N [.int s0,.int s1,.int s2,.int s3,.int s4,.int s5,.int s6,.int s7,.int s8,.int s9,.int s10,.int s11,.int s12,.int s13,.rows s14,.int s15,.rows s16,.rows s17,.bool s18,.rows s19,.bool s20,.int s21,.int s22,.int s23,.rows s24,.int s25,.int s26,.int s27]=some (F8 (⟨s0,s1,s2,s3,s4,s5,s6,s7,s8,s9,s10,s11,s12,s13,s14,s15,s16,s17,s18,s19,s20,s21,s22,s23,s24,s25,s26,s27⟩:Inn)).ls:=by
 show Jp (std (Lz N) N) (xOf _)=_
 simp only [Jp,TK,std,xOf,PXb,PXc,PXn,PXm,Nat.reduceAdd,Int.reduceBEq,Hs h]
 rfl
theorem dK {N:Nat} {s0 s1 s2 s3 s4 s5 s6 s7 s8 s9 s10 s11 s12 s13 s15 s21 s22 s23 s25 s26 s27:Int} {s18 s20:Bool} {s14 s16 s17 s19 s24:Rows} (h:Fit s14 s16 s17 s19 s24):Fk N [.int s0,.int s1,.int s2,.int s3,.int s4,.int s5,.int s6,.int s7,.int s8,.int s9,.int s10,.int s11,.int s12,.int s13,.rows s14,.int s15,.rows s16,.rows s17,.bool s18,.rows s19,.bool s20,.int s21,.int s22,.int s23,.rows s24,.int s25,.int s26,.int s27]=some (F8 (⟨s0,s1,s2,s3,s4,s5,s6,s7,s8,s9,s10,s11,s12,s13,s14,s15,s16,s17,s18,s19,s20,s21,s22,s23,s24,s25,s26,s27⟩:Inn)).ls:=by
 show P3 (std (Qk N) N) (xOf _)=_
 simp only [P3,Xt,std,xOf,PXb,PXc,PXn,PXm,Nat.reduceAdd,Int.reduceBEq,CF h]
 rfl
theorem yn {N:Nat} {s0 s1 s2 s3 s4 s5 s6 s7 s8 s9 s10 s11 s12 s13 s15 s21 s22 s23 s25 s26 s27:Int} {s18 s20:Bool} {s14 s16 s17 s19 s24:Rows} {d0 d1 d2 d3 d4 d6 d7 d8 d9 d11:Int} {d5 d10:Bool} (h:Fit s14 s16 s17 s19 s24):Wb N [.int s0,.int s1,.int s2,.int s3,.int s4,.int s5,.int s6,.int s7,.int s8,.int s9,.int s10,.int s11,.int s12,.int s13,.rows s14,.int s15,.rows s16,.rows s17,.bool s18,.rows s19,.bool s20,.int s21,.int s22,.int s23,.rows s24,.int s25,.int s26,.int s27,.int d0,.int d1,.int d2,.int d3,.int d4,.bool d5,.int d6,.int d7,.int d8,.int d9,.bool d10,.int d11]=some (Ad (⟨s0,s1,s2,s3,s4,s5,s6,s7,s8,s9,s10,s11,s12,s13,s14,s15,s16,s17,s18,s19,s20,s21,s22,s23,s24,s25,s26,s27⟩:Inn) (⟨d0,d1,d2,d3,d4,d5,d6,d7,d8,d9,d10,d11⟩:Del)).ls:=by
 show W1 (std (ME N) N) (xOf _)=_
 simp only [W1,cW,Z4,am,std,xOf,PXb,PXc,PXn,PXm,Nat.reduceAdd,Int.reduceBEq,CF h,PJ,wB h.bt,dK h,F8,Ad]
 cases h71:d7==1
 ·cases d5<;>cases d2.tmod 2==0<;>cases d6==0<;>cases d7==2<;>cases s12==0<;>cases s13==0<;>rfl
 ·rw [nZ h71]
  cases d5<;>cases d2.tmod 2==0<;>cases d6==0<;>cases s12==0<;>rfl
theorem kN {N:Nat} {v:Int}  : DA N [.int v]=some [.bool (!(v==0))]:=by
 show NW (std (SD N) N) (xOf _)=_
 rfl
theorem gN {N:Nat} {v:Int}  : Es N [.int v]=some [.bool (!(v==0))]:=by
 show Ly (std (QQ N) N) (xOf _)=_
 rfl
theorem YR {N:Nat} {s0 s1 s2 s3 s4 s5 s6 s7 s8 s9 s10 s11 s12 s13 s15 s21 s22 s23 s25 s26 s27:Int} {s18 s20:Bool} {s14 s16 s17 s19 s24:Rows} (h:s14.length≤1048576) (hN:2097152<N):CE N [.int s0,.int s1,.int s2,.int s3,.int s4,.int s5,.int s6,.int s7,.int s8,.int s9,.int s10,.int s11,.int s12,.int s13,.rows s14,.int s15,.rows s16,.rows s17,.bool s18,.rows s19,.bool s20,.int s21,.int s22,.int s23,.rows s24,.int s25,.int s26,.int s27]=some [.bool (Bx s14)]:=by
 show FJ (std (FM N) N) (xOf _)=_
 simp only [FJ,G5,std,xOf,PXb,PXc,PXn,AA]
 rw [show Bx s14=iLe 0 (S8 (fun i => !(atI s14 i 0==0)) s14.length) from (Lp _ _).symm]
 rw [Option.bind_assoc]
 refine AM (CK (len:=s14.length) (G2 fun i => !(atI s14 i 0==0)) ?_ ?_ s14.length 0 N (by omega) (by omega)) ?_
 ·intro self
  simp only [PXb,PXc,PXn,AA,Ac]
 ·intro i self hi
  simp only [PXb,PXc,PXn,AA,AR (show i≤1099511627776 by omega),AX hi,AN hi,G2,A8,G5,kN]
  cases atI s14 i 0==0<;>rfl
 ·unfold S8
  cases BJ (G2 fun i => !(atI s14 i 0==0)) s14.length 0<;>rfl
theorem mB {N:Nat} {s0 s1 s2 s3 s4 s5 s6 s7 s8 s9 s10 s11 s12 s13 s15 s21 s22 s23 s25 s26 s27:Int} {s18 s20:Bool} {s14 s16 s17 s19 s24:Rows} (h:s14.length≤1048576) (hN:2097152<N):Gl N [.int s0,.int s1,.int s2,.int s3,.int s4,.int s5,.int s6,.int s7,.int s8,.int s9,.int s10,.int s11,.int s12,.int s13,.rows s14,.int s15,.rows s16,.rows s17,.bool s18,.rows s19,.bool s20,.int s21,.int s22,.int s23,.rows s24,.int s25,.int s26,.int s27]=some [.bool (Bx s14)]:=by
 show J3 (std (Lx N) N) (xOf _)=_
 simp only [J3,Fz,std,xOf,PXb,PXc,PXn,AA]
 rw [show Bx s14=iLe 0 (S8 (fun i => !(atI s14 i 0==0)) s14.length) from (Lp _ _).symm]
 rw [Option.bind_assoc]
 refine AM (CK (len:=s14.length) (G2 fun i => !(atI s14 i 0==0)) ?_ ?_ s14.length 0 N (by omega) (by omega)) ?_
 ·intro self
  simp only [PXb,PXc,PXn,AA,Ac]
 ·intro i self hi
  simp only [PXb,PXc,PXn,AA,AR (show i≤1099511627776 by omega),AX hi,AN hi,G2,A8,Fz,gN]
  cases atI s14 i 0==0<;>rfl
 ·unfold S8
  cases BJ (G2 fun i => !(atI s14 i 0==0)) s14.length 0<;>rfl
theorem Xk {N:Nat} {s0 s1 s2 s3 s4 s5 s6 s7 s8 s9 s10 s11 s12 s13 s15 s21 s22 s23 s25 s26 s27:Int} {s18 s20:Bool} {s14 s16 s17 s19 s24:Rows} (h:s14.length≤1048576) (hN:2097152<N):Bj N [.int s0,.int s1,.int s2,.int s3,.int s4,.int s5,.int s6,.int s7,.int s8,.int s9,.int s10,.int s11,.int s12,.int s13,.rows s14,.int s15,.rows s16,.rows s17,.bool s18,.rows s19,.bool s20,.int s21,.int s22,.int s23,.rows s24,.int s25,.int s26,.int s27]=some [.bool (Bx s14)]:=by
 show JT (std (Sy N) N) (xOf _)=_
 simp only [JT,std,xOf,PXb,PXc,PXn,AA]
 refine AM (Cm (len:=s14.length) (fun i => !(atI s14 i 0==0)) [.bool true] ?_ ?_ N (by omega)) ?_
 ·intro self
  simp only [PXb,PXc,PXn,AA,Ac]
 ·intro i self hi
  simp only [PXb,PXc,PXn,AA,AR (show i≤1099511627776 by omega),AX hi,AN hi,A8]
 ·unfold Bx
  cases Az (fun i => !(atI s14 i 0==0)) s14.length 0<;>rfl
theorem W3 {N:Nat} {s0 s1 s2 s3 s4 s5 s6 s7 s8 s9 s10 s11 s12 s13 s15 s21 s22 s23 s25 s26 s27:Int} {s18 s20:Bool} {s14 s16 s17 s19 s24:Rows} (h:s14.length≤1048576) (hN:2097152<N):BR N [.int s0,.int s1,.int s2,.int s3,.int s4,.int s5,.int s6,.int s7,.int s8,.int s9,.int s10,.int s11,.int s12,.int s13,.rows s14,.int s15,.rows s16,.rows s17,.bool s18,.rows s19,.bool s20,.int s21,.int s22,.int s23,.rows s24,.int s25,.int s26,.int s27]=some [.bool (DV s14 s12 s13)]:=by
 show ET (std (El N) N) (xOf _)=_
 simp only [ET,Q3,std,xOf,PXb,PXc,PXn,PXm,Nat.reduceAdd,Int.reduceBEq,YR h hN]
 rfl
theorem ed {N:Nat} {s0 s1 s2 s3 s4 s5 s6 s7 s8 s9 s10 s11 s12 s13 s15 s21 s22 s23 s25 s26 s27:Int} {s18 s20:Bool} {s14 s16 s17 s19 s24:Rows} (h:s14.length≤1048576) (hN:2097152<N):Cb N [.int s0,.int s1,.int s2,.int s3,.int s4,.int s5,.int s6,.int s7,.int s8,.int s9,.int s10,.int s11,.int s12,.int s13,.rows s14,.int s15,.rows s16,.rows s17,.bool s18,.rows s19,.bool s20,.int s21,.int s22,.int s23,.rows s24,.int s25,.int s26,.int s27]=some [.bool (DV s14 s12 s13)]:=by
 show Hb (std (HR N) N) (xOf _)=_
 simp only [Hb,Xi,std,xOf,PXb,PXc,PXn,PXm,Nat.reduceAdd,Int.reduceBEq,Xk h hN]
 rfl
theorem pS {N:Nat} {s0 s1 s2 s3 s4 s5 s6 s7 s8 s9 s10 s11 s12 s13 s15 s21 s22 s23 s25 s26 s27:Int} {s18 s20:Bool} {s14 s16 s17 s19 s24:Rows} (h:s14.length≤1048576) (hN:2097152<N):C9 N [.int s0,.int s1,.int s2,.int s3,.int s4,.int s5,.int s6,.int s7,.int s8,.int s9,.int s10,.int s11,.int s12,.int s13,.rows s14,.int s15,.rows s16,.rows s17,.bool s18,.rows s19,.bool s20,.int s21,.int s22,.int s23,.rows s24,.int s25,.int s26,.int s27]=some [.rows (B3 s14 s14.length)]:=by
 show GB (std (O0 N) N) (xOf _)=_
 simp only [GB,std,xOf,PXb,PXc,PXn,AA]
 refine AM (Bk (len:=s14.length) (fun i=>[.rows (B3 s14 i),.int (i:Int)]) [.rows (B3 s14 s14.length)] ?_ ?_ N (by omega)) rfl
 ·intro self
  simp only [PXb,PXc,PXn,AA,Ac]
 ·intro i self hi
  have h2:(B3 s14 i++[[PV.int ((i:Int)+1)]]).length≤4194304:=by have:=VC s14 i;simp;omega
  simp only [PXb,PXc,PXn,AA,AR (show i≤1099511627776 by omega),AX hi,AN hi,A8,B3,DP h2 (show 8≤4096 by omega)]
  cases (atI s14 i 0==0||atI s14 i 0==3)<;>rfl
theorem wL {N:Nat} {s0 s1 s2 s3 s4 s5 s6 s7 s8 s9 s10 s11 s12 s13 s15 s21 s22 s23 s25 s26 s27:Int} {s18 s20:Bool} {s14 s16 s17 s19 s24:Rows} (h:s14.length≤1048576) (hN:2097152<N):E3 N [.int s0,.int s1,.int s2,.int s3,.int s4,.int s5,.int s6,.int s7,.int s8,.int s9,.int s10,.int s11,.int s12,.int s13,.rows s14,.int s15,.rows s16,.rows s17,.bool s18,.rows s19,.bool s20,.int s21,.int s22,.int s23,.rows s24,.int s25,.int s26,.int s27]=some [.rows (B3 s14 s14.length)]:=by
 show LP (std (Ub N) N) (xOf _)=_
 simp only [LP,std,xOf,PXb,PXc,PXn,AA]
 refine AM (Bk (len:=s14.length) (fun i=>[.rows (B3 s14 i),.int (i:Int)]) [.rows (B3 s14 s14.length)] ?_ ?_ N (by omega)) rfl
 ·intro self
  simp only [PXb,PXc,PXn,AA,Ac]
 ·intro i self hi
  have h2:(B3 s14 i++[[PV.int ((i:Int)+1)]]).length≤4194304:=by have:=VC s14 i;simp;omega
  simp only [PXb,PXc,PXn,AA,AR (show i≤1099511627776 by omega),AX hi,AN hi,A8,B3,DP h2 (show 8≤4096 by omega)]
  cases (atI s14 i 0==0||atI s14 i 0==3)<;>rfl
def Rr (s:Inn) (p q:Int):Inn×Int :=
  cond (Bx s.batters) (s,1) (cond (!inR p s.batters.length || !inR q s.batters.length) (s,3) (cond (p==q) (s,4)
    ({ s with batters:=LE (LE s.batters p 1) q 1,striker:=p,other:=q },0)))
theorem pk {N:Nat} {s0 s1 s2 s3 s4 s5 s6 s7 s8 s9 s10 s11 s12 s13 s15 s21 s22 s23 s25 s26 s27:Int} {s18 s20:Bool} {s14 s16 s17 s19 s24:Rows} {p:Int} {q:Int} (h:Fit s14 s16 s17 s19 s24) (hN:2097152<N):I6 N [.int s0,.int s1,.int s2,.int s3,.int s4,.int s5,.int s6,.int s7,.int s8,.int s9,.int s10,.int s11,.int s12,.int s13,.rows s14,.int s15,.rows s16,.rows s17,.bool s18,.rows s19,.bool s20,.int s21,.int s22,.int s23,.rows s24,.int s25,.int s26,.int s27,.int p,.int q]=some (Ab (Rr (⟨s0,s1,s2,s3,s4,s5,s6,s7,s8,s9,s10,s11,s12,s13,s14,s15,s16,s17,s18,s19,s20,s21,s22,s23,s24,s25,s26,s27⟩:Inn) p q)):=by
 show M8 (std (GZ N) N) (xOf _)=_
 generalize hres:(some (Ab (Rr (⟨s0,s1,s2,s3,s4,s5,s6,s7,s8,s9,s10,s11,s12,s13,s14,s15,s16,s17,s18,s19,s20,s21,s22,s23,s24,s25,s26,s27⟩:Inn) p q)):Option (List PV))=RR
 simp only [M8,Up,Sv,TI,std,xOf,PXb,PXc,PXn,PXm,Nat.reduceAdd,Int.reduceBEq,Hs h,YR h.bt hN,H2]
 subst hres;simp only [Rr]
 cases Bx s14<;>try rfl
 cases hp:inR p s14.length<;>cases hq:inR q s14.length<;>try rfl
 rw [Dh hp h.bt,Dh hq h.bt]
 cases p==q<;>rfl
theorem wc {N:Nat} {s0 s1 s2 s3 s4 s5 s6 s7 s8 s9 s10 s11 s12 s13 s15 s21 s22 s23 s25 s26 s27:Int} {s18 s20:Bool} {s14 s16 s17 s19 s24:Rows} {p:Int} {q:Int} (h:Fit s14 s16 s17 s19 s24) (hN:2097152<N):Tz N [.int s0,.int s1,.int s2,.int s3,.int s4,.int s5,.int s6,.int s7,.int s8,.int s9,.int s10,.int s11,.int s12,.int s13,.rows s14,.int s15,.rows s16,.rows s17,.bool s18,.rows s19,.bool s20,.int s21,.int s22,.int s23,.rows s24,.int s25,.int s26,.int s27,.int p,.int q]=some (Ab (Rr (⟨s0,s1,s2,s3,s4,s5,s6,s7,s8,s9,s10,s11,s12,s13,s14,s15,s16,s17,s18,s19,s20,s21,s22,s23,s24,s25,s26,s27⟩:Inn) p q)):=by
 show Tv (std (Kt N) N) (xOf _)=_
 generalize hres:(some (Ab (Rr (⟨s0,s1,s2,s3,s4,s5,s6,s7,s8,s9,s10,s11,s12,s13,s14,s15,s16,s17,s18,s19,s20,s21,s22,s23,s24,s25,s26,s27⟩:Inn) p q)):Option (List PV))=RR
 simp only [Tv,aW,Zc,Yf,std,xOf,PXb,PXc,PXn,PXm,Nat.reduceAdd,Int.reduceBEq,CF h,Xk h.bt hN,PJ]
 subst hres;simp only [Rr]
 cases Bx s14<;>try rfl
 cases hp:inR p s14.length<;>cases hq:inR q s14.length<;>try rfl
 rw [Dh hp h.bt,Dh hq h.bt]
 cases p==q<;>rfl
def Jj (s:Inn) (p:Int):Int :=
 cond (!inR p s.batters.length) 3 (cond (!DV s.batters s.striker s.other||atI s.batters (ix p) 0==1) 4 (cond (atI s.batters (ix p) 0==2) 5 0))
theorem fP {N:Nat} {s0 s1 s2 s3 s4 s5 s6 s7 s8 s9 s10 s11 s12 s13 s15 s21 s22 s23 s25 s26 s27:Int} {s18 s20:Bool} {s14 s16 s17 s19 s24:Rows} {p:Int} (h:s14.length≤1048576) (hN:2097152<N):D5 N [.int s0,.int s1,.int s2,.int s3,.int s4,.int s5,.int s6,.int s7,.int s8,.int s9,.int s10,.int s11,.int s12,.int s13,.rows s14,.int s15,.rows s16,.rows s17,.bool s18,.rows s19,.bool s20,.int s21,.int s22,.int s23,.rows s24,.int s25,.int s26,.int s27,.int p]=some [.int (Jj (⟨s0,s1,s2,s3,s4,s5,s6,s7,s8,s9,s10,s11,s12,s13,s14,s15,s16,s17,s18,s19,s20,s21,s22,s23,s24,s25,s26,s27⟩:Inn) p)]:=by
 show PR (std (LJ N) N) (xOf _)=_
 generalize hres:(some [.int (Jj (⟨s0,s1,s2,s3,s4,s5,s6,s7,s8,s9,s10,s11,s12,s13,s14,s15,s16,s17,s18,s19,s20,s21,s22,s23,s24,s25,s26,s27⟩:Inn) p)]:Option (List PV))=RR
 simp only [PR,S7,Tn,std,xOf,PXb,PXc,PXn,PXm,Nat.reduceAdd,Int.reduceBEq,H2,W3 h hN]
 subst hres;simp only [Jj]
 cases hp:inR p s14.length<;>try rfl
 rw [Dh hp h]
 cases DV s14 s12 s13<;>try rfl
 simp only [PXb,PXc,PXn,PXm,Nat.reduceAdd,Int.reduceBEq,atI,ix]
theorem gR {N:Nat} {s0 s1 s2 s3 s4 s5 s6 s7 s8 s9 s10 s11 s12 s13 s15 s21 s22 s23 s25 s26 s27:Int} {s18 s20:Bool} {s14 s16 s17 s19 s24:Rows} {p:Int} (h:s14.length≤1048576) (hN:2097152<N):E7 N [.int s0,.int s1,.int s2,.int s3,.int s4,.int s5,.int s6,.int s7,.int s8,.int s9,.int s10,.int s11,.int s12,.int s13,.rows s14,.int s15,.rows s16,.rows s17,.bool s18,.rows s19,.bool s20,.int s21,.int s22,.int s23,.rows s24,.int s25,.int s26,.int s27,.int p]=some [.int (Jj (⟨s0,s1,s2,s3,s4,s5,s6,s7,s8,s9,s10,s11,s12,s13,s14,s15,s16,s17,s18,s19,s20,s21,s22,s23,s24,s25,s26,s27⟩:Inn) p)]:=by
 show R0 (std (NK N) N) (xOf _)=_
 generalize hres:(some [.int (Jj (⟨s0,s1,s2,s3,s4,s5,s6,s7,s8,s9,s10,s11,s12,s13,s14,s15,s16,s17,s18,s19,s20,s21,s22,s23,s24,s25,s26,s27⟩:Inn) p)]:Option (List PV))=RR
 simp only [R0,X2,Xw,std,xOf,PXb,PXc,PXn,PXm,Nat.reduceAdd,Int.reduceBEq,PJ,ed h hN]
 subst hres;simp only [Jj]
 cases hp:inR p s14.length<;>try rfl
 rw [Dh hp h]
 cases DV s14 s12 s13<;>try rfl
 simp only [PXb,PXc,PXn,PXm,Nat.reduceAdd,Int.reduceBEq,atI,ix]
theorem Ww {s:Inn} {p:Int} (h:(Jj s p==0)=true):inR p s.batters.length=true:=by
 unfold Jj at h
 cases hp:inR p s.batters.length with
 | true=>rfl
 | false=>rw [hp] at h;cases h
def KZ (s:Inn) (p:Int):Inn×Int :=
 cond (Jj s p==0) ({ s with batters:=LE s.batters p 1,striker:=cond (s.striker==0) p s.striker,other:=cond (s.striker==0) s.other p },0) (s,Jj s p)
def Ed (s:Inn) (p:Int):Inn×Int :=
 cond (Jj s p==0) ({ s with batters:=LE s.batters p 2,wickets:=IntKind.i64.wrap (s.wickets+1) },0) (s,Jj s p)
theorem nR {N:Nat} {s0 s1 s2 s3 s4 s5 s6 s7 s8 s9 s10 s11 s12 s13 s15 s21 s22 s23 s25 s26 s27:Int} {s18 s20:Bool} {s14 s16 s17 s19 s24:Rows} {p:Int} (h:Fit s14 s16 s17 s19 s24) (hN:2097152<N):HZ N [.int s0,.int s1,.int s2,.int s3,.int s4,.int s5,.int s6,.int s7,.int s8,.int s9,.int s10,.int s11,.int s12,.int s13,.rows s14,.int s15,.rows s16,.rows s17,.bool s18,.rows s19,.bool s20,.int s21,.int s22,.int s23,.rows s24,.int s25,.int s26,.int s27,.int p]=some (Ab (KZ (⟨s0,s1,s2,s3,s4,s5,s6,s7,s8,s9,s10,s11,s12,s13,s14,s15,s16,s17,s18,s19,s20,s21,s22,s23,s24,s25,s26,s27⟩:Inn) p)):=by
 show Lm (std (Ip N) N) (xOf _)=_
 generalize hres:(some (Ab (KZ (⟨s0,s1,s2,s3,s4,s5,s6,s7,s8,s9,s10,s11,s12,s13,s14,s15,s16,s17,s18,s19,s20,s21,s22,s23,s24,s25,s26,s27⟩:Inn) p)):Option (List PV))=RR
 simp only [Lm,T1,UL,std,xOf,PXb,PXc,PXn,PXm,Nat.reduceAdd,Int.reduceBEq,Hs h,fP h.bt hN]
 subst hres;simp only [KZ]
 cases hm:Jj (⟨s0,s1,s2,s3,s4,s5,s6,s7,s8,s9,s10,s11,s12,s13,s14,s15,s16,s17,s18,s19,s20,s21,s22,s23,s24,s25,s26,s27⟩:Inn) p==0<;>try rfl
 rw [Dh (Ww hm) h.bt]
 cases s12==0<;>rfl
theorem uk {N:Nat} {s0 s1 s2 s3 s4 s5 s6 s7 s8 s9 s10 s11 s12 s13 s15 s21 s22 s23 s25 s26 s27:Int} {s18 s20:Bool} {s14 s16 s17 s19 s24:Rows} {p:Int} (h:Fit s14 s16 s17 s19 s24) (hN:2097152<N):Re N [.int s0,.int s1,.int s2,.int s3,.int s4,.int s5,.int s6,.int s7,.int s8,.int s9,.int s10,.int s11,.int s12,.int s13,.rows s14,.int s15,.rows s16,.rows s17,.bool s18,.rows s19,.bool s20,.int s21,.int s22,.int s23,.rows s24,.int s25,.int s26,.int s27,.int p]=some (Ab (KZ (⟨s0,s1,s2,s3,s4,s5,s6,s7,s8,s9,s10,s11,s12,s13,s14,s15,s16,s17,s18,s19,s20,s21,s22,s23,s24,s25,s26,s27⟩:Inn) p)):=by
 show Rh (std (My N) N) (xOf _)=_
 generalize hres:(some (Ab (KZ (⟨s0,s1,s2,s3,s4,s5,s6,s7,s8,s9,s10,s11,s12,s13,s14,s15,s16,s17,s18,s19,s20,s21,s22,s23,s24,s25,s26,s27⟩:Inn) p)):Option (List PV))=RR
 simp only [Rh,YT,Yz,std,xOf,PXb,PXc,PXn,PXm,Nat.reduceAdd,Int.reduceBEq,CF h,gR h.bt hN]
 subst hres;simp only [KZ]
 cases hm:Jj (⟨s0,s1,s2,s3,s4,s5,s6,s7,s8,s9,s10,s11,s12,s13,s14,s15,s16,s17,s18,s19,s20,s21,s22,s23,s24,s25,s26,s27⟩:Inn) p==0<;>try rfl
 rw [Dh (Ww hm) h.bt]
 cases s12==0<;>rfl
theorem jj {N:Nat} {s0 s1 s2 s3 s4 s5 s6 s7 s8 s9 s10 s11 s12 s13 s15 s21 s22 s23 s25 s26 s27:Int} {s18 s20:Bool} {s14 s16 s17 s19 s24:Rows} {p:Int} (h:Fit s14 s16 s17 s19 s24) (hN:2097152<N):Fd N [.int s0,.int s1,.int s2,.int s3,.int s4,.int s5,.int s6,.int s7,.int s8,.int s9,.int s10,.int s11,.int s12,.int s13,.rows s14,.int s15,.rows s16,.rows s17,.bool s18,.rows s19,.bool s20,.int s21,.int s22,.int s23,.rows s24,.int s25,.int s26,.int s27,.int p]=some (Ab (Ed (⟨s0,s1,s2,s3,s4,s5,s6,s7,s8,s9,s10,s11,s12,s13,s14,s15,s16,s17,s18,s19,s20,s21,s22,s23,s24,s25,s26,s27⟩:Inn) p)):=by
 show IR (std (EG N) N) (xOf _)=_
 generalize hres:(some (Ab (Ed (⟨s0,s1,s2,s3,s4,s5,s6,s7,s8,s9,s10,s11,s12,s13,s14,s15,s16,s17,s18,s19,s20,s21,s22,s23,s24,s25,s26,s27⟩:Inn) p)):Option (List PV))=RR
 simp only [IR,SF,QN,SC,std,xOf,PXb,PXc,PXn,PXm,Nat.reduceAdd,Int.reduceBEq,Hs h,fP h.bt hN,H2]
 subst hres;simp only [Ed]
 cases hm:Jj (⟨s0,s1,s2,s3,s4,s5,s6,s7,s8,s9,s10,s11,s12,s13,s14,s15,s16,s17,s18,s19,s20,s21,s22,s23,s24,s25,s26,s27⟩:Inn) p==0<;>try rfl
 have hk:inR p s14.length=true:=Ww hm
 rw [Dh hk h.bt,hk]
 rfl
theorem pg {N:Nat} {s0 s1 s2 s3 s4 s5 s6 s7 s8 s9 s10 s11 s12 s13 s15 s21 s22 s23 s25 s26 s27:Int} {s18 s20:Bool} {s14 s16 s17 s19 s24:Rows} {p:Int} (h:Fit s14 s16 s17 s19 s24) (hN:2097152<N):Mq N [.int s0,.int s1,.int s2,.int s3,.int s4,.int s5,.int s6,.int s7,.int s8,.int s9,.int s10,.int s11,.int s12,.int s13,.rows s14,.int s15,.rows s16,.rows s17,.bool s18,.rows s19,.bool s20,.int s21,.int s22,.int s23,.rows s24,.int s25,.int s26,.int s27,.int p]=some (Ab (Ed (⟨s0,s1,s2,s3,s4,s5,s6,s7,s8,s9,s10,s11,s12,s13,s14,s15,s16,s17,s18,s19,s20,s21,s22,s23,s24,s25,s26,s27⟩:Inn) p)):=by
 show NL (std (KE N) N) (xOf _)=_
 generalize hres:(some (Ab (Ed (⟨s0,s1,s2,s3,s4,s5,s6,s7,s8,s9,s10,s11,s12,s13,s14,s15,s16,s17,s18,s19,s20,s21,s22,s23,s24,s25,s26,s27⟩:Inn) p)):Option (List PV))=RR
 simp only [NL,V2,Vy,std,xOf,PXb,PXc,PXn,PXm,Nat.reduceAdd,Int.reduceBEq,CF h,gR h.bt hN]
 subst hres;simp only [Ed]
 cases hm:Jj (⟨s0,s1,s2,s3,s4,s5,s6,s7,s8,s9,s10,s11,s12,s13,s14,s15,s16,s17,s18,s19,s20,s21,s22,s23,s24,s25,s26,s27⟩:Inn) p==0<;>try rfl
 rw [Dh (Ww hm) h.bt]
 rfl
def F6 (s:Inn) (p:Int) (hurt:Bool):Inn×Int :=
  cond (!inR p s.batters.length) (s,3) (cond (s.striker==0||s.other==0) (s,6) (cond (!(p==s.striker) && !(p==s.other)) (s,4)
    (cond (hurt&&((B3 s.batters s.batters.length).length:Int)==0) (s,19)
      ({ s with striker:=cond (p==s.striker) 0 s.striker,other:=cond (p==s.striker) s.other 0,batters:=LE s.batters p (cond hurt 3 2),wickets:=cond hurt s.wickets (IntKind.i64.wrap (s.wickets+1)) },0))))
theorem lu {N:Nat} {s0 s1 s2 s3 s4 s5 s6 s7 s8 s9 s10 s11 s12 s13 s15 s21 s22 s23 s25 s26 s27:Int} {s18 s20:Bool} {s14 s16 s17 s19 s24:Rows} {p:Int} {b:Bool} (h:Fit s14 s16 s17 s19 s24) (hN:2097152<N):GO N [.int s0,.int s1,.int s2,.int s3,.int s4,.int s5,.int s6,.int s7,.int s8,.int s9,.int s10,.int s11,.int s12,.int s13,.rows s14,.int s15,.rows s16,.rows s17,.bool s18,.rows s19,.bool s20,.int s21,.int s22,.int s23,.rows s24,.int s25,.int s26,.int s27,.int p,.bool b]=some (Ab (F6 (⟨s0,s1,s2,s3,s4,s5,s6,s7,s8,s9,s10,s11,s12,s13,s14,s15,s16,s17,s18,s19,s20,s21,s22,s23,s24,s25,s26,s27⟩:Inn) p b)):=by
 show J4 (std (Et N) N) (xOf _)=_
 generalize hres:(some (Ab (F6 (⟨s0,s1,s2,s3,s4,s5,s6,s7,s8,s9,s10,s11,s12,s13,s14,s15,s16,s17,s18,s19,s20,s21,s22,s23,s24,s25,s26,s27⟩:Inn) p b)):Option (List PV))=RR
 simp only [J4,SR,TD,RC,std,xOf,PXb,PXc,PXn,PXm,Nat.reduceAdd,Int.reduceBEq,Hs h,H2,pS h.bt hN]
 subst hres;simp only [F6]
 cases hp:inR p s14.length<;>try rfl
 rw [Dh hp h.bt]
 cases s12==0<;>cases s13==0<;>try rfl
 cases p==s12<;>cases p==s13<;>cases b<;>try rfl
 all_goals (simp only [PXb,PXc,PXn,PXm,Nat.reduceAdd,Int.reduceBEq];cases ((B3 s14 s14.length).length:Int)==0<;>rfl)
theorem xq (L:Rows) (p a b:Int):LE (LE L p a) p b=LE L p b:=by
 unfold LE
 rw [List.set_set]
 rcases Nat.lt_or_ge (ix p) L.length with h | h
 ·have:Ar (L.set (ix p) (BD (Ar L (ix p)) 0 [.int a])) (ix p)=BD (Ar L (ix p)) 0 [.int a]:=by
   unfold Ar
   simp [List.getD_eq_getElem?_getD,List.getElem?_set,h]
  rw [this]
  simp only [BD,List.set_set]
 ·rw [List.set_eq_of_length_le h,List.set_eq_of_length_le h]
theorem sN {N:Nat} {s0 s1 s2 s3 s4 s5 s6 s7 s8 s9 s10 s11 s12 s13 s15 s21 s22 s23 s25 s26 s27:Int} {s18 s20:Bool} {s14 s16 s17 s19 s24:Rows} {p:Int} {b:Bool} (h:Fit s14 s16 s17 s19 s24) (hN:2097152<N):PW N [.int s0,.int s1,.int s2,.int s3,.int s4,.int s5,.int s6,.int s7,.int s8,.int s9,.int s10,.int s11,.int s12,.int s13,.rows s14,.int s15,.rows s16,.rows s17,.bool s18,.rows s19,.bool s20,.int s21,.int s22,.int s23,.rows s24,.int s25,.int s26,.int s27,.int p,.bool b]=some (Ab (F6 (⟨s0,s1,s2,s3,s4,s5,s6,s7,s8,s9,s10,s11,s12,s13,s14,s15,s16,s17,s18,s19,s20,s21,s22,s23,s24,s25,s26,s27⟩:Inn) p b)):=by
 show On (std (HY N) N) (xOf _)=_
 generalize hres:(some (Ab (F6 (⟨s0,s1,s2,s3,s4,s5,s6,s7,s8,s9,s10,s11,s12,s13,s14,s15,s16,s17,s18,s19,s20,s21,s22,s23,s24,s25,s26,s27⟩:Inn) p b)):Option (List PV))=RR
 simp only [On,XM,ZB,V9,std,xOf,PXb,PXc,PXn,PXm,Nat.reduceAdd,Int.reduceBEq,CF h,PJ,wL h.bt hN]
 subst hres;simp only [F6]
 rw [BEq.comm (a:=s12) (b:=p),BEq.comm (a:=s13) (b:=p)]
 cases hp:inR p s14.length<;>try rfl
 simp only [Dh hp h.bt,PXb,PXc,PXn,PXm,Nat.reduceAdd,Int.reduceBEq]
 have e:=xq s14 p 3 2
 cases s12==0<;>cases s13==0<;>try rfl
 cases p==s12<;>cases p==s13<;>cases b<;>try rfl
 all_goals (simp only [PXb,PXc,PXn,PXm,Nat.reduceAdd,Int.reduceBEq];first | rfl | (cases ((B3 s14 s14.length).length:Int)==0<;>first | rfl | (rw [← e];rfl)) | (rw [← e];rfl))
end Go.Px
end
section
namespace Go.Px
set_option maxRecDepth 100000
def btw (a b c:Int):Bool:=iLe b a&&iLe a c
theorem D8 (N:Nat) (a b c:Int):Aq N [.int a,.int b,.int c]=some [.bool (btw a b c)]:=by
 show some [PV.bool (cond (iLe b a) (iLe a c) false)]=_
 rw [Rm];rfl
theorem NX (N:Nat) (a b c:Int):Cs N [.int a,.int b,.int c]=some [.bool (btw a b c)]:=by
 show some [PV.bool (cond (iLe b a) (iLe a c) false)]=_
 rw [Rm];rfl
theorem yv (N:Nat) (a b c:Int):Ud N [.int a,.int b,.int c]=some [.bool (btw a b c)]:=by
 show some [PV.bool (cond (iLe b a) (iLe a c) false)]=_
 rw [Rm];rfl
theorem eI (N:Nat) (a b c:Int):Fh N [.int a,.int b,.int c]=some [.bool (btw a b c)]:=by
 show some [PV.bool (cond (iLe b a) (iLe a c) false)]=_
 rw [Rm];rfl
def Gt (x1 x2 x3 x4 x5 x6 x7 x9 x10 x11 x12:Int):Bool:=btw x1 2 11&&btw x2 1 2&&btw x3 0 90&&btw x4 4 8&&btw x5 0 90&&btw x6 1 5&&btw x7 1 5&&btw x9 0 200&&btw x10 0 1000&&btw x11 0 9&&btw x12 0 11
theorem kD (N : Nat) (x0 : ByteArray) (x1 x2 x3 x4 x5 x6 x7 x9 x10 x11 x12 : Int) (x8 : Bool) (x13 : Rows) :
   GQ N [.str x0,.int x1,.int x2,.int x3,.int x4,.int x5,.int x6,.int x7,.bool x8,.int x9,.int x10,.int x11,.int x12,.rows x13]=some [.bool (Gt x1 x2 x3 x4 x5 x6 x7 x9 x10 x11 x12)]:=by
  show KC (std (L0 N) N) (xOf _)=_
  have e:∀ ls,L0 N 65 [] ls=Cs N ls:=fun ls=>rfl
  simp only [KC,std,xOf,e,NX,PXb,PXc,PXn,AA,Gt]
def RE (s:ByteArray) (i:Nat):Bool := !(iLe 65 (M5 s i)&&iLe (M5 s i) 90)&&((i:Int)==0||((!(M5 s i==95) && !(M5 s i==45))&&(iLt (M5 s i) 48||iLt 57 (M5 s i))))
def L6 (s:ByteArray):Bool := !Az (RE s) s.size 0&&(iLe 1 s.size&&iLe s.size 16)
theorem ABy (s:ByteArray):(GS s).length=s.size:=by
 simp only [GS,List.length_map,Array.length_toList];rfl
theorem AB1 (s:ByteArray) (i:Nat) (h:i<s.size):pvI (AD (GS s) i 0)=M5 s i:=by
 unfold AD Ar AL GS M5
 simp only [List.getD_eq_getElem?_getD,List.getElem?_map]
 have:i<s.data.toList.length:=by simpa using h
 rw [List.getElem?_eq_getElem this]
 simp [List.getElem?_eq_getElem this]
theorem sj (N:Nat) (s:ByteArray) (hN:s.size<N) (hs:s.size≤1048576):MP N [.str s]=some [.bool (L6 s)]:=by
 show Rb (std (cA N) N) (xOf _)=_
 simp only [Rb,std,xOf,ABy,PXb,PXc,PXn,AA]
 refine AM (Cm (len:=s.size) (RE s) [.bool false] ?_ ?_ N hN) ?_
 ·intro self
  simp only [PXb,PXc,PXn,AA,Ac]
 ·intro i self hi
  simp only [PXb,PXc,PXn,AA,Int.toNat_natCast,AB1 s i hi,AR (show i≤1099511627776 by omega),AX hi,AN hi,RE]
 ·unfold L6
  cases Az (RE s) s.size 0<;>rfl
theorem z9 (bs:ByteArray) (i:Nat) (r:List UInt8):(ByteArray.toList.loop bs i r).length=r.length+(bs.size - i):=by
 induction i,r using ByteArray.toList.loop.induct (bs:=bs) with
 | case1 i r h ih=>unfold ByteArray.toList.loop;rw [if_pos h,ih];simp;omega
 | case2 i r h=>unfold ByteArray.toList.loop;rw [if_neg h];simp;omega
theorem kf (bs:ByteArray):bs.toList.length=bs.size:=by
 unfold ByteArray.toList;rw [z9];simp
theorem uL (s:ByteArray):(s.toList==(⟨#[]⟩:ByteArray).toList) = !iLe 1 (s.size:Int):=by
 have h:=kf s
 have h0:=kf (⟨#[]⟩:ByteArray)
 rw [Bool.eq_iff_iff]
 simp only [beq_iff_eq,iLe,Bool.not_eq_true',decide_eq_false_iff_not]
 constructor
 ·intro e;rw [e,h0] at h
  have:(⟨#[]⟩:ByteArray).size=0:=rfl
  omega
 ·intro e
  have e1:s.toList=[]:=List.eq_nil_of_length_eq_zero (by omega)
  have e2:(⟨#[]⟩:ByteArray).toList=[]:=List.eq_nil_of_length_eq_zero h0
  rw [e1,e2]
theorem ul (N:Nat) (s:ByteArray) (hN:s.size<N) (hs:s.size≤1048576):Pd N [.str s]=some [.bool (L6 s)]:=by
 show T4 (std (eG N) N) (xOf _)=_
 simp only [T4,std,xOf,PXb,PXc,PXn,AA,uL]
 have e:iLe 1 (s.size:Int)=false∨iLe 1 (s.size:Int)=true:=by cases iLe 1 (s.size:Int)<;>simp
 have e2:iLt 16 (s.size:Int) = !iLe (s.size:Int) 16:=by unfold iLt iLe;rw [Bool.eq_iff_iff];simp
 rw [e2]
 cases h:iLe 1 (s.size:Int)&&iLe (s.size:Int) 16 with
 | false =>
  have:(!iLe 1 (s.size:Int) || !iLe (s.size:Int) 16)=true:=by rw [← Bool.not_and,h];rfl
  simp only [this,cond_true,L6,h,Bool.and_false]
 | true =>
  have:(!iLe 1 (s.size:Int) || !iLe (s.size:Int) 16)=false:=by rw [← Bool.not_and,h];rfl
  simp only [this,cond_false,L6,h,Bool.and_true]
  refine AM (Cm (len:=s.size) (RE s) [.bool false] ?_ ?_ N hN) ?_
  ·intro self
   simp only [PXb,PXc,PXn,AA,Ac]
  ·intro i self hi
   simp only [PXb,PXc,AA,Int.toNat_natCast,AR (show i≤1099511627776 by omega),AX hi,AN hi,RE]
   cases (iLe 65 (M5 s i)&&iLe (M5 s i) 90)<;>rfl
  ·cases Az (RE s) s.size 0<;>rfl
end Go.Px
end
section
namespace Go.Px
set_option maxRecDepth 100000
theorem vR {i len:Nat} (h:i<len) (hl:len≤1099511627776):(!iLt 0 (i:Int)||iIn (IntKind.i64.wrap ((i:Int) - 1)) (len:Int))=true:=by
 rw [C0 (by omega) (by omega)]
 simp only [iLt,iIn,Bool.or_eq_true,Bool.not_eq_true',decide_eq_false_iff_not,decide_eq_true_eq]
 omega
def wo (L:Rows) (ov:Int) (i:Nat):Bool:=(iLt (atI L i 0) 1||iLt (atI L i 1) (atI L i 0)||iLt ov (atI L i 1)) || !btw (atI L i 2) 0 11
def rK (L:Rows) (i:Nat):Bool:=iLt 0 (i:Int)&&iLe (atI L i 0) (pvI (AD L (IntKind.i64.wrap ((i:Int) - 1)).toNat 1))
def km (L:Rows) (ov:Int) (i:Nat):Option (List PV):=cond (wo L ov i) (some [.int 2]) (cond (rK L i) (some [.int 8]) none)
def y3:Option (List PV)→Int
 | none=>0
 | some r=>pvI (AL r 0)
def kg (L:Rows) (ov:Int):Int:=cond (iLt 8 (L.length:Int)) 9 (y3 (BJ (km L ov) L.length 0))
theorem aC (o:Option (List PV)):cond (pvI (AL (NN o) 0)==((0:Nat):Int)) (some [PV.int (pvI (AL (NN o) 1))]) (some [PV.int 0])=some [PV.int (y3 o)]:=by
 cases o<;>rfl
theorem kz (N : Nat) (x0 : ByteArray) (x1 x2 x3 x4 x5 x6 x7 x9 x10 x11 x12 : Int) (x8 : Bool) (L : Rows) (hN : 2097152 < N) :
   Hy N [.str x0,.int x1,.int x2,.int x3,.int x4,.int x5,.int x6,.int x7,.bool x8,.int x9,.int x10,.int x11,.int x12,.rows L]=some [.int (kg L x3)]:=by
  show LW (std (Nb N) N) (xOf _)=_
  have e:∀ ls,Nb N 65 [] ls=Cs N ls:=fun ls=>rfl
  simp only [LW,std,xOf,e,NX,PXb,PXc,PXn,AA,kg]
  cases h8:iLt 8 (L.length:Int) with
  | true=>rfl
  | false =>
    have hl:L.length≤8:=by simp [iLt] at h8;omega
    simp only [cond_false]
    refine AM (CK (len:=L.length) (km L x3) ?_ ?_ L.length 0 N (by omega) (by omega)) ?_
    · intro self
      simp only [PXb,PXc,PXn,AA,Ac]
    · intro i self hi
      simp only [PXb,PXc,PXn,AA,Int.toNat_natCast,AR (show i≤1099511627776 by omega),AX hi,AN hi,NX,e,vR hi (by omega)]
      simp only [km,wo,rK,atI]
      cases (iLt (pvI (AD L i 0)) 1||iLt (pvI (AD L i 1)) (pvI (AD L i 0))||iLt x3 (pvI (AD L i 1)) || !btw (pvI (AD L i 2)) 0 11) <;>
      cases (iLt 0 (i:Int)&&iLe (pvI (AD L i 0)) (pvI (AD L (IntKind.i64.wrap ((i:Int) - 1)).toNat 1)))<;>rfl
    · exact aC _
def EB (x0:ByteArray) (x1 x2 x3 x4 x5 x6 x7 x9 x10 x11 x12:Int) (L:Rows):Int :=
  cond (!L6 x0) 5 (cond (!Gt x1 x2 x3 x4 x5 x6 x7 x9 x10 x11 x12) 2
    (cond ((!(x10==0)&&x2==1)||((!(x5==0)||iLt 0 (L.length:Int))&&x3==0)) 1
      (cond (!(x5==0)&&iLt (IntKind.i64.wrap (x5 * x1)) x3) 13 (kg L x3))))
theorem Yi (N : Nat) (x0 : ByteArray) (x1 x2 x3 x4 x5 x6 x7 x9 x10 x11 x12 : Int) (x8 : Bool) (L : Rows) (hN : 2097152 < N) (hs : x0.size ≤ 1048576) :
   AW N [.str x0,.int x1,.int x2,.int x3,.int x4,.int x5,.int x6,.int x7,.bool x8,.int x9,.int x10,.int x11,.int x12,.rows L]=some [.int (EB x0 x1 x2 x3 x4 x5 x6 x7 x9 x10 x11 x12 L)]:=by
  show NI (std (Gh N) N) (xOf _)=_
  have e:∀ ls,Gh N 51 [] ls=MP N ls:=fun ls=>rfl
  have e2:∀ ls,Gh N 52 [] ls=GQ N ls:=fun ls=>rfl
  have e3:∀ ls,Gh N 53 [] ls=Hy N ls:=fun ls=>rfl
  simp only [NI,std,xOf,e,e2,e3,sj N x0 (by omega) hs,kD,kz N _ _ _ _ _ _ _ _ _ _ _ _ _ _ hN,PXb,PXc,AA,EB]
  cases L6 x0<;>cases Gt x1 x2 x3 x4 x5 x6 x7 x9 x10 x11 x12<;>try rfl
  simp only [PXb,PXc,AA,Bool.not_true]
  cases (!(x10==0)&&x2==1)<;>cases ((!(x5==0)||iLt 0 (L.length:Int))&&x3==0)<;>try rfl
  cases (!(x5==0)&&iLt (IntKind.i64.wrap (x5 * x1)) x3)<;>rfl
theorem ew (N : Nat) (x0 : ByteArray) (x1 x2 x3 x4 x5 x6 x7 x9 x10 x11 x12 : Int) (x8 : Bool) (L : Rows) (hN : 2097152 < N) (hs : x0.size ≤ 1048576) :
   Aj N [.str x0,.int x1,.int x2,.int x3,.int x4,.int x5,.int x6,.int x7,.bool x8,.int x9,.int x10,.int x11,.int x12,.rows L]=some [.int (EB x0 x1 x2 x3 x4 x5 x6 x7 x9 x10 x11 x12 L)]:=by
  show Rw (std (NJ N) N) (xOf _)=_
  have e:∀ ls,NJ N 56 [] ls=Pd N ls:=fun ls=>rfl
  have e2:∀ ls,NJ N 57 [] ls=Ud N ls:=fun ls=>rfl
  simp only [Rw,std,xOf,e,e2,ul N x0 (by omega) hs,yv,PXb,PXc,PXn,AA]
  simp only [← Bool.not_and,EB]
  rw [show (btw x1 2 11&&btw x2 1 2&&btw x3 0 90&&btw x4 4 8&&btw x5 0 90&&btw x6 1 5&&btw x7 1 5&&btw x9 0 200&&btw x10 0 1000&&btw x11 0 9&&btw x12 0 11)=Gt x1 x2 x3 x4 x5 x6 x7 x9 x10 x11 x12 from rfl]
  rw [Bool.and_comm (x3==0)]
  cases L6 x0<;>cases Gt x1 x2 x3 x4 x5 x6 x7 x9 x10 x11 x12<;>try rfl
  cases (!(x10==0)&&x2==1)||((!(x5==0)||iLt 0 (L.length:Int))&&x3==0)<;>try rfl
  cases (!(x5==0)&&iLt (IntKind.i64.wrap (x5 * x1)) x3)<;>try rfl
  simp only [Bool.not_true,cond_false,kg]
  cases h8:iLt 8 (L.length:Int) with
  | true=>rfl
  | false =>
    have hl:L.length≤8:=by simp [iLt] at h8;omega
    simp only [cond_false]
    refine AM (CK (len:=L.length) (km L x3) ?_ ?_ L.length 0 N (by omega) (by omega)) ?_
    · intro self
      simp only [PXb,PXc,PXn,AA,Ac]
    · intro i self hi
      simp only [PXb,PXc,PXn,AA,Int.toNat_natCast,AR (show i≤1099511627776 by omega),AX hi,AN hi,vR hi (by omega)]
      simp only [km,wo,rK,atI]
      cases (iLt (pvI (AD L i 0)) 1||iLt (pvI (AD L i 1)) (pvI (AD L i 0))||iLt x3 (pvI (AD L i 1)) || !btw (pvI (AD L i 2)) 0 11) <;>
      cases (iLt 0 (i:Int)&&iLe (pvI (AD L i 0)) (pvI (AD L (IntKind.i64.wrap ((i:Int) - 1)).toNat 1)))<;>rfl
    · exact aC _
end Go.Px
end
section
namespace Go.Px
set_option maxRecDepth 100000
theorem cU (N:Nat) (L:Rows) (v:Int) (hN:L.length<N) (hl:L.length≤2097152):EF N [.rows L,.int v]=some [.int (S8 (fun j=>v==atI L j 0) L.length)]:=by
 show GK (std (O3 N) N) (xOf _)=_
 simp only [GK,std,xOf,PXb,PXc,PXn,AA]
 refine AM (CK (len:=L.length) (G2 fun j=>v==atI L j 0) ?_ ?_ L.length 0 N (by omega) (by omega)) ?_
 ·intro self
  simp only [PXb,PXc,PXn,AA,Ac]
 ·intro i self hi
  simp only [PXb,PXc,PXn,AA,AR (show i≤1099511627776 by omega),AX hi,AN hi,G2,A8]
  cases v==atI L i 0<;>rfl
 ·unfold S8
  cases BJ (G2 fun j=>v==atI L j 0) L.length 0<;>rfl
def Hl (L:Rows) (k:Nat) (v:Int):Bool:=Az (fun j=>v==atI L j 0) k 0
theorem Mc (N:Nat) (L:Rows) (v:Int) (hN:L.length<N) (hl:L.length≤2097152):Aw N [.rows L,.int v]=some [.bool (Hl L L.length v)]:=by
 show EU (std (F3 N) N) (xOf _)=_
 have e:∀ ls,F3 N 144 [] ls=EF N ls:=fun ls=>rfl
 simp only [EU,std,xOf,PXb,PXc,PXn,AA,e,cU N L v hN hl,Lp,Hl]
theorem AAL (L:Rows) (i:Nat) (v:Int) (h:i≤L.length):Hl (L.take i) (L.take i).length v=Hl L i v:=by
 rw [List.length_take,Nat.min_eq_left h]
 exact mK i 0 (fun j _ hj=>by rw [tL (by omega)])
def LG (L:Rows) (n:Int) (i:Nat):Bool := !btw (atI L i 0) 1 n||Hl L i (atI L i 0)
def GP (L:Rows) (n:Int):Bool := !Az (LG L n) L.length 0
theorem O1 (N:Nat) (L:Rows) (n:Int) (hN:L.length<N) (hl:L.length≤2097152):Dl N [.rows L,.int n]=some [.bool (GP L n)]:=by
 show Fr (std (EO N) N) (xOf _)=_
 have e:∀ ls,EO N 107 [] ls=Aq N ls:=fun ls=>rfl
 have e2:∀ ls,EO N 130 [] ls=Aw N ls:=fun ls=>rfl
 simp only [Fr,std,xOf,PXb,PXc,PXn,AA]
 refine AM (Cm (len:=L.length) (LG L n) [.bool false] ?_ ?_ N hN) ?_
 ·intro self
  simp only [PXb,PXc,PXn,AA,Ac]
 ·intro i self hi
  have h1:(L.take i).length≤L.length:=List.length_take_le' i L
  simp only [PXb,PXc,PXn,AA,AR (show i≤1099511627776 by omega),AX hi,AN hi,e,e2,D8,AAW (Nat.le_of_lt hi),Int.toNat_zero,List.drop_zero,Mc N (L.take i) _ (by omega) (by omega),AAL L i _ (by omega),A8,LG]
  cases btw (atI L i 0) 1 n<;>cases Hl L i (atI L i 0)<;>rfl
 ·unfold GP
  cases Az (LG L n) L.length 0<;>rfl
theorem lF (N:Nat) (L:Rows) (n:Int) (hN:L.length<N) (hl:L.length≤2097152):So N [.rows L,.int n]=some [.bool (GP L n)]:=by
 show W2 (std (Xx N) N) (xOf _)=_
 have e:∀ ls,Xx N 138 [] ls=Fh N ls:=fun ls=>rfl
 simp only [W2,std,xOf,PXb,PXc,PXn,AA]
 refine AM (Cm (len:=L.length) (LG L n) [.bool false] ?_ ?_ N hN) ?_
 ·intro self
  simp only [PXb,PXc,PXn,AA,Ac]
 ·intro i self hi
  have h1:(L.take i).length=i:=by rw [List.length_take];omega
  simp only [PXb,PXc,PXn,AA,AR (show i≤1099511627776 by omega),AX hi,AN hi,e,eI,AAW (Nat.le_of_lt hi),Int.toNat_zero,List.drop_zero,A8,LG,h1]
  cases btw (atI L i 0) 1 n with
  | false=>rfl
  | true =>
   simp only [PXb,PXc,PXn,AA]
   refine AM (aZ (len:=i) (fun j=>[.int (j:Int)]) (fun j=>atI L i 0==atI L j 0) [.int 0,.bool false] [.int 1,.int (i:Int)] ?_ ?_ N (by omega)) ?_
   ·intro self
    simp only [PXb,PXc,PXn,AA,Ac]
   ·intro j self hj
    simp only [PXb,PXc,PXn,AA,AR (show j≤1099511627776 by omega),AX hj,AN hj,tL hj]
    rfl
   ·unfold Hl
    cases Az (fun j=>atI L i 0==atI L j 0) i 0<;>rfl
 ·unfold GP
  cases Az (LG L n) L.length 0<;>rfl
theorem fx (N:Nat) (v:Int):DA N [.int v]=some [.bool (!(v==0))]:=rfl
def lsI (L14 L16 L17 L19 L24:Rows) (b18 b20:Bool) (x0 x1 x2 x3 x4 x5 x6 x7 x8 x9 x10 x11 x12 x13 x15 x21 x22 x23 x25 x26 x27:Int):List PV :=
 [.int x0,.int x1,.int x2,.int x3,.int x4,.int x5,.int x6,.int x7,.int x8,.int x9,.int x10,.int x11,.int x12,.int x13,.rows L14,.int x15,.rows L16,.rows L17,.bool b18,.rows L19,.bool b20,.int x21,.int x22,.int x23,.rows L24,.int x25,.int x26,.int x27]
section
variable (N:Nat) (L14 L16 L17 L19 L24:Rows) (b18 b20:Bool) (x0 x1 x2 x3 x4 x5 x6 x7 x8 x9 x10 x11 x12 x13 x15 x21 x22 x23 x25 x26 x27:Int)
theorem mQ (hN:L14.length<N) (hl:L14.length≤2097152):CE N (lsI L14 L16 L17 L19 L24 b18 b20 x0 x1 x2 x3 x4 x5 x6 x7 x8 x9 x10 x11 x12 x13 x15 x21 x22 x23 x25 x26 x27)=some [.bool (Bx L14)]:=by
 show FJ (std (FM N) N) (xOf (lsI ..))=_
 have e:∀ ls,FM N 206 [] ls=DA N ls:=fun ls=>rfl
 simp only [FJ,std,xOf,lsI,PXb,PXc,PXn,AA]
 rw [show Bx L14=iLe 0 (S8 (fun i => !(atI L14 i 0==0)) L14.length) from (Lp _ _).symm]
 rw [Option.bind_assoc]
 refine AM (CK (len:=L14.length) (G2 fun i => !(atI L14 i 0==0)) ?_ ?_ L14.length 0 N (by omega) (by omega)) ?_
 ·intro self
  simp only [PXb,PXc,PXn,AA,Ac]
 ·intro i self hi
  simp only [PXb,PXc,PXn,AA,AR (show i≤1099511627776 by omega),AX hi,AN hi,G2,A8,e,fx]
  cases atI L14 i 0==0<;>rfl
 ·unfold S8
  cases BJ (G2 fun i => !(atI L14 i 0==0)) L14.length 0<;>rfl
theorem eX (hN:L14.length<N) (hl:L14.length≤2097152):Bj N (lsI L14 L16 L17 L19 L24 b18 b20 x0 x1 x2 x3 x4 x5 x6 x7 x8 x9 x10 x11 x12 x13 x15 x21 x22 x23 x25 x26 x27)=some [.bool (Bx L14)]:=by
 show JT (std (Sy N) N) (xOf (lsI ..))=_
 simp only [JT,std,xOf,lsI,PXb,PXc,PXn,AA]
 refine AM (Cm (len:=L14.length) (fun i => !(atI L14 i 0==0)) [.bool true] ?_ ?_ N hN) ?_
 ·intro self
  simp only [PXb,PXc,PXn,AA,Ac]
 ·intro i self hi
  simp only [PXb,PXc,PXn,AA,AR (show i≤1099511627776 by omega),AX hi,AN hi,A8]
 ·unfold Bx
  cases Az (fun i => !(atI L14 i 0==0)) L14.length 0<;>rfl
theorem jl (hN:L14.length<N) (hl:L14.length≤2097152):BR N (lsI L14 L16 L17 L19 L24 b18 b20 x0 x1 x2 x3 x4 x5 x6 x7 x8 x9 x10 x11 x12 x13 x15 x21 x22 x23 x25 x26 x27)=some [.bool (DV L14 x12 x13)]:=by
 show ET (std (El N) N) (xOf (lsI ..))=_
 have e:∀ ls,El N 181 [] ls=CE N ls:=fun ls=>rfl
 have:=mQ N L14 L16 L17 L19 L24 b18 b20 x0 x1 x2 x3 x4 x5 x6 x7 x8 x9 x10 x11 x12 x13 x15 x21 x22 x23 x25 x26 x27 hN hl
 simp only [lsI] at this
 simp only [ET,std,xOf,lsI,PXb,PXc,PXn,AA,e,this,DV]
theorem pZ (hN:L14.length<N) (hl:L14.length≤2097152):Cb N (lsI L14 L16 L17 L19 L24 b18 b20 x0 x1 x2 x3 x4 x5 x6 x7 x8 x9 x10 x11 x12 x13 x15 x21 x22 x23 x25 x26 x27)=some [.bool (DV L14 x12 x13)]:=by
 show Hb (std (HR N) N) (xOf (lsI ..))=_
 have e:∀ ls,HR N 141 [] ls=Bj N ls:=fun ls=>rfl
 have:=eX N L14 L16 L17 L19 L24 b18 b20 x0 x1 x2 x3 x4 x5 x6 x7 x8 x9 x10 x11 x12 x13 x15 x21 x22 x23 x25 x26 x27 hN hl
 simp only [lsI] at this
 simp only [Hb,std,xOf,lsI,PXb,PXc,PXn,AA,e,this,DV]
theorem nf (hN:L14.length<N) (hl:L14.length≤2097152):C9 N (lsI L14 L16 L17 L19 L24 b18 b20 x0 x1 x2 x3 x4 x5 x6 x7 x8 x9 x10 x11 x12 x13 x15 x21 x22 x23 x25 x26 x27)=some [.rows (B3 L14 L14.length)]:=by
 show GB (std (O0 N) N) (xOf (lsI ..))=_
 simp only [GB,std,xOf,lsI,PXb,PXc,PXn,AA]
 refine AM (Bk (len:=L14.length) (fun i=>[.rows (B3 L14 i),.int (i:Int)]) [.rows (B3 L14 L14.length)] ?_ ?_ N hN) rfl
 ·intro self
  simp only [PXb,PXc,PXn,AA,Ac]
 ·intro i self hi
  have h2:(B3 L14 i++[[PV.int ((i:Int)+1)]]).length≤4194304:=by have:=VC L14 i;simp;omega
  simp only [PXb,PXc,PXn,AA,AR (show i≤1099511627776 by omega),AX hi,AN hi,A8,B3,DP h2 (show 8≤4096 by omega)]
  cases (atI L14 i 0==0||atI L14 i 0==3)<;>rfl
theorem ur (hN:L14.length<N) (hl:L14.length≤2097152):E3 N (lsI L14 L16 L17 L19 L24 b18 b20 x0 x1 x2 x3 x4 x5 x6 x7 x8 x9 x10 x11 x12 x13 x15 x21 x22 x23 x25 x26 x27)=some [.rows (B3 L14 L14.length)]:=by
 show LP (std (Ub N) N) (xOf (lsI ..))=_
 simp only [LP,std,xOf,lsI,PXb,PXc,PXn,AA]
 refine AM (Bk (len:=L14.length) (fun i=>[.rows (B3 L14 i),.int (i:Int)]) [.rows (B3 L14 L14.length)] ?_ ?_ N hN) rfl
 ·intro self
  simp only [PXb,PXc,PXn,AA,Ac]
 ·intro i self hi
  have h2:(B3 L14 i++[[PV.int ((i:Int)+1)]]).length≤4194304:=by have:=VC L14 i;simp;omega
  simp only [PXb,PXc,PXn,AA,AR (show i≤1099511627776 by omega),AX hi,AN hi,A8,B3,DP h2 (show 8≤4096 by omega)]
  cases (atI L14 i 0==0||atI L14 i 0==3)<;>rfl
end
theorem Zk (N:Nat) (v:Int):Dq N [.int v]=some [.bool (!btw v 0 1000000000)]:=by
 show Fp (std (H1 N) N) (xOf _)=_
 have e:∀ ls,H1 N 107 [] ls=Aq N ls:=fun ls=>rfl
 simp only [Fp,std,xOf,PXb,PXc,PXn,AA,e,D8]
end Go.Px
end
section
namespace Go.Px
set_option maxRecDepth 100000
def pIs (L:Rows) (v:Int) (i:Nat):Bool:=atI L i 0==v
def Z3 (s n:Int) (i:Nat):Bool:=s==(i:Int)+1||n==(i:Int)+1
def Ty (L:Rows) (s n:Int) (i:Nat):Bool:=iLt 3 (atI L i 0)||(pIs L 1 i && !Z3 s n i)
def WC (L:Rows) (s n:Int) (i:Nat):Bool:=iLt 3 (atI L i 0) || !(pIs L 1 i==Z3 s n i)
def eM (L:Rows):Int:=CZ (pIs L 2) L.length
def ins (L:Rows):Int:=CZ (pIs L 1) L.length
def two (s n:Int):Int:=cond (!(n==0)) (IntKind.i64.wrap (cond (!(s==0)) (IntKind.i64.wrap (0+1)) 0+1)) (cond (!(s==0)) (IntKind.i64.wrap (0+1)) 0)
def qM (L:Rows) (s n wk k:Int):Bool :=
 !Az (Ty L s n) L.length 0&&((btw s 0 k&&btw n 0 k)&&(!(s==n && !(s==0))&&((two s n==ins L&&(!Bx L||iLt 0 (two s n)))&&eM L==wk)))
def Tm (L:Rows) (s n wk:Int):Bool :=
 !Az (WC L s n) L.length 0&&(!((Bx L&&iLt (ins L) 1)||(!(s==0)&&s==n))&&wk==eM L)
def xP (L:Rows):Nat→Bool
 | 0=>false
 | i+1=>xP L i || !(atI L i 0==0)
theorem vY (L:Rows):∀ i,xP L i=Az (fun j => !(atI L j 0==0)) i 0
 | 0=>rfl
 | i+1=>by rw [fL,Nat.zero_add,← vY L i];rfl
section
variable (N:Nat) (L14 L16 L17 L19 L24:Rows) (b18 b20:Bool) (x0 x1 x2 x3 x4 x5 x6 x7 x8 x9 x10 x11 x12 x13 x15 x21 x22 x23 x25 x26 x27:Int)
theorem du (k:Int) (hN:L14.length<N) (hl:L14.length≤2097152):Ei N (lsI L14 L16 L17 L19 L24 b18 b20 x0 x1 x2 x3 x4 x5 x6 x7 x8 x9 x10 x11 x12 x13 x15 x21 x22 x23 x25 x26 x27++[.int k])=some [.bool (qM L14 x12 x13 x4 k)]:=by
  simp only [lsI,List.cons_append,List.nil_append]
  show HE (std (Ji N) N) (xOf _)=_
  have e:∀ ls,Ji N 107 [] ls=Aq N ls:=fun ls=>rfl
  simp only [HE,std,xOf,lsI,PXb,PXc,PXn,AA]
  refine AM (aZ (len:=L14.length) (fun i=>[.int (CZ (pIs L14 2) i),.int (CZ (pIs L14 1) i),.bool (xP L14 i),.int (i:Int)])
    (Ty L14 x12 x13) [.int 0,.bool false] [.int 1,.int (eM L14),.int (ins L14),.bool (Bx L14)] ?_ ?_ N hN) ?_
  · intro self
    simp only [PXb,PXc,PXn,AA,Ac,vY]
    rfl
  · intro i self hi
    simp only [PXb,PXc,AA,AR (show i≤1099511627776 by omega),AX hi,AN hi,A8,aG (pIs L14 2) (show i≤1099511627776 by omega),aG (pIs L14 1) (show i≤1099511627776 by omega)]
    unfold Ty pIs Z3
    simp only [CZ,xP]
    cases h3:iLt 3 (atI L14 i 0) with
    | true=>rfl
    | false =>
      cases h1:atI L14 i 0==1 with
      | true =>
        rw [nZ h1]
        cases x12==(i:Int)+1<;>cases x13==(i:Int)+1<;>rfl
      | false=>cases h2:atI L14 i 0==2<;>rfl
  · unfold qM
    simp only [e,D8]
    cases Az (Ty L14 x12 x13) L14.length 0 with
    | true=>rfl
    | false =>
      simp only [PXb,PXc,PXn,AA]
      unfold two
      cases btw x12 0 k<;>cases btw x13 0 k<;>try rfl
      cases x12==0<;>cases x13==0<;>cases x12==x13<;>try rfl
theorem nJ (hN:L14.length<N) (hl:L14.length≤2097152):JB N (lsI L14 L16 L17 L19 L24 b18 b20 x0 x1 x2 x3 x4 x5 x6 x7 x8 x9 x10 x11 x12 x13 x15 x21 x22 x23 x25 x26 x27)=some [.bool (Tm L14 x12 x13 x4)]:=by
  show Mt (std (Oc N) N) (xOf (lsI ..))=_
  have e:∀ ls,Oc N 141 [] ls=Bj N ls:=fun ls=>rfl
  have h70:=eX N L14 L16 L17 L19 L24 b18 b20 x0 x1 x2 x3 x4 x5 x6 x7 x8 x9 x10 x11 x12 x13 x15 x21 x22 x23 x25 x26 x27 hN hl
  simp only [lsI] at h70
  simp only [Mt,std,xOf,lsI,PXb,PXc,PXn,AA,e,h70]
  refine AM (aZ (len:=L14.length) (fun i=>[.int (CZ (pIs L14 2) i),.int (CZ (pIs L14 1) i),.int (i:Int)])
    (WC L14 x12 x13) [.int 0,.bool false] [.int 1,.int (eM L14),.int (ins L14)] ?_ ?_ N hN) ?_
  · intro self
    simp only [PXb,PXc,PXn,AA,Ac]
    rfl
  · intro i self hi
    simp only [PXb,PXc,AA,AR (show i≤1099511627776 by omega),AX hi,AN hi,A8,aG (pIs L14 2) (show i≤1099511627776 by omega),aG (pIs L14 1) (show i≤1099511627776 by omega)]
    unfold WC pIs Z3
    simp only [CZ]
    cases h3:iLt 3 (atI L14 i 0) with
    | true=>rfl
    | false =>
      cases h1:atI L14 i 0==1 with
      | true =>
        rw [nZ h1]
        cases x12==(i:Int)+1<;>cases x13==(i:Int)+1<;>rfl
      | false=>cases h2:atI L14 i 0==2<;>cases x12==(i:Int)+1<;>cases x13==(i:Int)+1<;>rfl
  · unfold Tm
    cases Az (WC L14 x12 x13) L14.length 0 with
    | true=>rfl
    | false =>
      simp only [PXb,PXc,PXn,AA]
      cases Bx L14<;>cases h:iLt (ins L14) 1<;>cases x12==0<;>cases x12==x13<;>first | rfl | (simp [NN,AL,h])
end
end Go.Px
end
section
namespace Go.Px
set_option maxRecDepth 100000
theorem AAl (s n:Int):two s n=cond (!(s==0)) 1 0+cond (!(n==0)) 1 0:=by
 unfold two
 cases s==0<;>cases n==0<;>rfl
theorem AA0 {s n:Int} {len:Nat} (h1:0≤s∧s≤(len:Int)) (h2:0≤n∧n≤(len:Int)) (hd:(s==n && !(s==0))=false):two s n=CZ (Z3 s n) len:=by
 have hs:iLe s (len:Int)=true:=by simp only [iLe,decide_eq_true_eq];omega
 have hn:iLe n (len:Int)=true:=by simp only [iLe,decide_eq_true_eq];omega
 unfold Z3
 rw [yA (p:=fun i=>s==(i:Int)+1) (q:=fun i=>n==(i:Int)+1) len (fun j _ hp=>by
  have e1:s=(j:Int)+1:=by simpa using hp
  show (n==(j:Int)+1)=false
  rw [beq_eq_false_iff_ne]
  intro e2
  have e3:(s==n)=true:=by rw [beq_iff_eq];omega
  have e4:(s==0)=false:=by rw [beq_eq_false_iff_ne];omega
  rw [e3,e4] at hd;cases hd),qs s len h1.1,qs n len h2.1,hs,hn,Bool.and_true,Bool.and_true,AAl]
theorem ABG (x:Int):iLt 0 x = !iLt x 1:=by
 unfold iLt
 rw [Bool.eq_iff_iff]
 simp only [decide_eq_true_eq,Bool.not_eq_true',decide_eq_false_iff_not]
 omega
theorem zX {L : Rows} {s n : Int} (h1 : 0 ≤ s ∧ s ≤ (L.length : Int)) (h2 : 0 ≤ n ∧ n ≤ (L.length : Int)) (hd : (s == n && !(s == 0)) = false) :
    (!Az (Ty L s n) L.length 0&&two s n==ins L) = !Az (WC L s n) L.length 0:=by
  have h2c:=AA0 h1 h2 hd
  rw [Bool.eq_iff_iff]
  simp only [Bool.and_eq_true,Bool.not_eq_true',Ld,beq_iff_eq]
  constructor
  · intro ⟨ha,hb⟩ j _ hj
    have hm:∀ j,j<L.length→pIs L 1 j=true→Z3 s n j=true:=fun j hj hp=>by
      have:=ha j (Nat.zero_le _) (by omega)
      unfold Ty at this
      rw [hp] at this
      simp only [Bool.or_eq_false_iff,Bool.true_and,Bool.not_eq_false'] at this
      exact this.2
    have he:=yd L.length hm (by rw [← h2c,hb];rfl) j (by omega)
    have:=ha j (Nat.zero_le _) hj
    unfold Ty at this
    unfold WC
    rw [Bool.or_eq_false_iff] at this ⊢
    exact ⟨this.1,by rw [he];simp⟩
  · intro ha
    have hm:∀ j,j<L.length→pIs L 1 j=Z3 s n j:=fun j hj=>by
      have:=ha j (Nat.zero_le _) (by omega)
      unfold WC at this
      rw [Bool.or_eq_false_iff] at this
      simpa using this.2
    refine ⟨fun j h0 hj=>?_,?_⟩
    · have:=ha j h0 hj
      unfold WC at this
      unfold Ty
      rw [Bool.or_eq_false_iff] at this ⊢
      refine ⟨this.1,?_⟩
      rw [hm j (by omega)]
      cases Z3 s n j<;>rfl
    · rw [h2c]
      exact (o6 L.length hm).symm
theorem ABr (L:Rows) (s n wk k:Int) (hk:(L.length:Int)=k):qM L s n wk k=(btw s 0 k&&btw n 0 k&&Tm L s n wk):=by
 subst hk
 unfold qM Tm
 cases hs:btw s 0 (L.length:Int) with
 | false=>simp only [Bool.false_and,Bool.and_false]
 | true =>
  cases hn:btw n 0 (L.length:Int) with
  | false=>simp only [Bool.false_and,Bool.and_false]
  | true =>
   have h1:0≤s∧s≤(L.length:Int):=by simpa [btw,iLe] using hs
   have h2:0≤n∧n≤(L.length:Int):=by simpa [btw,iLe] using hn
   simp only [Bool.true_and]
   cases hd:(s==n && !(s==0)) with
   | true =>
    have:(!(s==0)&&s==n)=true:=by rw [Bool.and_comm];exact hd
    rw [this]
    simp only [Bool.or_true,Bool.not_true,Bool.false_and,Bool.and_false]
   | false =>
    have:(!(s==0)&&s==n)=false:=by rw [Bool.and_comm];exact hd
    rw [this,← zX h1 h2 hd]
    simp only [Bool.or_false,Bool.not_false,Bool.true_and]
    rw [show (wk==eM L)=(eM L==wk) from BEq.comm]
    cases hA:Az (Ty L s n) L.length 0 with
    | true=>rfl
    | false =>
     cases hB:two s n==ins L with
     | false=>rfl
     | true =>
      rw [beq_iff_eq.1 hB,ABG]
      simp only [Bool.true_and,Bool.not_false,Bool.not_and]
end Go.Px
end
section
namespace Go.Px
set_option maxRecDepth 100000
def DS (v:Int):Bool := !btw v 0 1000000000
def al (x1 x3 x5 x6 x7 x8 x9 x10 x21 x23 x25 x26:Int):Rows:=[[.int x1],[.int x3],[.int x5],[.int x6],[.int x7],[.int x8],[.int x9],[.int x10],[.int x21],[.int x23],[.int x25],[.int x26]]
section
variable (N:Nat) (L14 L16 L17 L19 L24:Rows) (b18 b20:Bool) (x0 x1 x2 x3 x4 x5 x6 x7 x8 x9 x10 x11 x12 x13 x15 x21 x22 x23 x25 x26 x27:Int)
theorem fQ (hN:2097152<N) (hl:L19.length≤1048576):Eo N (lsI L14 L16 L17 L19 L24 b18 b20 x0 x1 x2 x3 x4 x5 x6 x7 x8 x9 x10 x11 x12 x13 x15 x21 x22 x23 x25 x26 x27)=some [.bool (!(L1 DS (al x1 x3 x5 x6 x7 x8 x9 x10 x21 x23 x25 x26)||L1 DS L19))]:=by
 show G9 (std (Jb N) N) (xOf (lsI ..))=_
 have e:∀ ls,Jb N 132 [] ls=Dq N ls:=fun ls=>rfl
 rw [← qd]
 simp only [G9,std,xOf,lsI,PXb,PXc,PXn,AA,al]
 generalize hM:([PV.int x1]::[PV.int x3]::[PV.int x5]::[PV.int x6]::[PV.int x7]::[PV.int x8]::[PV.int x9]::[PV.int x10]::[PV.int x21]::[PV.int x23]::[PV.int x25]::[PV.int x26]::L19:Rows)=M
 have hM2:M.length≤2097152:=by rw [← hM];simp only [List.length_cons];omega
 rw [DP (n:=M.length) (by omega) (by omega)]
 simp only [PXb,PXc,PXn,AA]
 rw [Option.bind_assoc]
 refine AM (CK (len:=M.length) (G2 fun i=>DS (atI M i 0)) ?_ ?_ M.length 0 N (by omega) (by omega)) ?_
 ·intro self
  simp only [PXb,PXc,PXn,AA,Ac]
 ·intro i self hi
  simp only [PXb,PXc,PXn,AA,AR (show i≤1099511627776 by omega),AX hi,AN hi,G2,A8,e,Zk,DS]
  cases btw (atI M i 0) 0 1000000000<;>rfl
 ·unfold L1
  rw [← Lp]
  unfold S8
  cases BJ (G2 fun i=>DS (atI M i 0)) M.length 0<;>rfl
end
def OD (a3 x2:Int):Bool:=cond (a3==0) (x2==0) (btw x2 1 a3)
def MZ (s:ByteArray) (a1 a2 a3 a4 a5 a6 a7 a9 a10 a11 a12:Int) (La L14 L16 L17 L19 L24:Rows) (x0 x1 x2 x3 x4 x5 x6 x7 x8 x9 x10 x11 x12 x13 x15 x21 x22 x23 x25 x26 x27:Int):Bool :=
  EB s a1 a2 a3 a4 a5 a6 a7 a9 a10 a11 a12 La==0&&(btw x0 1 2&&((L14.length:Int)==a1&&((L19.length:Int)==a1&&((L24.length:Int)==a1&&(!iLt 5 x27 &&
    (btw x12 0 a1&&(btw x13 0 a1&&(Tm L14 x12 x13 x4&&(btw x15 0 a1&&(btw x22 0 a1&&(GP L16 a1&&(GP L17 a1&&(OD a3 x2&&(btw x11 0 (IntKind.i64.wrap (a4 - 1)) &&
      (!L1 DS (al x1 x3 x5 x6 x7 x8 x9 x10 x21 x23 x25 x26) && !L1 DS L19)))))))))))))))
theorem wh {s:ByteArray} {a1 a2 a3 a4 a5 a6 a7 a9 a10 a11 a12:Int} {La:Rows} (h:(EB s a1 a2 a3 a4 a5 a6 a7 a9 a10 a11 a12 La==0)=true):0≤a3:=by
 unfold EB at h
 cases hn:L6 s with
 | false=>rw [hn] at h;exact absurd h Bool.false_ne_true
 | true =>
  cases hr:Gt a1 a2 a3 a4 a5 a6 a7 a9 a10 a11 a12 with
  | false=>rw [hn,hr] at h;exact absurd h Bool.false_ne_true
  | true =>
   unfold Gt at hr
   simp only [Bool.and_eq_true] at hr
   have:=hr.1.1.1.1.1.1.1.1.2
   unfold btw iLe at this
   simp only [Bool.and_eq_true,decide_eq_true_eq] at this
   omega
theorem mf {a:Int} (h:0≤a):iLt 0 a = !(a==0):=by
 unfold iLt
 rw [Bool.eq_iff_iff]
 simp only [decide_eq_true_eq,Bool.not_eq_true',beq_eq_false_iff_ne]
 omega
section
variable (N:Nat) (s:ByteArray) (a1 a2 a3 a4 a5 a6 a7 a9 a10 a11 a12:Int) (a8:Bool) (La:Rows) (L14 L16 L17 L19 L24:Rows) (b18 b20:Bool) (x0 x1 x2 x3 x4 x5 x6 x7 x8 x9 x10 x11 x12 x13 x15 x21 x22 x23 x25 x26 x27:Int)
theorem VP (hN:2097152<N) (hs:s.size≤1048576) (h14:L14.length≤1048576) (h16:L16.length≤1048576) (h17:L17.length≤1048576) (h19:L19.length≤1048576):BS N ([.str s,.int a1,.int a2,.int a3,.int a4,.int a5,.int a6,.int a7,.bool a8,.int a9,.int a10,.int a11,.int a12,.rows La]++lsI L14 L16 L17 L19 L24 b18 b20 x0 x1 x2 x3 x4 x5 x6 x7 x8 x9 x10 x11 x12 x13 x15 x21 x22 x23 x25 x26 x27)=some [.bool (MZ s a1 a2 a3 a4 a5 a6 a7 a9 a10 a11 a12 La L14 L16 L17 L19 L24 x0 x1 x2 x3 x4 x5 x6 x7 x8 x9 x10 x11 x12 x13 x15 x21 x22 x23 x25 x26 x27)]:=by
 simp only [lsI,List.cons_append,List.nil_append]
 show Jm (std (Co N) N) (xOf _)=_
 have e1:∀ ls,Co N 39 [] ls=AW N ls:=fun ls=>rfl
 have e2:∀ ls,Co N 107 [] ls=Aq N ls:=fun ls=>rfl
 have e3:∀ ls,Co N 108 [] ls=Ei N ls:=fun ls=>rfl
 have e4:∀ ls,Co N 109 [] ls=Dl N ls:=fun ls=>rfl
 have e5:∀ ls,Co N 110 [] ls=Eo N ls:=fun ls=>rfl
 have l54:=du N L14 L16 L17 L19 L24 b18 b20 x0 x1 x2 x3 x4 x5 x6 x7 x8 x9 x10 x11 x12 x13 x15 x21 x22 x23 x25 x26 x27 a1 (by omega) (by omega)
 have l56:=fQ N L14 L16 L17 L19 L24 b18 b20 x0 x1 x2 x3 x4 x5 x6 x7 x8 x9 x10 x11 x12 x13 x15 x21 x22 x23 x25 x26 x27 (by omega) (by omega)
 simp only [lsI,List.cons_append,List.nil_append] at l54 l56
 simp only [Jm,std,xOf,PXb,PXc,PXn,AA,e1,e2,e3,e4,e5,Yi N s _ _ _ _ _ _ _ _ _ _ _ _ _ hN hs,D8,l54,l56,O1 N L16 _ (by omega) (by omega),O1 N L17 _ (by omega) (by omega)]
 unfold MZ OD
 cases hc:EB s a1 a2 a3 a4 a5 a6 a7 a9 a10 a11 a12 La==0<;>try rfl
 cases btw x0 1 2<;>try rfl
 cases h14:(L14.length:Int)==a1<;>try rfl
 cases (L19.length:Int)==a1<;>try rfl
 cases (L24.length:Int)==a1<;>try rfl
 cases iLt 5 x27<;>try rfl
 rw [ABr L14 x12 x13 x4 a1 (beq_iff_eq.1 h14)]
 cases btw x12 0 a1<;>try rfl
 cases btw x13 0 a1<;>try rfl
 cases Tm L14 x12 x13 x4<;>try rfl
 cases btw x15 0 a1<;>try rfl
 cases btw x22 0 a1<;>try rfl
 cases GP L16 a1<;>try rfl
 cases GP L17 a1<;>try rfl
 cases a3==0<;>cases x2==0<;>cases btw x2 1 a3<;>rfl
theorem cz (hN:2097152<N) (hs:s.size≤1048576) (h14:L14.length≤1048576) (h16:L16.length≤1048576) (h17:L17.length≤1048576) (h19:L19.length≤1048576):Cw N ([.str s,.int a1,.int a2,.int a3,.int a4,.int a5,.int a6,.int a7,.bool a8,.int a9,.int a10,.int a11,.int a12,.rows La]++lsI L14 L16 L17 L19 L24 b18 b20 x0 x1 x2 x3 x4 x5 x6 x7 x8 x9 x10 x11 x12 x13 x15 x21 x22 x23 x25 x26 x27)=some [.bool (MZ s a1 a2 a3 a4 a5 a6 a7 a9 a10 a11 a12 La L14 L16 L17 L19 L24 x0 x1 x2 x3 x4 x5 x6 x7 x8 x9 x10 x11 x12 x13 x15 x21 x22 x23 x25 x26 x27)]:=by
 simp only [lsI,List.cons_append,List.nil_append]
 show RJ (std (GA N) N) (xOf _)=_
 have e1:∀ ls,GA N 44 [] ls=Aj N ls:=fun ls=>rfl
 have e2:∀ ls,GA N 138 [] ls=Fh N ls:=fun ls=>rfl
 have e3:∀ ls,GA N 140 [] ls=JB N ls:=fun ls=>rfl
 have e4:∀ ls,GA N 139 [] ls=So N ls:=fun ls=>rfl
 have l60:=nJ N L14 L16 L17 L19 L24 b18 b20 x0 x1 x2 x3 x4 x5 x6 x7 x8 x9 x10 x11 x12 x13 x15 x21 x22 x23 x25 x26 x27 (by omega) (by omega)
 simp only [lsI,List.cons_append,List.nil_append] at l60
 simp only [RJ,std,xOf,PXb,PXc,PXn,AA,e1,e2,e3,e4,ew N s _ _ _ _ _ _ _ _ _ _ _ _ _ hN hs,eI,l60,lF N L16 _ (by omega) (by omega),lF N L17 _ (by omega) (by omega)]
 unfold MZ OD
 cases hc:EB s a1 a2 a3 a4 a5 a6 a7 a9 a10 a11 a12 La==0<;>try rfl
 rw [mf (wh hc)]
 cases btw x0 1 2<;>try rfl
 cases h14:(L14.length:Int)==a1<;>try rfl
 cases (L19.length:Int)==a1<;>try rfl
 cases (L24.length:Int)==a1<;>try rfl
 cases iLt 5 x27<;>try rfl
 cases btw x12 0 a1<;>try rfl
 cases btw x13 0 a1<;>try rfl
 cases Tm L14 x12 x13 x4
 ·simp only [PXb,PXc,PXn,AA]
 cases btw x15 0 a1<;>try rfl
 cases btw x22 0 a1<;>try rfl
 cases GP L16 a1<;>try rfl
 cases GP L17 a1<;>try rfl
 have ho:(a3==0 && !(x2==0) || !(a3==0)&&(a3==0 && !(x2==0) || !!(a3==0) || !btw x2 1 a3) || !btw x11 0 (IntKind.i64.wrap (a4 - 1))) = !(OD a3 x2&&btw x11 0 (IntKind.i64.wrap (a4 - 1))):=by
  unfold OD
  cases a3==0<;>cases x2==0<;>cases btw x2 1 a3<;>cases btw x11 0 (IntKind.i64.wrap (a4 - 1))<;>rfl
 rw [ho]
 show _=some [PV.bool (OD a3 x2&&(btw x11 0 (IntKind.i64.wrap (a4 - 1))&&_))]
 rw [← Bool.and_assoc]
 cases OD a3 x2&&btw x11 0 (IntKind.i64.wrap (a4 - 1))<;>try rfl
 simp only [PXb,PXc,PXn,AA]
 change (DR (fun s11 c11=>cond (iLt (pvI (AL c11 0)) ((al x1 x3 x5 x6 x7 x8 x9 x10 x21 x23 x25 x26).length:Int)) (cond (iIn (pvI (AL c11 0)) ((al x1 x3 x5 x6 x7 x8 x9 x10 x21 x23 x25 x26).length:Int)) (cond (!btw (pvI (AD (al x1 x3 x5 x6 x7 x8 x9 x10 x21 x23 x25 x26) (pvI (AL c11 0)).toNat 0)) 0 1000000000) (some [PV.int 0,PV.bool false]) (s11 [Leaf.int (IntKind.i64.wrap (pvI (AL c11 0)+1))])) none) (some [PV.int 1])) N [PV.int 0]).bind _=_
 generalize hM:al x1 x3 x5 x6 x7 x8 x9 x10 x21 x23 x25 x26=M
 have hM2:M.length=12:=by rw [← hM];rfl
 refine AM (Cm (len:=M.length) (fun i=>DS (atI M i 0)) [.bool false] ?_ ?_ N (by omega)) ?_
 ·intro self
  simp only [PXb,PXc,PXn,AA,Ac]
 ·intro i self hi
  simp only [PXb,PXc,PXn,AA,AR (show i≤1099511627776 by omega),AX hi,AN hi,A8,DS]
 ·show _=some [PV.bool (!Az (fun i=>DS (atI M i 0)) M.length 0&&_)]
  cases Az (fun i=>DS (atI M i 0)) M.length 0<;>try rfl
  refine AM (Cm (len:=L19.length) (fun i=>DS (atI L19 i 0)) [.bool false] ?_ ?_ N (by omega)) ?_
  ·intro self
   simp only [PXb,PXc,PXn,AA,Ac]
  ·intro i self hi
   simp only [PXb,PXc,PXn,AA,AR (show i≤1099511627776 by omega),AX hi,AN hi,A8,DS]
  ·show _=some [PV.bool (!Az (fun i=>DS (atI L19 i 0)) L19.length 0)]
   cases Az (fun i=>DS (atI L19 i 0)) L19.length 0<;>rfl
end
end Go.Px
end
section
namespace Go.Px
set_option maxRecDepth 100000
def rX (v:Bool) (L:Rows) (s n:Int) (x1 x2 x3 x10:Int):Int :=
 cond (!v) 0 (cond (iLt 0 x1&&iLe x1 x3) 3 (cond (DV L s n&&((B3 L L.length).length:Int)==0) 1 (cond (iLt 0 x2&&iLe x2 x10) 2 0)))
theorem ACN {c:Int} {n:Nat} (hc:0≤c):iRg 0 (cond (iLt c (n:Int)) c (n:Int)) (n:Int)=true:=by
 cases h:iLt c (n:Int) with
 | true=>simp only [iLt,decide_eq_true_eq] at h;simp only [cond_true,iRg,decide_eq_true_eq];omega
 | false=>simp only [cond_false,iRg,decide_eq_true_eq];omega
def cut (L:Rows) (c:Int):Rows:=(L.take (cond (iLt c (L.length:Int)) c (L.length:Int)).toNat).drop (0:Int).toNat
end Go.Px
end
section
namespace Go.Px
set_option maxRecDepth 100000
section
variable (N:Nat) (s:ByteArray) (a1 a2 a3 a4 a5 a6 a7 a9 a10 a11 a12:Int) (a8:Bool) (La:Rows) (L14 L16 L17 L19 L24:Rows) (b18 b20:Bool) (x0 x1 x2 x3 x4 x5 x6 x7 x8 x9 x10 x11 x12 x13 x15 x21 x22 x23 x25 x26 x27:Int)
theorem fw (hN : 2097152 < N) (hs : s.size ≤ 1048576) (h14 : L14.length ≤ 1048576) (h16 : L16.length ≤ 1048576) (h17 : L17.length ≤ 1048576) (h19 : L19.length ≤ 1048576) : Du N ([.str s, .int a1, .int a2, .int a3, .int a4, .int a5, .int a6, .int a7, .bool a8, .int a9, .int a10, .int a11, .int a12, .rows La] ++ lsI L14 L16 L17 L19 L24 b18 b20 x0 x1 x2 x3 x4 x5 x6 x7 x8 x9 x10 x11 x12 x13 x15 x21 x22 x23 x25 x26 x27) =
    some [.int (rX (MZ s a1 a2 a3 a4 a5 a6 a7 a9 a10 a11 a12 La L14 L16 L17 L19 L24 x0 x1 x2 x3 x4 x5 x6 x7 x8 x9 x10 x11 x12 x13 x15 x21 x22 x23 x25 x26 x27) L14 x12 x13 x1 x2 x3 x10)]:=by
  simp only [lsI,List.cons_append,List.nil_append]
  show IZ (std (D6 N) N) (xOf _)=_
  have e1:∀ ls,D6 N 82 [] ls=BS N ls:=fun ls=>rfl
  have e2:∀ ls,D6 N 163 [] ls=BR N ls:=fun ls=>rfl
  have e3:∀ ls,D6 N 164 [] ls=C9 N ls:=fun ls=>rfl
  have l16:=VP N s a1 a2 a3 a4 a5 a6 a7 a9 a10 a11 a12 a8 La L14 L16 L17 L19 L24 b18 b20 x0 x1 x2 x3 x4 x5 x6 x7 x8 x9 x10 x11 x12 x13 x15 x21 x22 x23 x25 x26 x27 hN hs h14 h16 h17 h19
  have l61:=jl N L14 L16 L17 L19 L24 b18 b20 x0 x1 x2 x3 x4 x5 x6 x7 x8 x9 x10 x11 x12 x13 x15 x21 x22 x23 x25 x26 x27 (by omega) (by omega)
  have l62:=nf N L14 L16 L17 L19 L24 b18 b20 x0 x1 x2 x3 x4 x5 x6 x7 x8 x9 x10 x11 x12 x13 x15 x21 x22 x23 x25 x26 x27 (by omega) (by omega)
  simp only [lsI,List.cons_append,List.nil_append] at l16 l61 l62
  simp only [IZ,std,xOf,PXb,PXc,PXn,AA,e1,e2,e3,l16,l61,l62,rX]
  cases MZ s a1 a2 a3 a4 a5 a6 a7 a9 a10 a11 a12 La L14 L16 L17 L19 L24 x0 x1 x2 x3 x4 x5 x6 x7 x8 x9 x10 x11 x12 x13 x15 x21 x22 x23 x25 x26 x27<;>try rfl
  cases (iLt 0 x1&&iLe x1 x3)<;>try rfl
  cases DV L14 x12 x13
  · cases (iLt 0 x2&&iLe x2 x10)<;>rfl
  · simp only [PXb,PXc,PXn,AA]
    cases ((B3 L14 L14.length).length:Int)==0<;>cases (iLt 0 x2&&iLe x2 x10)<;>rfl
theorem pt (hN : 2097152 < N) (hs : s.size ≤ 1048576) (h14 : L14.length ≤ 1048576) (h16 : L16.length ≤ 1048576) (h17 : L17.length ≤ 1048576) (h19 : L19.length ≤ 1048576) : Kd N ([.str s, .int a1, .int a2, .int a3, .int a4, .int a5, .int a6, .int a7, .bool a8, .int a9, .int a10, .int a11, .int a12, .rows La] ++ lsI L14 L16 L17 L19 L24 b18 b20 x0 x1 x2 x3 x4 x5 x6 x7 x8 x9 x10 x11 x12 x13 x15 x21 x22 x23 x25 x26 x27) =
    some [.int (rX (MZ s a1 a2 a3 a4 a5 a6 a7 a9 a10 a11 a12 La L14 L16 L17 L19 L24 x0 x1 x2 x3 x4 x5 x6 x7 x8 x9 x10 x11 x12 x13 x15 x21 x22 x23 x25 x26 x27) L14 x12 x13 x1 x2 x3 x10)]:=by
  simp only [lsI,List.cons_append,List.nil_append]
  show Pn (std (H4 N) N) (xOf _)=_
  have e1:∀ ls,H4 N 123 [] ls=Cw N ls:=fun ls=>rfl
  have e2:∀ ls,H4 N 177 [] ls=Cb N ls:=fun ls=>rfl
  have e3:∀ ls,H4 N 178 [] ls=E3 N ls:=fun ls=>rfl
  have l16:=cz N s a1 a2 a3 a4 a5 a6 a7 a9 a10 a11 a12 a8 La L14 L16 L17 L19 L24 b18 b20 x0 x1 x2 x3 x4 x5 x6 x7 x8 x9 x10 x11 x12 x13 x15 x21 x22 x23 x25 x26 x27 hN hs h14 h16 h17 h19
  have l61:=pZ N L14 L16 L17 L19 L24 b18 b20 x0 x1 x2 x3 x4 x5 x6 x7 x8 x9 x10 x11 x12 x13 x15 x21 x22 x23 x25 x26 x27 (by omega) (by omega)
  have l62:=ur N L14 L16 L17 L19 L24 b18 b20 x0 x1 x2 x3 x4 x5 x6 x7 x8 x9 x10 x11 x12 x13 x15 x21 x22 x23 x25 x26 x27 (by omega) (by omega)
  simp only [lsI,List.cons_append,List.nil_append] at l16 l61 l62
  simp only [Pn,std,xOf,PXb,PXc,PXn,AA,e1,e2,e3,l16,l61,l62,rX]
  cases MZ s a1 a2 a3 a4 a5 a6 a7 a9 a10 a11 a12 La L14 L16 L17 L19 L24 x0 x1 x2 x3 x4 x5 x6 x7 x8 x9 x10 x11 x12 x13 x15 x21 x22 x23 x25 x26 x27<;>try rfl
  cases (iLt 0 x1&&iLe x1 x3)<;>try rfl
  cases DV L14 x12 x13
  · cases (iLt 0 x2&&iLe x2 x10)<;>rfl
  · simp only [PXb,PXc,PXn,AA]
    cases ((B3 L14 L14.length).length:Int)==0<;>cases (iLt 0 x2&&iLe x2 x10)<;>rfl
end
end Go.Px
end
section
namespace Go.Px
set_option maxRecDepth 100000
section
variable (N:Nat) (s:ByteArray) (a1 a2 a3 a4 a5 a6 a7 a9 a10 a11 a12:Int) (a8:Bool) (La:Rows) (L14 L16 L17 L19 L24:Rows) (b18 b20:Bool) (x0 x1 x2 x3 x4 x5 x6 x7 x8 x9 x10 x11 x12 x13 x15 x21 x22 x23 x25 x26 x27:Int)
def Cj (a4 x10 x11:Int):Int:=IntKind.i64.wrap (IntKind.i64.wrap (x10 * a4)+x11)
end
end Go.Px
end
section
namespace Go.Px
set_option maxRecDepth 100000
def A2 (r:Rul):Int:=EB r.name r.side r.innings r.overs r.balls r.quota r.wide r.noball r.newball r.followon r.reviews r.outside r.power
theorem De {N:Nat} {r1 r2 r3 r4 r5 r6 r7 r9 r10 r11 r12:Int} {r8:Bool} {r0:ByteArray} {r13:Rows} (hN:2097152<N) (hs:r0.size≤1048576):AW N [.str r0,.int r1,.int r2,.int r3,.int r4,.int r5,.int r6,.int r7,.bool r8,.int r9,.int r10,.int r11,.int r12,.rows r13]=some [.int (A2 (⟨r0,r1,r2,r3,r4,r5,r6,r7,r8,r9,r10,r11,r12,r13⟩:Rul))]:=by
 exact Yi N _ _ _ _ _ _ _ _ _ _ _ _ _ _ hN hs
theorem E8 {N:Nat} {r1 r2 r3 r4 r5 r6 r7 r9 r10 r11 r12:Int} {r8:Bool} {r0:ByteArray} {r13:Rows} (hN:2097152<N) (hs:r0.size≤1048576):Aj N [.str r0,.int r1,.int r2,.int r3,.int r4,.int r5,.int r6,.int r7,.bool r8,.int r9,.int r10,.int r11,.int r12,.rows r13]=some [.int (A2 (⟨r0,r1,r2,r3,r4,r5,r6,r7,r8,r9,r10,r11,r12,r13⟩:Rul))]:=by
 exact ew N _ _ _ _ _ _ _ _ _ _ _ _ _ _ hN hs
theorem Xl {N:Nat} {s0 s1 s2 s3 s4 s5 s6 s7 s8 s9 s10 s11 s12 s13 s15 s21 s22 s23 s25 s26 s27:Int} {s18 s20:Bool} {s14 s16 s17 s19 s24:Rows} (h:Fit s14 s16 s17 s19 s24):C2 N [.int s0,.int s1,.int s2,.int s3,.int s4,.int s5,.int s6,.int s7,.int s8,.int s9,.int s10,.int s11,.int s12,.int s13,.rows s14,.int s15,.rows s16,.rows s17,.bool s18,.rows s19,.bool s20,.int s21,.int s22,.int s23,.rows s24,.int s25,.int s26,.int s27]=some [.int s0,.int s1,.int s2,.int s3,.int s4,.int s5,.int s6,.int s7,.int s8,.int s9,.int s10,.int s11,.int s12,.int s13,.rows s14,.int s15,.rows s16,.rows s17,.bool s18,.rows s19,.bool s20,.int s21,.int s22,.int s23,.rows s24,.int s25,.int s26,.int s27]:=by
 show Rn (std (JJ N) N) (xOf _)=_
 simp only [Rn,OJ,Qm,QO,std,xOf,PXb,PXc,PXn,PXm,Nat.reduceAdd,Int.reduceBEq,AY,Al,Ah,Bl h.bt (show 1≤4096 by omega),Bl h.bw' (show 8≤4096 by omega),Bl h.bf (show 8≤4096 by omega),Bl h.bd (show 8≤4096 by omega),Bl h.sb (show 1≤4096 by omega)]
theorem XS {N:Nat} {s0 s1 s2 s3 s4 s5 s6 s7 s8 s9 s10 s11 s12 s13 s15 s21 s22 s23 s25 s26 s27:Int} {s18 s20:Bool} {s14 s16 s17 s19 s24:Rows} (h:Fit s14 s16 s17 s19 s24):Cz N [.int s0,.int s1,.int s2,.int s3,.int s4,.int s5,.int s6,.int s7,.int s8,.int s9,.int s10,.int s11,.int s12,.int s13,.rows s14,.int s15,.rows s16,.rows s17,.bool s18,.rows s19,.bool s20,.int s21,.int s22,.int s23,.rows s24,.int s25,.int s26,.int s27]=some [.int s0,.int s1,.int s2,.int s3,.int s4,.int s5,.int s6,.int s7,.int s8,.int s9,.int s10,.int s11,.int s12,.int s13,.rows s14,.int s15,.rows s16,.rows s17,.bool s18,.rows s19,.bool s20,.int s21,.int s22,.int s23,.rows s24,.int s25,.int s26,.int s27]:=by
 show RQ (std (I3 N) N) (xOf _)=_
 simp only [RQ,OO,Qo,QM,std,xOf,PXb,PXc,PXn,PXm,Nat.reduceAdd,Int.reduceBEq,AY,Al,Ah,Bl h.bt (show 1≤4096 by omega),Bl h.bw' (show 8≤4096 by omega),Bl h.bf (show 8≤4096 by omega),Bl h.bd (show 8≤4096 by omega),Bl h.sb (show 1≤4096 by omega)]
theorem CN {N:Nat} {s0 s1 s2 s3 s4 s5 s6 s7 s8 s9 s10 s11 s12 s13 s15 s21 s22 s23 s25 s26 s27:Int} {s18 s20:Bool} {s14 s16 s17 s19 s24:Rows} (h:Fit s14 s16 s17 s19 s24):AS N [.int s0,.int s1,.int s2,.int s3,.int s4,.int s5,.int s6,.int s7,.int s8,.int s9,.int s10,.int s11,.int s12,.int s13,.rows s14,.int s15,.rows s16,.rows s17,.bool s18,.rows s19,.bool s20,.int s21,.int s22,.int s23,.rows s24,.int s25,.int s26,.int s27]=some [.int s0,.int s1,.int s2,.int s3,.int s4,.int s5,.int s6,.int s7,.int s8,.int s9,.int s10,.int s11,.int s12,.int s13,.rows s14,.int s15,.rows s16,.rows s17,.bool s18,.rows s19,.bool s20,.int s21,.int s22,.int s23,.rows s24,.int s25,.int s26,.int s27]:=by
 show Jw (std (Ek N) N) (xOf _)=_
 simp only [Jw,Lj,Nk,MG,std,xOf,PXb,PXc,PXn,PXm,Nat.reduceAdd,Int.reduceBEq,AY,Al,Ah,Bl h.bt (show 1≤4096 by omega),Bl h.bw' (show 8≤4096 by omega),Bl h.bf (show 8≤4096 by omega),Bl h.bd (show 8≤4096 by omega),Bl h.sb (show 1≤4096 by omega)]
theorem Xz {N:Nat} {s0 s1 s2 s3 s4 s5 s6 s7 s8 s9 s10 s11 s12 s13 s15 s21 s22 s23 s25 s26 s27:Int} {s18 s20:Bool} {s14 s16 s17 s19 s24:Rows} (h:Fit s14 s16 s17 s19 s24):DK N [.int s0,.int s1,.int s2,.int s3,.int s4,.int s5,.int s6,.int s7,.int s8,.int s9,.int s10,.int s11,.int s12,.int s13,.rows s14,.int s15,.rows s16,.rows s17,.bool s18,.rows s19,.bool s20,.int s21,.int s22,.int s23,.rows s24,.int s25,.int s26,.int s27]=some [.int s0,.int s1,.int s2,.int s3,.int s4,.int s5,.int s6,.int s7,.int s8,.int s9,.int s10,.int s11,.int s12,.int s13,.rows s14,.int s15,.rows s16,.rows s17,.bool s18,.rows s19,.bool s20,.int s21,.int s22,.int s23,.rows s24,.int s25,.int s26,.int s27]:=by
 show Rj (std (Sr N) N) (xOf _)=_
 simp only [Rj,Yl,std,xOf,PXb,PXc,PXn,PXm,Nat.reduceAdd,Int.reduceBEq,CF h]
theorem TF {N:Nat} {s0 s1 s2 s3 s4 s5 s6 s7 s8 s9 s10 s11 s12 s13 s15 s21 s22 s23 s25 s26 s27:Int} {s18 s20:Bool} {s14 s16 s17 s19 s24:Rows} {p:Int}  : B9 N [.int s0,.int s1,.int s2,.int s3,.int s4,.int s5,.int s6,.int s7,.int s8,.int s9,.int s10,.int s11,.int s12,.int s13,.rows s14,.int s15,.rows s16,.rows s17,.bool s18,.rows s19,.bool s20,.int s21,.int s22,.int s23,.rows s24,.int s25,.int s26,.int s27,.int p]=some [.bool (inR p s19.length)]:=by
 show Mz (std (Wc N) N) (xOf _)=_
 simp only [Mz,std,xOf,PXb,PXc,PXn,PXm,Nat.reduceAdd,Int.reduceBEq]
 rfl
theorem Um {N:Nat} {s0 s1 s2 s3 s4 s5 s6 s7 s8 s9 s10 s11 s12 s13 s15 s21 s22 s23 s25 s26 s27:Int} {s18 s20:Bool} {s14 s16 s17 s19 s24:Rows} {p:Int}  : CT N [.int s0,.int s1,.int s2,.int s3,.int s4,.int s5,.int s6,.int s7,.int s8,.int s9,.int s10,.int s11,.int s12,.int s13,.rows s14,.int s15,.rows s16,.rows s17,.bool s18,.rows s19,.bool s20,.int s21,.int s22,.int s23,.rows s24,.int s25,.int s26,.int s27,.int p]=some [.bool (inR p s19.length)]:=by
 show PX (std (Yh N) N) (xOf _)=_
 simp only [PX,std,xOf,PXb,PXc,PXn,PXm,Nat.reduceAdd,Int.reduceBEq]
 rfl
theorem JD {N:Nat} {s0 s1 s2 s3 s4 s5 s6 s7 s8 s9 s10 s11 s12 s13 s15 s21 s22 s23 s25 s26 s27:Int} {s18 s20:Bool} {s14 s16 s17 s19 s24:Rows} {p:Int}  : BB N [.int s0,.int s1,.int s2,.int s3,.int s4,.int s5,.int s6,.int s7,.int s8,.int s9,.int s10,.int s11,.int s12,.int s13,.rows s14,.int s15,.rows s16,.rows s17,.bool s18,.rows s19,.bool s20,.int s21,.int s22,.int s23,.rows s24,.int s25,.int s26,.int s27,.int p]=some [.bool (inR p s24.length)]:=by
 show NV (std (WH N) N) (xOf _)=_
 simp only [NV,std,xOf,PXb,PXc,PXn,PXm,Nat.reduceAdd,Int.reduceBEq]
 rfl
theorem Pg {N:Nat} {s0 s1 s2 s3 s4 s5 s6 s7 s8 s9 s10 s11 s12 s13 s15 s21 s22 s23 s25 s26 s27:Int} {s18 s20:Bool} {s14 s16 s17 s19 s24:Rows} {p:Int}  : Bi N [.int s0,.int s1,.int s2,.int s3,.int s4,.int s5,.int s6,.int s7,.int s8,.int s9,.int s10,.int s11,.int s12,.int s13,.rows s14,.int s15,.rows s16,.rows s17,.bool s18,.rows s19,.bool s20,.int s21,.int s22,.int s23,.rows s24,.int s25,.int s26,.int s27,.int p]=some [.bool (inR p s24.length)]:=by
 show PE (std (ZC N) N) (xOf _)=_
 simp only [PE,std,xOf,PXb,PXc,PXn,PXm,Nat.reduceAdd,Int.reduceBEq]
 rfl
def atB (L:Rows) (i j:Nat):Bool:=pvB (AD L i j)
theorem UX (L:Rows) (i j:Nat):pvB (AD L i j)=atB L i j:=rfl
def DJ (s:Inn) (p:Int):Bool:=inR p s.subs.length&&atB s.subs (ix p) 0
theorem Id {N:Nat} {s0 s1 s2 s3 s4 s5 s6 s7 s8 s9 s10 s11 s12 s13 s15 s21 s22 s23 s25 s26 s27:Int} {s18 s20:Bool} {s14 s16 s17 s19 s24:Rows} {p:Int} (h:s24.length≤1048576):BA N [.int s0,.int s1,.int s2,.int s3,.int s4,.int s5,.int s6,.int s7,.int s8,.int s9,.int s10,.int s11,.int s12,.int s13,.rows s14,.int s15,.rows s16,.rows s17,.bool s18,.rows s19,.bool s20,.int s21,.int s22,.int s23,.rows s24,.int s25,.int s26,.int s27,.int p]=some [.bool (DJ (⟨s0,s1,s2,s3,s4,s5,s6,s7,s8,s9,s10,s11,s12,s13,s14,s15,s16,s17,s18,s19,s20,s21,s22,s23,s24,s25,s26,s27⟩:Inn) p)]:=by
 show Il (std (KV N) N) (xOf _)=_
 generalize hres:(some [.bool (DJ (⟨s0,s1,s2,s3,s4,s5,s6,s7,s8,s9,s10,s11,s12,s13,s14,s15,s16,s17,s18,s19,s20,s21,s22,s23,s24,s25,s26,s27⟩:Inn) p)]:Option (List PV))=RR
 simp only [Il,Qu,std,xOf,PXb,PXc,PXn,PXm,Nat.reduceAdd,Int.reduceBEq,JD,wB h]
 subst hres;simp only [DJ]
 cases hp:inR p s24.length with
 | false=>rfl
 | true=>first | rfl | (rw [Dh hp h];rfl)
theorem HO {N:Nat} {s0 s1 s2 s3 s4 s5 s6 s7 s8 s9 s10 s11 s12 s13 s15 s21 s22 s23 s25 s26 s27:Int} {s18 s20:Bool} {s14 s16 s17 s19 s24:Rows} {p:Int} (h:s24.length≤1048576):A7 N [.int s0,.int s1,.int s2,.int s3,.int s4,.int s5,.int s6,.int s7,.int s8,.int s9,.int s10,.int s11,.int s12,.int s13,.rows s14,.int s15,.rows s16,.rows s17,.bool s18,.rows s19,.bool s20,.int s21,.int s22,.int s23,.rows s24,.int s25,.int s26,.int s27,.int p]=some [.bool (DJ (⟨s0,s1,s2,s3,s4,s5,s6,s7,s8,s9,s10,s11,s12,s13,s14,s15,s16,s17,s18,s19,s20,s21,s22,s23,s24,s25,s26,s27⟩:Inn) p)]:=by
 show Li (std (VS N) N) (xOf _)=_
 generalize hres:(some [.bool (DJ (⟨s0,s1,s2,s3,s4,s5,s6,s7,s8,s9,s10,s11,s12,s13,s14,s15,s16,s17,s18,s19,s20,s21,s22,s23,s24,s25,s26,s27⟩:Inn) p)]:Option (List PV))=RR
 simp only [Li,std,xOf,PXb,PXc,PXn,PXm,Nat.reduceAdd,Int.reduceBEq,wB h]
 subst hres;simp only [DJ]
 cases hp:inR p s24.length with
 | false =>
  unfold inR at hp
  have hq:(!iLe 1 p || !iLe p (s24.length:Int)||iIn (IntKind.i64.wrap (p - 1)) (s24.length:Int))=true:=by rw [← Bool.not_and,hp];rfl
  simp only [hp,hq,PXb,PXc,PXn,PXm,Nat.reduceAdd,Int.reduceBEq]
 | true=>have hk:=Dh hp h;unfold inR at hp;simp only [hp,hk,PXb,PXc,PXn,PXm,Nat.reduceAdd,Int.reduceBEq,atB,ix]
def jJ (x:Int):Int:=cond (iLt x 0) 0 x
def Oz (r:Rul) (s:Inn) (p:Int):Int :=
 cond (!inR p s.bowled.length || !(A2 r==0)) 0 (cond (r.quota==0) (-1) (jJ (IntKind.i64.wrap (IntKind.i64.wrap (r.quota * r.balls) - jJ (atI s.bowled (ix p) 0)))))
theorem xN (r:Rul) (s:Inn) (p:Int):iLe 0 (Oz r s p) = !(Oz r s p == -1):=by
 unfold Oz
 cases (!inR p s.bowled.length || !(A2 r==0)) with
 | true=>rfl
 | false =>
  cases r.quota==0 with
  | true=>rfl
  | false =>
   simp only [cond_false]
   generalize IntKind.i64.wrap (IntKind.i64.wrap (r.quota * r.balls) - jJ (atI s.bowled (ix p) 0))=x
   unfold jJ
   cases h:iLt x 0 with
   | true=>rfl
   | false =>
    simp only [iLt,decide_eq_false_iff_not] at h
    simp only [cond_false]
    have h1:iLe 0 x=true:=by simp only [iLe,decide_eq_true_eq];omega
    have h2:(x == -1)=false:=by simp only [beq_eq_false_iff_ne];omega
    rw [h1,h2];rfl
theorem rp {N:Nat} {r1 r2 r3 r4 r5 r6 r7 r9 r10 r11 r12:Int} {r8:Bool} {r0:ByteArray} {r13:Rows} {s0 s1 s2 s3 s4 s5 s6 s7 s8 s9 s10 s11 s12 s13 s15 s21 s22 s23 s25 s26 s27:Int} {s18 s20:Bool} {s14 s16 s17 s19 s24:Rows} {p:Int} (h:Fit s14 s16 s17 s19 s24) (hN:2097152<N) (hs:r0.size≤1048576):K4 N [.str r0,.int r1,.int r2,.int r3,.int r4,.int r5,.int r6,.int r7,.bool r8,.int r9,.int r10,.int r11,.int r12,.rows r13,.int s0,.int s1,.int s2,.int s3,.int s4,.int s5,.int s6,.int s7,.int s8,.int s9,.int s10,.int s11,.int s12,.int s13,.rows s14,.int s15,.rows s16,.rows s17,.bool s18,.rows s19,.bool s20,.int s21,.int s22,.int s23,.rows s24,.int s25,.int s26,.int s27,.int p]=some [.int (Oz (⟨r0,r1,r2,r3,r4,r5,r6,r7,r8,r9,r10,r11,r12,r13⟩:Rul) (⟨s0,s1,s2,s3,s4,s5,s6,s7,s8,s9,s10,s11,s12,s13,s14,s15,s16,s17,s18,s19,s20,s21,s22,s23,s24,s25,s26,s27⟩:Inn) p)]:=by
 show Ou (std (Lk N) N) (xOf _)=_
 generalize hres:(some [.int (Oz (⟨r0,r1,r2,r3,r4,r5,r6,r7,r8,r9,r10,r11,r12,r13⟩:Rul) (⟨s0,s1,s2,s3,s4,s5,s6,s7,s8,s9,s10,s11,s12,s13,s14,s15,s16,s17,s18,s19,s20,s21,s22,s23,s24,s25,s26,s27⟩:Inn) p)]:Option (List PV))=RR
 simp only [Ou,Vh,VA,std,xOf,PXb,PXc,PXn,PXm,Nat.reduceAdd,Int.reduceBEq,De hN hs,TF]
 subst hres;simp only [Oz]
 cases hp:inR p s19.length with
 | false=>rfl
 | true=>rw [Dh hp h.bd];cases A2 (⟨r0,r1,r2,r3,r4,r5,r6,r7,r8,r9,r10,r11,r12,r13⟩:Rul)==0<;>cases r5==0<;>rfl
theorem wx {N:Nat} {r1 r2 r3 r4 r5 r6 r7 r9 r10 r11 r12:Int} {r8:Bool} {r0:ByteArray} {r13:Rows} {s0 s1 s2 s3 s4 s5 s6 s7 s8 s9 s10 s11 s12 s13 s15 s21 s22 s23 s25 s26 s27:Int} {s18 s20:Bool} {s14 s16 s17 s19 s24:Rows} {p:Int} (h:Fit s14 s16 s17 s19 s24) (hN:2097152<N) (hs:r0.size≤1048576):Py N [.str r0,.int r1,.int r2,.int r3,.int r4,.int r5,.int r6,.int r7,.bool r8,.int r9,.int r10,.int r11,.int r12,.rows r13,.int s0,.int s1,.int s2,.int s3,.int s4,.int s5,.int s6,.int s7,.int s8,.int s9,.int s10,.int s11,.int s12,.int s13,.rows s14,.int s15,.rows s16,.rows s17,.bool s18,.rows s19,.bool s20,.int s21,.int s22,.int s23,.rows s24,.int s25,.int s26,.int s27,.int p]=some [.int (Oz (⟨r0,r1,r2,r3,r4,r5,r6,r7,r8,r9,r10,r11,r12,r13⟩:Rul) (⟨s0,s1,s2,s3,s4,s5,s6,s7,s8,s9,s10,s11,s12,s13,s14,s15,s16,s17,s18,s19,s20,s21,s22,s23,s24,s25,s26,s27⟩:Inn) p)]:=by
 show UP (std (P1 N) N) (xOf _)=_
 generalize hres:(some [.int (Oz (⟨r0,r1,r2,r3,r4,r5,r6,r7,r8,r9,r10,r11,r12,r13⟩:Rul) (⟨s0,s1,s2,s3,s4,s5,s6,s7,s8,s9,s10,s11,s12,s13,s14,s15,s16,s17,s18,s19,s20,s21,s22,s23,s24,s25,s26,s27⟩:Inn) p)]:Option (List PV))=RR
 simp only [UP,Zp,Yq,std,xOf,PXb,PXc,PXn,PXm,Nat.reduceAdd,Int.reduceBEq,E8 hN hs,Um]
 subst hres;simp only [Oz]
 cases hp:inR p s19.length with
 | false=>cases A2 (⟨r0,r1,r2,r3,r4,r5,r6,r7,r8,r9,r10,r11,r12,r13⟩:Rul)==0<;>rfl
 | true=>rw [Dh hp h.bd];cases A2 (⟨r0,r1,r2,r3,r4,r5,r6,r7,r8,r9,r10,r11,r12,r13⟩:Rul)==0<;>cases r5==0<;>rfl
theorem o8 {N:Nat} {L:Rows} {v:Int} (hN:2097152<N) (hl:L.length≤1048576):II N [.rows L,.int v]=some [.bool (Hl L L.length v)]:=by
 show We (std (iU N) N) (xOf _)=_
 simp only [We,std,xOf,PXb,PXc,PXn,AA]
 refine AM (Cm (len:=L.length) (fun j=>v==atI L j 0) [.bool true] ?_ ?_ N (by omega)) ?_
 ·intro self
  simp only [PXb,PXc,PXn,AA,Ac]
 ·intro i self hi
  simp only [PXb,PXc,PXn,AA,AR (show i≤1099511627776 by omega),AX hi,AN hi,A8]
  rw [BEq.comm (a:=v)]
 ·unfold Hl
  cases Az (fun j=>v==atI L j 0) L.length 0<;>rfl
theorem N1 {N:Nat} {L:Rows} {v:Int} (hN:2097152<N) (hl:L.length≤1048576):Aw N [.rows L,.int v]=some [.bool (Hl L L.length v)]:=by
 exact Mc N L v (by omega) (by omega)
def H6 (r:Rul) (s:Inn) (p:Int):Int :=
  cond (!inR p s.bowled.length || !(A2 r==0)) 3 (cond (p==s.keeper||p==s.bowler||DJ s p) 7
    (cond (Hl s.before s.before.length p) 8 (cond (!(Oz r s p == -1)&&iLt s.inover (IntKind.i64.wrap (r.balls - Oz r s p))) 9 0)))
theorem yQ {p:Int} {n m:Nat} (h:inR p n=true):inR p m=iLe p (m:Int):=by
 unfold inR at h ⊢
 rw [Bool.and_eq_true] at h
 rw [h.1,Bool.true_and]
theorem u0 {N:Nat} {r1 r2 r3 r4 r5 r6 r7 r9 r10 r11 r12:Int} {r8:Bool} {r0:ByteArray} {r13:Rows} {s0 s1 s2 s3 s4 s5 s6 s7 s8 s9 s10 s11 s12 s13 s15 s21 s22 s23 s25 s26 s27:Int} {s18 s20:Bool} {s14 s16 s17 s19 s24:Rows} {p:Int} (h:Fit s14 s16 s17 s19 s24) (hN:2097152<N) (hs:r0.size≤1048576):Mf N [.str r0,.int r1,.int r2,.int r3,.int r4,.int r5,.int r6,.int r7,.bool r8,.int r9,.int r10,.int r11,.int r12,.rows r13,.int s0,.int s1,.int s2,.int s3,.int s4,.int s5,.int s6,.int s7,.int s8,.int s9,.int s10,.int s11,.int s12,.int s13,.rows s14,.int s15,.rows s16,.rows s17,.bool s18,.rows s19,.bool s20,.int s21,.int s22,.int s23,.rows s24,.int s25,.int s26,.int s27,.int p]=some [.int (H6 (⟨r0,r1,r2,r3,r4,r5,r6,r7,r8,r9,r10,r11,r12,r13⟩:Rul) (⟨s0,s1,s2,s3,s4,s5,s6,s7,s8,s9,s10,s11,s12,s13,s14,s15,s16,s17,s18,s19,s20,s21,s22,s23,s24,s25,s26,s27⟩:Inn) p)]:=by
 show RU (std (GC N) N) (xOf _)=_
 generalize hres:(some [.int (H6 (⟨r0,r1,r2,r3,r4,r5,r6,r7,r8,r9,r10,r11,r12,r13⟩:Rul) (⟨s0,s1,s2,s3,s4,s5,s6,s7,s8,s9,s10,s11,s12,s13,s14,s15,s16,s17,s18,s19,s20,s21,s22,s23,s24,s25,s26,s27⟩:Inn) p)]:Option (List PV))=RR
 simp only [RU,Vt,OP,Vz,YE,std,xOf,PXb,PXc,PXn,PXm,Nat.reduceAdd,Int.reduceBEq,De hN hs,TF,rp h hN hs,N1 hN h.bf]
 subst hres;simp only [H6,DJ]
 cases hp:inR p s19.length with
 | false=>rfl
 | true =>
  rw [yQ (m:=s24.length) hp]
  have hq:(!(iLe p (s24.length:Int))||iIn (IntKind.i64.wrap (p - 1)) (s24.length:Int))=true:=by
   cases h1:iLe p (s24.length:Int) with
   | false=>rfl
   | true=>rw [Dh (by rw [yQ hp];exact h1) h.sb];rfl
  rw [hq]
  cases A2 (⟨r0,r1,r2,r3,r4,r5,r6,r7,r8,r9,r10,r11,r12,r13⟩:Rul)==0<;>rfl
theorem yJ {N:Nat} {r1 r2 r3 r4 r5 r6 r7 r9 r10 r11 r12:Int} {r8:Bool} {r0:ByteArray} {r13:Rows} {s0 s1 s2 s3 s4 s5 s6 s7 s8 s9 s10 s11 s12 s13 s15 s21 s22 s23 s25 s26 s27:Int} {s18 s20:Bool} {s14 s16 s17 s19 s24:Rows} {p:Int} (h:Fit s14 s16 s17 s19 s24) (hN:2097152<N) (hs:r0.size≤1048576):Sf N [.str r0,.int r1,.int r2,.int r3,.int r4,.int r5,.int r6,.int r7,.bool r8,.int r9,.int r10,.int r11,.int r12,.rows r13,.int s0,.int s1,.int s2,.int s3,.int s4,.int s5,.int s6,.int s7,.int s8,.int s9,.int s10,.int s11,.int s12,.int s13,.rows s14,.int s15,.rows s16,.rows s17,.bool s18,.rows s19,.bool s20,.int s21,.int s22,.int s23,.rows s24,.int s25,.int s26,.int s27,.int p]=some [.int (H6 (⟨r0,r1,r2,r3,r4,r5,r6,r7,r8,r9,r10,r11,r12,r13⟩:Rul) (⟨s0,s1,s2,s3,s4,s5,s6,s7,s8,s9,s10,s11,s12,s13,s14,s15,s16,s17,s18,s19,s20,s21,s22,s23,s24,s25,s26,s27⟩:Inn) p)]:=by
 show Wp (std (Gx N) N) (xOf _)=_
 generalize hres:(some [.int (H6 (⟨r0,r1,r2,r3,r4,r5,r6,r7,r8,r9,r10,r11,r12,r13⟩:Rul) (⟨s0,s1,s2,s3,s4,s5,s6,s7,s8,s9,s10,s11,s12,s13,s14,s15,s16,s17,s18,s19,s20,s21,s22,s23,s24,s25,s26,s27⟩:Inn) p)]:Option (List PV))=RR
 simp only [Wp,cd,XR,Zz,eD,gK,std,xOf,PXb,PXc,PXn,PXm,Nat.reduceAdd,Int.reduceBEq,E8 hN hs,Um,wx h hN hs,o8 hN h.bf,HO h.sb,xN]
 subst hres;simp only [H6]
 cases hp:inR p s19.length<;>cases A2 (⟨r0,r1,r2,r3,r4,r5,r6,r7,r8,r9,r10,r11,r12,r13⟩:Rul)==0<;>cases p==s22<;>cases p==s15<;>rfl
def Rq (r:Rul) (s:Inn) (p:Int):Inn×Int:=(cond (H6 r s p==0) { s with bowler:=p } s,H6 r s p)
theorem rF {N:Nat} {r1 r2 r3 r4 r5 r6 r7 r9 r10 r11 r12:Int} {r8:Bool} {r0:ByteArray} {r13:Rows} {s0 s1 s2 s3 s4 s5 s6 s7 s8 s9 s10 s11 s12 s13 s15 s21 s22 s23 s25 s26 s27:Int} {s18 s20:Bool} {s14 s16 s17 s19 s24:Rows} {p:Int} (h:Fit s14 s16 s17 s19 s24) (hN:2097152<N) (hs:r0.size≤1048576):Ko N [.str r0,.int r1,.int r2,.int r3,.int r4,.int r5,.int r6,.int r7,.bool r8,.int r9,.int r10,.int r11,.int r12,.rows r13,.int s0,.int s1,.int s2,.int s3,.int s4,.int s5,.int s6,.int s7,.int s8,.int s9,.int s10,.int s11,.int s12,.int s13,.rows s14,.int s15,.rows s16,.rows s17,.bool s18,.rows s19,.bool s20,.int s21,.int s22,.int s23,.rows s24,.int s25,.int s26,.int s27,.int p]=some (Ab (Rq (⟨r0,r1,r2,r3,r4,r5,r6,r7,r8,r9,r10,r11,r12,r13⟩:Rul) (⟨s0,s1,s2,s3,s4,s5,s6,s7,s8,s9,s10,s11,s12,s13,s14,s15,s16,s17,s18,s19,s20,s21,s22,s23,s24,s25,s26,s27⟩:Inn) p)):=by
 show Of (std (Lb N) N) (xOf _)=_
 generalize hres:(some (Ab (Rq (⟨r0,r1,r2,r3,r4,r5,r6,r7,r8,r9,r10,r11,r12,r13⟩:Rul) (⟨s0,s1,s2,s3,s4,s5,s6,s7,s8,s9,s10,s11,s12,s13,s14,s15,s16,s17,s18,s19,s20,s21,s22,s23,s24,s25,s26,s27⟩:Inn) p)):Option (List PV))=RR
 simp only [Of,YB,Xn,std,xOf,PXb,PXc,PXn,PXm,Nat.reduceAdd,Int.reduceBEq,Xl h,u0 h hN hs]
 subst hres;simp only [Rq]
 cases H6 (⟨r0,r1,r2,r3,r4,r5,r6,r7,r8,r9,r10,r11,r12,r13⟩:Rul) (⟨s0,s1,s2,s3,s4,s5,s6,s7,s8,s9,s10,s11,s12,s13,s14,s15,s16,s17,s18,s19,s20,s21,s22,s23,s24,s25,s26,s27⟩:Inn) p==0<;>rfl
theorem wY {N:Nat} {r1 r2 r3 r4 r5 r6 r7 r9 r10 r11 r12:Int} {r8:Bool} {r0:ByteArray} {r13:Rows} {s0 s1 s2 s3 s4 s5 s6 s7 s8 s9 s10 s11 s12 s13 s15 s21 s22 s23 s25 s26 s27:Int} {s18 s20:Bool} {s14 s16 s17 s19 s24:Rows} {p:Int} (h:Fit s14 s16 s17 s19 s24) (hN:2097152<N) (hs:r0.size≤1048576):UI N [.str r0,.int r1,.int r2,.int r3,.int r4,.int r5,.int r6,.int r7,.bool r8,.int r9,.int r10,.int r11,.int r12,.rows r13,.int s0,.int s1,.int s2,.int s3,.int s4,.int s5,.int s6,.int s7,.int s8,.int s9,.int s10,.int s11,.int s12,.int s13,.rows s14,.int s15,.rows s16,.rows s17,.bool s18,.rows s19,.bool s20,.int s21,.int s22,.int s23,.rows s24,.int s25,.int s26,.int s27,.int p]=some (Ab (Rq (⟨r0,r1,r2,r3,r4,r5,r6,r7,r8,r9,r10,r11,r12,r13⟩:Rul) (⟨s0,s1,s2,s3,s4,s5,s6,s7,s8,s9,s10,s11,s12,s13,s14,s15,s16,s17,s18,s19,s20,s21,s22,s23,s24,s25,s26,s27⟩:Inn) p)):=by
 show T8 (std (Ok N) N) (xOf _)=_
 generalize hres:(some (Ab (Rq (⟨r0,r1,r2,r3,r4,r5,r6,r7,r8,r9,r10,r11,r12,r13⟩:Rul) (⟨s0,s1,s2,s3,s4,s5,s6,s7,s8,s9,s10,s11,s12,s13,s14,s15,s16,s17,s18,s19,s20,s21,s22,s23,s24,s25,s26,s27⟩:Inn) p)):Option (List PV))=RR
 simp only [T8,aN,ek,std,xOf,PXb,PXc,PXn,PXm,Nat.reduceAdd,Int.reduceBEq,CF h,yJ h hN hs]
 subst hres;simp only [Rq]
 cases H6 (⟨r0,r1,r2,r3,r4,r5,r6,r7,r8,r9,r10,r11,r12,r13⟩:Rul) (⟨s0,s1,s2,s3,s4,s5,s6,s7,s8,s9,s10,s11,s12,s13,s14,s15,s16,s17,s18,s19,s20,s21,s22,s23,s24,s25,s26,s27⟩:Inn) p==0<;>rfl
def mu (x:Inn×Bool):List PV:=[.int x.1.side,.int x.1.target,.int x.1.overs,.int x.1.runs,.int x.1.wickets,.int x.1.wides,.int x.1.noballs,.int x.1.byes,.int x.1.legbyes,.int x.1.pens,.int x.1.complete,.int x.1.inover,.int x.1.striker,.int x.1.other,.rows x.1.batters,.int x.1.bowler,.rows x.1.bowlers,.rows x.1.before,.bool x.1.fresh,.rows x.1.bowled,.bool x.1.freehit,.int x.1.ballage,.int x.1.keeper,.int x.1.outside,.rows x.1.subs,.int x.1.rev1,.int x.1.rev2,.int x.1.ending,.bool x.2]
def inc (x:Int):Int:=IntKind.i64.wrap (x+1)
def Ak (r:Rul) (s:Inn) (counts:Bool):Inn×Bool :=
  cond (!inR s.bowler s.bowled.length || !(A2 r==0)) (s,false)
    (let L:=cond (Hl s.bowlers s.bowlers.length s.bowler) s.bowlers (s.bowlers++[[.int s.bowler]])
     let o:=cond counts (inc s.inover) s.inover
     let t:Inn:={ s with bowlers:=L,bowled:=cond counts (LE s.bowled s.bowler (inc (atI s.bowled (ix s.bowler) 0))) s.bowled,inover:=o,ballage:=cond counts (inc s.ballage) s.ballage }
     cond (iLt o r.balls) (t,false) ({ t with complete:=inc s.complete,inover:=0,before:=L,bowlers:=[],bowler:=0 },true))
theorem qe {N:Nat} {r1 r2 r3 r4 r5 r6 r7 r9 r10 r11 r12:Int} {r8:Bool} {r0:ByteArray} {r13:Rows} {s0 s1 s2 s3 s4 s5 s6 s7 s8 s9 s10 s11 s12 s13 s15 s21 s22 s23 s25 s26 s27:Int} {s18 s20:Bool} {s14 s16 s17 s19 s24:Rows} {b:Bool} (h:Fit s14 s16 s17 s19 s24) (hw:s16.length≤1048575) (hN:2097152<N) (hs:r0.size≤1048576):Kq N [.str r0,.int r1,.int r2,.int r3,.int r4,.int r5,.int r6,.int r7,.bool r8,.int r9,.int r10,.int r11,.int r12,.rows r13,.int s0,.int s1,.int s2,.int s3,.int s4,.int s5,.int s6,.int s7,.int s8,.int s9,.int s10,.int s11,.int s12,.int s13,.rows s14,.int s15,.rows s16,.rows s17,.bool s18,.rows s19,.bool s20,.int s21,.int s22,.int s23,.rows s24,.int s25,.int s26,.int s27,.bool b]=some (mu (Ak (⟨r0,r1,r2,r3,r4,r5,r6,r7,r8,r9,r10,r11,r12,r13⟩:Rul) (⟨s0,s1,s2,s3,s4,s5,s6,s7,s8,s9,s10,s11,s12,s13,s14,s15,s16,s17,s18,s19,s20,s21,s22,s23,s24,s25,s26,s27⟩:Inn) b)):=by
 show O4 (std (FH N) N) (xOf _)=_
 generalize hres:(some (mu (Ak (⟨r0,r1,r2,r3,r4,r5,r6,r7,r8,r9,r10,r11,r12,r13⟩:Rul) (⟨s0,s1,s2,s3,s4,s5,s6,s7,s8,s9,s10,s11,s12,s13,s14,s15,s16,s17,s18,s19,s20,s21,s22,s23,s24,s25,s26,s27⟩:Inn) b)):Option (List PV))=RR
 have ha:(s16++[[PV.int s15]]).length≤1048576:=by simp;omega
 simp only [O4,Vf,Nf,XT,Vk,std,xOf,PXb,PXc,PXn,PXm,Nat.reduceAdd,Int.reduceBEq,Xl h,TF,De hN hs,N1 hN h.bw',Ki ha (show 8≤4096 by omega)]
 subst hres;simp only [Ak]
 cases hp:inR s15 s19.length with
 | false=>rfl
 | true =>
  rw [Dh hp h.bd]
  cases A2 (⟨r0,r1,r2,r3,r4,r5,r6,r7,r8,r9,r10,r11,r12,r13⟩:Rul)==0<;>try rfl
  cases Hl s16 s16.length s15<;>cases b<;>simp only [PXb,PXc,PXn,PXm,Nat.reduceAdd,Int.reduceBEq,inc]
  all_goals first | (cases iLt s11 r4<;>rfl) | (cases iLt (IntKind.i64.wrap (s11+1)) r4<;>rfl)
theorem xM {N:Nat} {r1 r2 r3 r4 r5 r6 r7 r9 r10 r11 r12:Int} {r8:Bool} {r0:ByteArray} {r13:Rows} {s0 s1 s2 s3 s4 s5 s6 s7 s8 s9 s10 s11 s12 s13 s15 s21 s22 s23 s25 s26 s27:Int} {s18 s20:Bool} {s14 s16 s17 s19 s24:Rows} {b:Bool} (h:Fit s14 s16 s17 s19 s24) (hw:s16.length≤1048575) (hN:2097152<N) (hs:r0.size≤1048576):T6 N [.str r0,.int r1,.int r2,.int r3,.int r4,.int r5,.int r6,.int r7,.bool r8,.int r9,.int r10,.int r11,.int r12,.rows r13,.int s0,.int s1,.int s2,.int s3,.int s4,.int s5,.int s6,.int s7,.int s8,.int s9,.int s10,.int s11,.int s12,.int s13,.rows s14,.int s15,.rows s16,.rows s17,.bool s18,.rows s19,.bool s20,.int s21,.int s22,.int s23,.rows s24,.int s25,.int s26,.int s27,.bool b]=some (mu (Ak (⟨r0,r1,r2,r3,r4,r5,r6,r7,r8,r9,r10,r11,r12,r13⟩:Rul) (⟨s0,s1,s2,s3,s4,s5,s6,s7,s8,s9,s10,s11,s12,s13,s14,s15,s16,s17,s18,s19,s20,s21,s22,s23,s24,s25,s26,s27⟩:Inn) b)):=by
 show UK (std (Hc N) N) (xOf _)=_
 generalize hres:(some (mu (Ak (⟨r0,r1,r2,r3,r4,r5,r6,r7,r8,r9,r10,r11,r12,r13⟩:Rul) (⟨s0,s1,s2,s3,s4,s5,s6,s7,s8,s9,s10,s11,s12,s13,s14,s15,s16,s17,s18,s19,s20,s21,s22,s23,s24,s25,s26,s27⟩:Inn) b)):Option (List PV))=RR
 have ha:(s16++[[PV.int s15]]).length≤1048576:=by simp;omega
 simp only [UK,Z1,ac,Y2,eA,std,xOf,PXb,PXc,PXn,PXm,Nat.reduceAdd,Int.reduceBEq,CF h,Um,E8 hN hs,o8 hN h.bw',Ki ha (show 8≤4096 by omega)]
 subst hres;simp only [Ak]
 cases hp:inR s15 s19.length with
 | false=>cases A2 (⟨r0,r1,r2,r3,r4,r5,r6,r7,r8,r9,r10,r11,r12,r13⟩:Rul)==0<;>rfl
 | true =>
  rw [Dh hp h.bd]
  cases A2 (⟨r0,r1,r2,r3,r4,r5,r6,r7,r8,r9,r10,r11,r12,r13⟩:Rul)==0<;>try rfl
  cases Hl s16 s16.length s15<;>cases b<;>simp only [PXb,PXc,PXn,PXm,Nat.reduceAdd,Int.reduceBEq,inc]
  all_goals first | (cases iLt s11 r4<;>rfl) | (cases iLt (IntKind.i64.wrap (s11+1)) r4<;>rfl)
def G1 (r:Rul) (s:Inn):Inn×Int :=
 cond (!(A2 r==0)||r.newball==0||iLt s.ballage (IntKind.i64.wrap (r.newball * r.balls))) (s,22) ({ s with ballage:=0 },0)
theorem lY {N:Nat} {r1 r2 r3 r4 r5 r6 r7 r9 r10 r11 r12:Int} {r8:Bool} {r0:ByteArray} {r13:Rows} {s0 s1 s2 s3 s4 s5 s6 s7 s8 s9 s10 s11 s12 s13 s15 s21 s22 s23 s25 s26 s27:Int} {s18 s20:Bool} {s14 s16 s17 s19 s24:Rows} (h:Fit s14 s16 s17 s19 s24) (hN:2097152<N) (hs:r0.size≤1048576):Gb N [.str r0,.int r1,.int r2,.int r3,.int r4,.int r5,.int r6,.int r7,.bool r8,.int r9,.int r10,.int r11,.int r12,.rows r13,.int s0,.int s1,.int s2,.int s3,.int s4,.int s5,.int s6,.int s7,.int s8,.int s9,.int s10,.int s11,.int s12,.int s13,.rows s14,.int s15,.rows s16,.rows s17,.bool s18,.rows s19,.bool s20,.int s21,.int s22,.int s23,.rows s24,.int s25,.int s26,.int s27]=some (Ab (G1 (⟨r0,r1,r2,r3,r4,r5,r6,r7,r8,r9,r10,r11,r12,r13⟩:Rul) (⟨s0,s1,s2,s3,s4,s5,s6,s7,s8,s9,s10,s11,s12,s13,s14,s15,s16,s17,s18,s19,s20,s21,s22,s23,s24,s25,s26,s27⟩:Inn))):=by
 show J7 (std (HL N) N) (xOf _)=_
 generalize hres:(some (Ab (G1 (⟨r0,r1,r2,r3,r4,r5,r6,r7,r8,r9,r10,r11,r12,r13⟩:Rul) (⟨s0,s1,s2,s3,s4,s5,s6,s7,s8,s9,s10,s11,s12,s13,s14,s15,s16,s17,s18,s19,s20,s21,s22,s23,s24,s25,s26,s27⟩:Inn))):Option (List PV))=RR
 simp only [J7,R9,Tx,std,xOf,PXb,PXc,PXn,PXm,Nat.reduceAdd,Int.reduceBEq,Xl h,De hN hs]
 subst hres;simp only [G1]
 cases (!(A2 (⟨r0,r1,r2,r3,r4,r5,r6,r7,r8,r9,r10,r11,r12,r13⟩:Rul)==0)||r9==0||iLt s21 (IntKind.i64.wrap (r9 * r4)))<;>rfl
theorem pU {N:Nat} {r1 r2 r3 r4 r5 r6 r7 r9 r10 r11 r12:Int} {r8:Bool} {r0:ByteArray} {r13:Rows} {s0 s1 s2 s3 s4 s5 s6 s7 s8 s9 s10 s11 s12 s13 s15 s21 s22 s23 s25 s26 s27:Int} {s18 s20:Bool} {s14 s16 s17 s19 s24:Rows} (h:Fit s14 s16 s17 s19 s24) (hN:2097152<N) (hs:r0.size≤1048576):ND N [.str r0,.int r1,.int r2,.int r3,.int r4,.int r5,.int r6,.int r7,.bool r8,.int r9,.int r10,.int r11,.int r12,.rows r13,.int s0,.int s1,.int s2,.int s3,.int s4,.int s5,.int s6,.int s7,.int s8,.int s9,.int s10,.int s11,.int s12,.int s13,.rows s14,.int s15,.rows s16,.rows s17,.bool s18,.rows s19,.bool s20,.int s21,.int s22,.int s23,.rows s24,.int s25,.int s26,.int s27]=some (Ab (G1 (⟨r0,r1,r2,r3,r4,r5,r6,r7,r8,r9,r10,r11,r12,r13⟩:Rul) (⟨s0,s1,s2,s3,s4,s5,s6,s7,s8,s9,s10,s11,s12,s13,s14,s15,s16,s17,s18,s19,s20,s21,s22,s23,s24,s25,s26,s27⟩:Inn))):=by
 show M7 (std (Jq N) N) (xOf _)=_
 generalize hres:(some (Ab (G1 (⟨r0,r1,r2,r3,r4,r5,r6,r7,r8,r9,r10,r11,r12,r13⟩:Rul) (⟨s0,s1,s2,s3,s4,s5,s6,s7,s8,s9,s10,s11,s12,s13,s14,s15,s16,s17,s18,s19,s20,s21,s22,s23,s24,s25,s26,s27⟩:Inn))):Option (List PV))=RR
 simp only [M7,V7,V1,std,xOf,PXb,PXc,PXn,PXm,Nat.reduceAdd,Int.reduceBEq,CF h,E8 hN hs]
 subst hres;simp only [G1]
 cases (!(A2 (⟨r0,r1,r2,r3,r4,r5,r6,r7,r8,r9,r10,r11,r12,r13⟩:Rul)==0)||r9==0||iLt s21 (IntKind.i64.wrap (r9 * r4)))<;>rfl
end Go.Px
end
