/- Part 9. -/
import Derived.Test.YtefmhiojnbekpaaGreatDoorPart07
import Derived.Test.YtefmhiojnbekpaaGreatDoorPart08
set_option linter.unusedVariables false
set_option linter.unusedSimpArgs false
section
namespace Go.Px
set_option maxRecDepth 100000
def Ra:List Nat:=[2,0,0,0,0,0,0,0,1,0,0,0,0,3,3,0]
def IU (O:Alg) (x:Ags O):O.M:=(O.bind (O.call 37 [] (xr x [2,0,0,0,0,0,0,0,1,0,0,0,0,3,3] 0)) fun c0=>(O.ite (O.bnot (O.eqI (O.cI c0 0) (O.lit .i64 0))) (O.ret [.int (O.lit .i64 0),.int (O.lit .i64 0),.int (O.lit .i64 0),.int (O.lit .i64 0),.int (O.lit .i64 0),.int (O.lit .i64 0),.bool O.ff,.bool O.ff,.bool O.ff,.bool O.ff,.int (O.cI c0 0)]) (O.bind (O.call 38 [] [.rows (x.L 14)]) fun c1=>(O.ite (O.iteB (O.lt (x.I 15) (O.lit .i64 0)) O.tt (O.le (O.llen (O.cL c1 0)) (x.I 15))) (O.ret [.int (O.lit .i64 0),.int (O.lit .i64 0),.int (O.lit .i64 0),.int (O.lit .i64 0),.int (O.lit .i64 0),.int (O.lit .i64 0),.bool O.ff,.bool O.ff,.bool O.ff,.bool O.ff,.int (O.lit .i64 2)]) (O.assert (O.inb (x.I 15) (O.llen (O.cL c1 0))) (O.assert (O.inb (x.I 15) (O.llen (O.cL c1 0))) (O.assert (O.inr (O.rI (O.cL c1 0) (x.I 15) 0) (O.rI (O.cL c1 0) (x.I 15) 1) (O.llen (x.L 14))) (O.bind (O.fix (fun s2 c2=>(O.ite (O.lt (O.cI c2 0) (O.llen (O.lsub (x.L 14) (O.rI (O.cL c1 0) (x.I 15) 0) (O.rI (O.cL c1 0) (x.I 15) 1)))) (O.assert (O.inb (O.cI c2 0) (O.llen (O.lsub (x.L 14) (O.rI (O.cL c1 0) (x.I 15) 0) (O.rI (O.cL c1 0) (x.I 15) 1)))) (O.ite (O.bnot (O.eqI (O.rI (O.lsub (x.L 14) (O.rI (O.cL c1 0) (x.I 15) 0) (O.rI (O.cL c1 0) (x.I 15) 1)) (O.cI c2 0) 0) (O.lit .u8 4))) (s2 (ap O [.int (O.add .i64 (O.cI c2 0) (O.lit .i64 1))] (cr O c2 [0,0,0,0,0,0,1,1,1,1] 1))) (O.bind (O.call 52 [] (ap O (xr x kR 0) (rr O (O.lsub (x.L 14) (O.rI (O.cL c1 0) (x.I 15) 0) (O.rI (O.cL c1 0) (x.I 15) 1)) (O.cI c2 0) [0,0,0,0,0,1,0,0,0,0,1,0] 7))) fun c3=>(s2 (ap O [.int (O.add .i64 (O.cI c2 0) (O.lit .i64 1)),.int (O.add .i64 (O.cI c2 1) (O.cI c3 0)),.int (O.add .i64 (O.cI c2 2) (O.cI c3 1)),.int (O.add .i64 (O.cI c2 3) (O.cI c3 2)),.int (O.add .i64 (O.cI c2 4) (O.cI c3 3)),.int (O.add .i64 (O.cI c2 5) (O.cI c3 4)),.int (O.add .i64 (O.cI c2 6) (O.cI c3 5))] (cr O c2 [1,1,1,1] 7)))))) (O.ret (cr O c2 [0,0,0,0,0,0,1,1,1,1] 1)))) [.int (O.lit .i64 0),.int (O.lit .i64 0),.int (O.lit .i64 0),.int (O.lit .i64 0),.int (O.lit .i64 0),.int (O.lit .i64 0),.int (O.lit .i64 0),.bool O.ff,.bool O.ff,.bool O.ff,.bool O.ff]) fun c2=>(O.ret (ap O (cr O c2 [0,0,0,0,0,0,1,1,1,1] 0) [.int (O.lit .i64 0)]))))))))))
def EC:Nat→Env:=eL [(37,Cm),(38,BR),(52,A0)]
theorem QA {N ls}:EC N 37 [] ls=Cm N ls:=id rfl
theorem Nf {N ls}:EC N 38 [] ls=BR N ls:=id rfl
theorem FC {N ls}:EC N 52 [] ls=A0 N ls:=id rfl
def IY:=oS Ra IU EC
def IA:List Nat:=[2,0,0,0,0,0,0,0,1,0,0,0,0,3,3]
def DQ (O:Alg) (x:Ags O):O.M:=(O.bind (O.call 8 [] []) fun c0=>(O.ite (O.bnot (O.cB c0 0)) (O.ret [.bool O.ff]) (O.bind (O.call 18 [] [.rows (x.L 14)]) fun c1=>(O.bind (O.call 25 [] (ap O (xr x kR 0) [.rows (O.cL c1 0)])) fun c2=>(O.ite (O.bnot (O.eqI (O.cI c2 1) (O.lit .i64 0))) (O.ret [.bool O.tt]) (O.bind (O.fix (fun s3 c3=>(O.ite (O.lt (O.cI c3 0) (O.llen (O.cL c2 0))) (O.assert (O.inb (O.cI c3 0) (O.llen (O.cL c2 0))) (O.bind (O.call 19 [] (ap O (xr x kR 0) [.rows (O.cL c1 0),.int (O.cI c3 0)])) fun c4=>(O.bind (O.call 26 [] (ap O (xr x kR 0) [.rows (O.cL c1 0),.int (O.cI c3 0)])) fun c5=>(O.bind (O.ite (O.bnot (O.iteB (O.bnot (O.eqI (O.cI c4 1) (O.lit .i64 0))) O.tt (O.bnot (O.eqI (O.cI c5 10) (O.lit .i64 0))))) (O.call 16 [] [.rows (O.cL c4 0)]) (O.ret [.int (O.lit .i64 0)])) fun c6=>(O.ite (O.iteB (O.iteB (O.bnot (O.eqI (O.cI c4 1) (O.lit .i64 0))) O.tt (O.bnot (O.eqI (O.cI c5 10) (O.lit .i64 0)))) O.tt (O.bnot (O.eqI (O.cI c6 0) (O.cI c5 5)))) (O.ret [.int (O.lit .i64 0),.bool O.ff]) (O.bind (O.fix (fun s7 c7=>(O.ite (O.lt (O.cI c7 3) (O.llen (O.cL c4 0))) (O.assert (O.inb (O.cI c7 3) (O.llen (O.cL c4 0))) (O.ite (O.iteB (O.iteB (O.iteB (O.lt (O.rI (O.cL c4 0) (O.cI c7 3) 0) (O.lit .i64 1)) O.tt (O.lt (x.I 1) (O.rI (O.cL c4 0) (O.cI c7 3) 0))) O.tt (O.lt (O.rI (O.cL c4 0) (O.cI c7 3) 1) (O.mul .i64 (O.rI (O.cL c4 0) (O.cI c7 3) 2) (x.I 4)))) O.tt (O.lt (O.rI (O.cL c4 0) (O.cI c7 3) 3) (O.add .i64 (O.mul .i64 (O.rI (O.cL c4 0) (O.cI c7 3) 5) (x.I 6)) (O.mul .i64 (O.rI (O.cL c4 0) (O.cI c7 3) 6) (x.I 7))))) (O.ret [.int (O.lit .i64 0),.bool O.ff]) (s7 [.int (O.add .i64 (O.cI c7 0) (O.rI (O.cL c4 0) (O.cI c7 3) 1)),.int (O.add .i64 (O.cI c7 1) (O.rI (O.cL c4 0) (O.cI c7 3) 4)),.int (O.add .i64 (O.cI c7 2) (O.rI (O.cL c4 0) (O.cI c7 3) 6)),.int (O.add .i64 (O.cI c7 3) (O.lit .i64 1))]))) (O.ret (ap O [.int (O.lit .i64 1)] (cr O c7 [0,0,0,0] 0))))) [.int (O.lit .i64 0),.int (O.lit .i64 0),.int (O.lit .i64 0),.int (O.lit .i64 0)]) fun c7=>(O.ite (O.isTag c7 0) (O.ret [.int (O.lit .i64 0),.bool (O.cB c7 1)]) (O.ite (O.iteB (O.iteB (O.bnot (O.eqI (O.cI c7 1) (O.rI (O.cL c2 0) (O.cI c3 0) 3))) O.tt (O.lt (O.rI (O.cL c2 0) (O.cI c3 0) 2) (O.cI c7 2))) O.tt (O.bnot (O.eqI (O.mul .i64 (O.cI c7 3) (x.I 7)) (O.cI c5 2)))) (O.ret [.int (O.lit .i64 0),.bool O.ff]) (s3 [.int (O.add .i64 (O.cI c3 0) (O.lit .i64 1))]))))))))) (O.ret [.int (O.lit .i64 1)]))) [.int (O.lit .i64 0)]) fun c3=>(O.ite (O.isTag c3 0) (O.ret [.bool (O.cB c3 1)]) (O.ret [.bool O.tt]))))))))
def A1 (N:Nat):Env:=fun f fns ls=>(cond (Nat.beq f 8&&Ax fns []) (KE N ls) (cond (Nat.beq f 16&&Ax fns []) (Ii N ls) (cond (Nat.beq f 18&&Ax fns []) (Ok N ls) (cond (Nat.beq f 19&&Ax fns []) (Bj N ls) (cond (Nat.beq f 25&&Ax fns []) (Jw N ls) (cond (Nat.beq f 26&&Ax fns []) (IY N ls) none))))))
theorem My {N ls}:A1 N 8 [] ls=KE N ls:=id rfl
theorem KC {N ls}:A1 N 16 [] ls=Ii N ls:=id rfl
theorem Oh {N ls}:A1 N 18 [] ls=Ok N ls:=id rfl
theorem Du {N ls}:A1 N 19 [] ls=Bj N ls:=id rfl
theorem LO {N ls}:A1 N 25 [] ls=Jw N ls:=id rfl
theorem Eb {N ls}:A1 N 26 [] ls=IY N ls:=id rfl
def DU:=oS IA DQ A1
end Go.Px
end
section
namespace Go.Px
set_option maxRecDepth 100000
theorem Gp {N:Nat} {s0 s1 s2 s3 s4 s5 s6 s7 s8 s9 s10 s11 s12 s13 s15 s21 s22 s23 s25 s26 s27:Int} {s18 s20:Bool} {s14 s16 s17 s19 s24:Rows} (h:Fit s14 s16 s17 s19 s24):A4 N [.int s0,.int s1,.int s2,.int s3,.int s4,.int s5,.int s6,.int s7,.int s8,.int s9,.int s10,.int s11,.int s12,.int s13,.rows s14,.int s15,.rows s16,.rows s17,.bool s18,.rows s19,.bool s20,.int s21,.int s22,.int s23,.rows s24,.int s25,.int s26,.int s27]=some [.int s0,.int s1,.int s2,.int s3,.int s4,.int s5,.int s6,.int s7,.int s8,.int s9,.int s10,.int s11,.int s12,.int s13,.rows s14,.int s15,.rows s16,.rows s17,.bool s18,.rows s19,.bool s20,.int s21,.int s22,.int s23,.rows s24,.int s25,.int s26,.int s27]:=by
 show MW (std (GY N) N) (xOf _)=_
 simp only [MW,LE,M2,MU,std,xOf,PXb,PXc,PXn,PXm,Nat.reduceAdd,Int.reduceBEq,Aa,Ae,Ac,Bg h.bt (show 1≤4096 by omega),Bg h.bw' (show 8≤4096 by omega),Bg h.bf (show 8≤4096 by omega),Bg h.bd (show 8≤4096 by omega),Bg h.sb (show 1≤4096 by omega)]
theorem Gj {N:Nat} {s0 s1 s2 s3 s4 s5 s6 s7 s8 s9 s10 s11 s12 s13 s15 s21 s22 s23 s25 s26 s27:Int} {s18 s20:Bool} {s14 s16 s17 s19 s24:Rows} {p:Int}  : A3 N [.int s0,.int s1,.int s2,.int s3,.int s4,.int s5,.int s6,.int s7,.int s8,.int s9,.int s10,.int s11,.int s12,.int s13,.rows s14,.int s15,.rows s16,.rows s17,.bool s18,.rows s19,.bool s20,.int s21,.int s22,.int s23,.rows s24,.int s25,.int s26,.int s27,.int p]=some [.bool (inR p s14.length)]:=by
 show JZ (std (Qq N) N) (xOf _)=_
 simp only [JZ,std,xOf,PXb,PXc,PXn,PXm,Nat.reduceAdd,Int.reduceBEq]
 rfl
def Aj (s:Inn) (d:Del):Inn :=
  let odd := !(d.runs.tmod 2==0) != d.crossed
  let t:Inn:=cond odd { s with striker:=s.other,other:=s.striker } s
  let k:Bool:=d.how==0
  cond (!k&&(d.victim==1 && !(s.striker==0)))
    { t with striker:=cond odd t.striker 0,other:=cond odd 0 t.other,batters:=cond (inR s.striker s.batters.length) (NO s.batters s.striker 2) s.batters,wickets:=IntKind.i64.wrap (s.wickets+1) }
    (cond (!k&&(d.victim==2 && !(s.other==0)))
      { t with striker:=cond odd 0 t.striker,other:=cond odd t.other 0,batters:=cond (inR s.other s.batters.length) (NO s.batters s.other 2) s.batters,wickets:=IntKind.i64.wrap (s.wickets+1) }
      t)
theorem et {N:Nat} {s0 s1 s2 s3 s4 s5 s6 s7 s8 s9 s10 s11 s12 s13 s15 s21 s22 s23 s25 s26 s27:Int} {s18 s20:Bool} {s14 s16 s17 s19 s24:Rows} {d0 d1 d2 d3 d4 d6 d7 d8 d9 d11:Int} {d5 d10:Bool} (h:Fit s14 s16 s17 s19 s24):JK N [.int s0,.int s1,.int s2,.int s3,.int s4,.int s5,.int s6,.int s7,.int s8,.int s9,.int s10,.int s11,.int s12,.int s13,.rows s14,.int s15,.rows s16,.rows s17,.bool s18,.rows s19,.bool s20,.int s21,.int s22,.int s23,.rows s24,.int s25,.int s26,.int s27,.int d0,.int d1,.int d2,.int d3,.int d4,.bool d5,.int d6,.int d7,.int d8,.int d9,.bool d10,.int d11]=some (Aj (⟨s0,s1,s2,s3,s4,s5,s6,s7,s8,s9,s10,s11,s12,s13,s14,s15,s16,s17,s18,s19,s20,s21,s22,s23,s24,s25,s26,s27⟩:Inn) (⟨d0,d1,d2,d3,d4,d5,d6,d7,d8,d9,d10,d11⟩:Del)).ls:=by
 show MT (std (Jh N) N) (xOf _)=_
 simp only [MT,RW,P2,std,xOf,PXb,PXc,PXn,PXm,Nat.reduceAdd,Int.reduceBEq,Gp h,Gj,rP h.bt]
 unfold Aj
 cases d5<;>cases d2.tmod 2==0<;>cases d6==0<;>cases d7==1<;>cases d7==2<;>cases s12==0<;>cases s13==0<;>rfl
def H0 (s:Inn):Inn:={ s with striker:=s.other,other:=s.striker }
theorem ay {N:Nat} {s0 s1 s2 s3 s4 s5 s6 s7 s8 s9 s10 s11 s12 s13 s15 s21 s22 s23 s25 s26 s27:Int} {s18 s20:Bool} {s14 s16 s17 s19 s24:Rows} (h:Fit s14 s16 s17 s19 s24):Fk N [.int s0,.int s1,.int s2,.int s3,.int s4,.int s5,.int s6,.int s7,.int s8,.int s9,.int s10,.int s11,.int s12,.int s13,.rows s14,.int s15,.rows s16,.rows s17,.bool s18,.rows s19,.bool s20,.int s21,.int s22,.int s23,.rows s24,.int s25,.int s26,.int s27]=some (H0 (⟨s0,s1,s2,s3,s4,s5,s6,s7,s8,s9,s10,s11,s12,s13,s14,s15,s16,s17,s18,s19,s20,s21,s22,s23,s24,s25,s26,s27⟩:Inn)).ls:=by
 show IK (std (J4 N) N) (xOf _)=_
 simp only [IK,PF,std,xOf,PXb,PXc,PXn,PXm,Nat.reduceAdd,Int.reduceBEq,Gp h]
 rfl
theorem Y9 {N:Nat} {v:Int}  : Cu N [.int v]=some [.bool (!(v==0))]:=by
 show LT (std (Om N) N) (xOf _)=_
 rfl
theorem Xe {N:Nat} {v:Int}  : EJ N [.int v]=some [.bool (!(v==0))]:=by
 show J8 (std (NC N) N) (xOf _)=_
 rfl
theorem Ss {N:Nat} {s0 s1 s2 s3 s4 s5 s6 s7 s8 s9 s10 s11 s12 s13 s15 s21 s22 s23 s25 s26 s27:Int} {s18 s20:Bool} {s14 s16 s17 s19 s24:Rows} (h:s14.length≤1048576) (hN:2097152<N):B8 N [.int s0,.int s1,.int s2,.int s3,.int s4,.int s5,.int s6,.int s7,.int s8,.int s9,.int s10,.int s11,.int s12,.int s13,.rows s14,.int s15,.rows s16,.rows s17,.bool s18,.rows s19,.bool s20,.int s21,.int s22,.int s23,.rows s24,.int s25,.int s26,.int s27]=some [.bool (Cy s14)]:=by
 show Ef (std (Ei N) N) (xOf _)=_
 simp only [Ef,F6,std,xOf,PXb,PXc,PXn,AH]
 rw [show Cy s14=iLe 0 (PC (fun i => !(atI s14 i 0==0)) s14.length) from (Jr _ _).symm]
 rw [Option.bind_assoc]
 refine Ab (Cf (len:=s14.length) (F0 fun i => !(atI s14 i 0==0)) ?_ ?_ s14.length 0 N (by omega) (by omega)) ?_
 ·intro self
  simp only [PXb,PXc,PXn,AH,BC]
 ·intro i self hi
  simp only [PXb,PXc,PXn,AH,A6 (show i≤1099511627776 by omega),Ay hi,AR hi,F0,CT,F6,Y9]
  cases atI s14 i 0==0<;>rfl
 ·unfold PC
  cases BH (F0 fun i => !(atI s14 i 0==0)) s14.length 0<;>rfl
theorem aj {N:Nat} {s0 s1 s2 s3 s4 s5 s6 s7 s8 s9 s10 s11 s12 s13 s15 s21 s22 s23 s25 s26 s27:Int} {s18 s20:Bool} {s14 s16 s17 s19 s24:Rows} (h:s14.length≤1048576) (hN:2097152<N):Fo N [.int s0,.int s1,.int s2,.int s3,.int s4,.int s5,.int s6,.int s7,.int s8,.int s9,.int s10,.int s11,.int s12,.int s13,.rows s14,.int s15,.rows s16,.rows s17,.bool s18,.rows s19,.bool s20,.int s21,.int s22,.int s23,.rows s24,.int s25,.int s26,.int s27]=some [.bool (Cy s14)]:=by
 show Id (std (J7 N) N) (xOf _)=_
 simp only [Id,FD,std,xOf,PXb,PXc,PXn,AH]
 rw [show Cy s14=iLe 0 (PC (fun i => !(atI s14 i 0==0)) s14.length) from (Jr _ _).symm]
 rw [Option.bind_assoc]
 refine Ab (Cf (len:=s14.length) (F0 fun i => !(atI s14 i 0==0)) ?_ ?_ s14.length 0 N (by omega) (by omega)) ?_
 ·intro self
  simp only [PXb,PXc,PXn,AH,BC]
 ·intro i self hi
  simp only [PXb,PXc,PXn,AH,A6 (show i≤1099511627776 by omega),Ay hi,AR hi,F0,CT,FD,Xe]
  cases atI s14 i 0==0<;>rfl
 ·unfold PC
  cases BH (F0 fun i => !(atI s14 i 0==0)) s14.length 0<;>rfl
theorem Ri {N:Nat} {s0 s1 s2 s3 s4 s5 s6 s7 s8 s9 s10 s11 s12 s13 s15 s21 s22 s23 s25 s26 s27:Int} {s18 s20:Bool} {s14 s16 s17 s19 s24:Rows} (h:s14.length≤1048576) (hN:2097152<N):BS N [.int s0,.int s1,.int s2,.int s3,.int s4,.int s5,.int s6,.int s7,.int s8,.int s9,.int s10,.int s11,.int s12,.int s13,.rows s14,.int s15,.rows s16,.rows s17,.bool s18,.rows s19,.bool s20,.int s21,.int s22,.int s23,.rows s24,.int s25,.int s26,.int s27]=some [.bool (Gg s14 s12 s13)]:=by
 show Dy (std (EN N) N) (xOf _)=_
 simp only [Dy,NZ,std,xOf,PXb,PXc,PXn,PXm,Nat.reduceAdd,Int.reduceBEq,Ss h hN]
 rfl
theorem dy {N:Nat} {s0 s1 s2 s3 s4 s5 s6 s7 s8 s9 s10 s11 s12 s13 s15 s21 s22 s23 s25 s26 s27:Int} {s18 s20:Bool} {s14 s16 s17 s19 s24:Rows} (h:s14.length≤1048576) (hN:2097152<N):Ct N [.int s0,.int s1,.int s2,.int s3,.int s4,.int s5,.int s6,.int s7,.int s8,.int s9,.int s10,.int s11,.int s12,.int s13,.rows s14,.int s15,.rows s16,.rows s17,.bool s18,.rows s19,.bool s20,.int s21,.int s22,.int s23,.rows s24,.int s25,.int s26,.int s27]=some [.rows (ET s14 s14.length)]:=by
 show FL (std (Mi N) N) (xOf _)=_
 simp only [FL,std,xOf,PXb,PXc,PXn,AH]
 refine Ab (Cb (len:=s14.length) (fun i=>[.rows (ET s14 i),.int (i:Int)]) [.rows (ET s14 s14.length)] ?_ ?_ N (by omega)) rfl
 ·intro self
  simp only [PXb,PXc,PXn,AH,BC]
 ·intro i self hi
  have h2:(ET s14 i++[[PV.int ((i:Int)+1)]]).length≤4194304:=by have:=ZB s14 i;simp;omega
  simp only [PXb,PXc,PXn,AH,A6 (show i≤1099511627776 by omega),Ay hi,AR hi,CT,ET,GE h2 (show 8≤4096 by omega)]
  cases (atI s14 i 0==0||atI s14 i 0==3)<;>rfl
def T7 (s:Inn) (p q:Int):Inn×Int :=
  cond (Cy s.batters) (s,1) (cond (!inR p s.batters.length || !inR q s.batters.length) (s,3) (cond (p==q) (s,4)
    ({ s with batters:=NO (NO s.batters p 1) q 1,striker:=p,other:=q },0)))
theorem dx {N:Nat} {s0 s1 s2 s3 s4 s5 s6 s7 s8 s9 s10 s11 s12 s13 s15 s21 s22 s23 s25 s26 s27:Int} {s18 s20:Bool} {s14 s16 s17 s19 s24:Rows} {p:Int} {q:Int} (h:Fit s14 s16 s17 s19 s24) (hN:2097152<N):Hu N [.int s0,.int s1,.int s2,.int s3,.int s4,.int s5,.int s6,.int s7,.int s8,.int s9,.int s10,.int s11,.int s12,.int s13,.rows s14,.int s15,.rows s16,.rows s17,.bool s18,.rows s19,.bool s20,.int s21,.int s22,.int s23,.rows s24,.int s25,.int s26,.int s27,.int p,.int q]=some (BT (T7 (⟨s0,s1,s2,s3,s4,s5,s6,s7,s8,s9,s10,s11,s12,s13,s14,s15,s16,s17,s18,s19,s20,s21,s22,s23,s24,s25,s26,s27⟩:Inn) p q)):=by
 show Kx (std (Ft N) N) (xOf _)=_
 generalize hres:(some (BT (T7 (⟨s0,s1,s2,s3,s4,s5,s6,s7,s8,s9,s10,s11,s12,s13,s14,s15,s16,s17,s18,s19,s20,s21,s22,s23,s24,s25,s26,s27⟩:Inn) p q)):Option (List PV))=RR
 simp only [Kx,RK,O3,O0,std,xOf,PXb,PXc,PXn,PXm,Nat.reduceAdd,Int.reduceBEq,Gp h,Ss h.bt hN,Gj]
 subst hres;simp only [T7]
 cases Cy s14<;>try rfl
 cases hp:inR p s14.length<;>cases hq:inR q s14.length<;>try rfl
 rw [Kv hp h.bt,Kv hq h.bt]
 cases p==q<;>rfl
def Na (s:Inn) (p:Int):Int :=
 cond (!inR p s.batters.length) 3 (cond (!Gg s.batters s.striker s.other||atI s.batters (ix p) 0==1) 4 (cond (atI s.batters (ix p) 0==2) 5 0))
theorem Wh {N:Nat} {s0 s1 s2 s3 s4 s5 s6 s7 s8 s9 s10 s11 s12 s13 s15 s21 s22 s23 s25 s26 s27:Int} {s18 s20:Bool} {s14 s16 s17 s19 s24:Rows} {p:Int} (h:s14.length≤1048576) (hN:2097152<N):Dd N [.int s0,.int s1,.int s2,.int s3,.int s4,.int s5,.int s6,.int s7,.int s8,.int s9,.int s10,.int s11,.int s12,.int s13,.rows s14,.int s15,.rows s16,.rows s17,.bool s18,.rows s19,.bool s20,.int s21,.int s22,.int s23,.rows s24,.int s25,.int s26,.int s27,.int p]=some [.int (Na (⟨s0,s1,s2,s3,s4,s5,s6,s7,s8,s9,s10,s11,s12,s13,s14,s15,s16,s17,s18,s19,s20,s21,s22,s23,s24,s25,s26,s27⟩:Inn) p)]:=by
 show MF (std (JU N) N) (xOf _)=_
 generalize hres:(some [.int (Na (⟨s0,s1,s2,s3,s4,s5,s6,s7,s8,s9,s10,s11,s12,s13,s14,s15,s16,s17,s18,s19,s20,s21,s22,s23,s24,s25,s26,s27⟩:Inn) p)]:Option (List PV))=RR
 simp only [MF,Ox,QC,std,xOf,PXb,PXc,PXn,PXm,Nat.reduceAdd,Int.reduceBEq,Gj,Ri h hN]
 subst hres;simp only [Na]
 cases hp:inR p s14.length<;>try rfl
 rw [Kv hp h]
 cases Gg s14 s12 s13<;>try rfl
 simp only [PXb,PXc,PXn,PXm,Nat.reduceAdd,Int.reduceBEq,atI,ix]
theorem dR {s:Inn} {p:Int} (h:(Na s p==0)=true):inR p s.batters.length=true:=by
 unfold Na at h
 cases hp:inR p s.batters.length with
 | true=>rfl
 | false=>rw [hp] at h;cases h
def Ob (s:Inn) (p:Int):Inn×Int :=
 cond (Na s p==0) ({ s with batters:=NO s.batters p 1,striker:=cond (s.striker==0) p s.striker,other:=cond (s.striker==0) s.other p },0) (s,Na s p)
def G9 (s:Inn) (p:Int):Inn×Int :=
 cond (Na s p==0) ({ s with batters:=NO s.batters p 2,wickets:=IntKind.i64.wrap (s.wickets+1) },0) (s,Na s p)
theorem bF {N:Nat} {s0 s1 s2 s3 s4 s5 s6 s7 s8 s9 s10 s11 s12 s13 s15 s21 s22 s23 s25 s26 s27:Int} {s18 s20:Bool} {s14 s16 s17 s19 s24:Rows} {p:Int} (h:Fit s14 s16 s17 s19 s24) (hN:2097152<N):GV N [.int s0,.int s1,.int s2,.int s3,.int s4,.int s5,.int s6,.int s7,.int s8,.int s9,.int s10,.int s11,.int s12,.int s13,.rows s14,.int s15,.rows s16,.rows s17,.bool s18,.rows s19,.bool s20,.int s21,.int s22,.int s23,.rows s24,.int s25,.int s26,.int s27,.int p]=some (BT (Ob (⟨s0,s1,s2,s3,s4,s5,s6,s7,s8,s9,s10,s11,s12,s13,s14,s15,s16,s17,s18,s19,s20,s21,s22,s23,s24,s25,s26,s27⟩:Inn) p)):=by
 show JS (std (HP N) N) (xOf _)=_
 generalize hres:(some (BT (Ob (⟨s0,s1,s2,s3,s4,s5,s6,s7,s8,s9,s10,s11,s12,s13,s14,s15,s16,s17,s18,s19,s20,s21,s22,s23,s24,s25,s26,s27⟩:Inn) p)):Option (List PV))=RR
 simp only [JS,QB,Pv,std,xOf,PXb,PXc,PXn,PXm,Nat.reduceAdd,Int.reduceBEq,Gp h,Wh h.bt hN]
 subst hres;simp only [Ob]
 cases hm:Na (⟨s0,s1,s2,s3,s4,s5,s6,s7,s8,s9,s10,s11,s12,s13,s14,s15,s16,s17,s18,s19,s20,s21,s22,s23,s24,s25,s26,s27⟩:Inn) p==0<;>try rfl
 rw [Kv (dR hm) h.bt]
 cases s12==0<;>rfl
theorem YV {N:Nat} {s0 s1 s2 s3 s4 s5 s6 s7 s8 s9 s10 s11 s12 s13 s15 s21 s22 s23 s25 s26 s27:Int} {s18 s20:Bool} {s14 s16 s17 s19 s24:Rows} {p:Int} (h:Fit s14 s16 s17 s19 s24) (hN:2097152<N):Ek N [.int s0,.int s1,.int s2,.int s3,.int s4,.int s5,.int s6,.int s7,.int s8,.int s9,.int s10,.int s11,.int s12,.int s13,.rows s14,.int s15,.rows s16,.rows s17,.bool s18,.rows s19,.bool s20,.int s21,.int s22,.int s23,.rows s24,.int s25,.int s26,.int s27,.int p]=some (BT (G9 (⟨s0,s1,s2,s3,s4,s5,s6,s7,s8,s9,s10,s11,s12,s13,s14,s15,s16,s17,s18,s19,s20,s21,s22,s23,s24,s25,s26,s27⟩:Inn) p)):=by
 show HK (std (Df N) N) (xOf _)=_
 generalize hres:(some (BT (G9 (⟨s0,s1,s2,s3,s4,s5,s6,s7,s8,s9,s10,s11,s12,s13,s14,s15,s16,s17,s18,s19,s20,s21,s22,s23,s24,s25,s26,s27⟩:Inn) p)):Option (List PV))=RR
 simp only [HK,OM,Mw,OQ,std,xOf,PXb,PXc,PXn,PXm,Nat.reduceAdd,Int.reduceBEq,Gp h,Wh h.bt hN,Gj]
 subst hres;simp only [G9]
 cases hm:Na (⟨s0,s1,s2,s3,s4,s5,s6,s7,s8,s9,s10,s11,s12,s13,s14,s15,s16,s17,s18,s19,s20,s21,s22,s23,s24,s25,s26,s27⟩:Inn) p==0<;>try rfl
 have hk:inR p s14.length=true:=dR hm
 rw [Kv hk h.bt,hk]
 rfl
def Jo (s:Inn) (p:Int) (hurt:Bool):Inn×Int :=
  cond (!inR p s.batters.length) (s,3) (cond (s.striker==0||s.other==0) (s,6) (cond (!(p==s.striker) && !(p==s.other)) (s,4)
    (cond (hurt&&((ET s.batters s.batters.length).length:Int)==0) (s,19)
      ({ s with striker:=cond (p==s.striker) 0 s.striker,other:=cond (p==s.striker) s.other 0,batters:=NO s.batters p (cond hurt 3 2),wickets:=cond hurt s.wickets (IntKind.i64.wrap (s.wickets+1)) },0))))
theorem aV {N:Nat} {s0 s1 s2 s3 s4 s5 s6 s7 s8 s9 s10 s11 s12 s13 s15 s21 s22 s23 s25 s26 s27:Int} {s18 s20:Bool} {s14 s16 s17 s19 s24:Rows} {p:Int} {b:Bool} (h:Fit s14 s16 s17 s19 s24) (hN:2097152<N):Fw N [.int s0,.int s1,.int s2,.int s3,.int s4,.int s5,.int s6,.int s7,.int s8,.int s9,.int s10,.int s11,.int s12,.int s13,.rows s14,.int s15,.rows s16,.rows s17,.bool s18,.rows s19,.bool s20,.int s21,.int s22,.int s23,.rows s24,.int s25,.int s26,.int s27,.int p,.bool b]=some (BT (Jo (⟨s0,s1,s2,s3,s4,s5,s6,s7,s8,s9,s10,s11,s12,s13,s14,s15,s16,s17,s18,s19,s20,s21,s22,s23,s24,s25,s26,s27⟩:Inn) p b)):=by
 show Ig (std (EB N) N) (xOf _)=_
 generalize hres:(some (BT (Jo (⟨s0,s1,s2,s3,s4,s5,s6,s7,s8,s9,s10,s11,s12,s13,s14,s15,s16,s17,s18,s19,s20,s21,s22,s23,s24,s25,s26,s27⟩:Inn) p b)):Option (List PV))=RR
 simp only [Ig,OO,PE,Ns,std,xOf,PXb,PXc,PXn,PXm,Nat.reduceAdd,Int.reduceBEq,Gp h,Gj,dy h.bt hN]
 subst hres;simp only [Jo]
 cases hp:inR p s14.length<;>try rfl
 rw [Kv hp h.bt]
 cases s12==0<;>cases s13==0<;>try rfl
 cases p==s12<;>cases p==s13<;>cases b<;>try rfl
 all_goals (simp only [PXb,PXc,PXn,PXm,Nat.reduceAdd,Int.reduceBEq];cases ((ET s14 s14.length).length:Int)==0<;>rfl)
end Go.Px
end
section
namespace Go.Px
set_option maxRecDepth 100000
def btw (a b c:Int):Bool:=iLe b a&&iLe a c
theorem Dk (N:Nat) (a b c:Int):Al N [.int a,.int b,.int c]=some [.bool (btw a b c)]:=by
 show some [PV.bool (cond (iLe b a) (iLe a c) false)]=_
 rw [Z9];rfl
theorem LG (N:Nat) (a b c:Int):Cd N [.int a,.int b,.int c]=some [.bool (btw a b c)]:=by
 show some [PV.bool (cond (iLe b a) (iLe a c) false)]=_
 rw [Z9];rfl
def Nx (x1 x2 x3 x4 x5 x6 x7 x9 x10 x11 x12:Int):Bool:=btw x1 2 11&&btw x2 1 2&&btw x3 0 90&&btw x4 4 8&&btw x5 0 90&&btw x6 1 5&&btw x7 1 5&&btw x9 0 200&&btw x10 0 1000&&btw x11 0 9&&btw x12 0 11
theorem ZF (N : Nat) (x0 : ByteArray) (x1 x2 x3 x4 x5 x6 x7 x9 x10 x11 x12 : Int) (x8 : Bool) (x13 : Rows) :
   Fd N [.str x0,.int x1,.int x2,.int x3,.int x4,.int x5,.int x6,.int x7,.bool x8,.int x9,.int x10,.int x11,.int x12,.rows x13]=some [.bool (Nx x1 x2 x3 x4 x5 x6 x7 x9 x10 x11 x12)]:=by
  show Ik (std (KA N) N) (xOf _)=_
  have e:∀ ls,KA N 115 [] ls=Cd N ls:=fun ls=>rfl
  simp only [Ik,std,xOf,e,LG,PXb,PXc,PXn,AH,Nx]
def XA (s:ByteArray) (i:Nat):Bool := !(iLe 65 (N2 s i)&&iLe (N2 s i) 90)&&((i:Int)==0||((!(N2 s i==95) && !(N2 s i==45))&&(iLt (N2 s i) 48||iLt 57 (N2 s i))))
def Vx (s:ByteArray):Bool := !Bn (XA s) s.size 0&&(iLe 1 s.size&&iLe s.size 16)
theorem rO (s:ByteArray):(Fb s).length=s.size:=by
 simp only [Fb,List.length_map,Array.length_toList];rfl
theorem sL (s:ByteArray) (i:Nat) (h:i<s.size):pvI (AF (Fb s) i 0)=N2 s i:=by
 unfold AF AB AA Fb N2
 simp only [List.getD_eq_getElem?_getD,List.getElem?_map]
 have:i<s.data.toList.length:=by simpa using h
 rw [List.getElem?_eq_getElem this]
 simp [List.getElem?_eq_getElem this]
theorem fP (N:Nat) (s:ByteArray) (hN:s.size<N) (hs:s.size≤1048576):KL N [.str s]=some [.bool (Vx s)]:=by
 show OB (std (U4 N) N) (xOf _)=_
 simp only [OB,std,xOf,rO,PXb,PXc,PXn,AH]
 refine Ab (K9 (len:=s.size) (XA s) [.bool false] ?_ ?_ N hN) ?_
 ·intro self
  simp only [PXb,PXc,PXn,AH,BC]
 ·intro i self hi
  simp only [PXb,PXc,PXn,AH,Int.toNat_natCast,sL s i hi,A6 (show i≤1099511627776 by omega),Ay hi,AR hi,XA]
 ·unfold Vx
  cases Bn (XA s) s.size 0<;>rfl
end Go.Px
end
section
namespace Go.Px
set_option maxRecDepth 100000
theorem pI {i len:Nat} (h:i<len) (hl:len≤1099511627776):(!iLt 0 (i:Int)||iIn (IntKind.i64.wrap ((i:Int) - 1)) (len:Int))=true:=by
 rw [BA (by omega) (by omega)]
 simp only [iLt,iIn,Bool.or_eq_true,Bool.not_eq_true',decide_eq_false_iff_not,decide_eq_true_eq]
 omega
def pG (L:Rows) (ov:Int) (i:Nat):Bool:=(iLt (atI L i 0) 1||iLt (atI L i 1) (atI L i 0)||iLt ov (atI L i 1)) || !btw (atI L i 2) 0 11
def lf (L:Rows) (i:Nat):Bool:=iLt 0 (i:Int)&&iLe (atI L i 0) (pvI (AF L (IntKind.i64.wrap ((i:Int) - 1)).toNat 1))
def lO (L:Rows) (ov:Int) (i:Nat):Option (List PV):=cond (pG L ov i) (some [.int 2]) (cond (lf L i) (some [.int 8]) none)
def mf:Option (List PV)→Int
 | none=>0
 | some r=>pvI (AA r 0)
def iK (L:Rows) (ov:Int):Int:=cond (iLt 8 (L.length:Int)) 9 (mf (BH (lO L ov) L.length 0))
theorem aJ (o:Option (List PV)):cond (pvI (AA (Pr o) 0)==((0:Nat):Int)) (some [PV.int (pvI (AA (Pr o) 1))]) (some [PV.int 0])=some [PV.int (mf o)]:=by
 cases o<;>rfl
theorem Zw (N : Nat) (x0 : ByteArray) (x1 x2 x3 x4 x5 x6 x7 x9 x10 x11 x12 : Int) (x8 : Bool) (L : Rows) (hN : 2097152 < N) :
   Gx N [.str x0,.int x1,.int x2,.int x3,.int x4,.int x5,.int x6,.int x7,.bool x8,.int x9,.int x10,.int x11,.int x12,.rows L]=some [.int (iK L x3)]:=by
  show Jk (std (LW N) N) (xOf _)=_
  have e:∀ ls,LW N 115 [] ls=Cd N ls:=fun ls=>rfl
  simp only [Jk,std,xOf,e,LG,PXb,PXc,PXn,AH,iK]
  cases h8:iLt 8 (L.length:Int) with
  | true=>rfl
  | false =>
    have hl:L.length≤8:=by simp [iLt] at h8;omega
    simp only [cond_false]
    refine Ab (Cf (len:=L.length) (lO L x3) ?_ ?_ L.length 0 N (by omega) (by omega)) ?_
    · intro self
      simp only [PXb,PXc,PXn,AH,BC]
    · intro i self hi
      simp only [PXb,PXc,PXn,AH,Int.toNat_natCast,A6 (show i≤1099511627776 by omega),Ay hi,AR hi,LG,e,pI hi (by omega)]
      simp only [lO,pG,lf,atI]
      cases (iLt (pvI (AF L i 0)) 1||iLt (pvI (AF L i 1)) (pvI (AF L i 0))||iLt x3 (pvI (AF L i 1)) || !btw (pvI (AF L i 2)) 0 11) <;>
      cases (iLt 0 (i:Int)&&iLe (pvI (AF L i 0)) (pvI (AF L (IntKind.i64.wrap ((i:Int) - 1)).toNat 1)))<;>rfl
    · exact aJ _
def Lj (x0:ByteArray) (x1 x2 x3 x4 x5 x6 x7 x9 x10 x11 x12:Int) (L:Rows):Int :=
  cond (!Vx x0) 5 (cond (!Nx x1 x2 x3 x4 x5 x6 x7 x9 x10 x11 x12) 2
    (cond ((!(x10==0)&&x2==1)||((!(x5==0)||iLt 0 (L.length:Int))&&x3==0)) 1
      (cond (!(x5==0)&&iLt (IntKind.i64.wrap (x5 * x1)) x3) 13 (iK L x3))))
theorem TC (N : Nat) (x0 : ByteArray) (x1 x2 x3 x4 x5 x6 x7 x9 x10 x11 x12 : Int) (x8 : Bool) (L : Rows) (hN : 2097152 < N) (hs : x0.size ≤ 1048576) :
   AX N [.str x0,.int x1,.int x2,.int x3,.int x4,.int x5,.int x6,.int x7,.bool x8,.int x9,.int x10,.int x11,.int x12,.rows L]=some [.int (Lj x0 x1 x2 x3 x4 x5 x6 x7 x9 x10 x11 x12 L)]:=by
  show K2 (std (FZ N) N) (xOf _)=_
  have e:∀ ls,FZ N 92 [] ls=KL N ls:=fun ls=>rfl
  have e2:∀ ls,FZ N 93 [] ls=Fd N ls:=fun ls=>rfl
  have e3:∀ ls,FZ N 94 [] ls=Gx N ls:=fun ls=>rfl
  simp only [K2,std,xOf,e,e2,e3,fP N x0 (by omega) hs,ZF,Zw N _ _ _ _ _ _ _ _ _ _ _ _ _ _ hN,PXb,PXc,AH,Lj]
  cases Vx x0<;>cases Nx x1 x2 x3 x4 x5 x6 x7 x9 x10 x11 x12<;>try rfl
  simp only [PXb,PXc,AH,Bool.not_true]
  cases (!(x10==0)&&x2==1)<;>cases ((!(x5==0)||iLt 0 (L.length:Int))&&x3==0)<;>try rfl
  cases (!(x5==0)&&iLt (IntKind.i64.wrap (x5 * x1)) x3)<;>rfl
end Go.Px
end
section
namespace Go.Px
set_option maxRecDepth 100000
theorem VY (N:Nat) (L:Rows) (v:Int) (hN:L.length<N) (hl:L.length≤2097152):Dh N [.rows L,.int v]=some [.int (PC (fun j=>v==atI L j 0) L.length)]:=by
 show FY (std (MH N) N) (xOf _)=_
 simp only [FY,std,xOf,PXb,PXc,PXn,AH]
 refine Ab (Cf (len:=L.length) (F0 fun j=>v==atI L j 0) ?_ ?_ L.length 0 N (by omega) (by omega)) ?_
 ·intro self
  simp only [PXb,PXc,PXn,AH,BC]
 ·intro i self hi
  simp only [PXb,PXc,PXn,AH,A6 (show i≤1099511627776 by omega),Ay hi,AR hi,F0,CT]
  cases v==atI L i 0<;>rfl
 ·unfold PC
  cases BH (F0 fun j=>v==atI L j 0) L.length 0<;>rfl
def J3 (L:Rows) (k:Nat) (v:Int):Bool:=Bn (fun j=>v==atI L j 0) k 0
theorem Ka (N:Nat) (L:Rows) (v:Int) (hN:L.length<N) (hl:L.length≤2097152):Ar N [.rows L,.int v]=some [.bool (J3 L L.length v)]:=by
 show Dx (std (FG N) N) (xOf _)=_
 have e:∀ ls,FG N 206 [] ls=Dh N ls:=fun ls=>rfl
 simp only [Dx,std,xOf,PXb,PXc,PXn,AH,e,VY N L v hN hl,Jr,J3]
theorem nY (L:Rows) (i:Nat) (v:Int) (h:i≤L.length):J3 (L.take i) (L.take i).length v=J3 L i v:=by
 rw [List.length_take,Nat.min_eq_left h]
 exact am i 0 (fun j _ hj=>by rw [oV (by omega)])
def QF (L:Rows) (n:Int) (i:Nat):Bool := !btw (atI L i 0) 1 n||J3 L i (atI L i 0)
def KK (L:Rows) (n:Int):Bool := !Bn (QF L n) L.length 0
theorem L8 (N:Nat) (L:Rows) (n:Int) (hN:L.length<N) (hl:L.length≤2097152):DL N [.rows L,.int n]=some [.bool (KK L n)]:=by
 show E2 (std (Dr N) N) (xOf _)=_
 have e:∀ ls,Dr N 164 [] ls=Al N ls:=fun ls=>rfl
 have e2:∀ ls,Dr N 185 [] ls=Ar N ls:=fun ls=>rfl
 simp only [E2,std,xOf,PXb,PXc,PXn,AH]
 refine Ab (K9 (len:=L.length) (QF L n) [.bool false] ?_ ?_ N hN) ?_
 ·intro self
  simp only [PXb,PXc,PXn,AH,BC]
 ·intro i self hi
  have h1:(L.take i).length≤L.length:=List.length_take_le' i L
  simp only [PXb,PXc,PXn,AH,A6 (show i≤1099511627776 by omega),Ay hi,AR hi,e,e2,Dk,sR (Nat.le_of_lt hi),Int.toNat_zero,List.drop_zero,Ka N (L.take i) _ (by omega) (by omega),nY L i _ (by omega),CT,QF]
  cases btw (atI L i 0) 1 n<;>cases J3 L i (atI L i 0)<;>rfl
 ·unfold KK
  cases Bn (QF L n) L.length 0<;>rfl
theorem XZ (N:Nat) (v:Int):Cu N [.int v]=some [.bool (!(v==0))]:=rfl
def lsI (L14 L16 L17 L19 L24:Rows) (b18 b20:Bool) (x0 x1 x2 x3 x4 x5 x6 x7 x8 x9 x10 x11 x12 x13 x15 x21 x22 x23 x25 x26 x27:Int):List PV :=
 [.int x0,.int x1,.int x2,.int x3,.int x4,.int x5,.int x6,.int x7,.int x8,.int x9,.int x10,.int x11,.int x12,.int x13,.rows L14,.int x15,.rows L16,.rows L17,.bool b18,.rows L19,.bool b20,.int x21,.int x22,.int x23,.rows L24,.int x25,.int x26,.int x27]
section
variable (N:Nat) (L14 L16 L17 L19 L24:Rows) (b18 b20:Bool) (x0 x1 x2 x3 x4 x5 x6 x7 x8 x9 x10 x11 x12 x13 x15 x21 x22 x23 x25 x26 x27:Int)
theorem az (hN:L14.length<N) (hl:L14.length≤2097152):B8 N (lsI L14 L16 L17 L19 L24 b18 b20 x0 x1 x2 x3 x4 x5 x6 x7 x8 x9 x10 x11 x12 x13 x15 x21 x22 x23 x25 x26 x27)=some [.bool (Cy L14)]:=by
 show Ef (std (Ei N) N) (xOf (lsI ..))=_
 have e:∀ ls,Ei N 262 [] ls=Cu N ls:=fun ls=>rfl
 simp only [Ef,std,xOf,lsI,PXb,PXc,PXn,AH]
 rw [show Cy L14=iLe 0 (PC (fun i => !(atI L14 i 0==0)) L14.length) from (Jr _ _).symm]
 rw [Option.bind_assoc]
 refine Ab (Cf (len:=L14.length) (F0 fun i => !(atI L14 i 0==0)) ?_ ?_ L14.length 0 N (by omega) (by omega)) ?_
 ·intro self
  simp only [PXb,PXc,PXn,AH,BC]
 ·intro i self hi
  simp only [PXb,PXc,PXn,AH,A6 (show i≤1099511627776 by omega),Ay hi,AR hi,F0,CT,e,XZ]
  cases atI L14 i 0==0<;>rfl
 ·unfold PC
  cases BH (F0 fun i => !(atI L14 i 0==0)) L14.length 0<;>rfl
theorem Yw (hN:L14.length<N) (hl:L14.length≤2097152):BS N (lsI L14 L16 L17 L19 L24 b18 b20 x0 x1 x2 x3 x4 x5 x6 x7 x8 x9 x10 x11 x12 x13 x15 x21 x22 x23 x25 x26 x27)=some [.bool (Gg L14 x12 x13)]:=by
 show Dy (std (EN N) N) (xOf (lsI ..))=_
 have e:∀ ls,EN N 241 [] ls=B8 N ls:=fun ls=>rfl
 have:=az N L14 L16 L17 L19 L24 b18 b20 x0 x1 x2 x3 x4 x5 x6 x7 x8 x9 x10 x11 x12 x13 x15 x21 x22 x23 x25 x26 x27 hN hl
 simp only [lsI] at this
 simp only [Dy,std,xOf,lsI,PXb,PXc,PXn,AH,e,this,Gg]
theorem cW (hN:L14.length<N) (hl:L14.length≤2097152):Ct N (lsI L14 L16 L17 L19 L24 b18 b20 x0 x1 x2 x3 x4 x5 x6 x7 x8 x9 x10 x11 x12 x13 x15 x21 x22 x23 x25 x26 x27)=some [.rows (ET L14 L14.length)]:=by
 show FL (std (Mi N) N) (xOf (lsI ..))=_
 simp only [FL,std,xOf,lsI,PXb,PXc,PXn,AH]
 refine Ab (Cb (len:=L14.length) (fun i=>[.rows (ET L14 i),.int (i:Int)]) [.rows (ET L14 L14.length)] ?_ ?_ N hN) rfl
 ·intro self
  simp only [PXb,PXc,PXn,AH,BC]
 ·intro i self hi
  have h2:(ET L14 i++[[PV.int ((i:Int)+1)]]).length≤4194304:=by have:=ZB L14 i;simp;omega
  simp only [PXb,PXc,PXn,AH,A6 (show i≤1099511627776 by omega),Ay hi,AR hi,CT,ET,GE h2 (show 8≤4096 by omega)]
  cases (atI L14 i 0==0||atI L14 i 0==3)<;>rfl
end
theorem UC (N:Nat) (v:Int):DP N [.int v]=some [.bool (!btw v 0 1000000000)]:=by
 show E3 (std (GW N) N) (xOf _)=_
 have e:∀ ls,GW N 164 [] ls=Al N ls:=fun ls=>rfl
 simp only [E3,std,xOf,PXb,PXc,PXn,AH,e,Dk]
end Go.Px
end
section
namespace Go.Px
set_option maxRecDepth 100000
def pIs (L:Rows) (v:Int) (i:Nat):Bool:=atI L i 0==v
def Wi (s n:Int) (i:Nat):Bool:=s==(i:Int)+1||n==(i:Int)+1
def Pn (L:Rows) (s n:Int) (i:Nat):Bool:=iLt 3 (atI L i 0)||(pIs L 1 i && !Wi s n i)
def Z3 (L:Rows) (s n:Int) (i:Nat):Bool:=iLt 3 (atI L i 0) || !(pIs L 1 i==Wi s n i)
def Yf (L:Rows):Int:=Co (pIs L 2) L.length
def ins (L:Rows):Int:=Co (pIs L 1) L.length
def two (s n:Int):Int:=cond (!(n==0)) (IntKind.i64.wrap (cond (!(s==0)) (IntKind.i64.wrap (0+1)) 0+1)) (cond (!(s==0)) (IntKind.i64.wrap (0+1)) 0)
def eZ (L:Rows) (s n wk k:Int):Bool :=
 !Bn (Pn L s n) L.length 0&&((btw s 0 k&&btw n 0 k)&&(!(s==n && !(s==0))&&((two s n==ins L&&(!Cy L||iLt 0 (two s n)))&&Yf L==wk)))
def W5 (L:Rows) (s n wk:Int):Bool :=
 !Bn (Z3 L s n) L.length 0&&(!((Cy L&&iLt (ins L) 1)||(!(s==0)&&s==n))&&wk==Yf L)
def ka (L:Rows):Nat→Bool
 | 0=>false
 | i+1=>ka L i || !(atI L i 0==0)
theorem jl (L:Rows):∀ i,ka L i=Bn (fun j => !(atI L j 0==0)) i 0
 | 0=>rfl
 | i+1=>by rw [Ws,Nat.zero_add,← jl L i];rfl
section
variable (N:Nat) (L14 L16 L17 L19 L24:Rows) (b18 b20:Bool) (x0 x1 x2 x3 x4 x5 x6 x7 x8 x9 x10 x11 x12 x13 x15 x21 x22 x23 x25 x26 x27:Int)
theorem Vt (k:Int) (hN:L14.length<N) (hl:L14.length≤2097152):EG N (lsI L14 L16 L17 L19 L24 b18 b20 x0 x1 x2 x3 x4 x5 x6 x7 x8 x9 x10 x11 x12 x13 x15 x21 x22 x23 x25 x26 x27++[.int k])=some [.bool (eZ L14 x12 x13 x4 k)]:=by
  simp only [lsI,List.cons_append,List.nil_append]
  show GL (std (IE N) N) (xOf _)=_
  have e:∀ ls,IE N 164 [] ls=Al N ls:=fun ls=>rfl
  simp only [GL,std,xOf,lsI,PXb,PXc,PXn,AH]
  refine Ab (iC (len:=L14.length) (fun i=>[.int (Co (pIs L14 2) i),.int (Co (pIs L14 1) i),.bool (ka L14 i),.int (i:Int)])
    (Pn L14 x12 x13) [.int 0,.bool false] [.int 1,.int (Yf L14),.int (ins L14),.bool (Cy L14)] ?_ ?_ N hN) ?_
  · intro self
    simp only [PXb,PXc,PXn,AH,BC,jl]
    rfl
  · intro i self hi
    simp only [PXb,PXc,AH,A6 (show i≤1099511627776 by omega),Ay hi,AR hi,CT,fB (pIs L14 2) (show i≤1099511627776 by omega),fB (pIs L14 1) (show i≤1099511627776 by omega)]
    unfold Pn pIs Wi
    simp only [Co,ka]
    cases h3:iLt 3 (atI L14 i 0) with
    | true=>rfl
    | false =>
      cases h1:atI L14 i 0==1 with
      | true =>
        rw [qT h1]
        cases x12==(i:Int)+1<;>cases x13==(i:Int)+1<;>rfl
      | false=>cases h2:atI L14 i 0==2<;>rfl
  · unfold eZ
    simp only [e,Dk]
    cases Bn (Pn L14 x12 x13) L14.length 0 with
    | true=>rfl
    | false =>
      simp only [PXb,PXc,PXn,AH]
      unfold two
      cases btw x12 0 k<;>cases btw x13 0 k<;>try rfl
      cases x12==0<;>cases x13==0<;>cases x12==x13<;>try rfl
end
end Go.Px
end
section
namespace Go.Px
set_option maxRecDepth 100000
theorem qW (s n:Int):two s n=cond (!(s==0)) 1 0+cond (!(n==0)) 1 0:=by
 unfold two
 cases s==0<;>cases n==0<;>rfl
theorem qV {s n:Int} {len:Nat} (h1:0≤s∧s≤(len:Int)) (h2:0≤n∧n≤(len:Int)) (hd:(s==n && !(s==0))=false):two s n=Co (Wi s n) len:=by
 have hs:iLe s (len:Int)=true:=by simp only [iLe,decide_eq_true_eq];omega
 have hn:iLe n (len:Int)=true:=by simp only [iLe,decide_eq_true_eq];omega
 unfold Wi
 rw [mF (p:=fun i=>s==(i:Int)+1) (q:=fun i=>n==(i:Int)+1) len (fun j _ hp=>by
  have e1:s=(j:Int)+1:=by simpa using hp
  show (n==(j:Int)+1)=false
  rw [beq_eq_false_iff_ne]
  intro e2
  have e3:(s==n)=true:=by rw [beq_iff_eq];omega
  have e4:(s==0)=false:=by rw [beq_eq_false_iff_ne];omega
  rw [e3,e4] at hd;cases hd),iE s len h1.1,iE n len h2.1,hs,hn,Bool.and_true,Bool.and_true,qW]
theorem qM (x:Int):iLt 0 x = !iLt x 1:=by
 unfold iLt
 rw [Bool.eq_iff_iff]
 simp only [decide_eq_true_eq,Bool.not_eq_true',decide_eq_false_iff_not]
 omega
theorem oE {L : Rows} {s n : Int} (h1 : 0 ≤ s ∧ s ≤ (L.length : Int)) (h2 : 0 ≤ n ∧ n ≤ (L.length : Int)) (hd : (s == n && !(s == 0)) = false) :
    (!Bn (Pn L s n) L.length 0&&two s n==ins L) = !Bn (Z3 L s n) L.length 0:=by
  have h2c:=qV h1 h2 hd
  rw [Bool.eq_iff_iff]
  simp only [Bool.and_eq_true,Bool.not_eq_true',Jd,beq_iff_eq]
  constructor
  · intro ⟨ha,hb⟩ j _ hj
    have hm:∀ j,j<L.length→pIs L 1 j=true→Wi s n j=true:=fun j hj hp=>by
      have:=ha j (Nat.zero_le _) (by omega)
      unfold Pn at this
      rw [hp] at this
      simp only [Bool.or_eq_false_iff,Bool.true_and,Bool.not_eq_false'] at this
      exact this.2
    have he:=mQ L.length hm (by rw [← h2c,hb];rfl) j (by omega)
    have:=ha j (Nat.zero_le _) hj
    unfold Pn at this
    unfold Z3
    rw [Bool.or_eq_false_iff] at this ⊢
    exact ⟨this.1,by rw [he];simp⟩
  · intro ha
    have hm:∀ j,j<L.length→pIs L 1 j=Wi s n j:=fun j hj=>by
      have:=ha j (Nat.zero_le _) (by omega)
      unfold Z3 at this
      rw [Bool.or_eq_false_iff] at this
      simpa using this.2
    refine ⟨fun j h0 hj=>?_,?_⟩
    · have:=ha j h0 hj
      unfold Z3 at this
      unfold Pn
      rw [Bool.or_eq_false_iff] at this ⊢
      refine ⟨this.1,?_⟩
      rw [hm j (by omega)]
      cases Wi s n j<;>rfl
    · rw [h2c]
      exact (dZ L.length hm).symm
theorem rM (L:Rows) (s n wk k:Int) (hk:(L.length:Int)=k):eZ L s n wk k=(btw s 0 k&&btw n 0 k&&W5 L s n wk):=by
 subst hk
 unfold eZ W5
 cases hs:btw s 0 (L.length:Int) with
 | false=>simp only [Bool.false_and,Bool.and_false]
 | true =>
  cases hn:btw n 0 (L.length:Int) with
  | false=>simp only [Bool.false_and,Bool.and_false]
  | true =>
   have h1:0≤s∧s≤(L.length:Int):=by simpa [btw,iLe] using hs
   have h2:0≤n∧n≤(L.length:Int):=by simpa [btw,iLe] using hn
   simp only [Bool.true_and]
   cases hd:(s==n && !(s==0)) with
   | true =>
    have:(!(s==0)&&s==n)=true:=by rw [Bool.and_comm];exact hd
    rw [this]
    simp only [Bool.or_true,Bool.not_true,Bool.false_and,Bool.and_false]
   | false =>
    have:(!(s==0)&&s==n)=false:=by rw [Bool.and_comm];exact hd
    rw [this,← oE h1 h2 hd]
    simp only [Bool.or_false,Bool.not_false,Bool.true_and]
    rw [show (wk==Yf L)=(Yf L==wk) from BEq.comm]
    cases hA:Bn (Pn L s n) L.length 0 with
    | true=>rfl
    | false =>
     cases hB:two s n==ins L with
     | false=>rfl
     | true =>
      rw [beq_iff_eq.1 hB,qM]
      simp only [Bool.true_and,Bool.not_false,Bool.not_and]
end Go.Px
end
section
namespace Go.Px
set_option maxRecDepth 100000
def Il (v:Int):Bool := !btw v 0 1000000000
def gW (x1 x3 x5 x6 x7 x8 x9 x10 x21 x23 x25 x26:Int):Rows:=[[.int x1],[.int x3],[.int x5],[.int x6],[.int x7],[.int x8],[.int x9],[.int x10],[.int x21],[.int x23],[.int x25],[.int x26]]
section
variable (N:Nat) (L14 L16 L17 L19 L24:Rows) (b18 b20:Bool) (x0 x1 x2 x3 x4 x5 x6 x7 x8 x9 x10 x11 x12 x13 x15 x21 x22 x23 x25 x26 x27:Int)
theorem Vk (hN:2097152<N) (hl:L19.length≤1048576):EA N (lsI L14 L16 L17 L19 L24 b18 b20 x0 x1 x2 x3 x4 x5 x6 x7 x8 x9 x10 x11 x12 x13 x15 x21 x22 x23 x25 x26 x27)=some [.bool (!(J6 Il (gW x1 x3 x5 x6 x7 x8 x9 x10 x21 x23 x25 x26)||J6 Il L19))]:=by
 show GA (std (H5 N) N) (xOf (lsI ..))=_
 have e:∀ ls,H5 N 186 [] ls=DP N ls:=fun ls=>rfl
 rw [← gk]
 simp only [GA,std,xOf,lsI,PXb,PXc,PXn,AH,gW]
 generalize hM:([PV.int x1]::[PV.int x3]::[PV.int x5]::[PV.int x6]::[PV.int x7]::[PV.int x8]::[PV.int x9]::[PV.int x10]::[PV.int x21]::[PV.int x23]::[PV.int x25]::[PV.int x26]::L19:Rows)=M
 have hM2:M.length≤2097152:=by rw [← hM];simp only [List.length_cons];omega
 rw [GE (n:=M.length) (by omega) (by omega)]
 simp only [PXb,PXc,PXn,AH]
 rw [Option.bind_assoc]
 refine Ab (Cf (len:=M.length) (F0 fun i=>Il (atI M i 0)) ?_ ?_ M.length 0 N (by omega) (by omega)) ?_
 ·intro self
  simp only [PXb,PXc,PXn,AH,BC]
 ·intro i self hi
  simp only [PXb,PXc,PXn,AH,A6 (show i≤1099511627776 by omega),Ay hi,AR hi,F0,CT,e,UC,Il]
  cases btw (atI M i 0) 0 1000000000<;>rfl
 ·unfold J6
  rw [← Jr]
  unfold PC
  cases BH (F0 fun i=>Il (atI M i 0)) M.length 0<;>rfl
end
def cH (a3 x2:Int):Bool:=cond (a3==0) (x2==0) (btw x2 1 a3)
def S4 (s:ByteArray) (a1 a2 a3 a4 a5 a6 a7 a9 a10 a11 a12:Int) (La L14 L16 L17 L19 L24:Rows) (x0 x1 x2 x3 x4 x5 x6 x7 x8 x9 x10 x11 x12 x13 x15 x21 x22 x23 x25 x26 x27:Int):Bool :=
  Lj s a1 a2 a3 a4 a5 a6 a7 a9 a10 a11 a12 La==0&&(btw x0 1 2&&((L14.length:Int)==a1&&((L19.length:Int)==a1&&((L24.length:Int)==a1&&(!iLt 5 x27 &&
    (btw x12 0 a1&&(btw x13 0 a1&&(W5 L14 x12 x13 x4&&(btw x15 0 a1&&(btw x22 0 a1&&(KK L16 a1&&(KK L17 a1&&(cH a3 x2&&(btw x11 0 (IntKind.i64.wrap (a4 - 1)) &&
      (!J6 Il (gW x1 x3 x5 x6 x7 x8 x9 x10 x21 x23 x25 x26) && !J6 Il L19)))))))))))))))
theorem qL {a:Int} (h:0≤a):iLt 0 a = !(a==0):=by
 unfold iLt
 rw [Bool.eq_iff_iff]
 simp only [decide_eq_true_eq,Bool.not_eq_true',beq_eq_false_iff_ne]
 omega
section
variable (N:Nat) (s:ByteArray) (a1 a2 a3 a4 a5 a6 a7 a9 a10 a11 a12:Int) (a8:Bool) (La:Rows) (L14 L16 L17 L19 L24:Rows) (b18 b20:Bool) (x0 x1 x2 x3 x4 x5 x6 x7 x8 x9 x10 x11 x12 x13 x15 x21 x22 x23 x25 x26 x27:Int)
theorem QQ (hN:2097152<N) (hs:s.size≤1048576) (h14:L14.length≤1048576) (h16:L16.length≤1048576) (h17:L17.length≤1048576) (h19:L19.length≤1048576):BV N ([.str s,.int a1,.int a2,.int a3,.int a4,.int a5,.int a6,.int a7,.bool a8,.int a9,.int a10,.int a11,.int a12,.rows La]++lsI L14 L16 L17 L19 L24 b18 b20 x0 x1 x2 x3 x4 x5 x6 x7 x8 x9 x10 x11 x12 x13 x15 x21 x22 x23 x25 x26 x27)=some [.bool (S4 s a1 a2 a3 a4 a5 a6 a7 a9 a10 a11 a12 La L14 L16 L17 L19 L24 x0 x1 x2 x3 x4 x5 x6 x7 x8 x9 x10 x11 x12 x13 x15 x21 x22 x23 x25 x26 x27)]:=by
 simp only [lsI,List.cons_append,List.nil_append]
 show IV (std (CZ N) N) (xOf _)=_
 have e1:∀ ls,CZ N 70 [] ls=AX N ls:=fun ls=>rfl
 have e2:∀ ls,CZ N 164 [] ls=Al N ls:=fun ls=>rfl
 have e3:∀ ls,CZ N 165 [] ls=EG N ls:=fun ls=>rfl
 have e4:∀ ls,CZ N 166 [] ls=DL N ls:=fun ls=>rfl
 have e5:∀ ls,CZ N 167 [] ls=EA N ls:=fun ls=>rfl
 have l54:=Vt N L14 L16 L17 L19 L24 b18 b20 x0 x1 x2 x3 x4 x5 x6 x7 x8 x9 x10 x11 x12 x13 x15 x21 x22 x23 x25 x26 x27 a1 (by omega) (by omega)
 have l56:=Vk N L14 L16 L17 L19 L24 b18 b20 x0 x1 x2 x3 x4 x5 x6 x7 x8 x9 x10 x11 x12 x13 x15 x21 x22 x23 x25 x26 x27 (by omega) (by omega)
 simp only [lsI,List.cons_append,List.nil_append] at l54 l56
 simp only [IV,std,xOf,PXb,PXc,PXn,AH,e1,e2,e3,e4,e5,TC N s _ _ _ _ _ _ _ _ _ _ _ _ _ hN hs,Dk,l54,l56,L8 N L16 _ (by omega) (by omega),L8 N L17 _ (by omega) (by omega)]
 unfold S4 cH
 cases hc:Lj s a1 a2 a3 a4 a5 a6 a7 a9 a10 a11 a12 La==0<;>try rfl
 cases btw x0 1 2<;>try rfl
 cases h14:(L14.length:Int)==a1<;>try rfl
 cases (L19.length:Int)==a1<;>try rfl
 cases (L24.length:Int)==a1<;>try rfl
 cases iLt 5 x27<;>try rfl
 rw [rM L14 x12 x13 x4 a1 (beq_iff_eq.1 h14)]
 cases btw x12 0 a1<;>try rfl
 cases btw x13 0 a1<;>try rfl
 cases W5 L14 x12 x13 x4<;>try rfl
 cases btw x15 0 a1<;>try rfl
 cases btw x22 0 a1<;>try rfl
 cases KK L16 a1<;>try rfl
 cases KK L17 a1<;>try rfl
 cases a3==0<;>cases x2==0<;>cases btw x2 1 a3<;>rfl
end
end Go.Px
end
section
namespace Go.Px
set_option maxRecDepth 100000
def oK (v:Bool) (L:Rows) (s n:Int) (x1 x2 x3 x10:Int):Int :=
 cond (!v) 0 (cond (iLt 0 x1&&iLe x1 x3) 3 (cond (Gg L s n&&((ET L L.length).length:Int)==0) 1 (cond (iLt 0 x2&&iLe x2 x10) 2 0)))
theorem sJ {c:Int} {n:Nat} (hc:0≤c):iRg 0 (cond (iLt c (n:Int)) c (n:Int)) (n:Int)=true:=by
 cases h:iLt c (n:Int) with
 | true=>simp only [iLt,decide_eq_true_eq] at h;simp only [cond_true,iRg,decide_eq_true_eq];omega
 | false=>simp only [cond_false,iRg,decide_eq_true_eq];omega
def cut (L:Rows) (c:Int):Rows:=(L.take (cond (iLt c (L.length:Int)) c (L.length:Int)).toNat).drop (0:Int).toNat
end Go.Px
end
section
namespace Go.Px
set_option maxRecDepth 100000
section
variable (N:Nat) (s:ByteArray) (a1 a2 a3 a4 a5 a6 a7 a9 a10 a11 a12:Int) (a8:Bool) (La:Rows) (L14 L16 L17 L19 L24:Rows) (b18 b20:Bool) (x0 x1 x2 x3 x4 x5 x6 x7 x8 x9 x10 x11 x12 x13 x15 x21 x22 x23 x25 x26 x27:Int)
theorem Xf (hN : 2097152 < N) (hs : s.size ≤ 1048576) (h14 : L14.length ≤ 1048576) (h16 : L16.length ≤ 1048576) (h17 : L17.length ≤ 1048576) (h19 : L19.length ≤ 1048576) : DV N ([.str s, .int a1, .int a2, .int a3, .int a4, .int a5, .int a6, .int a7, .bool a8, .int a9, .int a10, .int a11, .int a12, .rows La] ++ lsI L14 L16 L17 L19 L24 b18 b20 x0 x1 x2 x3 x4 x5 x6 x7 x8 x9 x10 x11 x12 x13 x15 x21 x22 x23 x25 x26 x27) =
    some [.int (oK (S4 s a1 a2 a3 a4 a5 a6 a7 a9 a10 a11 a12 La L14 L16 L17 L19 L24 x0 x1 x2 x3 x4 x5 x6 x7 x8 x9 x10 x11 x12 x13 x15 x21 x22 x23 x25 x26 x27) L14 x12 x13 x1 x2 x3 x10)]:=by
  simp only [lsI,List.cons_append,List.nil_append]
  show HW (std (Dm N) N) (xOf _)=_
  have e1:∀ ls,Dm N 140 [] ls=BV N ls:=fun ls=>rfl
  have e2:∀ ls,Dm N 224 [] ls=BS N ls:=fun ls=>rfl
  have e3:∀ ls,Dm N 225 [] ls=Ct N ls:=fun ls=>rfl
  have l16:=QQ N s a1 a2 a3 a4 a5 a6 a7 a9 a10 a11 a12 a8 La L14 L16 L17 L19 L24 b18 b20 x0 x1 x2 x3 x4 x5 x6 x7 x8 x9 x10 x11 x12 x13 x15 x21 x22 x23 x25 x26 x27 hN hs h14 h16 h17 h19
  have l61:=Yw N L14 L16 L17 L19 L24 b18 b20 x0 x1 x2 x3 x4 x5 x6 x7 x8 x9 x10 x11 x12 x13 x15 x21 x22 x23 x25 x26 x27 (by omega) (by omega)
  have l62:=cW N L14 L16 L17 L19 L24 b18 b20 x0 x1 x2 x3 x4 x5 x6 x7 x8 x9 x10 x11 x12 x13 x15 x21 x22 x23 x25 x26 x27 (by omega) (by omega)
  simp only [lsI,List.cons_append,List.nil_append] at l16 l61 l62
  simp only [HW,std,xOf,PXb,PXc,PXn,AH,e1,e2,e3,l16,l61,l62,oK]
  cases S4 s a1 a2 a3 a4 a5 a6 a7 a9 a10 a11 a12 La L14 L16 L17 L19 L24 x0 x1 x2 x3 x4 x5 x6 x7 x8 x9 x10 x11 x12 x13 x15 x21 x22 x23 x25 x26 x27<;>try rfl
  cases (iLt 0 x1&&iLe x1 x3)<;>try rfl
  cases Gg L14 x12 x13
  · cases (iLt 0 x2&&iLe x2 x10)<;>rfl
  · simp only [PXb,PXc,PXn,AH]
    cases ((ET L14 L14.length).length:Int)==0<;>cases (iLt 0 x2&&iLe x2 x10)<;>rfl
end
end Go.Px
end
section
namespace Go.Px
set_option maxRecDepth 100000
section
variable (N:Nat) (s:ByteArray) (a1 a2 a3 a4 a5 a6 a7 a9 a10 a11 a12:Int) (a8:Bool) (La:Rows) (L14 L16 L17 L19 L24:Rows) (b18 b20:Bool) (x0 x1 x2 x3 x4 x5 x6 x7 x8 x9 x10 x11 x12 x13 x15 x21 x22 x23 x25 x26 x27:Int)
def CX (a4 x10 x11:Int):Int:=IntKind.i64.wrap (IntKind.i64.wrap (x10 * a4)+x11)
end
end Go.Px
end
section
namespace Go.Px
set_option maxRecDepth 100000
def BK (r:Rul):Int:=Lj r.name r.side r.innings r.overs r.balls r.quota r.wide r.noball r.newball r.followon r.reviews r.outside r.power
theorem DE {N:Nat} {r1 r2 r3 r4 r5 r6 r7 r9 r10 r11 r12:Int} {r8:Bool} {r0:ByteArray} {r13:Rows} (hN:2097152<N) (hs:r0.size≤1048576):AX N [.str r0,.int r1,.int r2,.int r3,.int r4,.int r5,.int r6,.int r7,.bool r8,.int r9,.int r10,.int r11,.int r12,.rows r13]=some [.int (BK (⟨r0,r1,r2,r3,r4,r5,r6,r7,r8,r9,r10,r11,r12,r13⟩:Rul))]:=by
 exact TC N _ _ _ _ _ _ _ _ _ _ _ _ _ _ hN hs
theorem SU {N:Nat} {s0 s1 s2 s3 s4 s5 s6 s7 s8 s9 s10 s11 s12 s13 s15 s21 s22 s23 s25 s26 s27:Int} {s18 s20:Bool} {s14 s16 s17 s19 s24:Rows} (h:Fit s14 s16 s17 s19 s24):Ci N [.int s0,.int s1,.int s2,.int s3,.int s4,.int s5,.int s6,.int s7,.int s8,.int s9,.int s10,.int s11,.int s12,.int s13,.rows s14,.int s15,.rows s16,.rows s17,.bool s18,.rows s19,.bool s20,.int s21,.int s22,.int s23,.rows s24,.int s25,.int s26,.int s27]=some [.int s0,.int s1,.int s2,.int s3,.int s4,.int s5,.int s6,.int s7,.int s8,.int s9,.int s10,.int s11,.int s12,.int s13,.rows s14,.int s15,.rows s16,.rows s17,.bool s18,.rows s19,.bool s20,.int s21,.int s22,.int s23,.rows s24,.int s25,.int s26,.int s27]:=by
 show Ny (std (Hf N) N) (xOf _)=_
 simp only [Ny,Ls,NE,M3,std,xOf,PXb,PXc,PXn,PXm,Nat.reduceAdd,Int.reduceBEq,Aa,Ae,Ac,Bg h.bt (show 1≤4096 by omega),Bg h.bw' (show 8≤4096 by omega),Bg h.bf (show 8≤4096 by omega),Bg h.bd (show 8≤4096 by omega),Bg h.sb (show 1≤4096 by omega)]
theorem Si {N:Nat} {s0 s1 s2 s3 s4 s5 s6 s7 s8 s9 s10 s11 s12 s13 s15 s21 s22 s23 s25 s26 s27:Int} {s18 s20:Bool} {s14 s16 s17 s19 s24:Rows} (h:Fit s14 s16 s17 s19 s24):Ck N [.int s0,.int s1,.int s2,.int s3,.int s4,.int s5,.int s6,.int s7,.int s8,.int s9,.int s10,.int s11,.int s12,.int s13,.rows s14,.int s15,.rows s16,.rows s17,.bool s18,.rows s19,.bool s20,.int s21,.int s22,.int s23,.rows s24,.int s25,.int s26,.int s27]=some [.int s0,.int s1,.int s2,.int s3,.int s4,.int s5,.int s6,.int s7,.int s8,.int s9,.int s10,.int s11,.int s12,.int s13,.rows s14,.int s15,.rows s16,.rows s17,.bool s18,.rows s19,.bool s20,.int s21,.int s22,.int s23,.rows s24,.int s25,.int s26,.int s27]:=by
 show OG (std (Hd N) N) (xOf _)=_
 simp only [OG,Ly,NT,Mz,std,xOf,PXb,PXc,PXn,PXm,Nat.reduceAdd,Int.reduceBEq,Aa,Ae,Ac,Bg h.bt (show 1≤4096 by omega),Bg h.bw' (show 8≤4096 by omega),Bg h.bf (show 8≤4096 by omega),Bg h.bd (show 8≤4096 by omega),Bg h.sb (show 1≤4096 by omega)]
theorem CE {N:Nat} {s0 s1 s2 s3 s4 s5 s6 s7 s8 s9 s10 s11 s12 s13 s15 s21 s22 s23 s25 s26 s27:Int} {s18 s20:Bool} {s14 s16 s17 s19 s24:Rows} (h:Fit s14 s16 s17 s19 s24):AQ N [.int s0,.int s1,.int s2,.int s3,.int s4,.int s5,.int s6,.int s7,.int s8,.int s9,.int s10,.int s11,.int s12,.int s13,.rows s14,.int s15,.rows s16,.rows s17,.bool s18,.rows s19,.bool s20,.int s21,.int s22,.int s23,.rows s24,.int s25,.int s26,.int s27]=some [.int s0,.int s1,.int s2,.int s3,.int s4,.int s5,.int s6,.int s7,.int s8,.int s9,.int s10,.int s11,.int s12,.int s13,.rows s14,.int s15,.rows s16,.rows s17,.bool s18,.rows s19,.bool s20,.int s21,.int s22,.int s23,.rows s24,.int s25,.int s26,.int s27]:=by
 show IL (std (EL N) N) (xOf _)=_
 simp only [IL,Jq,LH,KM,std,xOf,PXb,PXc,PXn,PXm,Nat.reduceAdd,Int.reduceBEq,Aa,Ae,Ac,Bg h.bt (show 1≤4096 by omega),Bg h.bw' (show 8≤4096 by omega),Bg h.bf (show 8≤4096 by omega),Bg h.bd (show 8≤4096 by omega),Bg h.sb (show 1≤4096 by omega)]
theorem PD {N:Nat} {s0 s1 s2 s3 s4 s5 s6 s7 s8 s9 s10 s11 s12 s13 s15 s21 s22 s23 s25 s26 s27:Int} {s18 s20:Bool} {s14 s16 s17 s19 s24:Rows} {p:Int}  : B1 N [.int s0,.int s1,.int s2,.int s3,.int s4,.int s5,.int s6,.int s7,.int s8,.int s9,.int s10,.int s11,.int s12,.int s13,.rows s14,.int s15,.rows s16,.rows s17,.bool s18,.rows s19,.bool s20,.int s21,.int s22,.int s23,.rows s24,.int s25,.int s26,.int s27,.int p]=some [.bool (inR p s19.length)]:=by
 show Kq (std (Rk N) N) (xOf _)=_
 simp only [Kq,std,xOf,PXb,PXc,PXn,PXm,Nat.reduceAdd,Int.reduceBEq]
 rfl
theorem Hi {N:Nat} {s0 s1 s2 s3 s4 s5 s6 s7 s8 s9 s10 s11 s12 s13 s15 s21 s22 s23 s25 s26 s27:Int} {s18 s20:Bool} {s14 s16 s17 s19 s24:Rows} {p:Int}  : A8 N [.int s0,.int s1,.int s2,.int s3,.int s4,.int s5,.int s6,.int s7,.int s8,.int s9,.int s10,.int s11,.int s12,.int s13,.rows s14,.int s15,.rows s16,.rows s17,.bool s18,.rows s19,.bool s20,.int s21,.int s22,.int s23,.rows s24,.int s25,.int s26,.int s27,.int p]=some [.bool (inR p s24.length)]:=by
 show Kn (std (Rn N) N) (xOf _)=_
 simp only [Kn,std,xOf,PXb,PXc,PXn,PXm,Nat.reduceAdd,Int.reduceBEq]
 rfl
def atB (L:Rows) (i j:Nat):Bool:=pvB (AF L i j)
theorem cD (L:Rows) (i j:Nat):pvB (AF L i j)=atB L i j:=rfl
def HL (s:Inn) (p:Int):Bool:=inR p s.subs.length&&atB s.subs (ix p) 0
theorem HA {N:Nat} {s0 s1 s2 s3 s4 s5 s6 s7 s8 s9 s10 s11 s12 s13 s15 s21 s22 s23 s25 s26 s27:Int} {s18 s20:Bool} {s14 s16 s17 s19 s24:Rows} {p:Int} (h:s24.length≤1048576):A5 N [.int s0,.int s1,.int s2,.int s3,.int s4,.int s5,.int s6,.int s7,.int s8,.int s9,.int s10,.int s11,.int s12,.int s13,.rows s14,.int s15,.rows s16,.rows s17,.bool s18,.rows s19,.bool s20,.int s21,.int s22,.int s23,.rows s24,.int s25,.int s26,.int s27,.int p]=some [.bool (HL (⟨s0,s1,s2,s3,s4,s5,s6,s7,s8,s9,s10,s11,s12,s13,s14,s15,s16,s17,s18,s19,s20,s21,s22,s23,s24,s25,s26,s27⟩:Inn) p)]:=by
 show HJ (std (JN N) N) (xOf _)=_
 generalize hres:(some [.bool (HL (⟨s0,s1,s2,s3,s4,s5,s6,s7,s8,s9,s10,s11,s12,s13,s14,s15,s16,s17,s18,s19,s20,s21,s22,s23,s24,s25,s26,s27⟩:Inn) p)]:Option (List PV))=RR
 simp only [HJ,Nt,std,xOf,PXb,PXc,PXn,PXm,Nat.reduceAdd,Int.reduceBEq,Hi,rP h]
 subst hres;simp only [HL]
 cases hp:inR p s24.length with
 | false=>rfl
 | true=>first | rfl | (rw [Kv hp h];rfl)
def kW (x:Int):Int:=cond (iLt x 0) 0 x
def aP (r:Rul) (s:Inn) (p:Int):Int :=
 cond (!inR p s.bowled.length || !(BK r==0)) 0 (cond (r.quota==0) (-1) (kW (IntKind.i64.wrap (IntKind.i64.wrap (r.quota * r.balls) - kW (atI s.bowled (ix p) 0)))))
theorem gY {N:Nat} {r1 r2 r3 r4 r5 r6 r7 r9 r10 r11 r12:Int} {r8:Bool} {r0:ByteArray} {r13:Rows} {s0 s1 s2 s3 s4 s5 s6 s7 s8 s9 s10 s11 s12 s13 s15 s21 s22 s23 s25 s26 s27:Int} {s18 s20:Bool} {s14 s16 s17 s19 s24:Rows} {p:Int} (h:Fit s14 s16 s17 s19 s24) (hN:2097152<N) (hs:r0.size≤1048576):JJ N [.str r0,.int r1,.int r2,.int r3,.int r4,.int r5,.int r6,.int r7,.bool r8,.int r9,.int r10,.int r11,.int r12,.rows r13,.int s0,.int s1,.int s2,.int s3,.int s4,.int s5,.int s6,.int s7,.int s8,.int s9,.int s10,.int s11,.int s12,.int s13,.rows s14,.int s15,.rows s16,.rows s17,.bool s18,.rows s19,.bool s20,.int s21,.int s22,.int s23,.rows s24,.int s25,.int s26,.int s27,.int p]=some [.int (aP (⟨r0,r1,r2,r3,r4,r5,r6,r7,r8,r9,r10,r11,r12,r13⟩:Rul) (⟨s0,s1,s2,s3,s4,s5,s6,s7,s8,s9,s10,s11,s12,s13,s14,s15,s16,s17,s18,s19,s20,s21,s22,s23,s24,s25,s26,s27⟩:Inn) p)]:=by
 show Mp (std (Jj N) N) (xOf _)=_
 generalize hres:(some [.int (aP (⟨r0,r1,r2,r3,r4,r5,r6,r7,r8,r9,r10,r11,r12,r13⟩:Rul) (⟨s0,s1,s2,s3,s4,s5,s6,s7,s8,s9,s10,s11,s12,s13,s14,s15,s16,s17,s18,s19,s20,s21,s22,s23,s24,s25,s26,s27⟩:Inn) p)]:Option (List PV))=RR
 simp only [Mp,RL,Qm,std,xOf,PXb,PXc,PXn,PXm,Nat.reduceAdd,Int.reduceBEq,DE hN hs,PD]
 subst hres;simp only [aP]
 cases hp:inR p s19.length with
 | false=>rfl
 | true=>rw [Kv hp h.bd];cases BK (⟨r0,r1,r2,r3,r4,r5,r6,r7,r8,r9,r10,r11,r12,r13⟩:Rul)==0<;>cases r5==0<;>rfl
theorem Lh {N:Nat} {L:Rows} {v:Int} (hN:2097152<N) (hl:L.length≤1048576):Ar N [.rows L,.int v]=some [.bool (J3 L L.length v)]:=by
 exact Ka N L v (by omega) (by omega)
def NP (r:Rul) (s:Inn) (p:Int):Int :=
  cond (!inR p s.bowled.length || !(BK r==0)) 3 (cond (p==s.keeper||p==s.bowler||HL s p) 7
    (cond (J3 s.before s.before.length p) 8 (cond (!(aP r s p == -1)&&iLt s.inover (IntKind.i64.wrap (r.balls - aP r s p))) 9 0)))
theorem nB {p:Int} {n m:Nat} (h:inR p n=true):inR p m=iLe p (m:Int):=by
 unfold inR at h ⊢
 rw [Bool.and_eq_true] at h
 rw [h.1,Bool.true_and]
theorem ig {N:Nat} {r1 r2 r3 r4 r5 r6 r7 r9 r10 r11 r12:Int} {r8:Bool} {r0:ByteArray} {r13:Rows} {s0 s1 s2 s3 s4 s5 s6 s7 s8 s9 s10 s11 s12 s13 s15 s21 s22 s23 s25 s26 s27:Int} {s18 s20:Bool} {s14 s16 s17 s19 s24:Rows} {p:Int} (h:Fit s14 s16 s17 s19 s24) (hN:2097152<N) (hs:r0.size≤1048576):KV N [.str r0,.int r1,.int r2,.int r3,.int r4,.int r5,.int r6,.int r7,.bool r8,.int r9,.int r10,.int r11,.int r12,.rows r13,.int s0,.int s1,.int s2,.int s3,.int s4,.int s5,.int s6,.int s7,.int s8,.int s9,.int s10,.int s11,.int s12,.int s13,.rows s14,.int s15,.rows s16,.rows s17,.bool s18,.rows s19,.bool s20,.int s21,.int s22,.int s23,.rows s24,.int s25,.int s26,.int s27,.int p]=some [.int (NP (⟨r0,r1,r2,r3,r4,r5,r6,r7,r8,r9,r10,r11,r12,r13⟩:Rul) (⟨s0,s1,s2,s3,s4,s5,s6,s7,s8,s9,s10,s11,s12,s13,s14,s15,s16,s17,s18,s19,s20,s21,s22,s23,s24,s25,s26,s27⟩:Inn) p)]:=by
 show N5 (std (FN N) N) (xOf _)=_
 generalize hres:(some [.int (NP (⟨r0,r1,r2,r3,r4,r5,r6,r7,r8,r9,r10,r11,r12,r13⟩:Rul) (⟨s0,s1,s2,s3,s4,s5,s6,s7,s8,s9,s10,s11,s12,s13,s14,s15,s16,s17,s18,s19,s20,s21,s22,s23,s24,s25,s26,s27⟩:Inn) p)]:Option (List PV))=RR
 simp only [N5,RV,L0,RU,SR,std,xOf,PXb,PXc,PXn,PXm,Nat.reduceAdd,Int.reduceBEq,DE hN hs,PD,gY h hN hs,Lh hN h.bf]
 subst hres;simp only [NP,HL]
 cases hp:inR p s19.length with
 | false=>rfl
 | true =>
  rw [nB (m:=s24.length) hp]
  have hq:(!(iLe p (s24.length:Int))||iIn (IntKind.i64.wrap (p - 1)) (s24.length:Int))=true:=by
   cases h1:iLe p (s24.length:Int) with
   | false=>rfl
   | true=>rw [Kv (by rw [nB hp];exact h1) h.sb];rfl
  rw [hq]
  cases BK (⟨r0,r1,r2,r3,r4,r5,r6,r7,r8,r9,r10,r11,r12,r13⟩:Rul)==0<;>rfl
def UJ (r:Rul) (s:Inn) (p:Int):Inn×Int:=(cond (NP r s p==0) { s with bowler:=p } s,NP r s p)
theorem hY {N:Nat} {r1 r2 r3 r4 r5 r6 r7 r9 r10 r11 r12:Int} {r8:Bool} {r0:ByteArray} {r13:Rows} {s0 s1 s2 s3 s4 s5 s6 s7 s8 s9 s10 s11 s12 s13 s15 s21 s22 s23 s25 s26 s27:Int} {s18 s20:Bool} {s14 s16 s17 s19 s24:Rows} {p:Int} (h:Fit s14 s16 s17 s19 s24) (hN:2097152<N) (hs:r0.size≤1048576):JE N [.str r0,.int r1,.int r2,.int r3,.int r4,.int r5,.int r6,.int r7,.bool r8,.int r9,.int r10,.int r11,.int r12,.rows r13,.int s0,.int s1,.int s2,.int s3,.int s4,.int s5,.int s6,.int s7,.int s8,.int s9,.int s10,.int s11,.int s12,.int s13,.rows s14,.int s15,.rows s16,.rows s17,.bool s18,.rows s19,.bool s20,.int s21,.int s22,.int s23,.rows s24,.int s25,.int s26,.int s27,.int p]=some (BT (UJ (⟨r0,r1,r2,r3,r4,r5,r6,r7,r8,r9,r10,r11,r12,r13⟩:Rul) (⟨s0,s1,s2,s3,s4,s5,s6,s7,s8,s9,s10,s11,s12,s13,s14,s15,s16,s17,s18,s19,s20,s21,s22,s23,s24,s25,s26,s27⟩:Inn) p)):=by
 show MR (std (Jn N) N) (xOf _)=_
 generalize hres:(some (BT (UJ (⟨r0,r1,r2,r3,r4,r5,r6,r7,r8,r9,r10,r11,r12,r13⟩:Rul) (⟨s0,s1,s2,s3,s4,s5,s6,s7,s8,s9,s10,s11,s12,s13,s14,s15,s16,s17,s18,s19,s20,s21,s22,s23,s24,s25,s26,s27⟩:Inn) p)):Option (List PV))=RR
 simp only [MR,Sh,SS,std,xOf,PXb,PXc,PXn,PXm,Nat.reduceAdd,Int.reduceBEq,SU h,ig h hN hs]
 subst hres;simp only [UJ]
 cases NP (⟨r0,r1,r2,r3,r4,r5,r6,r7,r8,r9,r10,r11,r12,r13⟩:Rul) (⟨s0,s1,s2,s3,s4,s5,s6,s7,s8,s9,s10,s11,s12,s13,s14,s15,s16,s17,s18,s19,s20,s21,s22,s23,s24,s25,s26,s27⟩:Inn) p==0<;>rfl
def nP (x:Inn×Bool):List PV:=[.int x.1.side,.int x.1.target,.int x.1.overs,.int x.1.runs,.int x.1.wickets,.int x.1.wides,.int x.1.noballs,.int x.1.byes,.int x.1.legbyes,.int x.1.pens,.int x.1.complete,.int x.1.inover,.int x.1.striker,.int x.1.other,.rows x.1.batters,.int x.1.bowler,.rows x.1.bowlers,.rows x.1.before,.bool x.1.fresh,.rows x.1.bowled,.bool x.1.freehit,.int x.1.ballage,.int x.1.keeper,.int x.1.outside,.rows x.1.subs,.int x.1.rev1,.int x.1.rev2,.int x.1.ending,.bool x.2]
def inc (x:Int):Int:=IntKind.i64.wrap (x+1)
def Aq (r:Rul) (s:Inn) (counts:Bool):Inn×Bool :=
  cond (!inR s.bowler s.bowled.length || !(BK r==0)) (s,false)
    (let L:=cond (J3 s.bowlers s.bowlers.length s.bowler) s.bowlers (s.bowlers++[[.int s.bowler]])
     let o:=cond counts (inc s.inover) s.inover
     let t:Inn:={ s with bowlers:=L,bowled:=cond counts (NO s.bowled s.bowler (inc (atI s.bowled (ix s.bowler) 0))) s.bowled,inover:=o,ballage:=cond counts (inc s.ballage) s.ballage }
     cond (iLt o r.balls) (t,false) ({ t with complete:=inc s.complete,inover:=0,before:=L,bowlers:=[],bowler:=0 },true))
theorem iM {N:Nat} {r1 r2 r3 r4 r5 r6 r7 r9 r10 r11 r12:Int} {r8:Bool} {r0:ByteArray} {r13:Rows} {s0 s1 s2 s3 s4 s5 s6 s7 s8 s9 s10 s11 s12 s13 s15 s21 s22 s23 s25 s26 s27:Int} {s18 s20:Bool} {s14 s16 s17 s19 s24:Rows} {b:Bool} (h:Fit s14 s16 s17 s19 s24) (hw:s16.length≤1048575) (hN:2097152<N) (hs:r0.size≤1048576):JB N [.str r0,.int r1,.int r2,.int r3,.int r4,.int r5,.int r6,.int r7,.bool r8,.int r9,.int r10,.int r11,.int r12,.rows r13,.int s0,.int s1,.int s2,.int s3,.int s4,.int s5,.int s6,.int s7,.int s8,.int s9,.int s10,.int s11,.int s12,.int s13,.rows s14,.int s15,.rows s16,.rows s17,.bool s18,.rows s19,.bool s20,.int s21,.int s22,.int s23,.rows s24,.int s25,.int s26,.int s27,.bool b]=some (nP (Aq (⟨r0,r1,r2,r3,r4,r5,r6,r7,r8,r9,r10,r11,r12,r13⟩:Rul) (⟨s0,s1,s2,s3,s4,s5,s6,s7,s8,s9,s10,s11,s12,s13,s14,s15,s16,s17,s18,s19,s20,s21,s22,s23,s24,s25,s26,s27⟩:Inn) b)):=by
 show MP (std (Eg N) N) (xOf _)=_
 generalize hres:(some (nP (Aq (⟨r0,r1,r2,r3,r4,r5,r6,r7,r8,r9,r10,r11,r12,r13⟩:Rul) (⟨s0,s1,s2,s3,s4,s5,s6,s7,s8,s9,s10,s11,s12,s13,s14,s15,s16,s17,s18,s19,s20,s21,s22,s23,s24,s25,s26,s27⟩:Inn) b)):Option (List PV))=RR
 have ha:(s16++[[PV.int s15]]).length≤1048576:=by simp;omega
 simp only [MP,Qs,LC,SZ,QR,std,xOf,PXb,PXc,PXn,PXm,Nat.reduceAdd,Int.reduceBEq,SU h,PD,DE hN hs,Lh hN h.bw',qx ha (show 8≤4096 by omega)]
 subst hres;simp only [Aq]
 cases hp:inR s15 s19.length with
 | false=>rfl
 | true =>
  rw [Kv hp h.bd]
  cases BK (⟨r0,r1,r2,r3,r4,r5,r6,r7,r8,r9,r10,r11,r12,r13⟩:Rul)==0<;>try rfl
  cases J3 s16 s16.length s15<;>cases b<;>simp only [PXb,PXc,PXn,PXm,Nat.reduceAdd,Int.reduceBEq,inc]
  all_goals first | (cases iLt s11 r4<;>rfl) | (cases iLt (IntKind.i64.wrap (s11+1)) r4<;>rfl)
def LP (r:Rul) (s:Inn):Inn×Int :=
 cond (!(BK r==0)||r.newball==0||iLt s.ballage (IntKind.i64.wrap (r.newball * r.balls))) (s,22) ({ s with ballage:=0 },0)
theorem aH {N:Nat} {r1 r2 r3 r4 r5 r6 r7 r9 r10 r11 r12:Int} {r8:Bool} {r0:ByteArray} {r13:Rows} {s0 s1 s2 s3 s4 s5 s6 s7 s8 s9 s10 s11 s12 s13 s15 s21 s22 s23 s25 s26 s27:Int} {s18 s20:Bool} {s14 s16 s17 s19 s24:Rows} (h:Fit s14 s16 s17 s19 s24) (hN:2097152<N) (hs:r0.size≤1048576):Fq N [.str r0,.int r1,.int r2,.int r3,.int r4,.int r5,.int r6,.int r7,.bool r8,.int r9,.int r10,.int r11,.int r12,.rows r13,.int s0,.int s1,.int s2,.int s3,.int s4,.int s5,.int s6,.int s7,.int s8,.int s9,.int s10,.int s11,.int s12,.int s13,.rows s14,.int s15,.rows s16,.rows s17,.bool s18,.rows s19,.bool s20,.int s21,.int s22,.int s23,.rows s24,.int s25,.int s26,.int s27]=some (BT (LP (⟨r0,r1,r2,r3,r4,r5,r6,r7,r8,r9,r10,r11,r12,r13⟩:Rul) (⟨s0,s1,s2,s3,s4,s5,s6,s7,s8,s9,s10,s11,s12,s13,s14,s15,s16,s17,s18,s19,s20,s21,s22,s23,s24,s25,s26,s27⟩:Inn))):=by
 show Ih (std (F7 N) N) (xOf _)=_
 generalize hres:(some (BT (LP (⟨r0,r1,r2,r3,r4,r5,r6,r7,r8,r9,r10,r11,r12,r13⟩:Rul) (⟨s0,s1,s2,s3,s4,s5,s6,s7,s8,s9,s10,s11,s12,s13,s14,s15,s16,s17,s18,s19,s20,s21,s22,s23,s24,s25,s26,s27⟩:Inn))):Option (List PV))=RR
 simp only [Ih,Oo,Pt,std,xOf,PXb,PXc,PXn,PXm,Nat.reduceAdd,Int.reduceBEq,SU h,DE hN hs]
 subst hres;simp only [LP]
 cases (!(BK (⟨r0,r1,r2,r3,r4,r5,r6,r7,r8,r9,r10,r11,r12,r13⟩:Rul)==0)||r9==0||iLt s21 (IntKind.i64.wrap (r9 * r4)))<;>rfl
end Go.Px
end
section
namespace Go.Px
set_option maxRecDepth 100000
def fj (r:Rul) (over:Int):Int :=
 match BH (fun i=>cond (iLe (atI r.power i 0) (inc over)&&iLe (inc over) (atI r.power i 1)) (some [.int (atI r.power i 2)]) none) r.power.length 0 with
 | some x=>pvI (AA x 0)
 | none=>r.outside
theorem Zs {N:Nat} {r1 r2 r3 r4 r5 r6 r7 r9 r10 r11 r12:Int} {r8:Bool} {r0:ByteArray} {r13:Rows} {o:Int} (hN:2097152<N) (h13:r13.length≤1048576):Fh N [.str r0,.int r1,.int r2,.int r3,.int r4,.int r5,.int r6,.int r7,.bool r8,.int r9,.int r10,.int r11,.int r12,.rows r13,.int o]=some [.int (fj (⟨r0,r1,r2,r3,r4,r5,r6,r7,r8,r9,r10,r11,r12,r13⟩:Rul) o)]:=by
 show IP (std (Pk N) N) (xOf _)=_
 simp only [IP,std,xOf,PXb,PXc,PXn,AH]
 refine Ab (Cf (len:=r13.length) (fun i=>cond (iLe (atI r13 i 0) (inc o)&&iLe (inc o) (atI r13 i 1)) (some [.int (atI r13 i 2)]) none) ?_ ?_ r13.length 0 N (by omega) (by omega)) ?_
 ·intro self
  simp only [PXb,PXc,PXn,AH,BC]
 ·intro i self hi
  simp only [PXb,PXc,PXn,AH,A6 (show i≤1099511627776 by omega),Ay hi,AR hi]
  cases hq:iLe (atI r13 i 0) (inc o)&&iLe (inc o) (atI r13 i 1)<;>unfold inc atI at hq<;>rw [hq]<;>rfl
 ·unfold fj
  cases BH (fun i=>cond (iLe (atI r13 i 0) (inc o)&&iLe (inc o) (atI r13 i 1)) (some [.int (atI r13 i 2)]) none) r13.length 0<;>rfl
def Nv (s:Inn) (p:Int):Inn×Int :=
 cond (!inR p s.subs.length) (s,3) (cond (HL s p) (s,18) (cond (p==s.bowler||p==s.keeper) (s,17) ({ s with keeper:=p },0)))
theorem cA {N:Nat} {s0 s1 s2 s3 s4 s5 s6 s7 s8 s9 s10 s11 s12 s13 s15 s21 s22 s23 s25 s26 s27:Int} {s18 s20:Bool} {s14 s16 s17 s19 s24:Rows} {p:Int} (h:Fit s14 s16 s17 s19 s24):Gy N [.int s0,.int s1,.int s2,.int s3,.int s4,.int s5,.int s6,.int s7,.int s8,.int s9,.int s10,.int s11,.int s12,.int s13,.rows s14,.int s15,.rows s16,.rows s17,.bool s18,.rows s19,.bool s20,.int s21,.int s22,.int s23,.rows s24,.int s25,.int s26,.int s27,.int p]=some (BT (Nv (⟨s0,s1,s2,s3,s4,s5,s6,s7,s8,s9,s10,s11,s12,s13,s14,s15,s16,s17,s18,s19,s20,s21,s22,s23,s24,s25,s26,s27⟩:Inn) p)):=by
 show Jy (std (En N) N) (xOf _)=_
 generalize hres:(some (BT (Nv (⟨s0,s1,s2,s3,s4,s5,s6,s7,s8,s9,s10,s11,s12,s13,s14,s15,s16,s17,s18,s19,s20,s21,s22,s23,s24,s25,s26,s27⟩:Inn) p)):Option (List PV))=RR
 simp only [Jy,QV,O1,M1,std,xOf,PXb,PXc,PXn,PXm,Nat.reduceAdd,Int.reduceBEq,Si h,Hi,HA h.sb]
 subst hres;simp only [Nv]
 cases inR p s24.length<;>cases HL (⟨s0,s1,s2,s3,s4,s5,s6,s7,s8,s9,s10,s11,s12,s13,s14,s15,s16,s17,s18,s19,s20,s21,s22,s23,s24,s25,s26,s27⟩:Inn) p<;>cases p==s15<;>cases p==s22<;>rfl
def Q5 (s:Inn) (p:Int) (on:Bool):Inn×Int :=
  cond (!inR p s.subs.length) (s,3) (cond (HL s p==on) (s,18)
    ({ s with subs:=oJ s.subs p on,keeper:=cond (on&&s.keeper==p) 0 s.keeper,bowler:=cond (on&&s.bowler==p) 0 s.bowler },0))
theorem WG {N:Nat} {s0 s1 s2 s3 s4 s5 s6 s7 s8 s9 s10 s11 s12 s13 s15 s21 s22 s23 s25 s26 s27:Int} {s18 s20:Bool} {s14 s16 s17 s19 s24:Rows} {p:Int} {b:Bool} (h:Fit s14 s16 s17 s19 s24):Dp N [.int s0,.int s1,.int s2,.int s3,.int s4,.int s5,.int s6,.int s7,.int s8,.int s9,.int s10,.int s11,.int s12,.int s13,.rows s14,.int s15,.rows s16,.rows s17,.bool s18,.rows s19,.bool s20,.int s21,.int s22,.int s23,.rows s24,.int s25,.int s26,.int s27,.int p,.bool b]=some (BT (Q5 (⟨s0,s1,s2,s3,s4,s5,s6,s7,s8,s9,s10,s11,s12,s13,s14,s15,s16,s17,s18,s19,s20,s21,s22,s23,s24,s25,s26,s27⟩:Inn) p b)):=by
 show Fu (std (C5 N) N) (xOf _)=_
 generalize hres:(some (BT (Q5 (⟨s0,s1,s2,s3,s4,s5,s6,s7,s8,s9,s10,s11,s12,s13,s14,s15,s16,s17,s18,s19,s20,s21,s22,s23,s24,s25,s26,s27⟩:Inn) p b)):Option (List PV))=RR
 simp only [Fu,Nw,MA,KN,std,xOf,PXb,PXc,PXn,PXm,Nat.reduceAdd,Int.reduceBEq,Si h,Hi,HA h.sb]
 subst hres;simp only [Q5]
 cases hp:inR p s24.length<;>try rfl
 rw [Kv hp h.sb]
 cases HL (⟨s0,s1,s2,s3,s4,s5,s6,s7,s8,s9,s10,s11,s12,s13,s14,s15,s16,s17,s18,s19,s20,s21,s22,s23,s24,s25,s26,s27⟩:Inn) p==b<;>cases b<;>cases s22==p<;>cases s15==p<;>rfl
def LR (s:Inn) (n:Int):Inn×Int :=
 cond (iLt n 0||iLt (IntKind.i64.wrap ((s.subs.length:Int) - 2)) n) (s,16) ({ s with outside:=n },0)
theorem Zn {N:Nat} {s0 s1 s2 s3 s4 s5 s6 s7 s8 s9 s10 s11 s12 s13 s15 s21 s22 s23 s25 s26 s27:Int} {s18 s20:Bool} {s14 s16 s17 s19 s24:Rows} {n:Int} (h:Fit s14 s16 s17 s19 s24):Fn N [.int s0,.int s1,.int s2,.int s3,.int s4,.int s5,.int s6,.int s7,.int s8,.int s9,.int s10,.int s11,.int s12,.int s13,.rows s14,.int s15,.rows s16,.rows s17,.bool s18,.rows s19,.bool s20,.int s21,.int s22,.int s23,.rows s24,.int s25,.int s26,.int s27,.int n]=some (BT (LR (⟨s0,s1,s2,s3,s4,s5,s6,s7,s8,s9,s10,s11,s12,s13,s14,s15,s16,s17,s18,s19,s20,s21,s22,s23,s24,s25,s26,s27⟩:Inn) n)):=by
 show IX (std (J9 N) N) (xOf _)=_
 generalize hres:(some (BT (LR (⟨s0,s1,s2,s3,s4,s5,s6,s7,s8,s9,s10,s11,s12,s13,s14,s15,s16,s17,s18,s19,s20,s21,s22,s23,s24,s25,s26,s27⟩:Inn) n)):Option (List PV))=RR
 simp only [IX,P0,std,xOf,PXb,PXc,PXn,PXm,Nat.reduceAdd,Int.reduceBEq,Si h]
 subst hres;simp only [LR]
 cases (iLt n 0||iLt (IntKind.i64.wrap ((s24.length:Int) - 2)) n)<;>rfl
def Qg (r:Rul) (s:Inn):Int :=
 cond (!inR s.keeper s.subs.length||HL s s.keeper||s.keeper==s.bowler) 17 (cond (iLt (fj r s.complete) s.outside) 16 0)
theorem eK {N:Nat} {r1 r2 r3 r4 r5 r6 r7 r9 r10 r11 r12:Int} {r8:Bool} {r0:ByteArray} {r13:Rows} {s0 s1 s2 s3 s4 s5 s6 s7 s8 s9 s10 s11 s12 s13 s15 s21 s22 s23 s25 s26 s27:Int} {s18 s20:Bool} {s14 s16 s17 s19 s24:Rows} (h:Fit s14 s16 s17 s19 s24) (hN:2097152<N) (h13:r13.length≤1048576):Hg N [.str r0,.int r1,.int r2,.int r3,.int r4,.int r5,.int r6,.int r7,.bool r8,.int r9,.int r10,.int r11,.int r12,.rows r13,.int s0,.int s1,.int s2,.int s3,.int s4,.int s5,.int s6,.int s7,.int s8,.int s9,.int s10,.int s11,.int s12,.int s13,.rows s14,.int s15,.rows s16,.rows s17,.bool s18,.rows s19,.bool s20,.int s21,.int s22,.int s23,.rows s24,.int s25,.int s26,.int s27]=some [.int (Qg (⟨r0,r1,r2,r3,r4,r5,r6,r7,r8,r9,r10,r11,r12,r13⟩:Rul) (⟨s0,s1,s2,s3,s4,s5,s6,s7,s8,s9,s10,s11,s12,s13,s14,s15,s16,s17,s18,s19,s20,s21,s22,s23,s24,s25,s26,s27⟩:Inn))]:=by
 show K6 (std (FT N) N) (xOf _)=_
 generalize hres:(some [.int (Qg (⟨r0,r1,r2,r3,r4,r5,r6,r7,r8,r9,r10,r11,r12,r13⟩:Rul) (⟨s0,s1,s2,s3,s4,s5,s6,s7,s8,s9,s10,s11,s12,s13,s14,s15,s16,s17,s18,s19,s20,s21,s22,s23,s24,s25,s26,s27⟩:Inn))]:Option (List PV))=RR
 simp only [K6,Pq,NN,OU,std,xOf,PXb,PXc,PXn,PXm,Nat.reduceAdd,Int.reduceBEq,Hi,HA h.sb,Zs hN h13]
 subst hres;simp only [Qg]
 cases inR s22 s24.length<;>cases HL (⟨s0,s1,s2,s3,s4,s5,s6,s7,s8,s9,s10,s11,s12,s13,s14,s15,s16,s17,s18,s19,s20,s21,s22,s23,s24,s25,s26,s27⟩:Inn) s22<;>cases s22==s15<;>rfl
def RI (s:Inn) (d:Del):Int :=
  cond (iLt 0 d.fielder && !inR d.fielder s.subs.length) 3 (cond (iLt 0 d.fielder && !(d.sub==HL s d.fielder)) 18
    (cond (iLt 0 d.second && !inR d.second s.subs.length) 3 (cond (iLt 0 d.second&&HL s d.second) 18
      (cond (d.how==4 && !(kW d.fielder==s.keeper)) 17 0))))
theorem eG {N:Nat} {s0 s1 s2 s3 s4 s5 s6 s7 s8 s9 s10 s11 s12 s13 s15 s21 s22 s23 s25 s26 s27:Int} {s18 s20:Bool} {s14 s16 s17 s19 s24:Rows} {d0 d1 d2 d3 d4 d6 d7 d8 d9 d11:Int} {d5 d10:Bool} (h:Fit s14 s16 s17 s19 s24):Hb N [.int s0,.int s1,.int s2,.int s3,.int s4,.int s5,.int s6,.int s7,.int s8,.int s9,.int s10,.int s11,.int s12,.int s13,.rows s14,.int s15,.rows s16,.rows s17,.bool s18,.rows s19,.bool s20,.int s21,.int s22,.int s23,.rows s24,.int s25,.int s26,.int s27,.int d0,.int d1,.int d2,.int d3,.int d4,.bool d5,.int d6,.int d7,.int d8,.int d9,.bool d10,.int d11]=some [.int (RI (⟨s0,s1,s2,s3,s4,s5,s6,s7,s8,s9,s10,s11,s12,s13,s14,s15,s16,s17,s18,s19,s20,s21,s22,s23,s24,s25,s26,s27⟩:Inn) (⟨d0,d1,d2,d3,d4,d5,d6,d7,d8,d9,d10,d11⟩:Del))]:=by
 show Ke (std (Ie N) N) (xOf _)=_
 generalize hres:(some [.int (RI (⟨s0,s1,s2,s3,s4,s5,s6,s7,s8,s9,s10,s11,s12,s13,s14,s15,s16,s17,s18,s19,s20,s21,s22,s23,s24,s25,s26,s27⟩:Inn) (⟨d0,d1,d2,d3,d4,d5,d6,d7,d8,d9,d10,d11⟩:Del))]:Option (List PV))=RR
 simp only [Ke,P9,Nq,std,xOf,PXb,PXc,PXn,PXm,Nat.reduceAdd,Int.reduceBEq,Hi,HA h.sb]
 subst hres;simp only [RI,kW,rR]
 cases iLt 0 d8<;>cases iLt 0 d9<;>cases inR d8 s24.length<;>cases inR d9 s24.length<;>cases d10==HL (⟨s0,s1,s2,s3,s4,s5,s6,s7,s8,s9,s10,s11,s12,s13,s14,s15,s16,s17,s18,s19,s20,s21,s22,s23,s24,s25,s26,s27⟩:Inn) d8<;>cases HL (⟨s0,s1,s2,s3,s4,s5,s6,s7,s8,s9,s10,s11,s12,s13,s14,s15,s16,s17,s18,s19,s20,s21,s22,s23,s24,s25,s26,s27⟩:Inn) d9<;>rfl
end Go.Px
end
section
namespace Go.Px
set_option maxRecDepth 100000
structure Cre where
 batter:Int
 wides:Int
 noballs:Int
 byes:Int
 legbyes:Int
 bowler:Int
 counts:Bool
 faced:Bool
 wicket:Bool
 swap:Bool
def Cre.ls (c:Cre):List PV:=[.int c.batter,.int c.wides,.int c.noballs,.int c.byes,.int c.legbyes,.int c.bowler,.bool c.counts,.bool c.faced,.bool c.wicket,.bool c.swap]
def WL (d:Del):Bool :=
  cond (d.type==2) (d.source==0 && !(d.boundary==6)) (cond (d.source==0) (d.runs==0&&d.boundary==0)
    (cond (d.boundary==0) (iLt 0 d.runs) (cond (d.boundary==6) (d.source==1&&d.runs==0) true)))
def DM (d:Del):Int :=
  cond (iLt d.type 1||iLt 3 d.type||iLt 3 d.source||iLt 10 d.how || !btw d.sector 0 8) 11
    (cond (!btw d.runs 0 7 || !btw d.short 0 d.runs||(!(d.boundary==0) && !(d.boundary==4) && !(d.boundary==6))) 12
      (cond (!WL d) 11 (cond (!(d.sector==0) && !(d.source==1) && !(d.how==2)) 11 (cond (!(d.boundary==0) && !(d.how==0)) 11
        (cond (d.crossed && !(d.how==6) && !(d.how==8)) 11 0)))))
def KP (d:Del):Bool :=
  cond (d.type==2) (d.source==0 && !(d.boundary==6)) (cond (d.source==0) (d.runs==0&&d.boundary==0)
    (cond (d.source==1) (!(d.boundary==6)||d.runs==0) (!(d.boundary==6)&&(iLt 0 d.runs || !(d.boundary==0)))))
theorem Vf {N:Nat} {d0 d1 d2 d3 d4 d6 d7 d8 d9 d11:Int} {d5 d10:Bool}  : DJ N [.int d0,.int d1,.int d2,.int d3,.int d4,.bool d5,.int d6,.int d7,.int d8,.int d9,.bool d10,.int d11]=some [.bool (KP (⟨d0,d1,d2,d3,d4,d5,d6,d7,d8,d9,d10,d11⟩:Del))]:=by
 show E5 (std (Lq N) N) (xOf _)=_
 generalize hres:(some [.bool (KP (⟨d0,d1,d2,d3,d4,d5,d6,d7,d8,d9,d10,d11⟩:Del))]:Option (List PV))=RR
 simp only [E5,std,xOf,PXb,PXc,PXn,PXm,Nat.reduceAdd,Int.reduceBEq]
 subst hres;simp only [KP]
theorem se (x a b:Int):(!btw x a b)=(iLt x a||iLt b x):=by
 unfold btw iLe iLt
 rw [Bool.eq_iff_iff]
 simp only [Bool.not_eq_true',Bool.and_eq_false_iff,decide_eq_false_iff_not,Bool.or_eq_true,decide_eq_true_eq]
 omega
theorem qQ {d:Del} (h:0≤d.runs):(!KP d || !d.type==2&&d.source==1&&d.runs==0&&d.boundary==0) = !WL d:=by
 unfold KP WL
 rw [qL h]
 cases h1:d.source==0 with
 | true =>
  rw [cg h1 (c:=1) rfl]
  cases d.type==2<;>cases d.runs==0<;>cases d.boundary==0<;>cases d.boundary==6<;>rfl
 | false =>
  cases h2:d.boundary==0 with
  | true =>
   rw [cg h2 (c:=6) rfl]
   cases d.type==2<;>cases d.source==1<;>cases d.runs==0<;>rfl
  | false=>cases d.type==2<;>cases d.source==1<;>cases d.runs==0<;>cases d.boundary==6<;>rfl
theorem Qj {N:Nat} {d0 d1 d2 d3 d4 d6 d7 d8 d9 d11:Int} {d5 d10:Bool}  : CP N [.int d0,.int d1,.int d2,.int d3,.int d4,.bool d5,.int d6,.int d7,.int d8,.int d9,.bool d10,.int d11]=some [.int (DM (⟨d0,d1,d2,d3,d4,d5,d6,d7,d8,d9,d10,d11⟩:Del))]:=by
 show HI (std (Ip N) N) (xOf _)=_
 generalize hres:(some [.int (DM (⟨d0,d1,d2,d3,d4,d5,d6,d7,d8,d9,d10,d11⟩:Del))]:Option (List PV))=RR
 simp only [HI,J2,std,xOf,PXb,PXc,PXn,PXm,Nat.reduceAdd,Int.reduceBEq,Vf]
 subst hres;simp only [DM,se,Bool.or_assoc]
 cases h2:(iLt d2 0||(iLt 7 d2||(iLt d3 0||(iLt d2 d3 || !d4==0 && !d4==4 && !d4==6)))) with
 | true=>rfl
 | false =>
  have h3:0≤d2:=by
   rw [Bool.or_eq_false_iff] at h2
   have:=h2.1
   simp only [iLt,decide_eq_false_iff_not] at this
   omega
  have:=qQ (d:=(⟨d0,d1,d2,d3,d4,d5,d6,d7,d8,d9,d10,d11⟩:Del)) h3
  simp only at this
  rw [this]
theorem Qt {N:Nat} {a:Int} {b:Int} {c:Int} {d:Int} {e:Int} {x:Int} {p:Bool} {q:Bool} {u:Bool} {v:Bool}  : CR N [.int a,.int b,.int c,.int d,.int e,.int x,.bool p,.bool q,.bool u,.bool v]=some [.int (IntKind.i64.wrap (IntKind.i64.wrap (IntKind.i64.wrap (IntKind.i64.wrap (a+b)+c)+d)+e))]:=by
 rfl
def DK (c:Cre):Int:=IntKind.i64.wrap (IntKind.i64.wrap (IntKind.i64.wrap (IntKind.i64.wrap (c.batter+c.wides)+c.noballs)+c.byes)+c.legbyes)
def Tp (h:Int):Bool:=iLe 1 h&&iLe h 5
theorem VT {N:Nat} {h:Int}  : DS N [.int h]=some [.bool (Tp h)]:=by
 show FA (std (Le N) N) (xOf _)=_
 simp only [FA,std,xOf,PXb,PXc,PXn,PXm,Nat.reduceAdd,Int.reduceBEq,Tp]
def Kg (r:Rul) (d:Del):Cre :=
  let n:=IntKind.i64.wrap (IntKind.i64.wrap (d.runs - d.short)+d.boundary)
  let b:=cond (!(d.type==2)&&d.source==1) n 0
  let w:=cond (d.type==2) (IntKind.i64.wrap (r.wide+n)) 0
  let o:=cond (d.type==3) r.noball 0
  { batter:=b,wides:=w,noballs:=o,byes:=cond (!(d.type==2)&&d.source==2) n 0,legbyes:=cond (!(d.type==2)&&d.source==3) n 0,bowler:=IntKind.i64.wrap (IntKind.i64.wrap (b+w)+o),
    counts:=d.type==1,faced := !(d.type==2),wicket:=Tp d.how,swap := !((!(d.runs.tmod 2==0))==d.crossed) }
def AD (r:Rul) (d:Del):Cre:=cond (!(DM d==0)) ⟨0,0,0,0,0,0,false,false,false,false⟩ (Kg r d)
theorem kg {d:Del} (h:(DM d==0)=true):0≤d.runs∧d.runs≤7:=by
 unfold DM at h
 cases h1:(iLt d.type 1||iLt 3 d.type||iLt 3 d.source||iLt 10 d.how || !btw d.sector 0 8) with
 | true=>rw [h1] at h;cases h
 | false =>
  cases h2:(!btw d.runs 0 7 || !btw d.short 0 d.runs||(!(d.boundary==0) && !(d.boundary==4) && !(d.boundary==6))) with
  | true=>rw [h1,h2] at h;cases h
  | false =>
   rw [Bool.or_eq_false_iff,Bool.or_eq_false_iff] at h2
   have:=h2.1.1
   simp only [btw,iLe,Bool.not_eq_false',Bool.and_eq_true,decide_eq_true_eq] at this
   exact this
theorem pM {n:Int} (h:0≤n∧n≤7) (b:Bool):((cond b (IntKind.i64.wrap (n+1)) n).tmod 2==1) = !((!(n.tmod 2==0))==b):=by
 obtain ⟨k,rfl⟩:∃ k:Nat,n=k:=⟨n.toNat,by omega⟩
 have:k=0∨k=1∨k=2∨k=3∨k=4∨k=5∨k=6∨k=7:=by omega
 rcases this with h | h | h | h | h | h | h | h<;>subst h<;>cases b<;>rfl
theorem GB {N:Nat} {r1 r2 r3 r4 r5 r6 r7 r9 r10 r11 r12:Int} {r8:Bool} {r0:ByteArray} {r13:Rows} {d0 d1 d2 d3 d4 d6 d7 d8 d9 d11:Int} {d5 d10:Bool}  : A0 N [.str r0,.int r1,.int r2,.int r3,.int r4,.int r5,.int r6,.int r7,.bool r8,.int r9,.int r10,.int r11,.int r12,.rows r13,.int d0,.int d1,.int d2,.int d3,.int d4,.bool d5,.int d6,.int d7,.int d8,.int d9,.bool d10,.int d11]=some (AD (⟨r0,r1,r2,r3,r4,r5,r6,r7,r8,r9,r10,r11,r12,r13⟩:Rul) (⟨d0,d1,d2,d3,d4,d5,d6,d7,d8,d9,d10,d11⟩:Del)).ls:=by
 show F8 (std (E9 N) N) (xOf _)=_
 generalize hres:(some (AD (⟨r0,r1,r2,r3,r4,r5,r6,r7,r8,r9,r10,r11,r12,r13⟩:Rul) (⟨d0,d1,d2,d3,d4,d5,d6,d7,d8,d9,d10,d11⟩:Del)).ls:Option (List PV))=RR
 simp only [F8,LM,Ju,std,xOf,PXb,PXc,PXn,PXm,Nat.reduceAdd,Int.reduceBEq,Qj,VT]
 subst hres;simp only [AD,Kg]
 cases hl:DM (⟨d0,d1,d2,d3,d4,d5,d6,d7,d8,d9,d10,d11⟩:Del)==0 with
 | false=>rfl
 | true =>
  have hs:=pM (kg hl) d5
  simp only at hs
  simp only [PXb,PXc,PXn,PXm,Nat.reduceAdd,Int.reduceBEq,hs]
  cases h0:d0==2<;>cases h3:d0==3<;>cases h1:d1==1<;>cases h2:d1==2<;>cases h4:d1==3<;>first
   | rfl
   | (rw [cg h0 (c:=3) rfl] at h3;exact absurd h3 (by decide))
   | (rw [cg h1 (c:=2) rfl] at h2;exact absurd h2 (by decide))
   | (rw [cg h1 (c:=3) rfl] at h4;exact absurd h4 (by decide))
   | (rw [cg h2 (c:=3) rfl] at h4;exact absurd h4 (by decide))
end Go.Px
end
section
namespace Go.Px
set_option maxRecDepth 100000
def onS (h t:Int):Bool :=
 cond (h==1||h==2||h==3) (t==1) (cond (h==4||h==5) (t==1||t==2) (cond (h==7) (t==1||t==3) (cond (h==6||h==8) (t==1||t==2||t==3) false)))
def ei (h:Int):Bool:=h==6||h==7||h==8
def NS (h:Int):Bool:=h==6||h==8
def Zb (h:Int):Bool:=h==2||h==4||h==6
def P8 (d:Del) (free:Bool):Int :=
  cond (d.how==0) (cond (!(d.victim==0)) 14 (cond (!(d.fielder==0) || !(d.second==0)||d.sub) 15 0))
    (cond (!onS d.how d.type||free && !ei d.how) 13 (cond (!NS d.how&&(!(d.source==0) || !(d.runs==0))) 12
      (cond (!(d.victim==1) && !(d.victim==2&&NS d.how)) 14
        (cond (Zb d.how && !btw d.fielder 1 11 || !Zb d.how && !(d.fielder==0)) 15
          (cond (!(d.second==0)&&(!(d.how==6) || !btw d.second 1 11||d.second==d.fielder)) 15
            (cond (d.sub && !(d.how==2) && !(d.how==6)) 18 0))))))
def Bz:Rows:=match Bk 0 [] with
 | some [.rows l]=>l
 | _=>[]
theorem Pi {N:Nat}:Bk N []=some [.rows Bz]:=rfl
theorem Yq:Bz.length=11:=rfl
theorem Vj {N:Nat} {h:Int} {n:ByteArray} {b:Bool} {c:Bool} {d:Bool} {e:Bool} {x:Bool} {t:Int}  : Dg N [.int h,.str n,.bool b,.bool c,.bool d,.bool e,.bool x,.int t]=some [.bool (t==1&&b||t==2&&c||t==3&&d)]:=by
 show FW (std (L2 N) N) (xOf _)=_
 simp only [FW,std,xOf,PXb,PXc,PXn,PXm,Nat.reduceAdd,Int.reduceBEq]
theorem SX {N:Nat} {n:Int}  : Cj N [.int n]=some [.bool (btw n 1 11)]:=by
 show DZ (std (JI N) N) (xOf _)=_
 simp only [DZ,std,xOf,PXb,PXc,PXn,PXm,Nat.reduceAdd,Int.reduceBEq]
 rfl
def lL (i j:Nat):Bool:=pvB (AF Bz i j)
def wOk (t:Int) (free:Bool) (i:Nat):Bool :=
  (t==1&&lL i 2||t==2&&lL i 3||t==3&&lL i 4)&&(!free||atI Bz i 0==6||atI Bz i 0==7||atI Bz i 0==8)
def G8 (t:Int) (free:Bool):Nat→Rows
 | 0=>[]
 | i+1=>cond (wOk t free i) (G8 t free i++[[.int (atI Bz i 0)]]) (G8 t free i)
theorem Yo (t:Int) (free:Bool):∀ i,(G8 t free i).length≤i
 | 0=>Nat.le_refl _
 | i+1=>by
  have:=Yo t free i
  unfold G8
  cases wOk t free i
  ·exact Nat.le_succ_of_le this
  ·simp;exact this
theorem YY {N:Nat} {t:Int} {f:Bool} (hN:2097152<N):Eh N [.int t,.bool f]=some [.rows (G8 t f 11)]:=by
 show HR (std (FU N) N) (xOf _)=_
 simp only [HR,LA,Kc,std,xOf,PXb,PXc,PXn,AH,Pi,Vj]
 refine Ab (Cb (len:=Bz.length) (fun i=>[.rows (G8 t f i),.int (i:Int)]) [.rows (G8 t f 11)] ?_ ?_ N (by rw [Yq];omega)) rfl
 ·intro self
  simp only [PXb,PXc,PXn,AH,BC]
  rfl
 ·intro i self hi
  have hi2:i<11:=hi
  have h2:(G8 t f i++[[PV.int (atI Bz i 0)]]).length≤4194304:=by have:=Yo t f i;simp;omega
  simp only [PXb,PXc,AH,A6 (show i≤1099511627776 by omega),Ay hi,AR hi,CT,G8,GE h2 (show 1≤4096 by omega)]
  unfold wOk lL
  cases ((t==1&&pvB (AF Bz i 2)||t==2&&pvB (AF Bz i 3)||t==3&&pvB (AF Bz i 4))&&(!f||atI Bz i 0==6||atI Bz i 0==7||atI Bz i 0==8))<;>rfl
theorem Wt {N:Nat} {L:Rows} {v:Int} (hN:L.length<N) (hl:L.length≤1048576):De N [.rows L,.int v]=some [.int (PC (fun j=>v==atI L j 0) L.length)]:=by
 show Ff (std (Md N) N) (xOf _)=_
 simp only [Ff,std,xOf,PXb,PXc,PXn,AH]
 refine Ab (Cf (len:=L.length) (F0 fun j=>v==atI L j 0) ?_ ?_ L.length 0 N (by omega) (by omega)) ?_
 ·intro self
  simp only [PXb,PXc,PXn,AH,BC]
 ·intro i self hi
  simp only [PXb,PXc,PXn,AH,A6 (show i≤1099511627776 by omega),Ay hi,AR hi,F0,CT]
  cases v==atI L i 0<;>rfl
 ·unfold PC
  cases BH (F0 fun j=>v==atI L j 0) L.length 0<;>rfl
theorem TL {N:Nat} {L:Rows} {v:Int} (hN:L.length<N) (hl:L.length≤1048576):Cx N [.rows L,.int v]=some [.bool (J3 L L.length v)]:=by
 show D1 (std (FH N) N) (xOf _)=_
 simp only [D1,H9,std,xOf,PXb,PXc,PXn,AH,Wt hN hl,Jr,J3]
theorem ni (L:Rows) (v:Int):J3 L L.length v=J6 (fun x=>v==x) L:=rfl
theorem ql (p:Int→Bool) (b:Bool) (L:Rows) (x:Int):J6 p (cond b (L++[[.int x]]) L)=(J6 p L||(b&&p x)):=by
 cases b with
 | false=>simp
 | true=>rw [cond_true,gk,Bool.true_and];congr 1;rw [NW];simp [AA,pvI]
theorem f9 (t:Int) (free:Bool) (p:Int→Bool):∀ i,J6 p (G8 t free i)=Bn (fun j=>wOk t free j&&p (atI Bz j 0)) i 0
 | 0=>rfl
 | i+1=>by rw [Ws,← f9 t free p i,G8,ql,Nat.zero_add]
theorem oQ (t h:Int) (free:Bool):J3 (G8 t free 11) (G8 t free 11).length h=(onS h t&&(!free||ei h)):=by
 rw [ni,f9]
 have key:∀ j,j<11→atI Bz j 0=j:=by
  intro j hj
  have:j=0∨j=1∨j=2∨j=3∨j=4∨j=5∨j=6∨j=7∨j=8∨j=9∨j=10:=by omega
  rcases this with h | h | h | h | h | h | h | h | h | h | h<;>subst h<;>rfl
 by_cases hr:0≤h∧h≤10
 ·obtain ⟨k,rfl⟩:∃ k:Nat,h=k:=⟨h.toNat,by omega⟩
  have:k=0∨k=1∨k=2∨k=3∨k=4∨k=5∨k=6∨k=7∨k=8∨k=9∨k=10:=by omega
  rcases this with h | h | h | h | h | h | h | h | h | h | h<;>subst h<;>simp only [CC,JG,wOk,onS]<;>cases free<;>cases t==1<;>cases t==2<;>cases t==3<;>rfl
 ·rw [Jd.2 fun j _ hj=>by
   rw [key j (by omega),show (h==(j:Int))=false from beq_false_of_ne (by omega),Bool.and_false]]
  have e:∀ n:Int,0≤n→n≤10→(h==n)=false:=fun n h0 h1=>beq_false_of_ne (by omega)
  unfold onS
  rw [e 1 (by omega) (by omega),e 2 (by omega) (by omega),e 3 (by omega) (by omega),e 4 (by omega) (by omega),e 5 (by omega) (by omega),e 6 (by omega) (by omega),e 7 (by omega) (by omega),e 8 (by omega) (by omega)]
  rfl
def UD (h:Int):List PV:=match BH (fun i=>cond (atI Bz i 0==h) (some [.int (pvI (AF Bz i 0)),.str (pvS (AF Bz i 1)),.bool (pvB (AF Bz i 2)),.bool (pvB (AF Bz i 3)),.bool (pvB (AF Bz i 4)),.bool (pvB (AF Bz i 5)),.bool (pvB (AF Bz i 6))]) none) 11 0 with
 | some r=>r
 | none=>[.int 0,.str ⟨#[]⟩,.bool false,.bool false,.bool false,.bool false,.bool false]
theorem P5 {ans:Nat→Option (List PV)} {r:List PV}:∀ (k i:Nat),BH ans k i=some r→∃ j,i≤j∧j<i+k∧ans j=some r
 | 0,i,h=>by cases h
 | k+1,i,h=>by
  simp only [BH] at h
  cases ha:ans i with
  | some x=>rw [ha] at h;cases h;exact ⟨i,Nat.le_refl _,by omega,ha⟩
  | none =>
   rw [ha] at h
   obtain ⟨j,h1,h2,h3⟩:=P5 k (i+1) h
   exact ⟨j,by omega,by omega,h3⟩
theorem oa (h:Int):∃ a b c d e f g,UD h=[.int a,.str b,.bool c,.bool d,.bool e,.bool f,.bool g]:=by
 unfold UD
 generalize hf:BH _ 11 0=o
 cases o with
 | none=>exact ⟨_,_,_,_,_,_,_,rfl⟩
 | some r =>
  obtain ⟨j,_,_,h3⟩:=P5 _ _ hf
  cases hb:atI Bz j 0==h with
  | false=>rw [hb] at h3;cases h3
  | true=>rw [hb] at h3;cases h3;exact ⟨_,_,_,_,_,_,_,rfl⟩
theorem bG {N:Nat} {h:Int} (hN:2097152<N):GU N [.int h]=some (UD h):=by
 show JR (std (LJ N) N) (xOf _)=_
 simp only [JR,MY,std,xOf,PXb,PXc,PXn,AH,Pi]
 refine Ab (Cf (len:=Bz.length) (fun i=>cond (atI Bz i 0==h) (some [.int (pvI (AF Bz i 0)),.str (pvS (AF Bz i 1)),.bool (pvB (AF Bz i 2)),.bool (pvB (AF Bz i 3)),.bool (pvB (AF Bz i 4)),.bool (pvB (AF Bz i 5)),.bool (pvB (AF Bz i 6))]) none) ?_ ?_ Bz.length 0 N (by omega) (by rw [Yq];omega)) ?_
 ·intro self
  simp only [PXb,PXc,PXn,AH,BC]
 ·intro i self hi
  have hi2:i<11:=hi
  simp only [PXb,PXc,PXn,AH,A6 (show i≤1099511627776 by omega),Ay hi,AR hi,CT]
  cases atI Bz i 0==h<;>rfl
 ·unfold UD
  rw [Yq]
  generalize hf:BH _ 11 0=o
  cases o with
  | none=>rfl
  | some r =>
   obtain ⟨j,_,_,h3⟩:=P5 _ _ hf
   cases hb:atI Bz j 0==h with
   | false=>rw [hb] at h3;cases h3
   | true=>rw [hb] at h3;cases h3;rfl
theorem mT (h:Int):pvB (AA (UD h) 5)=Zb h∧pvB (AA (UD h) 6)=NS h:=by
 by_cases hr:0≤h∧h≤10
 ·obtain ⟨k,rfl⟩:∃ k:Nat,h=k:=⟨h.toNat,by omega⟩
  have:k=0∨k=1∨k=2∨k=3∨k=4∨k=5∨k=6∨k=7∨k=8∨k=9∨k=10:=by omega
  rcases this with h | h | h | h | h | h | h | h | h | h | h<;>subst h<;>exact ⟨rfl,rfl⟩
 ·have e:∀ n:Int,0≤n→n≤10→(h==n)=false:=fun n h0 h1=>beq_false_of_ne (by omega)
  have key:∀ j,j<11→atI Bz j 0=j:=by
   intro j hj
   have:j=0∨j=1∨j=2∨j=3∨j=4∨j=5∨j=6∨j=7∨j=8∨j=9∨j=10:=by omega
   rcases this with h | h | h | h | h | h | h | h | h | h | h<;>subst h<;>rfl
  unfold UD
  generalize hf:BH _ 11 0=o
  cases o with
  | none =>
   unfold Zb NS
   rw [e 2 (by omega) (by omega),e 4 (by omega) (by omega),e 6 (by omega) (by omega),e 8 (by omega) (by omega)]
   exact ⟨rfl,rfl⟩
  | some r =>
   obtain ⟨j,_,hj,h3⟩:=P5 _ _ hf
   rw [key j (by omega),show ((j:Int)==h)=false from beq_false_of_ne (by omega)] at h3
   cases h3
def On (d:Del) (m:Bool):Bool :=
 !(!(m==btw d.fielder 1 11) || !m && !(d.fielder==0))&&(d.second==0||d.how==6&&btw d.second 1 11 && !(d.second==d.fielder))
theorem US {N:Nat} {d0 d1 d2 d3 d4 d6 d7 d8 d9 d11:Int} {d5 d10:Bool} {a:Int} {n:ByteArray} {b:Bool} {c:Bool} {e:Bool} {f:Bool} {g:Bool}  : C4 N [.int d0,.int d1,.int d2,.int d3,.int d4,.bool d5,.int d6,.int d7,.int d8,.int d9,.bool d10,.int d11,.int a,.str n,.bool b,.bool c,.bool e,.bool f,.bool g]=some [.bool (On (⟨d0,d1,d2,d3,d4,d5,d6,d7,d8,d9,d10,d11⟩:Del) f)]:=by
 show ER (std (F1 N) N) (xOf _)=_
 generalize hres:(some [.bool (On (⟨d0,d1,d2,d3,d4,d5,d6,d7,d8,d9,d10,d11⟩:Del) f)]:Option (List PV))=RR
 simp only [ER,Gz,std,xOf,PXb,PXc,PXn,PXm,Nat.reduceAdd,Int.reduceBEq,SX]
 subst hres;simp only [On]
 cases d9==0<;>cases d6==6<;>cases f<;>cases btw d8 1 11<;>cases d8==0<;>first | rfl | (cases btw d9 1 11<;>rfl)
theorem sI {α:Type} (a b:Bool) (x y:α):cond (a||b) x y=cond a x (cond b x y):=by cases a<;>rfl
theorem ii (d:Del) (m:Bool):(!On d m)=((m && !btw d.fielder 1 11 || !m && !(d.fielder==0))||(!(d.second==0)&&(!(d.how==6) || !btw d.second 1 11||d.second==d.fielder))):=by
 unfold On
 cases hb:btw d.fielder 1 11<;>cases hf:d.fielder==0
 ·cases m<;>cases d.second==0<;>cases d.how==6<;>cases btw d.second 1 11<;>cases d.second==d.fielder<;>rfl
 ·cases m<;>cases d.second==0<;>cases d.how==6<;>cases btw d.second 1 11<;>cases d.second==d.fielder<;>rfl
 ·cases m<;>cases d.second==0<;>cases d.how==6<;>cases btw d.second 1 11<;>cases d.second==d.fielder<;>rfl
 ·rw [beq_iff_eq.1 hf] at hb;exact absurd hb (by decide)
theorem UF {N:Nat} {d0 d1 d2 d3 d4 d6 d7 d8 d9 d11:Int} {d5 d10:Bool} {f:Bool} (hN:2097152<N):C2 N [.int d0,.int d1,.int d2,.int d3,.int d4,.bool d5,.int d6,.int d7,.int d8,.int d9,.bool d10,.int d11,.bool f]=some [.int (P8 (⟨d0,d1,d2,d3,d4,d5,d6,d7,d8,d9,d10,d11⟩:Del) f)]:=by
 show EV (std (B6 N) N) (xOf _)=_
 generalize hres:(some [.int (P8 (⟨d0,d1,d2,d3,d4,d5,d6,d7,d8,d9,d10,d11⟩:Del) f)]:Option (List PV))=RR
 have hl:=Yo d0 f 11
 obtain ⟨a,b,c,d,e,m,g,hline⟩:=oa d6
 have hbits:=mT d6
 rw [hline] at hbits
 have hm:m=Zb d6:=hbits.1
 have hg:g=NS d6:=hbits.2
 have h1:(G8 d0 f 11).length<N:=by omega
 have h2:(G8 d0 f 11).length≤1048576:=by omega
 simp only [EV,KZ,HY,Jm,Hl,std,xOf,PXb,PXc,PXn,PXm,Nat.reduceAdd,Int.reduceBEq,bG hN,hline,YY hN,TL h1 h2,oQ,US,ii]
 subst hres;simp only [P8,sI]
 rw [hm,hg]
 unfold NS
 cases d6==0<;>cases onS d6 d0<;>cases f<;>cases ei d6<;>try rfl
 all_goals (cases d6==6<;>cases d6==8<;>cases d7==2<;>rfl)
end Go.Px
end
section
namespace Go.Px
set_option maxRecDepth 100000
theorem Wv {N:Nat} {a:Int} {b:Int} {c:Int}  : Dj N [.int a,.int b,.int c]=some [.bool (btw a b c)]:=by
 show Iy (std (ME N) N) (xOf _)=_
 show some [PV.bool (cond (iLe b a) (iLe a c) false)]=_
 rw [Z9];rfl
theorem Z0 {N:Nat} {a:Int} {b:Int} {c:Int}  : Fa N [.int a,.int b,.int c]=some [.bool (btw a b c)]:=by
 show Mm (std (PO N) N) (xOf _)=_
 show some [PV.bool (cond (iLe b a) (iLe a c) false)]=_
 rw [Z9];rfl
def eh (d:Del):Int :=
  cond (iLt d.type 1||iLt 3 d.type||iLt 3 d.source||iLt 10 d.how) 3
    (cond (!btw d.runs 0 7 || !btw d.short 0 d.runs||(!(d.boundary==0) && !(d.boundary==4) && !(d.boundary==6)) || !btw d.victim 0 2 || !btw d.fielder 0 11 || !btw d.second 0 11 || !btw d.sector 0 8) 2 0)
theorem Yu {N:Nat} {d0 d1 d2 d3 d4 d6 d7 d8 d9 d11:Int} {d5 d10:Bool}  : Et N [.int d0,.int d1,.int d2,.int d3,.int d4,.bool d5,.int d6,.int d7,.int d8,.int d9,.bool d10,.int d11]=some [.int (eh (⟨d0,d1,d2,d3,d4,d5,d6,d7,d8,d9,d10,d11⟩:Del))]:=by
 show HH (std (Iw N) N) (xOf _)=_
 generalize hres:(some [.int (eh (⟨d0,d1,d2,d3,d4,d5,d6,d7,d8,d9,d10,d11⟩:Del))]:Option (List PV))=RR
 simp only [HH,KH,std,xOf,PXb,PXc,PXn,PXm,Nat.reduceAdd,Int.reduceBEq,Wv]
 subst hres;simp only [eh]
def loS (k:Int):Int:=cond (k==7) 0 (cond (k==13) 1 0)
def hiS (k:Int):Int:=cond (k==7) 11 (cond (k==13) 99 100000)
theorem bP {N:Nat} {k:Int}  : Gn N [.int k]=some [.int (loS k),.int (hiS k)]:=by
 show Js (std (Qc N) N) (xOf _)=_
 simp only [Js,std,xOf,PXb,PXc,PXn,PXm,Nat.reduceAdd,Int.reduceBEq]
 unfold loS hiS
 cases k==7<;>cases k==13<;>rfl
def uS (k:Int):Bool:=k==1||k==12||k==14||k==11||k==13
def uP (k:Int):Bool:=k==2||k==3||k==8||k==5||k==6||k==9
def uO (k:Int):Bool:=k==2
def uY (k:Int):Bool:=k==1||k==12||k==14||k==5||k==6||k==9
def uR (k:Int):Bool:=k==7||k==13||k==15
def uV (k:Int):Bool:=k==15
def uB (k:Int):Bool:=k==4
theorem bD {k:Int} (h:(iLt k 1||iLt 16 k)=false):k=1∨k=2∨k=3∨k=4∨k=5∨k=6∨k=7∨k=8∨k=9∨k=10∨k=11∨k=12∨k=13∨k=14∨k=15∨k=16:=by
 simp only [iLt,Bool.or_eq_false_iff,decide_eq_false_iff_not] at h
 omega
def kq:Rows:=match FJ 0 [] with
 | some [.rows l]=>l
 | _=>[]
theorem eC {N:Nat}:FJ N []=some [.rows kq]:=rfl
def DG (k f:Int):Bool:=iLe 0 (Lib.indexByte (pvS (AF kq (IntKind.u8.wrap (k - 1)).toNat 1)).data.toList f.toNat.toUInt8)||(k==5&&f==121)
theorem VU {N:Nat} {s:ByteArray} {f:Int}  : DN N [.str s,.int f]=some [.int (Lib.indexByte s.data.toList f.toNat.toUInt8)]:=by
 show E8 (std (Gu N) N) (xOf _)=_
 simp only [E8,G0,std,xOf,PXb,PXc,PXn,PXm,Nat.reduceAdd,Int.reduceBEq,CY,Zl]
theorem Wx {N:Nat} {k:Int} {f:Int} (h:(iLt k 1||iLt 16 k)=false):Iv N [.int k,.int f]=some [.bool (DG k f)]:=by
 show Mb (std (JX N) N) (xOf _)=_
 have hi:iIn (IntKind.u8.wrap (k - 1)) (kq.length:Int)=true:=by
  rcases bD h with h | h | h | h | h | h | h | h | h | h | h | h | h | h | h | h<;>subst h<;>rfl
 simp only [Mb,Ml,Q2,std,xOf,PXb,PXc,PXn,PXm,Nat.reduceAdd,Int.reduceBEq,eC,VU,hi,DG]
theorem rF {k:Int} (h:(iLt k 1||iLt 16 k)=false):DG k 115=uS k∧DG k 112=uP k∧DG k 111=uO k∧DG k 121=uY k∧DG k 114=uR k∧DG k 118=uV k∧DG k 98=uB k:=by
 rcases bD h with h | h | h | h | h | h | h | h | h | h | h | h | h | h | h | h<;>subst h<;>exact ⟨rfl,rfl,rfl,rfl,rfl,rfl,rfl⟩
def kX (d:Del):Bool:=d.type==0&&(d.source==0&&(d.runs==0&&(d.short==0&&(d.boundary==0&&(d.crossed==false&&(d.how==0&&(d.victim==0&&(d.fielder==0&&(d.second==0&&(d.sub==false&&d.sector==0))))))))))
def fU (e:Ev):Bool:=(!(e.side==0) && !uS e.kind)||((!(e.player==0) && !uP e.kind)||((!(e.other==0) && !uO e.kind)||((e.yes && !uY e.kind)||((!(e.runs==0) && !uR e.kind)||((!(e.overs==0) && !uV e.kind)||(!kX e.ball && !uB e.kind))))))
def YO (e:Ev):Bool:=(!btw e.side 1 2&&uS e.kind)||((!btw e.player 1 11&&uP e.kind)||((!btw e.other 1 11&&uO e.kind)||((!btw e.runs (loS e.kind) (hiS e.kind)&&uR e.kind)||(!btw e.overs 0 90&&uV e.kind))))
def evS (e:Ev):Int:=cond (iLt e.kind 1||iLt 16 e.kind) 3 (cond (fU e) 1 (cond (YO e) 2 (cond (e.kind==4) (eh e.ball) 0)))
def evT (e:Ev):Rows:=[[.int 115,.bool (e.side==0),.bool (btw e.side 1 2)],[.int 112,.bool (e.player==0),.bool (btw e.player 1 11)],[.int 111,.bool (e.other==0),.bool (btw e.other 1 11)],[.int 121,.bool (!e.yes),.bool true],[.int 114,.bool (e.runs==0),.bool (btw e.runs (loS e.kind) (hiS e.kind))],[.int 118,.bool (e.overs==0),.bool (btw e.overs 0 90)],[.int 98,.bool (kX e.ball),.bool true]]
theorem VN {N:Nat} {e0 e1 e2 e3 e5 e6 e7 e8 e9 e10 e11 e13 e14 e15 e16 e18:Int} {e4 e12 e17:Bool} (hN:2097152<N):DA N [.int e0,.int e1,.int e2,.int e3,.bool e4,.int e5,.int e6,.int e7,.int e8,.int e9,.int e10,.int e11,.bool e12,.int e13,.int e14,.int e15,.int e16,.bool e17,.int e18]=some [.int (evS (⟨e0,e1,e2,e3,e4,e5,e6,⟨e7,e8,e9,e10,e11,e12,e13,e14,e15,e16,e17,e18⟩⟩:Ev))]:=by
 show Hp (std (D0 N) N) (xOf _)=_
 generalize hres:(some [.int (evS (⟨e0,e1,e2,e3,e4,e5,e6,⟨e7,e8,e9,e10,e11,e12,e13,e14,e15,e16,e17,e18⟩⟩:Ev))]:Option (List PV))=RR
 cases hk:iLt e0 1||iLt 16 e0 with
 | true =>
  simp only [Hp,Hv,G2,JL,DW,std,xOf,PXb,PXc,AH,hk,← hres,evS]
 | false =>
  simp only [Hp,Hv,G2,JL,DW,std,xOf,PXb,PXc,AH,hk,bP,Z0]
  subst hres
  obtain ⟨g1,g2,g3,g4,g5,g6,g7⟩:=rF hk
  refine Ab (K9 (len:=7) (fun i => !pvB (AF (evT (⟨e0,e1,e2,e3,e4,e5,e6,⟨e7,e8,e9,e10,e11,e12,e13,e14,e15,e16,e17,e18⟩⟩:Ev)) i 1) && !DG e0 (pvI (AF (evT (⟨e0,e1,e2,e3,e4,e5,e6,⟨e7,e8,e9,e10,e11,e12,e13,e14,e15,e16,e17,e18⟩⟩:Ev)) i 0))) [.int 1] ?_ ?_ N (by omega)) ?_
  ·intro self
   rfl
  ·intro i self hi
   simp only [PXb,PXc,AH,A6 (show i≤1099511627776 by omega),List.length_cons,List.length_nil,Nat.reduceAdd,Ay hi,AR hi,Wx hk]
   change cond (!pvB (AF (evT (⟨e0,e1,e2,e3,e4,e5,e6,⟨e7,e8,e9,e10,e11,e12,e13,e14,e15,e16,e17,e18⟩⟩:Ev)) i 1) && !(!pvB (AF (evT (⟨e0,e1,e2,e3,e4,e5,e6,⟨e7,e8,e9,e10,e11,e12,e13,e14,e15,e16,e17,e18⟩⟩:Ev)) i 1)&&DG e0 (pvI (AF (evT (⟨e0,e1,e2,e3,e4,e5,e6,⟨e7,e8,e9,e10,e11,e12,e13,e14,e15,e16,e17,e18⟩⟩:Ev)) i 0)))) _ _=_
   cases pvB (AF (evT (⟨e0,e1,e2,e3,e4,e5,e6,⟨e7,e8,e9,e10,e11,e12,e13,e14,e15,e16,e17,e18⟩⟩:Ev)) i 1)<;>rfl
  ·have a1:Bn (fun i => !pvB (AF (evT (⟨e0,e1,e2,e3,e4,e5,e6,⟨e7,e8,e9,e10,e11,e12,e13,e14,e15,e16,e17,e18⟩⟩:Ev)) i 1) && !DG e0 (pvI (AF (evT (⟨e0,e1,e2,e3,e4,e5,e6,⟨e7,e8,e9,e10,e11,e12,e13,e14,e15,e16,e17,e18⟩⟩:Ev)) i 0))) 7 0=fU (⟨e0,e1,e2,e3,e4,e5,e6,⟨e7,e8,e9,e10,e11,e12,e13,e14,e15,e16,e17,e18⟩⟩:Ev):=by
    simp only [CC,JG]
    change (!(e1==0) && !DG e0 115||(!(e2==0) && !DG e0 112||(!(e3==0) && !DG e0 111||(!(!e4) && !DG e0 121||(!(e5==0) && !DG e0 114||(!(e6==0) && !DG e0 118||(!(kX (⟨e0,e1,e2,e3,e4,e5,e6,⟨e7,e8,e9,e10,e11,e12,e13,e14,e15,e16,e17,e18⟩⟩:Ev).ball) && !DG e0 98||false)))))))=_
    rw [g1,g2,g3,g4,g5,g6,g7,Bool.not_not,Bool.or_false]
    rfl
   rw [a1]
   simp only [evS,hk,cond_false]
   cases fU (⟨e0,e1,e2,e3,e4,e5,e6,⟨e7,e8,e9,e10,e11,e12,e13,e14,e15,e16,e17,e18⟩⟩:Ev) with
   | true=>rfl
   | false =>
    simp only [PXb,PXc,AH]
    refine Ab (K9 (len:=7) (fun i => !pvB (AF (evT (⟨e0,e1,e2,e3,e4,e5,e6,⟨e7,e8,e9,e10,e11,e12,e13,e14,e15,e16,e17,e18⟩⟩:Ev)) i 2)&&DG e0 (pvI (AF (evT (⟨e0,e1,e2,e3,e4,e5,e6,⟨e7,e8,e9,e10,e11,e12,e13,e14,e15,e16,e17,e18⟩⟩:Ev)) i 0))) [.int 2] ?_ ?_ N (by omega)) ?_
    ·intro self
     rfl
    ·intro i self hi
     simp only [PXb,PXc,AH,A6 (show i≤1099511627776 by omega),List.length_cons,List.length_nil,Nat.reduceAdd,Ay hi,AR hi,Wx hk]
     rfl
    ·have a2:Bn (fun i => !pvB (AF (evT (⟨e0,e1,e2,e3,e4,e5,e6,⟨e7,e8,e9,e10,e11,e12,e13,e14,e15,e16,e17,e18⟩⟩:Ev)) i 2)&&DG e0 (pvI (AF (evT (⟨e0,e1,e2,e3,e4,e5,e6,⟨e7,e8,e9,e10,e11,e12,e13,e14,e15,e16,e17,e18⟩⟩:Ev)) i 0))) 7 0=YO (⟨e0,e1,e2,e3,e4,e5,e6,⟨e7,e8,e9,e10,e11,e12,e13,e14,e15,e16,e17,e18⟩⟩:Ev):=by
      simp only [CC,JG]
      change (!(btw e1 1 2)&&DG e0 115||(!(btw e2 1 11)&&DG e0 112||(!(btw e3 1 11)&&DG e0 111||(!true&&DG e0 121||(!(btw e5 (loS e0) (hiS e0))&&DG e0 114||(!(btw e6 0 90)&&DG e0 118||(!true&&DG e0 98||false)))))))=_
      rw [g1,g2,g3,g4,g5,g6,g7]
      simp only [Bool.not_true,Bool.false_and,Bool.false_or,Bool.or_false]
      rfl
     rw [a2]
     cases YO (⟨e0,e1,e2,e3,e4,e5,e6,⟨e7,e8,e9,e10,e11,e12,e13,e14,e15,e16,e17,e18⟩⟩:Ev) with
     | true=>rfl
     | false =>
      simp only [PXb,PXc,PXn,PXm,Nat.reduceAdd,Int.reduceBEq,DW,Yu]
theorem c4 {c x x' y y':Bool} {a b d z z':Int} (h1:x=x') (h2:y=y') (h3:z=z'):(some [PV.int (cond c a (cond x b (cond y d z)))]:Option (List PV))=some [PV.int (cond c a (cond x' b (cond y' d z')))]:=by subst h1;subst h2;subst h3;rfl
end Go.Px
end
