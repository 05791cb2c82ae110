/- Part 9. -/
import Derived.Test.YtefmhiojnbekpaaGreatDoorPart07
import Derived.Test.YtefmhiojnbekpaaGreatDoorPart08
set_option linter.unusedVariables false
set_option linter.unusedSimpArgs false
variable {s0 s1 s2 s3 s4 s5 s6 s7 s8 s9 s10 s11 s12 s13 s15 s21 s22 s23 s25 s26 s27:Int}
variable {s14 s16 s17 s19 s24:Go.Px.Rows}
variable {r1 r2 r3 r4 r5 r6 r7 r9 r10 r11 r12:Int}
variable {d0 d1 d2 d3 d4 d6 d7 d8 d9 d11:Int}
section
namespace Go.Px
set_option maxRecDepth 100000
def IX:List Nat:=[3,0]
def C8 (O:Alg) (x:Ags O):O.M:=(O.bind (O.call 8 [] []) fun c0=>(O.ite (O.bnot (O.cB c0 0)) (O.ret [.bool O.ff]) (O.bind (O.call 9 [] [.rows (x.L 0)]) fun c1=>(O.bind (O.fix (fun s2 c2=>(O.ite (O.lt (O.cI c2 0) (O.llen (O.cL c1 0))) (O.assert (O.inb (O.cI c2 0) (O.llen (O.cL c1 0))) (O.bind (O.call 10 [] (ap O (rr O (O.cL c1 0) (O.cI c2 0) [0,0,0,0,0,0,0] 0) [.int (x.I 1)])) fun c3=>(O.bind (O.call 11 [] (ap O (rr O (O.cL c1 0) (O.cI c2 0) [0,0,0,0,0,0,0] 0) [.int (x.I 1)])) fun c4=>(O.bind (O.call 12 [] (ap O (rr O (O.cL c1 0) (O.cI c2 0) [0,0,0,0,0,0,0] 0) [.int (x.I 1)])) fun c5=>(O.bind (O.call 13 [] (ap O (rr O (O.cL c1 0) (O.cI c2 0) [0,0,0,0,0,0,0] 0) [.int (x.I 1)])) fun c6=>(O.assert (O.bnot (O.band (O.bnot (O.iteB (O.iteB (O.iteB (O.bnot (O.band (O.eqI (O.cI c3 0) (O.cI c4 0)) (O.eqI (O.cI c3 1) (O.cI c4 1)))) O.tt (O.bnot (O.eqI (O.cI c3 2) (O.cI c4 2)))) O.tt (O.bnot (O.eqS (O.cS c5 0) (O.cS c6 0)))) O.tt (O.bnot (O.eqI (O.cI c5 1) (O.cI c6 1))))) (O.bnot (O.inb (O.q 0) (O.llen (O.cL c1 0)))))) (O.bind (O.ite (O.bnot (O.iteB (O.iteB (O.iteB (O.bnot (O.band (O.eqI (O.cI c3 0) (O.cI c4 0)) (O.eqI (O.cI c3 1) (O.cI c4 1)))) O.tt (O.bnot (O.eqI (O.cI c3 2) (O.cI c4 2)))) O.tt (O.bnot (O.eqS (O.cS c5 0) (O.cS c6 0)))) O.tt (O.bnot (O.eqI (O.cI c5 1) (O.cI c6 1))))) (O.call 14 [] (ap O (rr O (O.cL c1 0) (O.cI c2 0) [0,0,0,0,0,0,0] 0) (rr O (O.cL c1 0) (O.q 0) [0,0,0,0,0,0,0] 0))) (O.ret [.bool O.ff])) fun c7=>(O.assert (O.bnot (O.band (O.bnot (O.iteB (O.iteB (O.iteB (O.bnot (O.band (O.eqI (O.cI c3 0) (O.cI c4 0)) (O.eqI (O.cI c3 1) (O.cI c4 1)))) O.tt (O.bnot (O.eqI (O.cI c3 2) (O.cI c4 2)))) O.tt (O.bnot (O.eqS (O.cS c5 0) (O.cS c6 0)))) O.tt (O.bnot (O.eqI (O.cI c5 1) (O.cI c6 1))))) (O.bnot (O.inb (O.q 0) (O.llen (O.cL c1 0)))))) (O.bind (O.ite (O.bnot (O.iteB (O.iteB (O.iteB (O.bnot (O.band (O.eqI (O.cI c3 0) (O.cI c4 0)) (O.eqI (O.cI c3 1) (O.cI c4 1)))) O.tt (O.bnot (O.eqI (O.cI c3 2) (O.cI c4 2)))) O.tt (O.bnot (O.eqS (O.cS c5 0) (O.cS c6 0)))) O.tt (O.bnot (O.eqI (O.cI c5 1) (O.cI c6 1))))) (O.call 15 [] (ap O (rr O (O.cL c1 0) (O.cI c2 0) [0,0,0,0,0,0,0] 0) (rr O (O.cL c1 0) (O.q 0) [0,0,0,0,0,0,0] 0))) (O.ret [.bool O.ff])) fun c8=>(O.assert (O.bnot (O.band (O.bnot (O.iteB (O.iteB (O.iteB (O.iteB (O.bnot (O.band (O.eqI (O.cI c3 0) (O.cI c4 0)) (O.eqI (O.cI c3 1) (O.cI c4 1)))) O.tt (O.bnot (O.eqI (O.cI c3 2) (O.cI c4 2)))) O.tt (O.bnot (O.eqS (O.cS c5 0) (O.cS c6 0)))) O.tt (O.bnot (O.eqI (O.cI c5 1) (O.cI c6 1)))) O.tt (O.bnot (O.beq (O.cB c7 0) (O.cB c8 0))))) (O.bnot (O.inb (O.q 0) (O.llen (O.cL c1 0)))))) (O.bind (O.ite (O.bnot (O.iteB (O.iteB (O.iteB (O.iteB (O.bnot (O.band (O.eqI (O.cI c3 0) (O.cI c4 0)) (O.eqI (O.cI c3 1) (O.cI c4 1)))) O.tt (O.bnot (O.eqI (O.cI c3 2) (O.cI c4 2)))) O.tt (O.bnot (O.eqS (O.cS c5 0) (O.cS c6 0)))) O.tt (O.bnot (O.eqI (O.cI c5 1) (O.cI c6 1)))) O.tt (O.bnot (O.beq (O.cB c7 0) (O.cB c8 0))))) (O.call 14 [] (ap O (rr O (O.cL c1 0) (O.q 0) [0,0,0,0,0,0,0] 0) (rr O (O.cL c1 0) (O.cI c2 0) [0,0,0,0,0,0,0] 0))) (O.ret [.bool O.ff])) fun c9=>(O.assert (O.bnot (O.band (O.band (O.bnot (O.iteB (O.iteB (O.iteB (O.iteB (O.bnot (O.band (O.eqI (O.cI c3 0) (O.cI c4 0)) (O.eqI (O.cI c3 1) (O.cI c4 1)))) O.tt (O.bnot (O.eqI (O.cI c3 2) (O.cI c4 2)))) O.tt (O.bnot (O.eqS (O.cS c5 0) (O.cS c6 0)))) O.tt (O.bnot (O.eqI (O.cI c5 1) (O.cI c6 1)))) O.tt (O.bnot (O.beq (O.cB c7 0) (O.cB c8 0))))) (O.cB c9 0)) (O.bnot (O.inb (O.q 0) (O.llen (O.cL c1 0)))))) (O.bind (O.ite (O.band (O.bnot (O.iteB (O.iteB (O.iteB (O.iteB (O.bnot (O.band (O.eqI (O.cI c3 0) (O.cI c4 0)) (O.eqI (O.cI c3 1) (O.cI c4 1)))) O.tt (O.bnot (O.eqI (O.cI c3 2) (O.cI c4 2)))) O.tt (O.bnot (O.eqS (O.cS c5 0) (O.cS c6 0)))) O.tt (O.bnot (O.eqI (O.cI c5 1) (O.cI c6 1)))) O.tt (O.bnot (O.beq (O.cB c7 0) (O.cB c8 0))))) (O.cB c9 0)) (O.call 14 [] (ap O (rr O (O.cL c1 0) (O.cI c2 0) [0,0,0,0,0,0,0] 0) (rr O (O.cL c1 0) (O.q 0) [0,0,0,0,0,0,0] 0))) (O.ret [.bool O.ff])) fun c10=>(O.assert (O.bnot (O.band (O.bnot (O.iteB (O.iteB (O.iteB (O.iteB (O.iteB (O.bnot (O.band (O.eqI (O.cI c3 0) (O.cI c4 0)) (O.eqI (O.cI c3 1) (O.cI c4 1)))) O.tt (O.bnot (O.eqI (O.cI c3 2) (O.cI c4 2)))) O.tt (O.bnot (O.eqS (O.cS c5 0) (O.cS c6 0)))) O.tt (O.bnot (O.eqI (O.cI c5 1) (O.cI c6 1)))) O.tt (O.bnot (O.beq (O.cB c7 0) (O.cB c8 0)))) O.tt (O.iteB (O.cB c9 0) (O.cB c10 0) O.ff))) (O.bnot (O.inb (O.cI c2 0) (O.llen (O.cL c1 0)))))) (O.bind (O.ite (O.bnot (O.iteB (O.iteB (O.iteB (O.iteB (O.iteB (O.bnot (O.band (O.eqI (O.cI c3 0) (O.cI c4 0)) (O.eqI (O.cI c3 1) (O.cI c4 1)))) O.tt (O.bnot (O.eqI (O.cI c3 2) (O.cI c4 2)))) O.tt (O.bnot (O.eqS (O.cS c5 0) (O.cS c6 0)))) O.tt (O.bnot (O.eqI (O.cI c5 1) (O.cI c6 1)))) O.tt (O.bnot (O.beq (O.cB c7 0) (O.cB c8 0)))) O.tt (O.iteB (O.cB c9 0) (O.cB c10 0) O.ff))) (O.call 14 [] (ap O (rr O (O.cL c1 0) (O.cI c2 0) [0,0,0,0,0,0,0] 0) (rr O (O.cL c1 0) (O.cI c2 0) [0,0,0,0,0,0,0] 0))) (O.ret [.bool O.ff])) fun c11=>(O.ite (O.iteB (O.iteB (O.iteB (O.iteB (O.iteB (O.iteB (O.bnot (O.band (O.eqI (O.cI c3 0) (O.cI c4 0)) (O.eqI (O.cI c3 1) (O.cI c4 1)))) O.tt (O.bnot (O.eqI (O.cI c3 2) (O.cI c4 2)))) O.tt (O.bnot (O.eqS (O.cS c5 0) (O.cS c6 0)))) O.tt (O.bnot (O.eqI (O.cI c5 1) (O.cI c6 1)))) O.tt (O.bnot (O.beq (O.cB c7 0) (O.cB c8 0)))) O.tt (O.iteB (O.cB c9 0) (O.cB c10 0) O.ff)) O.tt (O.cB c11 0)) (O.ret [.int (O.q 0),.bool O.ff]) (s2 [.int (O.add .i64 (O.cI c2 0) (O.q 1))]))))))))))))))))) (O.ret [.int (O.q 1)]))) [.int (O.q 0)]) fun c2=>(O.ite (O.isTag c2 0) (O.ret [.bool (O.cB c2 1)]) (O.bind (O.call 16 [] [.rows (O.cL c1 0)]) fun c3=>(O.bind (O.call 17 [] [.rows (O.cL c1 0)]) fun c4=>(O.ret [.bool (O.eqI (O.cI c3 0) (O.cI c4 0))]))))))))
def Ad (N:Nat):Env:=fun f fns ls=>(cond (Nat.beq f 8&&Ah fns []) (JV N ls) (cond (Nat.beq f 9&&Ah fns []) (Ny N ls) (cond (Nat.beq f 10&&Ah fns []) (Bk N ls) (cond (Nat.beq f 11&&Ah fns []) (KA N ls) (cond (Nat.beq f 12&&Ah fns []) (CS N ls) (cond (Nat.beq f 13&&Ah fns []) (PW N ls) (cond (Nat.beq f 14&&Ah fns []) (Gr N ls) (cond (Nat.beq f 15&&Ah fns []) (MD N ls) (cond (Nat.beq f 16&&Ah fns []) (Ho N ls) (cond (Nat.beq f 17&&Ah fns []) (NU N ls) none))))))))))
theorem ND {N ls}:Ad N 8 [] ls=JV N ls:=id rfl
theorem Oa {N ls}:Ad N 9 [] ls=Ny N ls:=id rfl
theorem Dg {N ls}:Ad N 10 [] ls=Bk N ls:=id rfl
theorem FA {N ls}:Ad N 11 [] ls=KA N ls:=id rfl
theorem Ek {N ls}:Ad N 12 [] ls=CS N ls:=id rfl
theorem GT {N ls}:Ad N 13 [] ls=PW N ls:=id rfl
theorem D4 {N ls}:Ad N 14 [] ls=Gr N ls:=id rfl
theorem Fc {N ls}:Ad N 15 [] ls=MD N ls:=id rfl
theorem Ki {N ls}:Ad N 16 [] ls=Ho N ls:=id rfl
theorem Ml {N ls}:Ad N 17 [] ls=NU N ls:=id rfl
def C6:=oS IX C8 Ad
end Go.Px
end
section
namespace Go.Px
set_option maxRecDepth 100000
theorem Fy {N:Nat} {s18 s20:Bool} (h:Fit s14 s16 s17 s19 s24):Ao N [.int s0,.int s1,.int s2,.int s3,.int s4,.int s5,.int s6,.int s7,.int s8,.int s9,.int s10,.int s11,.int s12,.int s13,.rows s14,.int s15,.rows s16,.rows s17,.bool s18,.rows s19,.bool s20,.int s21,.int s22,.int s23,.rows s24,.int s25,.int s26,.int s27]=some [.int s0,.int s1,.int s2,.int s3,.int s4,.int s5,.int s6,.int s7,.int s8,.int s9,.int s10,.int s11,.int s12,.int s13,.rows s14,.int s15,.rows s16,.rows s17,.bool s18,.rows s19,.bool s20,.int s21,.int s22,.int s23,.rows s24,.int s25,.int s26,.int s27]:=by
 show Ld (std (GE N) N) (xOf _)=_;simp only [Ld,Kf,MS,MB,Alg.q,std,xOf,PXb,PXc,PXn,PXm,Nat.reduceAdd,Int.reduceBEq,AR,Aa,AY,BN h.bt (show 1≤4096 by omega),BN h.bw' (show 8≤4096 by omega),BN h.bf (show 8≤4096 by omega),BN h.bd (show 8≤4096 by omega),BN h.sb (show 1≤4096 by omega)]
theorem F5 {N:Nat} {s18 s20:Bool} {p:Int}  : Am N [.int s0,.int s1,.int s2,.int s3,.int s4,.int s5,.int s6,.int s7,.int s8,.int s9,.int s10,.int s11,.int s12,.int s13,.rows s14,.int s15,.rows s16,.rows s17,.bool s18,.rows s19,.bool s20,.int s21,.int s22,.int s23,.rows s24,.int s25,.int s26,.int s27,.int p]=some [.bool (inR p s14.length)]:=by
 show I3 (std (Qs N) N) (xOf _)=_;simp only [I3,Alg.q,std,xOf,PXb,PXc,PXn,PXm,Nat.reduceAdd,Int.reduceBEq];rfl
def EH (s:Inn) (d:Del):Inn :=
  let odd := !(d.runs.tmod 2==0) != d.crossed
  let t:Inn:=cond odd { s with striker:=s.other,other:=s.striker } s
  let k:Bool:=d.how==0
  cond (!k&&(d.victim==1 && !(s.striker==0)))
    { t with striker:=cond odd t.striker 0,other:=cond odd 0 t.other,batters:=cond (inR s.striker s.batters.length) (NF s.batters s.striker 2) s.batters,wickets:=IntKind.i64.wrap (s.wickets+1) }
    (cond (!k&&(d.victim==2 && !(s.other==0)))
      { t with striker:=cond odd 0 t.striker,other:=cond odd t.other 0,batters:=cond (inR s.other s.batters.length) (NF s.batters s.other 2) s.batters,wickets:=IntKind.i64.wrap (s.wickets+1) }
      t)
theorem dQ {N:Nat} {s18 s20:Bool} {d5 d10:Bool} (h:Fit s14 s16 s17 s19 s24):Hx N [.int s0,.int s1,.int s2,.int s3,.int s4,.int s5,.int s6,.int s7,.int s8,.int s9,.int s10,.int s11,.int s12,.int s13,.rows s14,.int s15,.rows s16,.rows s17,.bool s18,.rows s19,.bool s20,.int s21,.int s22,.int s23,.rows s24,.int s25,.int s26,.int s27,.int d0,.int d1,.int d2,.int d3,.int d4,.bool d5,.int d6,.int d7,.int d8,.int d9,.bool d10,.int d11]=some (EH (⟨s0,s1,s2,s3,s4,s5,s6,s7,s8,s9,s10,s11,s12,s13,s14,s15,s16,s17,s18,s19,s20,s21,s22,s23,s24,s25,s26,s27⟩:Inn) (⟨d0,d1,d2,d3,d4,d5,d6,d7,d8,d9,d10,d11⟩:Del)).ls:=by
 show Ll (std (Ip N) N) (xOf _)=_;simp only [Ll,Q3,Pi,Alg.q,std,xOf,PXb,PXc,PXn,PXm,Nat.reduceAdd,Int.reduceBEq,Fy h,F5,oX h.bt];unfold EH;cases d5<;>cases d2.tmod 2==0<;>cases d6==0<;>cases d7==1<;>cases d7==2<;>cases s12==0<;>cases s13==0<;>rfl
def iE (s:Inn):Inn:={ s with striker:=s.other,other:=s.striker }
theorem ZU {N:Nat} {s18 s20:Bool} (h:Fit s14 s16 s17 s19 s24):FB N [.int s0,.int s1,.int s2,.int s3,.int s4,.int s5,.int s6,.int s7,.int s8,.int s9,.int s10,.int s11,.int s12,.int s13,.rows s14,.int s15,.rows s16,.rows s17,.bool s18,.rows s19,.bool s20,.int s21,.int s22,.int s23,.rows s24,.int s25,.int s26,.int s27]=some (iE (⟨s0,s1,s2,s3,s4,s5,s6,s7,s8,s9,s10,s11,s12,s13,s14,s15,s16,s17,s18,s19,s20,s21,s22,s23,s24,s25,s26,s27⟩:Inn)).ls:=by
 show Hs (std (JL N) N) (xOf _)=_;simp only [Hs,OM,Alg.q,std,xOf,PXb,PXc,PXn,PXm,Nat.reduceAdd,Int.reduceBEq,Fy h];rfl
theorem YA {N:Nat} {v:Int}  : CM N [.int v]=some [.bool (!(v==0))]:=by
 show KS (std (Nx N) N) (xOf _)=_;rfl
theorem W3 {N:Nat} {v:Int}  : Dl N [.int v]=some [.bool (!(v==0))]:=by
 show JH (std (MW N) N) (xOf _)=_;rfl
theorem Sn {N:Nat} {s18 s20:Bool} (h:s14.length≤1048576) (hN:2097152<N):Bh N [.int s0,.int s1,.int s2,.int s3,.int s4,.int s5,.int s6,.int s7,.int s8,.int s9,.int s10,.int s11,.int s12,.int s13,.rows s14,.int s15,.rows s16,.rows s17,.bool s18,.rows s19,.bool s20,.int s21,.int s22,.int s23,.rows s24,.int s25,.int s26,.int s27]=some [.bool (EO s14)]:=by
 show D5 (std (ES N) N) (xOf _)=_;simp only [D5,Fb,Alg.q,std,xOf,PXb,PXc,PXn,AE];rw [show EO s14=iLe 0 (Of (fun i => !(atI s14 i 0==0)) s14.length) from (Ix _ _).symm];rw [Option.bind_assoc];refine AW (Ci (len:=s14.length) (FX fun i => !(atI s14 i 0==0)) ?_ ?_ s14.length 0 N (by omega) (by omega)) ?_
 ·intro self;simp only [PXb,PXc,PXn,AE,BI]
 ·intro i self hi;simp only [PXb,PXc,PXn,AE,Ax (show i≤1099511627776 by omega),Ar hi,AX hi,FX,CO,Fb,YA];cases atI s14 i 0==0<;>rfl
 ·unfold Of;cases Br (FX fun i => !(atI s14 i 0==0)) s14.length 0<;>rfl
theorem Zy {N:Nat} {s18 s20:Bool} (h:s14.length≤1048576) (hN:2097152<N):FI N [.int s0,.int s1,.int s2,.int s3,.int s4,.int s5,.int s6,.int s7,.int s8,.int s9,.int s10,.int s11,.int s12,.int s13,.rows s14,.int s15,.rows s16,.rows s17,.bool s18,.rows s19,.bool s20,.int s21,.int s22,.int s23,.rows s24,.int s25,.int s26,.int s27]=some [.bool (EO s14)]:=by
 show Hq (std (JP N) N) (xOf _)=_;simp only [Hq,Eh,Alg.q,std,xOf,PXb,PXc,PXn,AE];rw [show EO s14=iLe 0 (Of (fun i => !(atI s14 i 0==0)) s14.length) from (Ix _ _).symm];rw [Option.bind_assoc];refine AW (Ci (len:=s14.length) (FX fun i => !(atI s14 i 0==0)) ?_ ?_ s14.length 0 N (by omega) (by omega)) ?_
 ·intro self;simp only [PXb,PXc,PXn,AE,BI]
 ·intro i self hi;simp only [PXb,PXc,PXn,AE,Ax (show i≤1099511627776 by omega),Ar hi,AX hi,FX,CO,Eh,W3];cases atI s14 i 0==0<;>rfl
 ·unfold Of;cases Br (FX fun i => !(atI s14 i 0==0)) s14.length 0<;>rfl
theorem RV {N:Nat} {s18 s20:Bool} (h:s14.length≤1048576) (hN:2097152<N):BA N [.int s0,.int s1,.int s2,.int s3,.int s4,.int s5,.int s6,.int s7,.int s8,.int s9,.int s10,.int s11,.int s12,.int s13,.rows s14,.int s15,.rows s16,.rows s17,.bool s18,.rows s19,.bool s20,.int s21,.int s22,.int s23,.rows s24,.int s25,.int s26,.int s27]=some [.bool (MJ s14 s12 s13)]:=by
 show DM (std (Dp N) N) (xOf _)=_;simp only [DM,Mz,Alg.q,std,xOf,PXb,PXc,PXn,PXm,Nat.reduceAdd,Int.reduceBEq,Sn h hN];rfl
theorem cU {N:Nat} {s18 s20:Bool} (h:s14.length≤1048576) (hN:2097152<N):CH N [.int s0,.int s1,.int s2,.int s3,.int s4,.int s5,.int s6,.int s7,.int s8,.int s9,.int s10,.int s11,.int s12,.int s13,.rows s14,.int s15,.rows s16,.rows s17,.bool s18,.rows s19,.bool s20,.int s21,.int s22,.int s23,.rows s24,.int s25,.int s26,.int s27]=some [.rows (EZ s14 s14.length)]:=by
 show Er (std (LM N) N) (xOf _)=_;simp only [Er,Alg.q,std,xOf,PXb,PXc,PXn,AE];refine AW (DY (len:=s14.length) (fun i=>[.rows (EZ s14 i),.int (i:Int)]) [.rows (EZ s14 s14.length)] ?_ ?_ N (by omega)) rfl
 ·intro self;simp only [PXb,PXc,PXn,AE,BI]
 ·intro i self hi;have h2:(EZ s14 i++[[PV.int ((i:Int)+1)]]).length≤4194304:=by have:=YL s14 i;simp;omega
  simp only [PXb,PXc,PXn,AE,Ax (show i≤1099511627776 by omega),Ar hi,AX hi,CO,EZ,Fp h2 (show 8≤4096 by omega)];cases (atI s14 i 0==0||atI s14 i 0==3)<;>rfl
def We (s:Inn) (p q:Int):Inn×Int :=
  cond (EO s.batters) (s,1) (cond (!inR p s.batters.length || !inR q s.batters.length) (s,3) (cond (p==q) (s,4)
    ({ s with batters:=NF (NF s.batters p 1) q 1,striker:=p,other:=q },0)))
theorem cq {N:Nat} {s18 s20:Bool} {p:Int} {q:Int} (h:Fit s14 s16 s17 s19 s24) (hN:2097152<N):G4 N [.int s0,.int s1,.int s2,.int s3,.int s4,.int s5,.int s6,.int s7,.int s8,.int s9,.int s10,.int s11,.int s12,.int s13,.rows s14,.int s15,.rows s16,.rows s17,.bool s18,.rows s19,.bool s20,.int s21,.int s22,.int s23,.rows s24,.int s25,.int s26,.int s27,.int p,.int q]=some (BB (We (⟨s0,s1,s2,s3,s4,s5,s6,s7,s8,s9,s10,s11,s12,s13,s14,s15,s16,s17,s18,s19,s20,s21,s22,s23,s24,s25,s26,s27⟩:Inn) p q)):=by
 show KE (std (FR N) N) (xOf _)=_;generalize hres:(some (BB (We (⟨s0,s1,s2,s3,s4,s5,s6,s7,s8,s9,s10,s11,s12,s13,s14,s15,s16,s17,s18,s19,s20,s21,s22,s23,s24,s25,s26,s27⟩:Inn) p q)):Option (List PV))=RR;simp only [KE,QE,OO,OV,Alg.q,std,xOf,PXb,PXc,PXn,PXm,Nat.reduceAdd,Int.reduceBEq,Fy h,Sn h.bt hN,F5];subst hres;simp only [We];cases EO s14<;>try rfl
 cases hp:inR p s14.length<;>cases hq:inR q s14.length<;>try rfl
 rw [J0 hp h.bt,J0 hq h.bt];cases p==q<;>rfl
def Qj (s:Inn) (p:Int):Int :=
 cond (!inR p s.batters.length) 3 (cond (!MJ s.batters s.striker s.other||atI s.batters (ix p) 0==1) 4 (cond (atI s.batters (ix p) 0==2) 5 0))
theorem V3 {N:Nat} {s18 s20:Bool} {p:Int} (h:s14.length≤1048576) (hN:2097152<N):DI N [.int s0,.int s1,.int s2,.int s3,.int s4,.int s5,.int s6,.int s7,.int s8,.int s9,.int s10,.int s11,.int s12,.int s13,.rows s14,.int s15,.rows s16,.rows s17,.bool s18,.rows s19,.bool s20,.int s21,.int s22,.int s23,.rows s24,.int s25,.int s26,.int s27,.int p]=some [.int (Qj (⟨s0,s1,s2,s3,s4,s5,s6,s7,s8,s9,s10,s11,s12,s13,s14,s15,s16,s17,s18,s19,s20,s21,s22,s23,s24,s25,s26,s27⟩:Inn) p)]:=by
 show Lm (std (I1 N) N) (xOf _)=_;generalize hres:(some [.int (Qj (⟨s0,s1,s2,s3,s4,s5,s6,s7,s8,s9,s10,s11,s12,s13,s14,s15,s16,s17,s18,s19,s20,s21,s22,s23,s24,s25,s26,s27⟩:Inn) p)]:Option (List PV))=RR;simp only [Lm,OQ,PU,Alg.q,std,xOf,PXb,PXc,PXn,PXm,Nat.reduceAdd,Int.reduceBEq,F5,RV h hN];subst hres;simp only [Qj];cases hp:inR p s14.length<;>try rfl
 rw [J0 hp h];cases MJ s14 s12 s13<;>try rfl
 simp only [PXb,PXc,PXn,PXm,Nat.reduceAdd,Int.reduceBEq,atI,ix]
theorem cE {s:Inn} {p:Int} (h:(Qj s p==0)=true):inR p s.batters.length=true:=by
 unfold Qj at h;cases hp:inR p s.batters.length with
 | true=>rfl
 | false=>rw [hp] at h;cases h
def TH (s:Inn) (p:Int):Inn×Int :=
 cond (Qj s p==0) ({ s with batters:=NF s.batters p 1,striker:=cond (s.striker==0) p s.striker,other:=cond (s.striker==0) s.other p },0) (s,Qj s p)
def Mp (s:Inn) (p:Int):Inn×Int :=
 cond (Qj s p==0) ({ s with batters:=NF s.batters p 2,wickets:=IntKind.i64.wrap (s.wickets+1) },0) (s,Qj s p)
theorem ar {N:Nat} {s18 s20:Bool} {p:Int} (h:Fit s14 s16 s17 s19 s24) (hN:2097152<N):Fx N [.int s0,.int s1,.int s2,.int s3,.int s4,.int s5,.int s6,.int s7,.int s8,.int s9,.int s10,.int s11,.int s12,.int s13,.rows s14,.int s15,.rows s16,.rows s17,.bool s18,.rows s19,.bool s20,.int s21,.int s22,.int s23,.rows s24,.int s25,.int s26,.int s27,.int p]=some (BB (TH (⟨s0,s1,s2,s3,s4,s5,s6,s7,s8,s9,s10,s11,s12,s13,s14,s15,s16,s17,s18,s19,s20,s21,s22,s23,s24,s25,s26,s27⟩:Inn) p)):=by
 show Iq (std (Gw N) N) (xOf _)=_;generalize hres:(some (BB (TH (⟨s0,s1,s2,s3,s4,s5,s6,s7,s8,s9,s10,s11,s12,s13,s14,s15,s16,s17,s18,s19,s20,s21,s22,s23,s24,s25,s26,s27⟩:Inn) p)):Option (List PV))=RR;simp only [Iq,PQ,PI,Alg.q,std,xOf,PXb,PXc,PXn,PXm,Nat.reduceAdd,Int.reduceBEq,Fy h,V3 h.bt hN];subst hres;simp only [TH];cases hm:Qj (⟨s0,s1,s2,s3,s4,s5,s6,s7,s8,s9,s10,s11,s12,s13,s14,s15,s16,s17,s18,s19,s20,s21,s22,s23,s24,s25,s26,s27⟩:Inn) p==0<;>try rfl
 rw [J0 (cE hm) h.bt];cases s12==0<;>rfl
theorem Yc {N:Nat} {s18 s20:Bool} {p:Int} (h:Fit s14 s16 s17 s19 s24) (hN:2097152<N):EM N [.int s0,.int s1,.int s2,.int s3,.int s4,.int s5,.int s6,.int s7,.int s8,.int s9,.int s10,.int s11,.int s12,.int s13,.rows s14,.int s15,.rows s16,.rows s17,.bool s18,.rows s19,.bool s20,.int s21,.int s22,.int s23,.rows s24,.int s25,.int s26,.int s27,.int p]=some (BB (Mp (⟨s0,s1,s2,s3,s4,s5,s6,s7,s8,s9,s10,s11,s12,s13,s14,s15,s16,s17,s18,s19,s20,s21,s22,s23,s24,s25,s26,s27⟩:Inn) p)):=by
 show Gc (std (DK N) N) (xOf _)=_;generalize hres:(some (BB (Mp (⟨s0,s1,s2,s3,s4,s5,s6,s7,s8,s9,s10,s11,s12,s13,s14,s15,s16,s17,s18,s19,s20,s21,s22,s23,s24,s25,s26,s27⟩:Inn) p)):Option (List PV))=RR;simp only [Gc,Ne,MO,OC,Alg.q,std,xOf,PXb,PXc,PXn,PXm,Nat.reduceAdd,Int.reduceBEq,Fy h,V3 h.bt hN,F5];subst hres;simp only [Mp];cases hm:Qj (⟨s0,s1,s2,s3,s4,s5,s6,s7,s8,s9,s10,s11,s12,s13,s14,s15,s16,s17,s18,s19,s20,s21,s22,s23,s24,s25,s26,s27⟩:Inn) p==0<;>try rfl
 have hk:inR p s14.length=true:=cE hm;rw [J0 hk h.bt,hk];rfl
def Pp (s:Inn) (p:Int) (hurt:Bool):Inn×Int :=
  cond (!inR p s.batters.length) (s,3) (cond (s.striker==0||s.other==0) (s,6) (cond (!(p==s.striker) && !(p==s.other)) (s,4)
    (cond (hurt&&((EZ s.batters s.batters.length).length:Int)==0) (s,19)
      ({ s with striker:=cond (p==s.striker) 0 s.striker,other:=cond (p==s.striker) s.other 0,batters:=NF s.batters p (cond hurt 3 2),wickets:=cond hurt s.wickets (IntKind.i64.wrap (s.wickets+1)) },0))))
theorem Yp {N:Nat} {s18 s20:Bool} {p:Int} {b:Bool} (h:Fit s14 s16 s17 s19 s24) (hN:2097152<N):Ez N [.int s0,.int s1,.int s2,.int s3,.int s4,.int s5,.int s6,.int s7,.int s8,.int s9,.int s10,.int s11,.int s12,.int s13,.rows s14,.int s15,.rows s16,.rows s17,.bool s18,.rows s19,.bool s20,.int s21,.int s22,.int s23,.rows s24,.int s25,.int s26,.int s27,.int p,.bool b]=some (BB (Pp (⟨s0,s1,s2,s3,s4,s5,s6,s7,s8,s9,s10,s11,s12,s13,s14,s15,s16,s17,s18,s19,s20,s21,s22,s23,s24,s25,s26,s27⟩:Inn) p b)):=by
 show He (std (Dk N) N) (xOf _)=_;generalize hres:(some (BB (Pp (⟨s0,s1,s2,s3,s4,s5,s6,s7,s8,s9,s10,s11,s12,s13,s14,s15,s16,s17,s18,s19,s20,s21,s22,s23,s24,s25,s26,s27⟩:Inn) p b)):Option (List PV))=RR;simp only [He,OG,Oe,M5,Alg.q,std,xOf,PXb,PXc,PXn,PXm,Nat.reduceAdd,Int.reduceBEq,Fy h,F5,cU h.bt hN];subst hres;simp only [Pp];cases hp:inR p s14.length<;>try rfl
 rw [J0 hp h.bt];cases s12==0<;>cases s13==0<;>try rfl
 cases p==s12<;>cases p==s13<;>cases b<;>try rfl
 all_goals (simp only [PXb,PXc,PXn,PXm,Nat.reduceAdd,Int.reduceBEq];cases ((EZ s14 s14.length).length:Int)==0<;>rfl)
end Go.Px
end
section
namespace Go.Px
set_option maxRecDepth 100000
def btw (a b c:Int):Bool:=iLe b a&&iLe a c
theorem DB (N:Nat) (a b c:Int):Ag N [.int a,.int b,.int c]=some [.bool (btw a b c)]:=by
 show some [PV.bool (cond (iLe b a) (iLe a c) false)]=_;rw [Zt];rfl
theorem KQ (N:Nat) (a b c:Int):B5 N [.int a,.int b,.int c]=some [.bool (btw a b c)]:=by
 show some [PV.bool (cond (iLe b a) (iLe a c) false)]=_;rw [Zt];rfl
def M3 (x1 x2 x3 x4 x5 x6 x7 x9 x10 x11 x12:Int):Bool:=btw x1 2 11&&btw x2 1 2&&btw x3 0 90&&btw x4 4 8&&btw x5 0 90&&btw x6 1 5&&btw x7 1 5&&btw x9 0 200&&btw x10 0 1000&&btw x11 0 9&&btw x12 0 11
theorem YC (N : Nat) (x0 : ByteArray) (x1 x2 x3 x4 x5 x6 x7 x9 x10 x11 x12 : Int) (x8 : Bool) (x13 : Rows) :
   FN N [.str x0,.int x1,.int x2,.int x3,.int x4,.int x5,.int x6,.int x7,.bool x8,.int x9,.int x10,.int x11,.int x12,.rows x13]=some [.bool (M3 x1 x2 x3 x4 x5 x6 x7 x9 x10 x11 x12)]:=by
  show Hg (std (JJ N) N) (xOf _)=_;have e:∀ ls,JJ N 115 [] ls=B5 N ls:=fun ls=>rfl
  simp only [Hg,Alg.q,std,xOf,e,KQ,PXb,PXc,PXn,AE,M3]
def Wn (s:ByteArray) (i:Nat):Bool := !(iLe 65 (Nc s i)&&iLe (Nc s i) 90)&&((i:Int)==0||((!(Nc s i==95) && !(Nc s i==45))&&(iLt (Nc s i) 48||iLt 57 (Nc s i))))
def VG (s:ByteArray):Bool := !BT (Wn s) s.size 0&&(iLe 1 s.size&&iLe s.size 16)
theorem oP (s:ByteArray):(E0 s).length=s.size:=by
 simp only [E0,List.length_map,Array.length_toList];rfl
theorem pK (s:ByteArray) (i:Nat) (h:i<s.size):pvI (AH (E0 s) i 0)=Nc s i:=by
 unfold AH AF AA E0 Nc;simp only [List.getD_eq_getElem?_getD,List.getElem?_map];have:i<s.data.toList.length:=by simpa using h
 rw [List.getElem?_eq_getElem this];simp [List.getElem?_eq_getElem this]
theorem fi (N:Nat) (s:ByteArray) (hN:s.size<N) (hs:s.size≤1048576):Ji N [.str s]=some [.bool (VG s)]:=by
 show NN (std (UO N) N) (xOf _)=_;simp only [NN,Alg.q,std,xOf,oP,PXb,PXc,PXn,AE];refine AW (Kc (len:=s.size) (Wn s) [.bool false] ?_ ?_ N hN) ?_
 ·intro self;simp only [PXb,PXc,PXn,AE,BI]
 ·intro i self hi;simp only [PXb,PXc,PXn,AE,Int.toNat_natCast,pK s i hi,Ax (show i≤1099511627776 by omega),Ar hi,AX hi,Wn]
 ·unfold VG;cases BT (Wn s) s.size 0<;>rfl
end Go.Px
end
section
namespace Go.Px
set_option maxRecDepth 100000
theorem mw {i len:Nat} (h:i<len) (hl:len≤1099511627776):(!iLt 0 (i:Int)||iIn (IntKind.i64.wrap ((i:Int) - 1)) (len:Int))=true:=by
 rw [Dn (by omega) (by omega)];simp only [iLt,iIn,Bool.or_eq_true,Bool.not_eq_true',decide_eq_false_iff_not,decide_eq_true_eq];omega
def mb (L:Rows) (ov:Int) (i:Nat):Bool:=(iLt (atI L i 0) 1||iLt (atI L i 1) (atI L i 0)||iLt ov (atI L i 1)) || !btw (atI L i 2) 0 11
def kY (L:Rows) (i:Nat):Bool:=iLt 0 (i:Int)&&iLe (atI L i 0) (pvI (AH L (IntKind.i64.wrap ((i:Int) - 1)).toNat 1))
def iK (L:Rows) (ov:Int) (i:Nat):Option (List PV):=cond (mb L ov i) (some [.int 2]) (cond (kY L i) (some [.int 8]) none)
def ka:Option (List PV)→Int
 | none=>0
 | some r=>pvI (AA r 0)
def dV (L:Rows) (ov:Int):Int:=cond (iLt 8 (L.length:Int)) 9 (ka (Br (iK L ov) L.length 0))
theorem Zu (o:Option (List PV)):cond (pvI (AA (Wb o) 0)==((0:Nat):Int)) (some [PV.int (pvI (AA (Wb o) 1))]) (some [PV.int 0])=some [PV.int (ka o)]:=by
 cases o<;>rfl
theorem Zz (N : Nat) (x0 : ByteArray) (x1 x2 x3 x4 x5 x6 x7 x9 x10 x11 x12 : Int) (x8 : Bool) (L : Rows) (hN : 2097152 < N) :
   Fq N [.str x0,.int x1,.int x2,.int x3,.int x4,.int x5,.int x6,.int x7,.bool x8,.int x9,.int x10,.int x11,.int x12,.rows L]=some [.int (dV L x3)]:=by
  show JB (std (KX N) N) (xOf _)=_;have e:∀ ls,KX N 115 [] ls=B5 N ls:=fun ls=>rfl
  simp only [JB,Alg.q,std,xOf,e,KQ,PXb,PXc,PXn,AE,dV];cases h8:iLt 8 (L.length:Int) with
  | true=>rfl
  | false =>
    have hl:L.length≤8:=by simp [iLt] at h8;omega
    simp only [cond_false];refine AW (Ci (len:=L.length) (iK L x3) ?_ ?_ L.length 0 N (by omega) (by omega)) ?_
    · intro self;simp only [PXb,PXc,PXn,AE,BI]
    · intro i self hi;simp only [PXb,PXc,PXn,AE,Int.toNat_natCast,Ax (show i≤1099511627776 by omega),Ar hi,AX hi,KQ,e,mw hi (by omega)];simp only [iK,mb,kY,atI];cases (iLt (pvI (AH L i 0)) 1||iLt (pvI (AH L i 1)) (pvI (AH L i 0))||iLt x3 (pvI (AH L i 1)) || !btw (pvI (AH L i 2)) 0 11) <;>
      cases (iLt 0 (i:Int)&&iLe (pvI (AH L i 0)) (pvI (AH L (IntKind.i64.wrap ((i:Int) - 1)).toNat 1)))<;>rfl
    · exact Zu _
def Kv (x0:ByteArray) (x1 x2 x3 x4 x5 x6 x7 x9 x10 x11 x12:Int) (L:Rows):Int :=
  cond (!VG x0) 5 (cond (!M3 x1 x2 x3 x4 x5 x6 x7 x9 x10 x11 x12) 2
    (cond ((!(x10==0)&&x2==1)||((!(x5==0)||iLt 0 (L.length:Int))&&x3==0)) 1
      (cond (!(x5==0)&&iLt (IntKind.i64.wrap (x5 * x1)) x3) 13 (dV L x3))))
theorem TF (N : Nat) (x0 : ByteArray) (x1 x2 x3 x4 x5 x6 x7 x9 x10 x11 x12 : Int) (x8 : Bool) (L : Rows) (hN : 2097152 < N) (hs : x0.size ≤ 1048576) :
   AP N [.str x0,.int x1,.int x2,.int x3,.int x4,.int x5,.int x6,.int x7,.bool x8,.int x9,.int x10,.int x11,.int x12,.rows L]=some [.int (Kv x0 x1 x2 x3 x4 x5 x6 x7 x9 x10 x11 x12 L)]:=by
  show J8 (std (E9 N) N) (xOf _)=_;have e:∀ ls,E9 N 92 [] ls=Ji N ls:=fun ls=>rfl
  have e2:∀ ls,E9 N 93 [] ls=FN N ls:=fun ls=>rfl
  have e3:∀ ls,E9 N 94 [] ls=Fq N ls:=fun ls=>rfl
  simp only [J8,Alg.q,std,xOf,e,e2,e3,fi N x0 (by omega) hs,YC,Zz N _ _ _ _ _ _ _ _ _ _ _ _ _ _ hN,PXb,PXc,AE,Kv];cases VG x0<;>cases M3 x1 x2 x3 x4 x5 x6 x7 x9 x10 x11 x12<;>try rfl
  simp only [PXb,PXc,AE,Bool.not_true];cases (!(x10==0)&&x2==1)<;>cases ((!(x5==0)||iLt 0 (L.length:Int))&&x3==0)<;>try rfl
  cases (!(x5==0)&&iLt (IntKind.i64.wrap (x5 * x1)) x3)<;>rfl
end Go.Px
end
section
namespace Go.Px
set_option maxRecDepth 100000
theorem Uv (N:Nat) (L:Rows) (v:Int) (hN:L.length<N) (hl:L.length≤2097152):DH N [.rows L,.int v]=some [.int (Of (fun j=>v==atI L j 0) L.length)]:=by
 show Ew (std (Lu N) N) (xOf _)=_;simp only [Ew,Alg.q,std,xOf,PXb,PXc,PXn,AE];refine AW (Ci (len:=L.length) (FX fun j=>v==atI L j 0) ?_ ?_ L.length 0 N (by omega) (by omega)) ?_
 ·intro self;simp only [PXb,PXc,PXn,AE,BI]
 ·intro i self hi;simp only [PXb,PXc,PXn,AE,Ax (show i≤1099511627776 by omega),Ar hi,AX hi,FX,CO];cases v==atI L i 0<;>rfl
 ·unfold Of;cases Br (FX fun j=>v==atI L j 0) L.length 0<;>rfl
def JM (L:Rows) (k:Nat) (v:Int):Bool:=BT (fun j=>v==atI L j 0) k 0
theorem Jl (N:Nat) (L:Rows) (v:Int) (hN:L.length<N) (hl:L.length≤2097152):Aj N [.rows L,.int v]=some [.bool (JM L L.length v)]:=by
 show DU (std (En N) N) (xOf _)=_;have e:∀ ls,En N 206 [] ls=DH N ls:=fun ls=>rfl
 simp only [DU,Alg.q,std,xOf,PXb,PXc,PXn,AE,e,Uv N L v hN hl,Ix,JM]
theorem lK (L:Rows) (i:Nat) (v:Int) (h:i≤L.length):JM (L.take i) (L.take i).length v=JM L i v:=by
 rw [List.length_take,Nat.min_eq_left h];exact ZZ i 0 (fun j _ hj=>by rw [lB (by omega)])
def Pw (L:Rows) (n:Int) (i:Nat):Bool := !btw (atI L i 0) 1 n||JM L i (atI L i 0)
def Je (L:Rows) (n:Int):Bool := !BT (Pw L n) L.length 0
theorem Lk (N:Nat) (L:Rows) (n:Int) (hN:L.length<N) (hl:L.length≤2097152):Cs N [.rows L,.int n]=some [.bool (Je L n)]:=by
 show EY (std (DS N) N) (xOf _)=_;have e:∀ ls,DS N 164 [] ls=Ag N ls:=fun ls=>rfl
 have e2:∀ ls,DS N 185 [] ls=Aj N ls:=fun ls=>rfl
 simp only [EY,Alg.q,std,xOf,PXb,PXc,PXn,AE];refine AW (Kc (len:=L.length) (Pw L n) [.bool false] ?_ ?_ N hN) ?_
 ·intro self;simp only [PXb,PXc,PXn,AE,BI]
 ·intro i self hi;have h1:(L.take i).length≤L.length:=List.length_take_le' i L;simp only [PXb,PXc,PXn,AE,Ax (show i≤1099511627776 by omega),Ar hi,AX hi,e,e2,DB,o4 (Nat.le_of_lt hi),Int.toNat_zero,List.drop_zero,Jl N (L.take i) _ (by omega) (by omega),lK L i _ (by omega),CO,Pw];cases btw (atI L i 0) 1 n<;>cases JM L i (atI L i 0)<;>rfl
 ·unfold Je;cases BT (Pw L n) L.length 0<;>rfl
theorem W2 (N:Nat) (v:Int):CM N [.int v]=some [.bool (!(v==0))]:=rfl
def lsI (L14 L16 L17 L19 L24:Rows) (b18 b20:Bool) (x0 x1 x2 x3 x4 x5 x6 x7 x8 x9 x10 x11 x12 x13 x15 x21 x22 x23 x25 x26 x27:Int):List PV :=
 [.int x0,.int x1,.int x2,.int x3,.int x4,.int x5,.int x6,.int x7,.int x8,.int x9,.int x10,.int x11,.int x12,.int x13,.rows L14,.int x15,.rows L16,.rows L17,.bool b18,.rows L19,.bool b20,.int x21,.int x22,.int x23,.rows L24,.int x25,.int x26,.int x27]
section
variable (N:Nat) (L14 L16 L17 L19 L24:Rows) (b18 b20:Bool) (x0 x1 x2 x3 x4 x5 x6 x7 x8 x9 x10 x11 x12 x13 x15 x21 x22 x23 x25 x26 x27:Int)
theorem Y4 (hN:L14.length<N) (hl:L14.length≤2097152):Bh N (lsI L14 L16 L17 L19 L24 b18 b20 x0 x1 x2 x3 x4 x5 x6 x7 x8 x9 x10 x11 x12 x13 x15 x21 x22 x23 x25 x26 x27)=some [.bool (EO L14)]:=by
 show D5 (std (ES N) N) (xOf (lsI ..))=_;have e:∀ ls,ES N 262 [] ls=CM N ls:=fun ls=>rfl
 simp only [D5,Alg.q,std,xOf,lsI,PXb,PXc,PXn,AE];rw [show EO L14=iLe 0 (Of (fun i => !(atI L14 i 0==0)) L14.length) from (Ix _ _).symm];rw [Option.bind_assoc];refine AW (Ci (len:=L14.length) (FX fun i => !(atI L14 i 0==0)) ?_ ?_ L14.length 0 N (by omega) (by omega)) ?_
 ·intro self;simp only [PXb,PXc,PXn,AE,BI]
 ·intro i self hi;simp only [PXb,PXc,PXn,AE,Ax (show i≤1099511627776 by omega),Ar hi,AX hi,FX,CO,e,W2];cases atI L14 i 0==0<;>rfl
 ·unfold Of;cases Br (FX fun i => !(atI L14 i 0==0)) L14.length 0<;>rfl
theorem X3 (hN:L14.length<N) (hl:L14.length≤2097152):BA N (lsI L14 L16 L17 L19 L24 b18 b20 x0 x1 x2 x3 x4 x5 x6 x7 x8 x9 x10 x11 x12 x13 x15 x21 x22 x23 x25 x26 x27)=some [.bool (MJ L14 x12 x13)]:=by
 show DM (std (Dp N) N) (xOf (lsI ..))=_;have e:∀ ls,Dp N 241 [] ls=Bh N ls:=fun ls=>rfl
 have:=Y4 N L14 L16 L17 L19 L24 b18 b20 x0 x1 x2 x3 x4 x5 x6 x7 x8 x9 x10 x11 x12 x13 x15 x21 x22 x23 x25 x26 x27 hN hl;simp only [lsI] at this;simp only [DM,Alg.q,std,xOf,lsI,PXb,PXc,PXn,AE,e,this,MJ]
theorem bF (hN:L14.length<N) (hl:L14.length≤2097152):CH N (lsI L14 L16 L17 L19 L24 b18 b20 x0 x1 x2 x3 x4 x5 x6 x7 x8 x9 x10 x11 x12 x13 x15 x21 x22 x23 x25 x26 x27)=some [.rows (EZ L14 L14.length)]:=by
 show Er (std (LM N) N) (xOf (lsI ..))=_;simp only [Er,Alg.q,std,xOf,lsI,PXb,PXc,PXn,AE];refine AW (DY (len:=L14.length) (fun i=>[.rows (EZ L14 i),.int (i:Int)]) [.rows (EZ L14 L14.length)] ?_ ?_ N hN) rfl
 ·intro self;simp only [PXb,PXc,PXn,AE,BI]
 ·intro i self hi;have h2:(EZ L14 i++[[PV.int ((i:Int)+1)]]).length≤4194304:=by have:=YL L14 i;simp;omega
  simp only [PXb,PXc,PXn,AE,Ax (show i≤1099511627776 by omega),Ar hi,AX hi,CO,EZ,Fp h2 (show 8≤4096 by omega)];cases (atI L14 i 0==0||atI L14 i 0==3)<;>rfl
end
theorem T0 (N:Nat) (v:Int):Cq N [.int v]=some [.bool (!btw v 0 1000000000)]:=by
 show Ee (std (F1 N) N) (xOf _)=_;have e:∀ ls,F1 N 164 [] ls=Ag N ls:=fun ls=>rfl
 simp only [Ee,Alg.q,std,xOf,PXb,PXc,PXn,AE,e,DB]
end Go.Px
end
section
namespace Go.Px
set_option maxRecDepth 100000
def pIs (L:Rows) (v:Int) (i:Nat):Bool:=atI L i 0==v
def VF (s n:Int) (i:Nat):Bool:=s==(i:Int)+1||n==(i:Int)+1
def PO (L:Rows) (s n:Int) (i:Nat):Bool:=iLt 3 (atI L i 0)||(pIs L 1 i && !VF s n i)
def Zi (L:Rows) (s n:Int) (i:Nat):Bool:=iLt 3 (atI L i 0) || !(pIs L 1 i==VF s n i)
def bI (L:Rows):Int:=CD (pIs L 2) L.length
def ins (L:Rows):Int:=CD (pIs L 1) L.length
def two (s n:Int):Int:=cond (!(n==0)) (IntKind.i64.wrap (cond (!(s==0)) (IntKind.i64.wrap (0+1)) 0+1)) (cond (!(s==0)) (IntKind.i64.wrap (0+1)) 0)
def dG (L:Rows) (s n wk k:Int):Bool :=
 !BT (PO L s n) L.length 0&&((btw s 0 k&&btw n 0 k)&&(!(s==n && !(s==0))&&((two s n==ins L&&(!EO L||iLt 0 (two s n)))&&bI L==wk)))
def Zf (L:Rows) (s n wk:Int):Bool :=
 !BT (Zi L s n) L.length 0&&(!((EO L&&iLt (ins L) 1)||(!(s==0)&&s==n))&&wk==bI L)
def jL (L:Rows):Nat→Bool
 | 0=>false
 | i+1=>jL L i || !(atI L i 0==0)
theorem gq (L:Rows):∀ i,jL L i=BT (fun j => !(atI L j 0==0)) i 0
 | 0=>rfl
 | i+1=>by rw [VJ,Nat.zero_add,← gq L i];rfl
section
variable (N:Nat) (L14 L16 L17 L19 L24:Rows) (b18 b20:Bool) (x0 x1 x2 x3 x4 x5 x6 x7 x8 x9 x10 x11 x12 x13 x15 x21 x22 x23 x25 x26 x27:Int)
theorem VX (k:Int) (hN:L14.length<N) (hl:L14.length≤2097152):Dj N (lsI L14 L16 L17 L19 L24 b18 b20 x0 x1 x2 x3 x4 x5 x6 x7 x8 x9 x10 x11 x12 x13 x15 x21 x22 x23 x25 x26 x27++[.int k])=some [.bool (dG L14 x12 x13 x4 k)]:=by
  simp only [lsI,List.cons_append,List.nil_append];show Fk (std (HX N) N) (xOf _)=_;have e:∀ ls,HX N 164 [] ls=Ag N ls:=fun ls=>rfl
  simp only [Fk,Alg.q,std,xOf,lsI,PXb,PXc,PXn,AE];refine AW (eW (len:=L14.length) (fun i=>[.int (CD (pIs L14 2) i),.int (CD (pIs L14 1) i),.bool (jL L14 i),.int (i:Int)])
    (PO L14 x12 x13) [.int 0,.bool false] [.int 1,.int (bI L14),.int (ins L14),.bool (EO L14)] ?_ ?_ N hN) ?_
  · intro self;simp only [PXb,PXc,PXn,AE,BI,gq];rfl
  · intro i self hi;simp only [PXb,PXc,AE,Ax (show i≤1099511627776 by omega),Ar hi,AX hi,CO,fH (pIs L14 2) (show i≤1099511627776 by omega),fH (pIs L14 1) (show i≤1099511627776 by omega)];unfold PO pIs VF;simp only [CD,jL];cases h3:iLt 3 (atI L14 i 0) with
    | true=>rfl
    | false =>
      cases h1:atI L14 i 0==1 with
      | true =>
        rw [nU h1];cases x12==(i:Int)+1<;>cases x13==(i:Int)+1<;>rfl
      | false=>cases h2:atI L14 i 0==2<;>rfl
  · unfold dG;simp only [e,DB];cases BT (PO L14 x12 x13) L14.length 0 with
    | true=>rfl
    | false =>
      simp only [PXb,PXc,PXn,AE];unfold two;cases btw x12 0 k<;>cases btw x13 0 k<;>try rfl
      cases x12==0<;>cases x13==0<;>cases x12==x13<;>try rfl
end
end Go.Px
end
section
namespace Go.Px
set_option maxRecDepth 100000
theorem nO (s n:Int):two s n=cond (!(s==0)) 1 0+cond (!(n==0)) 1 0:=by
 unfold two;cases s==0<;>cases n==0<;>rfl
theorem nJ {s n:Int} {len:Nat} (h1:0≤s∧s≤(len:Int)) (h2:0≤n∧n≤(len:Int)) (hd:(s==n && !(s==0))=false):two s n=CD (VF s n) len:=by
 have hs:iLe s (len:Int)=true:=by simp only [iLe,decide_eq_true_eq];omega
 have hn:iLe n (len:Int)=true:=by simp only [iLe,decide_eq_true_eq];omega
 unfold VF;rw [jx (p:=fun i=>s==(i:Int)+1) (q:=fun i=>n==(i:Int)+1) len (fun j _ hp=>by
  have e1:s=(j:Int)+1:=by simpa using hp
  show (n==(j:Int)+1)=false;rw [beq_eq_false_iff_ne];intro e2;have e3:(s==n)=true:=by rw [beq_iff_eq];omega
  have e4:(s==0)=false:=by rw [beq_eq_false_iff_ne];omega
  rw [e3,e4] at hd;cases hd),eV s len h1.1,eV n len h2.1,hs,hn,Bool.and_true,Bool.and_true,nO]
theorem mp (x:Int):iLt 0 x = !iLt x 1:=by
 unfold iLt;rw [Bool.eq_iff_iff];simp only [decide_eq_true_eq,Bool.not_eq_true',decide_eq_false_iff_not];omega
theorem l8 {L : Rows} {s n : Int} (h1 : 0 ≤ s ∧ s ≤ (L.length : Int)) (h2 : 0 ≤ n ∧ n ≤ (L.length : Int)) (hd : (s == n && !(s == 0)) = false) :
    (!BT (PO L s n) L.length 0&&two s n==ins L) = !BT (Zi L s n) L.length 0:=by
  have h2c:=nJ h1 h2 hd;rw [Bool.eq_iff_iff];simp only [Bool.and_eq_true,Bool.not_eq_true',Ik,beq_iff_eq];constructor
  · intro ⟨ha,hb⟩ j _ hj;have hm:∀ j,j<L.length→pIs L 1 j=true→VF s n j=true:=fun j hj hp=>by
      have:=ha j (Nat.zero_le _) (by omega);unfold PO at this;rw [hp] at this;simp only [Bool.or_eq_false_iff,Bool.true_and,Bool.not_eq_false'] at this;exact this.2
    have he:=kb L.length hm (by rw [← h2c,hb];rfl) j (by omega);have:=ha j (Nat.zero_le _) hj;unfold PO at this;unfold Zi;rw [Bool.or_eq_false_iff] at this ⊢;exact ⟨this.1,by rw [he];simp⟩
  · intro ha;have hm:∀ j,j<L.length→pIs L 1 j=VF s n j:=fun j hj=>by
      have:=ha j (Nat.zero_le _) (by omega);unfold Zi at this;rw [Bool.or_eq_false_iff] at this;simpa using this.2
    refine ⟨fun j h0 hj=>?_,?_⟩
    · have:=ha j h0 hj;unfold Zi at this;unfold PO;rw [Bool.or_eq_false_iff] at this ⊢;refine ⟨this.1,?_⟩;rw [hm j (by omega)];cases VF s n j<;>rfl
    · rw [h2c];exact (bv L.length hm).symm
theorem oN (L:Rows) (s n wk k:Int) (hk:(L.length:Int)=k):dG L s n wk k=(btw s 0 k&&btw n 0 k&&Zf L s n wk):=by
 subst hk;unfold dG Zf;cases hs:btw s 0 (L.length:Int) with
 | false=>simp only [Bool.false_and,Bool.and_false]
 | true =>
  cases hn:btw n 0 (L.length:Int) with
  | false=>simp only [Bool.false_and,Bool.and_false]
  | true =>
   have h1:0≤s∧s≤(L.length:Int):=by simpa [btw,iLe] using hs
   have h2:0≤n∧n≤(L.length:Int):=by simpa [btw,iLe] using hn
   simp only [Bool.true_and];cases hd:(s==n && !(s==0)) with
   | true =>
    have:(!(s==0)&&s==n)=true:=by rw [Bool.and_comm];exact hd
    rw [this];simp only [Bool.or_true,Bool.not_true,Bool.false_and,Bool.and_false]
   | false =>
    have:(!(s==0)&&s==n)=false:=by rw [Bool.and_comm];exact hd
    rw [this,← l8 h1 h2 hd];simp only [Bool.or_false,Bool.not_false,Bool.true_and];rw [show (wk==bI L)=(bI L==wk) from BEq.comm];cases hA:BT (PO L s n) L.length 0 with
    | true=>rfl
    | false =>
     cases hB:two s n==ins L with
     | false=>rfl
     | true =>
      rw [beq_iff_eq.1 hB,mp];simp only [Bool.true_and,Bool.not_false,Bool.not_and]
end Go.Px
end
section
namespace Go.Px
set_option maxRecDepth 100000
def IE (v:Int):Bool := !btw v 0 1000000000
def eS (x1 x3 x5 x6 x7 x8 x9 x10 x21 x23 x25 x26:Int):Rows:=[[.int x1],[.int x3],[.int x5],[.int x6],[.int x7],[.int x8],[.int x9],[.int x10],[.int x21],[.int x23],[.int x25],[.int x26]]
section
variable (N:Nat) (L14 L16 L17 L19 L24:Rows) (b18 b20:Bool) (x0 x1 x2 x3 x4 x5 x6 x7 x8 x9 x10 x11 x12 x13 x15 x21 x22 x23 x25 x26 x27:Int)
theorem VL (hN:2097152<N) (hl:L19.length≤1048576):Dr N (lsI L14 L16 L17 L19 L24 b18 b20 x0 x1 x2 x3 x4 x5 x6 x7 x8 x9 x10 x11 x12 x13 x15 x21 x22 x23 x25 x26 x27)=some [.bool (!(JO IE (eS x1 x3 x5 x6 x7 x8 x9 x10 x21 x23 x25 x26)||JO IE L19))]:=by
 show Fo (std (HY N) N) (xOf (lsI ..))=_;have e:∀ ls,HY N 186 [] ls=Cq N ls:=fun ls=>rfl
 rw [← eu];simp only [Fo,Alg.q,std,xOf,lsI,PXb,PXc,PXn,AE,eS];generalize hM:([PV.int x1]::[PV.int x3]::[PV.int x5]::[PV.int x6]::[PV.int x7]::[PV.int x8]::[PV.int x9]::[PV.int x10]::[PV.int x21]::[PV.int x23]::[PV.int x25]::[PV.int x26]::L19:Rows)=M;have hM2:M.length≤2097152:=by rw [← hM];simp only [List.length_cons];omega
 rw [Fp (n:=M.length) (by omega) (by omega)];simp only [PXb,PXc,PXn,AE];rw [Option.bind_assoc];refine AW (Ci (len:=M.length) (FX fun i=>IE (atI M i 0)) ?_ ?_ M.length 0 N (by omega) (by omega)) ?_
 ·intro self;simp only [PXb,PXc,PXn,AE,BI]
 ·intro i self hi;simp only [PXb,PXc,PXn,AE,Ax (show i≤1099511627776 by omega),Ar hi,AX hi,FX,CO,e,T0,IE];cases btw (atI M i 0) 0 1000000000<;>rfl
 ·unfold JO;rw [← Ix];unfold Of;cases Br (FX fun i=>IE (atI M i 0)) M.length 0<;>rfl
end
def aq (a3 x2:Int):Bool:=cond (a3==0) (x2==0) (btw x2 1 a3)
def SU (s:ByteArray) (a1 a2 a3 a4 a5 a6 a7 a9 a10 a11 a12:Int) (La L14 L16 L17 L19 L24:Rows) (x0 x1 x2 x3 x4 x5 x6 x7 x8 x9 x10 x11 x12 x13 x15 x21 x22 x23 x25 x26 x27:Int):Bool :=
  Kv s a1 a2 a3 a4 a5 a6 a7 a9 a10 a11 a12 La==0&&(btw x0 1 2&&((L14.length:Int)==a1&&((L19.length:Int)==a1&&((L24.length:Int)==a1&&(!iLt 5 x27 &&
    (btw x12 0 a1&&(btw x13 0 a1&&(Zf L14 x12 x13 x4&&(btw x15 0 a1&&(btw x22 0 a1&&(Je L16 a1&&(Je L17 a1&&(aq a3 x2&&(btw x11 0 (IntKind.i64.wrap (a4 - 1)) &&
      (!JO IE (eS x1 x3 x5 x6 x7 x8 x9 x10 x21 x23 x25 x26) && !JO IE L19)))))))))))))))
theorem ml {a:Int} (h:0≤a):iLt 0 a = !(a==0):=by
 unfold iLt;rw [Bool.eq_iff_iff];simp only [decide_eq_true_eq,Bool.not_eq_true',beq_eq_false_iff_ne];omega
section
variable (N:Nat) (s:ByteArray) (a1 a2 a3 a4 a5 a6 a7 a9 a10 a11 a12:Int) (a8:Bool) (La:Rows) (L14 L16 L17 L19 L24:Rows) (b18 b20:Bool) (x0 x1 x2 x3 x4 x5 x6 x7 x8 x9 x10 x11 x12 x13 x15 x21 x22 x23 x25 x26 x27:Int)
theorem QB (hN:2097152<N) (hs:s.size≤1048576) (h14:L14.length≤1048576) (h16:L16.length≤1048576) (h17:L17.length≤1048576) (h19:L19.length≤1048576):A9 N ([.str s,.int a1,.int a2,.int a3,.int a4,.int a5,.int a6,.int a7,.bool a8,.int a9,.int a10,.int a11,.int a12,.rows La]++lsI L14 L16 L17 L19 L24 b18 b20 x0 x1 x2 x3 x4 x5 x6 x7 x8 x9 x10 x11 x12 x13 x15 x21 x22 x23 x25 x26 x27)=some [.bool (SU s a1 a2 a3 a4 a5 a6 a7 a9 a10 a11 a12 La L14 L16 L17 L19 L24 x0 x1 x2 x3 x4 x5 x6 x7 x8 x9 x10 x11 x12 x13 x15 x21 x22 x23 x25 x26 x27)]:=by
 simp only [lsI,List.cons_append,List.nil_append];show Hm (std (B2 N) N) (xOf _)=_;have e1:∀ ls,B2 N 70 [] ls=AP N ls:=fun ls=>rfl
 have e2:∀ ls,B2 N 164 [] ls=Ag N ls:=fun ls=>rfl
 have e3:∀ ls,B2 N 165 [] ls=Dj N ls:=fun ls=>rfl
 have e4:∀ ls,B2 N 166 [] ls=Cs N ls:=fun ls=>rfl
 have e5:∀ ls,B2 N 167 [] ls=Dr N ls:=fun ls=>rfl
 have l54:=VX N L14 L16 L17 L19 L24 b18 b20 x0 x1 x2 x3 x4 x5 x6 x7 x8 x9 x10 x11 x12 x13 x15 x21 x22 x23 x25 x26 x27 a1 (by omega) (by omega);have l56:=VL N L14 L16 L17 L19 L24 b18 b20 x0 x1 x2 x3 x4 x5 x6 x7 x8 x9 x10 x11 x12 x13 x15 x21 x22 x23 x25 x26 x27 (by omega) (by omega);simp only [lsI,List.cons_append,List.nil_append] at l54 l56;simp only [Hm,Alg.q,std,xOf,PXb,PXc,PXn,AE,e1,e2,e3,e4,e5,TF N s _ _ _ _ _ _ _ _ _ _ _ _ _ hN hs,DB,l54,l56,Lk N L16 _ (by omega) (by omega),Lk N L17 _ (by omega) (by omega)];unfold SU aq;cases hc:Kv s a1 a2 a3 a4 a5 a6 a7 a9 a10 a11 a12 La==0<;>try rfl
 cases btw x0 1 2<;>try rfl
 cases h14:(L14.length:Int)==a1<;>try rfl
 cases (L19.length:Int)==a1<;>try rfl
 cases (L24.length:Int)==a1<;>try rfl
 cases iLt 5 x27<;>try rfl
 rw [oN L14 x12 x13 x4 a1 (beq_iff_eq.1 h14)];cases btw x12 0 a1<;>try rfl
 cases btw x13 0 a1<;>try rfl
 cases Zf L14 x12 x13 x4<;>try rfl
 cases btw x15 0 a1<;>try rfl
 cases btw x22 0 a1<;>try rfl
 cases Je L16 a1<;>try rfl
 cases Je L17 a1<;>try rfl
 cases a3==0<;>cases x2==0<;>cases btw x2 1 a3<;>rfl
end
end Go.Px
end
section
namespace Go.Px
set_option maxRecDepth 100000
def lF (v:Bool) (L:Rows) (s n:Int) (x1 x2 x3 x10:Int):Int :=
 cond (!v) 0 (cond (iLt 0 x1&&iLe x1 x3) 3 (cond (MJ L s n&&((EZ L L.length).length:Int)==0) 1 (cond (iLt 0 x2&&iLe x2 x10) 2 0)))
theorem pA {c:Int} {n:Nat} (hc:0≤c):iRg 0 (cond (iLt c (n:Int)) c (n:Int)) (n:Int)=true:=by
 cases h:iLt c (n:Int) with
 | true=>simp only [iLt,decide_eq_true_eq] at h;simp only [cond_true,iRg,decide_eq_true_eq];omega
 | false=>simp only [cond_false,iRg,decide_eq_true_eq];omega
def cut (L:Rows) (c:Int):Rows:=(L.take (cond (iLt c (L.length:Int)) c (L.length:Int)).toNat).drop (0:Int).toNat
end Go.Px
end
section
namespace Go.Px
set_option maxRecDepth 100000
section
variable (N:Nat) (s:ByteArray) (a1 a2 a3 a4 a5 a6 a7 a9 a10 a11 a12:Int) (a8:Bool) (La:Rows) (L14 L16 L17 L19 L24:Rows) (b18 b20:Bool) (x0 x1 x2 x3 x4 x5 x6 x7 x8 x9 x10 x11 x12 x13 x15 x21 x22 x23 x25 x26 x27:Int)
theorem W9 (hN : 2097152 < N) (hs : s.size ≤ 1048576) (h14 : L14.length ≤ 1048576) (h16 : L16.length ≤ 1048576) (h17 : L17.length ≤ 1048576) (h19 : L19.length ≤ 1048576) : Cz N ([.str s, .int a1, .int a2, .int a3, .int a4, .int a5, .int a6, .int a7, .bool a8, .int a9, .int a10, .int a11, .int a12, .rows La] ++ lsI L14 L16 L17 L19 L24 b18 b20 x0 x1 x2 x3 x4 x5 x6 x7 x8 x9 x10 x11 x12 x13 x15 x21 x22 x23 x25 x26 x27) =
    some [.int (lF (SU s a1 a2 a3 a4 a5 a6 a7 a9 a10 a11 a12 La L14 L16 L17 L19 L24 x0 x1 x2 x3 x4 x5 x6 x7 x8 x9 x10 x11 x12 x13 x15 x21 x22 x23 x25 x26 x27) L14 x12 x13 x1 x2 x3 x10)]:=by
  simp only [lsI,List.cons_append,List.nil_append];show Gj (std (DF N) N) (xOf _)=_;have e1:∀ ls,DF N 140 [] ls=A9 N ls:=fun ls=>rfl
  have e2:∀ ls,DF N 224 [] ls=BA N ls:=fun ls=>rfl
  have e3:∀ ls,DF N 225 [] ls=CH N ls:=fun ls=>rfl
  have l16:=QB N s a1 a2 a3 a4 a5 a6 a7 a9 a10 a11 a12 a8 La L14 L16 L17 L19 L24 b18 b20 x0 x1 x2 x3 x4 x5 x6 x7 x8 x9 x10 x11 x12 x13 x15 x21 x22 x23 x25 x26 x27 hN hs h14 h16 h17 h19;have l61:=X3 N L14 L16 L17 L19 L24 b18 b20 x0 x1 x2 x3 x4 x5 x6 x7 x8 x9 x10 x11 x12 x13 x15 x21 x22 x23 x25 x26 x27 (by omega) (by omega);have l62:=bF N L14 L16 L17 L19 L24 b18 b20 x0 x1 x2 x3 x4 x5 x6 x7 x8 x9 x10 x11 x12 x13 x15 x21 x22 x23 x25 x26 x27 (by omega) (by omega);simp only [lsI,List.cons_append,List.nil_append] at l16 l61 l62;simp only [Gj,Alg.q,std,xOf,PXb,PXc,PXn,AE,e1,e2,e3,l16,l61,l62,lF];cases SU s a1 a2 a3 a4 a5 a6 a7 a9 a10 a11 a12 La L14 L16 L17 L19 L24 x0 x1 x2 x3 x4 x5 x6 x7 x8 x9 x10 x11 x12 x13 x15 x21 x22 x23 x25 x26 x27<;>try rfl
  cases (iLt 0 x1&&iLe x1 x3)<;>try rfl
  cases MJ L14 x12 x13
  · cases (iLt 0 x2&&iLe x2 x10)<;>rfl
  · simp only [PXb,PXc,PXn,AE];cases ((EZ L14 L14.length).length:Int)==0<;>cases (iLt 0 x2&&iLe x2 x10)<;>rfl
end
end Go.Px
end
section
namespace Go.Px
set_option maxRecDepth 100000
section
variable (N:Nat) (s:ByteArray) (a1 a2 a3 a4 a5 a6 a7 a9 a10 a11 a12:Int) (a8:Bool) (La:Rows) (L14 L16 L17 L19 L24:Rows) (b18 b20:Bool) (x0 x1 x2 x3 x4 x5 x6 x7 x8 x9 x10 x11 x12 x13 x15 x21 x22 x23 x25 x26 x27:Int)
def OA (a4 x10 x11:Int):Int:=IntKind.i64.wrap (IntKind.i64.wrap (x10 * a4)+x11)
end
end Go.Px
end
section
namespace Go.Px
set_option maxRecDepth 100000
def BQ (r:Rul):Int:=Kv r.name r.side r.innings r.overs r.balls r.quota r.wide r.noball r.newball r.followon r.reviews r.outside r.power
theorem Ce {N:Nat} {r8:Bool} {r0:ByteArray} {r13:Rows} (hN:2097152<N) (hs:r0.size≤1048576):AP N [.str r0,.int r1,.int r2,.int r3,.int r4,.int r5,.int r6,.int r7,.bool r8,.int r9,.int r10,.int r11,.int r12,.rows r13]=some [.int (BQ (⟨r0,r1,r2,r3,r4,r5,r6,r7,r8,r9,r10,r11,r12,r13⟩:Rul))]:=by
 exact TF N _ _ _ _ _ _ _ _ _ _ _ _ _ _ hN hs
theorem SE {N:Nat} {s18 s20:Bool} (h:Fit s14 s16 s17 s19 s24):CA N [.int s0,.int s1,.int s2,.int s3,.int s4,.int s5,.int s6,.int s7,.int s8,.int s9,.int s10,.int s11,.int s12,.int s13,.rows s14,.int s15,.rows s16,.rows s17,.bool s18,.rows s19,.bool s20,.int s21,.int s22,.int s23,.rows s24,.int s25,.int s26,.int s27]=some [.int s0,.int s1,.int s2,.int s3,.int s4,.int s5,.int s6,.int s7,.int s8,.int s9,.int s10,.int s11,.int s12,.int s13,.rows s14,.int s15,.rows s16,.rows s17,.bool s18,.rows s19,.bool s20,.int s21,.int s22,.int s23,.rows s24,.int s25,.int s26,.int s27]:=by
 show NW (std (HH N) N) (xOf _)=_;simp only [NW,Kz,Mg,MN,Alg.q,std,xOf,PXb,PXc,PXn,PXm,Nat.reduceAdd,Int.reduceBEq,AR,Aa,AY,BN h.bt (show 1≤4096 by omega),BN h.bw' (show 8≤4096 by omega),BN h.bf (show 8≤4096 by omega),BN h.bd (show 8≤4096 by omega),BN h.sb (show 1≤4096 by omega)]
theorem R0 {N:Nat} {s18 s20:Bool} (h:Fit s14 s16 s17 s19 s24):CG N [.int s0,.int s1,.int s2,.int s3,.int s4,.int s5,.int s6,.int s7,.int s8,.int s9,.int s10,.int s11,.int s12,.int s13,.rows s14,.int s15,.rows s16,.rows s17,.bool s18,.rows s19,.bool s20,.int s21,.int s22,.int s23,.rows s24,.int s25,.int s26,.int s27]=some [.int s0,.int s1,.int s2,.int s3,.int s4,.int s5,.int s6,.int s7,.int s8,.int s9,.int s10,.int s11,.int s12,.int s13,.rows s14,.int s15,.rows s16,.rows s17,.bool s18,.rows s19,.bool s20,.int s21,.int s22,.int s23,.rows s24,.int s25,.int s26,.int s27]:=by
 show NV (std (HF N) N) (xOf _)=_;simp only [NV,K2,Mq,MR,Alg.q,std,xOf,PXb,PXc,PXn,PXm,Nat.reduceAdd,Int.reduceBEq,AR,Aa,AY,BN h.bt (show 1≤4096 by omega),BN h.bw' (show 8≤4096 by omega),BN h.bf (show 8≤4096 by omega),BN h.bd (show 8≤4096 by omega),BN h.sb (show 1≤4096 by omega)]
theorem Bo {N:Nat} {s18 s20:Bool} (h:Fit s14 s16 s17 s19 s24):AO N [.int s0,.int s1,.int s2,.int s3,.int s4,.int s5,.int s6,.int s7,.int s8,.int s9,.int s10,.int s11,.int s12,.int s13,.rows s14,.int s15,.rows s16,.rows s17,.bool s18,.rows s19,.bool s20,.int s21,.int s22,.int s23,.rows s24,.int s25,.int s26,.int s27]=some [.int s0,.int s1,.int s2,.int s3,.int s4,.int s5,.int s6,.int s7,.int s8,.int s9,.int s10,.int s11,.int s12,.int s13,.rows s14,.int s15,.rows s16,.rows s17,.bool s18,.rows s19,.bool s20,.int s21,.int s22,.int s23,.rows s24,.int s25,.int s26,.int s27]:=by
 show Hj (std (Dq N) N) (xOf _)=_;simp only [Hj,Ir,Kd,JX,Alg.q,std,xOf,PXb,PXc,PXn,PXm,Nat.reduceAdd,Int.reduceBEq,AR,Aa,AY,BN h.bt (show 1≤4096 by omega),BN h.bw' (show 8≤4096 by omega),BN h.bf (show 8≤4096 by omega),BN h.bd (show 8≤4096 by omega),BN h.sb (show 1≤4096 by omega)]
theorem OW {N:Nat} {s18 s20:Bool} {p:Int}  : Bc N [.int s0,.int s1,.int s2,.int s3,.int s4,.int s5,.int s6,.int s7,.int s8,.int s9,.int s10,.int s11,.int s12,.int s13,.rows s14,.int s15,.rows s16,.rows s17,.bool s18,.rows s19,.bool s20,.int s21,.int s22,.int s23,.rows s24,.int s25,.int s26,.int s27,.int p]=some [.bool (inR p s19.length)]:=by
 show KK (std (RE N) N) (xOf _)=_;simp only [KK,Alg.q,std,xOf,PXb,PXc,PXn,PXm,Nat.reduceAdd,Int.reduceBEq];rfl
theorem HG {N:Nat} {s18 s20:Bool} {p:Int}  : Au N [.int s0,.int s1,.int s2,.int s3,.int s4,.int s5,.int s6,.int s7,.int s8,.int s9,.int s10,.int s11,.int s12,.int s13,.rows s14,.int s15,.rows s16,.rows s17,.bool s18,.rows s19,.bool s20,.int s21,.int s22,.int s23,.rows s24,.int s25,.int s26,.int s27,.int p]=some [.bool (inR p s24.length)]:=by
 show KJ (std (Ra N) N) (xOf _)=_;simp only [KJ,Alg.q,std,xOf,PXb,PXc,PXn,PXm,Nat.reduceAdd,Int.reduceBEq];rfl
def atB (L:Rows) (i j:Nat):Bool:=pvB (AH L i j)
theorem nj (L:Rows) (i j:Nat):pvB (AH L i j)=atB L i j:=rfl
def Ga (s:Inn) (p:Int):Bool:=inR p s.subs.length&&atB s.subs (ix p) 0
theorem Gu {N:Nat} {s18 s20:Bool} {p:Int} (h:s24.length≤1048576):Aq N [.int s0,.int s1,.int s2,.int s3,.int s4,.int s5,.int s6,.int s7,.int s8,.int s9,.int s10,.int s11,.int s12,.int s13,.rows s14,.int s15,.rows s16,.rows s17,.bool s18,.rows s19,.bool s20,.int s21,.int s22,.int s23,.rows s24,.int s25,.int s26,.int s27,.int p]=some [.bool (Ga (⟨s0,s1,s2,s3,s4,s5,s6,s7,s8,s9,s10,s11,s12,s13,s14,s15,s16,s17,s18,s19,s20,s21,s22,s23,s24,s25,s26,s27⟩:Inn) p)]:=by
 show Gm (std (IK N) N) (xOf _)=_;generalize hres:(some [.bool (Ga (⟨s0,s1,s2,s3,s4,s5,s6,s7,s8,s9,s10,s11,s12,s13,s14,s15,s16,s17,s18,s19,s20,s21,s22,s23,s24,s25,s26,s27⟩:Inn) p)]:Option (List PV))=RR;simp only [Gm,My,Alg.q,std,xOf,PXb,PXc,PXn,PXm,Nat.reduceAdd,Int.reduceBEq,HG,oX h];subst hres;simp only [Ga];cases hp:inR p s24.length with
 | false=>rfl
 | true=>first | rfl | (rw [J0 hp h];rfl)
def iM (x:Int):Int:=cond (iLt x 0) 0 x
def Zd (r:Rul) (s:Inn) (p:Int):Int :=
 cond (!inR p s.bowled.length || !(BQ r==0)) 0 (cond (r.quota==0) (-1) (iM (IntKind.i64.wrap (IntKind.i64.wrap (r.quota * r.balls) - iM (atI s.bowled (ix p) 0)))))
theorem dq {N:Nat} {r8:Bool} {r0:ByteArray} {r13:Rows} {s18 s20:Bool} {p:Int} (h:Fit s14 s16 s17 s19 s24) (hN:2097152<N) (hs:r0.size≤1048576):IY N [.str r0,.int r1,.int r2,.int r3,.int r4,.int r5,.int r6,.int r7,.bool r8,.int r9,.int r10,.int r11,.int r12,.rows r13,.int s0,.int s1,.int s2,.int s3,.int s4,.int s5,.int s6,.int s7,.int s8,.int s9,.int s10,.int s11,.int s12,.int s13,.rows s14,.int s15,.rows s16,.rows s17,.bool s18,.rows s19,.bool s20,.int s21,.int s22,.int s23,.rows s24,.int s25,.int s26,.int s27,.int p]=some [.int (Zd (⟨r0,r1,r2,r3,r4,r5,r6,r7,r8,r9,r10,r11,r12,r13⟩:Rul) (⟨s0,s1,s2,s3,s4,s5,s6,s7,s8,s9,s10,s11,s12,s13,s14,s15,s16,s17,s18,s19,s20,s21,s22,s23,s24,s25,s26,s27⟩:Inn) p)]:=by
 show L8 (std (I7 N) N) (xOf _)=_;generalize hres:(some [.int (Zd (⟨r0,r1,r2,r3,r4,r5,r6,r7,r8,r9,r10,r11,r12,r13⟩:Rul) (⟨s0,s1,s2,s3,s4,s5,s6,s7,s8,s9,s10,s11,s12,s13,s14,s15,s16,s17,s18,s19,s20,s21,s22,s23,s24,s25,s26,s27⟩:Inn) p)]:Option (List PV))=RR;simp only [L8,QS,P2,Alg.q,std,xOf,PXb,PXc,PXn,PXm,Nat.reduceAdd,Int.reduceBEq,Ce hN hs,OW];subst hres;simp only [Zd];cases hp:inR p s19.length with
 | false=>rfl
 | true=>rw [J0 hp h.bd];cases BQ (⟨r0,r1,r2,r3,r4,r5,r6,r7,r8,r9,r10,r11,r12,r13⟩:Rul)==0<;>cases r5==0<;>rfl
theorem Ko {N:Nat} {L:Rows} {v:Int} (hN:2097152<N) (hl:L.length≤1048576):Aj N [.rows L,.int v]=some [.bool (JM L L.length v)]:=by
 exact Jl N L v (by omega) (by omega)
def Pr (r:Rul) (s:Inn) (p:Int):Int :=
  cond (!inR p s.bowled.length || !(BQ r==0)) 3 (cond (p==s.keeper||p==s.bowler||Ga s p) 7
    (cond (JM s.before s.before.length p) 8 (cond (!(Zd r s p == -1)&&iLt s.inover (IntKind.i64.wrap (r.balls - Zd r s p))) 9 0)))
theorem jh {p:Int} {n m:Nat} (h:inR p n=true):inR p m=iLe p (m:Int):=by
 unfold inR at h ⊢;rw [Bool.and_eq_true] at h;rw [h.1,Bool.true_and]
theorem gh {N:Nat} {r8:Bool} {r0:ByteArray} {r13:Rows} {s18 s20:Bool} {p:Int} (h:Fit s14 s16 s17 s19 s24) (hN:2097152<N) (hs:r0.size≤1048576):Jk N [.str r0,.int r1,.int r2,.int r3,.int r4,.int r5,.int r6,.int r7,.bool r8,.int r9,.int r10,.int r11,.int r12,.rows r13,.int s0,.int s1,.int s2,.int s3,.int s4,.int s5,.int s6,.int s7,.int s8,.int s9,.int s10,.int s11,.int s12,.int s13,.rows s14,.int s15,.rows s16,.rows s17,.bool s18,.rows s19,.bool s20,.int s21,.int s22,.int s23,.rows s24,.int s25,.int s26,.int s27,.int p]=some [.int (Pr (⟨r0,r1,r2,r3,r4,r5,r6,r7,r8,r9,r10,r11,r12,r13⟩:Rul) (⟨s0,s1,s2,s3,s4,s5,s6,s7,s8,s9,s10,s11,s12,s13,s14,s15,s16,s17,s18,s19,s20,s21,s22,s23,s24,s25,s26,s27⟩:Inn) p)]:=by
 show NX (std (Es N) N) (xOf _)=_;generalize hres:(some [.int (Pr (⟨r0,r1,r2,r3,r4,r5,r6,r7,r8,r9,r10,r11,r12,r13⟩:Rul) (⟨s0,s1,s2,s3,s4,s5,s6,s7,s8,s9,s10,s11,s12,s13,s14,s15,s16,s17,s18,s19,s20,s21,s22,s23,s24,s25,s26,s27⟩:Inn) p)]:Option (List PV))=RR;simp only [NX,Q2,Kx,Q1,R8,Alg.q,std,xOf,PXb,PXc,PXn,PXm,Nat.reduceAdd,Int.reduceBEq,Ce hN hs,OW,dq h hN hs,Ko hN h.bf];subst hres;simp only [Pr,Ga];cases hp:inR p s19.length with
 | false=>rfl
 | true =>
  rw [jh (m:=s24.length) hp];have hq:(!(iLe p (s24.length:Int))||iIn (IntKind.i64.wrap (p - 1)) (s24.length:Int))=true:=by
   cases h1:iLe p (s24.length:Int) with
   | false=>rfl
   | true=>rw [J0 (by rw [jh hp];exact h1) h.sb];rfl
  rw [hq];cases BQ (⟨r0,r1,r2,r3,r4,r5,r6,r7,r8,r9,r10,r11,r12,r13⟩:Rul)==0<;>rfl
def Wo (r:Rul) (s:Inn) (p:Int):Inn×Int:=(cond (Pr r s p==0) { s with bowler:=p } s,Pr r s p)
theorem dg {N:Nat} {r8:Bool} {r0:ByteArray} {r13:Rows} {s18 s20:Bool} {p:Int} (h:Fit s14 s16 s17 s19 s24) (hN:2097152<N) (hs:r0.size≤1048576):H1 N [.str r0,.int r1,.int r2,.int r3,.int r4,.int r5,.int r6,.int r7,.bool r8,.int r9,.int r10,.int r11,.int r12,.rows r13,.int s0,.int s1,.int s2,.int s3,.int s4,.int s5,.int s6,.int s7,.int s8,.int s9,.int s10,.int s11,.int s12,.int s13,.rows s14,.int s15,.rows s16,.rows s17,.bool s18,.rows s19,.bool s20,.int s21,.int s22,.int s23,.rows s24,.int s25,.int s26,.int s27,.int p]=some (BB (Wo (⟨r0,r1,r2,r3,r4,r5,r6,r7,r8,r9,r10,r11,r12,r13⟩:Rul) (⟨s0,s1,s2,s3,s4,s5,s6,s7,s8,s9,s10,s11,s12,s13,s14,s15,s16,s17,s18,s19,s20,s21,s22,s23,s24,s25,s26,s27⟩:Inn) p)):=by
 show L5 (std (I6 N) N) (xOf _)=_;generalize hres:(some (BB (Wo (⟨r0,r1,r2,r3,r4,r5,r6,r7,r8,r9,r10,r11,r12,r13⟩:Rul) (⟨s0,s1,s2,s3,s4,s5,s6,s7,s8,s9,s10,s11,s12,s13,s14,s15,s16,s17,s18,s19,s20,s21,s22,s23,s24,s25,s26,s27⟩:Inn) p)):Option (List PV))=RR;simp only [L5,SK,R6,Alg.q,std,xOf,PXb,PXc,PXn,PXm,Nat.reduceAdd,Int.reduceBEq,SE h,gh h hN hs];subst hres;simp only [Wo];cases Pr (⟨r0,r1,r2,r3,r4,r5,r6,r7,r8,r9,r10,r11,r12,r13⟩:Rul) (⟨s0,s1,s2,s3,s4,s5,s6,s7,s8,s9,s10,s11,s12,s13,s14,s15,s16,s17,s18,s19,s20,s21,s22,s23,s24,s25,s26,s27⟩:Inn) p==0<;>rfl
def lM (x:Inn×Bool):List PV:=[.int x.1.side,.int x.1.target,.int x.1.overs,.int x.1.runs,.int x.1.wickets,.int x.1.wides,.int x.1.noballs,.int x.1.byes,.int x.1.legbyes,.int x.1.pens,.int x.1.complete,.int x.1.inover,.int x.1.striker,.int x.1.other,.rows x.1.batters,.int x.1.bowler,.rows x.1.bowlers,.rows x.1.before,.bool x.1.fresh,.rows x.1.bowled,.bool x.1.freehit,.int x.1.ballage,.int x.1.keeper,.int x.1.outside,.rows x.1.subs,.int x.1.rev1,.int x.1.rev2,.int x.1.ending,.bool x.2]
def inc (x:Int):Int:=IntKind.i64.wrap (x+1)
def J4 (r:Rul) (s:Inn) (counts:Bool):Inn×Bool :=
  cond (!inR s.bowler s.bowled.length || !(BQ r==0)) (s,false)
    (let L:=cond (JM s.bowlers s.bowlers.length s.bowler) s.bowlers (s.bowlers++[[.int s.bowler]])
     let o:=cond counts (inc s.inover) s.inover
     let t:Inn:={ s with bowlers:=L,bowled:=cond counts (NF s.bowled s.bowler (inc (atI s.bowled (ix s.bowler) 0))) s.bowled,inover:=o,ballage:=cond counts (inc s.ballage) s.ballage }
     cond (iLt o r.balls) (t,false) ({ t with complete:=inc s.complete,inover:=0,before:=L,bowlers:=[],bowler:=0 },true))
theorem fq {N:Nat} {r8:Bool} {r0:ByteArray} {r13:Rows} {s18 s20:Bool} {b:Bool} (h:Fit s14 s16 s17 s19 s24) (hw:s16.length≤1048575) (hN:2097152<N) (hs:r0.size≤1048576):H4 N [.str r0,.int r1,.int r2,.int r3,.int r4,.int r5,.int r6,.int r7,.bool r8,.int r9,.int r10,.int r11,.int r12,.rows r13,.int s0,.int s1,.int s2,.int s3,.int s4,.int s5,.int s6,.int s7,.int s8,.int s9,.int s10,.int s11,.int s12,.int s13,.rows s14,.int s15,.rows s16,.rows s17,.bool s18,.rows s19,.bool s20,.int s21,.int s22,.int s23,.rows s24,.int s25,.int s26,.int s27,.bool b]=some (lM (J4 (⟨r0,r1,r2,r3,r4,r5,r6,r7,r8,r9,r10,r11,r12,r13⟩:Rul) (⟨s0,s1,s2,s3,s4,s5,s6,s7,s8,s9,s10,s11,s12,s13,s14,s15,s16,s17,s18,s19,s20,s21,s22,s23,s24,s25,s26,s27⟩:Inn) b)):=by
 show LI (std (D7 N) N) (xOf _)=_;generalize hres:(some (lM (J4 (⟨r0,r1,r2,r3,r4,r5,r6,r7,r8,r9,r10,r11,r12,r13⟩:Rul) (⟨s0,s1,s2,s3,s4,s5,s6,s7,s8,s9,s10,s11,s12,s13,s14,s15,s16,s17,s18,s19,s20,s21,s22,s23,s24,s25,s26,s27⟩:Inn) b)):Option (List PV))=RR;have ha:(s16++[[PV.int s15]]).length≤1048576:=by simp;omega
 simp only [LI,P6,KV,R9,Qe,Alg.q,std,xOf,PXb,PXc,PXn,PXm,Nat.reduceAdd,Int.reduceBEq,SE h,OW,Ce hN hs,Ko hN h.bw',ol ha (show 8≤4096 by omega)];subst hres;simp only [J4];cases hp:inR s15 s19.length with
 | false=>rfl
 | true =>
  rw [J0 hp h.bd];cases BQ (⟨r0,r1,r2,r3,r4,r5,r6,r7,r8,r9,r10,r11,r12,r13⟩:Rul)==0<;>try rfl
  cases JM s16 s16.length s15<;>cases b<;>simp only [PXb,PXc,PXn,PXm,Nat.reduceAdd,Int.reduceBEq,inc]
  all_goals first | (cases iLt s11 r4<;>rfl) | (cases iLt (IntKind.i64.wrap (s11+1)) r4<;>rfl)
def Mi (r:Rul) (s:Inn):Inn×Int :=
 cond (!(BQ r==0)||r.newball==0||iLt s.ballage (IntKind.i64.wrap (r.newball * r.balls))) (s,22) ({ s with ballage:=0 },0)
theorem Zr {N:Nat} {r8:Bool} {r0:ByteArray} {r13:Rows} {s18 s20:Bool} (h:Fit s14 s16 s17 s19 s24) (hN:2097152<N) (hs:r0.size≤1048576):FQ N [.str r0,.int r1,.int r2,.int r3,.int r4,.int r5,.int r6,.int r7,.bool r8,.int r9,.int r10,.int r11,.int r12,.rows r13,.int s0,.int s1,.int s2,.int s3,.int s4,.int s5,.int s6,.int s7,.int s8,.int s9,.int s10,.int s11,.int s12,.int s13,.rows s14,.int s15,.rows s16,.rows s17,.bool s18,.rows s19,.bool s20,.int s21,.int s22,.int s23,.rows s24,.int s25,.int s26,.int s27]=some (BB (Mi (⟨r0,r1,r2,r3,r4,r5,r6,r7,r8,r9,r10,r11,r12,r13⟩:Rul) (⟨s0,s1,s2,s3,s4,s5,s6,s7,s8,s9,s10,s11,s12,s13,s14,s15,s16,s17,s18,s19,s20,s21,s22,s23,s24,s25,s26,s27⟩:Inn))):=by
 show Hi (std (Fm N) N) (xOf _)=_;generalize hres:(some (BB (Mi (⟨r0,r1,r2,r3,r4,r5,r6,r7,r8,r9,r10,r11,r12,r13⟩:Rul) (⟨s0,s1,s2,s3,s4,s5,s6,s7,s8,s9,s10,s11,s12,s13,s14,s15,s16,s17,s18,s19,s20,s21,s22,s23,s24,s25,s26,s27⟩:Inn))):Option (List PV))=RR;simp only [Hi,Nw,Pf,Alg.q,std,xOf,PXb,PXc,PXn,PXm,Nat.reduceAdd,Int.reduceBEq,SE h,Ce hN hs];subst hres;simp only [Mi];cases (!(BQ (⟨r0,r1,r2,r3,r4,r5,r6,r7,r8,r9,r10,r11,r12,r13⟩:Rul)==0)||r9==0||iLt s21 (IntKind.i64.wrap (r9 * r4)))<;>rfl
end Go.Px
end
section
namespace Go.Px
set_option maxRecDepth 100000
def fK (r:Rul) (over:Int):Int :=
 match Br (fun i=>cond (iLe (atI r.power i 0) (inc over)&&iLe (inc over) (atI r.power i 1)) (some [.int (atI r.power i 2)]) none) r.power.length 0 with
 | some x=>pvI (AA x 0)
 | none=>r.outside
theorem ZB {N:Nat} {r8:Bool} {r0:ByteArray} {r13:Rows} {o:Int} (hN:2097152<N) (h13:r13.length≤1048576):FG N [.str r0,.int r1,.int r2,.int r3,.int r4,.int r5,.int r6,.int r7,.bool r8,.int r9,.int r10,.int r11,.int r12,.rows r13,.int o]=some [.int (fK (⟨r0,r1,r2,r3,r4,r5,r6,r7,r8,r9,r10,r11,r12,r13⟩:Rul) o)]:=by
 show Hh (std (O4 N) N) (xOf _)=_;simp only [Hh,Alg.q,std,xOf,PXb,PXc,PXn,AE];refine AW (Ci (len:=r13.length) (fun i=>cond (iLe (atI r13 i 0) (inc o)&&iLe (inc o) (atI r13 i 1)) (some [.int (atI r13 i 2)]) none) ?_ ?_ r13.length 0 N (by omega) (by omega)) ?_
 ·intro self;simp only [PXb,PXc,PXn,AE,BI]
 ·intro i self hi;simp only [PXb,PXc,PXn,AE,Ax (show i≤1099511627776 by omega),Ar hi,AX hi];cases hq:iLe (atI r13 i 0) (inc o)&&iLe (inc o) (atI r13 i 1)<;>unfold inc atI at hq<;>rw [hq]<;>rfl
 ·unfold fK;cases Br (fun i=>cond (iLe (atI r13 i 0) (inc o)&&iLe (inc o) (atI r13 i 1)) (some [.int (atI r13 i 2)]) none) r13.length 0<;>rfl
def Pq (s:Inn) (p:Int):Inn×Int :=
 cond (!inR p s.subs.length) (s,3) (cond (Ga s p) (s,18) (cond (p==s.bowler||p==s.keeper) (s,17) ({ s with keeper:=p },0)))
theorem aD {N:Nat} {s18 s20:Bool} {p:Int} (h:Fit s14 s16 s17 s19 s24):GL N [.int s0,.int s1,.int s2,.int s3,.int s4,.int s5,.int s6,.int s7,.int s8,.int s9,.int s10,.int s11,.int s12,.int s13,.rows s14,.int s15,.rows s16,.rows s17,.bool s18,.rows s19,.bool s20,.int s21,.int s22,.int s23,.rows s24,.int s25,.int s26,.int s27,.int p]=some (BB (Pq (⟨s0,s1,s2,s3,s4,s5,s6,s7,s8,s9,s10,s11,s12,s13,s14,s15,s16,s17,s18,s19,s20,s21,s22,s23,s24,s25,s26,s27⟩:Inn) p)):=by
 show JE (std (EA N) N) (xOf _)=_;generalize hres:(some (BB (Pq (⟨s0,s1,s2,s3,s4,s5,s6,s7,s8,s9,s10,s11,s12,s13,s14,s15,s16,s17,s18,s19,s20,s21,s22,s23,s24,s25,s26,s27⟩:Inn) p)):Option (List PV))=RR;simp only [JE,QK,OT,ML,Alg.q,std,xOf,PXb,PXc,PXn,PXm,Nat.reduceAdd,Int.reduceBEq,R0 h,HG,Gu h.sb];subst hres;simp only [Pq];cases inR p s24.length<;>cases Ga (⟨s0,s1,s2,s3,s4,s5,s6,s7,s8,s9,s10,s11,s12,s13,s14,s15,s16,s17,s18,s19,s20,s21,s22,s23,s24,s25,s26,s27⟩:Inn) p<;>cases p==s15<;>cases p==s22<;>rfl
def Se (s:Inn) (p:Int) (on:Bool):Inn×Int :=
  cond (!inR p s.subs.length) (s,3) (cond (Ga s p==on) (s,18)
    ({ s with subs:=lT s.subs p on,keeper:=cond (on&&s.keeper==p) 0 s.keeper,bowler:=cond (on&&s.bowler==p) 0 s.bowler },0))
theorem VZ {N:Nat} {s18 s20:Bool} {p:Int} {b:Bool} (h:Fit s14 s16 s17 s19 s24):DD N [.int s0,.int s1,.int s2,.int s3,.int s4,.int s5,.int s6,.int s7,.int s8,.int s9,.int s10,.int s11,.int s12,.int s13,.rows s14,.int s15,.rows s16,.rows s17,.bool s18,.rows s19,.bool s20,.int s21,.int s22,.int s23,.rows s24,.int s25,.int s26,.int s27,.int p,.bool b]=some (BB (Se (⟨s0,s1,s2,s3,s4,s5,s6,s7,s8,s9,s10,s11,s12,s13,s14,s15,s16,s17,s18,s19,s20,s21,s22,s23,s24,s25,s26,s27⟩:Inn) p b)):=by
 show FD (std (CZ N) N) (xOf _)=_;generalize hres:(some (BB (Se (⟨s0,s1,s2,s3,s4,s5,s6,s7,s8,s9,s10,s11,s12,s13,s14,s15,s16,s17,s18,s19,s20,s21,s22,s23,s24,s25,s26,s27⟩:Inn) p b)):Option (List PV))=RR;simp only [FD,NE,LW,Jo,Alg.q,std,xOf,PXb,PXc,PXn,PXm,Nat.reduceAdd,Int.reduceBEq,R0 h,HG,Gu h.sb];subst hres;simp only [Se];cases hp:inR p s24.length<;>try rfl
 rw [J0 hp h.sb];cases Ga (⟨s0,s1,s2,s3,s4,s5,s6,s7,s8,s9,s10,s11,s12,s13,s14,s15,s16,s17,s18,s19,s20,s21,s22,s23,s24,s25,s26,s27⟩:Inn) p==b<;>cases b<;>cases s22==p<;>cases s15==p<;>rfl
def M6 (s:Inn) (n:Int):Inn×Int :=
 cond (iLt n 0||iLt (IntKind.i64.wrap ((s.subs.length:Int) - 2)) n) (s,16) ({ s with outside:=n },0)
theorem Zm {N:Nat} {s18 s20:Bool} {n:Int} (h:Fit s14 s16 s17 s19 s24):E1 N [.int s0,.int s1,.int s2,.int s3,.int s4,.int s5,.int s6,.int s7,.int s8,.int s9,.int s10,.int s11,.int s12,.int s13,.rows s14,.int s15,.rows s16,.rows s17,.bool s18,.rows s19,.bool s20,.int s21,.int s22,.int s23,.rows s24,.int s25,.int s26,.int s27,.int n]=some (BB (M6 (⟨s0,s1,s2,s3,s4,s5,s6,s7,s8,s9,s10,s11,s12,s13,s14,s15,s16,s17,s18,s19,s20,s21,s22,s23,s24,s25,s26,s27⟩:Inn) n)):=by
 show Hp (std (JN N) N) (xOf _)=_;generalize hres:(some (BB (M6 (⟨s0,s1,s2,s3,s4,s5,s6,s7,s8,s9,s10,s11,s12,s13,s14,s15,s16,s17,s18,s19,s20,s21,s22,s23,s24,s25,s26,s27⟩:Inn) n)):Option (List PV))=RR;simp only [Hp,PK,Alg.q,std,xOf,PXb,PXc,PXn,PXm,Nat.reduceAdd,Int.reduceBEq,R0 h];subst hres;simp only [M6];cases (iLt n 0||iLt (IntKind.i64.wrap ((s24.length:Int) - 2)) n)<;>rfl
def WH (r:Rul) (s:Inn):Int :=
 cond (!inR s.keeper s.subs.length||Ga s s.keeper||s.keeper==s.bowler) 17 (cond (iLt (fK r s.complete) s.outside) 16 0)
theorem cm {N:Nat} {r8:Bool} {r0:ByteArray} {r13:Rows} {s18 s20:Bool} (h:Fit s14 s16 s17 s19 s24) (hN:2097152<N) (h13:r13.length≤1048576):G5 N [.str r0,.int r1,.int r2,.int r3,.int r4,.int r5,.int r6,.int r7,.bool r8,.int r9,.int r10,.int r11,.int r12,.rows r13,.int s0,.int s1,.int s2,.int s3,.int s4,.int s5,.int s6,.int s7,.int s8,.int s9,.int s10,.int s11,.int s12,.int s13,.rows s14,.int s15,.rows s16,.rows s17,.bool s18,.rows s19,.bool s20,.int s21,.int s22,.int s23,.rows s24,.int s25,.int s26,.int s27]=some [.int (WH (⟨r0,r1,r2,r3,r4,r5,r6,r7,r8,r9,r10,r11,r12,r13⟩:Rul) (⟨s0,s1,s2,s3,s4,s5,s6,s7,s8,s9,s10,s11,s12,s13,s14,s15,s16,s17,s18,s19,s20,s21,s22,s23,s24,s25,s26,s27⟩:Inn))]:=by
 show KM (std (E5 N) N) (xOf _)=_;generalize hres:(some [.int (WH (⟨r0,r1,r2,r3,r4,r5,r6,r7,r8,r9,r10,r11,r12,r13⟩:Rul) (⟨s0,s1,s2,s3,s4,s5,s6,s7,s8,s9,s10,s11,s12,s13,s14,s15,s16,s17,s18,s19,s20,s21,s22,s23,s24,s25,s26,s27⟩:Inn))]:Option (List PV))=RR;simp only [KM,Pk,Mt,Ns,Alg.q,std,xOf,PXb,PXc,PXn,PXm,Nat.reduceAdd,Int.reduceBEq,HG,Gu h.sb,ZB hN h13];subst hres;simp only [WH];cases inR s22 s24.length<;>cases Ga (⟨s0,s1,s2,s3,s4,s5,s6,s7,s8,s9,s10,s11,s12,s13,s14,s15,s16,s17,s18,s19,s20,s21,s22,s23,s24,s25,s26,s27⟩:Inn) s22<;>cases s22==s15<;>rfl
def U8 (s:Inn) (d:Del):Int :=
  cond (iLt 0 d.fielder && !inR d.fielder s.subs.length) 3 (cond (iLt 0 d.fielder && !(d.sub==Ga s d.fielder)) 18
    (cond (iLt 0 d.second && !inR d.second s.subs.length) 3 (cond (iLt 0 d.second&&Ga s d.second) 18
      (cond (d.how==4 && !(iM d.fielder==s.keeper)) 17 0))))
theorem cc {N:Nat} {s18 s20:Bool} {d5 d10:Bool} (h:Fit s14 s16 s17 s19 s24):G1 N [.int s0,.int s1,.int s2,.int s3,.int s4,.int s5,.int s6,.int s7,.int s8,.int s9,.int s10,.int s11,.int s12,.int s13,.rows s14,.int s15,.rows s16,.rows s17,.bool s18,.rows s19,.bool s20,.int s21,.int s22,.int s23,.rows s24,.int s25,.int s26,.int s27,.int d0,.int d1,.int d2,.int d3,.int d4,.bool d5,.int d6,.int d7,.int d8,.int d9,.bool d10,.int d11]=some [.int (U8 (⟨s0,s1,s2,s3,s4,s5,s6,s7,s8,s9,s10,s11,s12,s13,s14,s15,s16,s17,s18,s19,s20,s21,s22,s23,s24,s25,s26,s27⟩:Inn) (⟨d0,d1,d2,d3,d4,d5,d6,d7,d8,d9,d10,d11⟩:Del))]:=by
 show KG (std (Hb N) N) (xOf _)=_;generalize hres:(some [.int (U8 (⟨s0,s1,s2,s3,s4,s5,s6,s7,s8,s9,s10,s11,s12,s13,s14,s15,s16,s17,s18,s19,s20,s21,s22,s23,s24,s25,s26,s27⟩:Inn) (⟨d0,d1,d2,d3,d4,d5,d6,d7,d8,d9,d10,d11⟩:Del))]:Option (List PV))=RR;simp only [KG,Pg,M9,Alg.q,std,xOf,PXb,PXc,PXn,PXm,Nat.reduceAdd,Int.reduceBEq,HG,Gu h.sb];subst hres;simp only [U8,iM,od];cases iLt 0 d8<;>cases iLt 0 d9<;>cases inR d8 s24.length<;>cases inR d9 s24.length<;>cases d10==Ga (⟨s0,s1,s2,s3,s4,s5,s6,s7,s8,s9,s10,s11,s12,s13,s14,s15,s16,s17,s18,s19,s20,s21,s22,s23,s24,s25,s26,s27⟩:Inn) d8<;>cases Ga (⟨s0,s1,s2,s3,s4,s5,s6,s7,s8,s9,s10,s11,s12,s13,s14,s15,s16,s17,s18,s19,s20,s21,s22,s23,s24,s25,s26,s27⟩:Inn) d9<;>rfl
end Go.Px
end
section
namespace Go.Px
set_option maxRecDepth 100000
structure Cre where
 batter:Int
 wides:Int
 noballs:Int
 byes:Int
 legbyes:Int
 bowler:Int
 counts:Bool
 faced:Bool
 wicket:Bool
 swap:Bool
def Cre.ls (c:Cre):List PV:=[.int c.batter,.int c.wides,.int c.noballs,.int c.byes,.int c.legbyes,.int c.bowler,.bool c.counts,.bool c.faced,.bool c.wicket,.bool c.swap]
def WE (d:Del):Bool :=
  cond (d.type==2) (d.source==0 && !(d.boundary==6)) (cond (d.source==0) (d.runs==0&&d.boundary==0)
    (cond (d.boundary==0) (iLt 0 d.runs) (cond (d.boundary==6) (d.source==1&&d.runs==0) true)))
def K7 (d:Del):Int :=
  cond (iLt d.type 1||iLt 3 d.type||iLt 3 d.source||iLt 10 d.how || !btw d.sector 0 8) 11
    (cond (!btw d.runs 0 7 || !btw d.short 0 d.runs||(!(d.boundary==0) && !(d.boundary==4) && !(d.boundary==6))) 12
      (cond (!WE d) 11 (cond (!(d.sector==0) && !(d.source==1) && !(d.how==2)) 11 (cond (!(d.boundary==0) && !(d.how==0)) 11
        (cond (d.crossed && !(d.how==6) && !(d.how==8)) 11 0)))))
def JZ (d:Del):Bool :=
  cond (d.type==2) (d.source==0 && !(d.boundary==6)) (cond (d.source==0) (d.runs==0&&d.boundary==0)
    (cond (d.source==1) (!(d.boundary==6)||d.runs==0) (!(d.boundary==6)&&(iLt 0 d.runs || !(d.boundary==0)))))
theorem U4 {N:Nat} {d5 d10:Bool}  : Cu N [.int d0,.int d1,.int d2,.int d3,.int d4,.bool d5,.int d6,.int d7,.int d8,.int d9,.bool d10,.int d11]=some [.bool (JZ (⟨d0,d1,d2,d3,d4,d5,d6,d7,d8,d9,d10,d11⟩:Del))]:=by
 show Eg (std (Kq N) N) (xOf _)=_;generalize hres:(some [.bool (JZ (⟨d0,d1,d2,d3,d4,d5,d6,d7,d8,d9,d10,d11⟩:Del))]:Option (List PV))=RR;simp only [Eg,Alg.q,std,xOf,PXb,PXc,PXn,PXm,Nat.reduceAdd,Int.reduceBEq];subst hres;simp only [JZ]
theorem pN (x a b:Int):(!btw x a b)=(iLt x a||iLt b x):=by
 unfold btw iLe iLt;rw [Bool.eq_iff_iff];simp only [Bool.not_eq_true',Bool.and_eq_false_iff,decide_eq_false_iff_not,Bool.or_eq_true,decide_eq_true_eq];omega
theorem nf {d:Del} (h:0≤d.runs):(!JZ d || !d.type==2&&d.source==1&&d.runs==0&&d.boundary==0) = !WE d:=by
 unfold JZ WE;rw [ml h];cases h1:d.source==0 with
 | true =>
  rw [bG h1 (c:=1) rfl];cases d.type==2<;>cases d.runs==0<;>cases d.boundary==0<;>cases d.boundary==6<;>rfl
 | false =>
  cases h2:d.boundary==0 with
  | true =>
   rw [bG h2 (c:=6) rfl];cases d.type==2<;>cases d.source==1<;>cases d.runs==0<;>rfl
  | false=>cases d.type==2<;>cases d.source==1<;>cases d.runs==0<;>cases d.boundary==6<;>rfl
theorem Qw {N:Nat} {d5 d10:Bool}  : Bu N [.int d0,.int d1,.int d2,.int d3,.int d4,.bool d5,.int d6,.int d7,.int d8,.int d9,.bool d10,.int d11]=some [.int (K7 (⟨d0,d1,d2,d3,d4,d5,d6,d7,d8,d9,d10,d11⟩:Del))]:=by
 show Gn (std (IP N) N) (xOf _)=_;generalize hres:(some [.int (K7 (⟨d0,d1,d2,d3,d4,d5,d6,d7,d8,d9,d10,d11⟩:Del))]:Option (List PV))=RR;simp only [Gn,JR,Alg.q,std,xOf,PXb,PXc,PXn,PXm,Nat.reduceAdd,Int.reduceBEq,U4];subst hres;simp only [K7,pN,Bool.or_assoc];cases h2:(iLt d2 0||(iLt 7 d2||(iLt d3 0||(iLt d2 d3 || !d4==0 && !d4==4 && !d4==6)))) with
 | true=>rfl
 | false =>
  have h3:0≤d2:=by
   rw [Bool.or_eq_false_iff] at h2;have:=h2.1;simp only [iLt,decide_eq_false_iff_not] at this;omega
  have:=nf (d:=(⟨d0,d1,d2,d3,d4,d5,d6,d7,d8,d9,d10,d11⟩:Del)) h3;simp only at this;rw [this]
theorem YJ {N:Nat} {a:Int} {b:Int} {c:Int} {d:Int} {e:Int} {x:Int} {p:Bool} {q:Bool} {u:Bool} {v:Bool}  : EB N [.int a,.int b,.int c,.int d,.int e,.int x,.bool p,.bool q,.bool u,.bool v]=some [.int (IntKind.i64.wrap (IntKind.i64.wrap (IntKind.i64.wrap (IntKind.i64.wrap (a+b)+c)+d)+e))]:=by
 rfl
def Ss (c:Cre):Int:=IntKind.i64.wrap (IntKind.i64.wrap (IntKind.i64.wrap (IntKind.i64.wrap (c.batter+c.wides)+c.noballs)+c.byes)+c.legbyes)
def aS (h:Int):Bool:=iLe 1 h&&iLe h 5
theorem Ur {N:Nat} {h:Int}  : Cr N [.int h]=some [.bool (aS h)]:=by
 show EW (std (Kk N) N) (xOf _)=_;simp only [EW,Alg.q,std,xOf,PXb,PXc,PXn,PXm,Nat.reduceAdd,Int.reduceBEq,aS]
def mT (r:Rul) (d:Del):Cre :=
  let n:=IntKind.i64.wrap (IntKind.i64.wrap (d.runs - d.short)+d.boundary)
  let b:=cond (!(d.type==2)&&d.source==1) n 0
  let w:=cond (d.type==2) (IntKind.i64.wrap (r.wide+n)) 0
  let o:=cond (d.type==3) r.noball 0
  { batter:=b,wides:=w,noballs:=o,byes:=cond (!(d.type==2)&&d.source==2) n 0,legbyes:=cond (!(d.type==2)&&d.source==3) n 0,bowler:=IntKind.i64.wrap (IntKind.i64.wrap (b+w)+o),
    counts:=d.type==1,faced := !(d.type==2),wicket:=aS d.how,swap := !((!(d.runs.tmod 2==0))==d.crossed) }
def Az (r:Rul) (d:Del):Cre:=cond (!(K7 d==0)) ⟨0,0,0,0,0,0,false,false,false,false⟩ (mT r d)
theorem iH {d:Del} (h:(K7 d==0)=true):0≤d.runs∧d.runs≤7:=by
 unfold K7 at h;cases h1:(iLt d.type 1||iLt 3 d.type||iLt 3 d.source||iLt 10 d.how || !btw d.sector 0 8) with
 | true=>rw [h1] at h;cases h
 | false =>
  cases h2:(!btw d.runs 0 7 || !btw d.short 0 d.runs||(!(d.boundary==0) && !(d.boundary==4) && !(d.boundary==6))) with
  | true=>rw [h1,h2] at h;cases h
  | false =>
   rw [Bool.or_eq_false_iff,Bool.or_eq_false_iff] at h2;have:=h2.1.1;simp only [btw,iLe,Bool.not_eq_false',Bool.and_eq_true,decide_eq_true_eq] at this;exact this
theorem nG {n:Int} (h:0≤n∧n≤7) (b:Bool):((cond b (IntKind.i64.wrap (n+1)) n).tmod 2==1) = !((!(n.tmod 2==0))==b):=by
 obtain ⟨k,rfl⟩:∃ k:Nat,n=k:=⟨n.toNat,by omega⟩;have:k=0∨k=1∨k=2∨k=3∨k=4∨k=5∨k=6∨k=7:=by omega
 rcases this with h | h | h | h | h | h | h | h<;>subst h<;>cases b<;>rfl
theorem O6 {N:Nat} {r8:Bool} {r0:ByteArray} {r13:Rows} {d5 d10:Bool}  : Bm N [.str r0,.int r1,.int r2,.int r3,.int r4,.int r5,.int r6,.int r7,.bool r8,.int r9,.int r10,.int r11,.int r12,.rows r13,.int d0,.int d1,.int d2,.int d3,.int d4,.bool d5,.int d6,.int d7,.int d8,.int d9,.bool d10,.int d11]=some (Az (⟨r0,r1,r2,r3,r4,r5,r6,r7,r8,r9,r10,r11,r12,r13⟩:Rul) (⟨d0,d1,d2,d3,d4,d5,d6,d7,d8,d9,d10,d11⟩:Del)).ls:=by
 show Fe (std (EX N) N) (xOf _)=_;generalize hres:(some (Az (⟨r0,r1,r2,r3,r4,r5,r6,r7,r8,r9,r10,r11,r12,r13⟩:Rul) (⟨d0,d1,d2,d3,d4,d5,d6,d7,d8,d9,d10,d11⟩:Del)).ls:Option (List PV))=RR;simp only [Fe,KU,JC,Alg.q,std,xOf,PXb,PXc,PXn,PXm,Nat.reduceAdd,Int.reduceBEq,Qw,Ur];subst hres;simp only [Az,mT];cases hl:K7 (⟨d0,d1,d2,d3,d4,d5,d6,d7,d8,d9,d10,d11⟩:Del)==0 with
 | false=>rfl
 | true =>
  have hs:=nG (iH hl) d5;simp only at hs;simp only [PXb,PXc,PXn,PXm,Nat.reduceAdd,Int.reduceBEq,hs];cases h0:d0==2<;>cases h3:d0==3<;>cases h1:d1==1<;>cases h2:d1==2<;>cases h4:d1==3<;>first
   | rfl
   | (rw [bG h0 (c:=3) rfl] at h3;exact absurd h3 (by decide))
   | (rw [bG h1 (c:=2) rfl] at h2;exact absurd h2 (by decide))
   | (rw [bG h1 (c:=3) rfl] at h4;exact absurd h4 (by decide))
   | (rw [bG h2 (c:=3) rfl] at h4;exact absurd h4 (by decide))
end Go.Px
end
section
namespace Go.Px
set_option maxRecDepth 100000
def onS (h t:Int):Bool :=
 cond (h==1||h==2||h==3) (t==1) (cond (h==4||h==5) (t==1||t==2) (cond (h==7) (t==1||t==3) (cond (h==6||h==8) (t==1||t==2||t==3) false)))
def iW (h:Int):Bool:=h==6||h==7||h==8
def Py (h:Int):Bool:=h==6||h==8
def Yt (h:Int):Bool:=h==2||h==4||h==6
def Yn (d:Del) (free:Bool):Int :=
  cond (d.how==0) (cond (!(d.victim==0)) 14 (cond (!(d.fielder==0) || !(d.second==0)||d.sub) 15 0))
    (cond (!onS d.how d.type||free && !iW d.how) 13 (cond (!Py d.how&&(!(d.source==0) || !(d.runs==0))) 12
      (cond (!(d.victim==1) && !(d.victim==2&&Py d.how)) 14
        (cond (Yt d.how && !btw d.fielder 1 11 || !Yt d.how && !(d.fielder==0)) 15
          (cond (!(d.second==0)&&(!(d.how==6) || !btw d.second 1 11||d.second==d.fielder)) 15
            (cond (d.sub && !(d.how==2) && !(d.how==6)) 18 0))))))
def Bb:Rows:=match BR 0 [] with
 | some [.rows l]=>l
 | _=>[]
theorem Ot {N:Nat}:BR N []=some [.rows Bb]:=rfl
theorem YD:Bb.length=11:=rfl
theorem VK {N:Nat} {h:Int} {n:ByteArray} {b:Bool} {c:Bool} {d:Bool} {e:Bool} {x:Bool} {t:Int}  : DJ N [.int h,.str n,.bool b,.bool c,.bool d,.bool e,.bool x,.int t]=some [.bool (t==1&&b||t==2&&c||t==3&&d)]:=by
 show FF (std (LC N) N) (xOf _)=_;simp only [FF,Alg.q,std,xOf,PXb,PXc,PXn,PXm,Nat.reduceAdd,Int.reduceBEq]
theorem R3 {N:Nat} {n:Int}  : CE N [.int n]=some [.bool (btw n 1 11)]:=by
 show C4 (std (ID N) N) (xOf _)=_;simp only [C4,Alg.q,std,xOf,PXb,PXc,PXn,PXm,Nat.reduceAdd,Int.reduceBEq];rfl
def iX (i j:Nat):Bool:=pvB (AH Bb i j)
def wOk (t:Int) (free:Bool) (i:Nat):Bool :=
  (t==1&&iX i 2||t==2&&iX i 3||t==3&&iX i 4)&&(!free||atI Bb i 0==6||atI Bb i 0==7||atI Bb i 0==8)
def GY (t:Int) (free:Bool):Nat→Rows
 | 0=>[]
 | i+1=>cond (wOk t free i) (GY t free i++[[.int (atI Bb i 0)]]) (GY t free i)
theorem YX (t:Int) (free:Bool):∀ i,(GY t free i).length≤i
 | 0=>Nat.le_refl _
 | i+1=>by
  have:=YX t free i;unfold GY;cases wOk t free i
  ·exact Nat.le_succ_of_le this
  ·simp;exact this
theorem YH {N:Nat} {t:Int} {f:Bool} (hN:2097152<N):EK N [.int t,.bool f]=some [.rows (GY t f 11)]:=by
 show Gt (std (FM N) N) (xOf _)=_;simp only [Gt,KN,Jr,Alg.q,std,xOf,PXb,PXc,PXn,AE,Ot,VK];refine AW (DY (len:=Bb.length) (fun i=>[.rows (GY t f i),.int (i:Int)]) [.rows (GY t f 11)] ?_ ?_ N (by rw [YD];omega)) rfl
 ·intro self;simp only [PXb,PXc,PXn,AE,BI];rfl
 ·intro i self hi;have hi2:i<11:=hi;have h2:(GY t f i++[[PV.int (atI Bb i 0)]]).length≤4194304:=by have:=YX t f i;simp;omega
  simp only [PXb,PXc,AE,Ax (show i≤1099511627776 by omega),Ar hi,AX hi,CO,GY,Fp h2 (show 1≤4096 by omega)];unfold wOk iX;cases ((t==1&&pvB (AH Bb i 2)||t==2&&pvB (AH Bb i 3)||t==3&&pvB (AH Bb i 4))&&(!f||atI Bb i 0==6||atI Bb i 0==7||atI Bb i 0==8))<;>rfl
theorem VT {N:Nat} {L:Rows} {v:Int} (hN:L.length<N) (hl:L.length≤1048576):DE N [.rows L,.int v]=some [.int (Of (fun j=>v==atI L j 0) L.length)]:=by
 show E6 (std (MG N) N) (xOf _)=_;simp only [E6,Alg.q,std,xOf,PXb,PXc,PXn,AE];refine AW (Ci (len:=L.length) (FX fun j=>v==atI L j 0) ?_ ?_ L.length 0 N (by omega) (by omega)) ?_
 ·intro self;simp only [PXb,PXc,PXn,AE,BI]
 ·intro i self hi;simp only [PXb,PXc,PXn,AE,Ax (show i≤1099511627776 by omega),Ar hi,AX hi,FX,CO];cases v==atI L i 0<;>rfl
 ·unfold Of;cases Br (FX fun j=>v==atI L j 0) L.length 0<;>rfl
theorem SP {N:Nat} {L:Rows} {v:Int} (hN:L.length<N) (hl:L.length≤1048576):CR N [.rows L,.int v]=some [.bool (JM L L.length v)]:=by
 show DR (std (Em N) N) (xOf _)=_;simp only [DR,HW,Alg.q,std,xOf,PXb,PXc,PXn,AE,VT hN hl,Ix,JM]
theorem lL (L:Rows) (v:Int):JM L L.length v=JO (fun x=>v==x) L:=rfl
theorem oW (p:Int→Bool) (b:Bool) (L:Rows) (x:Int):JO p (cond b (L++[[.int x]]) L)=(JO p L||(b&&p x)):=by
 cases b with
 | false=>simp
 | true=>rw [cond_true,eu,Bool.true_and];congr 1;rw [NB];simp [AA,pvI]
theorem dM (t:Int) (free:Bool) (p:Int→Bool):∀ i,JO p (GY t free i)=BT (fun j=>wOk t free j&&p (atI Bb j 0)) i 0
 | 0=>rfl
 | i+1=>by rw [VJ,← dM t free p i,GY,oW,Nat.zero_add]
theorem lu (t h:Int) (free:Bool):JM (GY t free 11) (GY t free 11).length h=(onS h t&&(!free||iW h)):=by
 rw [lL,dM];have key:∀ j,j<11→atI Bb j 0=j:=by
  intro j hj;have:j=0∨j=1∨j=2∨j=3∨j=4∨j=5∨j=6∨j=7∨j=8∨j=9∨j=10:=by omega
  rcases this with h | h | h | h | h | h | h | h | h | h | h<;>subst h<;>rfl
 by_cases hr:0≤h∧h≤10
 ·obtain ⟨k,rfl⟩:∃ k:Nat,h=k:=⟨h.toNat,by omega⟩;have:k=0∨k=1∨k=2∨k=3∨k=4∨k=5∨k=6∨k=7∨k=8∨k=9∨k=10:=by omega
  rcases this with h | h | h | h | h | h | h | h | h | h | h<;>subst h<;>simp only [Bj,IM,wOk,onS]<;>cases free<;>cases t==1<;>cases t==2<;>cases t==3<;>rfl
 ·rw [Ik.2 fun j _ hj=>by
   rw [key j (by omega),show (h==(j:Int))=false from beq_false_of_ne (by omega),Bool.and_false]]
  have e:∀ n:Int,0≤n→n≤10→(h==n)=false:=fun n h0 h1=>beq_false_of_ne (by omega)
  unfold onS;rw [e 1 (by omega) (by omega),e 2 (by omega) (by omega),e 3 (by omega) (by omega),e 4 (by omega) (by omega),e 5 (by omega) (by omega),e 6 (by omega) (by omega),e 7 (by omega) (by omega),e 8 (by omega) (by omega)];rfl
def Tv (h:Int):List PV:=match Br (fun i=>cond (atI Bb i 0==h) (some [.int (pvI (AH Bb i 0)),.str (pvS (AH Bb i 1)),.bool (pvB (AH Bb i 2)),.bool (pvB (AH Bb i 3)),.bool (pvB (AH Bb i 4)),.bool (pvB (AH Bb i 5)),.bool (pvB (AH Bb i 6))]) none) 11 0 with
 | some r=>r
 | none=>[.int 0,.str ⟨#[]⟩,.bool false,.bool false,.bool false,.bool false,.bool false]
theorem PT {ans:Nat→Option (List PV)} {r:List PV}:∀ (k i:Nat),Br ans k i=some r→∃ j,i≤j∧j<i+k∧ans j=some r
 | 0,i,h=>by cases h
 | k+1,i,h=>by
  simp only [Br] at h;cases ha:ans i with
  | some x=>rw [ha] at h;cases h;exact ⟨i,Nat.le_refl _,by omega,ha⟩
  | none =>
   rw [ha] at h;obtain ⟨j,h1,h2,h3⟩:=PT k (i+1) h;exact ⟨j,by omega,by omega,h3⟩
theorem mL (h:Int):∃ a b c d e f g,Tv h=[.int a,.str b,.bool c,.bool d,.bool e,.bool f,.bool g]:=by
 unfold Tv;generalize hf:Br _ 11 0=o;cases o with
 | none=>exact ⟨_,_,_,_,_,_,_,rfl⟩
 | some r =>
  obtain ⟨j,_,_,h3⟩:=PT _ _ hf;cases hb:atI Bb j 0==h with
  | false=>rw [hb] at h3;cases h3
  | true=>rw [hb] at h3;cases h3;exact ⟨_,_,_,_,_,_,_,rfl⟩
theorem ac {N:Nat} {h:Int} (hN:2097152<N):GH N [.int h]=some (Tv h):=by
 show Im (std (Ka N) N) (xOf _)=_;simp only [Im,Lq,Alg.q,std,xOf,PXb,PXc,PXn,AE,Ot];refine AW (Ci (len:=Bb.length) (fun i=>cond (atI Bb i 0==h) (some [.int (pvI (AH Bb i 0)),.str (pvS (AH Bb i 1)),.bool (pvB (AH Bb i 2)),.bool (pvB (AH Bb i 3)),.bool (pvB (AH Bb i 4)),.bool (pvB (AH Bb i 5)),.bool (pvB (AH Bb i 6))]) none) ?_ ?_ Bb.length 0 N (by omega) (by rw [YD];omega)) ?_
 ·intro self;simp only [PXb,PXc,PXn,AE,BI]
 ·intro i self hi;have hi2:i<11:=hi;simp only [PXb,PXc,PXn,AE,Ax (show i≤1099511627776 by omega),Ar hi,AX hi,CO];cases atI Bb i 0==h<;>rfl
 ·unfold Tv;rw [YD];generalize hf:Br _ 11 0=o;cases o with
  | none=>rfl
  | some r =>
   obtain ⟨j,_,_,h3⟩:=PT _ _ hf;cases hb:atI Bb j 0==h with
   | false=>rw [hb] at h3;cases h3
   | true=>rw [hb] at h3;cases h3;rfl
theorem kU (h:Int):pvB (AA (Tv h) 5)=Yt h∧pvB (AA (Tv h) 6)=Py h:=by
 by_cases hr:0≤h∧h≤10
 ·obtain ⟨k,rfl⟩:∃ k:Nat,h=k:=⟨h.toNat,by omega⟩;have:k=0∨k=1∨k=2∨k=3∨k=4∨k=5∨k=6∨k=7∨k=8∨k=9∨k=10:=by omega
  rcases this with h | h | h | h | h | h | h | h | h | h | h<;>subst h<;>exact ⟨rfl,rfl⟩
 ·have e:∀ n:Int,0≤n→n≤10→(h==n)=false:=fun n h0 h1=>beq_false_of_ne (by omega)
  have key:∀ j,j<11→atI Bb j 0=j:=by
   intro j hj;have:j=0∨j=1∨j=2∨j=3∨j=4∨j=5∨j=6∨j=7∨j=8∨j=9∨j=10:=by omega
   rcases this with h | h | h | h | h | h | h | h | h | h | h<;>subst h<;>rfl
  unfold Tv;generalize hf:Br _ 11 0=o;cases o with
  | none =>
   unfold Yt Py;rw [e 2 (by omega) (by omega),e 4 (by omega) (by omega),e 6 (by omega) (by omega),e 8 (by omega) (by omega)];exact ⟨rfl,rfl⟩
  | some r =>
   obtain ⟨j,_,hj,h3⟩:=PT _ _ hf;rw [key j (by omega),show ((j:Int)==h)=false from beq_false_of_ne (by omega)] at h3;cases h3
def Nf (d:Del) (m:Bool):Bool :=
 !(!(m==btw d.fielder 1 11) || !m && !(d.fielder==0))&&(d.second==0||d.how==6&&btw d.second 1 11 && !(d.second==d.fielder))
theorem Tc {N:Nat} {d5 d10:Bool} {a:Int} {n:ByteArray} {b:Bool} {c:Bool} {e:Bool} {f:Bool} {g:Bool}  : CW N [.int d0,.int d1,.int d2,.int d3,.int d4,.bool d5,.int d6,.int d7,.int d8,.int d9,.bool d10,.int d11,.int a,.str n,.bool b,.bool c,.bool e,.bool f,.bool g]=some [.bool (Nf (⟨d0,d1,d2,d3,d4,d5,d6,d7,d8,d9,d10,d11⟩:Del) f)]:=by
 show Dz (std (FV N) N) (xOf _)=_;generalize hres:(some [.bool (Nf (⟨d0,d1,d2,d3,d4,d5,d6,d7,d8,d9,d10,d11⟩:Del) f)]:Option (List PV))=RR;simp only [Dz,GO,Alg.q,std,xOf,PXb,PXc,PXn,PXm,Nat.reduceAdd,Int.reduceBEq,R3];subst hres;simp only [Nf];cases d9==0<;>cases d6==6<;>cases f<;>cases btw d8 1 11<;>cases d8==0<;>first | rfl | (cases btw d9 1 11<;>rfl)
theorem pJ {α:Type} (a b:Bool) (x y:α):cond (a||b) x y=cond a x (cond b x y):=by cases a<;>rfl
theorem gd (d:Del) (m:Bool):(!Nf d m)=((m && !btw d.fielder 1 11 || !m && !(d.fielder==0))||(!(d.second==0)&&(!(d.how==6) || !btw d.second 1 11||d.second==d.fielder))):=by
 unfold Nf;cases hb:btw d.fielder 1 11<;>cases hf:d.fielder==0
 ·cases m<;>cases d.second==0<;>cases d.how==6<;>cases btw d.second 1 11<;>cases d.second==d.fielder<;>rfl
 ·cases m<;>cases d.second==0<;>cases d.how==6<;>cases btw d.second 1 11<;>cases d.second==d.fielder<;>rfl
 ·cases m<;>cases d.second==0<;>cases d.how==6<;>cases btw d.second 1 11<;>cases d.second==d.fielder<;>rfl
 ·rw [beq_iff_eq.1 hf] at hb;exact absurd hb (by decide)
theorem Tz {N:Nat} {d5 d10:Bool} {f:Bool} (hN:2097152<N):CY N [.int d0,.int d1,.int d2,.int d3,.int d4,.bool d5,.int d6,.int d7,.int d8,.int d9,.bool d10,.int d11,.bool f]=some [.int (Yn (⟨d0,d1,d2,d3,d4,d5,d6,d7,d8,d9,d10,d11⟩:Del) f)]:=by
 show Dx (std (Bi N) N) (xOf _)=_;generalize hres:(some [.int (Yn (⟨d0,d1,d2,d3,d4,d5,d6,d7,d8,d9,d10,d11⟩:Del) f)]:Option (List PV))=RR;have hl:=YX d0 f 11;obtain ⟨a,b,c,d,e,m,g,hline⟩:=mL d6;have hbits:=kU d6;rw [hline] at hbits;have hm:m=Yt d6:=hbits.1;have hg:g=Py d6:=hbits.2;have h1:(GY d0 f 11).length<N:=by omega
 have h2:(GY d0 f 11).length≤1048576:=by omega
 simp only [Dx,Jh,Gp,Id,HE,Alg.q,std,xOf,PXb,PXc,PXn,PXm,Nat.reduceAdd,Int.reduceBEq,ac hN,hline,YH hN,SP h1 h2,lu,Tc,gd];subst hres;simp only [Yn,pJ];rw [hm,hg];unfold Py;cases d6==0<;>cases onS d6 d0<;>cases f<;>cases iW d6<;>try rfl
 all_goals (cases d6==6<;>cases d6==8<;>cases d7==2<;>rfl)
end Go.Px
end
section
namespace Go.Px
set_option maxRecDepth 100000
theorem VN {N:Nat} {a:Int} {b:Int} {c:Int}  : DG N [.int a,.int b,.int c]=some [.bool (btw a b c)]:=by
 show IR (std (Lo N) N) (xOf _)=_;show some [PV.bool (cond (iLe b a) (iLe a c) false)]=_;rw [Zt];rfl
theorem ZP {N:Nat} {a:Int} {b:Int} {c:Int}  : FT N [.int a,.int b,.int c]=some [.bool (btw a b c)]:=by
 show LF (std (Ou N) N) (xOf _)=_;show some [PV.bool (cond (iLe b a) (iLe a c) false)]=_;rw [Zt];rfl
def dK (d:Del):Int :=
  cond (iLt d.type 1||iLt 3 d.type||iLt 3 d.source||iLt 10 d.how) 3
    (cond (!btw d.runs 0 7 || !btw d.short 0 d.runs||(!(d.boundary==0) && !(d.boundary==4) && !(d.boundary==6)) || !btw d.victim 0 2 || !btw d.fielder 0 11 || !btw d.second 0 11 || !btw d.sector 0 8) 2 0)
theorem Xt {N:Nat} {d5 d10:Bool}  : EI N [.int d0,.int d1,.int d2,.int d3,.int d4,.bool d5,.int d6,.int d7,.int d8,.int d9,.bool d10,.int d11]=some [.int (dK (⟨d0,d1,d2,d3,d4,d5,d6,d7,d8,d9,d10,d11⟩:Del))]:=by
 show Gi (std (H5 N) N) (xOf _)=_;generalize hres:(some [.int (dK (⟨d0,d1,d2,d3,d4,d5,d6,d7,d8,d9,d10,d11⟩:Del))]:Option (List PV))=RR;simp only [Gi,Jp,Alg.q,std,xOf,PXb,PXc,PXn,PXm,Nat.reduceAdd,Int.reduceBEq,VN];subst hres;simp only [dK]
def loS (k:Int):Int:=cond (k==7) 0 (cond (k==13) 1 0)
def hiS (k:Int):Int:=cond (k==7) 11 (cond (k==13) 99 100000)
theorem aM {N:Nat} {k:Int}  : F2 N [.int k]=some [.int (loS k),.int (hiS k)]:=by
 show Ig (std (QC N) N) (xOf _)=_;simp only [Ig,Alg.q,std,xOf,PXb,PXc,PXn,PXm,Nat.reduceAdd,Int.reduceBEq];unfold loS hiS;cases k==7<;>cases k==13<;>rfl
def uS (k:Int):Bool:=k==1||k==12||k==14||k==11||k==13
def uP (k:Int):Bool:=k==2||k==3||k==8||k==5||k==6||k==9
def uO (k:Int):Bool:=k==2
def uY (k:Int):Bool:=k==1||k==12||k==14||k==5||k==6||k==9
def uR (k:Int):Bool:=k==7||k==13||k==15
def uV (k:Int):Bool:=k==15
def uB (k:Int):Bool:=k==4
theorem al {k:Int} (h:(iLt k 1||iLt 16 k)=false):k=1∨k=2∨k=3∨k=4∨k=5∨k=6∨k=7∨k=8∨k=9∨k=10∨k=11∨k=12∨k=13∨k=14∨k=15∨k=16:=by
 simp only [iLt,Bool.or_eq_false_iff,decide_eq_false_iff_not] at h;omega
def jc:Rows:=match Eu 0 [] with
 | some [.rows l]=>l
 | _=>[]
theorem cw {N:Nat}:Eu N []=some [.rows jc]:=rfl
def Co (k f:Int):Bool:=iLe 0 (Lib.indexByte (pvS (AH jc (IntKind.u8.wrap (k - 1)).toNat 1)).data.toList f.toNat.toUInt8)||(k==5&&f==121)
theorem U1 {N:Nat} {s:ByteArray} {f:Int}  : Cv N [.str s,.int f]=some [.int (Lib.indexByte s.data.toList f.toNat.toUInt8)]:=by
 show Ef (std (F6 N) N) (xOf _)=_;simp only [Ef,GN,Alg.q,std,xOf,PXb,PXc,PXn,PXm,Nat.reduceAdd,Int.reduceBEq,B0,Y6]
theorem WO {N:Nat} {k:Int} {f:Int} (h:(iLt k 1||iLt 16 k)=false):H6 N [.int k,.int f]=some [.bool (Co k f)]:=by
 show LO (std (Ie N) N) (xOf _)=_;have hi:iIn (IntKind.u8.wrap (k - 1)) (jc.length:Int)=true:=by
  rcases al h with h | h | h | h | h | h | h | h | h | h | h | h | h | h | h | h<;>subst h<;>rfl
 simp only [LO,Lx,P8,Alg.q,std,xOf,PXb,PXc,PXn,PXm,Nat.reduceAdd,Int.reduceBEq,cw,U1,hi,Co]
theorem oQ {k:Int} (h:(iLt k 1||iLt 16 k)=false):Co k 115=uS k∧Co k 112=uP k∧Co k 111=uO k∧Co k 121=uY k∧Co k 114=uR k∧Co k 118=uV k∧Co k 98=uB k:=by
 rcases al h with h | h | h | h | h | h | h | h | h | h | h | h | h | h | h | h<;>subst h<;>exact ⟨rfl,rfl,rfl,rfl,rfl,rfl,rfl⟩
def iy (d:Del):Bool:=d.type==0&&(d.source==0&&(d.runs==0&&(d.short==0&&(d.boundary==0&&(d.crossed==false&&(d.how==0&&(d.victim==0&&(d.fielder==0&&(d.second==0&&(d.sub==false&&d.sector==0))))))))))
def eZ (e:Ev):Bool:=(!(e.side==0) && !uS e.kind)||((!(e.player==0) && !uP e.kind)||((!(e.other==0) && !uO e.kind)||((e.yes && !uY e.kind)||((!(e.runs==0) && !uR e.kind)||((!(e.overs==0) && !uV e.kind)||(!iy e.ball && !uB e.kind))))))
def X2 (e:Ev):Bool:=(!btw e.side 1 2&&uS e.kind)||((!btw e.player 1 11&&uP e.kind)||((!btw e.other 1 11&&uO e.kind)||((!btw e.runs (loS e.kind) (hiS e.kind)&&uR e.kind)||(!btw e.overs 0 90&&uV e.kind))))
def evS (e:Ev):Int:=cond (iLt e.kind 1||iLt 16 e.kind) 3 (cond (eZ e) 1 (cond (X2 e) 2 (cond (e.kind==4) (dK e.ball) 0)))
def evT (e:Ev):Rows:=[[.int 115,.bool (e.side==0),.bool (btw e.side 1 2)],[.int 112,.bool (e.player==0),.bool (btw e.player 1 11)],[.int 111,.bool (e.other==0),.bool (btw e.other 1 11)],[.int 121,.bool (!e.yes),.bool true],[.int 114,.bool (e.runs==0),.bool (btw e.runs (loS e.kind) (hiS e.kind))],[.int 118,.bool (e.overs==0),.bool (btw e.overs 0 90)],[.int 98,.bool (iy e.ball),.bool true]]
theorem UL {N:Nat} {e0 e1 e2 e3 e5 e6 e7 e8 e9 e10 e11 e13 e14 e15 e16 e18:Int} {e4 e12 e17:Bool} (hN:2097152<N):Ch N [.int e0,.int e1,.int e2,.int e3,.bool e4,.int e5,.int e6,.int e7,.int e8,.int e9,.int e10,.int e11,.bool e12,.int e13,.int e14,.int e15,.int e16,.bool e17,.int e18]=some [.int (evS (⟨e0,e1,e2,e3,e4,e5,e6,⟨e7,e8,e9,e10,e11,e12,e13,e14,e15,e16,e17,e18⟩⟩:Ev))]:=by
 show HI (std (DT N) N) (xOf _)=_;generalize hres:(some [.int (evS (⟨e0,e1,e2,e3,e4,e5,e6,⟨e7,e8,e9,e10,e11,e12,e13,e14,e15,e16,e17,e18⟩⟩:Ev))]:Option (List PV))=RR;cases hk:iLt e0 1||iLt 16 e0 with
 | true =>
  simp only [HI,HC,GQ,IU,C0,Alg.q,std,xOf,PXb,PXc,AE,hk,← hres,evS]
 | false =>
  simp only [HI,HC,GQ,IU,C0,Alg.q,std,xOf,PXb,PXc,AE,hk,aM,ZP];subst hres;obtain ⟨g1,g2,g3,g4,g5,g6,g7⟩:=oQ hk;refine AW (Kc (len:=7) (fun i => !pvB (AH (evT (⟨e0,e1,e2,e3,e4,e5,e6,⟨e7,e8,e9,e10,e11,e12,e13,e14,e15,e16,e17,e18⟩⟩:Ev)) i 1) && !Co e0 (pvI (AH (evT (⟨e0,e1,e2,e3,e4,e5,e6,⟨e7,e8,e9,e10,e11,e12,e13,e14,e15,e16,e17,e18⟩⟩:Ev)) i 0))) [.int 1] ?_ ?_ N (by omega)) ?_
  ·intro self;rfl
  ·intro i self hi;simp only [PXb,PXc,AE,Ax (show i≤1099511627776 by omega),List.length_cons,List.length_nil,Nat.reduceAdd,Ar hi,AX hi,WO hk];change cond (!pvB (AH (evT (⟨e0,e1,e2,e3,e4,e5,e6,⟨e7,e8,e9,e10,e11,e12,e13,e14,e15,e16,e17,e18⟩⟩:Ev)) i 1) && !(!pvB (AH (evT (⟨e0,e1,e2,e3,e4,e5,e6,⟨e7,e8,e9,e10,e11,e12,e13,e14,e15,e16,e17,e18⟩⟩:Ev)) i 1)&&Co e0 (pvI (AH (evT (⟨e0,e1,e2,e3,e4,e5,e6,⟨e7,e8,e9,e10,e11,e12,e13,e14,e15,e16,e17,e18⟩⟩:Ev)) i 0)))) _ _=_;cases pvB (AH (evT (⟨e0,e1,e2,e3,e4,e5,e6,⟨e7,e8,e9,e10,e11,e12,e13,e14,e15,e16,e17,e18⟩⟩:Ev)) i 1)<;>rfl
  ·have a1:BT (fun i => !pvB (AH (evT (⟨e0,e1,e2,e3,e4,e5,e6,⟨e7,e8,e9,e10,e11,e12,e13,e14,e15,e16,e17,e18⟩⟩:Ev)) i 1) && !Co e0 (pvI (AH (evT (⟨e0,e1,e2,e3,e4,e5,e6,⟨e7,e8,e9,e10,e11,e12,e13,e14,e15,e16,e17,e18⟩⟩:Ev)) i 0))) 7 0=eZ (⟨e0,e1,e2,e3,e4,e5,e6,⟨e7,e8,e9,e10,e11,e12,e13,e14,e15,e16,e17,e18⟩⟩:Ev):=by
    simp only [Bj,IM];change (!(e1==0) && !Co e0 115||(!(e2==0) && !Co e0 112||(!(e3==0) && !Co e0 111||(!(!e4) && !Co e0 121||(!(e5==0) && !Co e0 114||(!(e6==0) && !Co e0 118||(!(iy (⟨e0,e1,e2,e3,e4,e5,e6,⟨e7,e8,e9,e10,e11,e12,e13,e14,e15,e16,e17,e18⟩⟩:Ev).ball) && !Co e0 98||false)))))))=_;rw [g1,g2,g3,g4,g5,g6,g7,Bool.not_not,Bool.or_false];rfl
   rw [a1];simp only [evS,hk,cond_false];cases eZ (⟨e0,e1,e2,e3,e4,e5,e6,⟨e7,e8,e9,e10,e11,e12,e13,e14,e15,e16,e17,e18⟩⟩:Ev) with
   | true=>rfl
   | false =>
    simp only [PXb,PXc,AE];refine AW (Kc (len:=7) (fun i => !pvB (AH (evT (⟨e0,e1,e2,e3,e4,e5,e6,⟨e7,e8,e9,e10,e11,e12,e13,e14,e15,e16,e17,e18⟩⟩:Ev)) i 2)&&Co e0 (pvI (AH (evT (⟨e0,e1,e2,e3,e4,e5,e6,⟨e7,e8,e9,e10,e11,e12,e13,e14,e15,e16,e17,e18⟩⟩:Ev)) i 0))) [.int 2] ?_ ?_ N (by omega)) ?_
    ·intro self;rfl
    ·intro i self hi;simp only [PXb,PXc,AE,Ax (show i≤1099511627776 by omega),List.length_cons,List.length_nil,Nat.reduceAdd,Ar hi,AX hi,WO hk];rfl
    ·have a2:BT (fun i => !pvB (AH (evT (⟨e0,e1,e2,e3,e4,e5,e6,⟨e7,e8,e9,e10,e11,e12,e13,e14,e15,e16,e17,e18⟩⟩:Ev)) i 2)&&Co e0 (pvI (AH (evT (⟨e0,e1,e2,e3,e4,e5,e6,⟨e7,e8,e9,e10,e11,e12,e13,e14,e15,e16,e17,e18⟩⟩:Ev)) i 0))) 7 0=X2 (⟨e0,e1,e2,e3,e4,e5,e6,⟨e7,e8,e9,e10,e11,e12,e13,e14,e15,e16,e17,e18⟩⟩:Ev):=by
      simp only [Bj,IM];change (!(btw e1 1 2)&&Co e0 115||(!(btw e2 1 11)&&Co e0 112||(!(btw e3 1 11)&&Co e0 111||(!true&&Co e0 121||(!(btw e5 (loS e0) (hiS e0))&&Co e0 114||(!(btw e6 0 90)&&Co e0 118||(!true&&Co e0 98||false)))))))=_;rw [g1,g2,g3,g4,g5,g6,g7];simp only [Bool.not_true,Bool.false_and,Bool.false_or,Bool.or_false];rfl
     rw [a2];cases X2 (⟨e0,e1,e2,e3,e4,e5,e6,⟨e7,e8,e9,e10,e11,e12,e13,e14,e15,e16,e17,e18⟩⟩:Ev) with
     | true=>rfl
     | false =>
      simp only [PXb,PXc,PXn,PXm,Nat.reduceAdd,Int.reduceBEq,C0,Xt]
theorem c4 {c x x' y y':Bool} {a b d z z':Int} (h1:x=x') (h2:y=y') (h3:z=z'):(some [PV.int (cond c a (cond x b (cond y d z)))]:Option (List PV))=some [PV.int (cond c a (cond x' b (cond y' d z')))]:=by subst h1;subst h2;subst h3;rfl
end Go.Px
end
