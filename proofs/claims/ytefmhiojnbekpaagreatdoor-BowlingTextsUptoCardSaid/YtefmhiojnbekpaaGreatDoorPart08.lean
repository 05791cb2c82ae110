/- Part 8. -/
import Derived.Test.YtefmhiojnbekpaaGreatDoorPart07
set_option linter.unusedVariables false
set_option linter.unusedSimpArgs false
namespace Go.Px
set_option maxRecDepth 100000
def Sf:List Nat:=[0]
def Alg.q (O:Alg) (n:Int):O.I:=O.lit .i64 n
def Iu (O:Alg) (x:Ags O):O.M:=(O.ret [.bool (O.iteB (O.lt (x.I 0) (O.q 0)) O.tt (O.lt (O.q 1000000) (x.I 0)))])
def QU:Nat→Env:=eL []
def Fz:=oS Sf Iu QU
def VA:List Nat:=[3]
def LV (O:Alg) (x:Ags O):O.M:=(O.bind (O.bind (O.fix (fun s0 c0=>(O.ite (O.lt (O.cI c0 0) (O.llen (x.L 0))) (O.assert (O.inb (O.cI c0 0) (O.llen (x.L 0))) (O.bind (O.call 57 [] [.int (O.rI (x.L 0) (O.cI c0 0) 0)]) fun c1=>(O.ite (O.cB c1 0) (O.ret [.int (O.q 0),.int (O.cI c0 0)]) (s0 [.int (O.add .i64 (O.cI c0 0) (O.q 1))])))) (O.ret [.int (O.q 1)]))) [.int (O.q 0)]) fun c0=>(O.ite (O.isTag c0 0) (O.ret [.int (O.cI c0 1)]) (O.ret [.int (O.q (-1))]))) fun c0=>(O.ret [.bool (O.bnot (O.le (O.q 0) (O.cI c0 0)))]))
def Mv:Nat→Env:=eL [(57,Fz)]
theorem Pc {N ls}:Mv N 57 [] ls=Fz N ls:=id rfl
def CF:=oS VA LV Mv
def V9:List Nat:=[0]
def L7 (O:Alg) (x:Ags O):O.M:=(O.ret [.int (O.iteI (O.lt (x.I 0) (O.sub .i64 (O.q 0) (x.I 0))) (O.sub .i64 (O.q 0) (x.I 0)) (x.I 0))])
def Sd:Nat→Env:=eL []
def DA:=oS V9 L7 Sd
def XM:List Nat:=[0,0]
def Nb (O:Alg) (x:Ags O):O.M:=(O.ite (O.iteB (O.eqI (x.I 0) (O.q (-9223372036854775808))) O.tt (O.eqI (x.I 1) (O.q (-9223372036854775808)))) (O.ret [.int (O.q 0)]) (O.bind (O.call 59 [] [.int (x.I 0)]) fun c0=>(O.bind (O.call 59 [] [.int (x.I 1)]) fun c1=>(O.bind (O.fix (fun s2 c2=>(O.ite (O.bnot (O.eqI (O.cI c2 1) (O.q 0))) (O.assert (O.bnot (O.eqI (O.cI c2 1) (O.q 0))) (s2 [.int (O.cI c2 1),.int (O.rem .i64 (O.cI c2 0) (O.cI c2 1))])) (O.ret [.int (O.cI c2 0)]))) [.int (O.cI c0 0),.int (O.cI c1 0)]) fun c2=>(O.ret [.int (O.cI c2 0)])))))
def Oh:Nat→Env:=eL [(59,DA)]
theorem SL {N ls}:Oh N 59 [] ls=DA N ls:=id rfl
def Js:=oS XM Nb Oh
def Vs:List Nat:=[0,0]
def LH (O:Alg) (x:Ags O):O.M:=(O.ite (O.eqI (x.I 1) (O.q 0)) (O.ret [.int (O.q 0),.int (O.q 0),.int (O.q 1)]) (O.ite (O.iteB (O.eqI (x.I 0) (O.q (-9223372036854775808))) O.tt (O.eqI (x.I 1) (O.q (-9223372036854775808)))) (O.ret [.int (O.q 0),.int (O.q 0),.int (O.q 2)]) (O.bind (O.call 58 [] [.int (x.I 0),.int (x.I 1)]) fun c0=>(O.assert (O.bnot (O.eqI (O.cI c0 0) (O.q 0))) (O.assert (O.bnot (O.eqI (O.cI c0 0) (O.q 0))) (O.bind (O.ite (O.lt (O.quo .i64 (x.I 1) (O.cI c0 0)) (O.q 0)) (O.ret [.int (O.sub .i64 (O.q 0) (O.quo .i64 (x.I 0) (O.cI c0 0))),.int (O.sub .i64 (O.q 0) (O.quo .i64 (x.I 1) (O.cI c0 0)))]) (O.ret [.int (O.quo .i64 (x.I 0) (O.cI c0 0)),.int (O.quo .i64 (x.I 1) (O.cI c0 0))])) fun c1=>(O.bind (O.ite (O.bnot (O.lt (O.q 2147483648) (O.cI c1 1))) (O.call 59 [] [.int (O.cI c1 0)]) (O.ret [.int (O.q 0)])) fun c2=>(O.ite (O.iteB (O.lt (O.q 2147483648) (O.cI c1 1)) O.tt (O.lt (O.q 2147483648) (O.cI c2 0))) (O.ret [.int (O.q 0),.int (O.q 0),.int (O.q 2)]) (O.ret [.int (O.cI c1 0),.int (O.cI c1 1),.int (O.q 0)])))))))))
def Is:Nat→Env:=eL [(58,Js),(59,DA)]
theorem Rw {N ls}:Is N 58 [] ls=Js N ls:=id rfl
theorem JG {N ls}:Is N 59 [] ls=DA N ls:=id rfl
def H8:=oS Vs LH Is
def Oq:List Nat:=[0,0,0,0,0,0,0,0]
def Fd (O:Alg) (x:Ags O):O.M:=(O.bind (O.call 29 [] [.rows (O.llit [[.int (x.I 3)],[.int (x.I 1)]])]) fun c0=>(O.ite (O.iteB (O.iteB (O.bnot (O.cB c0 0)) O.tt (O.lt (x.I 7) (O.q 4))) O.tt (O.lt (O.q 8) (x.I 7))) (O.ret [.int (O.q 0),.int (O.q 0),.int (O.q 2)]) (O.ite (O.eqI (x.I 1) (O.q 0)) (O.ret [.int (O.q 0),.int (O.q 0),.int (O.q 1)]) (O.bind (O.call 30 [] [.int (O.mul .i64 (x.I 7) (x.I 3)),.int (x.I 1)]) fun c1=>(O.ret (cr O c1 [0,0,0] 0))))))
def Ed:Nat→Env:=eL [(29,CF),(30,H8)]
theorem M1 {N ls}:Ed N 29 [] ls=CF N ls:=id rfl
theorem M2 {N ls}:Ed N 30 [] ls=H8 N ls:=id rfl
def Bk:=oS Oq Fd Ed
def RS:List Nat:=[0,0,0]
def HZ (O:Alg) (x:Ags O):O.M:=(O.ret [.bool (O.iteB (O.le (x.I 1) (x.I 0)) (O.le (x.I 0) (x.I 2)) O.ff)])
def O7:Nat→Env:=eL []
def BK:=oS RS HZ O7
def Uf:List Nat:=[0]
def J7 (O:Alg) (x:Ags O):O.M:=(O.bind (O.call 63 [] [.int (x.I 0),.int (O.q 1),.int (O.q 8)]) fun c0=>(O.ret [.bool (O.cB c0 0)]))
def L2:Nat→Env:=eL [(63,BK)]
theorem N2 {N ls}:L2 N 63 [] ls=BK N ls:=id rfl
def Cg:=oS Uf J7 L2
def ZO:List Nat:=[0,0]
def PF (O:Alg) (x:Ags O):O.M:=(O.bind (O.call 62 [] [.int (x.I 1)]) fun c0=>(O.bind (O.ite (O.bnot (O.bnot (O.cB c0 0))) (O.call 63 [] [.int (x.I 0),.int (O.q 0),.int (O.q 1000000)]) (O.ret [.bool O.ff])) fun c1=>(O.ite (O.iteB (O.bnot (O.cB c0 0)) O.tt (O.bnot (O.cB c1 0))) (O.ret [.int (O.q 0),.int (O.q 0)]) (O.assert (O.bnot (O.eqI (x.I 1) (O.q 0))) (O.assert (O.bnot (O.eqI (x.I 1) (O.q 0))) (O.ret [.int (O.quo .i64 (x.I 0) (x.I 1)),.int (O.rem .i64 (x.I 0) (x.I 1))]))))))
def LG:Nat→Env:=eL [(62,Cg),(63,BK)]
theorem R5 {N ls}:LG N 62 [] ls=Cg N ls:=id rfl
theorem Qp {N ls}:LG N 63 [] ls=BK N ls:=id rfl
def Lt:=oS ZO PF LG
def Ey (N:Nat) (ls:List PV):Option (List PV):=iY ls
def S7:List Nat:=[0]
def Ih (O:Alg) (x:Ags O):O.M:=(O.bind (O.call 90 [] [.int (x.I 0)]) fun c0=>(O.ret [.str (O.cS c0 0)]))
def KY:Nat→Env:=eL [(90,Ey)]
theorem M0 {N ls}:KY N 90 [] ls=Ey N ls:=id rfl
def GD:=oS S7 Ih KY
def VQ:List Nat:=[0,0]
def LY (O:Alg) (x:Ags O):O.M:=(O.bind (O.call 62 [] [.int (x.I 1)]) fun c0=>(O.bind (O.ite (O.bnot (O.bnot (O.cB c0 0))) (O.call 63 [] [.int (x.I 0),.int (O.q 0),.int (O.q 1000000)]) (O.ret [.bool O.ff])) fun c1=>(O.ite (O.iteB (O.bnot (O.cB c0 0)) O.tt (O.bnot (O.cB c1 0))) (O.ret [.str (O.slit ⟨#[]⟩),.int (O.q 2)]) (O.bind (O.call 64 [] [.int (x.I 0),.int (x.I 1)]) fun c2=>(O.bind (O.call 65 [] [.int (O.cI c2 0)]) fun c3=>(O.assert (O.small (O.slen (O.cS c3 0)) 1) (O.assert (O.small (O.slen (O.slit ⟨#[46]⟩)) 1) (O.bind (O.call 65 [] [.int (O.cI c2 1)]) fun c4=>(O.assert (O.small (O.slen (O.scat (O.cS c3 0) (O.slit ⟨#[46]⟩))) 1) (O.assert (O.small (O.slen (O.cS c4 0)) 1) (O.ret [.str (O.scat (O.scat (O.cS c3 0) (O.slit ⟨#[46]⟩)) (O.cS c4 0)),.int (O.q 0)])))))))))))
def D6:Nat→Env:=eL [(62,Cg),(63,BK),(64,Lt),(65,GD)]
theorem QX {N ls}:D6 N 62 [] ls=Cg N ls:=id rfl
theorem OZ {N ls}:D6 N 63 [] ls=BK N ls:=id rfl
theorem S4 {N ls}:D6 N 64 [] ls=Lt N ls:=id rfl
theorem Pe {N ls}:D6 N 65 [] ls=GD N ls:=id rfl
def IB:=oS VQ LY D6
def CV (N:Nat) (ls:List PV):Option (List PV):=mE ls
def MY:List Nat:=[0,0]
def EV (O:Alg) (x:Ags O):O.M:=(O.bind (O.call 91 [] [.int (x.I 0),.int (x.I 1)]) fun c0=>(O.ret [.str (O.cS c0 0)]))
def F3:Nat→Env:=eL [(91,CV)]
theorem HT {N ls}:F3 N 91 [] ls=CV N ls:=id rfl
def Cx:=oS MY EV F3
def TB:List Nat:=[0]
def I2 (O:Alg) (x:Ags O):O.M:=(O.bind (O.call 66 [] [.int (x.I 0),.int (O.q 10)]) fun c0=>(O.ret [.str (O.cS c0 0)]))
def KZ:Nat→Env:=eL [(66,Cx)]
theorem Kj {N ls}:KZ N 66 [] ls=Cx N ls:=id rfl
def F8:=oS TB I2 KZ
def TI:List Nat:=[0,0,0,0,0,0,0,0]
def I5 (O:Alg) (x:Ags O):O.M:=(O.bind (O.call 29 [] [.rows (O.llit [[.int (x.I 1)],[.int (x.I 2)],[.int (x.I 3)],[.int (x.I 4)]])]) fun c0=>(O.ite (O.bnot (O.cB c0 0)) (O.ret [.str (O.slit ⟨#[]⟩),.int (O.q 2)]) (O.bind (O.call 33 [] [.int (x.I 1),.int (x.I 7)]) fun c1=>(O.ite (O.bnot (O.eqI (O.cI c1 1) (O.q 0))) (O.ret [.str (O.slit ⟨#[]⟩),.int (O.cI c1 1)]) (O.bind (O.fix (fun s2 c2=>(O.ite (O.lt (O.cI c2 1) (O.llen (O.llit [[.int (x.I 2)],[.int (x.I 3)],[.int (x.I 4)]]))) (O.assert (O.inb (O.cI c2 1) (O.llen (O.llit [[.int (x.I 2)],[.int (x.I 3)],[.int (x.I 4)]]))) (O.bind (O.call 34 [] [.int (O.rI (O.llit [[.int (x.I 2)],[.int (x.I 3)],[.int (x.I 4)]]) (O.cI c2 1) 0)]) fun c3=>(O.assert (O.small (O.slen (O.slit ⟨#[45]⟩)) 1) (O.assert (O.small (O.slen (O.cS c3 0)) 1) (O.assert (O.small (O.slen (O.cS c2 0)) 1) (O.assert (O.small (O.slen (O.scat (O.slit ⟨#[45]⟩) (O.cS c3 0))) 1) (s2 [.str (O.scat (O.cS c2 0) (O.scat (O.slit ⟨#[45]⟩) (O.cS c3 0))),.int (O.add .i64 (O.cI c2 1) (O.q 1))]))))))) (O.ret [.str (O.cS c2 0)]))) [.str (O.cS c1 0),.int (O.q 0)]) fun c2=>(O.ret [.str (O.cS c2 0),.int (O.q 0)]))))))
def EN:Nat→Env:=eL [(29,CF),(33,IB),(34,F8)]
theorem PY {N ls}:EN N 29 [] ls=CF N ls:=id rfl
theorem PS {N ls}:EN N 33 [] ls=IB N ls:=id rfl
theorem Nm {N ls}:EN N 34 [] ls=F8 N ls:=id rfl
def CS:=oS TI I5 EN
def Xp:List Nat:=[2]
def NN (O:Alg) (x:Ags O):O.M:=(O.bind (O.fix (fun s0 c0=>(O.ite (O.lt (O.cI c0 0) (O.llen (O.sbytes (x.S 0)))) (O.assert (O.inb (O.cI c0 0) (O.llen (O.sbytes (x.S 0)))) (O.ite (O.iteB (O.bnot (O.iteB (O.le (O.lit .u8 65) (O.rI (O.sbytes (x.S 0)) (O.cI c0 0) 0)) (O.le (O.rI (O.sbytes (x.S 0)) (O.cI c0 0) 0) (O.lit .u8 90)) O.ff)) (O.iteB (O.eqI (O.cI c0 0) (O.q 0)) O.tt (O.iteB (O.iteB (O.bnot (O.eqI (O.rI (O.sbytes (x.S 0)) (O.cI c0 0) 0) (O.lit .u8 95))) (O.bnot (O.eqI (O.rI (O.sbytes (x.S 0)) (O.cI c0 0) 0) (O.lit .u8 45))) O.ff) (O.iteB (O.lt (O.rI (O.sbytes (x.S 0)) (O.cI c0 0) 0) (O.lit .u8 48)) O.tt (O.lt (O.lit .u8 57) (O.rI (O.sbytes (x.S 0)) (O.cI c0 0) 0))) O.ff)) O.ff) (O.ret [.int (O.q 0),.bool O.ff]) (s0 [.int (O.add .i64 (O.cI c0 0) (O.q 1))]))) (O.ret [.int (O.q 1)]))) [.int (O.q 0)]) fun c0=>(O.ite (O.isTag c0 0) (O.ret [.bool (O.cB c0 1)]) (O.ret [.bool (O.iteB (O.le (O.q 1) (O.slen (x.S 0))) (O.le (O.slen (x.S 0)) (O.q 16)) O.ff)])))
def UO:Nat→Env:=eL []
def Ji:=oS Xp NN UO
def RI:List Nat:=[0,0,0]
def Rb (O:Alg) (x:Ags O):O.M:=(O.ret [.bool (O.iteB (O.le (x.I 1) (x.I 0)) (O.le (x.I 0) (x.I 2)) O.ff)])
def XA:Nat→Env:=eL []
def B5:=oS RI Rb XA
def Rq:List Nat:=[2,0,0,0,0,0,0,0,1,0,0,0,0,3]
def Hg (O:Alg) (x:Ags O):O.M:=(O.bind (O.call 115 [] [.int (x.I 1),.int (O.q 2),.int (O.q 11)]) fun c0=>(O.bind (O.ite (O.cB c0 0) (O.call 115 [] [.int (x.I 2),.int (O.q 1),.int (O.q 2)]) (O.ret [.bool O.ff])) fun c1=>(O.bind (O.ite (O.iteB (O.cB c0 0) (O.cB c1 0) O.ff) (O.call 115 [] [.int (x.I 3),.int (O.q 0),.int (O.q 90)]) (O.ret [.bool O.ff])) fun c2=>(O.bind (O.ite (O.iteB (O.iteB (O.cB c0 0) (O.cB c1 0) O.ff) (O.cB c2 0) O.ff) (O.call 115 [] [.int (x.I 4),.int (O.q 4),.int (O.q 8)]) (O.ret [.bool O.ff])) fun c3=>(O.bind (O.ite (O.iteB (O.iteB (O.iteB (O.cB c0 0) (O.cB c1 0) O.ff) (O.cB c2 0) O.ff) (O.cB c3 0) O.ff) (O.call 115 [] [.int (x.I 5),.int (O.q 0),.int (O.q 90)]) (O.ret [.bool O.ff])) fun c4=>(O.bind (O.ite (O.iteB (O.iteB (O.iteB (O.iteB (O.cB c0 0) (O.cB c1 0) O.ff) (O.cB c2 0) O.ff) (O.cB c3 0) O.ff) (O.cB c4 0) O.ff) (O.call 115 [] [.int (x.I 6),.int (O.q 1),.int (O.q 5)]) (O.ret [.bool O.ff])) fun c5=>(O.bind (O.ite (O.iteB (O.iteB (O.iteB (O.iteB (O.iteB (O.cB c0 0) (O.cB c1 0) O.ff) (O.cB c2 0) O.ff) (O.cB c3 0) O.ff) (O.cB c4 0) O.ff) (O.cB c5 0) O.ff) (O.call 115 [] [.int (x.I 7),.int (O.q 1),.int (O.q 5)]) (O.ret [.bool O.ff])) fun c6=>(O.bind (O.ite (O.iteB (O.iteB (O.iteB (O.iteB (O.iteB (O.iteB (O.cB c0 0) (O.cB c1 0) O.ff) (O.cB c2 0) O.ff) (O.cB c3 0) O.ff) (O.cB c4 0) O.ff) (O.cB c5 0) O.ff) (O.cB c6 0) O.ff) (O.call 115 [] [.int (x.I 9),.int (O.q 0),.int (O.q 200)]) (O.ret [.bool O.ff])) fun c7=>(O.bind (O.ite (O.iteB (O.iteB (O.iteB (O.iteB (O.iteB (O.iteB (O.iteB (O.cB c0 0) (O.cB c1 0) O.ff) (O.cB c2 0) O.ff) (O.cB c3 0) O.ff) (O.cB c4 0) O.ff) (O.cB c5 0) O.ff) (O.cB c6 0) O.ff) (O.cB c7 0) O.ff) (O.call 115 [] [.int (x.I 10),.int (O.q 0),.int (O.q 1000)]) (O.ret [.bool O.ff])) fun c8=>(O.bind (O.ite (O.iteB (O.iteB (O.iteB (O.iteB (O.iteB (O.iteB (O.iteB (O.iteB (O.cB c0 0) (O.cB c1 0) O.ff) (O.cB c2 0) O.ff) (O.cB c3 0) O.ff) (O.cB c4 0) O.ff) (O.cB c5 0) O.ff) (O.cB c6 0) O.ff) (O.cB c7 0) O.ff) (O.cB c8 0) O.ff) (O.call 115 [] [.int (x.I 11),.int (O.q 0),.int (O.q 9)]) (O.ret [.bool O.ff])) fun c9=>(O.bind (O.ite (O.iteB (O.iteB (O.iteB (O.iteB (O.iteB (O.iteB (O.iteB (O.iteB (O.iteB (O.cB c0 0) (O.cB c1 0) O.ff) (O.cB c2 0) O.ff) (O.cB c3 0) O.ff) (O.cB c4 0) O.ff) (O.cB c5 0) O.ff) (O.cB c6 0) O.ff) (O.cB c7 0) O.ff) (O.cB c8 0) O.ff) (O.cB c9 0) O.ff) (O.call 115 [] [.int (x.I 12),.int (O.q 0),.int (O.q 11)]) (O.ret [.bool O.ff])) fun c10=>(O.ret [.bool (O.iteB (O.iteB (O.iteB (O.iteB (O.iteB (O.iteB (O.iteB (O.iteB (O.iteB (O.iteB (O.cB c0 0) (O.cB c1 0) O.ff) (O.cB c2 0) O.ff) (O.cB c3 0) O.ff) (O.cB c4 0) O.ff) (O.cB c5 0) O.ff) (O.cB c6 0) O.ff) (O.cB c7 0) O.ff) (O.cB c8 0) O.ff) (O.cB c9 0) O.ff) (O.cB c10 0) O.ff)]))))))))))))
def JJ:Nat→Env:=eL [(115,B5)]
def FN:=oS Rq Hg JJ
def Sq:List Nat:=[2,0,0,0,0,0,0,0,1,0,0,0,0,3]
def JB (O:Alg) (x:Ags O):O.M:=(O.ite (O.lt (O.q 8) (O.llen (x.L 13))) (O.ret [.int (O.q 9)]) (O.bind (O.fix (fun s0 c0=>(O.ite (O.lt (O.cI c0 0) (O.llen (x.L 13))) (O.assert (O.inb (O.cI c0 0) (O.llen (x.L 13))) (O.bind (O.ite (O.bnot (O.iteB (O.iteB (O.lt (O.rI (x.L 13) (O.cI c0 0) 0) (O.q 1)) O.tt (O.lt (O.rI (x.L 13) (O.cI c0 0) 1) (O.rI (x.L 13) (O.cI c0 0) 0))) O.tt (O.lt (x.I 3) (O.rI (x.L 13) (O.cI c0 0) 1)))) (O.call 115 [] [.int (O.rI (x.L 13) (O.cI c0 0) 2),.int (O.q 0),.int (O.q 11)]) (O.ret [.bool O.ff])) fun c1=>(O.ite (O.iteB (O.iteB (O.iteB (O.lt (O.rI (x.L 13) (O.cI c0 0) 0) (O.q 1)) O.tt (O.lt (O.rI (x.L 13) (O.cI c0 0) 1) (O.rI (x.L 13) (O.cI c0 0) 0))) O.tt (O.lt (x.I 3) (O.rI (x.L 13) (O.cI c0 0) 1))) O.tt (O.bnot (O.cB c1 0))) (O.ret [.int (O.q 0),.int (O.q 2)]) (O.assert (O.bnot (O.band (O.lt (O.q 0) (O.cI c0 0)) (O.bnot (O.inb (O.sub .i64 (O.cI c0 0) (O.q 1)) (O.llen (x.L 13)))))) (O.ite (O.iteB (O.lt (O.q 0) (O.cI c0 0)) (O.le (O.rI (x.L 13) (O.cI c0 0) 0) (O.rI (x.L 13) (O.sub .i64 (O.cI c0 0) (O.q 1)) 1)) O.ff) (O.ret [.int (O.q 0),.int (O.q 8)]) (s0 [.int (O.add .i64 (O.cI c0 0) (O.q 1))])))))) (O.ret [.int (O.q 1)]))) [.int (O.q 0)]) fun c0=>(O.ite (O.isTag c0 0) (O.ret [.int (O.cI c0 1)]) (O.ret [.int (O.q 0)]))))
def KX:Nat→Env:=eL [(115,B5)]
def Fq:=oS Sq JB KX
def Ud:List Nat:=[2,0,0,0,0,0,0,0,1,0,0,0,0,3]
def J8 (O:Alg) (x:Ags O):O.M:=(O.bind (O.call 92 [] [.str (x.S 0)]) fun c0=>(O.ite (O.bnot (O.cB c0 0)) (O.ret [.int (O.q 5)]) (O.bind (O.call 93 [] (xr x kR 0)) fun c1=>(O.ite (O.bnot (O.cB c1 0)) (O.ret [.int (O.q 2)]) (O.bind (O.ite (O.iteB (O.bnot (O.eqI (x.I 10) (O.q 0))) (O.eqI (x.I 2) (O.q 1)) O.ff) (O.ret [.bool (O.iteB (O.bnot (O.eqI (x.I 10) (O.q 0))) (O.eqI (x.I 2) (O.q 1)) O.ff)]) (O.ret [.bool (O.iteB (O.iteB (O.bnot (O.eqI (x.I 5) (O.q 0))) O.tt (O.lt (O.q 0) (O.llen (x.L 13)))) (O.eqI (x.I 3) (O.q 0)) O.ff)])) fun c2=>(O.ite (O.cB c2 0) (O.ret [.int (O.q 1)]) (O.ite (O.iteB (O.bnot (O.eqI (x.I 5) (O.q 0))) (O.lt (O.mul .i64 (x.I 5) (x.I 1)) (x.I 3)) O.ff) (O.ret [.int (O.q 13)]) (O.bind (O.call 94 [] (xr x kR 0)) fun c3=>(O.ret [.int (O.cI c3 0)])))))))))
def E9:Nat→Env:=eL [(92,Ji),(93,FN),(94,Fq)]
def AP:=oS Ud J8 E9
def Ca (N:Nat) (ls:List PV):Option (List PV):=N6 24 ls
def UY:List Nat:=[2,0,0,0,0,0,0,0,1,0,0,0,0,3]
def Jx (O:Alg) (x:Ags O):O.M:=(O.bind (O.call 116 [] [.rows (x.L 13)]) fun c0=>(O.ret (ap O (xr x [2,0,0,0,0,0,0,0,1,0,0,0,0] 0) [.rows (O.cL c0 0)])))
def Ln:Nat→Env:=eL [(116,Ca)]
theorem KP {N ls}:Ln N 116 [] ls=Ca N ls:=id rfl
def Ck:=oS UY Jx Ln
def XB:List Nat:=[2,0,0,0,0,0,0,0,1,0,0,0,0,3]
def Nd (O:Alg) (x:Ags O):O.M:=(O.bind (O.call 70 [] (xr x kR 0)) fun c0=>(O.ite (O.bnot (O.eqI (O.cI c0 0) (O.q 0))) (O.ret [.str (O.slit ⟨#[]⟩),.int (O.q 0),.int (O.q 0),.int (O.q 0),.int (O.q 0),.int (O.q 0),.int (O.q 0),.int (O.q 0),.bool O.ff,.int (O.q 0),.int (O.q 0),.int (O.q 0),.int (O.q 0),.rows O.lnil,.int (O.lit .u8 0),.int (O.q 0),.bool O.ff,.rows O.lnil,.int (O.q 0),.int (O.q 0),.int (O.lit .u8 0),.int (O.q 0),.int (O.q 0),.int (O.cI c0 0)]) (O.bind (O.call 95 [] (xr x kR 0)) fun c1=>(O.ret (ap O (cr O c1 kR 0) [.int (O.lit .u8 1),.int (O.q 0),.bool O.ff,.rows O.lnil,.int (O.q 0),.int (O.q 0),.int (O.lit .u8 0),.int (O.q 0),.int (O.q 0),.int (O.q 0)])))))
def J1:Nat→Env:=eL [(70,AP),(95,Ck)]
theorem Q4 {N ls}:J1 N 70 [] ls=AP N ls:=id rfl
theorem Q0 {N ls}:J1 N 95 [] ls=Ck N ls:=id rfl
def NP:=oS XB Nd J1
def Om:List Nat:=[0,0,0]
def PD (O:Alg) (x:Ags O):O.M:=(O.ret [.bool (O.iteB (O.le (x.I 1) (x.I 0)) (O.le (x.I 0) (x.I 2)) O.ff)])
def Us:Nat→Env:=eL []
def Ag:=oS Om PD Us
def O1:List Nat:=[0,0,0,0,0,0,0,0,0,0,0,0,0,0,3,0,3,3,1,3,1,0,0,0,3,0,0,0,0]
def Fk (O:Alg) (x:Ags O):O.M:=(O.bind (O.fix (fun s0 c0=>(O.ite (O.lt (O.cI c0 3) (O.llen (x.L 14))) (O.assert (O.inb (O.cI c0 3) (O.llen (x.L 14))) (O.ite (O.lt (O.lit .u8 3) (O.rI (x.L 14) (O.cI c0 3) 0)) (O.ret [.int (O.q 0),.bool O.ff]) (O.ite (O.eqI (O.rI (x.L 14) (O.cI c0 3) 0) (O.lit .u8 1)) (O.ite (O.iteB (O.bnot (O.eqI (x.I 12) (O.add .i64 (O.cI c0 3) (O.q 1)))) (O.bnot (O.eqI (x.I 13) (O.add .i64 (O.cI c0 3) (O.q 1)))) O.ff) (O.ret [.int (O.q 0),.bool O.ff]) (s0 [.int (O.cI c0 0),.int (O.add .i64 (O.cI c0 1) (O.q 1)),.bool (O.iteB (O.cB c0 2) O.tt (O.bnot (O.eqI (O.rI (x.L 14) (O.cI c0 3) 0) (O.lit .u8 0)))),.int (O.add .i64 (O.cI c0 3) (O.q 1))])) (O.ite (O.eqI (O.rI (x.L 14) (O.cI c0 3) 0) (O.lit .u8 2)) (s0 [.int (O.add .i64 (O.cI c0 0) (O.q 1)),.int (O.cI c0 1),.bool (O.iteB (O.cB c0 2) O.tt (O.bnot (O.eqI (O.rI (x.L 14) (O.cI c0 3) 0) (O.lit .u8 0)))),.int (O.add .i64 (O.cI c0 3) (O.q 1))]) (s0 [.int (O.cI c0 0),.int (O.cI c0 1),.bool (O.iteB (O.cB c0 2) O.tt (O.bnot (O.eqI (O.rI (x.L 14) (O.cI c0 3) 0) (O.lit .u8 0)))),.int (O.add .i64 (O.cI c0 3) (O.q 1))]))))) (O.ret (ap O [.int (O.q 1)] (cr O c0 [0,0,1] 0))))) [.int (O.q 0),.int (O.q 0),.bool O.ff,.int (O.q 0)]) fun c0=>(O.ite (O.isTag c0 0) (O.ret [.bool (O.cB c0 1)]) (O.bind (O.call 164 [] [.int (x.I 12),.int (O.q 0),.int (x.I 28)]) fun c1=>(O.bind (O.ite (O.bnot (O.bnot (O.cB c1 0))) (O.call 164 [] [.int (x.I 13),.int (O.q 0),.int (x.I 28)]) (O.ret [.bool O.ff])) fun c2=>(O.ite (O.iteB (O.iteB (O.bnot (O.cB c1 0)) O.tt (O.bnot (O.cB c2 0))) O.tt (O.iteB (O.eqI (x.I 12) (x.I 13)) (O.bnot (O.eqI (x.I 12) (O.q 0))) O.ff)) (O.ret [.bool O.ff]) (O.bind (O.ite (O.bnot (O.eqI (x.I 12) (O.q 0))) (O.ret [.int (O.add .i64 (O.q 0) (O.q 1))]) (O.ret [.int (O.q 0)])) fun c3=>(O.bind (O.ite (O.bnot (O.eqI (x.I 13) (O.q 0))) (O.ret [.int (O.add .i64 (O.cI c3 0) (O.q 1))]) (O.ret [.int (O.cI c3 0)])) fun c4=>(O.ret [.bool (O.iteB (O.iteB (O.eqI (O.cI c4 0) (O.cI c0 2)) (O.iteB (O.bnot (O.cB c0 3)) O.tt (O.lt (O.q 0) (O.cI c4 0))) O.ff) (O.eqI (O.cI c0 1) (x.I 4)) O.ff)]))))))))
def HX:Nat→Env:=eL [(164,Ag)]
def Dj:=oS O1 Fk HX
def Ni:List Nat:=[3,0]
def Ew (O:Alg) (x:Ags O):O.M:=(O.bind (O.fix (fun s0 c0=>(O.ite (O.lt (O.cI c0 0) (O.llen (x.L 0))) (O.assert (O.inb (O.cI c0 0) (O.llen (x.L 0))) (O.ite (O.eqI (x.I 1) (O.rI (x.L 0) (O.cI c0 0) 0)) (O.ret [.int (O.q 0),.int (O.cI c0 0)]) (s0 [.int (O.add .i64 (O.cI c0 0) (O.q 1))]))) (O.ret [.int (O.q 1)]))) [.int (O.q 0)]) fun c0=>(O.ite (O.isTag c0 0) (O.ret [.int (O.cI c0 1)]) (O.ret [.int (O.q (-1))])))
def Lu:Nat→Env:=eL []
def DH:=oS Ni Ew Lu
def Kn:List Nat:=[3,0]
def DU (O:Alg) (x:Ags O):O.M:=(O.bind (O.call 206 [] [.rows (x.L 0),.int (x.I 1)]) fun c0=>(O.ret [.bool (O.le (O.q 0) (O.cI c0 0))]))
def En:Nat→Env:=eL [(206,DH)]
def Aj:=oS Kn DU En
def MU:List Nat:=[3,0]
def EY (O:Alg) (x:Ags O):O.M:=(O.bind (O.fix (fun s0 c0=>(O.ite (O.lt (O.cI c0 0) (O.llen (x.L 0))) (O.assert (O.inb (O.cI c0 0) (O.llen (x.L 0))) (O.bind (O.call 164 [] [.int (O.rI (x.L 0) (O.cI c0 0) 0),.int (O.q 1),.int (x.I 1)]) fun c1=>(O.assert (O.bnot (O.band (O.bnot (O.bnot (O.cB c1 0))) (O.bnot (O.inr (O.q 0) (O.cI c0 0) (O.llen (x.L 0)))))) (O.bind (O.ite (O.bnot (O.bnot (O.cB c1 0))) (O.call 185 [] [.rows (O.lsub (x.L 0) (O.q 0) (O.cI c0 0)),.int (O.rI (x.L 0) (O.cI c0 0) 0)]) (O.ret [.bool O.ff])) fun c2=>(O.ite (O.iteB (O.bnot (O.cB c1 0)) O.tt (O.cB c2 0)) (O.ret [.int (O.q 0),.bool O.ff]) (s0 [.int (O.add .i64 (O.cI c0 0) (O.q 1))])))))) (O.ret [.int (O.q 1)]))) [.int (O.q 0)]) fun c0=>(O.ite (O.isTag c0 0) (O.ret [.bool (O.cB c0 1)]) (O.ret [.bool O.tt])))
def DS:Nat→Env:=eL [(164,Ag),(185,Aj)]
def Cs:=oS MU EY DS
def MT:List Nat:=[0]
def Ee (O:Alg) (x:Ags O):O.M:=(O.bind (O.call 164 [] [.int (x.I 0),.int (O.q 0),.int (O.q 1000000000)]) fun c0=>(O.ret [.bool (O.bnot (O.cB c0 0))]))
def F1:Nat→Env:=eL [(164,Ag)]
def Cq:=oS MT Ee F1
def Oy:List Nat:=[0,0,0,0,0,0,0,0,0,0,0,0,0,0,3,0,3,3,1,3,1,0,0,0,3,0,0,0]
def Fo (O:Alg) (x:Ags O):O.M:=(O.assert (O.small (O.llen (O.lapp (O.llit [[.int (x.I 1)],[.int (x.I 3)],[.int (x.I 5)],[.int (x.I 6)],[.int (x.I 7)],[.int (x.I 8)],[.int (x.I 9)],[.int (x.I 10)],[.int (x.I 21)],[.int (x.I 23)],[.int (x.I 25)],[.int (x.I 26)]]) (x.L 19))) 8) (O.bind (O.bind (O.fix (fun s0 c0=>(O.ite (O.lt (O.cI c0 0) (O.llen (O.lapp (O.llit [[.int (x.I 1)],[.int (x.I 3)],[.int (x.I 5)],[.int (x.I 6)],[.int (x.I 7)],[.int (x.I 8)],[.int (x.I 9)],[.int (x.I 10)],[.int (x.I 21)],[.int (x.I 23)],[.int (x.I 25)],[.int (x.I 26)]]) (x.L 19)))) (O.assert (O.inb (O.cI c0 0) (O.llen (O.lapp (O.llit [[.int (x.I 1)],[.int (x.I 3)],[.int (x.I 5)],[.int (x.I 6)],[.int (x.I 7)],[.int (x.I 8)],[.int (x.I 9)],[.int (x.I 10)],[.int (x.I 21)],[.int (x.I 23)],[.int (x.I 25)],[.int (x.I 26)]]) (x.L 19)))) (O.bind (O.call 186 [] [.int (O.rI (O.lapp (O.llit [[.int (x.I 1)],[.int (x.I 3)],[.int (x.I 5)],[.int (x.I 6)],[.int (x.I 7)],[.int (x.I 8)],[.int (x.I 9)],[.int (x.I 10)],[.int (x.I 21)],[.int (x.I 23)],[.int (x.I 25)],[.int (x.I 26)]]) (x.L 19)) (O.cI c0 0) 0)]) fun c1=>(O.ite (O.cB c1 0) (O.ret [.int (O.q 0),.int (O.cI c0 0)]) (s0 [.int (O.add .i64 (O.cI c0 0) (O.q 1))])))) (O.ret [.int (O.q 1)]))) [.int (O.q 0)]) fun c0=>(O.ite (O.isTag c0 0) (O.ret [.int (O.cI c0 1)]) (O.ret [.int (O.q (-1))]))) fun c0=>(O.ret [.bool (O.bnot (O.le (O.q 0) (O.cI c0 0)))])))
def HY:Nat→Env:=eL [(186,Cq)]
def Dr:=oS Oy Fo HY
def RY:List Nat:=[2,0,0,0,0,0,0,0,1,0,0,0,0,3,0,0,0,0,0,0,0,0,0,0,0,0,0,0,3,0,3,3,1,3,1,0,0,0,3,0,0,0]
def Hm (O:Alg) (x:Ags O):O.M:=(O.bind (O.call 70 [] (xr x kR 0)) fun c0=>(O.bind (O.ite (O.bnot (O.bnot (O.eqI (O.cI c0 0) (O.q 0)))) (O.call 164 [] [.int (x.I 14),.int (O.q 1),.int (O.q 2)]) (O.ret [.bool O.ff])) fun c1=>(O.ite (O.iteB (O.bnot (O.eqI (O.cI c0 0) (O.q 0))) O.tt (O.bnot (O.cB c1 0))) (O.ret [.bool O.ff]) (O.ite (O.iteB (O.iteB (O.iteB (O.bnot (O.eqI (O.llen (x.L 28)) (x.I 1))) O.tt (O.bnot (O.eqI (O.llen (x.L 33)) (x.I 1)))) O.tt (O.bnot (O.eqI (O.llen (x.L 38)) (x.I 1)))) O.tt (O.lt (O.lit .u8 5) (x.I 41))) (O.ret [.bool O.ff]) (O.bind (O.call 165 [] (ap O (xr x kI 14) [.int (x.I 1)])) fun c2=>(O.bind (O.ite (O.bnot (O.bnot (O.cB c2 0))) (O.call 164 [] [.int (x.I 29),.int (O.q 0),.int (x.I 1)]) (O.ret [.bool O.ff])) fun c3=>(O.bind (O.ite (O.bnot (O.iteB (O.bnot (O.cB c2 0)) O.tt (O.bnot (O.cB c3 0)))) (O.call 164 [] [.int (x.I 36),.int (O.q 0),.int (x.I 1)]) (O.ret [.bool O.ff])) fun c4=>(O.bind (O.ite (O.bnot (O.iteB (O.iteB (O.bnot (O.cB c2 0)) O.tt (O.bnot (O.cB c3 0))) O.tt (O.bnot (O.cB c4 0)))) (O.call 166 [] [.rows (x.L 30),.int (x.I 1)]) (O.ret [.bool O.ff])) fun c5=>(O.bind (O.ite (O.bnot (O.iteB (O.iteB (O.iteB (O.bnot (O.cB c2 0)) O.tt (O.bnot (O.cB c3 0))) O.tt (O.bnot (O.cB c4 0))) O.tt (O.bnot (O.cB c5 0)))) (O.call 166 [] [.rows (x.L 31),.int (x.I 1)]) (O.ret [.bool O.ff])) fun c6=>(O.ite (O.iteB (O.iteB (O.iteB (O.iteB (O.bnot (O.cB c2 0)) O.tt (O.bnot (O.cB c3 0))) O.tt (O.bnot (O.cB c4 0))) O.tt (O.bnot (O.cB c5 0))) O.tt (O.bnot (O.cB c6 0))) (O.ret [.bool O.ff]) (O.bind (O.ite (O.band (O.bnot (O.iteB (O.eqI (x.I 3) (O.q 0)) (O.eqI (x.I 16) (O.q 0)) O.ff)) (O.bnot (O.eqI (x.I 3) (O.q 0)))) (O.call 164 [] [.int (x.I 16),.int (O.q 1),.int (x.I 3)]) (O.ret [.bool O.ff])) fun c7=>(O.bind (O.ite (O.iteB (O.iteB (O.eqI (x.I 3) (O.q 0)) (O.eqI (x.I 16) (O.q 0)) O.ff) O.tt (O.iteB (O.bnot (O.eqI (x.I 3) (O.q 0))) (O.cB c7 0) O.ff)) (O.call 164 [] [.int (x.I 25),.int (O.q 0),.int (O.sub .i64 (x.I 4) (O.q 1))]) (O.ret [.bool O.ff])) fun c8=>(O.bind (O.ite (O.iteB (O.iteB (O.iteB (O.eqI (x.I 3) (O.q 0)) (O.eqI (x.I 16) (O.q 0)) O.ff) O.tt (O.iteB (O.bnot (O.eqI (x.I 3) (O.q 0))) (O.cB c7 0) O.ff)) (O.cB c8 0) O.ff) (O.call 167 [] (xr x kI 14)) (O.ret [.bool O.ff])) fun c9=>(O.ret [.bool (O.iteB (O.iteB (O.iteB (O.iteB (O.eqI (x.I 3) (O.q 0)) (O.eqI (x.I 16) (O.q 0)) O.ff) O.tt (O.iteB (O.bnot (O.eqI (x.I 3) (O.q 0))) (O.cB c7 0) O.ff)) (O.cB c8 0) O.ff) (O.cB c9 0) O.ff)]))))))))))))))
def B2:Nat→Env:=eL [(70,AP),(164,Ag),(165,Dj),(166,Cs),(167,Dr)]
def A9:=oS RY Hm B2
def Ue:List Nat:=[0]
def Jv (O:Alg) (x:Ags O):O.M:=(O.ret [.int (O.sub .i64 (O.q 3) (x.I 0))])
def RT:Nat→Env:=eL []
def BC:=oS Ue Jv RT
def Ul:List Nat:=[2,0,0,0,0,0,0,0,1,0,0,0,0,3,0,0,1,3,0,0,0,0,0,0]
def J3 (O:Alg) (x:Ags O):O.M:=(O.bind (O.ite (O.iteB (x.B 16) (O.le (O.q 2) (x.I 23)) O.ff) (O.ret [.bool (O.eqI (x.I 23) (O.q 2))]) (O.ret [.bool (O.eqI (O.rem .i64 (x.I 23) (O.q 2)) (O.q 1))])) fun c0=>(O.ite (O.cB c0 0) (O.bind (O.call 148 [] [.int (x.I 15)]) fun c1=>(O.ret [.int (O.cI c1 0)])) (O.ret [.int (x.I 15)])))
def MH:Nat→Env:=eL [(148,BC)]
theorem PL {N ls}:MH N 148 [] ls=BC N ls:=id rfl
def Cf:=oS Ul J3 MH
def UK:List Nat:=[2,0,0,0,0,0,0,0,1,0,0,0,0,3,0,0,1,3,0,0,0,0,0]
def KC (O:Alg) (x:Ags O):O.M:=(O.bind (O.fix (fun s0 c0=>(O.ite (O.lt (O.cI c0 0) (O.llen (x.L 17))) (O.assert (O.inb (O.cI c0 0) (O.llen (x.L 17))) (O.ite (O.bnot (O.beq (O.eqI (O.rI (x.L 17) (O.cI c0 0) 27) (O.lit .u8 0)) (O.iteB (O.eqI (x.I 14) (O.lit .u8 3)) (O.eqI (O.cI c0 0) (O.sub .i64 (O.llen (x.L 17)) (O.q 1))) O.ff))) (O.ret [.int (O.q 0),.bool O.ff]) (s0 [.int (O.add .i64 (O.cI c0 0) (O.q 1))]))) (O.ret [.int (O.q 1)]))) [.int (O.q 0)]) fun c0=>(O.ite (O.isTag c0 0) (O.ret [.bool (O.cB c0 1)]) (O.ret [.bool (O.iteB (O.bnot (O.eqI (x.I 14) (O.lit .u8 3))) O.tt (O.lt (O.q 0) (O.llen (x.L 17))))])))
def Rs:Nat→Env:=eL []
def Gy:=oS UK KC Rs
def Ug:List Nat:=[2,0,0,0,0,0,0,0,1,0,0,0,0,3,0,0,1,3,0,0,0,0,0]
def J5 (O:Alg) (x:Ags O):O.M:=(O.bind (O.call 70 [] (xr x kR 0)) fun c0=>(O.ite (O.iteB (O.iteB (O.bnot (O.eqI (O.cI c0 0) (O.q 0))) O.tt (O.lt (x.I 14) (O.lit .u8 1))) O.tt (O.lt (O.lit .u8 5) (x.I 14))) (O.ret [.bool O.ff]) (O.bind (O.fix (fun s1 c1=>(O.ite (O.lt (O.cI c1 0) (O.q 2)) (O.assert (O.inb (O.cI c1 0) (O.q 2)) (O.ite (O.iteB (O.lt (O.iteI (O.eqI (O.cI c1 0) (O.q 1)) (x.I 19) (x.I 18)) (O.q 0)) O.tt (O.lt (O.q 1000000) (O.iteI (O.eqI (O.cI c1 0) (O.q 1)) (x.I 19) (x.I 18)))) (O.ret [.int (O.q 0),.bool O.ff]) (s1 [.int (O.add .i64 (O.cI c1 0) (O.q 1))]))) (O.ret [.int (O.q 1)]))) [.int (O.q 0)]) fun c1=>(O.ite (O.isTag c1 0) (O.ret [.bool (O.cB c1 1)]) (O.ite (O.iteB (O.iteB (O.lt (x.I 15) (O.q 0)) O.tt (O.lt (O.q 2) (x.I 15))) O.tt (O.lt (O.mul .i64 (O.q 2) (x.I 2)) (O.llen (x.L 17)))) (O.ret [.bool O.ff]) (O.ite (O.iteB (O.eqI (x.I 15) (O.q 0)) (O.iteB (O.lt (O.q 0) (O.llen (x.L 17))) O.tt (O.iteB (O.bnot (O.eqI (x.I 14) (O.lit .u8 1))) (O.bnot (O.eqI (x.I 14) (O.lit .u8 5))) O.ff)) O.ff) (O.ret [.bool O.ff]) (O.ite (O.iteB (O.eqI (x.I 14) (O.lit .u8 1)) (O.bnot (O.eqI (x.I 15) (O.q 0))) O.ff) (O.ret [.bool O.ff]) (O.ite (O.iteB (O.eqI (x.I 14) (O.lit .u8 2)) (O.eqI (O.llen (x.L 17)) (O.mul .i64 (O.q 2) (x.I 2))) O.ff) (O.ret [.bool O.ff]) (O.ite (O.iteB (O.eqI (x.I 14) (O.lit .u8 4)) (O.iteB (O.bnot (O.eqI (x.I 2) (O.q 2))) O.tt (O.bnot (O.eqI (O.llen (x.L 17)) (O.q 2)))) O.ff) (O.ret [.bool O.ff]) (O.ite (O.iteB (x.B 16) (O.iteB (O.bnot (O.eqI (x.I 2) (O.q 2))) O.tt (O.lt (O.llen (x.L 17)) (O.q 2))) O.ff) (O.ret [.bool O.ff]) (O.bind (O.fix (fun s2 c2=>(O.ite (O.lt (O.cI c2 0) (O.llen (x.L 17))) (O.assert (O.inb (O.cI c2 0) (O.llen (x.L 17))) (O.bind (O.call 140 [] (ap O (xr x kR 0) (rr O (x.L 17) (O.cI c2 0) kI 0))) fun c3=>(O.bind (O.ite (O.bnot (O.bnot (O.cB c3 0))) (O.call 141 [] (ap O (xr x kM 0) [.int (O.cI c2 0)])) (O.ret [.int (O.q 0)])) fun c4=>(O.ite (O.iteB (O.bnot (O.cB c3 0)) O.tt (O.bnot (O.eqI (O.rI (x.L 17) (O.cI c2 0) 0) (O.cI c4 0)))) (O.ret [.int (O.q 0),.bool O.ff]) (s2 [.int (O.add .i64 (O.cI c2 0) (O.q 1))]))))) (O.ret [.int (O.q 1)]))) [.int (O.q 0)]) fun c2=>(O.ite (O.isTag c2 0) (O.ret [.bool (O.cB c2 1)]) (O.bind (O.call 142 [] (xr x kM 0)) fun c3=>(O.ret [.bool (O.cB c3 0)]))))))))))))))
def DQ:Nat→Env:=eL [(70,AP),(140,A9),(141,Cf),(142,Gy)]
theorem PG {N ls}:DQ N 70 [] ls=AP N ls:=id rfl
theorem GW {N ls}:DQ N 140 [] ls=A9 N ls:=id rfl
theorem Hr {N ls}:DQ N 141 [] ls=Cf N ls:=id rfl
theorem Hv {N ls}:DQ N 142 [] ls=Gy N ls:=id rfl
def Cj:=oS Ug J5 DQ
def TE:List Nat:=[0]
def Ig (O:Alg) (x:Ags O):O.M:=(O.ite (O.eqI (x.I 0) (O.lit .u8 7)) (O.ret [.int (O.q 0),.int (O.q 11)]) (O.ite (O.eqI (x.I 0) (O.lit .u8 13)) (O.ret [.int (O.q 1),.int (O.q 99)]) (O.ret [.int (O.q 0),.int (O.q 100000)])))
def QC:Nat→Env:=eL []
def F2:=oS TE Ig QC
def Q7:List Nat:=[0,0,0]
def LF (O:Alg) (x:Ags O):O.M:=(O.ret [.bool (O.iteB (O.le (x.I 1) (x.I 0)) (O.le (x.I 0) (x.I 2)) O.ff)])
def Ou:Nat→Env:=eL []
def FT:=oS Q7 LF Ou
def B0 (N:Nat) (ls:List PV):Option (List PV):=Y6 ls
def Ma:List Nat:=[2,0]
def Ef (O:Alg) (x:Ags O):O.M:=(O.bind (O.call 187 [] [.str (x.S 0),.int (x.I 1)]) fun c0=>(O.ret [.int (O.cI c0 0)]))
def F6:Nat→Env:=eL [(187,B0)]
theorem GN {N ls}:F6 N 187 [] ls=B0 N ls:=id rfl
def Cv:=oS Ma Ef F6
def UT:List Nat:=[]
def Ui (O:Alg) (x:Ags O):O.M:=(O.ret [.rows (O.llit [[.str (O.slit ⟨#[84,79,83,83]⟩),.str (O.slit ⟨#[115,121]⟩),.str (O.slit ⟨#[66,65,84]⟩),.str (O.slit ⟨#[70,73,69,76,68]⟩)],[.str (O.slit ⟨#[79,80,69,78]⟩),.str (O.slit ⟨#[112,111]⟩),.str (O.slit ⟨#[]⟩),.str (O.slit ⟨#[]⟩)],[.str (O.slit ⟨#[66,79,87,76]⟩),.str (O.slit ⟨#[112]⟩),.str (O.slit ⟨#[]⟩),.str (O.slit ⟨#[]⟩)],[.str (O.slit ⟨#[66,65,76,76]⟩),.str (O.slit ⟨#[98]⟩),.str (O.slit ⟨#[]⟩),.str (O.slit ⟨#[]⟩)],[.str (O.slit ⟨#[69,78,84,69,82]⟩),.str (O.slit ⟨#[112]⟩),.str (O.slit ⟨#[]⟩),.str (O.slit ⟨#[]⟩)],[.str (O.slit ⟨#[82,69,84,73,82,69]⟩),.str (O.slit ⟨#[112,121]⟩),.str (O.slit ⟨#[72,85,82,84]⟩),.str (O.slit ⟨#[79,85,84]⟩)],[.str (O.slit ⟨#[70,73,69,76,68]⟩),.str (O.slit ⟨#[114]⟩),.str (O.slit ⟨#[]⟩),.str (O.slit ⟨#[]⟩)],[.str (O.slit ⟨#[75,69,69,80,69,82]⟩),.str (O.slit ⟨#[112]⟩),.str (O.slit ⟨#[]⟩),.str (O.slit ⟨#[]⟩)],[.str (O.slit ⟨#[83,85,66]⟩),.str (O.slit ⟨#[112,121]⟩),.str (O.slit ⟨#[79,78]⟩),.str (O.slit ⟨#[79,70,70]⟩)],[.str (O.slit ⟨#[78,69,87,66,65,76,76]⟩),.str (O.slit ⟨#[]⟩),.str (O.slit ⟨#[]⟩),.str (O.slit ⟨#[]⟩)],[.str (O.slit ⟨#[68,69,67,76,65,82,69]⟩),.str (O.slit ⟨#[115]⟩),.str (O.slit ⟨#[]⟩),.str (O.slit ⟨#[]⟩)],[.str (O.slit ⟨#[70,79,76,76,79,87]⟩),.str (O.slit ⟨#[115,121]⟩),.str (O.slit ⟨#[89,69,83]⟩),.str (O.slit ⟨#[78,79]⟩)],[.str (O.slit ⟨#[80,69,78,65,76,84,89]⟩),.str (O.slit ⟨#[115,114]⟩),.str (O.slit ⟨#[]⟩),.str (O.slit ⟨#[]⟩)],[.str (O.slit ⟨#[82,69,86,73,69,87]⟩),.str (O.slit ⟨#[115,121]⟩),.str (O.slit ⟨#[75,69,80,84]⟩),.str (O.slit ⟨#[76,79,83,84]⟩)],[.str (O.slit ⟨#[82,69,86,73,83,69]⟩),.str (O.slit ⟨#[114,118]⟩),.str (O.slit ⟨#[]⟩),.str (O.slit ⟨#[]⟩)],[.str (O.slit ⟨#[83,84,79,80]⟩),.str (O.slit ⟨#[]⟩),.str (O.slit ⟨#[]⟩),.str (O.slit ⟨#[]⟩)]])])
def ZV:Nat→Env:=eL []
def Eu:=oS UT Ui ZV
def WS:List Nat:=[0,0]
def LO (O:Alg) (x:Ags O):O.M:=(O.bind (O.call 169 [] []) fun c0=>(O.assert (O.inb (O.sub .u8 (x.I 0) (O.lit .u8 1)) (O.llen (O.cL c0 0))) (O.bind (O.call 168 [] [.str (O.rS (O.cL c0 0) (O.sub .u8 (x.I 0) (O.lit .u8 1)) 1),.int (x.I 1)]) fun c1=>(O.ret [.bool (O.iteB (O.le (O.q 0) (O.cI c1 0)) O.tt (O.iteB (O.eqI (x.I 0) (O.lit .u8 5)) (O.eqI (x.I 1) (O.lit .u8 121)) O.ff))]))))
def Ie:Nat→Env:=eL [(168,Cv),(169,Eu)]
theorem Lx {N ls}:Ie N 168 [] ls=Cv N ls:=id rfl
theorem P8 {N ls}:Ie N 169 [] ls=Eu N ls:=id rfl
def H6:=oS WS LO Ie
def Nn:List Nat:=[0,0,0]
def IR (O:Alg) (x:Ags O):O.M:=(O.ret [.bool (O.iteB (O.le (x.I 1) (x.I 0)) (O.le (x.I 0) (x.I 2)) O.ff)])
def Lo:Nat→Env:=eL []
def DG:=oS Nn IR Lo
def P1:List Nat:=[0,0,0,0,0,1,0,0,0,0,1,0]
def Gi (O:Alg) (x:Ags O):O.M:=(O.ite (O.iteB (O.iteB (O.iteB (O.lt (x.I 0) (O.lit .u8 1)) O.tt (O.lt (O.lit .u8 3) (x.I 0))) O.tt (O.lt (O.lit .u8 3) (x.I 1))) O.tt (O.lt (O.lit .u8 10) (x.I 6))) (O.ret [.int (O.q 3)]) (O.bind (O.call 170 [] [.int (x.I 2),.int (O.q 0),.int (O.q 7)]) fun c0=>(O.bind (O.ite (O.bnot (O.bnot (O.cB c0 0))) (O.call 170 [] [.int (x.I 3),.int (O.q 0),.int (x.I 2)]) (O.ret [.bool O.ff])) fun c1=>(O.bind (O.ite (O.bnot (O.iteB (O.iteB (O.bnot (O.cB c0 0)) O.tt (O.bnot (O.cB c1 0))) O.tt (O.iteB (O.iteB (O.bnot (O.eqI (x.I 4) (O.q 0))) (O.bnot (O.eqI (x.I 4) (O.q 4))) O.ff) (O.bnot (O.eqI (x.I 4) (O.q 6))) O.ff))) (O.call 170 [] [.int (x.I 7),.int (O.q 0),.int (O.q 2)]) (O.ret [.bool O.ff])) fun c2=>(O.bind (O.ite (O.bnot (O.iteB (O.iteB (O.iteB (O.bnot (O.cB c0 0)) O.tt (O.bnot (O.cB c1 0))) O.tt (O.iteB (O.iteB (O.bnot (O.eqI (x.I 4) (O.q 0))) (O.bnot (O.eqI (x.I 4) (O.q 4))) O.ff) (O.bnot (O.eqI (x.I 4) (O.q 6))) O.ff)) O.tt (O.bnot (O.cB c2 0)))) (O.call 170 [] [.int (x.I 8),.int (O.q 0),.int (O.q 11)]) (O.ret [.bool O.ff])) fun c3=>(O.bind (O.ite (O.bnot (O.iteB (O.iteB (O.iteB (O.iteB (O.bnot (O.cB c0 0)) O.tt (O.bnot (O.cB c1 0))) O.tt (O.iteB (O.iteB (O.bnot (O.eqI (x.I 4) (O.q 0))) (O.bnot (O.eqI (x.I 4) (O.q 4))) O.ff) (O.bnot (O.eqI (x.I 4) (O.q 6))) O.ff)) O.tt (O.bnot (O.cB c2 0))) O.tt (O.bnot (O.cB c3 0)))) (O.call 170 [] [.int (x.I 9),.int (O.q 0),.int (O.q 11)]) (O.ret [.bool O.ff])) fun c4=>(O.bind (O.ite (O.bnot (O.iteB (O.iteB (O.iteB (O.iteB (O.iteB (O.bnot (O.cB c0 0)) O.tt (O.bnot (O.cB c1 0))) O.tt (O.iteB (O.iteB (O.bnot (O.eqI (x.I 4) (O.q 0))) (O.bnot (O.eqI (x.I 4) (O.q 4))) O.ff) (O.bnot (O.eqI (x.I 4) (O.q 6))) O.ff)) O.tt (O.bnot (O.cB c2 0))) O.tt (O.bnot (O.cB c3 0))) O.tt (O.bnot (O.cB c4 0)))) (O.call 170 [] [.int (x.I 11),.int (O.q 0),.int (O.q 8)]) (O.ret [.bool O.ff])) fun c5=>(O.ite (O.iteB (O.iteB (O.iteB (O.iteB (O.iteB (O.iteB (O.bnot (O.cB c0 0)) O.tt (O.bnot (O.cB c1 0))) O.tt (O.iteB (O.iteB (O.bnot (O.eqI (x.I 4) (O.q 0))) (O.bnot (O.eqI (x.I 4) (O.q 4))) O.ff) (O.bnot (O.eqI (x.I 4) (O.q 6))) O.ff)) O.tt (O.bnot (O.cB c2 0))) O.tt (O.bnot (O.cB c3 0))) O.tt (O.bnot (O.cB c4 0))) O.tt (O.bnot (O.cB c5 0))) (O.ret [.int (O.q 2)]) (O.ret [.int (O.q 0)])))))))))
def H5:Nat→Env:=eL [(170,DG)]
theorem Jp {N ls}:H5 N 170 [] ls=DG N ls:=id rfl
def EI:=oS P1 Gi H5
def UW:List Nat:=[0,0,0,0,1,0,0,0,0,0,0,0,1,0,0,0,0,1,0]
def HI (O:Alg) (x:Ags O):O.M:=(O.ite (O.iteB (O.lt (x.I 0) (O.lit .u8 1)) O.tt (O.lt (O.lit .u8 16) (x.I 0))) (O.ret [.int (O.q 3)]) (O.bind (O.call 143 [] [.int (x.I 0)]) fun c0=>(O.bind (O.call 144 [] [.int (x.I 1),.int (O.q 1),.int (O.q 2)]) fun c1=>(O.bind (O.call 144 [] [.int (x.I 2),.int (O.q 1),.int (O.q 11)]) fun c2=>(O.bind (O.call 144 [] [.int (x.I 3),.int (O.q 1),.int (O.q 11)]) fun c3=>(O.bind (O.call 144 [] [.int (x.I 5),.int (O.cI c0 0),.int (O.cI c0 1)]) fun c4=>(O.bind (O.call 144 [] [.int (x.I 6),.int (O.q 0),.int (O.q 90)]) fun c5=>(O.bind (O.fix (fun s6 c6=>(O.ite (O.lt (O.cI c6 0) (O.llen (O.llit [[.int (O.lit .u8 115),.bool (O.eqI (x.I 1) (O.q 0)),.bool (O.cB c1 0)],[.int (O.lit .u8 112),.bool (O.eqI (x.I 2) (O.q 0)),.bool (O.cB c2 0)],[.int (O.lit .u8 111),.bool (O.eqI (x.I 3) (O.q 0)),.bool (O.cB c3 0)],[.int (O.lit .u8 121),.bool (O.bnot (x.B 4)),.bool O.tt],[.int (O.lit .u8 114),.bool (O.eqI (x.I 5) (O.q 0)),.bool (O.cB c4 0)],[.int (O.lit .u8 118),.bool (O.eqI (x.I 6) (O.q 0)),.bool (O.cB c5 0)],[.int (O.lit .u8 98),.bool (O.band (O.eqI (x.I 7) (O.lit .u8 0)) (O.band (O.eqI (x.I 8) (O.lit .u8 0)) (O.band (O.eqI (x.I 9) (O.q 0)) (O.band (O.eqI (x.I 10) (O.q 0)) (O.band (O.eqI (x.I 11) (O.q 0)) (O.band (O.beq (x.B 12) O.ff) (O.band (O.eqI (x.I 13) (O.lit .u8 0)) (O.band (O.eqI (x.I 14) (O.q 0)) (O.band (O.eqI (x.I 15) (O.q 0)) (O.band (O.eqI (x.I 16) (O.q 0)) (O.band (O.beq (x.B 17) O.ff) (O.eqI (x.I 18) (O.q 0))))))))))))),.bool O.tt]]))) (O.assert (O.inb (O.cI c6 0) (O.llen (O.llit [[.int (O.lit .u8 115),.bool (O.eqI (x.I 1) (O.q 0)),.bool (O.cB c1 0)],[.int (O.lit .u8 112),.bool (O.eqI (x.I 2) (O.q 0)),.bool (O.cB c2 0)],[.int (O.lit .u8 111),.bool (O.eqI (x.I 3) (O.q 0)),.bool (O.cB c3 0)],[.int (O.lit .u8 121),.bool (O.bnot (x.B 4)),.bool O.tt],[.int (O.lit .u8 114),.bool (O.eqI (x.I 5) (O.q 0)),.bool (O.cB c4 0)],[.int (O.lit .u8 118),.bool (O.eqI (x.I 6) (O.q 0)),.bool (O.cB c5 0)],[.int (O.lit .u8 98),.bool (O.band (O.eqI (x.I 7) (O.lit .u8 0)) (O.band (O.eqI (x.I 8) (O.lit .u8 0)) (O.band (O.eqI (x.I 9) (O.q 0)) (O.band (O.eqI (x.I 10) (O.q 0)) (O.band (O.eqI (x.I 11) (O.q 0)) (O.band (O.beq (x.B 12) O.ff) (O.band (O.eqI (x.I 13) (O.lit .u8 0)) (O.band (O.eqI (x.I 14) (O.q 0)) (O.band (O.eqI (x.I 15) (O.q 0)) (O.band (O.eqI (x.I 16) (O.q 0)) (O.band (O.beq (x.B 17) O.ff) (O.eqI (x.I 18) (O.q 0))))))))))))),.bool O.tt]]))) (O.bind (O.ite (O.bnot (O.rB (O.llit [[.int (O.lit .u8 115),.bool (O.eqI (x.I 1) (O.q 0)),.bool (O.cB c1 0)],[.int (O.lit .u8 112),.bool (O.eqI (x.I 2) (O.q 0)),.bool (O.cB c2 0)],[.int (O.lit .u8 111),.bool (O.eqI (x.I 3) (O.q 0)),.bool (O.cB c3 0)],[.int (O.lit .u8 121),.bool (O.bnot (x.B 4)),.bool O.tt],[.int (O.lit .u8 114),.bool (O.eqI (x.I 5) (O.q 0)),.bool (O.cB c4 0)],[.int (O.lit .u8 118),.bool (O.eqI (x.I 6) (O.q 0)),.bool (O.cB c5 0)],[.int (O.lit .u8 98),.bool (O.band (O.eqI (x.I 7) (O.lit .u8 0)) (O.band (O.eqI (x.I 8) (O.lit .u8 0)) (O.band (O.eqI (x.I 9) (O.q 0)) (O.band (O.eqI (x.I 10) (O.q 0)) (O.band (O.eqI (x.I 11) (O.q 0)) (O.band (O.beq (x.B 12) O.ff) (O.band (O.eqI (x.I 13) (O.lit .u8 0)) (O.band (O.eqI (x.I 14) (O.q 0)) (O.band (O.eqI (x.I 15) (O.q 0)) (O.band (O.eqI (x.I 16) (O.q 0)) (O.band (O.beq (x.B 17) O.ff) (O.eqI (x.I 18) (O.q 0))))))))))))),.bool O.tt]]) (O.cI c6 0) 1)) (O.call 145 [] [.int (x.I 0),.int (O.rI (O.llit [[.int (O.lit .u8 115),.bool (O.eqI (x.I 1) (O.q 0)),.bool (O.cB c1 0)],[.int (O.lit .u8 112),.bool (O.eqI (x.I 2) (O.q 0)),.bool (O.cB c2 0)],[.int (O.lit .u8 111),.bool (O.eqI (x.I 3) (O.q 0)),.bool (O.cB c3 0)],[.int (O.lit .u8 121),.bool (O.bnot (x.B 4)),.bool O.tt],[.int (O.lit .u8 114),.bool (O.eqI (x.I 5) (O.q 0)),.bool (O.cB c4 0)],[.int (O.lit .u8 118),.bool (O.eqI (x.I 6) (O.q 0)),.bool (O.cB c5 0)],[.int (O.lit .u8 98),.bool (O.band (O.eqI (x.I 7) (O.lit .u8 0)) (O.band (O.eqI (x.I 8) (O.lit .u8 0)) (O.band (O.eqI (x.I 9) (O.q 0)) (O.band (O.eqI (x.I 10) (O.q 0)) (O.band (O.eqI (x.I 11) (O.q 0)) (O.band (O.beq (x.B 12) O.ff) (O.band (O.eqI (x.I 13) (O.lit .u8 0)) (O.band (O.eqI (x.I 14) (O.q 0)) (O.band (O.eqI (x.I 15) (O.q 0)) (O.band (O.eqI (x.I 16) (O.q 0)) (O.band (O.beq (x.B 17) O.ff) (O.eqI (x.I 18) (O.q 0))))))))))))),.bool O.tt]]) (O.cI c6 0) 0)]) (O.ret [.bool O.ff])) fun c7=>(O.ite (O.iteB (O.bnot (O.rB (O.llit [[.int (O.lit .u8 115),.bool (O.eqI (x.I 1) (O.q 0)),.bool (O.cB c1 0)],[.int (O.lit .u8 112),.bool (O.eqI (x.I 2) (O.q 0)),.bool (O.cB c2 0)],[.int (O.lit .u8 111),.bool (O.eqI (x.I 3) (O.q 0)),.bool (O.cB c3 0)],[.int (O.lit .u8 121),.bool (O.bnot (x.B 4)),.bool O.tt],[.int (O.lit .u8 114),.bool (O.eqI (x.I 5) (O.q 0)),.bool (O.cB c4 0)],[.int (O.lit .u8 118),.bool (O.eqI (x.I 6) (O.q 0)),.bool (O.cB c5 0)],[.int (O.lit .u8 98),.bool (O.band (O.eqI (x.I 7) (O.lit .u8 0)) (O.band (O.eqI (x.I 8) (O.lit .u8 0)) (O.band (O.eqI (x.I 9) (O.q 0)) (O.band (O.eqI (x.I 10) (O.q 0)) (O.band (O.eqI (x.I 11) (O.q 0)) (O.band (O.beq (x.B 12) O.ff) (O.band (O.eqI (x.I 13) (O.lit .u8 0)) (O.band (O.eqI (x.I 14) (O.q 0)) (O.band (O.eqI (x.I 15) (O.q 0)) (O.band (O.eqI (x.I 16) (O.q 0)) (O.band (O.beq (x.B 17) O.ff) (O.eqI (x.I 18) (O.q 0))))))))))))),.bool O.tt]]) (O.cI c6 0) 1)) (O.bnot (O.cB c7 0)) O.ff) (O.ret [.int (O.q 0),.int (O.q 1)]) (s6 [.int (O.add .i64 (O.cI c6 0) (O.q 1))])))) (O.ret [.int (O.q 1)]))) [.int (O.q 0)]) fun c6=>(O.ite (O.isTag c6 0) (O.ret [.int (O.cI c6 1)]) (O.bind (O.fix (fun s7 c7=>(O.ite (O.lt (O.cI c7 0) (O.llen (O.llit [[.int (O.lit .u8 115),.bool (O.eqI (x.I 1) (O.q 0)),.bool (O.cB c1 0)],[.int (O.lit .u8 112),.bool (O.eqI (x.I 2) (O.q 0)),.bool (O.cB c2 0)],[.int (O.lit .u8 111),.bool (O.eqI (x.I 3) (O.q 0)),.bool (O.cB c3 0)],[.int (O.lit .u8 121),.bool (O.bnot (x.B 4)),.bool O.tt],[.int (O.lit .u8 114),.bool (O.eqI (x.I 5) (O.q 0)),.bool (O.cB c4 0)],[.int (O.lit .u8 118),.bool (O.eqI (x.I 6) (O.q 0)),.bool (O.cB c5 0)],[.int (O.lit .u8 98),.bool (O.band (O.eqI (x.I 7) (O.lit .u8 0)) (O.band (O.eqI (x.I 8) (O.lit .u8 0)) (O.band (O.eqI (x.I 9) (O.q 0)) (O.band (O.eqI (x.I 10) (O.q 0)) (O.band (O.eqI (x.I 11) (O.q 0)) (O.band (O.beq (x.B 12) O.ff) (O.band (O.eqI (x.I 13) (O.lit .u8 0)) (O.band (O.eqI (x.I 14) (O.q 0)) (O.band (O.eqI (x.I 15) (O.q 0)) (O.band (O.eqI (x.I 16) (O.q 0)) (O.band (O.beq (x.B 17) O.ff) (O.eqI (x.I 18) (O.q 0))))))))))))),.bool O.tt]]))) (O.assert (O.inb (O.cI c7 0) (O.llen (O.llit [[.int (O.lit .u8 115),.bool (O.eqI (x.I 1) (O.q 0)),.bool (O.cB c1 0)],[.int (O.lit .u8 112),.bool (O.eqI (x.I 2) (O.q 0)),.bool (O.cB c2 0)],[.int (O.lit .u8 111),.bool (O.eqI (x.I 3) (O.q 0)),.bool (O.cB c3 0)],[.int (O.lit .u8 121),.bool (O.bnot (x.B 4)),.bool O.tt],[.int (O.lit .u8 114),.bool (O.eqI (x.I 5) (O.q 0)),.bool (O.cB c4 0)],[.int (O.lit .u8 118),.bool (O.eqI (x.I 6) (O.q 0)),.bool (O.cB c5 0)],[.int (O.lit .u8 98),.bool (O.band (O.eqI (x.I 7) (O.lit .u8 0)) (O.band (O.eqI (x.I 8) (O.lit .u8 0)) (O.band (O.eqI (x.I 9) (O.q 0)) (O.band (O.eqI (x.I 10) (O.q 0)) (O.band (O.eqI (x.I 11) (O.q 0)) (O.band (O.beq (x.B 12) O.ff) (O.band (O.eqI (x.I 13) (O.lit .u8 0)) (O.band (O.eqI (x.I 14) (O.q 0)) (O.band (O.eqI (x.I 15) (O.q 0)) (O.band (O.eqI (x.I 16) (O.q 0)) (O.band (O.beq (x.B 17) O.ff) (O.eqI (x.I 18) (O.q 0))))))))))))),.bool O.tt]]))) (O.bind (O.ite (O.bnot (O.rB (O.llit [[.int (O.lit .u8 115),.bool (O.eqI (x.I 1) (O.q 0)),.bool (O.cB c1 0)],[.int (O.lit .u8 112),.bool (O.eqI (x.I 2) (O.q 0)),.bool (O.cB c2 0)],[.int (O.lit .u8 111),.bool (O.eqI (x.I 3) (O.q 0)),.bool (O.cB c3 0)],[.int (O.lit .u8 121),.bool (O.bnot (x.B 4)),.bool O.tt],[.int (O.lit .u8 114),.bool (O.eqI (x.I 5) (O.q 0)),.bool (O.cB c4 0)],[.int (O.lit .u8 118),.bool (O.eqI (x.I 6) (O.q 0)),.bool (O.cB c5 0)],[.int (O.lit .u8 98),.bool (O.band (O.eqI (x.I 7) (O.lit .u8 0)) (O.band (O.eqI (x.I 8) (O.lit .u8 0)) (O.band (O.eqI (x.I 9) (O.q 0)) (O.band (O.eqI (x.I 10) (O.q 0)) (O.band (O.eqI (x.I 11) (O.q 0)) (O.band (O.beq (x.B 12) O.ff) (O.band (O.eqI (x.I 13) (O.lit .u8 0)) (O.band (O.eqI (x.I 14) (O.q 0)) (O.band (O.eqI (x.I 15) (O.q 0)) (O.band (O.eqI (x.I 16) (O.q 0)) (O.band (O.beq (x.B 17) O.ff) (O.eqI (x.I 18) (O.q 0))))))))))))),.bool O.tt]]) (O.cI c7 0) 2)) (O.call 145 [] [.int (x.I 0),.int (O.rI (O.llit [[.int (O.lit .u8 115),.bool (O.eqI (x.I 1) (O.q 0)),.bool (O.cB c1 0)],[.int (O.lit .u8 112),.bool (O.eqI (x.I 2) (O.q 0)),.bool (O.cB c2 0)],[.int (O.lit .u8 111),.bool (O.eqI (x.I 3) (O.q 0)),.bool (O.cB c3 0)],[.int (O.lit .u8 121),.bool (O.bnot (x.B 4)),.bool O.tt],[.int (O.lit .u8 114),.bool (O.eqI (x.I 5) (O.q 0)),.bool (O.cB c4 0)],[.int (O.lit .u8 118),.bool (O.eqI (x.I 6) (O.q 0)),.bool (O.cB c5 0)],[.int (O.lit .u8 98),.bool (O.band (O.eqI (x.I 7) (O.lit .u8 0)) (O.band (O.eqI (x.I 8) (O.lit .u8 0)) (O.band (O.eqI (x.I 9) (O.q 0)) (O.band (O.eqI (x.I 10) (O.q 0)) (O.band (O.eqI (x.I 11) (O.q 0)) (O.band (O.beq (x.B 12) O.ff) (O.band (O.eqI (x.I 13) (O.lit .u8 0)) (O.band (O.eqI (x.I 14) (O.q 0)) (O.band (O.eqI (x.I 15) (O.q 0)) (O.band (O.eqI (x.I 16) (O.q 0)) (O.band (O.beq (x.B 17) O.ff) (O.eqI (x.I 18) (O.q 0))))))))))))),.bool O.tt]]) (O.cI c7 0) 0)]) (O.ret [.bool O.ff])) fun c8=>(O.ite (O.iteB (O.bnot (O.rB (O.llit [[.int (O.lit .u8 115),.bool (O.eqI (x.I 1) (O.q 0)),.bool (O.cB c1 0)],[.int (O.lit .u8 112),.bool (O.eqI (x.I 2) (O.q 0)),.bool (O.cB c2 0)],[.int (O.lit .u8 111),.bool (O.eqI (x.I 3) (O.q 0)),.bool (O.cB c3 0)],[.int (O.lit .u8 121),.bool (O.bnot (x.B 4)),.bool O.tt],[.int (O.lit .u8 114),.bool (O.eqI (x.I 5) (O.q 0)),.bool (O.cB c4 0)],[.int (O.lit .u8 118),.bool (O.eqI (x.I 6) (O.q 0)),.bool (O.cB c5 0)],[.int (O.lit .u8 98),.bool (O.band (O.eqI (x.I 7) (O.lit .u8 0)) (O.band (O.eqI (x.I 8) (O.lit .u8 0)) (O.band (O.eqI (x.I 9) (O.q 0)) (O.band (O.eqI (x.I 10) (O.q 0)) (O.band (O.eqI (x.I 11) (O.q 0)) (O.band (O.beq (x.B 12) O.ff) (O.band (O.eqI (x.I 13) (O.lit .u8 0)) (O.band (O.eqI (x.I 14) (O.q 0)) (O.band (O.eqI (x.I 15) (O.q 0)) (O.band (O.eqI (x.I 16) (O.q 0)) (O.band (O.beq (x.B 17) O.ff) (O.eqI (x.I 18) (O.q 0))))))))))))),.bool O.tt]]) (O.cI c7 0) 2)) (O.cB c8 0) O.ff) (O.ret [.int (O.q 0),.int (O.q 2)]) (s7 [.int (O.add .i64 (O.cI c7 0) (O.q 1))])))) (O.ret [.int (O.q 1)]))) [.int (O.q 0)]) fun c7=>(O.ite (O.isTag c7 0) (O.ret [.int (O.cI c7 1)]) (O.ite (O.eqI (x.I 0) (O.lit .u8 4)) (O.bind (O.call 146 [] (xr x [0,0,0,0,0,1,0,0,0,0,1,0] 7)) fun c8=>(O.ret [.int (O.cI c8 0)])) (O.ret [.int (O.q 0)])))))))))))))
def DT:Nat→Env:=eL [(143,F2),(144,FT),(145,H6),(146,EI)]
theorem HC {N ls}:DT N 143 [] ls=F2 N ls:=id rfl
theorem GQ {N ls}:DT N 144 [] ls=FT N ls:=id rfl
theorem IU {N ls}:DT N 145 [] ls=H6 N ls:=id rfl
theorem C0 {N ls}:DT N 146 [] ls=EI N ls:=id rfl
def Ch:=oS UW HI DT
def AR (N:Nat) (ls:List PV):Option (List PV):=N6 1 ls
def Aa (N:Nat) (ls:List PV):Option (List PV):=N6 8 ls
def AY (N:Nat) (ls:List PV):Option (List PV):=N6 1 ls
def Q9:List Nat:=[0,0,0,0,0,0,0,0,0,0,0,0,0,0,3,0,3,3,1,3,1,0,0,0,3,0,0,0]
def Hj (O:Alg) (x:Ags O):O.M:=(O.bind (O.call 171 [] [.rows (x.L 14)]) fun c0=>(O.bind (O.call 172 [] [.rows (x.L 16)]) fun c1=>(O.bind (O.call 172 [] [.rows (x.L 17)]) fun c2=>(O.bind (O.call 172 [] [.rows (x.L 19)]) fun c3=>(O.bind (O.call 173 [] [.rows (x.L 24)]) fun c4=>(O.ret (ap O (xr x [0,0,0,0,0,0,0,0,0,0,0,0,0,0] 0) (ap O [.rows (O.cL c0 0),.int (x.I 15),.rows (O.cL c1 0),.rows (O.cL c2 0),.bool (x.B 18),.rows (O.cL c3 0)] (ap O (xr x [1,0,0,0] 20) (ap O [.rows (O.cL c4 0)] (xr x [0,0,0] 25)))))))))))
def Dq:Nat→Env:=eL [(171,AR),(172,Aa),(173,AY)]
theorem Ir {N ls}:Dq N 171 [] ls=AR N ls:=id rfl
theorem Kd {N ls}:Dq N 172 [] ls=Aa N ls:=id rfl
theorem JX {N ls}:Dq N 173 [] ls=AY N ls:=id rfl
def AO:=oS Q9 Hj Dq
def Uh:List Nat:=[2,0,0,0,0,0,0,0,1,0,0,0,0,3,0,0,1,3,0,0,0,0,0]
def Jw (O:Alg) (x:Ags O):O.M:=(O.bind (O.call 95 [] (xr x kR 0)) fun c0=>(O.bind (O.fix (fun s1 c1=>(O.ite (O.lt (O.cI c1 1) (O.llen (x.L 17))) (O.assert (O.inb (O.cI c1 1) (O.llen (x.L 17))) (O.bind (O.call 147 [] (rr O (x.L 17) (O.cI c1 1) kI 0)) fun c2=>(O.assert (O.small (O.llen (O.lapp (O.cL c1 0) (O.llit [(cr O c2 kI 0)]))) 304) (s1 [.rows (O.lapp (O.cL c1 0) (O.llit [(cr O c2 kI 0)])),.int (O.add .i64 (O.cI c1 1) (O.q 1))])))) (O.ret [.rows (O.cL c1 0)]))) [.rows O.lnil,.int (O.q 0)]) fun c1=>(O.ret (ap O (cr O c0 kR 0) (ap O (xr x [0,0,1] 14) (ap O [.rows (O.cL c1 0)] (xr x [0,0,0,0,0] 18)))))))
def Ha:Nat→Env:=eL [(95,Ck),(147,AO)]
theorem PX {N ls}:Ha N 95 [] ls=Ck N ls:=id rfl
theorem GS {N ls}:Ha N 147 [] ls=AO N ls:=id rfl
def Gz:=oS Uh Jw Ha
def Uk:List Nat:=[2,0,0,0,0,0,0,0,1,0,0,0,0,3,0,0,1,3,0,0,0,0,0,0]
def Jz (O:Alg) (x:Ags O):O.M:=(O.bind (O.fix (fun s0 c0=>(O.ite (O.lt (O.cI c0 1) (O.llen (x.L 17))) (O.assert (O.inb (O.cI c0 1) (O.llen (x.L 17))) (O.ite (O.eqI (O.rI (x.L 17) (O.cI c0 1) 0) (x.I 23)) (s0 [.int (O.add .i64 (O.cI c0 0) (O.rI (x.L 17) (O.cI c0 1) 3)),.int (O.add .i64 (O.cI c0 1) (O.q 1))]) (s0 [.int (O.cI c0 0),.int (O.add .i64 (O.cI c0 1) (O.q 1))]))) (O.ret [.int (O.cI c0 0)]))) [.int (O.q 0),.int (O.q 0)]) fun c0=>(O.ret [.int (O.cI c0 0)]))
def RZ:Nat→Env:=eL []
def Bd:=oS Uk Jz RZ
def N4:List Nat:=[2,0,0,0,0,0,0,0,1,0,0,0,0,3]
def E4 (O:Alg) (x:Ags O):O.M:=(O.ite (O.eqI (x.I 3) (O.q 0)) (O.ret [.int (O.lit .u8 5)]) (O.ret [.int (O.lit .u8 6)]))
def Le:Nat→Env:=eL []
def BW:=oS N4 E4 Le
def RO:List Nat:=[2,0,0,0,0,0,0,0,1,0,0,0,0,3,0,0,1,3,0,0,0,0,0]
def Hw (O:Alg) (x:Ags O):O.M:=(O.bind (O.call 117 [] (xr x kM 0)) fun c0=>(O.ite (O.iteB (O.bnot (O.cB c0 0)) O.tt (O.eqI (O.llen (x.L 17)) (O.q 0))) (O.ret [.int (O.lit .u8 0),.int (O.q 0),.int (O.q 0)]) (O.assert (O.inb (O.sub .i64 (O.llen (x.L 17)) (O.q 1)) (O.llen (x.L 17))) (O.bind (O.call 148 [] [.int (O.rI (x.L 17) (O.sub .i64 (O.llen (x.L 17)) (O.q 1)) 0)]) fun c1=>(O.ite (O.eqI (O.rI (x.L 17) (O.sub .i64 (O.llen (x.L 17)) (O.q 1)) 27) (O.lit .u8 5)) (O.bind (O.call 177 [] (xr x kR 0)) fun c2=>(O.ret [.int (O.cI c2 0),.int (O.q 0),.int (O.q 0)])) (O.ite (O.eqI (O.rI (x.L 17) (O.sub .i64 (O.llen (x.L 17)) (O.q 1)) 27) (O.lit .u8 0)) (O.ret [.int (O.lit .u8 0),.int (O.q 0),.int (O.q 0)]) (O.ite (O.iteB (O.eqI (O.llen (x.L 17)) (O.mul .i64 (O.q 2) (x.I 2))) (O.le (O.rI (x.L 17) (O.sub .i64 (O.llen (x.L 17)) (O.q 1)) 1) (O.rI (x.L 17) (O.sub .i64 (O.llen (x.L 17)) (O.q 1)) 3)) O.ff) (O.ret [.int (O.lit .u8 2),.int (O.rI (x.L 17) (O.sub .i64 (O.llen (x.L 17)) (O.q 1)) 0),.int (O.sub .i64 (O.sub .i64 (x.I 1) (O.q 1)) (O.rI (x.L 17) (O.sub .i64 (O.llen (x.L 17)) (O.q 1)) 4))]) (O.ite (O.iteB (O.eqI (O.llen (x.L 17)) (O.mul .i64 (O.q 2) (x.I 2))) (O.eqI (O.rI (x.L 17) (O.sub .i64 (O.llen (x.L 17)) (O.q 1)) 3) (O.sub .i64 (O.rI (x.L 17) (O.sub .i64 (O.llen (x.L 17)) (O.q 1)) 1) (O.q 1))) O.ff) (O.ret [.int (O.lit .u8 4),.int (O.q 0),.int (O.q 0)]) (O.ite (O.eqI (O.llen (x.L 17)) (O.mul .i64 (O.q 2) (x.I 2))) (O.ret [.int (O.lit .u8 1),.int (O.cI c1 0),.int (O.sub .i64 (O.sub .i64 (O.rI (x.L 17) (O.sub .i64 (O.llen (x.L 17)) (O.q 1)) 1) (O.q 1)) (O.rI (x.L 17) (O.sub .i64 (O.llen (x.L 17)) (O.q 1)) 3))]) (O.bind (O.ite (O.eqI (O.llen (x.L 17)) (O.q 3)) (O.call 152 [] (ap O (xr x kM 0) [.int (O.rI (x.L 17) (O.sub .i64 (O.llen (x.L 17)) (O.q 1)) 0)])) (O.ret [.int (O.q 0)])) fun c2=>(O.bind (O.ite (O.eqI (O.llen (x.L 17)) (O.q 3)) (O.call 152 [] (ap O (xr x kM 0) [.int (O.cI c1 0)])) (O.ret [.int (O.q 0)])) fun c3=>(O.ite (O.iteB (O.eqI (O.llen (x.L 17)) (O.q 3)) (O.lt (O.cI c2 0) (O.cI c3 0)) O.ff) (O.bind (O.call 152 [] (ap O (xr x kM 0) [.int (O.cI c1 0)])) fun c4=>(O.bind (O.call 152 [] (ap O (xr x kM 0) [.int (O.rI (x.L 17) (O.sub .i64 (O.llen (x.L 17)) (O.q 1)) 0)])) fun c5=>(O.ret [.int (O.lit .u8 3),.int (O.cI c1 0),.int (O.sub .i64 (O.cI c4 0) (O.cI c5 0))]))) (O.ret [.int (O.lit .u8 0),.int (O.q 0),.int (O.q 0)])))))))))))))
def Cb:Nat→Env:=eL [(117,Cj),(148,BC),(152,Bd),(177,BW)]
theorem Nr {N ls}:Cb N 117 [] ls=Cj N ls:=id rfl
theorem N0 {N ls}:Cb N 148 [] ls=BC N ls:=id rfl
theorem N8 {N ls}:Cb N 152 [] ls=Bd N ls:=id rfl
theorem KW {N ls}:Cb N 177 [] ls=BW N ls:=id rfl
def FE:=oS RO Hw Cb
def RW:List Nat:=[2,0,0,0,0,0,0,0,1,0,0,0,0,3,0,0,0]
def Hn (O:Alg) (x:Ags O):O.M:=(O.bind (O.call 70 [] (xr x kR 0)) fun c0=>(O.ite (O.bnot (O.eqI (O.cI c0 0) (O.q 0))) (O.ret [.int (O.q 0),.int (O.q 0),.int (O.q 0),.int (O.q 0),.int (O.q 0),.int (O.q 0),.int (O.q 0),.int (O.q 0),.int (O.q 0),.int (O.q 0),.int (O.q 0),.int (O.q 0),.int (O.q 0),.int (O.q 0),.rows O.lnil,.int (O.q 0),.rows O.lnil,.rows O.lnil,.bool O.ff,.rows O.lnil,.bool O.ff,.int (O.q 0),.int (O.q 0),.int (O.q 0),.rows O.lnil,.int (O.q 0),.int (O.q 0),.int (O.lit .u8 0),.int (O.cI c0 0)]) (O.bind (O.call 164 [] [.int (x.I 14),.int (O.q 1),.int (O.q 2)]) fun c1=>(O.bind (O.ite (O.bnot (O.bnot (O.cB c1 0))) (O.call 164 [] [.int (x.I 15),.int (O.q 0),.int (O.q 1000000)]) (O.ret [.bool O.ff])) fun c2=>(O.bind (O.ite (O.bnot (O.iteB (O.bnot (O.cB c1 0)) O.tt (O.bnot (O.cB c2 0)))) (O.call 164 [] [.int (x.I 16),.int (O.q 0),.int (O.q 1000000)]) (O.ret [.bool O.ff])) fun c3=>(O.ite (O.iteB (O.iteB (O.bnot (O.cB c1 0)) O.tt (O.bnot (O.cB c2 0))) O.tt (O.bnot (O.cB c3 0))) (O.ret [.int (O.q 0),.int (O.q 0),.int (O.q 0),.int (O.q 0),.int (O.q 0),.int (O.q 0),.int (O.q 0),.int (O.q 0),.int (O.q 0),.int (O.q 0),.int (O.q 0),.int (O.q 0),.int (O.q 0),.int (O.q 0),.rows O.lnil,.int (O.q 0),.rows O.lnil,.rows O.lnil,.bool O.ff,.rows O.lnil,.bool O.ff,.int (O.q 0),.int (O.q 0),.int (O.q 0),.rows O.lnil,.int (O.q 0),.int (O.q 0),.int (O.lit .u8 0),.int (O.q 2)]) (O.assert (O.small (x.I 1) 1) (O.assert (O.small (x.I 1) 8) (O.assert (O.small (x.I 1) 1) (O.ret [.int (x.I 14),.int (x.I 15),.int (x.I 3),.int (x.I 16),.int (O.q 0),.int (O.q 0),.int (O.q 0),.int (O.q 0),.int (O.q 0),.int (x.I 16),.int (O.q 0),.int (O.q 0),.int (O.q 0),.int (O.q 0),.rows (O.lrep (x.I 1) [.int (O.lit .u8 0)]),.int (O.q 0),.rows O.lnil,.rows O.lnil,.bool O.ff,.rows (O.lrep (x.I 1) [.int (O.q 0)]),.bool O.ff,.int (O.q 0),.int (O.q 0),.int (O.q 0),.rows (O.lrep (x.I 1) [.bool O.ff]),.int (O.q 0),.int (O.q 0),.int (O.lit .u8 0),.int (O.q 0)]))))))))))
def Fj:Nat→Env:=eL [(70,AP),(164,Ag)]
theorem N9 {N ls}:Fj N 70 [] ls=AP N ls:=id rfl
theorem K1 {N ls}:Fj N 164 [] ls=Ag N ls:=id rfl
def FP:=oS RW Hn Fj
def TA:List Nat:=[2,0,0,0,0,0,0,0,1,0,0,0,0,3,0,0,1,3,0,0,0,0,0,0]
def JD (O:Alg) (x:Ags O):O.M:=(O.ite (O.lt (O.add .i64 (O.llen (x.L 17)) (O.q 1)) (O.mul .i64 (O.q 2) (x.I 2))) (O.ret [.int (O.q 0)]) (O.bind (O.call 148 [] [.int (x.I 23)]) fun c0=>(O.bind (O.call 152 [] (ap O (xr x kM 0) [.int (O.cI c0 0)])) fun c1=>(O.bind (O.call 152 [] (xr x [2,0,0,0,0,0,0,0,1,0,0,0,0,3,0,0,1,3,0,0,0,0,0,0] 0)) fun c2=>(O.ret [.int (O.add .i64 (O.sub .i64 (O.cI c1 0) (O.cI c2 0)) (O.q 1))])))))
def Gf:Nat→Env:=eL [(148,BC),(152,Bd)]
theorem OS {N ls}:Gf N 148 [] ls=BC N ls:=id rfl
theorem Oc {N ls}:Gf N 152 [] ls=Bd N ls:=id rfl
def GM:=oS TA JD Gf
def O9:List Nat:=[0]
def JH (O:Alg) (x:Ags O):O.M:=(O.ret [.bool (O.bnot (O.eqI (x.I 0) (O.lit .u8 0)))])
def MW:Nat→Env:=eL []
def Dl:=oS O9 JH MW
def Q6:List Nat:=[0,0,0,0,0,0,0,0,0,0,0,0,0,0,3,0,3,3,1,3,1,0,0,0,3,0,0,0]
def Hq (O:Alg) (x:Ags O):O.M:=(O.bind (O.bind (O.fix (fun s0 c0=>(O.ite (O.lt (O.cI c0 0) (O.llen (x.L 14))) (O.assert (O.inb (O.cI c0 0) (O.llen (x.L 14))) (O.bind (O.call 209 [] [.int (O.rI (x.L 14) (O.cI c0 0) 0)]) fun c1=>(O.ite (O.cB c1 0) (O.ret [.int (O.q 0),.int (O.cI c0 0)]) (s0 [.int (O.add .i64 (O.cI c0 0) (O.q 1))])))) (O.ret [.int (O.q 1)]))) [.int (O.q 0)]) fun c0=>(O.ite (O.isTag c0 0) (O.ret [.int (O.cI c0 1)]) (O.ret [.int (O.q (-1))]))) fun c0=>(O.ret [.bool (O.le (O.q 0) (O.cI c0 0))]))
def JP:Nat→Env:=eL [(209,Dl)]
theorem Eh {N ls}:JP N 209 [] ls=Dl N ls:=id rfl
def FI:=oS Q6 Hq JP
def WT:List Nat:=[0,0,0,0,0,0,0,0,0,0,0,0,0,0,3,0,3,3,1,3,1,0,0,0,3,0,0,0]
def Ld (O:Alg) (x:Ags O):O.M:=(O.bind (O.call 171 [] [.rows (x.L 14)]) fun c0=>(O.bind (O.call 172 [] [.rows (x.L 16)]) fun c1=>(O.bind (O.call 172 [] [.rows (x.L 17)]) fun c2=>(O.bind (O.call 172 [] [.rows (x.L 19)]) fun c3=>(O.bind (O.call 173 [] [.rows (x.L 24)]) fun c4=>(O.ret (ap O (xr x [0,0,0,0,0,0,0,0,0,0,0,0,0,0] 0) (ap O [.rows (O.cL c0 0),.int (x.I 15),.rows (O.cL c1 0),.rows (O.cL c2 0),.bool (x.B 18),.rows (O.cL c3 0)] (ap O (xr x [1,0,0,0] 20) (ap O [.rows (O.cL c4 0)] (xr x [0,0,0] 25)))))))))))
def GE:Nat→Env:=eL [(171,AR),(172,Aa),(173,AY)]
theorem Kf {N ls}:GE N 171 [] ls=AR N ls:=id rfl
theorem MS {N ls}:GE N 172 [] ls=Aa N ls:=id rfl
theorem MB {N ls}:GE N 173 [] ls=AY N ls:=id rfl
def Ao:=oS WT Ld GE
def Qc:List Nat:=[0]
def KS (O:Alg) (x:Ags O):O.M:=(O.ret [.bool (O.bnot (O.eqI (x.I 0) (O.lit .u8 0)))])
def Nx:Nat→Env:=eL []
def CM:=oS Qc KS Nx
def Sh:List Nat:=[0,0,0,0,0,0,0,0,0,0,0,0,0,0,3,0,3,3,1,3,1,0,0,0,3,0,0,0]
def D5 (O:Alg) (x:Ags O):O.M:=(O.bind (O.bind (O.fix (fun s0 c0=>(O.ite (O.lt (O.cI c0 0) (O.llen (x.L 14))) (O.assert (O.inb (O.cI c0 0) (O.llen (x.L 14))) (O.bind (O.call 262 [] [.int (O.rI (x.L 14) (O.cI c0 0) 0)]) fun c1=>(O.ite (O.cB c1 0) (O.ret [.int (O.q 0),.int (O.cI c0 0)]) (s0 [.int (O.add .i64 (O.cI c0 0) (O.q 1))])))) (O.ret [.int (O.q 1)]))) [.int (O.q 0)]) fun c0=>(O.ite (O.isTag c0 0) (O.ret [.int (O.cI c0 1)]) (O.ret [.int (O.q (-1))]))) fun c0=>(O.ret [.bool (O.le (O.q 0) (O.cI c0 0))]))
def ES:Nat→Env:=eL [(262,CM)]
theorem Fb {N ls}:ES N 262 [] ls=CM N ls:=id rfl
def Bh:=oS Sh D5 ES
def So:List Nat:=[0,0,0,0,0,0,0,0,0,0,0,0,0,0,3,0,3,3,1,3,1,0,0,0,3,0,0,0,0]
def I3 (O:Alg) (x:Ags O):O.M:=(O.ret [.bool (O.iteB (O.le (O.q 1) (x.I 28)) (O.le (x.I 28) (O.llen (x.L 14))) O.ff)])
def Qs:Nat→Env:=eL []
def Am:=oS So I3 Qs
def UV:List Nat:=[0,0,0,0,0,0,0,0,0,0,0,0,0,0,3,0,3,3,1,3,1,0,0,0,3,0,0,0,0,0]
def KE (O:Alg) (x:Ags O):O.M:=(O.bind (O.call 240 [] (xr x kI 0)) fun c0=>(O.bind (O.call 241 [] (xr x kI 0)) fun c1=>(O.ite (O.cB c1 0) (O.ret (ap O (cr O c0 kI 0) [.int (O.q 1)])) (O.bind (O.call 242 [] (xr x [0,0,0,0,0,0,0,0,0,0,0,0,0,0,3,0,3,3,1,3,1,0,0,0,3,0,0,0,0] 0)) fun c2=>(O.bind (O.ite (O.bnot (O.bnot (O.cB c2 0))) (O.call 242 [] (ap O (xr x kI 0) [.int (x.I 29)])) (O.ret [.bool O.ff])) fun c3=>(O.ite (O.iteB (O.bnot (O.cB c2 0)) O.tt (O.bnot (O.cB c3 0))) (O.ret (ap O (cr O c0 kI 0) [.int (O.q 3)])) (O.ite (O.eqI (x.I 28) (x.I 29)) (O.ret (ap O (cr O c0 kI 0) [.int (O.q 4)])) (O.assert (O.inb (O.sub .i64 (x.I 28) (O.q 1)) (O.llen (O.cL c0 14))) (O.assert (O.inb (O.sub .i64 (x.I 29) (O.q 1)) (O.llen (O.lset (O.cL c0 14) (O.sub .i64 (x.I 28) (O.q 1)) 0 [.int (O.lit .u8 1)]))) (O.ret (ap O (cr O c0 [0,0,0,0,0,0,0,0,0,0,0,0] 0) (ap O [.int (x.I 28),.int (x.I 29),.rows (O.lset (O.lset (O.cL c0 14) (O.sub .i64 (x.I 28) (O.q 1)) 0 [.int (O.lit .u8 1)]) (O.sub .i64 (x.I 29) (O.q 1)) 0 [.int (O.lit .u8 1)])] (ap O (cr O c0 [0,3,3,1,3,1,0,0,0,3,0,0,0] 15) [.int (O.q 0)])))))))))))))
def FR:Nat→Env:=eL [(240,Ao),(241,Bh),(242,Am)]
theorem QE {N ls}:FR N 240 [] ls=Ao N ls:=id rfl
theorem OO {N ls}:FR N 241 [] ls=Bh N ls:=id rfl
theorem OV {N ls}:FR N 242 [] ls=Am N ls:=id rfl
def G4:=oS UV KE FR
def Xk:List Nat:=[0,0,0,0,0,0,0,0,0,0,0,0,0,0,3,0,3,3,1,3,1,0,0,0,3,0,0,0]
def NW (O:Alg) (x:Ags O):O.M:=(O.bind (O.call 171 [] [.rows (x.L 14)]) fun c0=>(O.bind (O.call 172 [] [.rows (x.L 16)]) fun c1=>(O.bind (O.call 172 [] [.rows (x.L 17)]) fun c2=>(O.bind (O.call 172 [] [.rows (x.L 19)]) fun c3=>(O.bind (O.call 173 [] [.rows (x.L 24)]) fun c4=>(O.ret (ap O (xr x [0,0,0,0,0,0,0,0,0,0,0,0,0,0] 0) (ap O [.rows (O.cL c0 0),.int (x.I 15),.rows (O.cL c1 0),.rows (O.cL c2 0),.bool (x.B 18),.rows (O.cL c3 0)] (ap O (xr x [1,0,0,0] 20) (ap O [.rows (O.cL c4 0)] (xr x [0,0,0] 25)))))))))))
def HH:Nat→Env:=eL [(171,AR),(172,Aa),(173,AY)]
theorem Kz {N ls}:HH N 171 [] ls=AR N ls:=id rfl
theorem Mg {N ls}:HH N 172 [] ls=Aa N ls:=id rfl
theorem MN {N ls}:HH N 173 [] ls=AY N ls:=id rfl
def CA:=oS Xk NW HH
def Ua:List Nat:=[0,0,0,0,0,0,0,0,0,0,0,0,0,0,3,0,3,3,1,3,1,0,0,0,3,0,0,0,0]
def KK (O:Alg) (x:Ags O):O.M:=(O.ret [.bool (O.iteB (O.le (O.q 1) (x.I 28)) (O.le (x.I 28) (O.llen (x.L 19))) O.ff)])
def RE:Nat→Env:=eL []
def Bc:=oS Ua KK RE
def V6:List Nat:=[2,0,0,0,0,0,0,0,1,0,0,0,0,3,0,0,0,0,0,0,0,0,0,0,0,0,0,0,3,0,3,3,1,3,1,0,0,0,3,0,0,0,0]
def L8 (O:Alg) (x:Ags O):O.M:=(O.bind (O.call 263 [] (xr x [0,0,0,0,0,0,0,0,0,0,0,0,0,0,3,0,3,3,1,3,1,0,0,0,3,0,0,0,0] 14)) fun c0=>(O.bind (O.ite (O.bnot (O.bnot (O.cB c0 0))) (O.call 70 [] (xr x kR 0)) (O.ret [.int (O.q 0)])) fun c1=>(O.ite (O.iteB (O.bnot (O.cB c0 0)) O.tt (O.bnot (O.eqI (O.cI c1 0) (O.q 0)))) (O.ret [.int (O.q 0)]) (O.ite (O.eqI (x.I 5) (O.q 0)) (O.ret [.int (O.q (-1))]) (O.assert (O.inb (O.sub .i64 (x.I 42) (O.q 1)) (O.llen (x.L 33))) (O.ret [.int (O.iteI (O.lt (O.sub .i64 (O.mul .i64 (x.I 5) (x.I 4)) (O.iteI (O.lt (O.rI (x.L 33) (O.sub .i64 (x.I 42) (O.q 1)) 0) (O.q 0)) (O.q 0) (O.rI (x.L 33) (O.sub .i64 (x.I 42) (O.q 1)) 0))) (O.q 0)) (O.q 0) (O.sub .i64 (O.mul .i64 (x.I 5) (x.I 4)) (O.iteI (O.lt (O.rI (x.L 33) (O.sub .i64 (x.I 42) (O.q 1)) 0) (O.q 0)) (O.q 0) (O.rI (x.L 33) (O.sub .i64 (x.I 42) (O.q 1)) 0))))]))))))
def I7:Nat→Env:=eL [(70,AP),(263,Bc)]
theorem QS {N ls}:I7 N 70 [] ls=AP N ls:=id rfl
theorem P2 {N ls}:I7 N 263 [] ls=Bc N ls:=id rfl
def IY:=oS V6 L8 I7
def Xg:List Nat:=[2,0,0,0,0,0,0,0,1,0,0,0,0,3,0,0,0,0,0,0,0,0,0,0,0,0,0,0,3,0,3,3,1,3,1,0,0,0,3,0,0,0,0]
def NX (O:Alg) (x:Ags O):O.M:=(O.bind (O.call 263 [] (xr x [0,0,0,0,0,0,0,0,0,0,0,0,0,0,3,0,3,3,1,3,1,0,0,0,3,0,0,0,0] 14)) fun c0=>(O.bind (O.ite (O.bnot (O.bnot (O.cB c0 0))) (O.call 70 [] (xr x kR 0)) (O.ret [.int (O.q 0)])) fun c1=>(O.ite (O.iteB (O.bnot (O.cB c0 0)) O.tt (O.bnot (O.eqI (O.cI c1 0) (O.q 0)))) (O.ret [.int (O.q 3)]) (O.assert (O.bnot (O.band (O.le (x.I 42) (O.llen (x.L 38))) (O.bnot (O.inb (O.sub .i64 (x.I 42) (O.q 1)) (O.llen (x.L 38)))))) (O.bind (O.call 264 [] (xr x [2,0,0,0,0,0,0,0,1,0,0,0,0,3,0,0,0,0,0,0,0,0,0,0,0,0,0,0,3,0,3,3,1,3,1,0,0,0,3,0,0,0,0] 0)) fun c2=>(O.ite (O.iteB (O.iteB (O.eqI (x.I 42) (x.I 36)) O.tt (O.eqI (x.I 42) (x.I 29))) O.tt (O.iteB (O.le (x.I 42) (O.llen (x.L 38))) (O.rB (x.L 38) (O.sub .i64 (x.I 42) (O.q 1)) 0) O.ff)) (O.ret [.int (O.q 7)]) (O.bind (O.call 185 [] [.rows (x.L 31),.int (x.I 42)]) fun c3=>(O.ite (O.cB c3 0) (O.ret [.int (O.q 8)]) (O.ite (O.iteB (O.bnot (O.eqI (O.cI c2 0) (O.q (-1)))) (O.lt (x.I 25) (O.sub .i64 (x.I 4) (O.cI c2 0))) O.ff) (O.ret [.int (O.q 9)]) (O.ret [.int (O.q 0)]))))))))))
def Es:Nat→Env:=eL [(70,AP),(185,Aj),(263,Bc),(264,IY)]
theorem Q2 {N ls}:Es N 70 [] ls=AP N ls:=id rfl
theorem Kx {N ls}:Es N 185 [] ls=Aj N ls:=id rfl
theorem Q1 {N ls}:Es N 263 [] ls=Bc N ls:=id rfl
theorem R8 {N ls}:Es N 264 [] ls=IY N ls:=id rfl
def Jk:=oS Xg NX Es
def Vn:List Nat:=[2,0,0,0,0,0,0,0,1,0,0,0,0,3,0,0,0,0,0,0,0,0,0,0,0,0,0,0,3,0,3,3,1,3,1,0,0,0,3,0,0,0,0]
def L5 (O:Alg) (x:Ags O):O.M:=(O.bind (O.call 243 [] (xr x kI 14)) fun c0=>(O.bind (O.call 244 [] (xr x [2,0,0,0,0,0,0,0,1,0,0,0,0,3,0,0,0,0,0,0,0,0,0,0,0,0,0,0,3,0,3,3,1,3,1,0,0,0,3,0,0,0,0] 0)) fun c1=>(O.ite (O.eqI (O.cI c1 0) (O.q 0)) (O.ret (ap O (cr O c0 [0,0,0,0,0,0,0,0,0,0,0,0,0,0,3] 0) (ap O [.int (x.I 42)] (ap O (cr O c0 [3,3,1,3,1,0,0,0,3,0,0,0] 16) [.int (O.cI c1 0)])))) (O.ret (ap O (cr O c0 kI 0) [.int (O.cI c1 0)])))))
def I6:Nat→Env:=eL [(243,CA),(244,Jk)]
theorem SK {N ls}:I6 N 243 [] ls=CA N ls:=id rfl
theorem R6 {N ls}:I6 N 244 [] ls=Jk N ls:=id rfl
def H1:=oS Vn L5 I6
def MX:List Nat:=[0,0,0,0,0,1,0,0,0,0,1,0]
def Eg (O:Alg) (x:Ags O):O.M:=(O.ite (O.eqI (x.I 0) (O.lit .u8 2)) (O.ret [.bool (O.iteB (O.eqI (x.I 1) (O.lit .u8 0)) (O.bnot (O.eqI (x.I 4) (O.q 6))) O.ff)]) (O.ite (O.eqI (x.I 1) (O.lit .u8 0)) (O.ret [.bool (O.iteB (O.eqI (x.I 2) (O.q 0)) (O.eqI (x.I 4) (O.q 0)) O.ff)]) (O.ite (O.eqI (x.I 1) (O.lit .u8 1)) (O.ret [.bool (O.iteB (O.bnot (O.eqI (x.I 4) (O.q 6))) O.tt (O.eqI (x.I 2) (O.q 0)))]) (O.ret [.bool (O.iteB (O.bnot (O.eqI (x.I 4) (O.q 6))) (O.iteB (O.lt (O.q 0) (x.I 2)) O.tt (O.bnot (O.eqI (x.I 4) (O.q 0)))) O.ff)]))))
def Kq:Nat→Env:=eL []
def Cu:=oS MX Eg Kq
def QO:List Nat:=[0,0,0,0,0,1,0,0,0,0,1,0]
def Gn (O:Alg) (x:Ags O):O.M:=(O.ite (O.iteB (O.iteB (O.iteB (O.iteB (O.iteB (O.lt (x.I 0) (O.lit .u8 1)) O.tt (O.lt (O.lit .u8 3) (x.I 0))) O.tt (O.lt (O.lit .u8 3) (x.I 1))) O.tt (O.lt (O.lit .u8 10) (x.I 6))) O.tt (O.lt (x.I 11) (O.q 0))) O.tt (O.lt (O.q 8) (x.I 11))) (O.ret [.int (O.q 11)]) (O.ite (O.iteB (O.iteB (O.iteB (O.iteB (O.lt (x.I 2) (O.q 0)) O.tt (O.lt (O.q 7) (x.I 2))) O.tt (O.lt (x.I 3) (O.q 0))) O.tt (O.lt (x.I 2) (x.I 3))) O.tt (O.iteB (O.iteB (O.bnot (O.eqI (x.I 4) (O.q 0))) (O.bnot (O.eqI (x.I 4) (O.q 4))) O.ff) (O.bnot (O.eqI (x.I 4) (O.q 6))) O.ff)) (O.ret [.int (O.q 12)]) (O.bind (O.call 110 [] (xr x [0,0,0,0,0,1,0,0,0,0,1,0] 0)) fun c0=>(O.ite (O.iteB (O.bnot (O.cB c0 0)) O.tt (O.iteB (O.iteB (O.iteB (O.bnot (O.eqI (x.I 0) (O.lit .u8 2))) (O.eqI (x.I 1) (O.lit .u8 1)) O.ff) (O.eqI (x.I 2) (O.q 0)) O.ff) (O.eqI (x.I 4) (O.q 0)) O.ff)) (O.ret [.int (O.q 11)]) (O.ite (O.iteB (O.iteB (O.bnot (O.eqI (x.I 11) (O.q 0))) (O.bnot (O.eqI (x.I 1) (O.lit .u8 1))) O.ff) (O.bnot (O.eqI (x.I 6) (O.lit .u8 2))) O.ff) (O.ret [.int (O.q 11)]) (O.ite (O.iteB (O.bnot (O.eqI (x.I 4) (O.q 0))) (O.bnot (O.eqI (x.I 6) (O.lit .u8 0))) O.ff) (O.ret [.int (O.q 11)]) (O.ite (O.iteB (O.iteB (x.B 5) (O.bnot (O.eqI (x.I 6) (O.lit .u8 6))) O.ff) (O.bnot (O.eqI (x.I 6) (O.lit .u8 8))) O.ff) (O.ret [.int (O.q 11)]) (O.ret [.int (O.q 0)]))))))))
def IP:Nat→Env:=eL [(110,Cu)]
theorem JR {N ls}:IP N 110 [] ls=Cu N ls:=id rfl
def Bu:=oS QO Gn IP
def MV:List Nat:=[0]
def EW (O:Alg) (x:Ags O):O.M:=(O.ret [.bool (O.iteB (O.le (O.lit .u8 1) (x.I 0)) (O.le (x.I 0) (O.lit .u8 5)) O.ff)])
def Kk:Nat→Env:=eL []
def Cr:=oS MV EW Kk
def PB:List Nat:=[2,0,0,0,0,0,0,0,1,0,0,0,0,3,0,0,0,0,0,1,0,0,0,0,1,0]
def Fe (O:Alg) (x:Ags O):O.M:=(O.bind (O.call 86 [] (xr x [0,0,0,0,0,1,0,0,0,0,1,0] 14)) fun c0=>(O.ite (O.bnot (O.eqI (O.cI c0 0) (O.q 0))) (O.ret [.int (O.q 0),.int (O.q 0),.int (O.q 0),.int (O.q 0),.int (O.q 0),.int (O.q 0),.bool O.ff,.bool O.ff,.bool O.ff,.bool O.ff]) (O.bind (O.call 87 [] [.int (x.I 20)]) fun c1=>(O.bind (O.ite (x.B 19) (O.ret [.int (O.add .i64 (x.I 16) (O.q 1))]) (O.ret [.int (x.I 16)])) fun c2=>(O.bind (O.ite (O.eqI (x.I 14) (O.lit .u8 2)) (O.ret [.int (O.q 0),.int (O.add .i64 (x.I 6) (O.add .i64 (O.sub .i64 (x.I 16) (x.I 17)) (x.I 18))),.int (O.q 0),.int (O.q 0),.int (O.q 0),.int (O.q 0),.bool (O.eqI (x.I 14) (O.lit .u8 1)),.bool (O.bnot (O.eqI (x.I 14) (O.lit .u8 2))),.bool (O.cB c1 0),.bool (O.eqI (O.rem .i64 (O.cI c2 0) (O.q 2)) (O.q 1))]) (O.ite (O.eqI (x.I 14) (O.lit .u8 3)) (O.ret [.int (O.q 0),.int (O.q 0),.int (x.I 7),.int (O.q 0),.int (O.q 0),.int (O.q 0),.bool (O.eqI (x.I 14) (O.lit .u8 1)),.bool (O.bnot (O.eqI (x.I 14) (O.lit .u8 2))),.bool (O.cB c1 0),.bool (O.eqI (O.rem .i64 (O.cI c2 0) (O.q 2)) (O.q 1))]) (O.ret [.int (O.q 0),.int (O.q 0),.int (O.q 0),.int (O.q 0),.int (O.q 0),.int (O.q 0),.bool (O.eqI (x.I 14) (O.lit .u8 1)),.bool (O.bnot (O.eqI (x.I 14) (O.lit .u8 2))),.bool (O.cB c1 0),.bool (O.eqI (O.rem .i64 (O.cI c2 0) (O.q 2)) (O.q 1))]))) fun c3=>(O.bind (O.ite (O.bnot (O.eqI (x.I 14) (O.lit .u8 2))) (O.ite (O.eqI (x.I 15) (O.lit .u8 1)) (O.ret (ap O [.int (O.add .i64 (O.sub .i64 (x.I 16) (x.I 17)) (x.I 18))] (cr O c3 [0,0,0,0,0,1,1,1,1] 1))) (O.ite (O.eqI (x.I 15) (O.lit .u8 2)) (O.ret (ap O (cr O c3 [0,0,0] 0) (ap O [.int (O.add .i64 (O.sub .i64 (x.I 16) (x.I 17)) (x.I 18))] (cr O c3 [0,0,1,1,1,1] 4)))) (O.ite (O.eqI (x.I 15) (O.lit .u8 3)) (O.ret (ap O (cr O c3 [0,0,0,0] 0) (ap O [.int (O.add .i64 (O.sub .i64 (x.I 16) (x.I 17)) (x.I 18))] (cr O c3 [0,1,1,1,1] 5)))) (O.ret (cr O c3 [0,0,0,0,0,0,1,1,1,1] 0))))) (O.ret (cr O c3 [0,0,0,0,0,0,1,1,1,1] 0))) fun c4=>(O.ret (ap O (cr O c4 [0,0,0,0,0] 0) (ap O [.int (O.add .i64 (O.add .i64 (O.cI c4 0) (O.cI c4 1)) (O.cI c4 2))] (cr O c4 [1,1,1,1] 6))))))))))
def EX:Nat→Env:=eL [(86,Bu),(87,Cr)]
theorem KU {N ls}:EX N 86 [] ls=Bu N ls:=id rfl
theorem JC {N ls}:EX N 87 [] ls=Cr N ls:=id rfl
def Bm:=oS PB Fe EX
def P7:List Nat:=[0,0,0,0,0,0,1,1,1,1]
def QI (O:Alg) (x:Ags O):O.M:=(O.ret [.int (O.add .i64 (O.add .i64 (O.add .i64 (O.add .i64 (x.I 0) (x.I 1)) (x.I 2)) (x.I 3)) (x.I 4))])
def Vq:Nat→Env:=eL []
def EB:=oS P7 QI Vq
def Rh:List Nat:=[0,0,0,0,0,0,0,0,0,0,0,0,0,0,3,0,3,3,1,3,1,0,0,0,3,0,0,0]
def DM (O:Alg) (x:Ags O):O.M:=(O.bind (O.call 241 [] (xr x kI 0)) fun c0=>(O.ret [.bool (O.iteB (O.cB c0 0) (O.iteB (O.eqI (x.I 12) (O.q 0)) O.tt (O.eqI (x.I 13) (O.q 0))) O.ff)]))
def Dp:Nat→Env:=eL [(241,Bh)]
theorem Mz {N ls}:Dp N 241 [] ls=Bh N ls:=id rfl
def BA:=oS Rh DM Dp
def UF:List Nat:=[0,0,0,0,0,0,0,0,0,0,0,0,0,0,3,0,3,3,1,3,1,0,0,0,3,0,0,0,0]
def KJ (O:Alg) (x:Ags O):O.M:=(O.ret [.bool (O.iteB (O.le (O.q 1) (x.I 28)) (O.le (x.I 28) (O.llen (x.L 24))) O.ff)])
def Ra:Nat→Env:=eL []
def Au:=oS UF KJ Ra
def Qq:List Nat:=[0,0,0,0,0,0,0,0,0,0,0,0,0,0,3,0,3,3,1,3,1,0,0,0,3,0,0,0,0]
def Gm (O:Alg) (x:Ags O):O.M:=(O.bind (O.call 252 [] (xr x [0,0,0,0,0,0,0,0,0,0,0,0,0,0,3,0,3,3,1,3,1,0,0,0,3,0,0,0,0] 0)) fun c0=>(O.assert (O.bnot (O.band (O.cB c0 0) (O.bnot (O.inb (O.sub .i64 (x.I 28) (O.q 1)) (O.llen (x.L 24)))))) (O.ret [.bool (O.iteB (O.cB c0 0) (O.rB (x.L 24) (O.sub .i64 (x.I 28) (O.q 1)) 0) O.ff)])))
def IK:Nat→Env:=eL [(252,Au)]
theorem My {N ls}:IK N 252 [] ls=Au N ls:=id rfl
def Aq:=oS Qq Gm IK
def Ri:List Nat:=[2,0,0,0,0,0,0,0,1,0,0,0,0,3,0]
def Hh (O:Alg) (x:Ags O):O.M:=(O.bind (O.fix (fun s0 c0=>(O.ite (O.lt (O.cI c0 0) (O.llen (x.L 13))) (O.assert (O.inb (O.cI c0 0) (O.llen (x.L 13))) (O.ite (O.iteB (O.le (O.rI (x.L 13) (O.cI c0 0) 0) (O.add .i64 (x.I 14) (O.q 1))) (O.le (O.add .i64 (x.I 14) (O.q 1)) (O.rI (x.L 13) (O.cI c0 0) 1)) O.ff) (O.ret [.int (O.q 0),.int (O.rI (x.L 13) (O.cI c0 0) 2)]) (s0 [.int (O.add .i64 (O.cI c0 0) (O.q 1))]))) (O.ret [.int (O.q 1)]))) [.int (O.q 0)]) fun c0=>(O.ite (O.isTag c0 0) (O.ret [.int (O.cI c0 1)]) (O.ret [.int (x.I 12)])))
def O4:Nat→Env:=eL []
def FG:=oS Ri Hh O4
def UN:List Nat:=[2,0,0,0,0,0,0,0,1,0,0,0,0,3,0,0,0,0,0,0,0,0,0,0,0,0,0,0,3,0,3,3,1,3,1,0,0,0,3,0,0,0]
def KM (O:Alg) (x:Ags O):O.M:=(O.bind (O.call 252 [] (ap O (xr x kI 14) [.int (x.I 36)])) fun c0=>(O.bind (O.ite (O.bnot (O.bnot (O.cB c0 0))) (O.call 253 [] (ap O (xr x kI 14) [.int (x.I 36)])) (O.ret [.bool O.ff])) fun c1=>(O.ite (O.iteB (O.iteB (O.bnot (O.cB c0 0)) O.tt (O.cB c1 0)) O.tt (O.eqI (x.I 36) (x.I 29))) (O.ret [.int (O.q 17)]) (O.bind (O.call 268 [] (ap O (xr x kR 0) [.int (x.I 24)])) fun c2=>(O.ite (O.lt (O.cI c2 0) (x.I 37)) (O.ret [.int (O.q 16)]) (O.ret [.int (O.q 0)]))))))
def E5:Nat→Env:=eL [(252,Au),(253,Aq),(268,FG)]
theorem Pk {N ls}:E5 N 252 [] ls=Au N ls:=id rfl
theorem Mt {N ls}:E5 N 253 [] ls=Aq N ls:=id rfl
theorem Ns {N ls}:E5 N 268 [] ls=FG N ls:=id rfl
def G5:=oS UN KM E5
def Oo:List Nat:=[]
def Ox (O:Alg) (x:Ags O):O.M:=(O.ret [.rows (O.llit [[.int (O.lit .u8 0),.str (O.slit ⟨#[78,79,84,79,85,84]⟩),.bool O.ff,.bool O.ff,.bool O.ff,.bool O.ff,.bool O.ff],[.int (O.lit .u8 1),.str (O.slit ⟨#[66,79,87,76,69,68]⟩),.bool O.tt,.bool O.ff,.bool O.ff,.bool O.ff,.bool O.ff],[.int (O.lit .u8 2),.str (O.slit ⟨#[67,65,85,71,72,84]⟩),.bool O.tt,.bool O.ff,.bool O.ff,.bool O.tt,.bool O.ff],[.int (O.lit .u8 3),.str (O.slit ⟨#[76,66,87]⟩),.bool O.tt,.bool O.ff,.bool O.ff,.bool O.ff,.bool O.ff],[.int (O.lit .u8 4),.str (O.slit ⟨#[83,84,85,77,80,69,68]⟩),.bool O.tt,.bool O.tt,.bool O.ff,.bool O.tt,.bool O.ff],[.int (O.lit .u8 5),.str (O.slit ⟨#[72,73,84,87,73,67,75,69,84]⟩),.bool O.tt,.bool O.tt,.bool O.ff,.bool O.ff,.bool O.ff],[.int (O.lit .u8 6),.str (O.slit ⟨#[82,85,78,79,85,84]⟩),.bool O.tt,.bool O.tt,.bool O.tt,.bool O.tt,.bool O.tt],[.int (O.lit .u8 7),.str (O.slit ⟨#[72,73,84,84,87,73,67,69]⟩),.bool O.tt,.bool O.ff,.bool O.tt,.bool O.ff,.bool O.ff],[.int (O.lit .u8 8),.str (O.slit ⟨#[79,66,83,84,82,85,67,84,73,78,71]⟩),.bool O.tt,.bool O.tt,.bool O.tt,.bool O.ff,.bool O.tt],[.int (O.lit .u8 9),.str (O.slit ⟨#[84,73,77,69,68,79,85,84]⟩),.bool O.ff,.bool O.ff,.bool O.ff,.bool O.ff,.bool O.ff],[.int (O.lit .u8 10),.str (O.slit ⟨#[82,69,84,73,82,69,68]⟩),.bool O.ff,.bool O.ff,.bool O.ff,.bool O.ff,.bool O.ff]])])
def Uw:Nat→Env:=eL []
def BR:=oS Oo Ox Uw
def TG:List Nat:=[0]
def Im (O:Alg) (x:Ags O):O.M:=(O.bind (O.call 273 [] []) fun c0=>(O.bind (O.fix (fun s1 c1=>(O.ite (O.lt (O.cI c1 0) (O.llen (O.cL c0 0))) (O.assert (O.inb (O.cI c1 0) (O.llen (O.cL c0 0))) (O.ite (O.eqI (O.rI (O.cL c0 0) (O.cI c1 0) 0) (x.I 0)) (O.ret (ap O [.int (O.q 0)] (rr O (O.cL c0 0) (O.cI c1 0) [0,2,1,1,1,1,1] 0))) (s1 [.int (O.add .i64 (O.cI c1 0) (O.q 1))]))) (O.ret [.int (O.q 1)]))) [.int (O.q 0)]) fun c1=>(O.ite (O.isTag c1 0) (O.ret (cr O c1 [0,2,1,1,1,1,1] 1)) (O.ret [.int (O.lit .u8 0),.str (O.slit ⟨#[]⟩),.bool O.ff,.bool O.ff,.bool O.ff,.bool O.ff,.bool O.ff]))))
def Ka:Nat→Env:=eL [(273,BR)]
theorem Lq {N ls}:Ka N 273 [] ls=BR N ls:=id rfl
def GH:=oS TG Im Ka
def Nk:List Nat:=[3,0]
def E6 (O:Alg) (x:Ags O):O.M:=(O.bind (O.fix (fun s0 c0=>(O.ite (O.lt (O.cI c0 0) (O.llen (x.L 0))) (O.assert (O.inb (O.cI c0 0) (O.llen (x.L 0))) (O.ite (O.eqI (x.I 1) (O.rI (x.L 0) (O.cI c0 0) 0)) (O.ret [.int (O.q 0),.int (O.cI c0 0)]) (s0 [.int (O.add .i64 (O.cI c0 0) (O.q 1))]))) (O.ret [.int (O.q 1)]))) [.int (O.q 0)]) fun c0=>(O.ite (O.isTag c0 0) (O.ret [.int (O.cI c0 1)]) (O.ret [.int (O.q (-1))])))
def MG:Nat→Env:=eL []
def DE:=oS Nk E6 MG
def Kt:List Nat:=[3,0]
def DR (O:Alg) (x:Ags O):O.M:=(O.bind (O.call 274 [] [.rows (x.L 0),.int (x.I 1)]) fun c0=>(O.ret [.bool (O.le (O.q 0) (O.cI c0 0))]))
def Em:Nat→Env:=eL [(274,DE)]
theorem HW {N ls}:Em N 274 [] ls=DE N ls:=id rfl
def CR:=oS Kt DR Em
def N1:List Nat:=[0,2,1,1,1,1,1,0]
def FF (O:Alg) (x:Ags O):O.M:=(O.ret [.bool (O.iteB (O.iteB (O.iteB (O.eqI (x.I 7) (O.lit .u8 1)) (x.B 2) O.ff) O.tt (O.iteB (O.eqI (x.I 7) (O.lit .u8 2)) (x.B 3) O.ff)) O.tt (O.iteB (O.eqI (x.I 7) (O.lit .u8 3)) (x.B 4) O.ff))])
def LC:Nat→Env:=eL []
def DJ:=oS N1 FF LC
def QT:List Nat:=[0,1]
def Gt (O:Alg) (x:Ags O):O.M:=(O.bind (O.call 273 [] []) fun c0=>(O.bind (O.fix (fun s1 c1=>(O.ite (O.lt (O.cI c1 1) (O.llen (O.cL c0 0))) (O.assert (O.inb (O.cI c1 1) (O.llen (O.cL c0 0))) (O.bind (O.call 275 [] (ap O (rr O (O.cL c0 0) (O.cI c1 1) [0,2,1,1,1,1,1] 0) [.int (x.I 0)])) fun c2=>(O.ite (O.iteB (O.cB c2 0) (O.iteB (O.iteB (O.iteB (O.bnot (x.B 1)) O.tt (O.eqI (O.rI (O.cL c0 0) (O.cI c1 1) 0) (O.lit .u8 6))) O.tt (O.eqI (O.rI (O.cL c0 0) (O.cI c1 1) 0) (O.lit .u8 7))) O.tt (O.eqI (O.rI (O.cL c0 0) (O.cI c1 1) 0) (O.lit .u8 8))) O.ff) (O.assert (O.small (O.llen (O.lapp (O.cL c1 0) (O.llit [[.int (O.rI (O.cL c0 0) (O.cI c1 1) 0)]]))) 1) (s1 [.rows (O.lapp (O.cL c1 0) (O.llit [[.int (O.rI (O.cL c0 0) (O.cI c1 1) 0)]])),.int (O.add .i64 (O.cI c1 1) (O.q 1))])) (s1 [.rows (O.cL c1 0),.int (O.add .i64 (O.cI c1 1) (O.q 1))])))) (O.ret [.rows (O.cL c1 0)]))) [.rows O.lnil,.int (O.q 0)]) fun c1=>(O.ret [.rows (O.cL c1 0)])))
def FM:Nat→Env:=eL [(273,BR),(275,DJ)]
theorem KN {N ls}:FM N 273 [] ls=BR N ls:=id rfl
theorem Jr {N ls}:FM N 275 [] ls=DJ N ls:=id rfl
def EK:=oS QT Gt FM
def JU:List Nat:=[0]
def C4 (O:Alg) (x:Ags O):O.M:=(O.ret [.bool (O.iteB (O.le (O.q 1) (x.I 0)) (O.le (x.I 0) (O.q 11)) O.ff)])
def ID:Nat→Env:=eL []
def CE:=oS JU C4 ID
def MA:List Nat:=[0,0,0,0,0,1,0,0,0,0,1,0,0,2,1,1,1,1,1]
def Dz (O:Alg) (x:Ags O):O.M:=(O.bind (O.call 276 [] [.int (x.I 8)]) fun c0=>(O.ite (O.iteB (O.bnot (O.beq (x.B 17) (O.cB c0 0))) O.tt (O.iteB (O.bnot (x.B 17)) (O.bnot (O.eqI (x.I 8) (O.q 0))) O.ff)) (O.ret [.bool O.ff]) (O.bind (O.ite (O.band (O.bnot (O.eqI (x.I 9) (O.q 0))) (O.eqI (x.I 6) (O.lit .u8 6))) (O.call 276 [] [.int (x.I 9)]) (O.ret [.bool O.ff])) fun c1=>(O.ret [.bool (O.iteB (O.eqI (x.I 9) (O.q 0)) O.tt (O.iteB (O.iteB (O.eqI (x.I 6) (O.lit .u8 6)) (O.cB c1 0) O.ff) (O.bnot (O.eqI (x.I 9) (x.I 8))) O.ff))]))))
def FV:Nat→Env:=eL [(276,CE)]
theorem GO {N ls}:FV N 276 [] ls=CE N ls:=id rfl
def CW:=oS MA Dz FV
def L1:List Nat:=[0,0,0,0,0,1,0,0,0,0,1,0,1]
def Dx (O:Alg) (x:Ags O):O.M:=(O.ite (O.eqI (x.I 6) (O.lit .u8 0)) (O.ite (O.bnot (O.eqI (x.I 7) (O.q 0))) (O.ret [.int (O.q 14)]) (O.ite (O.iteB (O.iteB (O.bnot (O.eqI (x.I 8) (O.q 0))) O.tt (O.bnot (O.eqI (x.I 9) (O.q 0)))) O.tt (x.B 10)) (O.ret [.int (O.q 15)]) (O.ret [.int (O.q 0)]))) (O.bind (O.call 269 [] [.int (x.I 6)]) fun c0=>(O.bind (O.call 271 [] [.int (x.I 0),.bool (x.B 12)]) fun c1=>(O.bind (O.call 270 [] [.rows (O.cL c1 0),.int (x.I 6)]) fun c2=>(O.ite (O.bnot (O.cB c2 0)) (O.ret [.int (O.q 13)]) (O.ite (O.iteB (O.bnot (O.iteB (O.eqI (x.I 6) (O.lit .u8 6)) O.tt (O.eqI (x.I 6) (O.lit .u8 8)))) (O.iteB (O.bnot (O.eqI (x.I 1) (O.lit .u8 0))) O.tt (O.bnot (O.eqI (x.I 2) (O.q 0)))) O.ff) (O.ret [.int (O.q 12)]) (O.ite (O.iteB (O.bnot (O.eqI (x.I 7) (O.q 1))) (O.iteB (O.bnot (O.eqI (x.I 7) (O.q 2))) O.tt (O.bnot (O.cB c0 6))) O.ff) (O.ret [.int (O.q 14)]) (O.bind (O.call 272 [] (ap O (xr x [0,0,0,0,0,1,0,0,0,0,1,0] 0) (cr O c0 [0,2,1,1,1,1,1] 0))) fun c3=>(O.ite (O.bnot (O.cB c3 0)) (O.ret [.int (O.q 15)]) (O.ite (O.iteB (O.iteB (x.B 10) (O.bnot (O.eqI (x.I 6) (O.lit .u8 2))) O.ff) (O.bnot (O.eqI (x.I 6) (O.lit .u8 6))) O.ff) (O.ret [.int (O.q 18)]) (O.ret [.int (O.q 0)])))))))))))
def Bi:Nat→Env:=eL [(269,GH),(270,CR),(271,EK),(272,CW)]
theorem Jh {N ls}:Bi N 269 [] ls=GH N ls:=id rfl
theorem Gp {N ls}:Bi N 270 [] ls=CR N ls:=id rfl
theorem Id {N ls}:Bi N 271 [] ls=EK N ls:=id rfl
theorem HE {N ls}:Bi N 272 [] ls=CW N ls:=id rfl
def CY:=oS L1 Dx Bi
def Um:List Nat:=[0,0,0,0,0,0,0,0,0,0,0,0,0,0,3,0,3,3,1,3,1,0,0,0,3,0,0,0,0,0,0,0,0,1,0,0,0,0,1,0]
def KG (O:Alg) (x:Ags O):O.M:=(O.bind (O.ite (O.lt (O.q 0) (x.I 36)) (O.bind (O.call 252 [] (ap O (xr x kI 0) [.int (x.I 36)])) fun c0=>(O.ite (O.bnot (O.cB c0 0)) (O.ret [.int (O.q 1),.int (O.q 3)]) (O.bind (O.call 253 [] (ap O (xr x kI 0) [.int (x.I 36)])) fun c1=>(O.ite (O.bnot (O.beq (x.B 38) (O.cB c1 0))) (O.ret [.int (O.q 1),.int (O.q 18)]) (O.ret [.int (O.q 0)]))))) (O.ret [.int (O.q 0)])) fun c0=>(O.ite (O.isTag c0 0) (O.bind (O.ite (O.lt (O.q 0) (x.I 37)) (O.bind (O.call 252 [] (ap O (xr x kI 0) [.int (x.I 37)])) fun c1=>(O.ite (O.bnot (O.cB c1 0)) (O.ret [.int (O.q 1),.int (O.q 3)]) (O.bind (O.call 253 [] (ap O (xr x kI 0) [.int (x.I 37)])) fun c2=>(O.ite (O.cB c2 0) (O.ret [.int (O.q 1),.int (O.q 18)]) (O.ret [.int (O.q 0)]))))) (O.ret [.int (O.q 0)])) fun c1=>(O.ite (O.isTag c1 0) (O.ite (O.iteB (O.eqI (x.I 34) (O.lit .u8 4)) (O.bnot (O.eqI (O.iteI (O.lt (x.I 36) (O.q 0)) (O.q 0) (x.I 36)) (x.I 22))) O.ff) (O.ret [.int (O.q 17)]) (O.ret [.int (O.q 0)])) (O.ret [.int (O.cI c1 1)]))) (O.ret [.int (O.cI c0 1)])))
def Hb:Nat→Env:=eL [(252,Au),(253,Aq)]
theorem Pg {N ls}:Hb N 252 [] ls=Au N ls:=id rfl
theorem M9 {N ls}:Hb N 253 [] ls=Aq N ls:=id rfl
def G1:=oS Um KG Hb
def Ow:List Nat:=[2,0,0,0,0,0,0,0,1,0,0,0,0,3,0,0,0,0,0,0,0,0,0,0,0,0,0,0,3,0,3,3,1,3,1,0,0,0,3,0,0,0,0,0,0,0,0,1,0,0,0,0,1,0]
def Fl (O:Alg) (x:Ags O):O.M:=(O.bind (O.call 224 [] (xr x kI 14)) fun c0=>(O.ite (O.cB c0 0) (O.ret [.int (O.q 6)]) (O.ite (O.eqI (x.I 29) (O.q 0)) (O.ret [.int (O.q 7)]) (O.bind (O.call 265 [] (xr x [2,0,0,0,0,0,0,0,1,0,0,0,0,3,0,0,0,0,0,0,0,0,0,0,0,0,0,0,3,0,3,3,1,3,1,0,0,0,3,0,0,0] 0)) fun c1=>(O.bind (O.call 86 [] (xr x [0,0,0,0,0,1,0,0,0,0,1,0] 42)) fun c2=>(O.bind (O.call 266 [] (ap O (xr x [0,0,0,0,0,1,0,0,0,0,1,0] 42) [.bool (x.B 34)])) fun c3=>(O.bind (O.call 267 [] (xr x [0,0,0,0,0,0,0,0,0,0,0,0,0,0,3,0,3,3,1,3,1,0,0,0,3,0,0,0,0,0,0,0,0,1,0,0,0,0,1,0] 14)) fun c4=>(O.bind (O.fix (fun s5 c5=>(O.ite (O.lt (O.cI c5 0) (O.llen (O.llit [[.int (O.cI c1 0)],[.int (O.cI c2 0)],[.int (O.cI c3 0)],[.int (O.cI c4 0)]]))) (O.assert (O.inb (O.cI c5 0) (O.llen (O.llit [[.int (O.cI c1 0)],[.int (O.cI c2 0)],[.int (O.cI c3 0)],[.int (O.cI c4 0)]]))) (O.ite (O.bnot (O.eqI (O.rI (O.llit [[.int (O.cI c1 0)],[.int (O.cI c2 0)],[.int (O.cI c3 0)],[.int (O.cI c4 0)]]) (O.cI c5 0) 0) (O.q 0))) (O.ret [.int (O.q 0),.int (O.rI (O.llit [[.int (O.cI c1 0)],[.int (O.cI c2 0)],[.int (O.cI c3 0)],[.int (O.cI c4 0)]]) (O.cI c5 0) 0)]) (s5 [.int (O.add .i64 (O.cI c5 0) (O.q 1))]))) (O.ret [.int (O.q 1)]))) [.int (O.q 0)]) fun c5=>(O.ite (O.isTag c5 0) (O.ret [.int (O.cI c5 1)]) (O.ret [.int (O.q 0)]))))))))))
def Bn:Nat→Env:=eL [(86,Bu),(224,BA),(265,G5),(266,CY),(267,G1)]
theorem KR {N ls}:Bn N 86 [] ls=Bu N ls:=id rfl
theorem Ky {N ls}:Bn N 224 [] ls=BA N ls:=id rfl
theorem MM {N ls}:Bn N 265 [] ls=G5 N ls:=id rfl
theorem Ia {N ls}:Bn N 266 [] ls=CY N ls:=id rfl
theorem MQ {N ls}:Bn N 267 [] ls=G1 N ls:=id rfl
def De:=oS Ow Fl Bn
def V8:List Nat:=[0,0,0,0,0,0,0,0,0,0,0,0,0,0,3,0,3,3,1,3,1,0,0,0,3,0,0,0,0,0,0,0,0,1,0,0,0,0,1,0]
def Ll (O:Alg) (x:Ags O):O.M:=(O.bind (O.call 240 [] (xr x kI 0)) fun c0=>(O.bind (O.ite (O.bnot (O.eqI (x.I 34) (O.lit .u8 0))) (O.ite (O.iteB (O.eqI (x.I 35) (O.q 1)) (O.bnot (O.eqI (x.I 12) (O.q 0))) O.ff) (O.ret [.int (O.q 1),.int (x.I 12)]) (O.ite (O.iteB (O.eqI (x.I 35) (O.q 2)) (O.bnot (O.eqI (x.I 13) (O.q 0))) O.ff) (O.ret [.int (O.q 2),.int (x.I 13)]) (O.ret [.int (O.q 0),.int (O.q 0)]))) (O.ret [.int (O.q 0),.int (O.q 0)])) fun c1=>(O.bind (O.ite (x.B 33) (O.ret [.bool (O.bnot (O.bnot (O.eqI (O.rem .i64 (x.I 30) (O.q 2)) (O.q 0))))]) (O.ret [.bool (O.bnot (O.eqI (O.rem .i64 (x.I 30) (O.q 2)) (O.q 0)))])) fun c2=>(O.bind (O.ite (O.cB c2 0) (O.ret (ap O (cr O c0 [0,0,0,0,0,0,0,0,0,0,0,0] 0) (ap O [.int (O.cI c0 13),.int (O.cI c0 12)] (cr O c0 [3,0,3,3,1,3,1,0,0,0,3,0,0,0] 14)))) (O.ret (cr O c0 kI 0))) fun c3=>(O.ite (O.eqI (O.cI c1 0) (O.q 0)) (O.ret (cr O c3 kI 0)) (O.ite (O.bnot (O.beq (O.eqI (O.cI c1 0) (O.q 1)) (O.cB c2 0))) (O.bind (O.call 242 [] (ap O (cr O c3 [0,0,0,0,0,0,0,0,0,0,0,0] 0) (ap O [.int (O.q 0)] (ap O (cr O c3 [0,3,0,3,3,1,3,1,0,0,0,3,0,0,0] 13) [.int (O.cI c1 1)])))) fun c4=>(O.bind (O.ite (O.cB c4 0) (O.assert (O.inb (O.sub .i64 (O.cI c1 1) (O.q 1)) (O.llen (O.cL c3 14))) (O.ret (ap O (cr O c3 [0,0,0,0,0,0,0,0,0,0,0,0] 0) (ap O [.int (O.q 0),.int (O.cI c3 13),.rows (O.lset (O.cL c3 14) (O.sub .i64 (O.cI c1 1) (O.q 1)) 0 [.int (O.lit .u8 2)])] (cr O c3 [0,3,3,1,3,1,0,0,0,3,0,0,0] 15))))) (O.ret (ap O (cr O c3 [0,0,0,0,0,0,0,0,0,0,0,0] 0) (ap O [.int (O.q 0)] (cr O c3 [0,3,0,3,3,1,3,1,0,0,0,3,0,0,0] 13))))) fun c5=>(O.ret (ap O (cr O c5 [0,0,0,0] 0) (ap O [.int (O.add .i64 (O.cI c5 4) (O.q 1))] (cr O c5 [0,0,0,0,0,0,0,0,0,3,0,3,3,1,3,1,0,0,0,3,0,0,0] 5)))))) (O.bind (O.call 242 [] (ap O (cr O c3 [0,0,0,0,0,0,0,0,0,0,0,0,0] 0) (ap O [.int (O.q 0)] (ap O (cr O c3 [3,0,3,3,1,3,1,0,0,0,3,0,0,0] 14) [.int (O.cI c1 1)])))) fun c4=>(O.bind (O.ite (O.cB c4 0) (O.assert (O.inb (O.sub .i64 (O.cI c1 1) (O.q 1)) (O.llen (O.cL c3 14))) (O.ret (ap O (cr O c3 [0,0,0,0,0,0,0,0,0,0,0,0,0] 0) (ap O [.int (O.q 0),.rows (O.lset (O.cL c3 14) (O.sub .i64 (O.cI c1 1) (O.q 1)) 0 [.int (O.lit .u8 2)])] (cr O c3 [0,3,3,1,3,1,0,0,0,3,0,0,0] 15))))) (O.ret (ap O (cr O c3 [0,0,0,0,0,0,0,0,0,0,0,0,0] 0) (ap O [.int (O.q 0)] (cr O c3 [3,0,3,3,1,3,1,0,0,0,3,0,0,0] 14))))) fun c5=>(O.ret (ap O (cr O c5 [0,0,0,0] 0) (ap O [.int (O.add .i64 (O.cI c5 4) (O.q 1))] (cr O c5 [0,0,0,0,0,0,0,0,0,3,0,3,3,1,3,1,0,0,0,3,0,0,0] 5))))))))))))
def Ip:Nat→Env:=eL [(240,Ao),(242,Am)]
theorem Q3 {N ls}:Ip N 240 [] ls=Ao N ls:=id rfl
theorem Pi {N ls}:Ip N 242 [] ls=Am N ls:=id rfl
def Hx:=oS V8 Ll Ip
def Vy:List Nat:=[2,0,0,0,0,0,0,0,1,0,0,0,0,3,0,0,0,0,0,0,0,0,0,0,0,0,0,0,3,0,3,3,1,3,1,0,0,0,3,0,0,0,1]
def LI (O:Alg) (x:Ags O):O.M:=(O.bind (O.call 243 [] (xr x kI 14)) fun c0=>(O.bind (O.call 263 [] (ap O (xr x kI 14) [.int (x.I 29)])) fun c1=>(O.bind (O.ite (O.bnot (O.bnot (O.cB c1 0))) (O.call 70 [] (xr x kR 0)) (O.ret [.int (O.q 0)])) fun c2=>(O.ite (O.iteB (O.bnot (O.cB c1 0)) O.tt (O.bnot (O.eqI (O.cI c2 0) (O.q 0)))) (O.ret (ap O (cr O c0 kI 0) [.bool O.ff])) (O.bind (O.call 185 [] [.rows (O.cL c0 16),.int (x.I 29)]) fun c3=>(O.bind (O.ite (O.bnot (O.cB c3 0)) (O.assert (O.small (O.llen (O.lapp (O.cL c0 16) (O.llit [[.int (x.I 29)]]))) 8) (O.ret (ap O (cr O c0 [0,0,0,0,0,0,0,0,0,0,0,0,0,0,3,0] 0) (ap O [.rows (O.lapp (O.cL c0 16) (O.llit [[.int (x.I 29)]]))] (cr O c0 [3,1,3,1,0,0,0,3,0,0,0] 17))))) (O.ret (cr O c0 kI 0))) fun c4=>(O.bind (O.ite (x.B 42) (O.assert (O.inb (O.sub .i64 (x.I 29) (O.q 1)) (O.llen (O.cL c4 19))) (O.assert (O.inb (O.sub .i64 (x.I 29) (O.q 1)) (O.llen (O.cL c4 19))) (O.ret (ap O (cr O c4 [0,0,0,0,0,0,0,0,0,0,0] 0) (ap O [.int (O.add .i64 (O.cI c4 11) (O.q 1))] (ap O (cr O c4 [0,0,3,0,3,3,1] 12) (ap O [.rows (O.lset (O.cL c4 19) (O.sub .i64 (x.I 29) (O.q 1)) 0 [.int (O.add .i64 (O.rI (O.cL c4 19) (O.sub .i64 (x.I 29) (O.q 1)) 0) (O.q 1))]),.bool (O.cB c4 20),.int (O.add .i64 (O.cI c4 21) (O.q 1))] (cr O c4 [0,0,3,0,0,0] 22)))))))) (O.ret (cr O c4 kI 0))) fun c5=>(O.ite (O.lt (O.cI c5 11) (x.I 4)) (O.ret (ap O (cr O c5 kI 0) [.bool O.ff])) (O.ret (ap O (cr O c5 [0,0,0,0,0,0,0,0,0,0] 0) (ap O [.int (O.add .i64 (O.cI c5 10) (O.q 1)),.int (O.q 0)] (ap O (cr O c5 [0,0,3] 12) (ap O [.int (O.q 0),.rows O.lnil,.rows (O.cL c5 16)] (ap O (cr O c5 [1,3,1,0,0,0,3,0,0,0] 18) [.bool O.tt]))))))))))))))
def D7:Nat→Env:=eL [(70,AP),(185,Aj),(243,CA),(263,Bc)]
theorem P6 {N ls}:D7 N 70 [] ls=AP N ls:=id rfl
theorem KV {N ls}:D7 N 185 [] ls=Aj N ls:=id rfl
theorem R9 {N ls}:D7 N 243 [] ls=CA N ls:=id rfl
theorem Qe {N ls}:D7 N 263 [] ls=Bc N ls:=id rfl
def H4:=oS Vy LI D7
def RX:List Nat:=[0,0,0,0,0,0,0,0,0,0,0,0,0,0,3,0,3,3,1,3,1,0,0,0,3,0,0,0]
def Hs (O:Alg) (x:Ags O):O.M:=(O.bind (O.call 240 [] (xr x kI 0)) fun c0=>(O.ret (ap O (cr O c0 [0,0,0,0,0,0,0,0,0,0,0,0] 0) (ap O [.int (x.I 13),.int (x.I 12)] (cr O c0 [3,0,3,3,1,3,1,0,0,0,3,0,0,0] 14)))))
def JL:Nat→Env:=eL [(240,Ao)]
theorem OM {N ls}:JL N 240 [] ls=Ao N ls:=id rfl
def FB:=oS RX Hs JL
def Sv:List Nat:=[2,0,0,0,0,0,0,0,1,0,0,0,0,3,0,0,0,0,0,0,0,0,0,0,0,0,0,0,3,0,3,3,1,3,1,0,0,0,3,0,0,0,0,0,0,0,0,1,0,0,0,0,1,0]
def I8 (O:Alg) (x:Ags O):O.M:=(O.bind (O.call 245 [] (xr x [2,0,0,0,0,0,0,0,1,0,0,0,0,3,0,0,0,0,0,0,0,0,0,0,0,0,0,0,3,0,3,3,1,3,1,0,0,0,3,0,0,0,0,0,0,0,0,1,0,0,0,0,1,0] 0)) fun c0=>(O.ite (O.bnot (O.eqI (O.cI c0 0) (O.q 0))) (O.bind (O.call 147 [] (xr x kI 14)) fun c1=>(O.ret (ap O (cr O c1 kI 0) [.int (O.cI c0 0)]))) (O.bind (O.call 52 [] (ap O (xr x kR 0) (xr x [0,0,0,0,0,1,0,0,0,0,1,0] 42))) fun c1=>(O.bind (O.call 246 [] (xr x [0,0,0,0,0,0,0,0,0,0,0,0,0,0,3,0,3,3,1,3,1,0,0,0,3,0,0,0,0,0,0,0,0,1,0,0,0,0,1,0] 14)) fun c2=>(O.bind (O.call 53 [] (cr O c1 [0,0,0,0,0,0,1,1,1,1] 0)) fun c3=>(O.bind (O.call 247 [] (ap O (xr x kR 0) (ap O (cr O c2 [0,0,0] 0) (ap O [.int (O.add .i64 (O.cI c2 3) (O.cI c3 0)),.int (O.cI c2 4),.int (O.add .i64 (O.cI c2 5) (O.cI c1 1)),.int (O.add .i64 (O.cI c2 6) (O.cI c1 2)),.int (O.add .i64 (O.cI c2 7) (O.cI c1 3)),.int (O.add .i64 (O.cI c2 8) (O.cI c1 4))] (ap O (cr O c2 [0,0,0,0,0,3,0,3,3,1,3,1,0,0,0,3,0,0,0] 9) [.bool (O.cB c1 6)]))))) fun c4=>(O.bind (O.ite (O.cB c4 28) (O.bind (O.call 248 [] (cr O c4 kI 0)) fun c5=>(O.ret (cr O c5 kI 0))) (O.ret (cr O c4 kI 0))) fun c5=>(O.ite (O.eqI (x.I 42) (O.lit .u8 1)) (O.ret (ap O (cr O c5 [0,0,0,0,0,0,0,0,0,0,0,0,0,0,3,0,3,3,1,3] 0) (ap O [.bool O.ff] (ap O (cr O c5 [0,0,0,3,0,0,0] 21) [.int (O.q 0)])))) (O.ite (O.iteB (O.eqI (x.I 42) (O.lit .u8 3)) (x.B 8) O.ff) (O.ret (ap O (cr O c5 [0,0,0,0,0,0,0,0,0,0,0,0,0,0,3,0,3,3,1,3] 0) (ap O [.bool O.tt] (ap O (cr O c5 [0,0,0,3,0,0,0] 21) [.int (O.q 0)])))) (O.ret (ap O (cr O c5 kI 0) [.int (O.q 0)])))))))))))
def Ba:Nat→Env:=eL [(52,Bm),(53,EB),(147,AO),(245,De),(246,Hx),(247,H4),(248,FB)]
theorem ME {N ls}:Ba N 52 [] ls=Bm N ls:=id rfl
theorem MP {N ls}:Ba N 53 [] ls=EB N ls:=id rfl
theorem Mm {N ls}:Ba N 147 [] ls=AO N ls:=id rfl
theorem Lj {N ls}:Ba N 245 [] ls=De N ls:=id rfl
theorem PZ {N ls}:Ba N 246 [] ls=Hx N ls:=id rfl
theorem PE {N ls}:Ba N 247 [] ls=H4 N ls:=id rfl
theorem M7 {N ls}:Ba N 248 [] ls=FB N ls:=id rfl
def F7:=oS Sv I8 Ba
def Vt:List Nat:=[0,0,0,0,0,0,0,0,0,0,0,0,0,0,3,0,3,3,1,3,1,0,0,0,3,0,0,0,0]
def Lm (O:Alg) (x:Ags O):O.M:=(O.bind (O.call 242 [] (xr x [0,0,0,0,0,0,0,0,0,0,0,0,0,0,3,0,3,3,1,3,1,0,0,0,3,0,0,0,0] 0)) fun c0=>(O.ite (O.bnot (O.cB c0 0)) (O.ret [.int (O.q 3)]) (O.bind (O.call 224 [] (xr x kI 0)) fun c1=>(O.assert (O.bnot (O.band (O.bnot (O.bnot (O.cB c1 0))) (O.bnot (O.inb (O.sub .i64 (x.I 28) (O.q 1)) (O.llen (x.L 14)))))) (O.ite (O.iteB (O.bnot (O.cB c1 0)) O.tt (O.eqI (O.rI (x.L 14) (O.sub .i64 (x.I 28) (O.q 1)) 0) (O.lit .u8 1))) (O.ret [.int (O.q 4)]) (O.assert (O.inb (O.sub .i64 (x.I 28) (O.q 1)) (O.llen (x.L 14))) (O.ite (O.eqI (O.rI (x.L 14) (O.sub .i64 (x.I 28) (O.q 1)) 0) (O.lit .u8 2)) (O.ret [.int (O.q 5)]) (O.ret [.int (O.q 0)]))))))))
def I1:Nat→Env:=eL [(224,BA),(242,Am)]
theorem OQ {N ls}:I1 N 224 [] ls=BA N ls:=id rfl
theorem PU {N ls}:I1 N 242 [] ls=Am N ls:=id rfl
def DI:=oS Vt Lm I1
def QA:List Nat:=[0,0,0,0,0,0,0,0,0,0,0,0,0,0,3,0,3,3,1,3,1,0,0,0,3,0,0,0,0]
def Gc (O:Alg) (x:Ags O):O.M:=(O.bind (O.call 240 [] (xr x kI 0)) fun c0=>(O.bind (O.call 249 [] (xr x [0,0,0,0,0,0,0,0,0,0,0,0,0,0,3,0,3,3,1,3,1,0,0,0,3,0,0,0,0] 0)) fun c1=>(O.ite (O.bnot (O.eqI (O.cI c1 0) (O.q 0))) (O.ret (ap O (cr O c0 kI 0) [.int (O.cI c1 0)])) (O.bind (O.call 242 [] (ap O (cr O c0 kI 0) [.int (x.I 28)])) fun c2=>(O.bind (O.ite (O.cB c2 0) (O.assert (O.inb (O.sub .i64 (x.I 28) (O.q 1)) (O.llen (O.cL c0 14))) (O.ret (ap O (cr O c0 [0,0,0,0,0,0,0,0,0,0,0,0,0,0] 0) (ap O [.rows (O.lset (O.cL c0 14) (O.sub .i64 (x.I 28) (O.q 1)) 0 [.int (O.lit .u8 2)])] (cr O c0 [0,3,3,1,3,1,0,0,0,3,0,0,0] 15))))) (O.ret (cr O c0 kI 0))) fun c3=>(O.ret (ap O (cr O c3 [0,0,0,0] 0) (ap O [.int (O.add .i64 (O.cI c3 4) (O.q 1))] (ap O (cr O c3 [0,0,0,0,0,0,0,0,0,3,0,3,3,1,3,1,0,0,0,3,0,0,0] 5) [.int (O.q 0)])))))))))
def DK:Nat→Env:=eL [(240,Ao),(242,Am),(249,DI)]
theorem Ne {N ls}:DK N 240 [] ls=Ao N ls:=id rfl
theorem MO {N ls}:DK N 242 [] ls=Am N ls:=id rfl
theorem OC {N ls}:DK N 249 [] ls=DI N ls:=id rfl
def EM:=oS QA Gc DK
def Sm:List Nat:=[0,0,0,0,0,0,0,0,0,0,0,0,0,0,3,0,3,3,1,3,1,0,0,0,3,0,0,0,0]
def Iq (O:Alg) (x:Ags O):O.M:=(O.bind (O.call 240 [] (xr x kI 0)) fun c0=>(O.bind (O.call 249 [] (xr x [0,0,0,0,0,0,0,0,0,0,0,0,0,0,3,0,3,3,1,3,1,0,0,0,3,0,0,0,0] 0)) fun c1=>(O.ite (O.bnot (O.eqI (O.cI c1 0) (O.q 0))) (O.ret (ap O (cr O c0 kI 0) [.int (O.cI c1 0)])) (O.assert (O.inb (O.sub .i64 (x.I 28) (O.q 1)) (O.llen (O.cL c0 14))) (O.ite (O.eqI (O.cI c0 12) (O.q 0)) (O.ret (ap O (cr O c0 [0,0,0,0,0,0,0,0,0,0,0,0] 0) (ap O [.int (x.I 28),.int (O.cI c0 13),.rows (O.lset (O.cL c0 14) (O.sub .i64 (x.I 28) (O.q 1)) 0 [.int (O.lit .u8 1)])] (ap O (cr O c0 [0,3,3,1,3,1,0,0,0,3,0,0,0] 15) [.int (O.q 0)])))) (O.ret (ap O (cr O c0 [0,0,0,0,0,0,0,0,0,0,0,0,0] 0) (ap O [.int (x.I 28),.rows (O.lset (O.cL c0 14) (O.sub .i64 (x.I 28) (O.q 1)) 0 [.int (O.lit .u8 1)])] (ap O (cr O c0 [0,3,3,1,3,1,0,0,0,3,0,0,0] 15) [.int (O.q 0)])))))))))
def Gw:Nat→Env:=eL [(240,Ao),(249,DI)]
theorem PQ {N ls}:Gw N 240 [] ls=Ao N ls:=id rfl
theorem PI {N ls}:Gw N 249 [] ls=DI N ls:=id rfl
def Fx:=oS Sm Iq Gw
def Uq:List Nat:=[0,0,0,0,0,0,0,0,0,0,0,0,0,0,3,0,3,3,1,3,1,0,0,0,3,0,0,0]
def Er (O:Alg) (x:Ags O):O.M:=(O.bind (O.fix (fun s0 c0=>(O.ite (O.lt (O.cI c0 1) (O.llen (x.L 14))) (O.assert (O.inb (O.cI c0 1) (O.llen (x.L 14))) (O.ite (O.iteB (O.eqI (O.rI (x.L 14) (O.cI c0 1) 0) (O.lit .u8 0)) O.tt (O.eqI (O.rI (x.L 14) (O.cI c0 1) 0) (O.lit .u8 3))) (O.assert (O.small (O.llen (O.lapp (O.cL c0 0) (O.llit [[.int (O.add .i64 (O.cI c0 1) (O.q 1))]]))) 8) (s0 [.rows (O.lapp (O.cL c0 0) (O.llit [[.int (O.add .i64 (O.cI c0 1) (O.q 1))]])),.int (O.add .i64 (O.cI c0 1) (O.q 1))])) (s0 [.rows (O.cL c0 0),.int (O.add .i64 (O.cI c0 1) (O.q 1))]))) (O.ret [.rows (O.cL c0 0)]))) [.rows O.lnil,.int (O.q 0)]) fun c0=>(O.ret [.rows (O.cL c0 0)]))
def LM:Nat→Env:=eL []
def CH:=oS Uq Er LM
def Rl:List Nat:=[0,0,0,0,0,0,0,0,0,0,0,0,0,0,3,0,3,3,1,3,1,0,0,0,3,0,0,0,0,1]
def He (O:Alg) (x:Ags O):O.M:=(O.bind (O.call 240 [] (xr x kI 0)) fun c0=>(O.bind (O.call 242 [] (xr x [0,0,0,0,0,0,0,0,0,0,0,0,0,0,3,0,3,3,1,3,1,0,0,0,3,0,0,0,0] 0)) fun c1=>(O.ite (O.bnot (O.cB c1 0)) (O.ret (ap O (cr O c0 kI 0) [.int (O.q 3)])) (O.ite (O.iteB (O.eqI (x.I 12) (O.q 0)) O.tt (O.eqI (x.I 13) (O.q 0))) (O.ret (ap O (cr O c0 kI 0) [.int (O.q 6)])) (O.ite (O.iteB (O.bnot (O.eqI (x.I 28) (x.I 12))) (O.bnot (O.eqI (x.I 28) (x.I 13))) O.ff) (O.ret (ap O (cr O c0 kI 0) [.int (O.q 4)])) (O.bind (O.ite (x.B 29) (O.call 225 [] (xr x kI 0)) (O.ret [.rows O.lnil])) fun c2=>(O.ite (O.iteB (x.B 29) (O.eqI (O.llen (O.cL c2 0)) (O.q 0)) O.ff) (O.ret (ap O (cr O c0 kI 0) [.int (O.q 19)])) (O.bind (O.ite (O.eqI (x.I 28) (x.I 12)) (O.ret (ap O (cr O c0 [0,0,0,0,0,0,0,0,0,0,0,0] 0) (ap O [.int (O.q 0)] (cr O c0 [0,3,0,3,3,1,3,1,0,0,0,3,0,0,0] 13)))) (O.ret (ap O (cr O c0 [0,0,0,0,0,0,0,0,0,0,0,0,0] 0) (ap O [.int (O.q 0)] (cr O c0 [3,0,3,3,1,3,1,0,0,0,3,0,0,0] 14))))) fun c3=>(O.ite (x.B 29) (O.assert (O.inb (O.sub .i64 (x.I 28) (O.q 1)) (O.llen (O.cL c3 14))) (O.ret (ap O (cr O c3 [0,0,0,0,0,0,0,0,0,0,0,0,0,0] 0) (ap O [.rows (O.lset (O.cL c3 14) (O.sub .i64 (x.I 28) (O.q 1)) 0 [.int (O.lit .u8 3)])] (ap O (cr O c3 [0,3,3,1,3,1,0,0,0,3,0,0,0] 15) [.int (O.q 0)]))))) (O.bind (O.call 242 [] (ap O (cr O c3 kI 0) [.int (x.I 28)])) fun c4=>(O.bind (O.ite (O.cB c4 0) (O.assert (O.inb (O.sub .i64 (x.I 28) (O.q 1)) (O.llen (O.cL c3 14))) (O.ret (ap O (cr O c3 [0,0,0,0,0,0,0,0,0,0,0,0,0,0] 0) (ap O [.rows (O.lset (O.cL c3 14) (O.sub .i64 (x.I 28) (O.q 1)) 0 [.int (O.lit .u8 2)])] (cr O c3 [0,3,3,1,3,1,0,0,0,3,0,0,0] 15))))) (O.ret (cr O c3 kI 0))) fun c5=>(O.ret (ap O (cr O c5 [0,0,0,0] 0) (ap O [.int (O.add .i64 (O.cI c5 4) (O.q 1))] (ap O (cr O c5 [0,0,0,0,0,0,0,0,0,3,0,3,3,1,3,1,0,0,0,3,0,0,0] 5) [.int (O.q 0)])))))))))))))))
def Dk:Nat→Env:=eL [(225,CH),(240,Ao),(242,Am)]
theorem OG {N ls}:Dk N 225 [] ls=CH N ls:=id rfl
theorem Oe {N ls}:Dk N 240 [] ls=Ao N ls:=id rfl
theorem M5 {N ls}:Dk N 242 [] ls=Am N ls:=id rfl
def Ez:=oS Rl He Dk
def Xe:List Nat:=[0,0,0,0,0,0,0,0,0,0,0,0,0,0,3,0,3,3,1,3,1,0,0,0,3,0,0,0]
def NV (O:Alg) (x:Ags O):O.M:=(O.bind (O.call 171 [] [.rows (x.L 14)]) fun c0=>(O.bind (O.call 172 [] [.rows (x.L 16)]) fun c1=>(O.bind (O.call 172 [] [.rows (x.L 17)]) fun c2=>(O.bind (O.call 172 [] [.rows (x.L 19)]) fun c3=>(O.bind (O.call 173 [] [.rows (x.L 24)]) fun c4=>(O.ret (ap O (xr x [0,0,0,0,0,0,0,0,0,0,0,0,0,0] 0) (ap O [.rows (O.cL c0 0),.int (x.I 15),.rows (O.cL c1 0),.rows (O.cL c2 0),.bool (x.B 18),.rows (O.cL c3 0)] (ap O (xr x [1,0,0,0] 20) (ap O [.rows (O.cL c4 0)] (xr x [0,0,0] 25)))))))))))
def HF:Nat→Env:=eL [(171,AR),(172,Aa),(173,AY)]
theorem K2 {N ls}:HF N 171 [] ls=AR N ls:=id rfl
theorem Mq {N ls}:HF N 172 [] ls=Aa N ls:=id rfl
theorem MR {N ls}:HF N 173 [] ls=AY N ls:=id rfl
def CG:=oS Xe NV HF
def Q8:List Nat:=[0,0,0,0,0,0,0,0,0,0,0,0,0,0,3,0,3,3,1,3,1,0,0,0,3,0,0,0,0]
def Hp (O:Alg) (x:Ags O):O.M:=(O.bind (O.call 251 [] (xr x kI 0)) fun c0=>(O.ite (O.iteB (O.lt (x.I 28) (O.q 0)) O.tt (O.lt (O.sub .i64 (O.llen (x.L 24)) (O.q 2)) (x.I 28))) (O.ret (ap O (cr O c0 kI 0) [.int (O.q 16)])) (O.ret (ap O (cr O c0 [0,0,0,0,0,0,0,0,0,0,0,0,0,0,3,0,3,3,1,3,1,0,0] 0) (ap O [.int (x.I 28)] (ap O (cr O c0 [3,0,0,0] 24) [.int (O.q 0)]))))))
def JN:Nat→Env:=eL [(251,CG)]
theorem PK {N ls}:JN N 251 [] ls=CG N ls:=id rfl
def E1:=oS Q8 Hp JN
def Sg:List Nat:=[0,0,0,0,0,0,0,0,0,0,0,0,0,0,3,0,3,3,1,3,1,0,0,0,3,0,0,0,0]
def JE (O:Alg) (x:Ags O):O.M:=(O.bind (O.call 251 [] (xr x kI 0)) fun c0=>(O.bind (O.call 252 [] (xr x [0,0,0,0,0,0,0,0,0,0,0,0,0,0,3,0,3,3,1,3,1,0,0,0,3,0,0,0,0] 0)) fun c1=>(O.ite (O.bnot (O.cB c1 0)) (O.ret (ap O (cr O c0 kI 0) [.int (O.q 3)])) (O.bind (O.call 253 [] (xr x [0,0,0,0,0,0,0,0,0,0,0,0,0,0,3,0,3,3,1,3,1,0,0,0,3,0,0,0,0] 0)) fun c2=>(O.ite (O.cB c2 0) (O.ret (ap O (cr O c0 kI 0) [.int (O.q 18)])) (O.ite (O.iteB (O.eqI (x.I 28) (x.I 15)) O.tt (O.eqI (x.I 28) (x.I 22))) (O.ret (ap O (cr O c0 kI 0) [.int (O.q 17)])) (O.ret (ap O (cr O c0 [0,0,0,0,0,0,0,0,0,0,0,0,0,0,3,0,3,3,1,3,1,0] 0) (ap O [.int (x.I 28)] (ap O (cr O c0 [0,3,0,0,0] 23) [.int (O.q 0)]))))))))))
def EA:Nat→Env:=eL [(251,CG),(252,Au),(253,Aq)]
theorem QK {N ls}:EA N 251 [] ls=CG N ls:=id rfl
theorem OT {N ls}:EA N 252 [] ls=Au N ls:=id rfl
theorem ML {N ls}:EA N 253 [] ls=Aq N ls:=id rfl
def GL:=oS Sg JE EA
def N5:List Nat:=[0,0,0,0,0,0,0,0,0,0,0,0,0,0,3,0,3,3,1,3,1,0,0,0,3,0,0,0,0,1]
def FD (O:Alg) (x:Ags O):O.M:=(O.bind (O.call 251 [] (xr x kI 0)) fun c0=>(O.bind (O.call 252 [] (xr x [0,0,0,0,0,0,0,0,0,0,0,0,0,0,3,0,3,3,1,3,1,0,0,0,3,0,0,0,0] 0)) fun c1=>(O.ite (O.bnot (O.cB c1 0)) (O.ret (ap O (cr O c0 kI 0) [.int (O.q 3)])) (O.bind (O.call 253 [] (xr x [0,0,0,0,0,0,0,0,0,0,0,0,0,0,3,0,3,3,1,3,1,0,0,0,3,0,0,0,0] 0)) fun c2=>(O.ite (O.beq (O.cB c2 0) (x.B 29)) (O.ret (ap O (cr O c0 kI 0) [.int (O.q 18)])) (O.assert (O.inb (O.sub .i64 (x.I 28) (O.q 1)) (O.llen (O.cL c0 24))) (O.bind (O.ite (O.iteB (x.B 29) (O.eqI (O.cI c0 22) (x.I 28)) O.ff) (O.ret (ap O (cr O c0 [0,0,0,0,0,0,0,0,0,0,0,0,0,0,3,0,3,3,1,3,1,0] 0) (ap O [.int (O.q 0),.int (O.cI c0 23),.rows (O.lset (O.cL c0 24) (O.sub .i64 (x.I 28) (O.q 1)) 0 [.bool (x.B 29)])] (cr O c0 [0,0,0] 25)))) (O.ret (ap O (cr O c0 [0,0,0,0,0,0,0,0,0,0,0,0,0,0,3,0,3,3,1,3,1,0,0,0] 0) (ap O [.rows (O.lset (O.cL c0 24) (O.sub .i64 (x.I 28) (O.q 1)) 0 [.bool (x.B 29)])] (cr O c0 [0,0,0] 25))))) fun c3=>(O.ite (O.iteB (x.B 29) (O.eqI (O.cI c3 15) (x.I 28)) O.ff) (O.ret (ap O (cr O c3 [0,0,0,0,0,0,0,0,0,0,0,0,0,0,3] 0) (ap O [.int (O.q 0)] (ap O (cr O c3 [3,3,1,3,1,0,0,0,3,0,0,0] 16) [.int (O.q 0)])))) (O.ret (ap O (cr O c3 kI 0) [.int (O.q 0)]))))))))))
def CZ:Nat→Env:=eL [(251,CG),(252,Au),(253,Aq)]
theorem NE {N ls}:CZ N 251 [] ls=CG N ls:=id rfl
theorem LW {N ls}:CZ N 252 [] ls=Au N ls:=id rfl
theorem Jo {N ls}:CZ N 253 [] ls=Aq N ls:=id rfl
def DD:=oS N5 FD CZ
def Rt:List Nat:=[2,0,0,0,0,0,0,0,1,0,0,0,0,3,0,0,0,0,0,0,0,0,0,0,0,0,0,0,3,0,3,3,1,3,1,0,0,0,3,0,0,0]
def Hi (O:Alg) (x:Ags O):O.M:=(O.bind (O.call 243 [] (xr x kI 14)) fun c0=>(O.bind (O.call 70 [] (xr x kR 0)) fun c1=>(O.ite (O.iteB (O.iteB (O.bnot (O.eqI (O.cI c1 0) (O.q 0))) O.tt (O.eqI (x.I 9) (O.q 0))) O.tt (O.lt (x.I 35) (O.mul .i64 (x.I 9) (x.I 4)))) (O.ret (ap O (cr O c0 kI 0) [.int (O.q 22)])) (O.ret (ap O (cr O c0 [0,0,0,0,0,0,0,0,0,0,0,0,0,0,3,0,3,3,1,3,1] 0) (ap O [.int (O.q 0)] (ap O (cr O c0 [0,0,3,0,0,0] 22) [.int (O.q 0)])))))))
def Fm:Nat→Env:=eL [(70,AP),(243,CA)]
theorem Nw {N ls}:Fm N 70 [] ls=AP N ls:=id rfl
theorem Pf {N ls}:Fm N 243 [] ls=CA N ls:=id rfl
def FQ:=oS Rt Hi Fm
def O8:List Nat:=[2,0,0,0,0,0,0,0,1,0,0,0,0,3,0,0,0,0,0,0,0,0,0,0,0,0,0,0,3,0,3,3,1,3,1,0,0,0,3,0,0,0,0,0,0,0,1,0,0,0,0,0,0,0,1,0,0,0,0,1,0]
def Fi (O:Alg) (x:Ags O):O.M:=(O.bind (O.call 147 [] (xr x kI 14)) fun c0=>(O.ite (O.bnot (O.eqI (x.I 43) (x.I 14))) (O.ret (ap O (cr O c0 kI 0) [.int (O.q 2)])) (O.ite (O.bnot (O.eqI (x.I 3) (O.q 0))) (O.ret (ap O (cr O c0 kI 0) [.int (O.q 20)])) (O.ret (ap O (cr O c0 [0,0,0,0,0,0,0,0,0,0,0,0,0,0,3,0,3,3,1,3,1,0,0,0,3,0,0] 0) [.int (O.lit .u8 4),.int (O.q 0)])))))
def HU:Nat→Env:=eL [(147,AO)]
theorem K0 {N ls}:HU N 147 [] ls=AO N ls:=id rfl
def Di:=oS O8 Fi HU
def Oz:List Nat:=[0,0,0,0,0,0,0,0,0,0,0,0,0,0,3,0,3,3,1,3,1,0,0,0,3,0,0,0]
def Fg (O:Alg) (x:Ags O):O.M:=(O.bind (O.call 147 [] (xr x kI 0)) fun c0=>(O.ret (ap O (cr O c0 [0,0,0] 0) (ap O [.int (O.add .i64 (O.cI c0 3) (O.q 5))] (ap O (cr O c0 [0,0,0,0,0] 4) (ap O [.int (O.add .i64 (O.cI c0 9) (O.q 5))] (cr O c0 [0,0,0,0,3,0,3,3,1,3,1,0,0,0,3,0,0,0] 10)))))))
def HV:Nat→Env:=eL [(147,AO)]
theorem Kw {N ls}:HV N 147 [] ls=AO N ls:=id rfl
def Bl:=oS Oz Fg HV
def O0:List Nat:=[0,0,0,0,0,0,0,0,0,0,0,0,0,0,3,0,3,3,1,3,1,0,0,0,3,0,0,0,0,0,0,0,1,0,0,0,0,0,0,0,1,0,0,0,0,1,0]
def Fn (O:Alg) (x:Ags O):O.M:=(O.bind (O.call 147 [] (xr x kI 0)) fun c0=>(O.ite (O.bnot (O.eqI (x.I 33) (O.q 5))) (O.ret (ap O (cr O c0 kI 0) [.int (O.q 23)])) (O.ite (O.eqI (x.I 29) (x.I 0)) (O.bind (O.call 191 [] (xr x kI 0)) fun c1=>(O.ret (ap O (cr O c1 kI 0) [.int (O.q 0)]))) (O.ite (O.lt (O.q 0) (O.cI c0 1)) (O.ret (ap O [.int (O.cI c0 0),.int (O.add .i64 (O.cI c0 1) (O.q 5))] (ap O (cr O c0 [0,0,0,0,0,0,0,0,0,0,0,0,3,0,3,3,1,3,1,0,0,0,3,0,0,0] 2) [.int (O.q 0)]))) (O.ret (ap O (cr O c0 kI 0) [.int (O.q 0)]))))))
def Ea:Nat→Env:=eL [(147,AO),(191,Bl)]
theorem K4 {N ls}:Ea N 147 [] ls=AO N ls:=id rfl
theorem Jq {N ls}:Ea N 191 [] ls=Bl N ls:=id rfl
def Db:=oS O0 Fn Ea
def QY:List Nat:=[2,0,0,0,0,0,0,0,1,0,0,0,0,3,0,0,0,0,0,0,0,0,0,0,0,0,0,0,3,0,3,3,1,3,1,0,0,0,3,0,0,0,0,0,0,0,1,0,0,0,0,0,0,0,1,0,0,0,0,1,0]
def EF (O:Alg) (x:Ags O):O.M:=(O.bind (O.call 147 [] (xr x kI 14)) fun c0=>(O.assert (O.bnot (O.band (O.bnot (O.bnot (x.B 32))) (O.bnot (O.inb (O.sub .i64 (x.I 43) (O.q 1)) (O.q 2))))) (O.ite (O.iteB (O.bnot (x.B 32)) O.tt (O.le (x.I 11) (O.iteI (O.eqI (O.sub .i64 (x.I 43) (O.q 1)) (O.q 1)) (x.I 40) (x.I 39)))) (O.ret (ap O (cr O c0 kI 0) [.int (O.q 24)])) (O.ite (O.bnot (x.B 46)) (O.assert (O.inb (O.sub .i64 (x.I 43) (O.q 1)) (O.q 2)) (O.assert (O.inb (O.sub .i64 (x.I 43) (O.q 1)) (O.q 2)) (O.ret (ap O (cr O c0 [0,0,0,0,0,0,0,0,0,0,0,0,0,0,3,0,3,3,1,3,1,0,0,0,3] 0) [.int (O.iteI (O.eqI (O.sub .i64 (x.I 43) (O.q 1)) (O.q 0)) (O.add .i64 (O.iteI (O.eqI (O.sub .i64 (x.I 43) (O.q 1)) (O.q 1)) (O.cI c0 26) (O.cI c0 25)) (O.q 1)) (O.cI c0 25)),.int (O.iteI (O.eqI (O.sub .i64 (x.I 43) (O.q 1)) (O.q 1)) (O.add .i64 (O.iteI (O.eqI (O.sub .i64 (x.I 43) (O.q 1)) (O.q 1)) (O.cI c0 26) (O.cI c0 25)) (O.q 1)) (O.cI c0 26)),.int (O.cI c0 27),.int (O.q 0)])))) (O.ret (ap O (cr O c0 kI 0) [.int (O.q 0)]))))))
def H7:Nat→Env:=eL [(147,AO)]
theorem FO {N ls}:H7 N 147 [] ls=AO N ls:=id rfl
def ED:=oS QY EF H7
def Ro:List Nat:=[2,0,0,0,0,0,0,0,1,0,0,0,0,3,0,0,0,0,0,0,0,0,0,0,0,0,0,0,3,0,3,3,1,3,1,0,0,0,3,0,0,0]
def Re (O:Alg) (x:Ags O):O.M:=(O.ret [.int (O.add .i64 (O.mul .i64 (x.I 24) (x.I 4)) (x.I 25))])
def Wx:Nat→Env:=eL []
def FJ:=oS Ro Re Wx
def Qb:List Nat:=[2,0,0,0,0,0,0,0,1,0,0,0,0,3,0,0,0,0,0,0,0,0,0,0,0,0,0,0,3,0,3,3,1,3,1,0,0,0,3,0,0,0,0,0,0,0,1,0,0,0,0,0,0,0,1,0,0,0,0,1,0]
def Gh (O:Alg) (x:Ags O):O.M:=(O.bind (O.call 147 [] (xr x kI 14)) fun c0=>(O.ite (O.iteB (O.eqI (x.I 3) (O.q 0)) O.tt (O.iteB (O.eqI (x.I 47) (O.q 0)) (O.eqI (x.I 48) (O.q 0)) O.ff)) (O.ret (ap O (cr O c0 kI 0) [.int (O.q 25)])) (O.ite (O.iteB (O.lt (O.q 0) (x.I 47)) (O.iteB (O.eqI (x.I 15) (O.q 0)) O.tt (O.le (x.I 47) (x.I 17))) O.ff) (O.ret (ap O (cr O c0 kI 0) [.int (O.q 25)])) (O.bind (O.ite (O.band (O.lt (O.q 0) (x.I 48)) (O.bnot (O.lt (x.I 3) (x.I 48)))) (O.call 254 [] (xr x [2,0,0,0,0,0,0,0,1,0,0,0,0,3,0,0,0,0,0,0,0,0,0,0,0,0,0,0,3,0,3,3,1,3,1,0,0,0,3,0,0,0] 0)) (O.ret [.int (O.q 0)])) fun c1=>(O.ite (O.iteB (O.lt (O.q 0) (x.I 48)) (O.iteB (O.lt (x.I 3) (x.I 48)) O.tt (O.lt (O.mul .i64 (x.I 48) (x.I 4)) (O.cI c1 0))) O.ff) (O.ret (ap O (cr O c0 kI 0) [.int (O.q 25)])) (O.bind (O.ite (O.lt (O.q 0) (x.I 47)) (O.ret (ap O [.int (O.cI c0 0),.int (x.I 47)] (cr O c0 [0,0,0,0,0,0,0,0,0,0,0,0,3,0,3,3,1,3,1,0,0,0,3,0,0,0] 2))) (O.ret (cr O c0 kI 0))) fun c2=>(O.ite (O.lt (O.q 0) (x.I 48)) (O.ret (ap O [.int (O.cI c2 0),.int (O.cI c2 1),.int (x.I 48)] (ap O (cr O c2 [0,0,0,0,0,0,0,0,0,0,0,3,0,3,3,1,3,1,0,0,0,3,0,0,0] 3) [.int (O.q 0)]))) (O.ret (ap O (cr O c2 kI 0) [.int (O.q 0)])))))))))
def E7:Nat→Env:=eL [(147,AO),(254,FJ)]
theorem Lg {N ls}:E7 N 147 [] ls=AO N ls:=id rfl
theorem Lh {N ls}:E7 N 254 [] ls=FJ N ls:=id rfl
def EL:=oS Qb Gh E7
def Ov:List Nat:=[2,0,0,0,0,0,0,0,1,0,0,0,0,3,0,0,0,0,0,0,0,0,0,0,0,0,0,0,3,0,3,3,1,3,1,0,0,0,3,0,0,0,0,0,0,0,1,0,0,0,0,0,0,0,1,0,0,0,0,1,0]
def Ds (O:Alg) (x:Ags O):O.M:=(O.ite (O.eqI (x.I 42) (O.lit .u8 2)) (O.bind (O.call 210 [] (ap O (xr x kI 14) [.int (x.I 44),.int (x.I 45)])) fun c0=>(O.ret (cr O c0 [0,0,0,0,0,0,0,0,0,0,0,0,0,0,3,0,3,3,1,3,1,0,0,0,3,0,0,0,0] 0))) (O.ite (O.eqI (x.I 42) (O.lit .u8 3)) (O.bind (O.call 211 [] (ap O (xr x [2,0,0,0,0,0,0,0,1,0,0,0,0,3,0,0,0,0,0,0,0,0,0,0,0,0,0,0,3,0,3,3,1,3,1,0,0,0,3,0,0,0] 0) [.int (x.I 44)])) fun c0=>(O.ret (cr O c0 [0,0,0,0,0,0,0,0,0,0,0,0,0,0,3,0,3,3,1,3,1,0,0,0,3,0,0,0,0] 0))) (O.ite (O.eqI (x.I 42) (O.lit .u8 4)) (O.bind (O.call 212 [] (ap O (xr x [2,0,0,0,0,0,0,0,1,0,0,0,0,3,0,0,0,0,0,0,0,0,0,0,0,0,0,0,3,0,3,3,1,3,1,0,0,0,3,0,0,0] 0) (xr x [0,0,0,0,0,1,0,0,0,0,1,0] 49))) fun c0=>(O.ret (cr O c0 [0,0,0,0,0,0,0,0,0,0,0,0,0,0,3,0,3,3,1,3,1,0,0,0,3,0,0,0,0] 0))) (O.ite (O.eqI (x.I 42) (O.lit .u8 5)) (O.ite (x.B 46) (O.bind (O.call 213 [] (ap O (xr x kI 14) [.int (x.I 44)])) fun c0=>(O.ret (cr O c0 [0,0,0,0,0,0,0,0,0,0,0,0,0,0,3,0,3,3,1,3,1,0,0,0,3,0,0,0,0] 0))) (O.bind (O.call 214 [] (ap O (xr x kI 14) [.int (x.I 44)])) fun c0=>(O.ret (cr O c0 [0,0,0,0,0,0,0,0,0,0,0,0,0,0,3,0,3,3,1,3,1,0,0,0,3,0,0,0,0] 0)))) (O.ite (O.eqI (x.I 42) (O.lit .u8 6)) (O.bind (O.call 215 [] (ap O (xr x kI 14) [.int (x.I 44),.bool (x.B 46)])) fun c0=>(O.ret (cr O c0 [0,0,0,0,0,0,0,0,0,0,0,0,0,0,3,0,3,3,1,3,1,0,0,0,3,0,0,0,0] 0))) (O.ite (O.eqI (x.I 42) (O.lit .u8 7)) (O.bind (O.call 216 [] (ap O (xr x kI 14) [.int (x.I 47)])) fun c0=>(O.ret (cr O c0 [0,0,0,0,0,0,0,0,0,0,0,0,0,0,3,0,3,3,1,3,1,0,0,0,3,0,0,0,0] 0))) (O.ite (O.eqI (x.I 42) (O.lit .u8 8)) (O.bind (O.call 217 [] (ap O (xr x kI 14) [.int (x.I 44)])) fun c0=>(O.ret (cr O c0 [0,0,0,0,0,0,0,0,0,0,0,0,0,0,3,0,3,3,1,3,1,0,0,0,3,0,0,0,0] 0))) (O.ite (O.eqI (x.I 42) (O.lit .u8 9)) (O.bind (O.call 218 [] (ap O (xr x kI 14) [.int (x.I 44),.bool (x.B 46)])) fun c0=>(O.ret (cr O c0 [0,0,0,0,0,0,0,0,0,0,0,0,0,0,3,0,3,3,1,3,1,0,0,0,3,0,0,0,0] 0))) (O.ite (O.eqI (x.I 42) (O.lit .u8 10)) (O.bind (O.call 219 [] (xr x [2,0,0,0,0,0,0,0,1,0,0,0,0,3,0,0,0,0,0,0,0,0,0,0,0,0,0,0,3,0,3,3,1,3,1,0,0,0,3,0,0,0] 0)) fun c0=>(O.ret (cr O c0 [0,0,0,0,0,0,0,0,0,0,0,0,0,0,3,0,3,3,1,3,1,0,0,0,3,0,0,0,0] 0))) (O.ite (O.eqI (x.I 42) (O.lit .u8 11)) (O.bind (O.call 220 [] (xr x [2,0,0,0,0,0,0,0,1,0,0,0,0,3,0,0,0,0,0,0,0,0,0,0,0,0,0,0,3,0,3,3,1,3,1,0,0,0,3,0,0,0,0,0,0,0,1,0,0,0,0,0,0,0,1,0,0,0,0,1,0] 0)) fun c0=>(O.ret (cr O c0 [0,0,0,0,0,0,0,0,0,0,0,0,0,0,3,0,3,3,1,3,1,0,0,0,3,0,0,0,0] 0))) (O.ite (O.eqI (x.I 42) (O.lit .u8 13)) (O.bind (O.call 221 [] (xr x [0,0,0,0,0,0,0,0,0,0,0,0,0,0,3,0,3,3,1,3,1,0,0,0,3,0,0,0,0,0,0,0,1,0,0,0,0,0,0,0,1,0,0,0,0,1,0] 14)) fun c0=>(O.ret (cr O c0 [0,0,0,0,0,0,0,0,0,0,0,0,0,0,3,0,3,3,1,3,1,0,0,0,3,0,0,0,0] 0))) (O.ite (O.eqI (x.I 42) (O.lit .u8 14)) (O.bind (O.call 222 [] (xr x [2,0,0,0,0,0,0,0,1,0,0,0,0,3,0,0,0,0,0,0,0,0,0,0,0,0,0,0,3,0,3,3,1,3,1,0,0,0,3,0,0,0,0,0,0,0,1,0,0,0,0,0,0,0,1,0,0,0,0,1,0] 0)) fun c0=>(O.ret (cr O c0 [0,0,0,0,0,0,0,0,0,0,0,0,0,0,3,0,3,3,1,3,1,0,0,0,3,0,0,0,0] 0))) (O.bind (O.call 223 [] (xr x [2,0,0,0,0,0,0,0,1,0,0,0,0,3,0,0,0,0,0,0,0,0,0,0,0,0,0,0,3,0,3,3,1,3,1,0,0,0,3,0,0,0,0,0,0,0,1,0,0,0,0,0,0,0,1,0,0,0,0,1,0] 0)) fun c0=>(O.ret (cr O c0 [0,0,0,0,0,0,0,0,0,0,0,0,0,0,3,0,3,3,1,3,1,0,0,0,3,0,0,0,0] 0)))))))))))))))
def Ab:Nat→Env:=eL [(210,G4),(211,H1),(212,F7),(213,EM),(214,Fx),(215,Ez),(216,E1),(217,GL),(218,DD),(219,FQ),(220,Di),(221,Db),(222,ED),(223,EL)]
theorem Fa {N ls}:Ab N 210 [] ls=G4 N ls:=id rfl
theorem Fu {N ls}:Ab N 211 [] ls=H1 N ls:=id rfl
theorem FK {N ls}:Ab N 212 [] ls=F7 N ls:=id rfl
theorem EP {N ls}:Ab N 213 [] ls=EM N ls:=id rfl
theorem E8 {N ls}:Ab N 214 [] ls=Fx N ls:=id rfl
theorem Ei {N ls}:Ab N 215 [] ls=Ez N ls:=id rfl
theorem El {N ls}:Ab N 216 [] ls=E1 N ls:=id rfl
theorem FL {N ls}:Ab N 217 [] ls=GL N ls:=id rfl
theorem Dt {N ls}:Ab N 218 [] ls=DD N ls:=id rfl
theorem Ej {N ls}:Ab N 219 [] ls=FQ N ls:=id rfl
theorem D0 {N ls}:Ab N 220 [] ls=Di N ls:=id rfl
theorem D3 {N ls}:Ab N 221 [] ls=Db N ls:=id rfl
theorem EC {N ls}:Ab N 222 [] ls=ED N ls:=id rfl
theorem ET {N ls}:Ab N 223 [] ls=EL N ls:=id rfl
def Dd:=oS Ov Ds Ab
def QL:List Nat:=[2,0,0,0,0,0,0,0,1,0,0,0,0,3,0,0,0,0,0,0,0,0,0,0,0,0,0,0,3,0,3,3,1,3,1,0,0,0,3,0,0,0]
def Gj (O:Alg) (x:Ags O):O.M:=(O.bind (O.call 140 [] (xr x [2,0,0,0,0,0,0,0,1,0,0,0,0,3,0,0,0,0,0,0,0,0,0,0,0,0,0,0,3,0,3,3,1,3,1,0,0,0,3,0,0,0] 0)) fun c0=>(O.ite (O.bnot (O.cB c0 0)) (O.ret [.int (O.lit .u8 0)]) (O.ite (O.iteB (O.lt (O.q 0) (x.I 15)) (O.le (x.I 15) (x.I 17)) O.ff) (O.ret [.int (O.lit .u8 3)]) (O.bind (O.call 224 [] (xr x kI 14)) fun c1=>(O.bind (O.ite (O.cB c1 0) (O.call 225 [] (xr x kI 14)) (O.ret [.rows O.lnil])) fun c2=>(O.ite (O.iteB (O.cB c1 0) (O.eqI (O.llen (O.cL c2 0)) (O.q 0)) O.ff) (O.ret [.int (O.lit .u8 1)]) (O.ite (O.iteB (O.lt (O.q 0) (x.I 16)) (O.le (x.I 16) (x.I 24)) O.ff) (O.ret [.int (O.lit .u8 2)]) (O.ret [.int (O.lit .u8 0)]))))))))
def DF:Nat→Env:=eL [(140,A9),(224,BA),(225,CH)]
def Cz:=oS QL Gj DF
def TC:List Nat:=[2,0,0,0,0,0,0,0,1,0,0,0,0,3,0,0,0,0,0,0,0,0,0,0,0,0,0,0,3,0,3,3,1,3,1,0,0,0,3,0,0,0,0,0,0,0,1,0,0,0,0,0,0,0,1,0,0,0,0,1,0]
def JF (O:Alg) (x:Ags O):O.M:=(O.bind (O.call 140 [] (xr x [2,0,0,0,0,0,0,0,1,0,0,0,0,3,0,0,0,0,0,0,0,0,0,0,0,0,0,0,3,0,3,3,1,3,1,0,0,0,3,0,0,0] 0)) fun c0=>(O.bind (O.ite (O.bnot (O.bnot (O.cB c0 0))) (O.call 118 [] (xr x [0,0,0,0,1,0,0,0,0,0,0,0,1,0,0,0,0,1,0] 42)) (O.ret [.int (O.q 0)])) fun c1=>(O.ite (O.iteB (O.bnot (O.cB c0 0)) O.tt (O.bnot (O.eqI (O.cI c1 0) (O.q 0)))) (O.bind (O.call 147 [] (xr x kI 14)) fun c2=>(O.ret (ap O (cr O c2 kI 0) [.int (O.q 1)]))) (O.ite (O.bnot (O.eqI (x.I 41) (O.lit .u8 0))) (O.bind (O.call 147 [] (xr x kI 14)) fun c2=>(O.ret (ap O (cr O c2 kI 0) [.int (O.q 26)]))) (O.bind (O.ite (O.bnot (O.iteB (O.iteB (O.eqI (x.I 42) (O.lit .u8 1)) O.tt (O.eqI (x.I 42) (O.lit .u8 12))) O.tt (O.eqI (x.I 42) (O.lit .u8 16)))) (O.call 188 [] (xr x kI 14)) (O.ret [.bool O.ff])) fun c2=>(O.ite (O.iteB (O.iteB (O.iteB (O.eqI (x.I 42) (O.lit .u8 1)) O.tt (O.eqI (x.I 42) (O.lit .u8 12))) O.tt (O.eqI (x.I 42) (O.lit .u8 16))) O.tt (O.iteB (O.bnot (O.cB c2 0)) (O.bnot (O.eqI (x.I 42) (O.lit .u8 2))) O.ff)) (O.bind (O.call 147 [] (xr x kI 14)) fun c3=>(O.ret (ap O (cr O c3 kI 0) [.int (O.q 1)]))) (O.bind (O.call 189 [] (xr x [2,0,0,0,0,0,0,0,1,0,0,0,0,3,0,0,0,0,0,0,0,0,0,0,0,0,0,0,3,0,3,3,1,3,1,0,0,0,3,0,0,0,0,0,0,0,1,0,0,0,0,0,0,0,1,0,0,0,0,1,0] 0)) fun c3=>(O.ite (O.bnot (O.eqI (O.cI c3 28) (O.q 0))) (O.bind (O.call 147 [] (xr x kI 14)) fun c4=>(O.ret (ap O (cr O c4 kI 0) [.int (O.cI c3 28)]))) (O.ite (O.eqI (O.cI c3 27) (O.lit .u8 0)) (O.bind (O.call 190 [] (ap O (xr x kR 0) (ap O (cr O c3 [0,0,0,0,0,0,0,0,0,0,0,0,0,0,3,0,3,3] 0) (ap O [.bool (O.eqI (x.I 42) (O.lit .u8 4))] (cr O c3 [3,1,0,0,0,3,0,0,0] 19))))) fun c4=>(O.ret (ap O (cr O c3 [0,0,0,0,0,0,0,0,0,0,0,0,0,0,3,0,3,3] 0) (ap O [.bool (O.eqI (x.I 42) (O.lit .u8 4))] (ap O (cr O c3 [3,1,0,0,0,3,0,0] 19) [.int (O.cI c4 0),.int (O.q 0)]))))) (O.ret (ap O (cr O c3 [0,0,0,0,0,0,0,0,0,0,0,0,0,0,3,0,3,3] 0) (ap O [.bool (O.eqI (x.I 42) (O.lit .u8 4))] (ap O (cr O c3 [3,1,0,0,0,3,0,0,0] 19) [.int (O.q 0)])))))))))))))
def Bs:Nat→Env:=eL [(118,Ch),(140,A9),(147,AO),(188,FI),(189,Dd),(190,Cz)]
theorem OJ {N ls}:Bs N 118 [] ls=Ch N ls:=id rfl
theorem NG {N ls}:Bs N 140 [] ls=A9 N ls:=id rfl
theorem Mw {N ls}:Bs N 147 [] ls=AO N ls:=id rfl
theorem NJ {N ls}:Bs N 188 [] ls=FI N ls:=id rfl
theorem E2 {N ls}:Bs N 189 [] ls=Dd N ls:=id rfl
theorem FZ {N ls}:Bs N 190 [] ls=Cz N ls:=id rfl
def F9:=oS TC JF Bs
def WP:List Nat:=[2,0,0,0,0,0,0,0,1,0,0,0,0,3,0,0,1,3,0,0,0,0,0,0,0,0,0,1,0,0,0,0,0,0,0,1,0,0,0,0,1,0]
def L9 (O:Alg) (x:Ags O):O.M:=(O.bind (O.call 117 [] (xr x kM 0)) fun c0=>(O.bind (O.ite (O.bnot (O.bnot (O.cB c0 0))) (O.call 118 [] (xr x [0,0,0,0,1,0,0,0,0,0,0,0,1,0,0,0,0,1,0] 23)) (O.ret [.int (O.q 0)])) fun c1=>(O.ite (O.iteB (O.bnot (O.cB c0 0)) O.tt (O.bnot (O.eqI (O.cI c1 0) (O.q 0)))) (O.bind (O.call 119 [] (xr x kM 0)) fun c2=>(O.ret (ap O (cr O c2 kM 0) [.int (O.q 1)]))) (O.ite (O.eqI (x.I 14) (O.lit .u8 5)) (O.bind (O.call 119 [] (xr x kM 0)) fun c2=>(O.ret (ap O (cr O c2 kM 0) [.int (O.q 26)]))) (O.bind (O.call 119 [] (xr x kM 0)) fun c2=>(O.bind (O.ite (O.eqI (x.I 23) (O.lit .u8 1)) (O.ite (O.bnot (O.eqI (O.cI c2 14) (O.lit .u8 1))) (O.ret (ap O [.int (O.q 1)] (cr O c2 kM 0))) (O.bind (O.call 148 [] [.int (x.I 24)]) fun c3=>(O.ite (x.B 27) (O.ret (ap O [.int (O.q 0)] (ap O (cr O c2 kR 0) (ap O [.int (O.lit .u8 2),.int (x.I 24)] (cr O c2 [1,3,0,0,0,0,0] 16))))) (O.ret (ap O [.int (O.q 0)] (ap O (cr O c2 kR 0) (ap O [.int (O.lit .u8 2),.int (O.cI c3 0)] (cr O c2 [1,3,0,0,0,0,0] 16)))))))) (O.ite (O.eqI (x.I 23) (O.lit .u8 2)) (O.bind (O.ite (O.bnot (O.eqI (O.cI c2 14) (O.lit .u8 2))) (O.ret (ap O [.int (O.q 1)] (cr O c2 kM 0))) (O.bind (O.call 141 [] (ap O (cr O c2 kM 0) [.int (O.llen (O.cL c2 17))])) fun c3=>(O.bind (O.call 175 [] (ap O (cr O c2 kM 0) [.int (O.cI c3 0)])) fun c4=>(O.assert (O.inb (O.sub .i64 (O.cI c3 0) (O.q 1)) (O.q 2)) (O.bind (O.call 174 [] (ap O (cr O c2 kR 0) [.int (O.cI c3 0),.int (O.cI c4 0),.int (O.iteI (O.eqI (O.sub .i64 (O.cI c3 0) (O.q 1)) (O.q 1)) (O.cI c2 19) (O.cI c2 18))])) fun c5=>(O.ite (O.bnot (O.eqI (O.cI c5 28) (O.q 0))) (O.ret (ap O [.int (O.q 1)] (cr O c2 kM 0))) (O.bind (O.call 176 [] (ap O (cr O c2 kR 0) (ap O (cr O c5 kI 0) (xr x [0,0,0,0,1,0,0,0,0,0,0,0,1,0,0,0,0,1,0] 23)))) fun c6=>(O.ite (O.bnot (O.eqI (O.cI c6 28) (O.q 0))) (O.ret (ap O [.int (O.cI c6 28)] (cr O c2 kM 0))) (O.assert (O.inb (O.sub .i64 (O.cI c3 0) (O.q 1)) (O.q 2)) (O.assert (O.small (O.llen (O.lapp (O.cL c2 17) (O.llit [(cr O c6 kI 0)]))) 304) (O.ret (ap O [.int (O.q 0)] (ap O (cr O c2 kR 0) (ap O [.int (O.lit .u8 3),.int (O.cI c2 15),.bool (O.cB c2 16),.rows (O.lapp (O.cL c2 17) (O.llit [(cr O c6 kI 0)])),.int (O.iteI (O.eqI (O.sub .i64 (O.cI c3 0) (O.q 1)) (O.q 0)) (O.q 0) (O.cI c2 18)),.int (O.iteI (O.eqI (O.sub .i64 (O.cI c3 0) (O.q 1)) (O.q 1)) (O.q 0) (O.cI c2 19))] (cr O c2 [0,0,0] 20))))))))))))))) fun c3=>(O.ret (cr O c3 [0,2,0,0,0,0,0,0,0,1,0,0,0,0,3,0,0,1,3,0,0,0,0,0] 0))) (O.ite (O.eqI (x.I 23) (O.lit .u8 12)) (O.ite (O.bnot (O.eqI (O.cI c2 14) (O.lit .u8 4))) (O.ret (ap O [.int (O.q 1)] (cr O c2 kM 0))) (O.ite (O.bnot (O.eqI (x.I 24) (O.cI c2 15))) (O.ret (ap O [.int (O.q 2)] (cr O c2 kM 0))) (O.ret (ap O [.int (O.q 0)] (ap O (cr O c2 kR 0) (ap O [.int (O.lit .u8 2),.int (O.cI c2 15),.bool (x.B 27)] (cr O c2 [3,0,0,0,0,0] 17))))))) (O.ite (O.eqI (x.I 23) (O.lit .u8 16)) (O.bind (O.ite (O.eqI (O.cI c2 14) (O.lit .u8 3)) (O.assert (O.inb (O.sub .i64 (O.llen (O.cL c2 17)) (O.q 1)) (O.llen (O.cL c2 17))) (O.ret (ap O (cr O c2 [2,0,0,0,0,0,0,0,1,0,0,0,0,3,0,0,1] 0) (ap O [.rows (O.lset (O.cL c2 17) (O.sub .i64 (O.llen (O.cL c2 17)) (O.q 1)) 27 [.int (O.lit .u8 5)])] (cr O c2 [0,0,0,0,0] 18))))) (O.ret (cr O c2 kM 0))) fun c3=>(O.bind (O.call 177 [] (cr O c3 kR 0)) fun c4=>(O.ret (ap O [.int (O.q 0)] (ap O (cr O c3 kR 0) (ap O [.int (O.lit .u8 5)] (ap O (cr O c3 [0,1,3,0,0] 15) [.int (O.cI c4 0),.int (O.q 0),.int (O.q 0)]))))))) (O.bind (O.ite (O.bnot (O.eqI (O.cI c2 14) (O.lit .u8 3))) (O.ret (ap O [.int (O.q 1)] (cr O c2 kM 0))) (O.assert (O.inb (O.sub .i64 (O.llen (O.cL c2 17)) (O.q 1)) (O.llen (O.cL c2 17))) (O.bind (O.call 176 [] (ap O (cr O c2 kR 0) (ap O (rr O (O.cL c2 17) (O.sub .i64 (O.llen (O.cL c2 17)) (O.q 1)) kI 0) (xr x [0,0,0,0,1,0,0,0,0,0,0,0,1,0,0,0,0,1,0] 23)))) fun c3=>(O.ite (O.bnot (O.eqI (O.cI c3 28) (O.q 0))) (O.ret (ap O [.int (O.cI c3 28)] (cr O c2 kM 0))) (O.assert (O.inb (O.sub .i64 (O.llen (O.cL c2 17)) (O.q 1)) (O.llen (O.cL c2 17))) (O.ite (O.iteB (O.eqI (x.I 23) (O.lit .u8 13)) (O.bnot (O.eqI (x.I 24) (O.cI c3 0))) O.ff) (O.bind (O.bind (O.fix (fun s4 c4=>(O.ite (O.le (O.q 0) (O.cI c4 0)) (O.assert (O.inb (O.cI c4 0) (O.llen (O.lset (O.cL c2 17) (O.sub .i64 (O.llen (O.cL c2 17)) (O.q 1)) 0 (cr O c3 kI 0)))) (O.ite (O.eqI (O.rI (O.lset (O.cL c2 17) (O.sub .i64 (O.llen (O.cL c2 17)) (O.q 1)) 0 (cr O c3 kI 0)) (O.cI c4 0) 0) (x.I 24)) (O.assert (O.inb (O.cI c4 0) (O.llen (O.lset (O.cL c2 17) (O.sub .i64 (O.llen (O.cL c2 17)) (O.q 1)) 0 (cr O c3 kI 0)))) (O.bind (O.call 191 [] (rr O (O.lset (O.cL c2 17) (O.sub .i64 (O.llen (O.cL c2 17)) (O.q 1)) 0 (cr O c3 kI 0)) (O.cI c4 0) kI 0)) fun c5=>(O.assert (O.inb (O.cI c4 0) (O.llen (O.lset (O.cL c2 17) (O.sub .i64 (O.llen (O.cL c2 17)) (O.q 1)) 0 (cr O c3 kI 0)))) (O.ret (ap O [.int (O.q 0)] (ap O (cr O c2 [2,0,0,0,0,0,0,0,1,0,0,0,0,3,0,0,1] 0) (ap O [.rows (O.lset (O.lset (O.cL c2 17) (O.sub .i64 (O.llen (O.cL c2 17)) (O.q 1)) 0 (cr O c3 kI 0)) (O.cI c4 0) 0 (cr O c5 kI 0))] (cr O c2 [0,0,0,0,0] 18)))))))) (s4 [.int (O.sub .i64 (O.cI c4 0) (O.q 1))]))) (O.ret [.int (O.q 1)]))) [.int (O.sub .i64 (O.llen (O.lset (O.cL c2 17) (O.sub .i64 (O.llen (O.cL c2 17)) (O.q 1)) 0 (cr O c3 kI 0))) (O.q 1))]) fun c4=>(O.ite (O.isTag c4 0) (O.ret (cr O c4 kM 1)) (O.assert (O.inb (O.sub .i64 (x.I 24) (O.q 1)) (O.q 2)) (O.assert (O.inb (O.sub .i64 (x.I 24) (O.q 1)) (O.q 2)) (O.ret (ap O (cr O c2 [2,0,0,0,0,0,0,0,1,0,0,0,0,3,0,0,1] 0) (ap O [.rows (O.lset (O.cL c2 17) (O.sub .i64 (O.llen (O.cL c2 17)) (O.q 1)) 0 (cr O c3 kI 0)),.int (O.iteI (O.eqI (O.sub .i64 (x.I 24) (O.q 1)) (O.q 0)) (O.add .i64 (O.iteI (O.eqI (O.sub .i64 (x.I 24) (O.q 1)) (O.q 1)) (O.cI c2 19) (O.cI c2 18)) (O.q 5)) (O.cI c2 18)),.int (O.iteI (O.eqI (O.sub .i64 (x.I 24) (O.q 1)) (O.q 1)) (O.add .i64 (O.iteI (O.eqI (O.sub .i64 (x.I 24) (O.q 1)) (O.q 1)) (O.cI c2 19) (O.cI c2 18)) (O.q 5)) (O.cI c2 19))] (cr O c2 [0,0,0] 20)))))))) fun c4=>(O.ret (ap O [.int (O.q 0)] (cr O c4 kM 0)))) (O.ret (ap O [.int (O.q 0)] (ap O (cr O c2 [2,0,0,0,0,0,0,0,1,0,0,0,0,3,0,0,1] 0) (ap O [.rows (O.lset (O.cL c2 17) (O.sub .i64 (O.llen (O.cL c2 17)) (O.q 1)) 0 (cr O c3 kI 0))] (cr O c2 [0,0,0,0,0] 18))))))))))) fun c3=>(O.ret (cr O c3 [0,2,0,0,0,0,0,0,0,1,0,0,0,0,3,0,0,1,3,0,0,0,0,0] 0))))))) fun c3=>(O.ite (O.bnot (O.eqI (O.cI c3 0) (O.q 0))) (O.bind (O.call 119 [] (xr x kM 0)) fun c4=>(O.ret (ap O (cr O c4 kM 0) [.int (O.cI c3 0)]))) (O.bind (O.assert (O.bnot (O.band (O.bnot (O.bnot (O.eqI (O.cI c3 15) (O.lit .u8 3)))) (O.bnot (O.inb (O.sub .i64 (O.llen (O.cL c3 18)) (O.q 1)) (O.llen (O.cL c3 18)))))) (O.ite (O.iteB (O.bnot (O.eqI (O.cI c3 15) (O.lit .u8 3))) O.tt (O.eqI (O.rI (O.cL c3 18) (O.sub .i64 (O.llen (O.cL c3 18)) (O.q 1)) 27) (O.lit .u8 0))) (O.ret (cr O c3 kM 1)) (O.assert (O.inb (O.sub .i64 (O.llen (O.cL c3 18)) (O.q 1)) (O.llen (O.cL c3 18))) (O.bind (O.call 152 [] (ap O (cr O c3 kM 1) [.int (O.cI c3 16)])) fun c4=>(O.bind (O.call 148 [] [.int (O.cI c3 16)]) fun c5=>(O.bind (O.call 152 [] (ap O (cr O c3 kM 1) [.int (O.cI c5 0)])) fun c6=>(O.bind (O.ite (O.eqI (O.llen (O.cL c3 18)) (O.mul .i64 (O.q 2) (O.cI c3 3))) (O.ret [.bool (O.eqI (O.llen (O.cL c3 18)) (O.mul .i64 (O.q 2) (O.cI c3 3)))]) (O.bind (O.ite (O.eqI (O.llen (O.cL c3 18)) (O.q 3)) (O.call 152 [] (ap O (cr O c3 kR 1) (ap O [.int (O.lit .u8 2)] (ap O (cr O c3 [0,1,3,0,0,0,0,0] 16) [.int (O.rI (O.cL c3 18) (O.sub .i64 (O.llen (O.cL c3 18)) (O.q 1)) 0)])))) (O.ret [.int (O.q 0)])) fun c7=>(O.bind (O.ite (O.eqI (O.llen (O.cL c3 18)) (O.q 3)) (O.call 148 [] [.int (O.rI (O.cL c3 18) (O.sub .i64 (O.llen (O.cL c3 18)) (O.q 1)) 0)]) (O.ret [.int (O.q 0)])) fun c8=>(O.bind (O.ite (O.eqI (O.llen (O.cL c3 18)) (O.q 3)) (O.call 152 [] (ap O (cr O c3 kR 1) (ap O [.int (O.lit .u8 2)] (ap O (cr O c3 [0,1,3,0,0,0,0,0] 16) [.int (O.cI c8 0)])))) (O.ret [.int (O.q 0)])) fun c9=>(O.ret [.bool (O.iteB (O.eqI (O.llen (O.cL c3 18)) (O.q 3)) (O.lt (O.cI c7 0) (O.cI c9 0)) O.ff)]))))) fun c7=>(O.ite (O.cB c7 0) (O.bind (O.call 153 [] (ap O (cr O c3 kR 1) (ap O [.int (O.lit .u8 5)] (cr O c3 [0,1,3,0,0,0,0,0] 16)))) fun c8=>(O.ret (ap O (cr O c3 kR 1) (ap O [.int (O.lit .u8 5)] (ap O (cr O c3 [0,1,3,0,0] 16) (cr O c8 [0,0,0] 0)))))) (O.ite (O.iteB (O.iteB (O.eqI (O.llen (O.cL c3 18)) (O.q 2)) (O.lt (O.q 0) (O.cI c3 11)) O.ff) (O.le (O.cI c3 11) (O.sub .i64 (O.cI c4 0) (O.cI c6 0))) O.ff) (O.ret (ap O (cr O c3 kR 1) (ap O [.int (O.lit .u8 4)] (cr O c3 [0,1,3,0,0,0,0,0] 16)))) (O.ret (ap O (cr O c3 kR 1) (ap O [.int (O.lit .u8 2)] (cr O c3 [0,1,3,0,0,0,0,0] 16))))))))))))) fun c4=>(O.ret (ap O (cr O c4 kM 0) [.int (O.q 0)]))))))))))
def A0:Nat→Env:=eL [(117,Cj),(118,Ch),(119,Gz),(141,Cf),(148,BC),(152,Bd),(153,FE),(174,FP),(175,GM),(176,F9),(177,BW),(191,Bl)]
theorem QZ {N ls}:A0 N 117 [] ls=Cj N ls:=id rfl
theorem Qr {N ls}:A0 N 118 [] ls=Ch N ls:=id rfl
theorem QV {N ls}:A0 N 119 [] ls=Gz N ls:=id rfl
theorem EJ {N ls}:A0 N 141 [] ls=Cf N ls:=id rfl
theorem D9 {N ls}:A0 N 148 [] ls=BC N ls:=id rfl
theorem IZ {N ls}:A0 N 152 [] ls=Bd N ls:=id rfl
theorem HA {N ls}:A0 N 153 [] ls=FE N ls:=id rfl
theorem Da {N ls}:A0 N 174 [] ls=FP N ls:=id rfl
theorem Dw {N ls}:A0 N 175 [] ls=GM N ls:=id rfl
theorem CT {N ls}:A0 N 176 [] ls=F9 N ls:=id rfl
theorem Cl {N ls}:A0 N 177 [] ls=BW N ls:=id rfl
theorem Ft {N ls}:A0 N 191 [] ls=Bl N ls:=id rfl
def MK:=oS WP L9 A0
def Ta:List Nat:=[2,0,0,0,0,0,0,0,1,0,0,0,0,3,0,0,1,3,0,0,0,0,0,0,0,0,0,0,1,0,0,0,0,0,0,0,1,0,0,0,0,1,0]
def LR (O:Alg) (x:Ags O):O.M:=(O.ite (O.le (O.q 4000) (x.I 23)) (O.ret (ap O (xr x kM 0) [.int (O.q 26)])) (O.bind (O.call 96 [] (ap O (xr x kM 0) (xr x [0,0,0,0,1,0,0,0,0,0,0,0,1,0,0,0,0,1,0] 24))) fun c0=>(O.ret (cr O c0 [2,0,0,0,0,0,0,0,1,0,0,0,0,3,0,0,1,3,0,0,0,0,0,0] 0))))
def F4 (N:Nat):Env:=fun f fns ls=>(cond (Nat.beq f 96&&Ah fns []) (MK N ls) none)
theorem TD {N ls}:F4 N 96 [] ls=MK N ls:=id rfl
def Lz:=oS Ta LR F4
def Rv:List Nat:=[0,2,0,0,0,0,0,0,0,1,0,0,0,0,3,0,0,1,3,0,0,0,0,0,2,0,0,0,0,0,0,0,1,0,0,0,0,3,0,0,1,3,0,0,0,0,0,0,0,0,0,0,1,0,0,0,0,1,0]
def Ht (O:Alg) (x:Ags O):O.M:=(O.assert (O.inb (O.sub .i64 (O.llen (x.L 18)) (O.q 1)) (O.llen (x.L 18))) (O.assert (O.inb (O.sub .i64 (O.llen (x.L 18)) (O.q 1)) (O.llen (x.L 41))) (O.bind (O.call 52 [] (ap O (xr x kR 1) (xr x [0,0,0,0,0,1,0,0,0,0,1,0] 47))) fun c0=>(O.ret (ap O [.int (x.I 0),.int (O.sub .i64 (O.llen (x.L 18)) (O.q 1)),.int (O.rI (x.L 18) (O.sub .i64 (O.llen (x.L 18)) (O.q 1)) 10),.int (O.rI (x.L 18) (O.sub .i64 (O.llen (x.L 18)) (O.q 1)) 11),.int (O.rI (x.L 18) (O.sub .i64 (O.llen (x.L 18)) (O.q 1)) 15),.int (O.rI (x.L 18) (O.sub .i64 (O.llen (x.L 18)) (O.q 1)) 12),.int (O.rI (x.L 18) (O.sub .i64 (O.llen (x.L 18)) (O.q 1)) 13),.bool (O.rB (x.L 18) (O.sub .i64 (O.llen (x.L 18)) (O.q 1)) 20)] (ap O (xr x [0,0,0,0,0,1,0,0,0,0,1,0] 47) (ap O (cr O c0 [0,0,0,0,0,0,1,1,1,1] 0) [.int (O.rI (x.L 41) (O.sub .i64 (O.llen (x.L 18)) (O.q 1)) 3),.int (O.rI (x.L 41) (O.sub .i64 (O.llen (x.L 18)) (O.q 1)) 4)])))))))
def JI:Nat→Env:=eL [(52,Bm)]
theorem K3 {N ls}:JI N 52 [] ls=Bm N ls:=id rfl
def Hd:=oS Rv Ht JI
def Tf:List Nat:=[2,0,0,0,0,0,0,0,1,0,0,0,0,3,3]
def L3 (O:Alg) (x:Ags O):O.M:=(O.bind (O.call 72 [] (xr x kR 0)) fun c0=>(O.ite (O.bnot (O.eqI (O.cI c0 23) (O.q 0))) (O.ret [.rows O.lnil,.str (O.slit ⟨#[]⟩),.int (O.q 0),.int (O.q 0),.int (O.q 0),.int (O.q 0),.int (O.q 0),.int (O.q 0),.int (O.q 0),.bool O.ff,.int (O.q 0),.int (O.q 0),.int (O.q 0),.int (O.q 0),.rows O.lnil,.int (O.lit .u8 0),.int (O.q 0),.bool O.ff,.rows O.lnil,.int (O.q 0),.int (O.q 0),.int (O.lit .u8 0),.int (O.q 0),.int (O.q 0),.int (O.q 0),.int (O.q 1)]) (O.bind (O.fix (fun s1 c1=>(O.ite (O.lt (O.cI c1 1) (O.llen (x.L 14))) (O.assert (O.inb (O.cI c1 1) (O.llen (x.L 14))) (O.bind (O.call 73 [] (ap O (cr O c1 kM 2) (ap O [.int (O.cI c1 1)] (rr O (x.L 14) (O.cI c1 1) [0,0,0,0,1,0,0,0,0,0,0,0,1,0,0,0,0,1,0] 0)))) fun c2=>(O.ite (O.bnot (O.eqI (O.cI c2 23) (O.q 0))) (O.ret (ap O [.int (O.q 0),.rows (O.cL c1 0),.int (O.cI c1 1),.int (O.cI c2 23)] (cr O c1 kM 2))) (O.ite (O.eqI (O.rI (x.L 14) (O.cI c1 1) 0) (O.lit .u8 4)) (O.bind (O.call 74 [] (ap O (cr O c1 [0,2,0,0,0,0,0,0,0,1,0,0,0,0,3,0,0,1,3,0,0,0,0,0] 1) (ap O (cr O c2 kM 0) (rr O (x.L 14) (O.cI c1 1) [0,0,0,0,0,1,0,0,0,0,1,0] 7)))) fun c3=>(O.assert (O.small (O.llen (O.lapp (O.cL c1 0) (O.llit [(cr O c3 [0,0,0,0,0,0,0,1,0,0,0,0,0,1,0,0,0,0,1,0,0,0,0,0,0,0,1,1,1,1,0,0] 0)]))) 216) (s1 (ap O [.rows (O.lapp (O.cL c1 0) (O.llit [(cr O c3 [0,0,0,0,0,0,0,1,0,0,0,0,0,1,0,0,0,0,1,0,0,0,0,0,0,0,1,1,1,1,0,0] 0)])),.int (O.add .i64 (O.cI c1 1) (O.q 1))] (cr O c2 kM 0))))) (s1 (ap O [.rows (O.cL c1 0),.int (O.add .i64 (O.cI c1 1) (O.q 1))] (cr O c2 kM 0))))))) (O.ret (ap O [.int (O.q 1),.rows (O.cL c1 0)] (cr O c1 kM 2))))) (ap O [.rows O.lnil,.int (O.q 0)] (cr O c0 kM 0))) fun c1=>(O.ite (O.isTag c1 0) (O.ret (ap O [.rows (O.cL c1 1)] (ap O (cr O c1 kM 4) [.int (O.cI c1 2),.int (O.cI c1 3)]))) (O.ret (ap O (cr O c1 [3,2,0,0,0,0,0,0,0,1,0,0,0,0,3,0,0,1,3,0,0,0,0,0] 1) [.int (O.q (-1)),.int (O.q 0)]))))))
def C7 (N:Nat):Env:=fun f fns ls=>(cond (Nat.beq f 72&&Ah fns []) (NP N ls) (cond (Nat.beq f 73&&Ah fns []) (Lz N ls) (cond (Nat.beq f 74&&Ah fns []) (Hd N ls) none)))
theorem To {N ls}:C7 N 72 [] ls=NP N ls:=id rfl
theorem MZ {N ls}:C7 N 73 [] ls=Lz N ls:=id rfl
theorem Ic {N ls}:C7 N 74 [] ls=Hd N ls:=id rfl
def Gg:=oS Tf L3 C7
def Qm:List Nat:=[2,0,0,0,0,0,0,0,1,0,0,0,0,3,3]
def H0 (O:Alg) (x:Ags O):O.M:=(O.bind (O.call 39 [] (xr x [2,0,0,0,0,0,0,0,1,0,0,0,0,3,3] 0)) fun c0=>(O.ret (cr O c0 [2,0,0,0,0,0,0,0,1,0,0,0,0,3,0,0,1,3,0,0,0,0,0,0,0] 1)))
def D8 (N:Nat):Env:=fun f fns ls=>(cond (Nat.beq f 39&&Ah fns []) (Gg N ls) none)
theorem SQ {N ls}:D8 N 39 [] ls=Gg N ls:=id rfl
def Hy:=oS Qm H0 D8
def SN:List Nat:=[2,0,0,0,0,0,0,0,1,0,0,0,0,3,3]
def Jt (O:Alg) (x:Ags O):O.M:=(O.bind (O.call 70 [] (xr x kR 0)) fun c0=>(O.ite (O.bnot (O.eqI (O.cI c0 0) (O.q 0))) (O.ret [.int (O.cI c0 0)]) (O.ite (O.lt (O.q 4000) (O.llen (x.L 14))) (O.ret [.int (O.q 9)]) (O.bind (O.call 71 [] (xr x [2,0,0,0,0,0,0,0,1,0,0,0,0,3,3] 0)) fun c1=>(O.ite (O.bnot (O.eqI (O.cI c1 24) (O.q 0))) (O.ret [.int (O.q 10)]) (O.ret [.int (O.q 0)]))))))
def DZ (N:Nat):Env:=fun f fns ls=>(cond (Nat.beq f 70&&Ah fns []) (AP N ls) (cond (Nat.beq f 71&&Ah fns []) (Hy N ls) none))
theorem Qz {N ls}:DZ N 70 [] ls=AP N ls:=id rfl
theorem Ry {N ls}:DZ N 71 [] ls=Hy N ls:=id rfl
def Ju:=oS SN Jt DZ
def Sb:List Nat:=[3]
def Iv (O:Alg) (x:Ags O):O.M:=(O.bind (O.fix (fun s0 c0=>(O.ite (O.lt (O.cI c0 1) (O.llen (x.L 0))) (O.assert (O.inb (O.cI c0 1) (O.llen (x.L 0))) (O.ite (O.bnot (O.eqI (O.rI (x.L 0) (O.cI c0 1) 0) (O.lit .u8 2))) (s0 [.rows (O.cL c0 0),.int (O.add .i64 (O.cI c0 1) (O.q 1))]) (O.bind (O.ite (O.lt (O.q 0) (O.llen (O.cL c0 0))) (O.assert (O.inb (O.sub .i64 (O.llen (O.cL c0 0)) (O.q 1)) (O.llen (O.cL c0 0))) (O.ret [.rows (O.lset (O.cL c0 0) (O.sub .i64 (O.llen (O.cL c0 0)) (O.q 1)) 1 [.int (O.cI c0 1)])])) (O.ret [.rows (O.cL c0 0)])) fun c1=>(O.assert (O.small (O.llen (O.lapp (O.cL c1 0) (O.llit [[.int (O.cI c0 1),.int (O.llen (x.L 0))]]))) 16) (s0 [.rows (O.lapp (O.cL c1 0) (O.llit [[.int (O.cI c0 1),.int (O.llen (x.L 0))]])),.int (O.add .i64 (O.cI c0 1) (O.q 1))]))))) (O.ret [.rows (O.cL c0 0)]))) [.rows O.lnil,.int (O.q 0)]) fun c0=>(O.ret [.rows (O.cL c0 0)]))
def Qv:Nat→Env:=eL []
def I0:=oS Sb Iv Qv
def Qi:List Nat:=[2,0,0,0,0,0,0,0,1,0,0,0,0,3,3,0,0]
def Ge (O:Alg) (x:Ags O):O.M:=(O.bind (O.fix (fun s0 c0=>(O.ite (O.lt (O.cI c0 1) (O.llen (x.L 14))) (O.assert (O.inb (O.cI c0 1) (O.llen (x.L 14))) (O.ite (O.bnot (O.eqI (O.rI (x.L 14) (O.cI c0 1) 2) (x.I 15))) (s0 [.int (O.cI c0 0),.int (O.add .i64 (O.cI c0 1) (O.q 1))]) (O.ite (O.iteB (O.bnot (O.eqI (O.rI (x.L 14) (O.cI c0 1) 4) (x.I 16))) O.tt (O.bnot (O.eqI (O.rI (x.L 14) (O.cI c0 1) 25) (O.q 0)))) (O.ret [.int (O.q 0),.bool O.ff]) (O.ite (O.rB (x.L 14) (O.cI c0 1) 26) (s0 [.int (O.add .i64 (O.cI c0 0) (O.q 1)),.int (O.add .i64 (O.cI c0 1) (O.q 1))]) (s0 [.int (O.cI c0 0),.int (O.add .i64 (O.cI c0 1) (O.q 1))]))))) (O.ret [.int (O.q 1),.int (O.cI c0 0)]))) [.int (O.q 0),.int (O.q 0)]) fun c0=>(O.ite (O.isTag c0 0) (O.ret [.bool (O.cB c0 1)]) (O.ret [.bool (O.eqI (O.cI c0 1) (x.I 4))])))
def OI:Nat→Env:=eL []
def Gl:=oS Qi Ge OI
def JK:List Nat:=[2,0,0,0,0,0,0,0,1,0,0,0,0,3,3,0]
def Dh (O:Alg) (x:Ags O):O.M:=(O.bind (O.call 37 [] (xr x [2,0,0,0,0,0,0,0,1,0,0,0,0,3,3] 0)) fun c0=>(O.ite (O.bnot (O.eqI (O.cI c0 0) (O.q 0))) (O.ret [.rows O.lnil,.int (O.cI c0 0)]) (O.bind (O.ite (O.bnot (O.lt (x.I 15) (O.q 0))) (O.call 38 [] [.rows (x.L 14)]) (O.ret [.rows O.lnil])) fun c1=>(O.ite (O.iteB (O.lt (x.I 15) (O.q 0)) O.tt (O.le (O.llen (O.cL c1 0)) (x.I 15))) (O.ret [.rows O.lnil,.int (O.q 2)]) (O.bind (O.call 39 [] (xr x [2,0,0,0,0,0,0,0,1,0,0,0,0,3,3] 0)) fun c2=>(O.bind (O.bind (O.bind (O.fix (fun s3 c3=>(O.ite (O.lt (O.cI c3 0) (O.llen (O.cL c2 0))) (O.assert (O.inb (O.cI c3 0) (O.llen (O.cL c2 0))) (O.ite (O.bnot (O.eqI (O.rI (O.cL c2 0) (O.cI c3 0) 1) (O.cI c3 1))) (O.ret [.int (O.q 0),.int (O.cI c3 0),.int (O.cI c3 1)]) (s3 [.int (O.add .i64 (O.cI c3 0) (O.q 1)),.int (O.cI c3 1)]))) (O.ret [.int (O.q 1),.int (O.cI c3 1)]))) [.int (O.q 0),.int (x.I 15)]) fun c3=>(O.ite (O.isTag c3 0) (O.ret [.int (O.cI c3 1),.int (O.cI c3 2)]) (O.ret [.int (O.q (-1)),.int (O.cI c3 1)]))) fun c3=>(O.ite (O.eqI (O.cI c3 0) (O.q (-1))) (O.ret [.rows (O.cL c2 0),.int (O.cI c3 1)]) (O.bind (O.fix (fun s4 c4=>(O.ite (O.lt (O.cI c4 2) (O.llen (O.cL c4 0))) (O.assert (O.inb (O.cI c4 2) (O.llen (O.cL c4 0))) (O.ite (O.bnot (O.bnot (O.eqI (O.rI (O.cL c4 0) (O.cI c4 2) 1) (O.cI c4 3)))) (O.assert (O.inb (O.cI c4 1) (O.llen (O.cL c4 0))) (s4 [.rows (O.lset (O.cL c4 0) (O.cI c4 1) 0 (rr O (O.cL c4 0) (O.cI c4 2) [0,0,0,0,0,0,0,1,0,0,0,0,0,1,0,0,0,0,1,0,0,0,0,0,0,0,1,1,1,1,0,0] 0)),.int (O.add .i64 (O.cI c4 1) (O.q 1)),.int (O.add .i64 (O.cI c4 2) (O.q 1)),.int (O.cI c4 3)])) (s4 [.rows (O.cL c4 0),.int (O.cI c4 1),.int (O.add .i64 (O.cI c4 2) (O.q 1)),.int (O.cI c4 3)]))) (O.ret [.rows (O.cL c4 0),.int (O.cI c4 1),.int (O.cI c4 3)]))) [.rows (O.cL c2 0),.int (O.cI c3 0),.int (O.add .i64 (O.cI c3 0) (O.q 1)),.int (O.cI c3 1)]) fun c4=>(O.assert (O.inr (O.cI c4 1) (O.llen (O.cL c4 0)) (O.llen (O.cL c4 0))) (O.assert (O.inr (O.q 0) (O.cI c4 1) (O.llen (O.lapp (O.lsub (O.cL c4 0) (O.q 0) (O.cI c4 1)) (O.lrep (O.llen (O.lsub (O.cL c4 0) (O.cI c4 1) (O.llen (O.cL c4 0)))) [.int (O.q 0),.int (O.q 0),.int (O.q 0),.int (O.q 0),.int (O.q 0),.int (O.q 0),.int (O.q 0),.bool O.ff,.int (O.lit .u8 0),.int (O.lit .u8 0),.int (O.q 0),.int (O.q 0),.int (O.q 0),.bool O.ff,.int (O.lit .u8 0),.int (O.q 0),.int (O.q 0),.int (O.q 0),.bool O.ff,.int (O.q 0),.int (O.q 0),.int (O.q 0),.int (O.q 0),.int (O.q 0),.int (O.q 0),.int (O.q 0),.bool O.ff,.bool O.ff,.bool O.ff,.bool O.ff,.int (O.q 0),.int (O.q 0)])))) (O.ret [.rows (O.lsub (O.lapp (O.lsub (O.cL c4 0) (O.q 0) (O.cI c4 1)) (O.lrep (O.llen (O.lsub (O.cL c4 0) (O.cI c4 1) (O.llen (O.cL c4 0)))) [.int (O.q 0),.int (O.q 0),.int (O.q 0),.int (O.q 0),.int (O.q 0),.int (O.q 0),.int (O.q 0),.bool O.ff,.int (O.lit .u8 0),.int (O.lit .u8 0),.int (O.q 0),.int (O.q 0),.int (O.q 0),.bool O.ff,.int (O.lit .u8 0),.int (O.q 0),.int (O.q 0),.int (O.q 0),.bool O.ff,.int (O.q 0),.int (O.q 0),.int (O.q 0),.int (O.q 0),.int (O.q 0),.int (O.q 0),.int (O.q 0),.bool O.ff,.bool O.ff,.bool O.ff,.bool O.ff,.int (O.q 0),.int (O.q 0)])) (O.q 0) (O.cI c4 1)),.int (O.cI c4 2)])))))) fun c3=>(O.bind (O.fix (fun s4 c4=>(O.ite (O.lt (O.cI c4 1) (O.llen (O.cL c3 0))) (O.assert (O.inb (O.cI c4 1) (O.llen (O.cL c3 0))) (O.bind (O.bind (O.fix (fun s5 c5=>(O.ite (O.lt (O.cI c5 0) (O.llen (O.cL c4 0))) (O.assert (O.inb (O.cI c5 0) (O.llen (O.cL c4 0))) (O.ite (O.eqI (O.rI (O.cL c4 0) (O.cI c5 0) 0) (O.cI c5 5)) (O.ret (ap O [.int (O.q 0)] (cr O c5 [0,0,0,0,0,0,0,0,1,0,0,0,0,0,1,0,0,0,0,1,0,0,0,0,0,0,0,1,1,1,1,0,0] 0))) (s5 (ap O [.int (O.add .i64 (O.cI c5 0) (O.q 1))] (cr O c5 [0,0,0,0,0,0,0,1,0,0,0,0,0,1,0,0,0,0,1,0,0,0,0,0,0,0,1,1,1,1,0,0] 1))))) (O.ret (ap O [.int (O.q 1)] (cr O c5 [0,0,0,0,0,0,0,1,0,0,0,0,0,1,0,0,0,0,1,0,0,0,0,0,0,0,1,1,1,1,0,0] 1))))) (ap O [.int (O.q 0)] (rr O (O.cL c3 0) (O.cI c4 1) [0,0,0,0,0,0,0,1,0,0,0,0,0,1,0,0,0,0,1,0,0,0,0,0,0,0,1,1,1,1,0,0] 0))) fun c5=>(O.ite (O.isTag c5 0) (O.ret (cr O c5 [0,0,0,0,0,0,0,0,1,0,0,0,0,0,1,0,0,0,0,1,0,0,0,0,0,0,0,1,1,1,1,0,0] 1)) (O.ret (ap O [.int (O.q (-1))] (cr O c5 [0,0,0,0,0,0,0,1,0,0,0,0,0,1,0,0,0,0,1,0,0,0,0,0,0,0,1,1,1,1,0,0] 1))))) fun c5=>(O.bind (O.ite (O.lt (O.cI c5 0) (O.q 0)) (O.assert (O.small (O.llen (O.lapp (O.cL c4 0) (O.llit [[.int (O.cI c5 5),.int (O.q 0),.int (O.q 0),.int (O.q 0),.int (O.q 0),.int (O.q 0),.int (O.q 0)]]))) 56) (O.ret [.rows (O.lapp (O.cL c4 0) (O.llit [[.int (O.cI c5 5),.int (O.q 0),.int (O.q 0),.int (O.q 0),.int (O.q 0),.int (O.q 0),.int (O.q 0)]])),.int (O.sub .i64 (O.llen (O.lapp (O.cL c4 0) (O.llit [[.int (O.cI c5 5),.int (O.q 0),.int (O.q 0),.int (O.q 0),.int (O.q 0),.int (O.q 0),.int (O.q 0)]]))) (O.q 1))])) (O.ret [.rows (O.cL c4 0),.int (O.cI c5 0)])) fun c6=>(O.assert (O.inb (O.cI c6 1) (O.llen (O.cL c6 0))) (O.bind (O.ite (O.cB c5 27) (O.ret [.rows (O.lset (O.lset (O.cL c6 0) (O.cI c6 1) 3 [.int (O.add .i64 (O.rI (O.cL c6 0) (O.cI c6 1) 3) (O.cI c5 26))]) (O.cI c6 1) 1 [.int (O.add .i64 (O.rI (O.lset (O.cL c6 0) (O.cI c6 1) 3 [.int (O.add .i64 (O.rI (O.cL c6 0) (O.cI c6 1) 3) (O.cI c5 26))]) (O.cI c6 1) 1) (O.q 1))])]) (O.ret [.rows (O.lset (O.cL c6 0) (O.cI c6 1) 3 [.int (O.add .i64 (O.rI (O.cL c6 0) (O.cI c6 1) 3) (O.cI c5 26))])])) fun c7=>(O.bind (O.ite (O.cB c5 29) (O.ret [.rows (O.lset (O.cL c7 0) (O.cI c6 1) 4 [.int (O.add .i64 (O.rI (O.cL c7 0) (O.cI c6 1) 4) (O.q 1))])]) (O.ret [.rows (O.cL c7 0)])) fun c8=>(O.bind (O.ite (O.eqI (O.cI c5 9) (O.lit .u8 2)) (O.ret [.rows (O.lset (O.cL c8 0) (O.cI c6 1) 5 [.int (O.add .i64 (O.rI (O.cL c8 0) (O.cI c6 1) 5) (O.q 1))])]) (O.ite (O.eqI (O.cI c5 9) (O.lit .u8 3)) (O.ret [.rows (O.lset (O.cL c8 0) (O.cI c6 1) 6 [.int (O.add .i64 (O.rI (O.cL c8 0) (O.cI c6 1) 6) (O.q 1))])]) (O.ret [.rows (O.cL c8 0)]))) fun c9=>(O.assert (O.bnot (O.band (O.bnot (O.eqI (O.cI c4 1) (O.q 0))) (O.bnot (O.inb (O.sub .i64 (O.cI c4 1) (O.q 1)) (O.llen (O.cL c3 0)))))) (O.bind (O.ite (O.iteB (O.eqI (O.cI c4 1) (O.q 0)) O.tt (O.bnot (O.eqI (O.rI (O.cL c3 0) (O.sub .i64 (O.cI c4 1) (O.q 1)) 2) (O.cI c5 3)))) (O.call 44 [] (ap O (xr x kR 0) [.rows (O.cL c3 0),.int (O.cI c5 3),.int (O.cI c5 5)])) (O.ret [.bool O.ff])) fun c10=>(O.ite (O.iteB (O.iteB (O.eqI (O.cI c4 1) (O.q 0)) O.tt (O.bnot (O.eqI (O.rI (O.cL c3 0) (O.sub .i64 (O.cI c4 1) (O.q 1)) 2) (O.cI c5 3)))) (O.cB c10 0) O.ff) (s4 [.rows (O.lset (O.cL c9 0) (O.cI c6 1) 2 [.int (O.add .i64 (O.rI (O.cL c9 0) (O.cI c6 1) 2) (O.q 1))]),.int (O.add .i64 (O.cI c4 1) (O.q 1))]) (s4 [.rows (O.cL c9 0),.int (O.add .i64 (O.cI c4 1) (O.q 1))]))))))))))) (O.ret [.rows (O.cL c4 0)]))) [.rows O.lnil,.int (O.q 0)]) fun c4=>(O.ret [.rows (O.cL c4 0),.int (O.q 0)]))))))))
def BF (N:Nat):Env:=fun f fns ls=>(cond (Nat.beq f 37&&Ah fns []) (Ju N ls) (cond (Nat.beq f 38&&Ah fns []) (I0 N ls) (cond (Nat.beq f 39&&Ah fns []) (Gg N ls) (cond (Nat.beq f 44&&Ah fns []) (Gl N ls) none))))
theorem OH {N ls}:BF N 37 [] ls=Ju N ls:=id rfl
theorem LA {N ls}:BF N 38 [] ls=I0 N ls:=id rfl
theorem OL {N ls}:BF N 39 [] ls=Gg N ls:=id rfl
theorem Ke {N ls}:BF N 44 [] ls=Gl N ls:=id rfl
def B4:=oS JK Dh BF
def Xr:List Nat:=[]
def Xj (O:Alg) (x:Ags O):O.M:=(O.ret [.str (O.slit ⟨#[84,69,83,84]⟩),.int (O.q 2),.int (O.q 1),.int (O.q 1),.int (O.q 4),.int (O.q 0),.int (O.q 1),.int (O.q 1),.bool O.ff,.int (O.q 0),.int (O.q 0),.int (O.q 0),.int (O.q 11),.rows O.lnil])
def ck:Nat→Env:=eL []
def Jf:=oS Xr Xj ck
def XX:List Nat:=[0,0,0,0,0,1,0,0,0,0,1,0]
def XC (O:Alg) (x:Ags O):O.M:=(O.ret (ap O [.int (O.lit .u8 4),.int (O.q 0),.int (O.q 0),.int (O.q 0),.bool O.ff,.int (O.q 0),.int (O.q 0)] (xr x [0,0,0,0,0,1,0,0,0,0,1,0] 0)))
def cg:Nat→Env:=eL []
def SA:=oS XX XC cg
def cR:List Nat:=[]
def bP (O:Alg) (x:Ags O):O.M:=(O.bind (O.call 55 [] [.int (O.lit .u8 1),.int (O.lit .u8 1),.int (O.q 1),.int (O.q 0),.int (O.q 0),.bool O.ff,.int (O.lit .u8 0),.int (O.q 0),.int (O.q 0),.int (O.q 0),.bool O.ff,.int (O.q 0)]) fun c0=>(O.bind (O.call 55 [] [.int (O.lit .u8 1),.int (O.lit .u8 0),.int (O.q 0),.int (O.q 0),.int (O.q 0),.bool O.ff,.int (O.lit .u8 1),.int (O.q 1),.int (O.q 0),.int (O.q 0),.bool O.ff,.int (O.q 0)]) fun c1=>(O.bind (O.call 55 [] [.int (O.lit .u8 2),.int (O.lit .u8 0),.int (O.q 0),.int (O.q 0),.int (O.q 0),.bool O.ff,.int (O.lit .u8 0),.int (O.q 0),.int (O.q 0),.int (O.q 0),.bool O.ff,.int (O.q 0)]) fun c2=>(O.bind (O.call 55 [] [.int (O.lit .u8 1),.int (O.lit .u8 1),.int (O.q 0),.int (O.q 0),.int (O.q 4),.bool O.ff,.int (O.lit .u8 0),.int (O.q 0),.int (O.q 0),.int (O.q 0),.bool O.ff,.int (O.q 0)]) fun c3=>(O.ret [.rows (O.llit [[.int (O.lit .u8 1),.int (O.q 1),.int (O.q 0),.int (O.q 0),.bool O.tt,.int (O.q 0),.int (O.q 0),.int (O.lit .u8 0),.int (O.lit .u8 0),.int (O.q 0),.int (O.q 0),.int (O.q 0),.bool O.ff,.int (O.lit .u8 0),.int (O.q 0),.int (O.q 0),.int (O.q 0),.bool O.ff,.int (O.q 0)],[.int (O.lit .u8 2),.int (O.q 0),.int (O.q 1),.int (O.q 2),.bool O.ff,.int (O.q 0),.int (O.q 0),.int (O.lit .u8 0),.int (O.lit .u8 0),.int (O.q 0),.int (O.q 0),.int (O.q 0),.bool O.ff,.int (O.lit .u8 0),.int (O.q 0),.int (O.q 0),.int (O.q 0),.bool O.ff,.int (O.q 0)],[.int (O.lit .u8 8),.int (O.q 0),.int (O.q 2),.int (O.q 0),.bool O.ff,.int (O.q 0),.int (O.q 0),.int (O.lit .u8 0),.int (O.lit .u8 0),.int (O.q 0),.int (O.q 0),.int (O.q 0),.bool O.ff,.int (O.lit .u8 0),.int (O.q 0),.int (O.q 0),.int (O.q 0),.bool O.ff,.int (O.q 0)],[.int (O.lit .u8 3),.int (O.q 0),.int (O.q 1),.int (O.q 0),.bool O.ff,.int (O.q 0),.int (O.q 0),.int (O.lit .u8 0),.int (O.lit .u8 0),.int (O.q 0),.int (O.q 0),.int (O.q 0),.bool O.ff,.int (O.lit .u8 0),.int (O.q 0),.int (O.q 0),.int (O.q 0),.bool O.ff,.int (O.q 0)],(cr O c0 [0,0,0,0,1,0,0,0,0,0,0,0,1,0,0,0,0,1,0] 0),(cr O c1 [0,0,0,0,1,0,0,0,0,0,0,0,1,0,0,0,0,1,0] 0),[.int (O.lit .u8 2),.int (O.q 0),.int (O.q 2),.int (O.q 1),.bool O.ff,.int (O.q 0),.int (O.q 0),.int (O.lit .u8 0),.int (O.lit .u8 0),.int (O.q 0),.int (O.q 0),.int (O.q 0),.bool O.ff,.int (O.lit .u8 0),.int (O.q 0),.int (O.q 0),.int (O.q 0),.bool O.ff,.int (O.q 0)],[.int (O.lit .u8 8),.int (O.q 0),.int (O.q 1),.int (O.q 0),.bool O.ff,.int (O.q 0),.int (O.q 0),.int (O.lit .u8 0),.int (O.lit .u8 0),.int (O.q 0),.int (O.q 0),.int (O.q 0),.bool O.ff,.int (O.lit .u8 0),.int (O.q 0),.int (O.q 0),.int (O.q 0),.bool O.ff,.int (O.q 0)],[.int (O.lit .u8 3),.int (O.q 0),.int (O.q 2),.int (O.q 0),.bool O.ff,.int (O.q 0),.int (O.q 0),.int (O.lit .u8 0),.int (O.lit .u8 0),.int (O.q 0),.int (O.q 0),.int (O.q 0),.bool O.ff,.int (O.lit .u8 0),.int (O.q 0),.int (O.q 0),.int (O.q 0),.bool O.ff,.int (O.q 0)],(cr O c2 [0,0,0,0,1,0,0,0,0,0,0,0,1,0,0,0,0,1,0] 0),(cr O c3 [0,0,0,0,1,0,0,0,0,0,0,0,1,0,0,0,0,1,0] 0)])])))))
def gD:Nat→Env:=eL [(55,SA)]
def Nh:=oS cR bP gD
def XD:List Nat:=[]
def NL (O:Alg) (x:Ags O):O.M:=(O.bind (O.call 27 [] []) fun c0=>(O.bind (O.call 28 [] []) fun c1=>(O.bind (O.call 19 [] (ap O (cr O c0 kR 0) [.rows (O.cL c1 0),.int (O.q 1)])) fun c2=>(O.assert (O.bnot (O.band (O.bnot (O.iteB (O.bnot (O.eqI (O.cI c2 1) (O.q 0))) O.tt (O.bnot (O.eqI (O.llen (O.cL c2 0)) (O.q 1))))) (O.bnot (O.inb (O.q 0) (O.llen (O.cL c2 0)))))) (O.ite (O.iteB (O.iteB (O.bnot (O.eqI (O.cI c2 1) (O.q 0))) O.tt (O.bnot (O.eqI (O.llen (O.cL c2 0)) (O.q 1)))) O.tt (O.bnot (O.band (O.eqI (O.rI (O.cL c2 0) (O.q 0) 0) (O.q 2)) (O.band (O.eqI (O.rI (O.cL c2 0) (O.q 0) 1) (O.q 1)) (O.band (O.eqI (O.rI (O.cL c2 0) (O.q 0) 2) (O.q 0)) (O.band (O.eqI (O.rI (O.cL c2 0) (O.q 0) 3) (O.q 5)) (O.band (O.eqI (O.rI (O.cL c2 0) (O.q 0) 4) (O.q 0)) (O.band (O.eqI (O.rI (O.cL c2 0) (O.q 0) 5) (O.q 1)) (O.eqI (O.rI (O.cL c2 0) (O.q 0) 6) (O.q 0)))))))))) (O.ret [.bool O.ff]) (O.assert (O.inb (O.q 0) (O.llen (O.cL c2 0))) (O.bind (O.call 12 [] (ap O (rr O (O.cL c2 0) (O.q 0) [0,0,0,0,0,0,0] 0) [.int (O.q 4)])) fun c3=>(O.assert (O.inb (O.q 0) (O.llen (O.cL c2 0))) (O.bind (O.call 10 [] (ap O (rr O (O.cL c2 0) (O.q 0) [0,0,0,0,0,0,0] 0) [.int (O.q 4)])) fun c4=>(O.ret [.bool (O.iteB (O.iteB (O.iteB (O.eqS (O.cS c3 0) (O.slit ⟨#[48,46,49,45,48,45,53,45,48]⟩)) (O.eqI (O.cI c3 1) (O.q 0)) O.ff) (O.band (O.eqI (O.cI c4 0) (O.q 20)) (O.eqI (O.cI c4 1) (O.q 1))) O.ff) (O.eqI (O.cI c4 2) (O.q 0)) O.ff)]))))))))))
def DV:Nat→Env:=eL [(10,Bk),(12,CS),(19,B4),(27,Jf),(28,Nh)]
theorem Nt {N ls}:DV N 10 [] ls=Bk N ls:=id rfl
theorem QJ {N ls}:DV N 12 [] ls=CS N ls:=id rfl
theorem Nl {N ls}:DV N 19 [] ls=B4 N ls:=id rfl
theorem Sx {N ls}:DV N 27 [] ls=Jf N ls:=id rfl
theorem Uu {N ls}:DV N 28 [] ls=Nh N ls:=id rfl
def JV:=oS XD NL DV
def WM:List Nat:=[3]
def Nq (O:Alg) (x:Ags O):O.M:=(O.assert (O.inr (O.q 0) (O.iteI (O.lt (O.q 11) (O.llen (x.L 0))) (O.q 11) (O.llen (x.L 0))) (O.llen (x.L 0))) (O.ret [.rows (O.lsub (x.L 0) (O.q 0) (O.iteI (O.lt (O.q 11) (O.llen (x.L 0))) (O.q 11) (O.llen (x.L 0))))]))
def Jd (N:Nat):Env:=fun f fns ls=>none
def Ny:=oS WM Nq Jd
def XE:List Nat:=[0]
def NQ (O:Alg) (x:Ags O):O.M:=(O.ret [.bool (O.iteB (O.le (O.q 0) (x.I 0)) (O.le (x.I 0) (O.q 1000000)) O.ff)])
def Uo:Nat→Env:=eL []
def D2:=oS XE NQ Uo
def ZD:List Nat:=[0]
def Pm (O:Alg) (x:Ags O):O.M:=(O.ite (O.lt (x.I 0) (O.q 0)) (O.ret [.int (O.sub .i64 (O.q 0) (x.I 0))]) (O.ret [.int (x.I 0)]))
def Vf:Nat→Env:=eL []
def L4:=oS ZD Pm Vf
def cD:List Nat:=[0,0]
def Rm (O:Alg) (x:Ags O):O.M:=(O.ite (O.iteB (O.eqI (x.I 0) (O.q (-9223372036854775808))) O.tt (O.eqI (x.I 1) (O.q (-9223372036854775808)))) (O.ret [.int (O.q 0)]) (O.bind (O.call 89 [] [.int (x.I 0)]) fun c0=>(O.bind (O.call 89 [] [.int (x.I 1)]) fun c1=>(O.bind (O.fix (fun s2 c2=>(O.ite (O.bnot (O.eqI (O.cI c2 1) (O.q 0))) (O.assert (O.bnot (O.eqI (O.cI c2 1) (O.q 0))) (s2 [.int (O.cI c2 1),.int (O.rem .i64 (O.cI c2 0) (O.cI c2 1))])) (O.ret [.int (O.cI c2 0)]))) [.int (O.cI c0 0),.int (O.cI c1 0)]) fun c2=>(O.ret [.int (O.cI c2 0)])))))
def Rz:Nat→Env:=eL [(89,L4)]
theorem Vw {N ls}:Rz N 89 [] ls=L4 N ls:=id rfl
def GR:=oS cD Rm Rz
def XN:List Nat:=[0,0]
def NY (O:Alg) (x:Ags O):O.M:=(O.bind (O.ite (O.iteB (O.iteB (O.iteB (O.le (O.q 1) (x.I 1)) (O.le (x.I 1) (O.q 2147483648)) O.ff) (O.le (O.q (-2147483648)) (x.I 0)) O.ff) (O.le (x.I 0) (O.q 2147483648)) O.ff) (O.call 60 [] [.int (x.I 0),.int (x.I 1)]) (O.ret [.int (O.q 0)])) fun c0=>(O.ret [.bool (O.iteB (O.iteB (O.iteB (O.iteB (O.le (O.q 1) (x.I 1)) (O.le (x.I 1) (O.q 2147483648)) O.ff) (O.le (O.q (-2147483648)) (x.I 0)) O.ff) (O.le (x.I 0) (O.q 2147483648)) O.ff) (O.eqI (O.cI c0 0) (O.q 1)) O.ff)]))
def Og:Nat→Env:=eL [(60,GR)]
theorem Ux {N ls}:Og N 60 [] ls=GR N ls:=id rfl
def JW:=oS XN NY Og
def Y2:List Nat:=[0,0]
def PH (O:Alg) (x:Ags O):O.M:=(O.ite (O.eqI (x.I 1) (O.q 0)) (O.ret [.int (O.q 0),.int (O.q 0),.int (O.q 1)]) (O.ite (O.iteB (O.eqI (x.I 0) (O.q (-9223372036854775808))) O.tt (O.eqI (x.I 1) (O.q (-9223372036854775808)))) (O.ret [.int (O.q 0),.int (O.q 0),.int (O.q 2)]) (O.bind (O.ite (O.lt (x.I 1) (O.q 0)) (O.ret [.int (O.sub .i64 (O.q 0) (x.I 0)),.int (O.sub .i64 (O.q 0) (x.I 1))]) (O.ret [.int (x.I 0),.int (x.I 1)])) fun c0=>(O.bind (O.call 60 [] [.int (O.cI c0 0),.int (O.cI c0 1)]) fun c1=>(O.assert (O.bnot (O.eqI (O.cI c1 0) (O.q 0))) (O.assert (O.bnot (O.eqI (O.cI c1 0) (O.q 0))) (O.bind (O.call 61 [] [.int (O.quo .i64 (O.cI c0 0) (O.cI c1 0)),.int (O.quo .i64 (O.cI c0 1) (O.cI c1 0))]) fun c2=>(O.ite (O.bnot (O.cB c2 0)) (O.ret [.int (O.q 0),.int (O.q 0),.int (O.q 2)]) (O.ret [.int (O.quo .i64 (O.cI c0 0) (O.cI c1 0)),.int (O.quo .i64 (O.cI c0 1) (O.cI c1 0)),.int (O.q 0)])))))))))
def LX:Nat→Env:=eL [(60,GR),(61,JW)]
theorem N3 {N ls}:LX N 60 [] ls=GR N ls:=id rfl
theorem LP {N ls}:LX N 61 [] ls=JW N ls:=id rfl
def LB:=oS Y2 PH LX
def Ub:List Nat:=[0,0,0,0,0,0,0,0]
def KH (O:Alg) (x:Ags O):O.M:=(O.bind (O.call 31 [] [.int (x.I 3)]) fun c0=>(O.bind (O.ite (O.bnot (O.bnot (O.cB c0 0))) (O.call 31 [] [.int (x.I 1)]) (O.ret [.bool O.ff])) fun c1=>(O.ite (O.iteB (O.iteB (O.iteB (O.bnot (O.cB c0 0)) O.tt (O.bnot (O.cB c1 0))) O.tt (O.lt (x.I 7) (O.q 4))) O.tt (O.lt (O.q 8) (x.I 7))) (O.ret [.int (O.q 0),.int (O.q 0),.int (O.q 2)]) (O.ite (O.eqI (x.I 1) (O.q 0)) (O.ret [.int (O.q 0),.int (O.q 0),.int (O.q 1)]) (O.bind (O.call 32 [] [.int (O.mul .i64 (x.I 7) (x.I 3)),.int (x.I 1)]) fun c2=>(O.ret (cr O c2 [0,0,0] 0)))))))
def Hk:Nat→Env:=eL [(31,D2),(32,LB)]
theorem Qy {N ls}:Hk N 31 [] ls=D2 N ls:=id rfl
theorem Rx {N ls}:Hk N 32 [] ls=LB N ls:=id rfl
def KA:=oS Ub KH Hk
def WR:List Nat:=[0,0]
def K5 (O:Alg) (x:Ags O):O.M:=(O.bind (O.ite (O.lt (x.I 0) (O.q 0)) (O.ret [.str (O.slit ⟨#[45]⟩),.int (O.sub .u64 (O.lit .u64 0) (O.conv .u64 (x.I 0)))]) (O.ret [.str (O.slit ⟨#[]⟩),.int (O.conv .u64 (x.I 0))])) fun c0=>(O.bind (O.fix (fun s1 c1=>(O.ite (O.iteB (O.lt (O.lit .u64 0) (O.cI c1 0)) O.tt (O.lt (O.slen (O.cS c1 1)) (O.iteI (O.lt (O.q 1) (O.iteI (O.lt (O.q 20) (x.I 1)) (O.q 20) (x.I 1))) (O.iteI (O.lt (O.q 20) (x.I 1)) (O.q 20) (x.I 1)) (O.q 1)))) (O.assert (O.inr (O.rem .u64 (O.cI c1 0) (O.lit .u64 10)) (O.add .u64 (O.rem .u64 (O.cI c1 0) (O.lit .u64 10)) (O.lit .u64 1)) (O.slen (O.slit ⟨#[48,49,50,51,52,53,54,55,56,57]⟩))) (O.assert (O.small (O.slen (O.ssub (O.slit ⟨#[48,49,50,51,52,53,54,55,56,57]⟩) (O.rem .u64 (O.cI c1 0) (O.lit .u64 10)) (O.add .u64 (O.rem .u64 (O.cI c1 0) (O.lit .u64 10)) (O.lit .u64 1)))) 1) (O.assert (O.small (O.slen (O.cS c1 1)) 1) (s1 [.int (O.quo .u64 (O.cI c1 0) (O.lit .u64 10)),.str (O.scat (O.ssub (O.slit ⟨#[48,49,50,51,52,53,54,55,56,57]⟩) (O.rem .u64 (O.cI c1 0) (O.lit .u64 10)) (O.add .u64 (O.rem .u64 (O.cI c1 0) (O.lit .u64 10)) (O.lit .u64 1))) (O.cS c1 1))])))) (O.ret [.str (O.cS c1 1)]))) [.int (O.cI c0 1),.str (O.slit ⟨#[]⟩)]) fun c1=>(O.assert (O.small (O.slen (O.cS c0 0)) 1) (O.assert (O.small (O.slen (O.cS c1 0)) 1) (O.ret [.str (O.scat (O.cS c0 0) (O.cS c1 0))])))))
def SS:Nat→Env:=eL []
def H3:=oS WR K5 SS
def UE:List Nat:=[0]
def KF (O:Alg) (x:Ags O):O.M:=(O.bind (O.call 69 [] [.int (x.I 0),.int (O.q 1)]) fun c0=>(O.ret [.str (O.cS c0 0)]))
def LU:Nat→Env:=eL [(69,H3)]
theorem QD {N ls}:LU N 69 [] ls=H3 N ls:=id rfl
def Cc:=oS UE KF LU
def XI:List Nat:=[0]
def HK (O:Alg) (x:Ags O):O.M:=(O.ret [.bool (O.iteB (O.le (O.q 1) (x.I 0)) (O.le (x.I 0) (O.q 8)) O.ff)])
def OX:Nat→Env:=eL []
def C5:=oS XI HK OX
def ew:List Nat:=[0,0]
def UA (O:Alg) (x:Ags O):O.M:=(O.bind (O.call 67 [] [.int (x.I 1)]) fun c0=>(O.ite (O.iteB (O.iteB (O.bnot (O.cB c0 0)) O.tt (O.lt (x.I 0) (O.q 0))) O.tt (O.lt (O.q 1000000) (x.I 0))) (O.ret [.int (O.q 0),.int (O.q 0)]) (O.assert (O.bnot (O.eqI (x.I 1) (O.q 0))) (O.assert (O.bnot (O.eqI (x.I 1) (O.q 0))) (O.ret [.int (O.quo .i64 (x.I 0) (x.I 1)),.int (O.rem .i64 (x.I 0) (x.I 1))])))))
def T1:Nat→Env:=eL [(67,C5)]
theorem WI {N ls}:T1 N 67 [] ls=C5 N ls:=id rfl
def Qk:=oS ew UA T1
def ZA:List Nat:=[0,0]
def Pb (O:Alg) (x:Ags O):O.M:=(O.bind (O.call 67 [] [.int (x.I 1)]) fun c0=>(O.ite (O.iteB (O.iteB (O.bnot (O.cB c0 0)) O.tt (O.lt (x.I 0) (O.q 0))) O.tt (O.lt (O.q 1000000) (x.I 0))) (O.ret [.str (O.slit ⟨#[]⟩),.int (O.q 2)]) (O.bind (O.call 68 [] [.int (x.I 0),.int (x.I 1)]) fun c1=>(O.bind (O.call 36 [] [.int (O.cI c1 0)]) fun c2=>(O.assert (O.small (O.slen (O.cS c2 0)) 1) (O.assert (O.small (O.slen (O.slit ⟨#[46]⟩)) 1) (O.bind (O.call 36 [] [.int (O.cI c1 1)]) fun c3=>(O.assert (O.small (O.slen (O.scat (O.cS c2 0) (O.slit ⟨#[46]⟩))) 1) (O.assert (O.small (O.slen (O.cS c3 0)) 1) (O.ret [.str (O.scat (O.scat (O.cS c2 0) (O.slit ⟨#[46]⟩)) (O.cS c3 0)),.int (O.q 0)]))))))))))
def II:Nat→Env:=eL [(36,Cc),(67,C5),(68,Qk)]
theorem SJ {N ls}:II N 36 [] ls=Cc N ls:=id rfl
theorem Tp {N ls}:II N 67 [] ls=C5 N ls:=id rfl
theorem Ww {N ls}:II N 68 [] ls=Qk N ls:=id rfl
def Lc:=oS ZA Pb II
def Zk:List Nat:=[0,0,0,0,0,0,0,0]
def Ph (O:Alg) (x:Ags O):O.M:=(O.bind (O.call 31 [] [.int (x.I 1)]) fun c0=>(O.bind (O.ite (O.bnot (O.bnot (O.cB c0 0))) (O.call 31 [] [.int (x.I 2)]) (O.ret [.bool O.ff])) fun c1=>(O.bind (O.ite (O.bnot (O.iteB (O.bnot (O.cB c0 0)) O.tt (O.bnot (O.cB c1 0)))) (O.call 31 [] [.int (x.I 3)]) (O.ret [.bool O.ff])) fun c2=>(O.bind (O.ite (O.bnot (O.iteB (O.iteB (O.bnot (O.cB c0 0)) O.tt (O.bnot (O.cB c1 0))) O.tt (O.bnot (O.cB c2 0)))) (O.call 31 [] [.int (x.I 4)]) (O.ret [.bool O.ff])) fun c3=>(O.ite (O.iteB (O.iteB (O.iteB (O.bnot (O.cB c0 0)) O.tt (O.bnot (O.cB c1 0))) O.tt (O.bnot (O.cB c2 0))) O.tt (O.bnot (O.cB c3 0))) (O.ret [.str (O.slit ⟨#[]⟩),.int (O.q 2)]) (O.bind (O.call 35 [] [.int (x.I 1),.int (x.I 7)]) fun c4=>(O.ite (O.bnot (O.eqI (O.cI c4 1) (O.q 0))) (O.ret [.str (O.slit ⟨#[]⟩),.int (O.cI c4 1)]) (O.bind (O.fix (fun s5 c5=>(O.ite (O.lt (O.cI c5 1) (O.llen (O.llit [[.int (x.I 2)],[.int (x.I 3)],[.int (x.I 4)]]))) (O.assert (O.inb (O.cI c5 1) (O.llen (O.llit [[.int (x.I 2)],[.int (x.I 3)],[.int (x.I 4)]]))) (O.bind (O.call 36 [] [.int (O.rI (O.llit [[.int (x.I 2)],[.int (x.I 3)],[.int (x.I 4)]]) (O.cI c5 1) 0)]) fun c6=>(O.assert (O.small (O.slen (O.slit ⟨#[45]⟩)) 1) (O.assert (O.small (O.slen (O.cS c6 0)) 1) (O.assert (O.small (O.slen (O.cS c5 0)) 1) (O.assert (O.small (O.slen (O.scat (O.slit ⟨#[45]⟩) (O.cS c6 0))) 1) (s5 [.str (O.scat (O.cS c5 0) (O.scat (O.slit ⟨#[45]⟩) (O.cS c6 0))),.int (O.add .i64 (O.cI c5 1) (O.q 1))]))))))) (O.ret [.str (O.cS c5 0)]))) [.str (O.cS c4 0),.int (O.q 0)]) fun c5=>(O.ret [.str (O.cS c5 0),.int (O.q 0)])))))))))
def IV:Nat→Env:=eL [(31,D2),(35,Lc),(36,Cc)]
theorem TO {N ls}:IV N 31 [] ls=D2 N ls:=id rfl
theorem Uz {N ls}:IV N 35 [] ls=Lc N ls:=id rfl
theorem R7 {N ls}:IV N 36 [] ls=Cc N ls:=id rfl
def PW:=oS Zk Ph IV
def Qf:List Nat:=[0,0,0,0,0,0,0,0,0,0,0,0,0,0]
def Gq (O:Alg) (x:Ags O):O.M:=(O.ret [.bool (O.iteB (O.lt (x.I 11) (x.I 4)) O.tt (O.iteB (O.eqI (x.I 4) (x.I 11)) (O.lt (x.I 3) (x.I 10)) O.ff))])
def Nu:Nat→Env:=eL []
def Gr:=oS Qf Gq Nu
def WQ:List Nat:=[0,0,0,0,0,0,0,0,0,0,0,0,0,0]
def LS (O:Alg) (x:Ags O):O.M:=(O.ret [.bool (O.iteB (O.lt (x.I 11) (x.I 4)) O.tt (O.iteB (O.eqI (x.I 4) (x.I 11)) (O.lt (x.I 3) (x.I 10)) O.ff))])
def SY:Nat→Env:=eL []
def MD:=oS WQ LS SY
def RU:List Nat:=[3]
def Hf (O:Alg) (x:Ags O):O.M:=(O.bind (O.fix (fun s0 c0=>(O.ite (O.lt (O.cI c0 1) (O.llen (x.L 0))) (O.assert (O.inb (O.cI c0 1) (O.llen (x.L 0))) (s0 [.int (O.add .i64 (O.cI c0 0) (O.rI (x.L 0) (O.cI c0 1) 3)),.int (O.add .i64 (O.cI c0 1) (O.q 1))])) (O.ret [.int (O.cI c0 0)]))) [.int (O.q 0),.int (O.q 0)]) fun c0=>(O.ret [.int (O.cI c0 0)]))
def On:Nat→Env:=eL []
def Ho:=oS RU Hf On
def Xb:List Nat:=[3]
def NT (O:Alg) (x:Ags O):O.M:=(O.bind (O.fix (fun s0 c0=>(O.ite (O.lt (O.cI c0 1) (O.llen (x.L 0))) (O.assert (O.inb (O.cI c0 1) (O.llen (x.L 0))) (s0 [.int (O.add .i64 (O.cI c0 0) (O.rI (x.L 0) (O.cI c0 1) 3)),.int (O.add .i64 (O.cI c0 1) (O.q 1))])) (O.ret [.int (O.cI c0 0)]))) [.int (O.q 0),.int (O.q 0)]) fun c0=>(O.ret [.int (O.cI c0 0)]))
def UU:Nat→Env:=eL []
def NU:=oS Xb NT UU
end Go.Px
