/- Part 9. -/
import Derived.Test.YtejjoflbpnjohaaGreatDoorPart07
set_option linter.unusedVariables false
set_option linter.unusedSimpArgs false
namespace Go.Px
set_option maxRecDepth 100000
def Tm:List Nat:=[3]
def lq9 (O:Alg) (n:Int):O.I:=O.lit .i64 n
def Jd (O:Alg) (x:Ags O):O.M:=let u4:=(O.l (x.L 0));(O.c (O.w (fun s0 c0=>let u6:=(O.p c0 0);let u5:=(O.d c0 1);let u3:=(O.l u6);let u2:=(O.q .i64 u5 (lq9 O 1));let u1:=(O.u .i64 u3 (lq9 O 1));(O.b (O.n u5 u4) (O.k (O.r u5 u4) (O.b (O.h (O.e (O.o (x.L 0) u5 0) (O.lit .u8 2))) (s0 [.rows u6,.int u2]) (O.c (O.b (O.n (lq9 O 0) u3) (O.k (O.r u1 u3) (O.a [.rows (O.aa u6 u1 1 [.int u5])])) (O.a [.rows u6])) fun c1=>let u0:=(O.ad (O.p c1 0) (O.ac [[.int u5,.int u4]]));(O.k (O.v (O.l u0) 16) (s0 [.rows u0,.int u2]))))) (O.a [.rows u6]))) [.rows O.x,.int (lq9 O 0)]) fun c0=>(O.a [.rows (O.p c0 0)]))
def Qe:Nat→Env:=eL []
def Ji:=oS Tm Jd Qe
def X4:List Nat:=[2]
def Nw (O:Alg) (x:Ags O):O.M:=let u4:=(lq9 O 1);let u3:=(lq9 O 0);let u2:=(O.al (x.S 0));let u1:=(O.l u2);(O.c (O.w (fun s0 c0=>let u5:=(O.d c0 0);let u0:=(O.o u2 u5 0);(O.b (O.n u5 u1) (O.k (O.r u5 u1) (O.b (O.i (O.h (O.i (O.t (O.lit .u8 65) u0) (O.t u0 (O.lit .u8 90)) O.f)) (O.i (O.e u5 u3) O.j (O.i (O.i (O.h (O.e u0 (O.lit .u8 95))) (O.h (O.e u0 (O.lit .u8 45))) O.f) (O.i (O.n u0 (O.lit .u8 48)) O.j (O.n (O.lit .u8 57) u0)) O.f)) O.f) (O.a [.int u3,.bool O.f]) (s0 [.int (O.q .i64 u5 u4)]))) (O.a [.int u4]))) [.int u3]) fun c0=>(O.b (O.ab c0 0) (O.a [.bool (O.m c0 1)]) (O.a [.bool (O.i (O.t u4 (O.ae (x.S 0))) (O.t (O.ae (x.S 0)) (lq9 O 16)) O.f)])))
def U5:Nat→Env:=eL []
def F4:=oS X4 Nw U5
def SH:List Nat:=[0,0,0]
def Rt (O:Alg) (x:Ags O):O.M:=(O.a [.bool (O.i (O.t (x.I 1) (x.I 0)) (O.t (x.I 0) (x.I 2)) O.f)])
def Xx:Nat→Env:=eL []
def CO:=oS SH Rt Xx
def R8:List Nat:=[2,0,0,0,0,0,0,0,1,0,0,0,0,3]
def IV (O:Alg) (x:Ags O):O.M:=let u10:=(lq9 O 1);let u9:=(lq9 O 0);(O.c (O.g 104 [] [.int (x.I 1),.int (lq9 O 2),.int (lq9 O 11)]) fun c0=>(O.c (O.b (O.m c0 0) (O.g 104 [] [.int (x.I 2),.int u10,.int (lq9 O 2)]) (O.a [.bool O.f])) fun c1=>let u8:=(O.i (O.m c0 0) (O.m c1 0) O.f);(O.c (O.b u8 (O.g 104 [] [.int (x.I 3),.int u9,.int (lq9 O 90)]) (O.a [.bool O.f])) fun c2=>let u7:=(O.i u8 (O.m c2 0) O.f);(O.c (O.b u7 (O.g 104 [] [.int (x.I 4),.int (lq9 O 4),.int (lq9 O 8)]) (O.a [.bool O.f])) fun c3=>let u6:=(O.i u7 (O.m c3 0) O.f);(O.c (O.b u6 (O.g 104 [] [.int (x.I 5),.int u9,.int (lq9 O 90)]) (O.a [.bool O.f])) fun c4=>let u5:=(O.i u6 (O.m c4 0) O.f);(O.c (O.b u5 (O.g 104 [] [.int (x.I 6),.int u10,.int (lq9 O 5)]) (O.a [.bool O.f])) fun c5=>let u4:=(O.i u5 (O.m c5 0) O.f);(O.c (O.b u4 (O.g 104 [] [.int (x.I 7),.int u10,.int (lq9 O 5)]) (O.a [.bool O.f])) fun c6=>let u3:=(O.i u4 (O.m c6 0) O.f);(O.c (O.b u3 (O.g 104 [] [.int (x.I 9),.int u9,.int (lq9 O 200)]) (O.a [.bool O.f])) fun c7=>let u2:=(O.i u3 (O.m c7 0) O.f);(O.c (O.b u2 (O.g 104 [] [.int (x.I 10),.int u9,.int (lq9 O 1000)]) (O.a [.bool O.f])) fun c8=>let u1:=(O.i u2 (O.m c8 0) O.f);(O.c (O.b u1 (O.g 104 [] [.int (x.I 11),.int u9,.int (lq9 O 9)]) (O.a [.bool O.f])) fun c9=>let u0:=(O.i u1 (O.m c9 0) O.f);(O.c (O.b u0 (O.g 104 [] [.int (x.I 12),.int u9,.int (lq9 O 11)]) (O.a [.bool O.f])) fun c10=>(O.a [.bool (O.i u0 (O.m c10 0) O.f)]))))))))))))
def Jy:Nat→Env:=eL [(104,CO)]
def Fl:=oS R8 IV Jy
def Tc:List Nat:=[2,0,0,0,0,0,0,0,1,0,0,0,0,3]
def JY (O:Alg) (x:Ags O):O.M:=let u7:=(lq9 O 1);let u6:=(lq9 O 0);let u5:=(O.l (x.L 13));(O.b (O.n (lq9 O 8) u5) (O.a [.int (lq9 O 9)]) (O.c (O.w (fun s0 c0=>let u8:=(O.d c0 0);let u4:=(O.o (x.L 13) u8 1);let u3:=(O.o (x.L 13) u8 0);let u2:=(O.n u6 u8);let u1:=(O.u .i64 u8 u7);let u0:=(O.i (O.i (O.n u3 u7) O.j (O.n u4 u3)) O.j (O.n (x.I 3) u4));(O.b (O.n u8 u5) (O.k (O.r u8 u5) (O.c (O.b (O.h u0) (O.g 104 [] [.int (O.o (x.L 13) u8 2),.int u6,.int (lq9 O 11)]) (O.a [.bool O.f])) fun c1=>(O.b (O.i u0 O.j (O.h (O.m c1 0))) (O.a [.int u6,.int (lq9 O 2)]) (O.k (O.h (O.z u2 (O.h (O.r u1 u5)))) (O.b (O.i u2 (O.t u3 (O.o (x.L 13) u1 1)) O.f) (O.a [.int u6,.int (lq9 O 8)]) (s0 [.int (O.q .i64 u8 u7)])))))) (O.a [.int u7]))) [.int u6]) fun c0=>(O.b (O.ab c0 0) (O.a [.int (O.d c0 1)]) (O.a [.int u6]))))
def LN:Nat→Env:=eL [(104,CO)]
def GZ:=oS Tc JY LN
def VJ:List Nat:=[2,0,0,0,0,0,0,0,1,0,0,0,0,3]
def Ks (O:Alg) (x:Ags O):O.M:=let u2:=(lq9 O 0);let u1:=(O.h (O.e (x.I 5) u2));let u0:=(O.i (O.h (O.e (x.I 10) u2)) (O.e (x.I 2) (lq9 O 1)) O.f);(O.c (O.g 73 [] [.str (x.S 0)]) fun c0=>(O.b (O.h (O.m c0 0)) (O.a [.int (lq9 O 5)]) (O.c (O.g 89 [] (xr x kR 0)) fun c1=>(O.b (O.h (O.m c1 0)) (O.a [.int (lq9 O 2)]) (O.c (O.b u0 (O.a [.bool u0]) (O.a [.bool (O.i (O.i u1 O.j (O.n u2 (O.l (x.L 13)))) (O.e (x.I 3) u2) O.f)])) fun c2=>(O.b (O.m c2 0) (O.a [.int (lq9 O 1)]) (O.b (O.i u1 (O.n (O.ai .i64 (x.I 5) (x.I 1)) (x.I 3)) O.f) (O.a [.int (lq9 O 13)]) (O.c (O.g 90 [] (xr x kR 0)) fun c3=>(O.a [.int (O.d c3 0)])))))))))
def Fd:Nat→Env:=eL [(73,F4),(89,Fl),(90,GZ)]
def AP:=oS VJ Ks Fd
def Ct (N:Nat) (ls:List PV):Option (List PV):=Om 24 ls
def VP:List Nat:=[2,0,0,0,0,0,0,0,1,0,0,0,0,3]
def K5 (O:Alg) (x:Ags O):O.M:=(O.c (O.g 105 [] [.rows (x.L 13)]) fun c0=>(O.a (ap O (xr x [2,0,0,0,0,0,0,0,1,0,0,0,0] 0) [.rows (O.p c0 0)])))
def Mj:Nat→Env:=eL [(105,Ct)]
theorem LE {N ls}:Mj N 105 [] ls=Ct N ls:=id rfl
def C3:=oS VP K5 Mj
def YG:List Nat:=[2,0,0,0,0,0,0,0,1,0,0,0,0,3]
def OE (O:Alg) (x:Ags O):O.M:=let u0:=(lq9 O 0);(O.c (O.g 61 [] (xr x kR 0)) fun c0=>(O.b (O.h (O.e (O.d c0 0) u0)) (O.a [.str (O.s ⟨#[]⟩),.int u0,.int u0,.int u0,.int u0,.int u0,.int u0,.int u0,.bool O.f,.int u0,.int u0,.int u0,.int u0,.rows O.x,.int (O.lit .u8 0),.int u0,.bool O.f,.rows O.x,.int u0,.int u0,.int (O.lit .u8 0),.int u0,.int u0,.int (O.d c0 0)]) (O.c (O.g 91 [] (xr x kR 0)) fun c1=>(O.a (ap O (cr O c1 kR 0) [.int (O.lit .u8 1),.int u0,.bool O.f,.rows O.x,.int u0,.int u0,.int (O.lit .u8 0),.int u0,.int u0,.int u0])))))
def Kk:Nat→Env:=eL [(61,AP),(91,C3)]
theorem Ra {N ls}:Kk N 61 [] ls=AP N ls:=id rfl
theorem RX {N ls}:Kk N 91 [] ls=C3 N ls:=id rfl
def N0:=oS YG OE Kk
def PU:List Nat:=[0,0,0]
def Pi (O:Alg) (x:Ags O):O.M:=(O.a [.bool (O.i (O.t (x.I 1) (x.I 0)) (O.t (x.I 0) (x.I 2)) O.f)])
def Vg:Nat→Env:=eL []
def Ak:=oS PU Pi Vg
def Ph:List Nat:=[0,0,0,0,0,0,0,0,0,0,0,0,0,0,3,0,3,3,1,3,1,0,0,0,3,0,0,0,0]
def GL (O:Alg) (x:Ags O):O.M:=let u5:=(lq9 O 1);let u4:=(lq9 O 0);let u0:=(O.h (O.e (x.I 12) u4));(O.c (O.w (fun s0 c0=>let u8:=(O.d c0 1);let u7:=(O.d c0 0);let u6:=(O.d c0 3);let u2:=(O.o (x.L 14) u6 0);let u9:=(O.i (O.m c0 2) O.j (O.h (O.e u2 (O.lit .u8 0))));let u1:=(O.q .i64 u6 u5);(O.b (O.n u6 (O.l (x.L 14))) (O.k (O.r u6 (O.l (x.L 14))) (O.b (O.n (O.lit .u8 3) u2) (O.a [.int u4,.bool O.f]) (O.b (O.e u2 (O.lit .u8 1)) (O.b (O.i (O.h (O.e (x.I 12) u1)) (O.h (O.e (x.I 13) u1)) O.f) (O.a [.int u4,.bool O.f]) (s0 [.int u7,.int (O.q .i64 u8 u5),.bool u9,.int u1])) (O.b (O.e u2 (O.lit .u8 2)) (s0 [.int (O.q .i64 u7 u5),.int u8,.bool u9,.int u1]) (s0 [.int u7,.int u8,.bool u9,.int u1]))))) (O.a (ap O [.int u5] (cr O c0 [0,0,1] 0))))) [.int u4,.int u4,.bool O.f,.int u4]) fun c0=>(O.b (O.ab c0 0) (O.a [.bool (O.m c0 1)]) (O.c (O.g 159 [] [.int (x.I 12),.int u4,.int (x.I 28)]) fun c1=>let u3:=(O.h (O.m c1 0));(O.c (O.b (O.h u3) (O.g 159 [] [.int (x.I 13),.int u4,.int (x.I 28)]) (O.a [.bool O.f])) fun c2=>(O.b (O.i (O.i u3 O.j (O.h (O.m c2 0))) O.j (O.i (O.e (x.I 12) (x.I 13)) u0 O.f)) (O.a [.bool O.f]) (O.c (O.b u0 (O.a [.int (O.q .i64 u4 u5)]) (O.a [.int u4])) fun c3=>(O.c (O.b (O.h (O.e (x.I 13) u4)) (O.a [.int (O.q .i64 (O.d c3 0) u5)]) (O.a [.int (O.d c3 0)])) fun c4=>(O.a [.bool (O.i (O.i (O.e (O.d c4 0) (O.d c0 2)) (O.i (O.h (O.m c0 3)) O.j (O.n u4 (O.d c4 0))) O.f) (O.e (O.d c0 1) (x.I 4)) O.f)]))))))))
def H7:Nat→Env:=eL [(159,Ak)]
def EF:=oS Ph GL H7
def Od:List Nat:=[3,0]
def Fo (O:Alg) (x:Ags O):O.M:=(O.c (O.w (fun s0 c0=>let u0:=(O.d c0 0);(O.b (O.n u0 (O.l (x.L 0))) (O.k (O.r u0 (O.l (x.L 0))) (O.b (O.e (x.I 1) (O.o (x.L 0) u0 0)) (O.a [.int (lq9 O 0),.int u0]) (s0 [.int (O.q .i64 u0 (lq9 O 1))]))) (O.a [.int (lq9 O 1)]))) [.int (lq9 O 0)]) fun c0=>(O.b (O.ab c0 0) (O.a [.int (O.d c0 1)]) (O.a [.int (lq9 O (-1))])))
def Mt:Nat→Env:=eL []
def Dc:=oS Od Fo Mt
def LX:List Nat:=[3,0]
def Dn (O:Alg) (x:Ags O):O.M:=(O.c (O.g 198 [] [.rows (x.L 0),.int (x.I 1)]) fun c0=>(O.a [.bool (O.t (lq9 O 0) (O.d c0 0))]))
def FE:Nat→Env:=eL [(198,Dc)]
def Ap:=oS LX Dn FE
def M6:List Nat:=[3,0]
def E2 (O:Alg) (x:Ags O):O.M:=let u5:=(lq9 O 1);let u4:=(lq9 O 0);let u3:=(O.l (x.L 0));(O.c (O.w (fun s0 c0=>let u6:=(O.d c0 0);let u1:=(O.o (x.L 0) u6 0);(O.b (O.n u6 u3) (O.k (O.r u6 u3) (O.c (O.g 159 [] [.int u1,.int u5,.int (x.I 1)]) fun c1=>let u2:=(O.h (O.m c1 0));let u0:=(O.h u2);(O.k (O.h (O.z u0 (O.h (O.ao u4 u6 u3)))) (O.c (O.b u0 (O.g 184 [] [.rows (O.aq (x.L 0) u4 u6),.int u1]) (O.a [.bool O.f])) fun c2=>(O.b (O.i u2 O.j (O.m c2 0)) (O.a [.int u4,.bool O.f]) (s0 [.int (O.q .i64 u6 u5)])))))) (O.a [.int u5]))) [.int u4]) fun c0=>(O.b (O.ab c0 0) (O.a [.bool (O.m c0 1)]) (O.a [.bool O.j])))
def Dv:Nat→Env:=eL [(159,Ak),(184,Ap)]
def DG:=oS M6 E2 Dv
def M8:List Nat:=[0]
def E3 (O:Alg) (x:Ags O):O.M:=(O.c (O.g 159 [] [.int (x.I 0),.int (lq9 O 0),.int (lq9 O 1000000000)]) fun c0=>(O.a [.bool (O.h (O.m c0 0))]))
def GU:Nat→Env:=eL [(159,Ak)]
def DD:=oS M8 E3 GU
def PI:List Nat:=[0,0,0,0,0,0,0,0,0,0,0,0,0,0,3,0,3,3,1,3,1,0,0,0,3,0,0,0]
def GB (O:Alg) (x:Ags O):O.M:=let u2:=(lq9 O 0);let u1:=(O.ad (O.ac [[.int (x.I 1)],[.int (x.I 3)],[.int (x.I 5)],[.int (x.I 6)],[.int (x.I 7)],[.int (x.I 8)],[.int (x.I 9)],[.int (x.I 10)],[.int (x.I 21)],[.int (x.I 23)],[.int (x.I 25)],[.int (x.I 26)]]) (x.L 19));let u0:=(O.l u1);(O.k (O.v u0 8) (O.c (O.c (O.w (fun s0 c0=>let u3:=(O.d c0 0);(O.b (O.n u3 u0) (O.k (O.r u3 u0) (O.c (O.g 186 [] [.int (O.o u1 u3 0)]) fun c1=>(O.b (O.m c1 0) (O.a [.int u2,.int u3]) (s0 [.int (O.q .i64 u3 (lq9 O 1))])))) (O.a [.int (lq9 O 1)]))) [.int u2]) fun c0=>(O.b (O.ab c0 0) (O.a [.int (O.d c0 1)]) (O.a [.int (lq9 O (-1))]))) fun c0=>(O.a [.bool (O.h (O.t u2 (O.d c0 0)))])))
def IC:Nat→Env:=eL [(186,DD)]
def EJ:=oS PI GB IC
def R3:List Nat:=[2,0,0,0,0,0,0,0,1,0,0,0,0,3,0,0,0,0,0,0,0,0,0,0,0,0,0,0,3,0,3,3,1,3,1,0,0,0,3,0,0,0]
def Ih (O:Alg) (x:Ags O):O.M:=let u11:=(lq9 O 1);let u10:=(lq9 O 0);let u8:=(O.e (x.I 3) u10);let u7:=(O.h u8);let u4:=(O.i u8 (O.e (x.I 16) u10) O.f);(O.c (O.g 61 [] (xr x kR 0)) fun c0=>let u6:=(O.h (O.e (O.d c0 0) u10));(O.c (O.b (O.h u6) (O.g 159 [] [.int (x.I 14),.int u11,.int (lq9 O 2)]) (O.a [.bool O.f])) fun c1=>(O.b (O.i u6 O.j (O.h (O.m c1 0))) (O.a [.bool O.f]) (O.b (O.i (O.i (O.i (O.h (O.e (O.l (x.L 28)) (x.I 1))) O.j (O.h (O.e (O.l (x.L 33)) (x.I 1)))) O.j (O.h (O.e (O.l (x.L 38)) (x.I 1)))) O.j (O.n (O.lit .u8 5) (x.I 41))) (O.a [.bool O.f]) (O.c (O.g 160 [] (ap O (xr x kI 14) [.int (x.I 1)])) fun c2=>let u9:=(O.h (O.m c2 0));(O.c (O.b (O.h u9) (O.g 159 [] [.int (x.I 29),.int u10,.int (x.I 1)]) (O.a [.bool O.f])) fun c3=>let u5:=(O.i u9 O.j (O.h (O.m c3 0)));(O.c (O.b (O.h u5) (O.g 159 [] [.int (x.I 36),.int u10,.int (x.I 1)]) (O.a [.bool O.f])) fun c4=>let u3:=(O.i u5 O.j (O.h (O.m c4 0)));(O.c (O.b (O.h u3) (O.g 161 [] [.rows (x.L 30),.int (x.I 1)]) (O.a [.bool O.f])) fun c5=>let u2:=(O.i u3 O.j (O.h (O.m c5 0)));(O.c (O.b (O.h u2) (O.g 161 [] [.rows (x.L 31),.int (x.I 1)]) (O.a [.bool O.f])) fun c6=>(O.b (O.i u2 O.j (O.h (O.m c6 0))) (O.a [.bool O.f]) (O.c (O.b (O.z (O.h u4) u7) (O.g 159 [] [.int (x.I 16),.int u11,.int (x.I 3)]) (O.a [.bool O.f])) fun c7=>let u1:=(O.i u4 O.j (O.i u7 (O.m c7 0) O.f));(O.c (O.b u1 (O.g 159 [] [.int (x.I 25),.int u10,.int (O.u .i64 (x.I 4) u11)]) (O.a [.bool O.f])) fun c8=>let u0:=(O.i u1 (O.m c8 0) O.f);(O.c (O.b u0 (O.g 162 [] (xr x kI 14)) (O.a [.bool O.f])) fun c9=>(O.a [.bool (O.i u0 (O.m c9 0) O.f)]))))))))))))))
def CL:Nat→Env:=eL [(61,AP),(159,Ak),(160,EF),(161,DG),(162,EJ)]
def BI:=oS R3 Ih CL
def U2:List Nat:=[0]
def Ki (O:Alg) (x:Ags O):O.M:=(O.a [.int (O.u .i64 (lq9 O 3) (x.I 0))])
def SK:Nat→Env:=eL []
def BJ:=oS U2 Ki SK
def VY:List Nat:=[2,0,0,0,0,0,0,0,1,0,0,0,0,3,0,0,1,3,0,0,0,0,0,0]
def Kj (O:Alg) (x:Ags O):O.M:=let u0:=(lq9 O 2);(O.c (O.b (O.i (x.B 16) (O.t u0 (x.I 23)) O.f) (O.a [.bool (O.e (x.I 23) u0)]) (O.a [.bool (O.e (O.ap .i64 (x.I 23) u0) (lq9 O 1))])) fun c0=>(O.b (O.m c0 0) (O.c (O.g 135 [] [.int (x.I 15)]) fun c1=>(O.a [.int (O.d c1 0)])) (O.a [.int (x.I 15)])))
def L2:Nat→Env:=eL [(135,BJ)]
theorem Pn {N ls}:L2 N 135 [] ls=BJ N ls:=id rfl
def C1:=oS VY Kj L2
def VQ:List Nat:=[2,0,0,0,0,0,0,0,1,0,0,0,0,3,0,0,1,3,0,0,0,0,0]
def Ke (O:Alg) (x:Ags O):O.M:=let u2:=(lq9 O 0);let u1:=(lq9 O 1);let u0:=(O.l (x.L 17));(O.c (O.w (fun s0 c0=>let u3:=(O.d c0 0);(O.b (O.n u3 u0) (O.k (O.r u3 u0) (O.b (O.h (O.aj (O.e (O.o (x.L 17) u3 27) (O.lit .u8 0)) (O.i (O.e (x.I 14) (O.lit .u8 3)) (O.e u3 (O.u .i64 u0 u1)) O.f))) (O.a [.int u2,.bool O.f]) (s0 [.int (O.q .i64 u3 u1)]))) (O.a [.int u1]))) [.int u2]) fun c0=>(O.b (O.ab c0 0) (O.a [.bool (O.m c0 1)]) (O.a [.bool (O.i (O.h (O.e (x.I 14) (O.lit .u8 3))) O.j (O.n u2 u0))])))
def Rq:Nat→Env:=eL []
def Hx:=oS VQ Ke Rq
def VU:List Nat:=[2,0,0,0,0,0,0,0,1,0,0,0,0,3,0,0,1,3,0,0,0,0,0]
def Kt (O:Alg) (x:Ags O):O.M:=let u8:=(lq9 O 1);let u9:=(O.e (x.I 14) (O.lit .u8 1));let u7:=(lq9 O 2);let u6:=(lq9 O 0);let u5:=(O.l (x.L 17));let u3:=(O.e (x.I 15) u6);let u2:=(O.ai .i64 u7 (x.I 2));let u1:=(O.h (O.e (x.I 2) u7));(O.c (O.g 61 [] (xr x kR 0)) fun c0=>(O.b (O.i (O.i (O.h (O.e (O.d c0 0) u6)) O.j (O.n (x.I 14) (O.lit .u8 1))) O.j (O.n (O.lit .u8 5) (x.I 14))) (O.a [.bool O.f]) (O.c (O.w (fun s1 c1=>let u11:=(O.d c1 0);let u0:=(O.ah (O.e u11 u8) (x.I 19) (x.I 18));(O.b (O.n u11 u7) (O.k (O.r u11 u7) (O.b (O.i (O.n u0 u6) O.j (O.n (lq9 O 1000000) u0)) (O.a [.int u6,.bool O.f]) (s1 [.int (O.q .i64 u11 u8)]))) (O.a [.int u8]))) [.int u6]) fun c1=>(O.b (O.ab c1 0) (O.a [.bool (O.m c1 1)]) (O.b (O.i (O.i (O.n (x.I 15) u6) O.j (O.n u7 (x.I 15))) O.j (O.n u2 u5)) (O.a [.bool O.f]) (O.b (O.i u3 (O.i (O.n u6 u5) O.j (O.i (O.h u9) (O.h (O.e (x.I 14) (O.lit .u8 5))) O.f)) O.f) (O.a [.bool O.f]) (O.b (O.i u9 (O.h u3) O.f) (O.a [.bool O.f]) (O.b (O.i (O.e (x.I 14) (O.lit .u8 2)) (O.e u5 u2) O.f) (O.a [.bool O.f]) (O.b (O.i (O.e (x.I 14) (O.lit .u8 4)) (O.i u1 O.j (O.h (O.e u5 u7))) O.f) (O.a [.bool O.f]) (O.b (O.i (x.B 16) (O.i u1 O.j (O.n u5 u7)) O.f) (O.a [.bool O.f]) (O.c (O.w (fun s2 c2=>let u10:=(O.d c2 0);(O.b (O.n u10 u5) (O.k (O.r u10 u5) (O.c (O.g 127 [] (ap O (xr x kR 0) (rr O (x.L 17) u10 kI 0))) fun c3=>let u4:=(O.h (O.m c3 0));(O.c (O.b (O.h u4) (O.g 128 [] (ap O (xr x kM 0) [.int u10])) (O.a [.int u6])) fun c4=>(O.b (O.i u4 O.j (O.h (O.e (O.o (x.L 17) u10 0) (O.d c4 0)))) (O.a [.int u6,.bool O.f]) (s2 [.int (O.q .i64 u10 u8)]))))) (O.a [.int u8]))) [.int u6]) fun c2=>(O.b (O.ab c2 0) (O.a [.bool (O.m c2 1)]) (O.c (O.g 129 [] (xr x kM 0)) fun c3=>(O.a [.bool (O.m c3 0)]))))))))))))))
def Dr:Nat→Env:=eL [(61,AP),(127,BI),(128,C1),(129,Hx)]
theorem Pw {N ls}:Dr N 61 [] ls=AP N ls:=id rfl
theorem G8 {N ls}:Dr N 127 [] ls=BI N ls:=id rfl
theorem Id {N ls}:Dr N 128 [] ls=C1 N ls:=id rfl
theorem IK {N ls}:Dr N 129 [] ls=Hx N ls:=id rfl
def C4:=oS VU Kt Dr
def TP:List Nat:=[0]
def Jq (O:Alg) (x:Ags O):O.M:=(O.b (O.e (x.I 0) (O.lit .u8 7)) (O.a [.int (lq9 O 0),.int (lq9 O 11)]) (O.b (O.e (x.I 0) (O.lit .u8 13)) (O.a [.int (lq9 O 1),.int (lq9 O 99)]) (O.a [.int (lq9 O 0),.int (lq9 O 100000)])))
def RP:Nat→Env:=eL []
def Gf:=oS TP Jq RP
def SY:List Nat:=[0,0,0]
def L7 (O:Alg) (x:Ags O):O.M:=(O.a [.bool (O.i (O.t (x.I 1) (x.I 0)) (O.t (x.I 0) (x.I 2)) O.f)])
def Pc:Nat→Env:=eL []
def FW:=oS SY L7 Pc
def CJ (N:Nat) (ls:List PV):Option (List PV):=bP ls
def M4:List Nat:=[2,0]
def E6 (O:Alg) (x:Ags O):O.M:=(O.c (O.g 187 [] [.str (x.S 0),.int (x.I 1)]) fun c0=>(O.a [.int (O.d c0 0)]))
def GY:Nat→Env:=eL [(187,CJ)]
theorem G0 {N ls}:GY N 187 [] ls=CJ N ls:=id rfl
def DC:=oS M4 E6 GY
def U3:List Nat:=[]
def Vf (O:Alg) (x:Ags O):O.M:=let u4:=(O.s ⟨#[]⟩);let u3:=(O.s ⟨#[112]⟩);let u2:=(O.s ⟨#[112,121]⟩);let u1:=(O.s ⟨#[115,121]⟩);let u0:=(O.s ⟨#[70,73,69,76,68]⟩);(O.a [.rows (O.ac [[.str (O.s ⟨#[84,79,83,83]⟩),.str u1,.str (O.s ⟨#[66,65,84]⟩),.str u0],[.str (O.s ⟨#[79,80,69,78]⟩),.str (O.s ⟨#[112,111]⟩),.str u4,.str u4],[.str (O.s ⟨#[66,79,87,76]⟩),.str u3,.str u4,.str u4],[.str (O.s ⟨#[66,65,76,76]⟩),.str (O.s ⟨#[98]⟩),.str u4,.str u4],[.str (O.s ⟨#[69,78,84,69,82]⟩),.str u3,.str u4,.str u4],[.str (O.s ⟨#[82,69,84,73,82,69]⟩),.str u2,.str (O.s ⟨#[72,85,82,84]⟩),.str (O.s ⟨#[79,85,84]⟩)],[.str u0,.str (O.s ⟨#[114]⟩),.str u4,.str u4],[.str (O.s ⟨#[75,69,69,80,69,82]⟩),.str u3,.str u4,.str u4],[.str (O.s ⟨#[83,85,66]⟩),.str u2,.str (O.s ⟨#[79,78]⟩),.str (O.s ⟨#[79,70,70]⟩)],[.str (O.s ⟨#[78,69,87,66,65,76,76]⟩),.str u4,.str u4,.str u4],[.str (O.s ⟨#[68,69,67,76,65,82,69]⟩),.str (O.s ⟨#[115]⟩),.str u4,.str u4],[.str (O.s ⟨#[70,79,76,76,79,87]⟩),.str u1,.str (O.s ⟨#[89,69,83]⟩),.str (O.s ⟨#[78,79]⟩)],[.str (O.s ⟨#[80,69,78,65,76,84,89]⟩),.str (O.s ⟨#[115,114]⟩),.str u4,.str u4],[.str (O.s ⟨#[82,69,86,73,69,87]⟩),.str u1,.str (O.s ⟨#[75,69,80,84]⟩),.str (O.s ⟨#[76,79,83,84]⟩)],[.str (O.s ⟨#[82,69,86,73,83,69]⟩),.str (O.s ⟨#[114,118]⟩),.str u4,.str u4],[.str (O.s ⟨#[83,84,79,80]⟩),.str u4,.str u4,.str u4]])])
def cF:Nat→Env:=eL []
def FK:=oS U3 Vf cF
def Wo:List Nat:=[0,0]
def L3 (O:Alg) (x:Ags O):O.M:=(O.c (O.g 164 [] []) fun c0=>(O.k (O.r (O.u .u8 (x.I 0) (O.lit .u8 1)) (O.l (O.p c0 0))) (O.c (O.g 163 [] [.str (O.rS (O.p c0 0) (O.u .u8 (x.I 0) (O.lit .u8 1)) 1),.int (x.I 1)]) fun c1=>(O.a [.bool (O.i (O.t (lq9 O 0) (O.d c1 0)) O.j (O.i (O.e (x.I 0) (O.lit .u8 5)) (O.e (x.I 1) (O.lit .u8 121)) O.f))]))))
def JZ:Nat→Env:=eL [(163,DC),(164,FK)]
theorem MW {N ls}:JZ N 163 [] ls=DC N ls:=id rfl
theorem Qq {N ls}:JZ N 164 [] ls=FK N ls:=id rfl
def JC:=oS Wo L3 JZ
def OT:List Nat:=[0,0,0]
def Ij (O:Alg) (x:Ags O):O.M:=(O.a [.bool (O.i (O.t (x.I 1) (x.I 0)) (O.t (x.I 0) (x.I 2)) O.f)])
def Lw:Nat→Env:=eL []
def Dk:=oS OT Ij Lw
def Qp:List Nat:=[0,0,0,0,0,1,0,0,0,0,1,0]
def HX (O:Alg) (x:Ags O):O.M:=let u5:=(lq9 O 0);(O.b (O.i (O.i (O.i (O.n (x.I 0) (O.lit .u8 1)) O.j (O.n (O.lit .u8 3) (x.I 0))) O.j (O.n (O.lit .u8 3) (x.I 1))) O.j (O.n (O.lit .u8 10) (x.I 6))) (O.a [.int (lq9 O 3)]) (O.c (O.g 165 [] [.int (x.I 2),.int u5,.int (lq9 O 7)]) fun c0=>let u4:=(O.h (O.m c0 0));(O.c (O.b (O.h u4) (O.g 165 [] [.int (x.I 3),.int u5,.int (x.I 2)]) (O.a [.bool O.f])) fun c1=>let u3:=(O.i (O.i u4 O.j (O.h (O.m c1 0))) O.j (O.i (O.i (O.h (O.e (x.I 4) u5)) (O.h (O.e (x.I 4) (lq9 O 4))) O.f) (O.h (O.e (x.I 4) (lq9 O 6))) O.f));(O.c (O.b (O.h u3) (O.g 165 [] [.int (x.I 7),.int u5,.int (lq9 O 2)]) (O.a [.bool O.f])) fun c2=>let u2:=(O.i u3 O.j (O.h (O.m c2 0)));(O.c (O.b (O.h u2) (O.g 165 [] [.int (x.I 8),.int u5,.int (lq9 O 11)]) (O.a [.bool O.f])) fun c3=>let u1:=(O.i u2 O.j (O.h (O.m c3 0)));(O.c (O.b (O.h u1) (O.g 165 [] [.int (x.I 9),.int u5,.int (lq9 O 11)]) (O.a [.bool O.f])) fun c4=>let u0:=(O.i u1 O.j (O.h (O.m c4 0)));(O.c (O.b (O.h u0) (O.g 165 [] [.int (x.I 11),.int u5,.int (lq9 O 8)]) (O.a [.bool O.f])) fun c5=>(O.b (O.i u0 O.j (O.h (O.m c5 0))) (O.a [.int (lq9 O 2)]) (O.a [.int u5])))))))))
def JH:Nat→Env:=eL [(165,Dk)]
theorem Kd {N ls}:JH N 165 [] ls=Dk N ls:=id rfl
def Er:=oS Qp HX JH
def VL:List Nat:=[0,0,0,0,1,0,0,0,0,0,0,0,1,0,0,0,0,1,0]
def Hp (O:Alg) (x:Ags O):O.M:=let u14:=(lq9 O 1);let u13:=(lq9 O 0);let u8:=(O.e (x.I 9) u13);let u15:=(O.lit .u8 0);let u7:=(O.e (x.I 6) u13);let u6:=(O.e (x.I 5) u13);let u5:=(O.e (x.I 3) u13);let u4:=(O.e (x.I 2) u13);let u3:=(O.e (x.I 1) u13);let u2:=(O.e (x.I 11) u13);let u1:=(O.e (x.I 10) u13);let u0:=(O.z (O.e (x.I 14) u13) (O.z (O.e (x.I 15) u13) (O.z (O.e (x.I 16) u13) (O.z (O.aj (x.B 17) O.f) (O.e (x.I 18) u13)))));(O.b (O.i (O.n (x.I 0) (O.lit .u8 1)) O.j (O.n (O.lit .u8 16) (x.I 0))) (O.a [.int (lq9 O 3)]) (O.c (O.g 130 [] [.int (x.I 0)]) fun c0=>(O.c (O.g 131 [] [.int (x.I 1),.int u14,.int (lq9 O 2)]) fun c1=>(O.c (O.g 131 [] [.int (x.I 2),.int u14,.int (lq9 O 11)]) fun c2=>(O.c (O.g 131 [] [.int (x.I 3),.int u14,.int (lq9 O 11)]) fun c3=>(O.c (O.g 131 [] [.int (x.I 5),.int (O.d c0 0),.int (O.d c0 1)]) fun c4=>(O.c (O.g 131 [] [.int (x.I 6),.int u13,.int (lq9 O 90)]) fun c5=>let u12:=(O.ac [[.int (O.lit .u8 115),.bool u3,.bool (O.m c1 0)],[.int (O.lit .u8 112),.bool u4,.bool (O.m c2 0)],[.int (O.lit .u8 111),.bool u5,.bool (O.m c3 0)],[.int (O.lit .u8 121),.bool (O.h (x.B 4)),.bool O.j],[.int (O.lit .u8 114),.bool u6,.bool (O.m c4 0)],[.int (O.lit .u8 118),.bool u7,.bool (O.m c5 0)],[.int (O.lit .u8 98),.bool (O.z (O.e (x.I 7) u15) (O.z (O.e (x.I 8) u15) (O.z u8 (O.z u1 (O.z u2 (O.z (O.aj (x.B 12) O.f) (O.z (O.e (x.I 13) u15) u0))))))),.bool O.j]]);let u11:=(O.l u12);(O.c (O.w (fun s6 c6=>let u16:=(O.d c6 0);let u9:=(O.h (O.rB u12 u16 1));(O.b (O.n u16 u11) (O.k (O.r u16 u11) (O.c (O.b u9 (O.g 132 [] [.int (x.I 0),.int (O.o u12 u16 0)]) (O.a [.bool O.f])) fun c7=>(O.b (O.i u9 (O.h (O.m c7 0)) O.f) (O.a [.int u13,.int u14]) (s6 [.int (O.q .i64 u16 u14)])))) (O.a [.int u14]))) [.int u13]) fun c6=>(O.b (O.ab c6 0) (O.a [.int (O.d c6 1)]) (O.c (O.w (fun s7 c7=>let u17:=(O.d c7 0);let u10:=(O.h (O.rB u12 u17 2));(O.b (O.n u17 u11) (O.k (O.r u17 u11) (O.c (O.b u10 (O.g 132 [] [.int (x.I 0),.int (O.o u12 u17 0)]) (O.a [.bool O.f])) fun c8=>(O.b (O.i u10 (O.m c8 0) O.f) (O.a [.int u13,.int (lq9 O 2)]) (s7 [.int (O.q .i64 u17 u14)])))) (O.a [.int u14]))) [.int u13]) fun c7=>(O.b (O.ab c7 0) (O.a [.int (O.d c7 1)]) (O.b (O.e (x.I 0) (O.lit .u8 4)) (O.c (O.g 133 [] (xr x [0,0,0,0,0,1,0,0,0,0,1,0] 7)) fun c8=>(O.a [.int (O.d c8 0)])) (O.a [.int u13])))))))))))))
def Du:Nat→Env:=eL [(130,Gf),(131,FW),(132,JC),(133,Er)]
theorem Hn {N ls}:Du N 130 [] ls=Gf N ls:=id rfl
theorem G6 {N ls}:Du N 131 [] ls=FW N ls:=id rfl
theorem I5 {N ls}:Du N 132 [] ls=JC N ls:=id rfl
theorem DJ {N ls}:Du N 133 [] ls=Er N ls:=id rfl
def C0:=oS VL Hp Du
def AX (N:Nat) (ls:List PV):Option (List PV):=Om 1 ls
def Ag (N:Nat) (ls:List PV):Option (List PV):=Om 8 ls
def Aa (N:Nat) (ls:List PV):Option (List PV):=Om 1 ls
def R6:List Nat:=[0,0,0,0,0,0,0,0,0,0,0,0,0,0,3,0,3,3,1,3,1,0,0,0,3,0,0,0]
def II (O:Alg) (x:Ags O):O.M:=(O.c (O.g 166 [] [.rows (x.L 14)]) fun c0=>(O.c (O.g 167 [] [.rows (x.L 16)]) fun c1=>(O.c (O.g 167 [] [.rows (x.L 17)]) fun c2=>(O.c (O.g 167 [] [.rows (x.L 19)]) fun c3=>(O.c (O.g 168 [] [.rows (x.L 24)]) fun c4=>(O.a (ap O (xr x [0,0,0,0,0,0,0,0,0,0,0,0,0,0] 0) (ap O [.rows (O.p c0 0),.int (x.I 15),.rows (O.p c1 0),.rows (O.p c2 0),.bool (x.B 18),.rows (O.p c3 0)] (ap O (xr x [1,0,0,0] 20) (ap O [.rows (O.p c4 0)] (xr x [0,0,0] 25)))))))))))
def EB:Nat→Env:=eL [(166,AX),(167,Ag),(168,Aa)]
theorem Jn {N ls}:EB N 166 [] ls=AX N ls:=id rfl
theorem K6 {N ls}:EB N 167 [] ls=Ag N ls:=id rfl
theorem J9 {N ls}:EB N 168 [] ls=Aa N ls:=id rfl
def AO:=oS R6 II EB
def VW:List Nat:=[2,0,0,0,0,0,0,0,1,0,0,0,0,3,0,0,1,3,0,0,0,0,0]
def Kn (O:Alg) (x:Ags O):O.M:=(O.c (O.g 91 [] (xr x kR 0)) fun c0=>(O.c (O.w (fun s1 c1=>let u1:=(O.d c1 1);(O.b (O.n u1 (O.l (x.L 17))) (O.k (O.r u1 (O.l (x.L 17))) (O.c (O.g 134 [] (rr O (x.L 17) u1 kI 0)) fun c2=>let u0:=(O.ad (O.p c1 0) (O.ac [(cr O c2 kI 0)]));(O.k (O.v (O.l u0) 304) (s1 [.rows u0,.int (O.q .i64 u1 (lq9 O 1))])))) (O.a [.rows (O.p c1 0)]))) [.rows O.x,.int (lq9 O 0)]) fun c1=>(O.a (ap O (cr O c0 kR 0) (ap O (xr x [0,0,1] 14) (ap O [.rows (O.p c1 0)] (xr x [0,0,0,0,0] 18)))))))
def IP:Nat→Env:=eL [(91,C3),(134,AO)]
theorem QB {N ls}:IP N 91 [] ls=C3 N ls:=id rfl
theorem G1 {N ls}:IP N 134 [] ls=AO N ls:=id rfl
def Hd:=oS VW Kn IP
def VF:List Nat:=[2,0,0,0,0,0,0,0,1,0,0,0,0,3,0,0,1,3,0,0,0,0,0,0]
def Ko (O:Alg) (x:Ags O):O.M:=(O.c (O.w (fun s0 c0=>let u2:=(O.d c0 0);let u1:=(O.d c0 1);let u0:=(O.q .i64 u1 (lq9 O 1));(O.b (O.n u1 (O.l (x.L 17))) (O.k (O.r u1 (O.l (x.L 17))) (O.b (O.e (O.o (x.L 17) u1 0) (x.I 23)) (s0 [.int (O.q .i64 u2 (O.o (x.L 17) u1 3)),.int u0]) (s0 [.int u2,.int u0]))) (O.a [.int u2]))) [.int (lq9 O 0),.int (lq9 O 0)]) fun c0=>(O.a [.int (O.d c0 0)]))
def Rv:Nat→Env:=eL []
def Bo:=oS VF Ko Rv
def OL:List Nat:=[2,0,0,0,0,0,0,0,1,0,0,0,0,3]
def Fr (O:Alg) (x:Ags O):O.M:=(O.b (O.e (x.I 3) (lq9 O 0)) (O.a [.int (O.lit .u8 5)]) (O.a [.int (O.lit .u8 6)]))
def MR:Nat→Env:=eL []
def Bi:=oS OL Fr MR
def Rj:List Nat:=[2,0,0,0,0,0,0,0,1,0,0,0,0,3,0,0,1,3,0,0,0,0,0]
def Ib (O:Alg) (x:Ags O):O.M:=let u10:=(lq9 O 1);let u9:=(lq9 O 0);let u8:=(O.l (x.L 17));let u11:=(O.lit .u8 0);let u7:=(O.e u8 (lq9 O 3));let u6:=(O.u .i64 u8 u10);let u5:=(O.e u8 (O.ai .i64 (lq9 O 2) (x.I 2)));let u4:=(O.o (x.L 17) u6 1);let u3:=(O.o (x.L 17) u6 3);let u2:=(O.o (x.L 17) u6 0);let u1:=(O.o (x.L 17) u6 27);let u0:=(O.u .i64 u4 u10);(O.c (O.g 106 [] (xr x kM 0)) fun c0=>(O.b (O.i (O.h (O.m c0 0)) O.j (O.e u8 u9)) (O.a [.int u11,.int u9,.int u9]) (O.k (O.r u6 u8) (O.c (O.g 135 [] [.int u2]) fun c1=>let u12:=(O.d c1 0);(O.b (O.e u1 (O.lit .u8 5)) (O.c (O.g 172 [] (xr x kR 0)) fun c2=>(O.a [.int (O.d c2 0),.int u9,.int u9])) (O.b (O.e u1 u11) (O.a [.int u11,.int u9,.int u9]) (O.b (O.i u5 (O.t u4 u3) O.f) (O.a [.int (O.lit .u8 2),.int u2,.int (O.u .i64 (O.u .i64 (x.I 1) u10) (O.o (x.L 17) u6 4))]) (O.b (O.i u5 (O.e u3 u0) O.f) (O.a [.int (O.lit .u8 4),.int u9,.int u9]) (O.b u5 (O.a [.int (O.lit .u8 1),.int u12,.int (O.u .i64 u0 u3)]) (O.c (O.b u7 (O.g 139 [] (ap O (xr x kM 0) [.int u2])) (O.a [.int u9])) fun c2=>(O.c (O.b u7 (O.g 139 [] (ap O (xr x kM 0) [.int u12])) (O.a [.int u9])) fun c3=>(O.b (O.i u7 (O.n (O.d c2 0) (O.d c3 0)) O.f) (O.c (O.g 139 [] (ap O (xr x kM 0) [.int u12])) fun c4=>(O.c (O.g 139 [] (ap O (xr x kM 0) [.int u2])) fun c5=>(O.a [.int (O.lit .u8 3),.int u12,.int (O.u .i64 (O.d c4 0) (O.d c5 0))]))) (O.a [.int u11,.int u9,.int u9])))))))))))))
def Cz:Nat→Env:=eL [(106,C4),(135,BJ),(139,Bo),(172,Bi)]
theorem Oa {N ls}:Cz N 106 [] ls=C4 N ls:=id rfl
theorem OP {N ls}:Cz N 135 [] ls=BJ N ls:=id rfl
theorem Ok {N ls}:Cz N 139 [] ls=Bo N ls:=id rfl
theorem K9 {N ls}:Cz N 172 [] ls=Bi N ls:=id rfl
def Fa:=oS Rj Ib Cz
def SC:List Nat:=[2,0,0,0,0,0,0,0,1,0,0,0,0,3,0,0,0]
def IH (O:Alg) (x:Ags O):O.M:=let u4:=(lq9 O 0);let u3:=(O.v (x.I 1) 1);let u2:=(lq9 O 1000000);(O.c (O.g 61 [] (xr x kR 0)) fun c0=>(O.b (O.h (O.e (O.d c0 0) u4)) (O.a [.int u4,.int u4,.int u4,.int u4,.int u4,.int u4,.int u4,.int u4,.int u4,.int u4,.int u4,.int u4,.int u4,.int u4,.rows O.x,.int u4,.rows O.x,.rows O.x,.bool O.f,.rows O.x,.bool O.f,.int u4,.int u4,.int u4,.rows O.x,.int u4,.int u4,.int (O.lit .u8 0),.int (O.d c0 0)]) (O.c (O.g 159 [] [.int (x.I 14),.int (lq9 O 1),.int (lq9 O 2)]) fun c1=>let u1:=(O.h (O.m c1 0));(O.c (O.b (O.h u1) (O.g 159 [] [.int (x.I 15),.int u4,.int u2]) (O.a [.bool O.f])) fun c2=>let u0:=(O.i u1 O.j (O.h (O.m c2 0)));(O.c (O.b (O.h u0) (O.g 159 [] [.int (x.I 16),.int u4,.int u2]) (O.a [.bool O.f])) fun c3=>(O.b (O.i u0 O.j (O.h (O.m c3 0))) (O.a [.int u4,.int u4,.int u4,.int u4,.int u4,.int u4,.int u4,.int u4,.int u4,.int u4,.int u4,.int u4,.int u4,.int u4,.rows O.x,.int u4,.rows O.x,.rows O.x,.bool O.f,.rows O.x,.bool O.f,.int u4,.int u4,.int u4,.rows O.x,.int u4,.int u4,.int (O.lit .u8 0),.int (lq9 O 2)]) (O.k u3 (O.k (O.v (x.I 1) 8) (O.k u3 (O.a [.int (x.I 14),.int (x.I 15),.int (x.I 3),.int (x.I 16),.int u4,.int u4,.int u4,.int u4,.int u4,.int (x.I 16),.int u4,.int u4,.int u4,.int u4,.rows (O.as (x.I 1) [.int (O.lit .u8 0)]),.int u4,.rows O.x,.rows O.x,.bool O.f,.rows (O.as (x.I 1) [.int u4]),.bool O.f,.int u4,.int u4,.int u4,.rows (O.as (x.I 1) [.bool O.f]),.int u4,.int u4,.int (O.lit .u8 0),.int u4]))))))))))
def GO:Nat→Env:=eL [(61,AP),(159,Ak)]
theorem Oi {N ls}:GO N 61 [] ls=AP N ls:=id rfl
theorem Lj {N ls}:GO N 159 [] ls=Ak N ls:=id rfl
def Fb:=oS SC IH GO
def TE:List Nat:=[2,0,0,0,0,0,0,0,1,0,0,0,0,3,0,0,1,3,0,0,0,0,0,0]
def Jk (O:Alg) (x:Ags O):O.M:=(O.b (O.n (O.q .i64 (O.l (x.L 17)) (lq9 O 1)) (O.ai .i64 (lq9 O 2) (x.I 2))) (O.a [.int (lq9 O 0)]) (O.c (O.g 135 [] [.int (x.I 23)]) fun c0=>(O.c (O.g 139 [] (ap O (xr x kM 0) [.int (O.d c0 0)])) fun c1=>(O.c (O.g 139 [] (xr x [2,0,0,0,0,0,0,0,1,0,0,0,0,3,0,0,1,3,0,0,0,0,0,0] 0)) fun c2=>(O.a [.int (O.q .i64 (O.u .i64 (O.d c1 0) (O.d c2 0)) (lq9 O 1))])))))
def Ha:Nat→Env:=eL [(135,BJ),(139,Bo)]
theorem Oy {N ls}:Ha N 135 [] ls=BJ N ls:=id rfl
theorem PF {N ls}:Ha N 139 [] ls=Bo N ls:=id rfl
def Gj:=oS TE Jk Ha
def PZ:List Nat:=[0]
def J7 (O:Alg) (x:Ags O):O.M:=(O.a [.bool (O.h (O.e (x.I 0) (O.lit .u8 0)))])
def M7:Nat→Env:=eL []
def EA:=oS PZ J7 M7
def SJ:List Nat:=[0,0,0,0,0,0,0,0,0,0,0,0,0,0,3,0,3,3,1,3,1,0,0,0,3,0,0,0]
def IU (O:Alg) (x:Ags O):O.M:=let u0:=(lq9 O 0);(O.c (O.c (O.w (fun s0 c0=>let u1:=(O.d c0 0);(O.b (O.n u1 (O.l (x.L 14))) (O.k (O.r u1 (O.l (x.L 14))) (O.c (O.g 202 [] [.int (O.o (x.L 14) u1 0)]) fun c1=>(O.b (O.m c1 0) (O.a [.int u0,.int u1]) (s0 [.int (O.q .i64 u1 (lq9 O 1))])))) (O.a [.int (lq9 O 1)]))) [.int u0]) fun c0=>(O.b (O.ab c0 0) (O.a [.int (O.d c0 1)]) (O.a [.int (lq9 O (-1))]))) fun c0=>(O.a [.bool (O.t u0 (O.d c0 0))]))
def J6:Nat→Env:=eL [(202,EA)]
theorem FA {N ls}:J6 N 202 [] ls=EA N ls:=id rfl
def Fv:=oS SJ IU J6
def WD:List Nat:=[0,0,0,0,0,0,0,0,0,0,0,0,0,0,3,0,3,3,1,3,1,0,0,0,3,0,0,0]
def MC (O:Alg) (x:Ags O):O.M:=(O.c (O.g 166 [] [.rows (x.L 14)]) fun c0=>(O.c (O.g 167 [] [.rows (x.L 16)]) fun c1=>(O.c (O.g 167 [] [.rows (x.L 17)]) fun c2=>(O.c (O.g 167 [] [.rows (x.L 19)]) fun c3=>(O.c (O.g 168 [] [.rows (x.L 24)]) fun c4=>(O.a (ap O (xr x [0,0,0,0,0,0,0,0,0,0,0,0,0,0] 0) (ap O [.rows (O.p c0 0),.int (x.I 15),.rows (O.p c1 0),.rows (O.p c2 0),.bool (x.B 18),.rows (O.p c3 0)] (ap O (xr x [1,0,0,0] 20) (ap O [.rows (O.p c4 0)] (xr x [0,0,0] 25)))))))))))
def Ge:Nat→Env:=eL [(166,AX),(167,Ag),(168,Aa)]
theorem LR {N ls}:Ge N 166 [] ls=AX N ls:=id rfl
theorem Mw {N ls}:Ge N 167 [] ls=Ag N ls:=id rfl
theorem MU {N ls}:Ge N 168 [] ls=Aa N ls:=id rfl
def Av:=oS WD MC Ge
def RT:List Nat:=[0]
def LQ (O:Alg) (x:Ags O):O.M:=(O.a [.bool (O.h (O.e (x.I 0) (O.lit .u8 0)))])
def OS:Nat→Env:=eL []
def Ch:=oS RT LQ OS
def Tg:List Nat:=[0,0,0,0,0,0,0,0,0,0,0,0,0,0,3,0,3,3,1,3,1,0,0,0,3,0,0,0]
def EZ (O:Alg) (x:Ags O):O.M:=let u0:=(lq9 O 0);(O.c (O.c (O.w (fun s0 c0=>let u1:=(O.d c0 0);(O.b (O.n u1 (O.l (x.L 14))) (O.k (O.r u1 (O.l (x.L 14))) (O.c (O.g 262 [] [.int (O.o (x.L 14) u1 0)]) fun c1=>(O.b (O.m c1 0) (O.a [.int u0,.int u1]) (s0 [.int (O.q .i64 u1 (lq9 O 1))])))) (O.a [.int (lq9 O 1)]))) [.int u0]) fun c0=>(O.b (O.ab c0 0) (O.a [.int (O.d c0 1)]) (O.a [.int (lq9 O (-1))]))) fun c0=>(O.a [.bool (O.t u0 (O.d c0 0))]))
def En:Nat→Env:=eL [(262,Ch)]
theorem F8 {N ls}:En N 262 [] ls=Ch N ls:=id rfl
def Bu:=oS Tg EZ En
def TC:List Nat:=[0,0,0,0,0,0,0,0,0,0,0,0,0,0,3,0,3,3,1,3,1,0,0,0,3,0,0,0,0]
def Jc (O:Alg) (x:Ags O):O.M:=(O.a [.bool (O.i (O.t (lq9 O 1) (x.I 28)) (O.t (x.I 28) (O.l (x.L 14))) O.f)])
def RD:Nat→Env:=eL []
def Au:=oS TC Jc RD
def VE:List Nat:=[0,0,0,0,0,0,0,0,0,0,0,0,0,0,3,0,3,3,1,3,1,0,0,0,3,0,0,0,0,0]
def K4 (O:Alg) (x:Ags O):O.M:=let u3:=(lq9 O 1);let u1:=(O.u .i64 (x.I 29) u3);let u0:=(O.u .i64 (x.I 28) u3);(O.c (O.g 234 [] (xr x kI 0)) fun c0=>let u4:=(O.p c0 14);(O.c (O.g 235 [] (xr x kI 0)) fun c1=>(O.b (O.m c1 0) (O.a (ap O (cr O c0 kI 0) [.int u3])) (O.c (O.g 236 [] (xr x [0,0,0,0,0,0,0,0,0,0,0,0,0,0,3,0,3,3,1,3,1,0,0,0,3,0,0,0,0] 0)) fun c2=>let u2:=(O.h (O.m c2 0));(O.c (O.b (O.h u2) (O.g 236 [] (ap O (xr x kI 0) [.int (x.I 29)])) (O.a [.bool O.f])) fun c3=>(O.b (O.i u2 O.j (O.h (O.m c3 0))) (O.a (ap O (cr O c0 kI 0) [.int (lq9 O 3)])) (O.b (O.e (x.I 28) (x.I 29)) (O.a (ap O (cr O c0 kI 0) [.int (lq9 O 4)])) (O.k (O.r u0 (O.l u4)) (O.k (O.r u1 (O.l (O.aa u4 u0 0 [.int (O.lit .u8 1)]))) (O.a (ap O (cr O c0 [0,0,0,0,0,0,0,0,0,0,0,0] 0) (ap O [.int (x.I 28),.int (x.I 29),.rows (O.aa (O.aa u4 u0 0 [.int (O.lit .u8 1)]) u1 0 [.int (O.lit .u8 1)])] (ap O (cr O c0 [0,3,3,1,3,1,0,0,0,3,0,0,0] 15) [.int (lq9 O 0)])))))))))))))
def Ft:Nat→Env:=eL [(234,Av),(235,Bu),(236,Au)]
theorem Qm {N ls}:Ft N 234 [] ls=Av N ls:=id rfl
theorem O9 {N ls}:Ft N 235 [] ls=Bu N ls:=id rfl
theorem PG {N ls}:Ft N 236 [] ls=Au N ls:=id rfl
def Hu:=oS VE K4 Ft
def YB:List Nat:=[0,0,0,0,0,0,0,0,0,0,0,0,0,0,3,0,3,3,1,3,1,0,0,0,3,0,0,0]
def OG (O:Alg) (x:Ags O):O.M:=(O.c (O.g 166 [] [.rows (x.L 14)]) fun c0=>(O.c (O.g 167 [] [.rows (x.L 16)]) fun c1=>(O.c (O.g 167 [] [.rows (x.L 17)]) fun c2=>(O.c (O.g 167 [] [.rows (x.L 19)]) fun c3=>(O.c (O.g 168 [] [.rows (x.L 24)]) fun c4=>(O.a (ap O (xr x [0,0,0,0,0,0,0,0,0,0,0,0,0,0] 0) (ap O [.rows (O.p c0 0),.int (x.I 15),.rows (O.p c1 0),.rows (O.p c2 0),.bool (x.B 18),.rows (O.p c3 0)] (ap O (xr x [1,0,0,0] 20) (ap O [.rows (O.p c4 0)] (xr x [0,0,0] 25)))))))))))
def Hb:Nat→Env:=eL [(166,AX),(167,Ag),(168,Aa)]
theorem Lk {N ls}:Hb N 166 [] ls=AX N ls:=id rfl
theorem Nu {N ls}:Hb N 167 [] ls=Ag N ls:=id rfl
theorem Mz {N ls}:Hb N 168 [] ls=Aa N ls:=id rfl
def CU:=oS YB OG Hb
def U4:List Nat:=[0,0,0,0,0,0,0,0,0,0,0,0,0,0,3,0,3,3,1,3,1,0,0,0,3,0,0,0,0]
def Kv (O:Alg) (x:Ags O):O.M:=(O.a [.bool (O.i (O.t (lq9 O 1) (x.I 28)) (O.t (x.I 28) (O.l (x.L 19))) O.f)])
def SG:Nat→Env:=eL []
def Bq:=oS U4 Kv SG
def Wa:List Nat:=[2,0,0,0,0,0,0,0,1,0,0,0,0,3,0,0,0,0,0,0,0,0,0,0,0,0,0,0,3,0,3,3,1,3,1,0,0,0,3,0,0,0,0]
def Mn (O:Alg) (x:Ags O):O.M:=let u4:=(lq9 O 0);let u2:=(O.u .i64 (x.I 42) (lq9 O 1));let u1:=(O.o (x.L 33) u2 0);let u0:=(O.u .i64 (O.ai .i64 (x.I 5) (x.I 4)) (O.ah (O.n u1 u4) u4 u1));(O.c (O.g 263 [] (xr x [0,0,0,0,0,0,0,0,0,0,0,0,0,0,3,0,3,3,1,3,1,0,0,0,3,0,0,0,0] 14)) fun c0=>let u3:=(O.h (O.m c0 0));(O.c (O.b (O.h u3) (O.g 61 [] (xr x kR 0)) (O.a [.int u4])) fun c1=>(O.b (O.i u3 O.j (O.h (O.e (O.d c1 0) u4))) (O.a [.int u4]) (O.b (O.e (x.I 5) u4) (O.a [.int (lq9 O (-1))]) (O.k (O.r u2 (O.l (x.L 33))) (O.a [.int (O.ah (O.n u0 u4) u4 u0)]))))))
def Jf:Nat→Env:=eL [(61,AP),(263,Bq)]
theorem Qw {N ls}:Jf N 61 [] ls=AP N ls:=id rfl
theorem Q4 {N ls}:Jf N 263 [] ls=Bq N ls:=id rfl
def I3:=oS Wa Mn Jf
def X5:List Nat:=[2,0,0,0,0,0,0,0,1,0,0,0,0,3,0,0,0,0,0,0,0,0,0,0,0,0,0,0,3,0,3,3,1,3,1,0,0,0,3,0,0,0,0]
def N8 (O:Alg) (x:Ags O):O.M:=let u3:=(lq9 O 0);let u1:=(O.t (x.I 42) (O.l (x.L 38)));let u0:=(O.u .i64 (x.I 42) (lq9 O 1));(O.c (O.g 263 [] (xr x [0,0,0,0,0,0,0,0,0,0,0,0,0,0,3,0,3,3,1,3,1,0,0,0,3,0,0,0,0] 14)) fun c0=>let u2:=(O.h (O.m c0 0));(O.c (O.b (O.h u2) (O.g 61 [] (xr x kR 0)) (O.a [.int u3])) fun c1=>(O.b (O.i u2 O.j (O.h (O.e (O.d c1 0) u3))) (O.a [.int (lq9 O 3)]) (O.k (O.h (O.z u1 (O.h (O.r u0 (O.l (x.L 38)))))) (O.c (O.g 264 [] (xr x [2,0,0,0,0,0,0,0,1,0,0,0,0,3,0,0,0,0,0,0,0,0,0,0,0,0,0,0,3,0,3,3,1,3,1,0,0,0,3,0,0,0,0] 0)) fun c2=>(O.b (O.i (O.i (O.e (x.I 42) (x.I 36)) O.j (O.e (x.I 42) (x.I 29))) O.j (O.i u1 (O.rB (x.L 38) u0 0) O.f)) (O.a [.int (lq9 O 7)]) (O.c (O.g 184 [] [.rows (x.L 31),.int (x.I 42)]) fun c3=>(O.b (O.m c3 0) (O.a [.int (lq9 O 8)]) (O.b (O.i (O.h (O.e (O.d c2 0) (lq9 O (-1)))) (O.n (x.I 25) (O.u .i64 (x.I 4) (O.d c2 0))) O.f) (O.a [.int (lq9 O 9)]) (O.a [.int u3]))))))))))
def FO:Nat→Env:=eL [(61,AP),(184,Ap),(263,Bq),(264,I3)]
theorem Re {N ls}:FO N 61 [] ls=AP N ls:=id rfl
theorem Ls {N ls}:FO N 184 [] ls=Ap N ls:=id rfl
theorem Rf {N ls}:FO N 263 [] ls=Bq N ls:=id rfl
theorem Sc {N ls}:FO N 264 [] ls=I3 N ls:=id rfl
def KI:=oS X5 N8 FO
def WR:List Nat:=[2,0,0,0,0,0,0,0,1,0,0,0,0,3,0,0,0,0,0,0,0,0,0,0,0,0,0,0,3,0,3,3,1,3,1,0,0,0,3,0,0,0,0]
def L8 (O:Alg) (x:Ags O):O.M:=(O.c (O.g 237 [] (xr x kI 14)) fun c0=>(O.c (O.g 238 [] (xr x [2,0,0,0,0,0,0,0,1,0,0,0,0,3,0,0,0,0,0,0,0,0,0,0,0,0,0,0,3,0,3,3,1,3,1,0,0,0,3,0,0,0,0] 0)) fun c1=>let u0:=(O.d c1 0);(O.b (O.e u0 (lq9 O 0)) (O.a (ap O (cr O c0 [0,0,0,0,0,0,0,0,0,0,0,0,0,0,3] 0) (ap O [.int (x.I 42)] (ap O (cr O c0 [3,3,1,3,1,0,0,0,3,0,0,0] 16) [.int u0])))) (O.a (ap O (cr O c0 kI 0) [.int u0])))))
def Jg:Nat→Env:=eL [(237,CU),(238,KI)]
theorem Sq {N ls}:Jg N 237 [] ls=CU N ls:=id rfl
theorem Sh {N ls}:Jg N 238 [] ls=KI N ls:=id rfl
def JA:=oS WR L8 Jg
def M3:List Nat:=[0,0,0,0,0,1,0,0,0,0,1,0]
def E4 (O:Alg) (x:Ags O):O.M:=let u3:=(lq9 O 0);let u2:=(O.e (x.I 4) u3);let u1:=(O.e (x.I 2) u3);let u0:=(O.h (O.e (x.I 4) (lq9 O 6)));(O.b (O.e (x.I 0) (O.lit .u8 2)) (O.a [.bool (O.i (O.e (x.I 1) (O.lit .u8 0)) u0 O.f)]) (O.b (O.e (x.I 1) (O.lit .u8 0)) (O.a [.bool (O.i u1 u2 O.f)]) (O.b (O.e (x.I 1) (O.lit .u8 1)) (O.a [.bool (O.i u0 O.j u1)]) (O.a [.bool (O.i u0 (O.i (O.n u3 (x.I 2)) O.j (O.h u2)) O.f)]))))
def Le:Nat→Env:=eL []
def DB:=oS M3 E4 Le
def QN:List Nat:=[0,0,0,0,0,1,0,0,0,0,1,0]
def HJ (O:Alg) (x:Ags O):O.M:=let u3:=(lq9 O 0);let u2:=(lq9 O 11);let u1:=(O.e (x.I 4) u3);let u0:=(O.h u1);(O.b (O.i (O.i (O.i (O.i (O.i (O.n (x.I 0) (O.lit .u8 1)) O.j (O.n (O.lit .u8 3) (x.I 0))) O.j (O.n (O.lit .u8 3) (x.I 1))) O.j (O.n (O.lit .u8 10) (x.I 6))) O.j (O.n (x.I 11) u3)) O.j (O.n (lq9 O 8) (x.I 11))) (O.a [.int u2]) (O.b (O.i (O.i (O.i (O.i (O.n (x.I 2) u3) O.j (O.n (lq9 O 7) (x.I 2))) O.j (O.n (x.I 3) u3)) O.j (O.n (x.I 2) (x.I 3))) O.j (O.i (O.i u0 (O.h (O.e (x.I 4) (lq9 O 4))) O.f) (O.h (O.e (x.I 4) (lq9 O 6))) O.f)) (O.a [.int (lq9 O 12)]) (O.c (O.g 103 [] (xr x [0,0,0,0,0,1,0,0,0,0,1,0] 0)) fun c0=>(O.b (O.i (O.h (O.m c0 0)) O.j (O.i (O.i (O.i (O.h (O.e (x.I 0) (O.lit .u8 2))) (O.e (x.I 1) (O.lit .u8 1)) O.f) (O.e (x.I 2) u3) O.f) u1 O.f)) (O.a [.int u2]) (O.b (O.i (O.i (O.h (O.e (x.I 11) u3)) (O.h (O.e (x.I 1) (O.lit .u8 1))) O.f) (O.h (O.e (x.I 6) (O.lit .u8 2))) O.f) (O.a [.int u2]) (O.b (O.i u0 (O.h (O.e (x.I 6) (O.lit .u8 0))) O.f) (O.a [.int u2]) (O.b (O.i (O.i (x.B 5) (O.h (O.e (x.I 6) (O.lit .u8 6))) O.f) (O.h (O.e (x.I 6) (O.lit .u8 8))) O.f) (O.a [.int u2]) (O.a [.int u3]))))))))
def Ip:Nat→Env:=eL [(103,DB)]
theorem J5 {N ls}:Ip N 103 [] ls=DB N ls:=id rfl
def CC:=oS QN HJ Ip
def M2:List Nat:=[0]
def E1 (O:Alg) (x:Ags O):O.M:=(O.a [.bool (O.i (O.t (O.lit .u8 1) (x.I 0)) (O.t (x.I 0) (O.lit .u8 5)) O.f)])
def Lh:Nat→Env:=eL []
def DA:=oS M2 E1 Lh
def PO:List Nat:=[2,0,0,0,0,0,0,0,1,0,0,0,0,3,0,0,0,0,0,1,0,0,0,0,1,0]
def GJ (O:Alg) (x:Ags O):O.M:=let u2:=(lq9 O 0);let u1:=(O.q .i64 (O.u .i64 (x.I 16) (x.I 17)) (x.I 18));(O.c (O.g 87 [] (xr x [0,0,0,0,0,1,0,0,0,0,1,0] 14)) fun c0=>(O.b (O.h (O.e (O.d c0 0) u2)) (O.a [.int u2,.int u2,.int u2,.int u2,.int u2,.int u2,.bool O.f,.bool O.f,.bool O.f,.bool O.f]) (O.c (O.g 88 [] [.int (x.I 20)]) fun c1=>let u3:=(O.m c1 0);(O.c (O.b (x.B 19) (O.a [.int (O.q .i64 (x.I 16) (lq9 O 1))]) (O.a [.int (x.I 16)])) fun c2=>let u0:=(O.e (O.ap .i64 (O.d c2 0) (lq9 O 2)) (lq9 O 1));(O.c (O.b (O.e (x.I 14) (O.lit .u8 2)) (O.a [.int u2,.int (O.q .i64 (x.I 6) u1),.int u2,.int u2,.int u2,.int u2,.bool (O.e (x.I 14) (O.lit .u8 1)),.bool (O.h (O.e (x.I 14) (O.lit .u8 2))),.bool u3,.bool u0]) (O.b (O.e (x.I 14) (O.lit .u8 3)) (O.a [.int u2,.int u2,.int (x.I 7),.int u2,.int u2,.int u2,.bool (O.e (x.I 14) (O.lit .u8 1)),.bool (O.h (O.e (x.I 14) (O.lit .u8 2))),.bool u3,.bool u0]) (O.a [.int u2,.int u2,.int u2,.int u2,.int u2,.int u2,.bool (O.e (x.I 14) (O.lit .u8 1)),.bool (O.h (O.e (x.I 14) (O.lit .u8 2))),.bool u3,.bool u0]))) fun c3=>(O.c (O.b (O.h (O.e (x.I 14) (O.lit .u8 2))) (O.b (O.e (x.I 15) (O.lit .u8 1)) (O.a (ap O [.int u1] (cr O c3 [0,0,0,0,0,1,1,1,1] 1))) (O.b (O.e (x.I 15) (O.lit .u8 2)) (O.a (ap O (cr O c3 [0,0,0] 0) (ap O [.int u1] (cr O c3 [0,0,1,1,1,1] 4)))) (O.b (O.e (x.I 15) (O.lit .u8 3)) (O.a (ap O (cr O c3 [0,0,0,0] 0) (ap O [.int u1] (cr O c3 [0,1,1,1,1] 5)))) (O.a (cr O c3 [0,0,0,0,0,0,1,1,1,1] 0))))) (O.a (cr O c3 [0,0,0,0,0,0,1,1,1,1] 0))) fun c4=>(O.a (ap O (cr O c4 [0,0,0,0,0] 0) (ap O [.int (O.q .i64 (O.q .i64 (O.d c4 0) (O.d c4 1)) (O.d c4 2))] (cr O c4 [1,1,1,1] 6))))))))))
def E8:Nat→Env:=eL [(87,CC),(88,DA)]
theorem LG {N ls}:E8 N 87 [] ls=CC N ls:=id rfl
theorem JV {N ls}:E8 N 88 [] ls=DA N ls:=id rfl
def B0:=oS PO GJ E8
def QV:List Nat:=[0,0,0,0,0,0,1,1,1,1]
def QO (O:Alg) (x:Ags O):O.M:=(O.a [.int (O.q .i64 (O.q .i64 (O.q .i64 (O.q .i64 (x.I 0) (x.I 1)) (x.I 2)) (x.I 3)) (x.I 4))])
def WK:Nat→Env:=eL []
def Ei:=oS QV QO WK
def R4:List Nat:=[0,0,0,0,0,0,0,0,0,0,0,0,0,0,3,0,3,3,1,3,1,0,0,0,3,0,0,0]
def Dq (O:Alg) (x:Ags O):O.M:=(O.c (O.g 235 [] (xr x kI 0)) fun c0=>(O.a [.bool (O.i (O.m c0 0) (O.i (O.e (x.I 12) (lq9 O 0)) O.j (O.e (x.I 13) (lq9 O 0))) O.f)]))
def EI:Nat→Env:=eL [(235,Bu)]
theorem NT {N ls}:EI N 235 [] ls=Bu N ls:=id rfl
def BG:=oS R4 Dq EI
def VH:List Nat:=[0,0,0,0,0,0,0,0,0,0,0,0,0,0,3,0,3,3,1,3,1,0,0,0,3,0,0,0,0]
def Kl (O:Alg) (x:Ags O):O.M:=(O.a [.bool (O.i (O.t (lq9 O 1) (x.I 28)) (O.t (x.I 28) (O.l (x.L 24))) O.f)])
def SQ:Nat→Env:=eL []
def A1:=oS VH Kl SQ
def Qc:List Nat:=[0,0,0,0,0,0,0,0,0,0,0,0,0,0,3,0,3,3,1,3,1,0,0,0,3,0,0,0,0]
def HV (O:Alg) (x:Ags O):O.M:=let u0:=(O.u .i64 (x.I 28) (lq9 O 1));(O.c (O.g 246 [] (xr x [0,0,0,0,0,0,0,0,0,0,0,0,0,0,3,0,3,3,1,3,1,0,0,0,3,0,0,0,0] 0)) fun c0=>(O.k (O.h (O.z (O.m c0 0) (O.h (O.r u0 (O.l (x.L 24)))))) (O.a [.bool (O.i (O.m c0 0) (O.rB (x.L 24) u0 0) O.f)])))
def JN:Nat→Env:=eL [(246,A1)]
theorem Nh {N ls}:JN N 246 [] ls=A1 N ls:=id rfl
def A0:=oS Qc HV JN
def Rw:List Nat:=[2,0,0,0,0,0,0,0,1,0,0,0,0,3,0]
def Ia (O:Alg) (x:Ags O):O.M:=let u1:=(lq9 O 1);let u0:=(O.q .i64 (x.I 14) u1);(O.c (O.w (fun s0 c0=>let u2:=(O.d c0 0);(O.b (O.n u2 (O.l (x.L 13))) (O.k (O.r u2 (O.l (x.L 13))) (O.b (O.i (O.t (O.o (x.L 13) u2 0) u0) (O.t u0 (O.o (x.L 13) u2 1)) O.f) (O.a [.int (lq9 O 0),.int (O.o (x.L 13) u2 2)]) (s0 [.int (O.q .i64 u2 u1)]))) (O.a [.int u1]))) [.int (lq9 O 0)]) fun c0=>(O.b (O.ab c0 0) (O.a [.int (O.d c0 1)]) (O.a [.int (x.I 12)])))
def PM:Nat→Env:=eL []
def FT:=oS Rw Ia PM
def VR:List Nat:=[2,0,0,0,0,0,0,0,1,0,0,0,0,3,0,0,0,0,0,0,0,0,0,0,0,0,0,0,3,0,3,3,1,3,1,0,0,0,3,0,0,0]
def Kp (O:Alg) (x:Ags O):O.M:=(O.c (O.g 246 [] (ap O (xr x kI 14) [.int (x.I 36)])) fun c0=>let u0:=(O.h (O.m c0 0));(O.c (O.b (O.h u0) (O.g 247 [] (ap O (xr x kI 14) [.int (x.I 36)])) (O.a [.bool O.f])) fun c1=>(O.b (O.i (O.i u0 O.j (O.m c1 0)) O.j (O.e (x.I 36) (x.I 29))) (O.a [.int (lq9 O 17)]) (O.c (O.g 275 [] (ap O (xr x kR 0) [.int (x.I 24)])) fun c2=>(O.b (O.n (O.d c2 0) (x.I 37)) (O.a [.int (lq9 O 16)]) (O.a [.int (lq9 O 0)]))))))
def Fe:Nat→Env:=eL [(246,A1),(247,A0),(275,FT)]
theorem P4 {N ls}:Fe N 246 [] ls=A1 N ls:=id rfl
theorem NS {N ls}:Fe N 247 [] ls=A0 N ls:=id rfl
theorem Oo {N ls}:Fe N 275 [] ls=FT N ls:=id rfl
def Hj:=oS VR Kp Fe
def Pa:List Nat:=[]
def PW (O:Alg) (x:Ags O):O.M:=(O.a [.rows (O.ac [[.int (O.lit .u8 0),.str (O.s ⟨#[78,79,84,79,85,84]⟩),.bool O.f,.bool O.f,.bool O.f,.bool O.f,.bool O.f],[.int (O.lit .u8 1),.str (O.s ⟨#[66,79,87,76,69,68]⟩),.bool O.j,.bool O.f,.bool O.f,.bool O.f,.bool O.f],[.int (O.lit .u8 2),.str (O.s ⟨#[67,65,85,71,72,84]⟩),.bool O.j,.bool O.f,.bool O.f,.bool O.j,.bool O.f],[.int (O.lit .u8 3),.str (O.s ⟨#[76,66,87]⟩),.bool O.j,.bool O.f,.bool O.f,.bool O.f,.bool O.f],[.int (O.lit .u8 4),.str (O.s ⟨#[83,84,85,77,80,69,68]⟩),.bool O.j,.bool O.j,.bool O.f,.bool O.j,.bool O.f],[.int (O.lit .u8 5),.str (O.s ⟨#[72,73,84,87,73,67,75,69,84]⟩),.bool O.j,.bool O.j,.bool O.f,.bool O.f,.bool O.f],[.int (O.lit .u8 6),.str (O.s ⟨#[82,85,78,79,85,84]⟩),.bool O.j,.bool O.j,.bool O.j,.bool O.j,.bool O.j],[.int (O.lit .u8 7),.str (O.s ⟨#[72,73,84,84,87,73,67,69]⟩),.bool O.j,.bool O.f,.bool O.j,.bool O.f,.bool O.f],[.int (O.lit .u8 8),.str (O.s ⟨#[79,66,83,84,82,85,67,84,73,78,71]⟩),.bool O.j,.bool O.j,.bool O.j,.bool O.f,.bool O.j],[.int (O.lit .u8 9),.str (O.s ⟨#[84,73,77,69,68,79,85,84]⟩),.bool O.f,.bool O.f,.bool O.f,.bool O.f,.bool O.f],[.int (O.lit .u8 10),.str (O.s ⟨#[82,69,84,73,82,69,68]⟩),.bool O.f,.bool O.f,.bool O.f,.bool O.f,.bool O.f]])])
def Vj:Nat→Env:=eL []
def Bd:=oS Pa PW Vj
def Ta:List Nat:=[0]
def Jb (O:Alg) (x:Ags O):O.M:=(O.c (O.g 99 [] []) fun c0=>let u2:=(O.p c0 0);let u0:=(O.l u2);(O.c (O.w (fun s1 c1=>let u1:=(O.d c1 0);(O.b (O.n u1 u0) (O.k (O.r u1 u0) (O.b (O.e (O.o u2 u1 0) (x.I 0)) (O.a (ap O [.int (lq9 O 0)] (rr O u2 u1 [0,2,1,1,1,1,1] 0))) (s1 [.int (O.q .i64 u1 (lq9 O 1))]))) (O.a [.int (lq9 O 1)]))) [.int (lq9 O 0)]) fun c1=>(O.b (O.ab c1 0) (O.a (cr O c1 [0,2,1,1,1,1,1] 1)) (O.a [.int (O.lit .u8 0),.str (O.s ⟨#[]⟩),.bool O.f,.bool O.f,.bool O.f,.bool O.f,.bool O.f]))))
def LA:Nat→Env:=eL [(99,Bd)]
theorem MS {N ls}:LA N 99 [] ls=Bd N ls:=id rfl
def DI:=oS Ta Jb LA
def OJ:List Nat:=[3,0]
def FQ (O:Alg) (x:Ags O):O.M:=(O.c (O.w (fun s0 c0=>let u0:=(O.d c0 0);(O.b (O.n u0 (O.l (x.L 0))) (O.k (O.r u0 (O.l (x.L 0))) (O.b (O.e (x.I 1) (O.o (x.L 0) u0 0)) (O.a [.int (lq9 O 0),.int u0]) (s0 [.int (O.q .i64 u0 (lq9 O 1))]))) (O.a [.int (lq9 O 1)]))) [.int (lq9 O 0)]) fun c0=>(O.b (O.ab c0 0) (O.a [.int (O.d c0 1)]) (O.a [.int (lq9 O (-1))])))
def Mo:Nat→Env:=eL []
def Dd:=oS OJ FQ Mo
def LU:List Nat:=[3,0]
def Dx (O:Alg) (x:Ags O):O.M:=(O.c (O.g 279 [] [.rows (x.L 0),.int (x.I 1)]) fun c0=>(O.a [.bool (O.t (lq9 O 0) (O.d c0 0))]))
def FF:Nat→Env:=eL [(279,Dd)]
theorem H9 {N ls}:FF N 279 [] ls=Dd N ls:=id rfl
def Cm:=oS LU Dx FF
def OW:List Nat:=[0,2,1,1,1,1,1,0]
def Fq (O:Alg) (x:Ags O):O.M:=(O.a [.bool (O.i (O.i (O.i (O.e (x.I 7) (O.lit .u8 1)) (x.B 2) O.f) O.j (O.i (O.e (x.I 7) (O.lit .u8 2)) (x.B 3) O.f)) O.j (O.i (O.e (x.I 7) (O.lit .u8 3)) (x.B 4) O.f))])
def MX:Nat→Env:=eL []
def Df:=oS OW Fq MX
def Qg:List Nat:=[0,1]
def HR (O:Alg) (x:Ags O):O.M:=(O.c (O.g 99 [] []) fun c0=>let u5:=(O.p c0 0);let u3:=(O.l u5);(O.c (O.w (fun s1 c1=>let u6:=(O.p c1 0);let u4:=(O.d c1 1);let u2:=(O.o u5 u4 0);let u1:=(O.q .i64 u4 (lq9 O 1));let u0:=(O.ad u6 (O.ac [[.int u2]]));(O.b (O.n u4 u3) (O.k (O.r u4 u3) (O.c (O.g 280 [] (ap O (rr O u5 u4 [0,2,1,1,1,1,1] 0) [.int (x.I 0)])) fun c2=>(O.b (O.i (O.m c2 0) (O.i (O.i (O.i (O.h (x.B 1)) O.j (O.e u2 (O.lit .u8 6))) O.j (O.e u2 (O.lit .u8 7))) O.j (O.e u2 (O.lit .u8 8))) O.f) (O.k (O.v (O.l u0) 1) (s1 [.rows u0,.int u1])) (s1 [.rows u6,.int u1])))) (O.a [.rows u6]))) [.rows O.x,.int (lq9 O 0)]) fun c1=>(O.a [.rows (O.p c1 0)])))
def Fg:Nat→Env:=eL [(99,Bd),(280,Df)]
theorem LH {N ls}:Fg N 99 [] ls=Bd N ls:=id rfl
theorem J8 {N ls}:Fg N 280 [] ls=Df N ls:=id rfl
def Ek:=oS Qg HR Fg
def KR:List Nat:=[0]
def DN (O:Alg) (x:Ags O):O.M:=(O.a [.bool (O.i (O.t (lq9 O 1) (x.I 0)) (O.t (x.I 0) (lq9 O 11)) O.f)])
def It:Nat→Env:=eL []
def CX:=oS KR DN It
def MH:List Nat:=[0,0,0,0,0,1,0,0,0,0,1,0,0,2,1,1,1,1,1]
def EM (O:Alg) (x:Ags O):O.M:=let u0:=(O.e (x.I 9) (lq9 O 0));(O.c (O.g 281 [] [.int (x.I 8)]) fun c0=>(O.b (O.i (O.h (O.aj (x.B 17) (O.m c0 0))) O.j (O.i (O.h (x.B 17)) (O.h (O.e (x.I 8) (lq9 O 0))) O.f)) (O.a [.bool O.f]) (O.c (O.b (O.z (O.h u0) (O.e (x.I 6) (O.lit .u8 6))) (O.g 281 [] [.int (x.I 9)]) (O.a [.bool O.f])) fun c1=>(O.a [.bool (O.i u0 O.j (O.i (O.i (O.e (x.I 6) (O.lit .u8 6)) (O.m c1 0) O.f) (O.h (O.e (x.I 9) (x.I 8))) O.f))]))))
def F3:Nat→Env:=eL [(281,CX)]
theorem Gz {N ls}:F3 N 281 [] ls=CX N ls:=id rfl
def Cr:=oS MH EM F3
def MZ:List Nat:=[0,0,0,0,0,1,0,0,0,0,1,0,1]
def EN (O:Alg) (x:Ags O):O.M:=let u0:=(lq9 O 0);(O.b (O.e (x.I 6) (O.lit .u8 0)) (O.b (O.h (O.e (x.I 7) u0)) (O.a [.int (lq9 O 14)]) (O.b (O.i (O.i (O.h (O.e (x.I 8) u0)) O.j (O.h (O.e (x.I 9) u0))) O.j (x.B 10)) (O.a [.int (lq9 O 15)]) (O.a [.int u0]))) (O.c (O.g 75 [] [.int (x.I 6)]) fun c0=>(O.c (O.g 277 [] [.int (x.I 0),.bool (x.B 12)]) fun c1=>(O.c (O.g 276 [] [.rows (O.p c1 0),.int (x.I 6)]) fun c2=>(O.b (O.h (O.m c2 0)) (O.a [.int (lq9 O 13)]) (O.b (O.i (O.h (O.i (O.e (x.I 6) (O.lit .u8 6)) O.j (O.e (x.I 6) (O.lit .u8 8)))) (O.i (O.h (O.e (x.I 1) (O.lit .u8 0))) O.j (O.h (O.e (x.I 2) u0))) O.f) (O.a [.int (lq9 O 12)]) (O.b (O.i (O.h (O.e (x.I 7) (lq9 O 1))) (O.i (O.h (O.e (x.I 7) (lq9 O 2))) O.j (O.h (O.m c0 6))) O.f) (O.a [.int (lq9 O 14)]) (O.c (O.g 278 [] (ap O (xr x [0,0,0,0,0,1,0,0,0,0,1,0] 0) (cr O c0 [0,2,1,1,1,1,1] 0))) fun c3=>(O.b (O.h (O.m c3 0)) (O.a [.int (lq9 O 15)]) (O.b (O.i (O.i (x.B 10) (O.h (O.e (x.I 6) (O.lit .u8 2))) O.f) (O.h (O.e (x.I 6) (O.lit .u8 6))) O.f) (O.a [.int (lq9 O 18)]) (O.a [.int u0])))))))))))
def Bx:Nat→Env:=eL [(75,DI),(276,Cm),(277,Ek),(278,Cr)]
theorem KY {N ls}:Bx N 75 [] ls=DI N ls:=id rfl
theorem HG {N ls}:Bx N 276 [] ls=Cm N ls:=id rfl
theorem JU {N ls}:Bx N 277 [] ls=Ek N ls:=id rfl
theorem Hi {N ls}:Bx N 278 [] ls=Cr N ls:=id rfl
def Cw:=oS MZ EN Bx
def Vc:List Nat:=[0,0,0,0,0,0,0,0,0,0,0,0,0,0,3,0,3,3,1,3,1,0,0,0,3,0,0,0,0,0,0,0,0,1,0,0,0,0,1,0]
def K2 (O:Alg) (x:Ags O):O.M:=let u1:=(lq9 O 1);let u0:=(lq9 O 0);(O.c (O.b (O.n u0 (x.I 36)) (O.c (O.g 246 [] (ap O (xr x kI 0) [.int (x.I 36)])) fun c0=>(O.b (O.h (O.m c0 0)) (O.a [.int u1,.int (lq9 O 3)]) (O.c (O.g 247 [] (ap O (xr x kI 0) [.int (x.I 36)])) fun c1=>(O.b (O.h (O.aj (x.B 38) (O.m c1 0))) (O.a [.int u1,.int (lq9 O 18)]) (O.a [.int u0]))))) (O.a [.int u0])) fun c0=>(O.b (O.ab c0 0) (O.c (O.b (O.n u0 (x.I 37)) (O.c (O.g 246 [] (ap O (xr x kI 0) [.int (x.I 37)])) fun c1=>(O.b (O.h (O.m c1 0)) (O.a [.int u1,.int (lq9 O 3)]) (O.c (O.g 247 [] (ap O (xr x kI 0) [.int (x.I 37)])) fun c2=>(O.b (O.m c2 0) (O.a [.int u1,.int (lq9 O 18)]) (O.a [.int u0]))))) (O.a [.int u0])) fun c1=>(O.b (O.ab c1 0) (O.b (O.i (O.e (x.I 34) (O.lit .u8 4)) (O.h (O.e (O.ah (O.n (x.I 36) u0) u0 (x.I 36)) (x.I 22))) O.f) (O.a [.int (lq9 O 17)]) (O.a [.int u0])) (O.a [.int (O.d c1 1)]))) (O.a [.int (O.d c0 1)])))
def IJ:Nat→Env:=eL [(246,A1),(247,A0)]
theorem Pp {N ls}:IJ N 246 [] ls=A1 N ls:=id rfl
theorem Ne {N ls}:IJ N 247 [] ls=A0 N ls:=id rfl
def He:=oS Vc K2 IJ
def PT:List Nat:=[2,0,0,0,0,0,0,0,1,0,0,0,0,3,0,0,0,0,0,0,0,0,0,0,0,0,0,0,3,0,3,3,1,3,1,0,0,0,3,0,0,0,0,0,0,0,0,1,0,0,0,0,1,0]
def GN (O:Alg) (x:Ags O):O.M:=let u3:=(lq9 O 0);(O.c (O.g 217 [] (xr x kI 14)) fun c0=>(O.b (O.m c0 0) (O.a [.int (lq9 O 6)]) (O.b (O.e (x.I 29) u3) (O.a [.int (lq9 O 7)]) (O.c (O.g 265 [] (xr x [2,0,0,0,0,0,0,0,1,0,0,0,0,3,0,0,0,0,0,0,0,0,0,0,0,0,0,0,3,0,3,3,1,3,1,0,0,0,3,0,0,0] 0)) fun c1=>(O.c (O.g 87 [] (xr x [0,0,0,0,0,1,0,0,0,0,1,0] 42)) fun c2=>(O.c (O.g 266 [] (ap O (xr x [0,0,0,0,0,1,0,0,0,0,1,0] 42) [.bool (x.B 34)])) fun c3=>(O.c (O.g 267 [] (xr x [0,0,0,0,0,0,0,0,0,0,0,0,0,0,3,0,3,3,1,3,1,0,0,0,3,0,0,0,0,0,0,0,0,1,0,0,0,0,1,0] 14)) fun c4=>let u2:=(O.ac [[.int (O.d c1 0)],[.int (O.d c2 0)],[.int (O.d c3 0)],[.int (O.d c4 0)]]);let u1:=(O.l u2);(O.c (O.w (fun s5 c5=>let u4:=(O.d c5 0);let u0:=(O.o u2 u4 0);(O.b (O.n u4 u1) (O.k (O.r u4 u1) (O.b (O.h (O.e u0 u3)) (O.a [.int u3,.int u0]) (s5 [.int (O.q .i64 u4 (lq9 O 1))]))) (O.a [.int (lq9 O 1)]))) [.int u3]) fun c5=>(O.b (O.ab c5 0) (O.a [.int (O.d c5 1)]) (O.a [.int u3]))))))))))
def B2:Nat→Env:=eL [(87,CC),(217,BG),(265,Hj),(266,Cw),(267,He)]
theorem K8 {N ls}:B2 N 87 [] ls=CC N ls:=id rfl
theorem Lr {N ls}:B2 N 217 [] ls=BG N ls:=id rfl
theorem Mx {N ls}:B2 N 265 [] ls=Hj N ls:=id rfl
theorem JF {N ls}:B2 N 266 [] ls=Cw N ls:=id rfl
theorem M1 {N ls}:B2 N 267 [] ls=He N ls:=id rfl
def D8:=oS PT GN B2
def We:List Nat:=[0,0,0,0,0,0,0,0,0,0,0,0,0,0,3,0,3,3,1,3,1,0,0,0,3,0,0,0,0,0,0,0,0,1,0,0,0,0,1,0]
def Mp (O:Alg) (x:Ags O):O.M:=let u5:=(lq9 O 2);let u4:=(lq9 O 1);let u3:=(lq9 O 0);let u1:=(O.h (O.e (O.ap .i64 (x.I 30) u5) u3));(O.c (O.g 234 [] (xr x kI 0)) fun c0=>(O.c (O.b (O.h (O.e (x.I 34) (O.lit .u8 0))) (O.b (O.i (O.e (x.I 35) u4) (O.h (O.e (x.I 12) u3)) O.f) (O.a [.int u4,.int (x.I 12)]) (O.b (O.i (O.e (x.I 35) u5) (O.h (O.e (x.I 13) u3)) O.f) (O.a [.int u5,.int (x.I 13)]) (O.a [.int u3,.int u3]))) (O.a [.int u3,.int u3])) fun c1=>let u7:=(O.d c1 1);let u2:=(O.u .i64 u7 u4);(O.c (O.b (x.B 33) (O.a [.bool (O.h u1)]) (O.a [.bool u1])) fun c2=>(O.c (O.b (O.m c2 0) (O.a (ap O (cr O c0 [0,0,0,0,0,0,0,0,0,0,0,0] 0) (ap O [.int (O.d c0 13),.int (O.d c0 12)] (cr O c0 [3,0,3,3,1,3,1,0,0,0,3,0,0,0] 14)))) (O.a (cr O c0 kI 0))) fun c3=>let u6:=(O.p c3 14);let u0:=(O.r u2 (O.l u6));(O.b (O.e (O.d c1 0) u3) (O.a (cr O c3 kI 0)) (O.b (O.h (O.aj (O.e (O.d c1 0) u4) (O.m c2 0))) (O.c (O.g 236 [] (ap O (cr O c3 [0,0,0,0,0,0,0,0,0,0,0,0] 0) (ap O [.int u3] (ap O (cr O c3 [0,3,0,3,3,1,3,1,0,0,0,3,0,0,0] 13) [.int u7])))) fun c4=>(O.c (O.b (O.m c4 0) (O.k u0 (O.a (ap O (cr O c3 [0,0,0,0,0,0,0,0,0,0,0,0] 0) (ap O [.int u3,.int (O.d c3 13),.rows (O.aa u6 u2 0 [.int (O.lit .u8 2)])] (cr O c3 [0,3,3,1,3,1,0,0,0,3,0,0,0] 15))))) (O.a (ap O (cr O c3 [0,0,0,0,0,0,0,0,0,0,0,0] 0) (ap O [.int u3] (cr O c3 [0,3,0,3,3,1,3,1,0,0,0,3,0,0,0] 13))))) fun c5=>(O.a (ap O (cr O c5 [0,0,0,0] 0) (ap O [.int (O.q .i64 (O.d c5 4) u4)] (cr O c5 [0,0,0,0,0,0,0,0,0,3,0,3,3,1,3,1,0,0,0,3,0,0,0] 5)))))) (O.c (O.g 236 [] (ap O (cr O c3 [0,0,0,0,0,0,0,0,0,0,0,0,0] 0) (ap O [.int u3] (ap O (cr O c3 [3,0,3,3,1,3,1,0,0,0,3,0,0,0] 14) [.int u7])))) fun c4=>(O.c (O.b (O.m c4 0) (O.k u0 (O.a (ap O (cr O c3 [0,0,0,0,0,0,0,0,0,0,0,0,0] 0) (ap O [.int u3,.rows (O.aa u6 u2 0 [.int (O.lit .u8 2)])] (cr O c3 [0,3,3,1,3,1,0,0,0,3,0,0,0] 15))))) (O.a (ap O (cr O c3 [0,0,0,0,0,0,0,0,0,0,0,0,0] 0) (ap O [.int u3] (cr O c3 [3,0,3,3,1,3,1,0,0,0,3,0,0,0] 14))))) fun c5=>(O.a (ap O (cr O c5 [0,0,0,0] 0) (ap O [.int (O.q .i64 (O.d c5 4) u4)] (cr O c5 [0,0,0,0,0,0,0,0,0,3,0,3,3,1,3,1,0,0,0,3,0,0,0] 5))))))))))))
def Ja:Nat→Env:=eL [(234,Av),(236,Au)]
theorem Rd {N ls}:Ja N 234 [] ls=Av N ls:=id rfl
theorem Pv {N ls}:Ja N 236 [] ls=Au N ls:=id rfl
def I9:=oS We Mp Ja
def XG:List Nat:=[2,0,0,0,0,0,0,0,1,0,0,0,0,3,0,0,0,0,0,0,0,0,0,0,0,0,0,0,3,0,3,3,1,3,1,0,0,0,3,0,0,0,1]
def L0 (O:Alg) (x:Ags O):O.M:=let u5:=(lq9 O 0);let u4:=(lq9 O 1);let u2:=(O.u .i64 (x.I 29) u4);(O.c (O.g 237 [] (xr x kI 14)) fun c0=>let u1:=(O.ad (O.p c0 16) (O.ac [[.int (x.I 29)]]));(O.c (O.g 263 [] (ap O (xr x kI 14) [.int (x.I 29)])) fun c1=>let u3:=(O.h (O.m c1 0));(O.c (O.b (O.h u3) (O.g 61 [] (xr x kR 0)) (O.a [.int u5])) fun c2=>(O.b (O.i u3 O.j (O.h (O.e (O.d c2 0) u5))) (O.a (ap O (cr O c0 kI 0) [.bool O.f])) (O.c (O.g 184 [] [.rows (O.p c0 16),.int (x.I 29)]) fun c3=>(O.c (O.b (O.h (O.m c3 0)) (O.k (O.v (O.l u1) 8) (O.a (ap O (cr O c0 [0,0,0,0,0,0,0,0,0,0,0,0,0,0,3,0] 0) (ap O [.rows u1] (cr O c0 [3,1,3,1,0,0,0,3,0,0,0] 17))))) (O.a (cr O c0 kI 0))) fun c4=>let u6:=(O.p c4 19);let u0:=(O.r u2 (O.l u6));(O.c (O.b (x.B 42) (O.k u0 (O.k u0 (O.a (ap O (cr O c4 [0,0,0,0,0,0,0,0,0,0,0] 0) (ap O [.int (O.q .i64 (O.d c4 11) u4)] (ap O (cr O c4 [0,0,3,0,3,3,1] 12) (ap O [.rows (O.aa u6 u2 0 [.int (O.q .i64 (O.o u6 u2 0) u4)]),.bool (O.m c4 20),.int (O.q .i64 (O.d c4 21) u4)] (cr O c4 [0,0,3,0,0,0] 22)))))))) (O.a (cr O c4 kI 0))) fun c5=>(O.b (O.n (O.d c5 11) (x.I 4)) (O.a (ap O (cr O c5 kI 0) [.bool O.f])) (O.a (ap O (cr O c5 [0,0,0,0,0,0,0,0,0,0] 0) (ap O [.int (O.q .i64 (O.d c5 10) u4),.int u5] (ap O (cr O c5 [0,0,3] 12) (ap O [.int u5,.rows O.x,.rows (O.p c5 16)] (ap O (cr O c5 [1,3,1,0,0,0,3,0,0,0] 18) [.bool O.j]))))))))))))))
def EY:Nat→Env:=eL [(61,AP),(184,Ap),(237,CU),(263,Bq)]
theorem Qv {N ls}:EY N 61 [] ls=AP N ls:=id rfl
theorem LJ {N ls}:EY N 184 [] ls=Ap N ls:=id rfl
theorem Ss {N ls}:EY N 237 [] ls=CU N ls:=id rfl
theorem Ql {N ls}:EY N 263 [] ls=Bq N ls:=id rfl
def I1:=oS XG L0 EY
def Rx:List Nat:=[0,0,0,0,0,0,0,0,0,0,0,0,0,0,3,0,3,3,1,3,1,0,0,0,3,0,0,0]
def IG (O:Alg) (x:Ags O):O.M:=(O.c (O.g 234 [] (xr x kI 0)) fun c0=>(O.a (ap O (cr O c0 [0,0,0,0,0,0,0,0,0,0,0,0] 0) (ap O [.int (x.I 13),.int (x.I 12)] (cr O c0 [3,0,3,3,1,3,1,0,0,0,3,0,0,0] 14)))))
def J0:Nat→Env:=eL [(234,Av)]
theorem O3 {N ls}:J0 N 234 [] ls=Av N ls:=id rfl
def Fc:=oS Rx IG J0
def Tp:List Nat:=[2,0,0,0,0,0,0,0,1,0,0,0,0,3,0,0,0,0,0,0,0,0,0,0,0,0,0,0,3,0,3,3,1,3,1,0,0,0,3,0,0,0,0,0,0,0,0,1,0,0,0,0,1,0]
def JS (O:Alg) (x:Ags O):O.M:=let u0:=(lq9 O 0);(O.c (O.g 239 [] (xr x [2,0,0,0,0,0,0,0,1,0,0,0,0,3,0,0,0,0,0,0,0,0,0,0,0,0,0,0,3,0,3,3,1,3,1,0,0,0,3,0,0,0,0,0,0,0,0,1,0,0,0,0,1,0] 0)) fun c0=>(O.b (O.h (O.e (O.d c0 0) u0)) (O.c (O.g 134 [] (xr x kI 14)) fun c1=>(O.a (ap O (cr O c1 kI 0) [.int (O.d c0 0)]))) (O.c (O.g 57 [] (ap O (xr x kR 0) (xr x [0,0,0,0,0,1,0,0,0,0,1,0] 42))) fun c1=>(O.c (O.g 240 [] (xr x [0,0,0,0,0,0,0,0,0,0,0,0,0,0,3,0,3,3,1,3,1,0,0,0,3,0,0,0,0,0,0,0,0,1,0,0,0,0,1,0] 14)) fun c2=>(O.c (O.g 58 [] (cr O c1 [0,0,0,0,0,0,1,1,1,1] 0)) fun c3=>(O.c (O.g 241 [] (ap O (xr x kR 0) (ap O (cr O c2 [0,0,0] 0) (ap O [.int (O.q .i64 (O.d c2 3) (O.d c3 0)),.int (O.d c2 4),.int (O.q .i64 (O.d c2 5) (O.d c1 1)),.int (O.q .i64 (O.d c2 6) (O.d c1 2)),.int (O.q .i64 (O.d c2 7) (O.d c1 3)),.int (O.q .i64 (O.d c2 8) (O.d c1 4))] (ap O (cr O c2 [0,0,0,0,0,3,0,3,3,1,3,1,0,0,0,3,0,0,0] 9) [.bool (O.m c1 6)]))))) fun c4=>(O.c (O.b (O.m c4 28) (O.c (O.g 242 [] (cr O c4 kI 0)) fun c5=>(O.a (cr O c5 kI 0))) (O.a (cr O c4 kI 0))) fun c5=>(O.b (O.e (x.I 42) (O.lit .u8 1)) (O.a (ap O (cr O c5 [0,0,0,0,0,0,0,0,0,0,0,0,0,0,3,0,3,3,1,3] 0) (ap O [.bool O.f] (ap O (cr O c5 [0,0,0,3,0,0,0] 21) [.int u0])))) (O.b (O.i (O.e (x.I 42) (O.lit .u8 3)) (x.B 8) O.f) (O.a (ap O (cr O c5 [0,0,0,0,0,0,0,0,0,0,0,0,0,0,3,0,3,3,1,3] 0) (ap O [.bool O.j] (ap O (cr O c5 [0,0,0,3,0,0,0] 21) [.int u0])))) (O.a (ap O (cr O c5 kI 0) [.int u0])))))))))))
def Bl:Nat→Env:=eL [(57,B0),(58,Ei),(134,AO),(239,D8),(240,I9),(241,I1),(242,Fc)]
theorem MP {N ls}:Bl N 57 [] ls=B0 N ls:=id rfl
theorem My {N ls}:Bl N 58 [] ls=Ei N ls:=id rfl
theorem Ns {N ls}:Bl N 134 [] ls=AO N ls:=id rfl
theorem MF {N ls}:Bl N 239 [] ls=D8 N ls:=id rfl
theorem Ps {N ls}:Bl N 240 [] ls=I9 N ls:=id rfl
theorem P8 {N ls}:Bl N 241 [] ls=I1 N ls:=id rfl
theorem Ng {N ls}:Bl N 242 [] ls=Fc N ls:=id rfl
def Gc:=oS Tp JS Bl
def WO:List Nat:=[0,0,0,0,0,0,0,0,0,0,0,0,0,0,3,0,3,3,1,3,1,0,0,0,3,0,0,0,0]
def MI (O:Alg) (x:Ags O):O.M:=let u2:=(O.u .i64 (x.I 28) (lq9 O 1));let u1:=(O.o (x.L 14) u2 0);let u0:=(O.r u2 (O.l (x.L 14)));(O.c (O.g 236 [] (xr x [0,0,0,0,0,0,0,0,0,0,0,0,0,0,3,0,3,3,1,3,1,0,0,0,3,0,0,0,0] 0)) fun c0=>(O.b (O.h (O.m c0 0)) (O.a [.int (lq9 O 3)]) (O.c (O.g 217 [] (xr x kI 0)) fun c1=>let u3:=(O.h (O.m c1 0));(O.k (O.h (O.z (O.h u3) (O.h u0))) (O.b (O.i u3 O.j (O.e u1 (O.lit .u8 1))) (O.a [.int (lq9 O 4)]) (O.k u0 (O.b (O.e u1 (O.lit .u8 2)) (O.a [.int (lq9 O 5)]) (O.a [.int (lq9 O 0)]))))))))
def Js:Nat→Env:=eL [(217,BG),(236,Au)]
theorem PC {N ls}:Js N 217 [] ls=BG N ls:=id rfl
theorem Pj {N ls}:Js N 236 [] ls=Au N ls:=id rfl
def DT:=oS WO MI Js
def RC:List Nat:=[0,0,0,0,0,0,0,0,0,0,0,0,0,0,3,0,3,3,1,3,1,0,0,0,3,0,0,0,0]
def HQ (O:Alg) (x:Ags O):O.M:=let u0:=(O.u .i64 (x.I 28) (lq9 O 1));(O.c (O.g 234 [] (xr x kI 0)) fun c0=>(O.c (O.g 243 [] (xr x [0,0,0,0,0,0,0,0,0,0,0,0,0,0,3,0,3,3,1,3,1,0,0,0,3,0,0,0,0] 0)) fun c1=>(O.b (O.h (O.e (O.d c1 0) (lq9 O 0))) (O.a (ap O (cr O c0 kI 0) [.int (O.d c1 0)])) (O.c (O.g 236 [] (ap O (cr O c0 kI 0) [.int (x.I 28)])) fun c2=>(O.c (O.b (O.m c2 0) (O.k (O.r u0 (O.l (O.p c0 14))) (O.a (ap O (cr O c0 [0,0,0,0,0,0,0,0,0,0,0,0,0,0] 0) (ap O [.rows (O.aa (O.p c0 14) u0 0 [.int (O.lit .u8 2)])] (cr O c0 [0,3,3,1,3,1,0,0,0,3,0,0,0] 15))))) (O.a (cr O c0 kI 0))) fun c3=>(O.a (ap O (cr O c3 [0,0,0,0] 0) (ap O [.int (O.q .i64 (O.d c3 4) (lq9 O 1))] (ap O (cr O c3 [0,0,0,0,0,0,0,0,0,3,0,3,3,1,3,1,0,0,0,3,0,0,0] 5) [.int (lq9 O 0)])))))))))
def De:Nat→Env:=eL [(234,Av),(236,Au),(243,DT)]
theorem Oh {N ls}:De N 234 [] ls=Av N ls:=id rfl
theorem Mv {N ls}:De N 236 [] ls=Au N ls:=id rfl
theorem OH {N ls}:De N 243 [] ls=DT N ls:=id rfl
def Ee:=oS RC HQ De
def TZ:List Nat:=[0,0,0,0,0,0,0,0,0,0,0,0,0,0,3,0,3,3,1,3,1,0,0,0,3,0,0,0,0]
def Ju (O:Alg) (x:Ags O):O.M:=let u1:=(lq9 O 0);let u0:=(O.u .i64 (x.I 28) (lq9 O 1));(O.c (O.g 234 [] (xr x kI 0)) fun c0=>let u2:=(O.p c0 14);(O.c (O.g 243 [] (xr x [0,0,0,0,0,0,0,0,0,0,0,0,0,0,3,0,3,3,1,3,1,0,0,0,3,0,0,0,0] 0)) fun c1=>(O.b (O.h (O.e (O.d c1 0) u1)) (O.a (ap O (cr O c0 kI 0) [.int (O.d c1 0)])) (O.k (O.r u0 (O.l u2)) (O.b (O.e (O.d c0 12) u1) (O.a (ap O (cr O c0 [0,0,0,0,0,0,0,0,0,0,0,0] 0) (ap O [.int (x.I 28),.int (O.d c0 13),.rows (O.aa u2 u0 0 [.int (O.lit .u8 1)])] (ap O (cr O c0 [0,3,3,1,3,1,0,0,0,3,0,0,0] 15) [.int u1])))) (O.a (ap O (cr O c0 [0,0,0,0,0,0,0,0,0,0,0,0,0] 0) (ap O [.int (x.I 28),.rows (O.aa u2 u0 0 [.int (O.lit .u8 1)])] (ap O (cr O c0 [0,3,3,1,3,1,0,0,0,3,0,0,0] 15) [.int u1])))))))))
def HA:Nat→Env:=eL [(234,Av),(243,DT)]
theorem QA {N ls}:HA N 234 [] ls=Av N ls:=id rfl
theorem QD {N ls}:HA N 243 [] ls=DT N ls:=id rfl
def GP:=oS TZ Ju HA
def VM:List Nat:=[0,0,0,0,0,0,0,0,0,0,0,0,0,0,3,0,3,3,1,3,1,0,0,0,3,0,0,0]
def FL (O:Alg) (x:Ags O):O.M:=(O.c (O.w (fun s0 c0=>let u4:=(O.p c0 0);let u3:=(O.d c0 1);let u2:=(O.o (x.L 14) u3 0);let u1:=(O.q .i64 u3 (lq9 O 1));let u0:=(O.ad u4 (O.ac [[.int u1]]));(O.b (O.n u3 (O.l (x.L 14))) (O.k (O.r u3 (O.l (x.L 14))) (O.b (O.i (O.e u2 (O.lit .u8 0)) O.j (O.e u2 (O.lit .u8 3))) (O.k (O.v (O.l u0) 8) (s0 [.rows u0,.int u1])) (s0 [.rows u4,.int u1]))) (O.a [.rows u4]))) [.rows O.x,.int (lq9 O 0)]) fun c0=>(O.a [.rows (O.p c0 0)]))
def L1:Nat→Env:=eL []
def Cg:=oS VM FL L1
def Ri:List Nat:=[0,0,0,0,0,0,0,0,0,0,0,0,0,0,3,0,3,3,1,3,1,0,0,0,3,0,0,0,0,1]
def Ig (O:Alg) (x:Ags O):O.M:=let u3:=(lq9 O 0);let u2:=(O.e (x.I 28) (x.I 12));let u1:=(O.u .i64 (x.I 28) (lq9 O 1));(O.c (O.g 234 [] (xr x kI 0)) fun c0=>(O.c (O.g 236 [] (xr x [0,0,0,0,0,0,0,0,0,0,0,0,0,0,3,0,3,3,1,3,1,0,0,0,3,0,0,0,0] 0)) fun c1=>(O.b (O.h (O.m c1 0)) (O.a (ap O (cr O c0 kI 0) [.int (lq9 O 3)])) (O.b (O.i (O.e (x.I 12) u3) O.j (O.e (x.I 13) u3)) (O.a (ap O (cr O c0 kI 0) [.int (lq9 O 6)])) (O.b (O.i (O.h u2) (O.h (O.e (x.I 28) (x.I 13))) O.f) (O.a (ap O (cr O c0 kI 0) [.int (lq9 O 4)])) (O.c (O.b (x.B 29) (O.g 218 [] (xr x kI 0)) (O.a [.rows O.x])) fun c2=>(O.b (O.i (x.B 29) (O.e (O.l (O.p c2 0)) u3) O.f) (O.a (ap O (cr O c0 kI 0) [.int (lq9 O 19)])) (O.c (O.b u2 (O.a (ap O (cr O c0 [0,0,0,0,0,0,0,0,0,0,0,0] 0) (ap O [.int u3] (cr O c0 [0,3,0,3,3,1,3,1,0,0,0,3,0,0,0] 13)))) (O.a (ap O (cr O c0 [0,0,0,0,0,0,0,0,0,0,0,0,0] 0) (ap O [.int u3] (cr O c0 [3,0,3,3,1,3,1,0,0,0,3,0,0,0] 14))))) fun c3=>let u4:=(O.p c3 14);let u0:=(O.r u1 (O.l u4));(O.b (x.B 29) (O.k u0 (O.a (ap O (cr O c3 [0,0,0,0,0,0,0,0,0,0,0,0,0,0] 0) (ap O [.rows (O.aa u4 u1 0 [.int (O.lit .u8 3)])] (ap O (cr O c3 [0,3,3,1,3,1,0,0,0,3,0,0,0] 15) [.int u3]))))) (O.c (O.g 236 [] (ap O (cr O c3 kI 0) [.int (x.I 28)])) fun c4=>(O.c (O.b (O.m c4 0) (O.k u0 (O.a (ap O (cr O c3 [0,0,0,0,0,0,0,0,0,0,0,0,0,0] 0) (ap O [.rows (O.aa u4 u1 0 [.int (O.lit .u8 2)])] (cr O c3 [0,3,3,1,3,1,0,0,0,3,0,0,0] 15))))) (O.a (cr O c3 kI 0))) fun c5=>(O.a (ap O (cr O c5 [0,0,0,0] 0) (ap O [.int (O.q .i64 (O.d c5 4) (lq9 O 1))] (ap O (cr O c5 [0,0,0,0,0,0,0,0,0,3,0,3,3,1,3,1,0,0,0,3,0,0,0] 5) [.int u3])))))))))))))))
def EK:Nat→Env:=eL [(218,Cg),(234,Av),(236,Au)]
theorem OQ {N ls}:EK N 218 [] ls=Cg N ls:=id rfl
theorem Oq {N ls}:EK N 234 [] ls=Av N ls:=id rfl
theorem Nr {N ls}:EK N 236 [] ls=Au N ls:=id rfl
def FX:=oS Ri Ig EK
def Ya:List Nat:=[0,0,0,0,0,0,0,0,0,0,0,0,0,0,3,0,3,3,1,3,1,0,0,0,3,0,0,0]
def N9 (O:Alg) (x:Ags O):O.M:=(O.c (O.g 166 [] [.rows (x.L 14)]) fun c0=>(O.c (O.g 167 [] [.rows (x.L 16)]) fun c1=>(O.c (O.g 167 [] [.rows (x.L 17)]) fun c2=>(O.c (O.g 167 [] [.rows (x.L 19)]) fun c3=>(O.c (O.g 168 [] [.rows (x.L 24)]) fun c4=>(O.a (ap O (xr x [0,0,0,0,0,0,0,0,0,0,0,0,0,0] 0) (ap O [.rows (O.p c0 0),.int (x.I 15),.rows (O.p c1 0),.rows (O.p c2 0),.bool (x.B 18),.rows (O.p c3 0)] (ap O (xr x [1,0,0,0] 20) (ap O [.rows (O.p c4 0)] (xr x [0,0,0] 25)))))))))))
def Hk:Nat→Env:=eL [(166,AX),(167,Ag),(168,Aa)]
theorem Lq {N ls}:Hk N 166 [] ls=AX N ls:=id rfl
theorem Nd {N ls}:Hk N 167 [] ls=Ag N ls:=id rfl
theorem M0 {N ls}:Hk N 168 [] ls=Aa N ls:=id rfl
def CS:=oS Ya N9 Hk
def Rl:List Nat:=[0,0,0,0,0,0,0,0,0,0,0,0,0,0,3,0,3,3,1,3,1,0,0,0,3,0,0,0,0]
def IW (O:Alg) (x:Ags O):O.M:=(O.c (O.g 245 [] (xr x kI 0)) fun c0=>(O.b (O.i (O.n (x.I 28) (lq9 O 0)) O.j (O.n (O.u .i64 (O.l (x.L 24)) (lq9 O 2)) (x.I 28))) (O.a (ap O (cr O c0 kI 0) [.int (lq9 O 16)])) (O.a (ap O (cr O c0 [0,0,0,0,0,0,0,0,0,0,0,0,0,0,3,0,3,3,1,3,1,0,0] 0) (ap O [.int (x.I 28)] (ap O (cr O c0 [3,0,0,0] 24) [.int (lq9 O 0)]))))))
def Jx:Nat→Env:=eL [(245,CS)]
theorem P0 {N ls}:Jx N 245 [] ls=CS N ls:=id rfl
def FR:=oS Rl IW Jx
def Tb:List Nat:=[0,0,0,0,0,0,0,0,0,0,0,0,0,0,3,0,3,3,1,3,1,0,0,0,3,0,0,0,0]
def Jt (O:Alg) (x:Ags O):O.M:=(O.c (O.g 245 [] (xr x kI 0)) fun c0=>(O.c (O.g 246 [] (xr x [0,0,0,0,0,0,0,0,0,0,0,0,0,0,3,0,3,3,1,3,1,0,0,0,3,0,0,0,0] 0)) fun c1=>(O.b (O.h (O.m c1 0)) (O.a (ap O (cr O c0 kI 0) [.int (lq9 O 3)])) (O.c (O.g 247 [] (xr x [0,0,0,0,0,0,0,0,0,0,0,0,0,0,3,0,3,3,1,3,1,0,0,0,3,0,0,0,0] 0)) fun c2=>(O.b (O.m c2 0) (O.a (ap O (cr O c0 kI 0) [.int (lq9 O 18)])) (O.b (O.i (O.e (x.I 28) (x.I 15)) O.j (O.e (x.I 28) (x.I 22))) (O.a (ap O (cr O c0 kI 0) [.int (lq9 O 17)])) (O.a (ap O (cr O c0 [0,0,0,0,0,0,0,0,0,0,0,0,0,0,3,0,3,3,1,3,1,0] 0) (ap O [.int (x.I 28)] (ap O (cr O c0 [0,3,0,0,0] 23) [.int (lq9 O 0)]))))))))))
def Ew:Nat→Env:=eL [(245,CS),(246,A1),(247,A0)]
theorem RQ {N ls}:Ew N 245 [] ls=CS N ls:=id rfl
theorem PD {N ls}:Ew N 246 [] ls=A1 N ls:=id rfl
theorem Mu {N ls}:Ew N 247 [] ls=A0 N ls:=id rfl
def Gb:=oS Tb Jt Ew
def Ol:List Nat:=[0,0,0,0,0,0,0,0,0,0,0,0,0,0,3,0,3,3,1,3,1,0,0,0,3,0,0,0,0,1]
def Fw (O:Alg) (x:Ags O):O.M:=let u2:=(lq9 O 0);let u1:=(O.u .i64 (x.I 28) (lq9 O 1));(O.c (O.g 245 [] (xr x kI 0)) fun c0=>let u0:=(O.aa (O.p c0 24) u1 0 [.bool (x.B 29)]);(O.c (O.g 246 [] (xr x [0,0,0,0,0,0,0,0,0,0,0,0,0,0,3,0,3,3,1,3,1,0,0,0,3,0,0,0,0] 0)) fun c1=>(O.b (O.h (O.m c1 0)) (O.a (ap O (cr O c0 kI 0) [.int (lq9 O 3)])) (O.c (O.g 247 [] (xr x [0,0,0,0,0,0,0,0,0,0,0,0,0,0,3,0,3,3,1,3,1,0,0,0,3,0,0,0,0] 0)) fun c2=>(O.b (O.aj (O.m c2 0) (x.B 29)) (O.a (ap O (cr O c0 kI 0) [.int (lq9 O 18)])) (O.k (O.r u1 (O.l (O.p c0 24))) (O.c (O.b (O.i (x.B 29) (O.e (O.d c0 22) (x.I 28)) O.f) (O.a (ap O (cr O c0 [0,0,0,0,0,0,0,0,0,0,0,0,0,0,3,0,3,3,1,3,1,0] 0) (ap O [.int u2,.int (O.d c0 23),.rows u0] (cr O c0 [0,0,0] 25)))) (O.a (ap O (cr O c0 [0,0,0,0,0,0,0,0,0,0,0,0,0,0,3,0,3,3,1,3,1,0,0,0] 0) (ap O [.rows u0] (cr O c0 [0,0,0] 25))))) fun c3=>(O.b (O.i (x.B 29) (O.e (O.d c3 15) (x.I 28)) O.f) (O.a (ap O (cr O c3 [0,0,0,0,0,0,0,0,0,0,0,0,0,0,3] 0) (ap O [.int u2] (ap O (cr O c3 [3,3,1,3,1,0,0,0,3,0,0,0] 16) [.int u2])))) (O.a (ap O (cr O c3 kI 0) [.int u2]))))))))))
def Cs:Nat→Env:=eL [(245,CS),(246,A1),(247,A0)]
theorem NN {N ls}:Cs N 245 [] ls=CS N ls:=id rfl
theorem MG {N ls}:Cs N 246 [] ls=A1 N ls:=id rfl
theorem KX {N ls}:Cs N 247 [] ls=A0 N ls:=id rfl
def Da:=oS Ol Fw Cs
def Rk:List Nat:=[2,0,0,0,0,0,0,0,1,0,0,0,0,3,0,0,0,0,0,0,0,0,0,0,0,0,0,0,3,0,3,3,1,3,1,0,0,0,3,0,0,0]
def IY (O:Alg) (x:Ags O):O.M:=let u0:=(lq9 O 0);(O.c (O.g 237 [] (xr x kI 14)) fun c0=>(O.c (O.g 61 [] (xr x kR 0)) fun c1=>(O.b (O.i (O.i (O.h (O.e (O.d c1 0) u0)) O.j (O.e (x.I 9) u0)) O.j (O.n (x.I 35) (O.ai .i64 (x.I 9) (x.I 4)))) (O.a (ap O (cr O c0 kI 0) [.int (lq9 O 22)])) (O.a (ap O (cr O c0 [0,0,0,0,0,0,0,0,0,0,0,0,0,0,3,0,3,3,1,3,1] 0) (ap O [.int u0] (ap O (cr O c0 [0,0,3,0,0,0] 22) [.int u0])))))))
def GH:Nat→Env:=eL [(61,AP),(237,CU)]
theorem Oj {N ls}:GH N 61 [] ls=AP N ls:=id rfl
theorem Pk {N ls}:GH N 237 [] ls=CU N ls:=id rfl
def Fp:=oS Rk IY GH
def Pd:List Nat:=[2,0,0,0,0,0,0,0,1,0,0,0,0,3,0,0,0,0,0,0,0,0,0,0,0,0,0,0,3,0,3,3,1,3,1,0,0,0,3,0,0,0,0,0,0,0,1,0,0,0,0,0,0,0,1,0,0,0,0,1,0]
def GD (O:Alg) (x:Ags O):O.M:=(O.c (O.g 134 [] (xr x kI 14)) fun c0=>(O.b (O.h (O.e (x.I 43) (x.I 14))) (O.a (ap O (cr O c0 kI 0) [.int (lq9 O 2)])) (O.b (O.h (O.e (x.I 3) (lq9 O 0))) (O.a (ap O (cr O c0 kI 0) [.int (lq9 O 20)])) (O.a (ap O (cr O c0 [0,0,0,0,0,0,0,0,0,0,0,0,0,0,3,0,3,3,1,3,1,0,0,0,3,0,0] 0) [.int (O.lit .u8 4),.int (lq9 O 0)])))))
def H8:Nat→Env:=eL [(134,AO)]
theorem Ll {N ls}:H8 N 134 [] ls=AO N ls:=id rfl
def EC:=oS Pd GD H8
def Pg:List Nat:=[0,0,0,0,0,0,0,0,0,0,0,0,0,0,3,0,3,3,1,3,1,0,0,0,3,0,0,0]
def GC (O:Alg) (x:Ags O):O.M:=(O.c (O.g 134 [] (xr x kI 0)) fun c0=>(O.a (ap O (cr O c0 [0,0,0] 0) (ap O [.int (O.q .i64 (O.d c0 3) (lq9 O 5))] (ap O (cr O c0 [0,0,0,0,0] 4) (ap O [.int (O.q .i64 (O.d c0 9) (lq9 O 5))] (cr O c0 [0,0,0,0,3,0,3,3,1,3,1,0,0,0,3,0,0,0] 10)))))))
def H6:Nat→Env:=eL [(134,AO)]
theorem Lo {N ls}:H6 N 134 [] ls=AO N ls:=id rfl
def Bz:=oS Pg GC H6
def Pf:List Nat:=[0,0,0,0,0,0,0,0,0,0,0,0,0,0,3,0,3,3,1,3,1,0,0,0,3,0,0,0,0,0,0,0,1,0,0,0,0,0,0,0,1,0,0,0,0,1,0]
def GE (O:Alg) (x:Ags O):O.M:=let u0:=(lq9 O 0);(O.c (O.g 134 [] (xr x kI 0)) fun c0=>(O.b (O.h (O.e (x.I 33) (lq9 O 5))) (O.a (ap O (cr O c0 kI 0) [.int (lq9 O 23)])) (O.b (O.e (x.I 29) (x.I 0)) (O.c (O.g 191 [] (xr x kI 0)) fun c1=>(O.a (ap O (cr O c1 kI 0) [.int u0]))) (O.b (O.n u0 (O.d c0 1)) (O.a (ap O [.int (O.d c0 0),.int (O.q .i64 (O.d c0 1) (lq9 O 5))] (ap O (cr O c0 [0,0,0,0,0,0,0,0,0,0,0,0,3,0,3,3,1,3,1,0,0,0,3,0,0,0] 2) [.int u0]))) (O.a (ap O (cr O c0 kI 0) [.int u0]))))))
def E5:Nat→Env:=eL [(134,AO),(191,Bz)]
theorem Lt {N ls}:E5 N 134 [] ls=AO N ls:=id rfl
theorem KG {N ls}:E5 N 191 [] ls=Bz N ls:=id rfl
def EE:=oS Pf GE E5
def Q1:List Nat:=[2,0,0,0,0,0,0,0,1,0,0,0,0,3,0,0,0,0,0,0,0,0,0,0,0,0,0,0,3,0,3,3,1,3,1,0,0,0,3,0,0,0,0,0,0,0,1,0,0,0,0,0,0,0,1,0,0,0,0,1,0]
def Ez (O:Alg) (x:Ags O):O.M:=let u5:=(lq9 O 0);let u4:=(lq9 O 1);let u3:=(O.u .i64 (x.I 43) u4);let u2:=(O.r u3 (lq9 O 2));let u1:=(O.e u3 u4);(O.c (O.g 134 [] (xr x kI 14)) fun c0=>let u0:=(O.q .i64 (O.ah u1 (O.d c0 26) (O.d c0 25)) u4);(O.k (O.h (O.z (O.h (O.h (x.B 32))) (O.h u2))) (O.b (O.i (O.h (x.B 32)) O.j (O.t (x.I 11) (O.ah u1 (x.I 40) (x.I 39)))) (O.a (ap O (cr O c0 kI 0) [.int (lq9 O 24)])) (O.b (O.h (x.B 46)) (O.k u2 (O.k u2 (O.a (ap O (cr O c0 [0,0,0,0,0,0,0,0,0,0,0,0,0,0,3,0,3,3,1,3,1,0,0,0,3] 0) [.int (O.ah (O.e u3 u5) u0 (O.d c0 25)),.int (O.ah u1 u0 (O.d c0 26)),.int (O.d c0 27),.int u5])))) (O.a (ap O (cr O c0 kI 0) [.int u5]))))))
def Ir:Nat→Env:=eL [(134,AO)]
theorem Fk {N ls}:Ir N 134 [] ls=AO N ls:=id rfl
def Em:=oS Q1 Ez Ir
def Rh:List Nat:=[2,0,0,0,0,0,0,0,1,0,0,0,0,3,0,0,0,0,0,0,0,0,0,0,0,0,0,0,3,0,3,3,1,3,1,0,0,0,3,0,0,0]
def SE (O:Alg) (x:Ags O):O.M:=(O.a [.int (O.q .i64 (O.ai .i64 (x.I 24) (x.I 4)) (x.I 25))])
def Xu:Nat→Env:=eL []
def FU:=oS Rh SE Xu
def RV:List Nat:=[2,0,0,0,0,0,0,0,1,0,0,0,0,3,0,0,0,0,0,0,0,0,0,0,0,0,0,0,3,0,3,3,1,3,1,0,0,0,3,0,0,0,0,0,0,0,1,0,0,0,0,0,0,0,1,0,0,0,0,1,0]
def HM (O:Alg) (x:Ags O):O.M:=let u4:=(lq9 O 0);let u3:=(lq9 O 25);let u2:=(O.n (x.I 3) (x.I 48));let u1:=(O.n u4 (x.I 47));let u0:=(O.n u4 (x.I 48));(O.c (O.g 134 [] (xr x kI 14)) fun c0=>(O.b (O.i (O.e (x.I 3) u4) O.j (O.i (O.e (x.I 47) u4) (O.e (x.I 48) u4) O.f)) (O.a (ap O (cr O c0 kI 0) [.int u3])) (O.b (O.i u1 (O.i (O.e (x.I 15) u4) O.j (O.t (x.I 47) (x.I 17))) O.f) (O.a (ap O (cr O c0 kI 0) [.int u3])) (O.c (O.b (O.z u0 (O.h u2)) (O.g 248 [] (xr x [2,0,0,0,0,0,0,0,1,0,0,0,0,3,0,0,0,0,0,0,0,0,0,0,0,0,0,0,3,0,3,3,1,3,1,0,0,0,3,0,0,0] 0)) (O.a [.int u4])) fun c1=>(O.b (O.i u0 (O.i u2 O.j (O.n (O.ai .i64 (x.I 48) (x.I 4)) (O.d c1 0))) O.f) (O.a (ap O (cr O c0 kI 0) [.int u3])) (O.c (O.b u1 (O.a (ap O [.int (O.d c0 0),.int (x.I 47)] (cr O c0 [0,0,0,0,0,0,0,0,0,0,0,0,3,0,3,3,1,3,1,0,0,0,3,0,0,0] 2))) (O.a (cr O c0 kI 0))) fun c2=>(O.b u0 (O.a (ap O [.int (O.d c2 0),.int (O.d c2 1),.int (x.I 48)] (ap O (cr O c2 [0,0,0,0,0,0,0,0,0,0,0,3,0,3,3,1,3,1,0,0,0,3,0,0,0] 3) [.int u4]))) (O.a (ap O (cr O c2 kI 0) [.int u4])))))))))
def Fu:Nat→Env:=eL [(134,AO),(248,FU)]
theorem Lu {N ls}:Fu N 134 [] ls=AO N ls:=id rfl
theorem Ly {N ls}:Fu N 248 [] ls=FU N ls:=id rfl
def Ep:=oS RV HM Fu
def PN:List Nat:=[2,0,0,0,0,0,0,0,1,0,0,0,0,3,0,0,0,0,0,0,0,0,0,0,0,0,0,0,3,0,3,3,1,3,1,0,0,0,3,0,0,0,0,0,0,0,1,0,0,0,0,0,0,0,1,0,0,0,0,1,0]
def EG (O:Alg) (x:Ags O):O.M:=(O.b (O.e (x.I 42) (O.lit .u8 2)) (O.c (O.g 203 [] (ap O (xr x kI 14) [.int (x.I 44),.int (x.I 45)])) fun c0=>(O.a (cr O c0 [0,0,0,0,0,0,0,0,0,0,0,0,0,0,3,0,3,3,1,3,1,0,0,0,3,0,0,0,0] 0))) (O.b (O.e (x.I 42) (O.lit .u8 3)) (O.c (O.g 204 [] (ap O (xr x [2,0,0,0,0,0,0,0,1,0,0,0,0,3,0,0,0,0,0,0,0,0,0,0,0,0,0,0,3,0,3,3,1,3,1,0,0,0,3,0,0,0] 0) [.int (x.I 44)])) fun c0=>(O.a (cr O c0 [0,0,0,0,0,0,0,0,0,0,0,0,0,0,3,0,3,3,1,3,1,0,0,0,3,0,0,0,0] 0))) (O.b (O.e (x.I 42) (O.lit .u8 4)) (O.c (O.g 205 [] (ap O (xr x [2,0,0,0,0,0,0,0,1,0,0,0,0,3,0,0,0,0,0,0,0,0,0,0,0,0,0,0,3,0,3,3,1,3,1,0,0,0,3,0,0,0] 0) (xr x [0,0,0,0,0,1,0,0,0,0,1,0] 49))) fun c0=>(O.a (cr O c0 [0,0,0,0,0,0,0,0,0,0,0,0,0,0,3,0,3,3,1,3,1,0,0,0,3,0,0,0,0] 0))) (O.b (O.e (x.I 42) (O.lit .u8 5)) (O.b (x.B 46) (O.c (O.g 206 [] (ap O (xr x kI 14) [.int (x.I 44)])) fun c0=>(O.a (cr O c0 [0,0,0,0,0,0,0,0,0,0,0,0,0,0,3,0,3,3,1,3,1,0,0,0,3,0,0,0,0] 0))) (O.c (O.g 207 [] (ap O (xr x kI 14) [.int (x.I 44)])) fun c0=>(O.a (cr O c0 [0,0,0,0,0,0,0,0,0,0,0,0,0,0,3,0,3,3,1,3,1,0,0,0,3,0,0,0,0] 0)))) (O.b (O.e (x.I 42) (O.lit .u8 6)) (O.c (O.g 208 [] (ap O (xr x kI 14) [.int (x.I 44),.bool (x.B 46)])) fun c0=>(O.a (cr O c0 [0,0,0,0,0,0,0,0,0,0,0,0,0,0,3,0,3,3,1,3,1,0,0,0,3,0,0,0,0] 0))) (O.b (O.e (x.I 42) (O.lit .u8 7)) (O.c (O.g 209 [] (ap O (xr x kI 14) [.int (x.I 47)])) fun c0=>(O.a (cr O c0 [0,0,0,0,0,0,0,0,0,0,0,0,0,0,3,0,3,3,1,3,1,0,0,0,3,0,0,0,0] 0))) (O.b (O.e (x.I 42) (O.lit .u8 8)) (O.c (O.g 210 [] (ap O (xr x kI 14) [.int (x.I 44)])) fun c0=>(O.a (cr O c0 [0,0,0,0,0,0,0,0,0,0,0,0,0,0,3,0,3,3,1,3,1,0,0,0,3,0,0,0,0] 0))) (O.b (O.e (x.I 42) (O.lit .u8 9)) (O.c (O.g 211 [] (ap O (xr x kI 14) [.int (x.I 44),.bool (x.B 46)])) fun c0=>(O.a (cr O c0 [0,0,0,0,0,0,0,0,0,0,0,0,0,0,3,0,3,3,1,3,1,0,0,0,3,0,0,0,0] 0))) (O.b (O.e (x.I 42) (O.lit .u8 10)) (O.c (O.g 212 [] (xr x [2,0,0,0,0,0,0,0,1,0,0,0,0,3,0,0,0,0,0,0,0,0,0,0,0,0,0,0,3,0,3,3,1,3,1,0,0,0,3,0,0,0] 0)) fun c0=>(O.a (cr O c0 [0,0,0,0,0,0,0,0,0,0,0,0,0,0,3,0,3,3,1,3,1,0,0,0,3,0,0,0,0] 0))) (O.b (O.e (x.I 42) (O.lit .u8 11)) (O.c (O.g 213 [] (xr x [2,0,0,0,0,0,0,0,1,0,0,0,0,3,0,0,0,0,0,0,0,0,0,0,0,0,0,0,3,0,3,3,1,3,1,0,0,0,3,0,0,0,0,0,0,0,1,0,0,0,0,0,0,0,1,0,0,0,0,1,0] 0)) fun c0=>(O.a (cr O c0 [0,0,0,0,0,0,0,0,0,0,0,0,0,0,3,0,3,3,1,3,1,0,0,0,3,0,0,0,0] 0))) (O.b (O.e (x.I 42) (O.lit .u8 13)) (O.c (O.g 214 [] (xr x [0,0,0,0,0,0,0,0,0,0,0,0,0,0,3,0,3,3,1,3,1,0,0,0,3,0,0,0,0,0,0,0,1,0,0,0,0,0,0,0,1,0,0,0,0,1,0] 14)) fun c0=>(O.a (cr O c0 [0,0,0,0,0,0,0,0,0,0,0,0,0,0,3,0,3,3,1,3,1,0,0,0,3,0,0,0,0] 0))) (O.b (O.e (x.I 42) (O.lit .u8 14)) (O.c (O.g 215 [] (xr x [2,0,0,0,0,0,0,0,1,0,0,0,0,3,0,0,0,0,0,0,0,0,0,0,0,0,0,0,3,0,3,3,1,3,1,0,0,0,3,0,0,0,0,0,0,0,1,0,0,0,0,0,0,0,1,0,0,0,0,1,0] 0)) fun c0=>(O.a (cr O c0 [0,0,0,0,0,0,0,0,0,0,0,0,0,0,3,0,3,3,1,3,1,0,0,0,3,0,0,0,0] 0))) (O.c (O.g 216 [] (xr x [2,0,0,0,0,0,0,0,1,0,0,0,0,3,0,0,0,0,0,0,0,0,0,0,0,0,0,0,3,0,3,3,1,3,1,0,0,0,3,0,0,0,0,0,0,0,1,0,0,0,0,0,0,0,1,0,0,0,0,1,0] 0)) fun c0=>(O.a (cr O c0 [0,0,0,0,0,0,0,0,0,0,0,0,0,0,3,0,3,3,1,3,1,0,0,0,3,0,0,0,0] 0)))))))))))))))
def Ah:Nat→Env:=eL [(203,Hu),(204,JA),(205,Gc),(206,Ee),(207,GP),(208,FX),(209,FR),(210,Gb),(211,Da),(212,Fp),(213,EC),(214,EE),(215,Em),(216,Ep)]
theorem F9 {N ls}:Ah N 203 [] ls=Hu N ls:=id rfl
theorem Gn {N ls}:Ah N 204 [] ls=JA N ls:=id rfl
theorem Fj {N ls}:Ah N 205 [] ls=Gc N ls:=id rfl
theorem Ef {N ls}:Ah N 206 [] ls=Ee N ls:=id rfl
theorem Fm {N ls}:Ah N 207 [] ls=GP N ls:=id rfl
theorem FB {N ls}:Ah N 208 [] ls=FX N ls:=id rfl
theorem E9 {N ls}:Ah N 209 [] ls=FR N ls:=id rfl
theorem FY {N ls}:Ah N 210 [] ls=Gb N ls:=id rfl
theorem EH {N ls}:Ah N 211 [] ls=Da N ls:=id rfl
theorem FC {N ls}:Ah N 212 [] ls=Fp N ls:=id rfl
theorem EV {N ls}:Ah N 213 [] ls=EC N ls:=id rfl
theorem ET {N ls}:Ah N 214 [] ls=EE N ls:=id rfl
theorem El {N ls}:Ah N 215 [] ls=Em N ls:=id rfl
theorem Eo {N ls}:Ah N 216 [] ls=Ep N ls:=id rfl
def ED:=oS PN EG Ah
def Q9:List Nat:=[2,0,0,0,0,0,0,0,1,0,0,0,0,3,0,0,0,0,0,0,0,0,0,0,0,0,0,0,3,0,3,3,1,3,1,0,0,0,3,0,0,0]
def HN (O:Alg) (x:Ags O):O.M:=let u0:=(lq9 O 0);(O.c (O.g 127 [] (xr x [2,0,0,0,0,0,0,0,1,0,0,0,0,3,0,0,0,0,0,0,0,0,0,0,0,0,0,0,3,0,3,3,1,3,1,0,0,0,3,0,0,0] 0)) fun c0=>(O.b (O.h (O.m c0 0)) (O.a [.int (O.lit .u8 0)]) (O.b (O.i (O.n u0 (x.I 15)) (O.t (x.I 15) (x.I 17)) O.f) (O.a [.int (O.lit .u8 3)]) (O.c (O.g 217 [] (xr x kI 14)) fun c1=>(O.c (O.b (O.m c1 0) (O.g 218 [] (xr x kI 14)) (O.a [.rows O.x])) fun c2=>(O.b (O.i (O.m c1 0) (O.e (O.l (O.p c2 0)) u0) O.f) (O.a [.int (O.lit .u8 1)]) (O.b (O.i (O.n u0 (x.I 16)) (O.t (x.I 16) (x.I 24)) O.f) (O.a [.int (O.lit .u8 2)]) (O.a [.int (O.lit .u8 0)]))))))))
def DY:Nat→Env:=eL [(127,BI),(217,BG),(218,Cg)]
def DK:=oS Q9 HN DY
def Te:List Nat:=[2,0,0,0,0,0,0,0,1,0,0,0,0,3,0,0,0,0,0,0,0,0,0,0,0,0,0,0,3,0,3,3,1,3,1,0,0,0,3,0,0,0,0,0,0,0,1,0,0,0,0,0,0,0,1,0,0,0,0,1,0]
def Jj (O:Alg) (x:Ags O):O.M:=let u1:=(lq9 O 0);(O.c (O.g 127 [] (xr x [2,0,0,0,0,0,0,0,1,0,0,0,0,3,0,0,0,0,0,0,0,0,0,0,0,0,0,0,3,0,3,3,1,3,1,0,0,0,3,0,0,0] 0)) fun c0=>let u0:=(O.h (O.m c0 0));(O.c (O.b (O.h u0) (O.g 107 [] (xr x [0,0,0,0,1,0,0,0,0,0,0,0,1,0,0,0,0,1,0] 42)) (O.a [.int u1])) fun c1=>(O.b (O.i u0 O.j (O.h (O.e (O.d c1 0) u1))) (O.c (O.g 134 [] (xr x kI 14)) fun c2=>(O.a (ap O (cr O c2 kI 0) [.int (lq9 O 1)]))) (O.b (O.h (O.e (x.I 41) (O.lit .u8 0))) (O.c (O.g 134 [] (xr x kI 14)) fun c2=>(O.a (ap O (cr O c2 kI 0) [.int (lq9 O 26)]))) (O.c (O.b (O.h (O.i (O.i (O.e (x.I 42) (O.lit .u8 1)) O.j (O.e (x.I 42) (O.lit .u8 12))) O.j (O.e (x.I 42) (O.lit .u8 16)))) (O.g 188 [] (xr x kI 14)) (O.a [.bool O.f])) fun c2=>(O.b (O.i (O.i (O.i (O.e (x.I 42) (O.lit .u8 1)) O.j (O.e (x.I 42) (O.lit .u8 12))) O.j (O.e (x.I 42) (O.lit .u8 16))) O.j (O.i (O.h (O.m c2 0)) (O.h (O.e (x.I 42) (O.lit .u8 2))) O.f)) (O.c (O.g 134 [] (xr x kI 14)) fun c3=>(O.a (ap O (cr O c3 kI 0) [.int (lq9 O 1)]))) (O.c (O.g 189 [] (xr x [2,0,0,0,0,0,0,0,1,0,0,0,0,3,0,0,0,0,0,0,0,0,0,0,0,0,0,0,3,0,3,3,1,3,1,0,0,0,3,0,0,0,0,0,0,0,1,0,0,0,0,0,0,0,1,0,0,0,0,1,0] 0)) fun c3=>(O.b (O.h (O.e (O.d c3 28) u1)) (O.c (O.g 134 [] (xr x kI 14)) fun c4=>(O.a (ap O (cr O c4 kI 0) [.int (O.d c3 28)]))) (O.b (O.e (O.d c3 27) (O.lit .u8 0)) (O.c (O.g 190 [] (ap O (xr x kR 0) (ap O (cr O c3 [0,0,0,0,0,0,0,0,0,0,0,0,0,0,3,0,3,3] 0) (ap O [.bool (O.e (x.I 42) (O.lit .u8 4))] (cr O c3 [3,1,0,0,0,3,0,0,0] 19))))) fun c4=>(O.a (ap O (cr O c3 [0,0,0,0,0,0,0,0,0,0,0,0,0,0,3,0,3,3] 0) (ap O [.bool (O.e (x.I 42) (O.lit .u8 4))] (ap O (cr O c3 [3,1,0,0,0,3,0,0] 19) [.int (O.d c4 0),.int u1]))))) (O.a (ap O (cr O c3 [0,0,0,0,0,0,0,0,0,0,0,0,0,0,3,0,3,3] 0) (ap O [.bool (O.e (x.I 42) (O.lit .u8 4))] (ap O (cr O c3 [3,1,0,0,0,3,0,0,0] 19) [.int u1])))))))))))))
def CB:Nat→Env:=eL [(107,C0),(127,BI),(134,AO),(188,Fv),(189,ED),(190,DK)]
theorem Ov {N ls}:CB N 107 [] ls=C0 N ls:=id rfl
theorem Nq {N ls}:CB N 127 [] ls=BI N ls:=id rfl
theorem NW {N ls}:CB N 134 [] ls=AO N ls:=id rfl
theorem Ni {N ls}:CB N 188 [] ls=Fv N ls:=id rfl
theorem FV {N ls}:CB N 189 [] ls=ED N ls:=id rfl
theorem GA {N ls}:CB N 190 [] ls=DK N ls:=id rfl
def GT:=oS Te Jj CB
def WT:List Nat:=[2,0,0,0,0,0,0,0,1,0,0,0,0,3,0,0,1,3,0,0,0,0,0,0,0,0,0,1,0,0,0,0,0,0,0,1,0,0,0,0,1,0]
def L5 (O:Alg) (x:Ags O):O.M:=let u23:=(lq9 O 2);let u22:=(lq9 O 1);let u21:=(lq9 O 0);let u17:=(O.u .i64 (x.I 24) u22);let u11:=(O.r u17 u23);let u10:=(O.e u17 u22);(O.c (O.g 106 [] (xr x kM 0)) fun c0=>let u20:=(O.h (O.m c0 0));(O.c (O.b (O.h u20) (O.g 107 [] (xr x [0,0,0,0,1,0,0,0,0,0,0,0,1,0,0,0,0,1,0] 23)) (O.a [.int u21])) fun c1=>(O.b (O.i u20 O.j (O.h (O.e (O.d c1 0) u21))) (O.c (O.g 108 [] (xr x kM 0)) fun c2=>(O.a (ap O (cr O c2 kM 0) [.int u22]))) (O.b (O.e (x.I 14) (O.lit .u8 5)) (O.c (O.g 108 [] (xr x kM 0)) fun c2=>(O.a (ap O (cr O c2 kM 0) [.int (lq9 O 26)]))) (O.c (O.g 108 [] (xr x kM 0)) fun c2=>let u28:=(O.d c2 15);let u27:=(O.d c2 18);let u26:=(O.d c2 19);let u25:=(O.d c2 14);let u24:=(O.p c2 17);let u19:=(O.l u24);let u12:=(O.u .i64 u19 u22);let u4:=(O.r u12 u19);let u0:=(O.q .i64 (O.ah u10 u26 u27) (lq9 O 5));(O.c (O.b (O.e (x.I 23) (O.lit .u8 1)) (O.b (O.h (O.e u25 (O.lit .u8 1))) (O.a (ap O [.int u22] (cr O c2 kM 0))) (O.c (O.g 135 [] [.int (x.I 24)]) fun c3=>(O.b (x.B 27) (O.a (ap O [.int u21] (ap O (cr O c2 kR 0) (ap O [.int (O.lit .u8 2),.int (x.I 24)] (cr O c2 [1,3,0,0,0,0,0] 16))))) (O.a (ap O [.int u21] (ap O (cr O c2 kR 0) (ap O [.int (O.lit .u8 2),.int (O.d c3 0)] (cr O c2 [1,3,0,0,0,0,0] 16)))))))) (O.b (O.e (x.I 23) (O.lit .u8 2)) (O.c (O.b (O.h (O.e u25 (O.lit .u8 2))) (O.a (ap O [.int u22] (cr O c2 kM 0))) (O.c (O.g 128 [] (ap O (cr O c2 kM 0) [.int u19])) fun c3=>let u16:=(O.u .i64 (O.d c3 0) u22);let u9:=(O.e u16 u22);let u8:=(O.r u16 u23);(O.c (O.g 170 [] (ap O (cr O c2 kM 0) [.int (O.d c3 0)])) fun c4=>(O.k u8 (O.c (O.g 169 [] (ap O (cr O c2 kR 0) [.int (O.d c3 0),.int (O.d c4 0),.int (O.ah u9 u26 u27)])) fun c5=>(O.b (O.h (O.e (O.d c5 28) u21)) (O.a (ap O [.int u22] (cr O c2 kM 0))) (O.c (O.g 171 [] (ap O (cr O c2 kR 0) (ap O (cr O c5 kI 0) (xr x [0,0,0,0,1,0,0,0,0,0,0,0,1,0,0,0,0,1,0] 23)))) fun c6=>let u14:=(O.ad u24 (O.ac [(cr O c6 kI 0)]));(O.b (O.h (O.e (O.d c6 28) u21)) (O.a (ap O [.int (O.d c6 28)] (cr O c2 kM 0))) (O.k u8 (O.k (O.v (O.l u14) 304) (O.a (ap O [.int u21] (ap O (cr O c2 kR 0) (ap O [.int (O.lit .u8 3),.int u28,.bool (O.m c2 16),.rows u14,.int (O.ah (O.e u16 u21) u21 u27),.int (O.ah u9 u21 u26)] (cr O c2 [0,0,0] 20))))))))))))))) fun c3=>(O.a (cr O c3 [0,2,0,0,0,0,0,0,0,1,0,0,0,0,3,0,0,1,3,0,0,0,0,0] 0))) (O.b (O.e (x.I 23) (O.lit .u8 12)) (O.b (O.h (O.e u25 (O.lit .u8 4))) (O.a (ap O [.int u22] (cr O c2 kM 0))) (O.b (O.h (O.e (x.I 24) u28)) (O.a (ap O [.int u23] (cr O c2 kM 0))) (O.a (ap O [.int u21] (ap O (cr O c2 kR 0) (ap O [.int (O.lit .u8 2),.int u28,.bool (x.B 27)] (cr O c2 [3,0,0,0,0,0] 17))))))) (O.b (O.e (x.I 23) (O.lit .u8 16)) (O.c (O.b (O.e u25 (O.lit .u8 3)) (O.k u4 (O.a (ap O (cr O c2 [2,0,0,0,0,0,0,0,1,0,0,0,0,3,0,0,1] 0) (ap O [.rows (O.aa u24 u12 27 [.int (O.lit .u8 5)])] (cr O c2 [0,0,0,0,0] 18))))) (O.a (cr O c2 kM 0))) fun c3=>(O.c (O.g 172 [] (cr O c3 kR 0)) fun c4=>(O.a (ap O [.int u21] (ap O (cr O c3 kR 0) (ap O [.int (O.lit .u8 5)] (ap O (cr O c3 [0,1,3,0,0] 15) [.int (O.d c4 0),.int u21,.int u21]))))))) (O.c (O.b (O.h (O.e u25 (O.lit .u8 3))) (O.a (ap O [.int u22] (cr O c2 kM 0))) (O.k u4 (O.c (O.g 171 [] (ap O (cr O c2 kR 0) (ap O (rr O u24 u12 kI 0) (xr x [0,0,0,0,1,0,0,0,0,0,0,0,1,0,0,0,0,1,0] 23)))) fun c3=>let u3:=(O.aa u24 u12 0 (cr O c3 kI 0));let u2:=(O.l u3);(O.b (O.h (O.e (O.d c3 28) u21)) (O.a (ap O [.int (O.d c3 28)] (cr O c2 kM 0))) (O.k u4 (O.b (O.i (O.e (x.I 23) (O.lit .u8 13)) (O.h (O.e (x.I 24) (O.d c3 0))) O.f) (O.c (O.c (O.w (fun s4 c4=>let u30:=(O.d c4 0);let u1:=(O.r u30 u2);(O.b (O.t u21 u30) (O.k u1 (O.b (O.e (O.o u3 u30 0) (x.I 24)) (O.k u1 (O.c (O.g 191 [] (rr O u3 u30 kI 0)) fun c5=>(O.k u1 (O.a (ap O [.int u21] (ap O (cr O c2 [2,0,0,0,0,0,0,0,1,0,0,0,0,3,0,0,1] 0) (ap O [.rows (O.aa u3 u30 0 (cr O c5 kI 0))] (cr O c2 [0,0,0,0,0] 18)))))))) (s4 [.int (O.u .i64 u30 u22)]))) (O.a [.int u22]))) [.int (O.u .i64 u2 u22)]) fun c4=>(O.b (O.ab c4 0) (O.a (cr O c4 kM 1)) (O.k u11 (O.k u11 (O.a (ap O (cr O c2 [2,0,0,0,0,0,0,0,1,0,0,0,0,3,0,0,1] 0) (ap O [.rows u3,.int (O.ah (O.e u17 u21) u0 u27),.int (O.ah u10 u0 u26)] (cr O c2 [0,0,0] 20)))))))) fun c4=>(O.a (ap O [.int u21] (cr O c4 kM 0)))) (O.a (ap O [.int u21] (ap O (cr O c2 [2,0,0,0,0,0,0,0,1,0,0,0,0,3,0,0,1] 0) (ap O [.rows u3] (cr O c2 [0,0,0,0,0] 18))))))))))) fun c3=>(O.a (cr O c3 [0,2,0,0,0,0,0,0,0,1,0,0,0,0,3,0,0,1,3,0,0,0,0,0] 0))))))) fun c3=>let u29:=(O.p c3 18);let u18:=(O.l u29);let u15:=(O.e u18 (lq9 O 3));let u13:=(O.u .i64 u18 u22);let u7:=(O.e u18 (O.ai .i64 u23 (O.d c3 3)));let u6:=(O.o u29 u13 0);let u5:=(O.r u13 u18);(O.b (O.h (O.e (O.d c3 0) u21)) (O.c (O.g 108 [] (xr x kM 0)) fun c4=>(O.a (ap O (cr O c4 kM 0) [.int (O.d c3 0)]))) (O.c (O.k (O.h (O.z (O.h (O.h (O.e (O.d c3 15) (O.lit .u8 3)))) (O.h u5))) (O.b (O.i (O.h (O.e (O.d c3 15) (O.lit .u8 3))) O.j (O.e (O.o u29 u13 27) (O.lit .u8 0))) (O.a (cr O c3 kM 1)) (O.k u5 (O.c (O.g 139 [] (ap O (cr O c3 kM 1) [.int (O.d c3 16)])) fun c4=>(O.c (O.g 135 [] [.int (O.d c3 16)]) fun c5=>(O.c (O.g 139 [] (ap O (cr O c3 kM 1) [.int (O.d c5 0)])) fun c6=>(O.c (O.b u7 (O.a [.bool u7]) (O.c (O.b u15 (O.g 139 [] (ap O (cr O c3 kR 1) (ap O [.int (O.lit .u8 2)] (ap O (cr O c3 [0,1,3,0,0,0,0,0] 16) [.int u6])))) (O.a [.int u21])) fun c7=>(O.c (O.b u15 (O.g 135 [] [.int u6]) (O.a [.int u21])) fun c8=>(O.c (O.b u15 (O.g 139 [] (ap O (cr O c3 kR 1) (ap O [.int (O.lit .u8 2)] (ap O (cr O c3 [0,1,3,0,0,0,0,0] 16) [.int (O.d c8 0)])))) (O.a [.int u21])) fun c9=>(O.a [.bool (O.i u15 (O.n (O.d c7 0) (O.d c9 0)) O.f)]))))) fun c7=>(O.b (O.m c7 0) (O.c (O.g 140 [] (ap O (cr O c3 kR 1) (ap O [.int (O.lit .u8 5)] (cr O c3 [0,1,3,0,0,0,0,0] 16)))) fun c8=>(O.a (ap O (cr O c3 kR 1) (ap O [.int (O.lit .u8 5)] (ap O (cr O c3 [0,1,3,0,0] 16) (cr O c8 [0,0,0] 0)))))) (O.b (O.i (O.i (O.e u18 u23) (O.n u21 (O.d c3 11)) O.f) (O.t (O.d c3 11) (O.u .i64 (O.d c4 0) (O.d c6 0))) O.f) (O.a (ap O (cr O c3 kR 1) (ap O [.int (O.lit .u8 4)] (cr O c3 [0,1,3,0,0,0,0,0] 16)))) (O.a (ap O (cr O c3 kR 1) (ap O [.int (O.lit .u8 2)] (cr O c3 [0,1,3,0,0,0,0,0] 16))))))))))))) fun c4=>(O.a (ap O (cr O c4 kM 0) [.int u21]))))))))))
def BA:Nat→Env:=eL [(106,C4),(107,C0),(108,Hd),(128,C1),(135,BJ),(139,Bo),(140,Fa),(169,Fb),(170,Gj),(171,GT),(172,Bi),(191,Bz)]
theorem RN {N ls}:BA N 106 [] ls=C4 N ls:=id rfl
theorem RS {N ls}:BA N 107 [] ls=C0 N ls:=id rfl
theorem Q5 {N ls}:BA N 108 [] ls=Hd N ls:=id rfl
theorem Eu {N ls}:BA N 128 [] ls=C1 N ls:=id rfl
theorem Eg {N ls}:BA N 135 [] ls=BJ N ls:=id rfl
theorem Ik {N ls}:BA N 139 [] ls=Bo N ls:=id rfl
theorem Hm {N ls}:BA N 140 [] ls=Fa N ls:=id rfl
theorem D2 {N ls}:BA N 169 [] ls=Fb N ls:=id rfl
theorem ER {N ls}:BA N 170 [] ls=Gj N ls:=id rfl
theorem Cp {N ls}:BA N 171 [] ls=GT N ls:=id rfl
theorem C7 {N ls}:BA N 172 [] ls=Bi N ls:=id rfl
theorem Gt {N ls}:BA N 191 [] ls=Bz N ls:=id rfl
def L9:=oS WT L5 BA
def Uy:List Nat:=[2,0,0,0,0,0,0,0,1,0,0,0,0,3,0,0,1,3,0,0,0,0,0,0,0,0,0,0,1,0,0,0,0,0,0,0,1,0,0,0,0,1,0]
def MV (O:Alg) (x:Ags O):O.M:=(O.b (O.t (lq9 O 4000) (x.I 23)) (O.a (ap O (xr x kM 0) [.int (lq9 O 26)])) (O.c (O.g 92 [] (ap O (xr x kM 0) (xr x [0,0,0,0,1,0,0,0,0,0,0,0,1,0,0,0,0,1,0] 24))) fun c0=>(O.a (cr O c0 [2,0,0,0,0,0,0,0,1,0,0,0,0,3,0,0,1,3,0,0,0,0,0,0] 0))))
def Gx (N:Nat):Env:=fun f fns ls=>(cond (Nat.beq f 92&&Ae fns []) (L9 N ls) none)
theorem TL {N ls}:Gx N 92 [] ls=L9 N ls:=id rfl
def L6:=oS Uy MV Gx
def R2:List Nat:=[0,2,0,0,0,0,0,0,0,1,0,0,0,0,3,0,0,1,3,0,0,0,0,0,2,0,0,0,0,0,0,0,1,0,0,0,0,3,0,0,1,3,0,0,0,0,0,0,0,0,0,0,1,0,0,0,0,1,0]
def IR (O:Alg) (x:Ags O):O.M:=let u0:=(O.u .i64 (O.l (x.L 18)) (lq9 O 1));(O.k (O.r u0 (O.l (x.L 18))) (O.k (O.r u0 (O.l (x.L 41))) (O.c (O.g 57 [] (ap O (xr x kR 1) (xr x [0,0,0,0,0,1,0,0,0,0,1,0] 47))) fun c0=>(O.a (ap O [.int (x.I 0),.int u0,.int (O.o (x.L 18) u0 10),.int (O.o (x.L 18) u0 11),.int (O.o (x.L 18) u0 15),.int (O.o (x.L 18) u0 12),.int (O.o (x.L 18) u0 13),.bool (O.rB (x.L 18) u0 20)] (ap O (xr x [0,0,0,0,0,1,0,0,0,0,1,0] 47) (ap O (cr O c0 [0,0,0,0,0,0,1,1,1,1] 0) [.int (O.o (x.L 41) u0 3),.int (O.o (x.L 41) u0 4)])))))))
def J4:Nat→Env:=eL [(57,B0)]
theorem Lm {N ls}:J4 N 57 [] ls=B0 N ls:=id rfl
def IQ:=oS R2 IR J4
def Ut:List Nat:=[2,0,0,0,0,0,0,0,1,0,0,0,0,3,3]
def Me (O:Alg) (x:Ags O):O.M:=let u3:=(lq9 O 1);let u2:=(lq9 O 0);(O.c (O.g 65 [] (xr x kR 0)) fun c0=>(O.b (O.h (O.e (O.d c0 23) u2)) (O.a [.rows O.x,.str (O.s ⟨#[]⟩),.int u2,.int u2,.int u2,.int u2,.int u2,.int u2,.int u2,.bool O.f,.int u2,.int u2,.int u2,.int u2,.rows O.x,.int (O.lit .u8 0),.int u2,.bool O.f,.rows O.x,.int u2,.int u2,.int (O.lit .u8 0),.int u2,.int u2,.int u2,.int u3]) (O.c (O.w (fun s1 c1=>let u5:=(O.p c1 0);let u4:=(O.d c1 1);let u1:=(O.q .i64 u4 u3);(O.b (O.n u4 (O.l (x.L 14))) (O.k (O.r u4 (O.l (x.L 14))) (O.c (O.g 66 [] (ap O (cr O c1 kM 2) (ap O [.int u4] (rr O (x.L 14) u4 [0,0,0,0,1,0,0,0,0,0,0,0,1,0,0,0,0,1,0] 0)))) fun c2=>(O.b (O.h (O.e (O.d c2 23) u2)) (O.a (ap O [.int u2,.rows u5,.int u4,.int (O.d c2 23)] (cr O c1 kM 2))) (O.b (O.e (O.o (x.L 14) u4 0) (O.lit .u8 4)) (O.c (O.g 67 [] (ap O (cr O c1 [0,2,0,0,0,0,0,0,0,1,0,0,0,0,3,0,0,1,3,0,0,0,0,0] 1) (ap O (cr O c2 kM 0) (rr O (x.L 14) u4 [0,0,0,0,0,1,0,0,0,0,1,0] 7)))) fun c3=>let u0:=(O.ad u5 (O.ac [(cr O c3 [0,0,0,0,0,0,0,1,0,0,0,0,0,1,0,0,0,0,1,0,0,0,0,0,0,0,1,1,1,1,0,0] 0)]));(O.k (O.v (O.l u0) 216) (s1 (ap O [.rows u0,.int u1] (cr O c2 kM 0))))) (s1 (ap O [.rows u5,.int u1] (cr O c2 kM 0))))))) (O.a (ap O [.int u3,.rows u5] (cr O c1 kM 2))))) (ap O [.rows O.x,.int u2] (cr O c0 kM 0))) fun c1=>(O.b (O.ab c1 0) (O.a (ap O [.rows (O.p c1 1)] (ap O (cr O c1 kM 4) [.int (O.d c1 2),.int (O.d c1 3)]))) (O.a (ap O (cr O c1 [3,2,0,0,0,0,0,0,0,1,0,0,0,0,3,0,0,1,3,0,0,0,0,0] 1) [.int (lq9 O (-1)),.int u2]))))))
def Dg (N:Nat):Env:=fun f fns ls=>(cond (Nat.beq f 65&&Ae fns []) (N0 N ls) (cond (Nat.beq f 66&&Ae fns []) (L6 N ls) (cond (Nat.beq f 67&&Ae fns []) (IQ N ls) none)))
theorem Uk {N ls}:Dg N 65 [] ls=N0 N ls:=id rfl
theorem M5 {N ls}:Dg N 66 [] ls=L6 N ls:=id rfl
theorem JB {N ls}:Dg N 67 [] ls=IQ N ls:=id rfl
def HL:=oS Ut Me Dg
def RG:List Nat:=[2,0,0,0,0,0,0,0,1,0,0,0,0,3,3]
def Il (O:Alg) (x:Ags O):O.M:=(O.c (O.g 32 [] (xr x [2,0,0,0,0,0,0,0,1,0,0,0,0,3,3] 0)) fun c0=>(O.a (cr O c0 [2,0,0,0,0,0,0,0,1,0,0,0,0,3,0,0,1,3,0,0,0,0,0,0,0] 1)))
def Ed (N:Nat):Env:=fun f fns ls=>(cond (Nat.beq f 32&&Ae fns []) (HL N ls) none)
theorem Tr {N ls}:Ed N 32 [] ls=HL N ls:=id rfl
def Iw:=oS RG Il Ed
def S4:List Nat:=[2,0,0,0,0,0,0,0,1,0,0,0,0,3,3]
def KE (O:Alg) (x:Ags O):O.M:=let u0:=(lq9 O 0);(O.c (O.g 61 [] (xr x kR 0)) fun c0=>(O.b (O.h (O.e (O.d c0 0) u0)) (O.a [.int (O.d c0 0)]) (O.b (O.n (lq9 O 4000) (O.l (x.L 14))) (O.a [.int (lq9 O 9)]) (O.c (O.g 62 [] (xr x [2,0,0,0,0,0,0,0,1,0,0,0,0,3,3] 0)) fun c1=>(O.b (O.h (O.e (O.d c1 24) u0)) (O.a [.int (lq9 O 10)]) (O.a [.int u0]))))))
def Dy (N:Nat):Env:=fun f fns ls=>(cond (Nat.beq f 61&&Ae fns []) (AP N ls) (cond (Nat.beq f 62&&Ae fns []) (Iw N ls) none))
theorem RZ {N ls}:Dy N 61 [] ls=AP N ls:=id rfl
theorem Sr {N ls}:Dy N 62 [] ls=Iw N ls:=id rfl
def KU:=oS S4 KE Dy
def SS:List Nat:=[2,0,0,0,0,0,0,0,1,0,0,0,0,3,3]
def IX (O:Alg) (x:Ags O):O.M:=let u19:=(lq9 O 1);let u18:=(lq9 O 0);let u17:=(lq9 O (-1));(O.c (O.w (fun s0 c0=>let u22:=(O.d c0 0);let u21:=(O.p c0 1);let u15:=(O.l u21);let u8:=(O.o (x.L 14) u22 2);let u20:=(O.lit .u8 0);let u7:=(O.o (x.L 14) u22 0);let u6:=(O.q .i64 u22 u19);(O.b (O.n u22 (O.l (x.L 14))) (O.k (O.r u22 (O.l (x.L 14))) (O.b (O.e u7 (O.lit .u8 2)) (O.c (O.c (O.w (fun s1 c1=>let u28:=(O.d c1 1);let u24:=(O.d c1 0);(O.b (O.n u24 u15) (O.k (O.r u24 u15) (O.b (O.e (O.o u21 u24 0) u28) (O.a [.int u18,.int u24,.int u28]) (s1 [.int (O.q .i64 u24 u19),.int u28]))) (O.a [.int u19,.int u28]))) [.int u18,.int u8]) fun c1=>(O.b (O.ab c1 0) (O.a [.int (O.d c1 1),.int (O.d c1 2)]) (O.a [.int u17,.int (O.d c1 1)]))) fun c1=>let u11:=(O.ad u21 (O.ac [[.int (O.d c1 1),.int u18,.int u18,.int u18,.int u18,.bool O.f,.int u20,.int u18,.int u18,.bool O.f]]));let u9:=(O.l u11);(O.c (O.b (O.n (O.d c1 0) u18) (O.k (O.v u9 72) (O.a [.int (O.u .i64 u9 u19),.rows u11])) (O.a [.int (O.d c1 0),.rows u21])) fun c2=>let u2:=(O.r (O.d c2 0) (O.l (O.p c2 1)));let u1:=(O.aa (O.p c2 1) (O.d c2 0) 9 [.bool (O.i (O.rB (O.p c2 1) (O.d c2 0) 9) O.j O.j)]);let u0:=(O.l u1);(O.k u2 (O.k u2 (O.c (O.c (O.w (fun s3 c3=>let u29:=(O.d c3 1);let u25:=(O.d c3 0);(O.b (O.n u25 u0) (O.k (O.r u25 u0) (O.b (O.e (O.o u1 u25 0) u29) (O.a [.int u18,.int u25,.int u29]) (s3 [.int (O.q .i64 u25 u19),.int u29]))) (O.a [.int u19,.int u29]))) [.int u18,.int (O.o (x.L 14) u22 3)]) fun c3=>(O.b (O.ab c3 0) (O.a [.int (O.d c3 1),.int (O.d c3 2)]) (O.a [.int u17,.int (O.d c3 1)]))) fun c3=>let u14:=(O.ad u1 (O.ac [[.int (O.d c3 1),.int u18,.int u18,.int u18,.int u18,.bool O.f,.int u20,.int u18,.int u18,.bool O.f]]));let u12:=(O.l u14);(O.c (O.b (O.n (O.d c3 0) u18) (O.k (O.v u12 72) (O.a [.int (O.u .i64 u12 u19),.rows u14])) (O.a [.int (O.d c3 0),.rows u1])) fun c4=>let u3:=(O.r (O.d c4 0) (O.l (O.p c4 1)));(O.k u3 (O.k u3 (s0 [.int u6,.rows (O.aa (O.p c4 1) (O.d c4 0) 9 [.bool (O.i (O.rB (O.p c4 1) (O.d c4 0) 9) O.j O.j)])]))))))))) (O.b (O.e u7 (O.lit .u8 5)) (O.c (O.c (O.w (fun s1 c1=>let u30:=(O.d c1 1);let u26:=(O.d c1 0);(O.b (O.n u26 u15) (O.k (O.r u26 u15) (O.b (O.e (O.o u21 u26 0) u30) (O.a [.int u18,.int u26,.int u30]) (s1 [.int (O.q .i64 u26 u19),.int u30]))) (O.a [.int u19,.int u30]))) [.int u18,.int u8]) fun c1=>(O.b (O.ab c1 0) (O.a [.int (O.d c1 1),.int (O.d c1 2)]) (O.a [.int u17,.int (O.d c1 1)]))) fun c1=>let u13:=(O.ad u21 (O.ac [[.int (O.d c1 1),.int u18,.int u18,.int u18,.int u18,.bool O.f,.int u20,.int u18,.int u18,.bool O.f]]));let u10:=(O.l u13);(O.c (O.b (O.n (O.d c1 0) u18) (O.k (O.v u10 72) (O.a [.int (O.u .i64 u10 u19),.rows u13])) (O.a [.int (O.d c1 0),.rows u21])) fun c2=>let u4:=(O.r (O.d c2 0) (O.l (O.p c2 1)));(O.k u4 (O.k u4 (s0 [.int u6,.rows (O.aa (O.p c2 1) (O.d c2 0) 9 [.bool (O.i (O.rB (O.p c2 1) (O.d c2 0) 9) O.j (O.h (O.rB (x.L 14) u22 4)))])]))))) (s0 [.int u6,.rows u21])))) (O.a [.rows u21]))) [.int u18,.rows O.x]) fun c0=>(O.c (O.w (fun s1 c1=>let u23:=(O.p c1 1);let u16:=(O.l u23);(O.b (O.t (O.d c1 0) (x.I 1)) (O.c (O.c (O.w (fun s2 c2=>let u31:=(O.d c2 1);let u27:=(O.d c2 0);(O.b (O.n u27 u16) (O.k (O.r u27 u16) (O.b (O.e (O.o u23 u27 0) u31) (O.a [.int u18,.int u27,.int u31]) (s2 [.int (O.q .i64 u27 u19),.int u31]))) (O.a [.int u19,.int u31]))) [.int u18,.int (O.d c1 0)]) fun c2=>(O.b (O.ab c2 0) (O.a [.int (O.d c2 1),.int (O.d c2 2)]) (O.a [.int u17,.int (O.d c2 1)]))) fun c2=>(O.c (O.b (O.n (O.d c2 0) u18) (O.k (O.v (O.l (O.ad u23 (O.ac [[.int (O.d c2 1),.int u18,.int u18,.int u18,.int u18,.bool O.f,.int (O.lit .u8 0),.int u18,.int u18,.bool O.f]]))) 72) (O.a [.int (O.u .i64 (O.l (O.ad u23 (O.ac [[.int (O.d c2 1),.int u18,.int u18,.int u18,.int u18,.bool O.f,.int (O.lit .u8 0),.int u18,.int u18,.bool O.f]]))) u19),.rows (O.ad u23 (O.ac [[.int (O.d c2 1),.int u18,.int u18,.int u18,.int u18,.bool O.f,.int (O.lit .u8 0),.int u18,.int u18,.bool O.f]]))])) (O.a [.int (O.d c2 0),.rows u23])) fun c3=>let u5:=(O.r (O.d c3 0) (O.l (O.p c3 1)));(O.k u5 (O.k u5 (s1 [.int (O.q .i64 (O.d c1 0) u19),.rows (O.aa (O.p c3 1) (O.d c3 0) 9 [.bool (O.i (O.rB (O.p c3 1) (O.d c3 0) 9) O.j O.f)])]))))) (O.a [.rows u23]))) [.int u19,.rows (O.p c0 0)]) fun c1=>(O.a [.rows (O.p c1 0)])))
def PS:Nat→Env:=eL []
def IZ:=oS SS IX PS
def D0:List Nat:=[3,3]
def Bs (O:Alg) (x:Ags O):O.M:=let u0:=(lq9 O 0);(O.c (O.w (fun s0 c0=>let u1:=(O.d c0 0);(O.b (O.n u1 (O.l (x.L 0))) (O.k (O.r u1 (O.l (x.L 0))) (O.b (O.e (O.o (x.L 0) u1 0) (O.o (x.L 1) u0 0)) (O.a [.int u0,.int u1]) (s0 [.int (O.q .i64 u1 (lq9 O 1))]))) (O.a [.int (lq9 O 1)]))) [.int u0]) fun c0=>(O.b (O.ab c0 0) (O.a [.int (O.d c0 1)]) (O.a [.int (lq9 O (-1))])))
def Bh (N:Nat):Env:=fun f fns ls=>none
def Br:=oS D0 Bs Bh
def OK:List Nat:=[0,0,0,0,0,1,0,0,0,0,1,0,0,0]
def Fn (O:Alg) (x:Ags O):O.M:=(O.b (O.e (x.I 6) (O.lit .u8 0)) (O.a [.int (lq9 O 0)]) (O.b (O.e (x.I 7) (lq9 O 1)) (O.a [.int (x.I 12)]) (O.b (O.e (x.I 7) (lq9 O 2)) (O.a [.int (x.I 13)]) (O.a [.int (lq9 O 0)]))))
def MJ:Nat→Env:=eL []
def FZ:=oS OK Fn MJ
def NL:List Nat:=[2,0,0,0,0,0,0,0,1,0,0,0,0,3,3,0]
def Gv (O:Alg) (x:Ags O):O.M:=let u18:=(lq9 O 1);let u17:=(lq9 O 0);(O.c (O.g 27 [] (xr x [2,0,0,0,0,0,0,0,1,0,0,0,0,3,3] 0)) fun c0=>(O.b (O.h (O.e (O.d c0 0) u17)) (O.a [.rows O.x,.int (O.d c0 0)]) (O.c (O.g 17 [] [.rows (x.L 14)]) fun c1=>let u14:=(O.l (O.p c1 0));let u13:=(O.o (O.p c1 0) (x.I 15) 1);let u12:=(O.o (O.p c1 0) (x.I 15) 0);let u9:=(O.r (x.I 15) u14);let u6:=(O.aq (x.L 14) u12 u13);let u5:=(O.l u6);(O.b (O.i (O.n (x.I 15) u17) O.j (O.t u14 (x.I 15))) (O.a [.rows O.x,.int (lq9 O 2)]) (O.k u9 (O.k u9 (O.k (O.ao u12 u13 (O.l (x.L 14))) (O.c (O.g 28 [] (ap O (xr x kR 0) [.rows u6])) fun c2=>(O.c (O.g 32 [] (xr x [2,0,0,0,0,0,0,0,1,0,0,0,0,3,3] 0)) fun c3=>let u20:=(O.p c3 0);let u15:=(O.l u20);(O.c (O.w (fun s4 c4=>let u23:=(O.p c4 1);let u19:=(O.d c4 0);let u11:=(O.o u20 u19 5);let u10:=(O.o u20 u19 12);let u7:=(O.q .i64 u19 u18);(O.b (O.n u19 u15) (O.k (O.r u19 u15) (O.b (O.h (O.e (O.o u20 u19 1) (x.I 15))) (s4 [.int u7,.rows u23]) (O.c (O.g 30 [31] [.rows u23,.rows (O.ac [[.int u11]])]) fun c5=>let u21:=(O.d c5 0);let u1:=(O.aa u23 u21 1 [.int (O.q .i64 (O.o u23 u21 1) (O.o u20 u19 20))]);(O.k (O.r u21 (O.l u23)) (O.c (O.b (O.rB u20 u19 27) (O.a [.rows (O.aa u1 u21 2 [.int (O.q .i64 (O.o u1 u21 2) u18)])]) (O.a [.rows u1])) fun c6=>let u24:=(O.p c6 0);(O.c (O.b (O.i (O.e (O.o u20 u19 9) (O.lit .u8 1)) (O.e (O.o u20 u19 10) u17) O.f) (O.b (O.e u10 (lq9 O 4)) (O.a [.rows (O.aa u24 u21 3 [.int (O.q .i64 (O.o u24 u21 3) u18)])]) (O.b (O.e u10 (lq9 O 6)) (O.a [.rows (O.aa u24 u21 4 [.int (O.q .i64 (O.o u24 u21 4) u18)])]) (O.a [.rows u24]))) (O.a [.rows u24])) fun c7=>let u27:=(O.p c7 0);(O.c (O.g 33 [] (ap O (rr O u20 u19 [0,0,0,0,0,1,0,0,0,0,1,0] 8) [.int u11,.int (O.o u20 u19 6)])) fun c8=>(O.b (O.n u17 (O.d c8 0)) (O.c (O.g 30 [31] [.rows u27,.rows (O.ac [[.int (O.d c8 0)]])]) fun c9=>let u26:=(O.d c9 0);let u0:=(O.aa (O.aa (O.aa u27 u26 5 [.bool O.j]) u26 6 [.int (O.o u20 u19 14)]) u26 8 [.int (O.o u20 u19 16)]);(O.k (O.r u26 (O.l u27)) (O.b (O.rB u20 u19 28) (s4 [.int u7,.rows (O.aa u0 u26 7 [.int (O.o u20 u19 4)])]) (s4 [.int u7,.rows u0])))) (s4 [.int u7,.rows u27]))))))))) (O.a [.rows u23]))) [.int u17,.rows (O.p c2 0)]) fun c4=>(O.c (O.w (fun s5 c5=>let u25:=(O.d c5 0);let u22:=(O.p c5 1);let u16:=(O.l u22);let u8:=(O.q .i64 u25 u18);let u4:=(O.rB u6 u25 4);let u3:=(O.o u6 u25 0);let u2:=(O.ac [[.int (O.o u6 u25 2)]]);(O.b (O.n u25 u5) (O.k (O.r u25 u5) (O.b (O.i (O.e u3 (O.lit .u8 5)) u4 O.f) (O.c (O.g 30 [31] [.rows u22,.rows u2]) fun c6=>(O.k (O.r (O.d c6 0) u16) (s5 [.int u8,.rows (O.aa (O.aa u22 (O.d c6 0) 5 [.bool O.j]) (O.d c6 0) 6 [.int (O.lit .u8 9)])]))) (O.b (O.i (O.e u3 (O.lit .u8 6)) (O.h u4) O.f) (O.c (O.g 30 [31] [.rows u22,.rows u2]) fun c6=>(O.k (O.r (O.d c6 0) u16) (s5 [.int u8,.rows (O.aa (O.aa u22 (O.d c6 0) 5 [.bool O.j]) (O.d c6 0) 6 [.int (O.lit .u8 10)])]))) (s5 [.int u8,.rows u22])))) (O.a [.rows u22]))) [.int u17,.rows (O.p c4 0)]) fun c5=>(O.a [.rows (O.p c5 0),.int u17]))))))))))))
def BL (N:Nat):Env:=fun f fns ls=>(cond (Nat.beq f 17&&Ae fns []) (Ji N ls) (cond (Nat.beq f 27&&Ae fns []) (KU N ls) (cond (Nat.beq f 28&&Ae fns []) (IZ N ls) (cond (Nat.beq f 30&&Ae fns [31]) (Br N ls) (cond (Nat.beq f 32&&Ae fns []) (HL N ls) (cond (Nat.beq f 33&&Ae fns []) (FZ N ls) none))))))
theorem OX {N ls}:BL N 17 [] ls=Ji N ls:=id rfl
theorem Qu {N ls}:BL N 27 [] ls=KU N ls:=id rfl
theorem NQ {N ls}:BL N 28 [] ls=IZ N ls:=id rfl
theorem Hv {N ls}:BL N 30 [31] ls=Br N ls:=id rfl
theorem RY {N ls}:BL N 32 [] ls=HL N ls:=id rfl
theorem Lp {N ls}:BL N 33 [] ls=FZ N ls:=id rfl
def DL:=oS NL Gv BL
def KB:List Nat:=[3,3]
def DQ (O:Alg) (x:Ags O):O.M:=let u0:=(O.l (x.L 0));(O.b (O.h (O.e u0 (O.l (x.L 1)))) (O.a [.bool O.f]) (O.c (O.w (fun s0 c0=>let u1:=(O.d c0 0);(O.b (O.n u1 u0) (O.k (O.r u1 u0) (O.k (O.r u1 (O.l (x.L 1))) (O.b (O.h (O.z (O.e (O.o (x.L 0) u1 0) (O.o (x.L 1) u1 0)) (O.z (O.e (O.o (x.L 0) u1 1) (O.o (x.L 1) u1 1)) (O.z (O.e (O.o (x.L 0) u1 2) (O.o (x.L 1) u1 2)) (O.z (O.e (O.o (x.L 0) u1 3) (O.o (x.L 1) u1 3)) (O.z (O.e (O.o (x.L 0) u1 4) (O.o (x.L 1) u1 4)) (O.z (O.aj (O.rB (x.L 0) u1 5) (O.rB (x.L 1) u1 5)) (O.z (O.e (O.o (x.L 0) u1 6) (O.o (x.L 1) u1 6)) (O.z (O.e (O.o (x.L 0) u1 7) (O.o (x.L 1) u1 7)) (O.z (O.e (O.o (x.L 0) u1 8) (O.o (x.L 1) u1 8)) (O.aj (O.rB (x.L 0) u1 9) (O.rB (x.L 1) u1 9)))))))))))) (O.a [.int (lq9 O 0),.bool O.f]) (s0 [.int (O.q .i64 u1 (lq9 O 1))])))) (O.a [.int (lq9 O 1)]))) [.int (lq9 O 0)]) fun c0=>(O.b (O.ab c0 0) (O.a [.bool (O.m c0 1)]) (O.a [.bool O.j]))))
def Iz:Nat→Env:=eL []
def CZ:=oS KB DQ Iz
def VK:List Nat:=[2,3,0,0,0]
def VG (O:Alg) (x:Ags O):O.M:=let u3:=(O.s ⟨#[32,40,99,41]⟩);let u2:=(O.s ⟨#[32,40,107,41]⟩);let u1:=(O.u .i64 (x.I 4) (lq9 O 1));let u0:=(O.rS (x.L 1) u1 0);(O.b (O.i (O.n (x.I 4) (lq9 O 1)) O.j (O.n (O.l (x.L 1)) (x.I 4))) (O.a [.str (O.s ⟨#[]⟩)]) (O.k (O.r u1 (O.l (x.L 1))) (O.c (O.b (O.e (x.I 4) (x.I 2)) (O.k (O.v (O.ae u0) 1) (O.k (O.v (O.ae u3) 1) (O.a [.str (O.ak u0 u3)]))) (O.a [.str u0])) fun c0=>let u4:=(O.cS c0 0);(O.b (O.e (x.I 4) (x.I 3)) (O.k (O.v (O.ae u4) 1) (O.k (O.v (O.ae u2) 1) (O.a [.str (O.ak u4 u2)]))) (O.a [.str u4])))))
def Ze:Nat→Env:=eL []
def Kw:=oS VK VG Ze
def LT:List Nat:=[3,2]
def Ld (O:Alg) (x:Ags O):O.M:=(O.c (O.w (fun s0 c0=>let u0:=(O.d c0 0);(O.b (O.n u0 (O.l (x.L 0))) (O.k (O.r u0 (O.l (x.L 0))) (O.b (O.am (x.S 1) (O.rS (x.L 0) u0 0)) (O.a [.int (lq9 O 0),.int u0]) (s0 [.int (O.q .i64 u0 (lq9 O 1))]))) (O.a [.int (lq9 O 1)]))) [.int (lq9 O 0)]) fun c0=>(O.b (O.ab c0 0) (O.a [.int (O.d c0 1)]) (O.a [.int (lq9 O (-1))])))
def Rg:Nat→Env:=eL []
def GV:=oS LT Ld Rg
def JP:List Nat:=[3,2]
def Is (O:Alg) (x:Ags O):O.M:=(O.c (O.g 98 [] [.rows (x.L 0),.str (x.S 1)]) fun c0=>(O.a [.bool (O.t (lq9 O 0) (O.d c0 0))]))
def O5:Nat→Env:=eL [(98,GV)]
def Ey:=oS JP Is O5
def VC:List Nat:=[2,3,0,0]
def VA (O:Alg) (x:Ags O):O.M:=let u4:=(O.s ⟨#[]⟩);let u3:=(lq9 O 0);let u2:=(O.l (x.L 1));(O.c (O.g 73 [] [.str (x.S 0)]) fun c0=>(O.b (O.h (O.m c0 0)) (O.a [.int (lq9 O 5)]) (O.b (O.i (O.n u2 (lq9 O 2)) O.j (O.n (lq9 O 11) u2)) (O.a [.int (lq9 O 9)]) (O.c (O.w (fun s1 c1=>let u5:=(O.d c1 0);let u1:=(O.rS (x.L 1) u5 0);(O.b (O.n u5 u2) (O.k (O.r u5 u2) (O.c (O.g 73 [] [.str u1]) fun c2=>(O.b (O.h (O.m c2 0)) (O.a [.int u3,.int (lq9 O 5)]) (O.k (O.ao u3 u5 u2) (O.c (O.g 74 [] [.rows (O.aq (x.L 1) u3 u5),.str u1]) fun c3=>(O.b (O.m c3 0) (O.a [.int u3,.int (lq9 O 7)]) (s1 [.int (O.q .i64 u5 (lq9 O 1))]))))))) (O.a [.int (lq9 O 1)]))) [.int u3]) fun c1=>(O.b (O.ab c1 0) (O.a [.int (O.d c1 1)]) (O.c (O.g 42 [] (ap O (xr x [2,3,0,0] 0) [.int (x.I 2)])) fun c2=>let u0:=(O.am (O.cS c2 0) u4);(O.c (O.b (O.h u0) (O.g 42 [] (ap O (xr x [2,3,0,0] 0) [.int (x.I 3)])) (O.a [.str u4])) fun c3=>(O.b (O.i u0 O.j (O.am (O.cS c3 0) u4)) (O.a [.int (lq9 O 6)]) (O.a [.int u3])))))))))
def aC:Nat→Env:=eL [(42,Kw),(73,F4),(74,Ey)]
def U6:=oS VC VA aC
def Q8:List Nat:=[0,0,2,3,0,0]
def QW (O:Alg) (x:Ags O):O.M:=(O.a [.bool (O.i (O.t (x.I 1) (x.I 0)) (O.t (x.I 0) (O.l (x.L 3))) O.f)])
def Ww:Nat→Env:=eL []
def Qb:=oS Q8 QW Ww
def PR:List Nat:=[0,0,0,0,0,1,0,0,0,1]
def GK (O:Alg) (x:Ags O):O.M:=let u0:=(lq9 O 1000000);(O.a [.bool (O.i (O.i (O.i (O.t (lq9 O 0) (x.I 1)) (O.t (x.I 1) u0) O.f) (O.t (lq9 O 0) (x.I 2)) O.f) (O.t (x.I 2) u0) O.f)])
def M9:Nat→Env:=eL []
def Cy:=oS PR GK M9
def Qz:List Nat:=[0]
def Qd (O:Alg) (x:Ags O):O.M:=(O.c (O.g 75 [] [.int (x.I 0)]) fun c0=>(O.a [.str (O.cS c0 1)]))
def Wl:Nat→Env:=eL [(75,DI)]
def RJ:=oS Qz Qd Wl
def HK (N:Nat) (ls:List PV):Option (List PV):=pE ls
def NB:List Nat:=[0,0]
def NA (O:Alg) (x:Ags O):O.M:=(O.c (O.g 101 [] [.int (x.I 0),.int (x.I 1)]) fun c0=>(O.a [.str (O.cS c0 0)]))
def TU:Nat→Env:=eL [(101,HK)]
def IA:=oS NB NA TU
def Tt:List Nat:=[0]
def S7 (O:Alg) (x:Ags O):O.M:=(O.c (O.g 77 [] [.int (x.I 0),.int (lq9 O 10)]) fun c0=>(O.a [.str (O.cS c0 0)]))
def Yr:Nat→Env:=eL [(77,IA)]
def Tn:=oS Tt S7 Yr
def Nk:List Nat:=[3,2,3,0,0,2,3,0,0]
def Nf (O:Alg) (x:Ags O):O.M:=let u30:=(lq9 O 1);let u29:=(O.s ⟨#[]⟩);let u28:=(lq9 O 0);let u27:=(O.s ⟨#[32,40]⟩);let u26:=(O.s ⟨#[58,32]⟩);let u24:=(O.s ⟨#[32,98,32]⟩);let u23:=(O.s ⟨#[32,99,32]⟩);let u12:=(O.ac [(xr x [2,3,0,0] 1),(xr x [2,3,0,0] 5)]);let u9:=(O.l u12);(O.c (O.w (fun s0 c0=>let u32:=(O.d c0 0);(O.b (O.n u32 u9) (O.k (O.r u32 u9) (O.c (O.g 37 [] (rr O u12 u32 [2,3,0,0] 0)) fun c1=>(O.b (O.h (O.e (O.d c1 0) u28)) (O.a [.int u28,.str u29,.int (O.d c1 0)]) (s0 [.int (O.q .i64 u32 u30)])))) (O.a [.int u30]))) [.int u28]) fun c0=>(O.b (O.ab c0 0) (O.a [.str (O.cS c0 1),.int (O.d c0 2)]) (O.c (O.w (fun s1 c1=>let u31:=(O.d c1 0);let u22:=(O.o (x.L 0) u31 6);let u21:=(O.o (x.L 0) u31 0);let u20:=(O.o (x.L 0) u31 8);let u19:=(O.o (x.L 0) u31 7);let u18:=(O.rB (x.L 0) u31 5);let u16:=(O.h u18);let u15:=(O.q .i64 u31 u30);(O.b (O.n u31 (O.l (x.L 0))) (O.k (O.r u31 (O.l (x.L 0))) (O.c (O.g 38 [] (ap O [.int u21,.int u30] (xr x [2,3,0,0] 1))) fun c2=>let u25:=(O.h (O.m c2 0));(O.c (O.b (O.h u25) (O.g 38 [] (ap O [.int u19,.int u28] (xr x [2,3,0,0] 5))) (O.a [.bool O.f])) fun c3=>let u10:=(O.i u25 O.j (O.h (O.m c3 0)));(O.c (O.b (O.h u10) (O.g 38 [] (ap O [.int u20,.int u28] (xr x [2,3,0,0] 5))) (O.a [.bool O.f])) fun c4=>let u5:=(O.i u10 O.j (O.h (O.m c4 0)));(O.c (O.b (O.h u5) (O.g 39 [] (rr O (x.L 0) u31 [0,0,0,0,0,1,0,0,0,1] 0)) (O.a [.bool O.f])) fun c5=>(O.b (O.i u5 O.j (O.h (O.m c5 0))) (O.a [.int u28,.str u29,.int (lq9 O 2)]) (O.c (O.b u18 (O.g 40 [] [.int u22]) (O.a [.str u29])) fun c6=>(O.b (O.i u18 (O.am (O.cS c6 0) u29) O.f) (O.a [.int u28,.str u29,.int (lq9 O 3)]) (O.c (O.g 42 [] (ap O (xr x [2,3,0,0] 1) [.int u21])) fun c7=>let u7:=(O.ad (O.p c1 2) (O.al (O.ak (O.cS c7 0) u26)));let u4:=(O.ad u7 (O.al (O.s ⟨#[68,73,68,32,78,79,84,32,66,65,84,10]⟩)));(O.k (O.v (O.ae (O.cS c7 0)) 1) (O.k (O.v (O.ae u26) 1) (O.k (O.v (O.l u7) 1) (O.b (O.i (O.h (O.rB (x.L 0) u31 9)) u16 O.f) (O.k (O.v (O.l u4) 1) (s1 [.int u15,.bool O.j,.rows u4])) (O.c (O.g 43 [] [.int (O.o (x.L 0) u31 1)]) fun c8=>let u14:=(O.ak (O.cS c8 0) u27);(O.k (O.v (O.ae (O.cS c8 0)) 1) (O.k (O.v (O.ae u27) 1) (O.c (O.g 43 [] [.int (O.o (x.L 0) u31 2)]) fun c9=>let u8:=(O.ak u14 (O.cS c9 0));let u17:=(O.ac [[.int (O.lit .u8 10)]]);let u3:=(O.ad u7 (O.al (O.ak u8 (O.s ⟨#[41]⟩))));let u1:=(O.ad u3 (O.al (O.s ⟨#[32,78,79,84,32,79,85,84,10]⟩)));(O.k (O.v (O.ae u14) 1) (O.k (O.v (O.ae (O.cS c9 0)) 1) (O.k (O.v (O.ae u8) 1) (O.k (O.v (O.ae (O.s ⟨#[41]⟩)) 1) (O.k (O.v (O.l u3) 1) (O.b u16 (O.k (O.v (O.l u1) 1) (s1 [.int u15,.bool O.j,.rows u1])) (O.c (O.g 40 [] [.int u22]) fun c10=>let u2:=(O.ad u3 (O.al (O.ak (O.s ⟨#[32]⟩) (O.cS c10 0))));(O.k (O.v (O.ae (O.s ⟨#[32]⟩)) 1) (O.k (O.v (O.ae (O.cS c10 0)) 1) (O.k (O.v (O.l u2) 1) (O.c (O.b (O.n u28 u20) (O.c (O.g 42 [] (ap O (xr x [2,3,0,0] 5) [.int u20])) fun c11=>let u0:=(O.ad u2 (O.al (O.ak u23 (O.cS c11 0))));(O.k (O.v (O.ae u23) 1) (O.k (O.v (O.ae (O.cS c11 0)) 1) (O.k (O.v (O.l u0) 1) (O.a [.bool O.j,.rows u0]))))) (O.a [.bool O.j,.rows u2])) fun c11=>let u11:=(O.ad (O.p c11 1) u17);(O.b (O.n u28 u19) (O.c (O.g 42 [] (ap O (xr x [2,3,0,0] 5) [.int u19])) fun c12=>let u6:=(O.ad (O.p c11 1) (O.al (O.ak u24 (O.cS c12 0))));let u13:=(O.ad u6 u17);(O.k (O.v (O.ae u24) 1) (O.k (O.v (O.ae (O.cS c12 0)) 1) (O.k (O.v (O.l u6) 1) (O.k (O.v (O.l u13) 1) (s1 [.int u15,.bool O.j,.rows u13])))))) (O.k (O.v (O.l u11) 1) (s1 [.int u15,.bool O.j,.rows u11]))))))))))))))))))))))))))))))) (O.a [.int u30,.bool O.j,.rows (O.p c1 2)]))) [.int u28,.bool O.j,.rows O.x]) fun c1=>(O.b (O.ab c1 0) (O.a [.str (O.cS c1 1),.int (O.d c1 2)]) (O.k (O.v (O.l (O.p c1 2)) 1) (O.k (O.aw (O.p c1 2)) (O.a [.str (O.av (O.p c1 2)),.int u28])))))))
def HO (N:Nat):Env:=fun f fns ls=>(cond (Nat.beq f 37&&Ae fns []) (U6 N ls) (cond (Nat.beq f 38&&Ae fns []) (Qb N ls) (cond (Nat.beq f 39&&Ae fns []) (Cy N ls) (cond (Nat.beq f 40&&Ae fns []) (RJ N ls) (cond (Nat.beq f 42&&Ae fns []) (Kw N ls) (cond (Nat.beq f 43&&Ae fns []) (Tn N ls) none))))))
def EW:=oS Nk Nf HO
def YL:List Nat:=[]
def YQ (O:Alg) (x:Ags O):O.M:=let u1:=(lq9 O 0);let u0:=(lq9 O 1);(O.a [.str (O.s ⟨#[84,69,83,84]⟩),.int (lq9 O 2),.int u0,.int u0,.int (lq9 O 4),.int u1,.int u0,.int u0,.bool O.f,.int u1,.int u1,.int u1,.int (lq9 O 11),.rows O.x])
def eW:Nat→Env:=eL []
def KZ:=oS YL YQ eW
def YZ:List Nat:=[0,0,0,0,0,1,0,0,0,0,1,0]
def Ye (O:Alg) (x:Ags O):O.M:=let u0:=(lq9 O 0);(O.a (ap O [.int (O.lit .u8 4),.int u0,.int u0,.int u0,.bool O.f,.int u0,.int u0] (xr x [0,0,0,0,0,1,0,0,0,0,1,0] 0)))
def eh:Nat→Env:=eL []
def Sj:=oS YZ Ye eh
def eA:List Nat:=[]
def dz (O:Alg) (x:Ags O):O.M:=let u2:=(lq9 O 2);let u1:=(lq9 O 1);let u0:=(lq9 O 0);(O.c (O.g 60 [] [.int (O.lit .u8 1),.int (O.lit .u8 1),.int u1,.int u0,.int u0,.bool O.f,.int (O.lit .u8 0),.int u0,.int u0,.int u0,.bool O.f,.int u0]) fun c0=>(O.c (O.g 60 [] [.int (O.lit .u8 1),.int (O.lit .u8 0),.int u0,.int u0,.int u0,.bool O.f,.int (O.lit .u8 1),.int u1,.int u0,.int u0,.bool O.f,.int u0]) fun c1=>(O.c (O.g 60 [] [.int (O.lit .u8 2),.int (O.lit .u8 0),.int u0,.int u0,.int u0,.bool O.f,.int (O.lit .u8 0),.int u0,.int u0,.int u0,.bool O.f,.int u0]) fun c2=>(O.c (O.g 60 [] [.int (O.lit .u8 1),.int (O.lit .u8 1),.int u0,.int u0,.int (lq9 O 4),.bool O.f,.int (O.lit .u8 0),.int u0,.int u0,.int u0,.bool O.f,.int u0]) fun c3=>(O.a [.rows (O.ac [[.int (O.lit .u8 1),.int u1,.int u0,.int u0,.bool O.j,.int u0,.int u0,.int (O.lit .u8 0),.int (O.lit .u8 0),.int u0,.int u0,.int u0,.bool O.f,.int (O.lit .u8 0),.int u0,.int u0,.int u0,.bool O.f,.int u0],[.int (O.lit .u8 2),.int u0,.int u1,.int u2,.bool O.f,.int u0,.int u0,.int (O.lit .u8 0),.int (O.lit .u8 0),.int u0,.int u0,.int u0,.bool O.f,.int (O.lit .u8 0),.int u0,.int u0,.int u0,.bool O.f,.int u0],[.int (O.lit .u8 8),.int u0,.int u2,.int u0,.bool O.f,.int u0,.int u0,.int (O.lit .u8 0),.int (O.lit .u8 0),.int u0,.int u0,.int u0,.bool O.f,.int (O.lit .u8 0),.int u0,.int u0,.int u0,.bool O.f,.int u0],[.int (O.lit .u8 3),.int u0,.int u1,.int u0,.bool O.f,.int u0,.int u0,.int (O.lit .u8 0),.int (O.lit .u8 0),.int u0,.int u0,.int u0,.bool O.f,.int (O.lit .u8 0),.int u0,.int u0,.int u0,.bool O.f,.int u0],(cr O c0 [0,0,0,0,1,0,0,0,0,0,0,0,1,0,0,0,0,1,0] 0),(cr O c1 [0,0,0,0,1,0,0,0,0,0,0,0,1,0,0,0,0,1,0] 0),[.int (O.lit .u8 2),.int u0,.int u2,.int u1,.bool O.f,.int u0,.int u0,.int (O.lit .u8 0),.int (O.lit .u8 0),.int u0,.int u0,.int u0,.bool O.f,.int (O.lit .u8 0),.int u0,.int u0,.int u0,.bool O.f,.int u0],[.int (O.lit .u8 8),.int u0,.int u1,.int u0,.bool O.f,.int u0,.int u0,.int (O.lit .u8 0),.int (O.lit .u8 0),.int u0,.int u0,.int u0,.bool O.f,.int (O.lit .u8 0),.int u0,.int u0,.int u0,.bool O.f,.int u0],[.int (O.lit .u8 3),.int u0,.int u2,.int u0,.bool O.f,.int u0,.int u0,.int (O.lit .u8 0),.int (O.lit .u8 0),.int u0,.int u0,.int u0,.bool O.f,.int (O.lit .u8 0),.int u0,.int u0,.int u0,.bool O.f,.int u0],(cr O c2 [0,0,0,0,1,0,0,0,0,0,0,0,1,0,0,0,0,1,0] 0),(cr O c3 [0,0,0,0,1,0,0,0,0,0,0,0,1,0,0,0,0,1,0] 0)])])))))
def jX:Nat→Env:=eL [(60,Sj)]
def ON:=oS eA dz jX
def YH:List Nat:=[]
def OD (O:Alg) (x:Ags O):O.M:=let u3:=(lq9 O 2);let u2:=(lq9 O 1);let u1:=(lq9 O 0);(O.c (O.g 25 [] []) fun c0=>(O.c (O.g 26 [] []) fun c1=>(O.c (O.g 10 [] (ap O (cr O c0 kR 0) [.rows (O.p c1 0),.int u1])) fun c2=>(O.c (O.g 14 [] [.rows (O.p c2 0),.str (O.s ⟨#[79,65,75,83]⟩),.rows (O.ac [[.str (O.s ⟨#[65,78,78]⟩)],[.str (O.s ⟨#[66,79,66]⟩)]]),.int u2,.int u3,.str (O.s ⟨#[69,76,77,83]⟩),.rows (O.ac [[.str (O.s ⟨#[67,76,69,79]⟩)],[.str (O.s ⟨#[68,65,78]⟩)]]),.int u3,.int u3]) fun c3=>let u0:=(O.i (O.e (O.d c2 1) u1) (O.e (O.d c3 1) u1) O.f);(O.c (O.b u0 (O.g 12 [] [.rows (O.p c2 0),.rows (O.ac [[.int u2,.int u2,.int u2,.int u1,.int u1,.bool O.f,.int (O.lit .u8 0),.int u1,.int u1,.bool O.j],[.int u3,.int u1,.int u2,.int u1,.int u1,.bool O.j,.int (O.lit .u8 1),.int u2,.int u1,.bool O.j]])]) (O.a [.bool O.f])) fun c4=>(O.a [.bool (O.i (O.i u0 (O.m c4 0) O.f) (O.am (O.cS c3 0) (O.s ⟨#[65,78,78,32,40,99,41,58,32,49,32,40,49,41,32,78,79,84,32,79,85,84,10,66,79,66,32,40,107,41,58,32,48,32,40,49,41,32,66,79,87,76,69,68,32,98,32,67,76,69,79,10]⟩)) O.f)]))))))
def D4:Nat→Env:=eL [(10,DL),(12,CZ),(14,EW),(25,KZ),(26,ON)]
theorem RI {N ls}:D4 N 10 [] ls=DL N ls:=id rfl
theorem LO {N ls}:D4 N 12 [] ls=CZ N ls:=id rfl
theorem QR {N ls}:D4 N 14 [] ls=EW N ls:=id rfl
theorem Tk {N ls}:D4 N 25 [] ls=KZ N ls:=id rfl
theorem Vs {N ls}:D4 N 26 [] ls=ON N ls:=id rfl
def KM:=oS YH OD D4
def W3:List Nat:=[3]
def OO (O:Alg) (x:Ags O):O.M:=let u1:=(O.l (x.L 0));let u0:=(O.ah (O.n (lq9 O 11) u1) (lq9 O 11) u1);(O.k (O.ao (lq9 O 0) u0 u1) (O.a [.rows (O.aq (x.L 0) (lq9 O 0) u0)]))
def KO (N:Nat):Env:=fun f fns ls=>none
def Oe:=oS W3 OO KO
def WU:List Nat:=[0]
def MM (O:Alg) (x:Ags O):O.M:=let u0:=(O.u .i64 (lq9 O 0) (x.I 0));(O.a [.int (O.ah (O.n (x.I 0) u0) u0 (x.I 0))])
def Tf:Nat→Env:=eL []
def DZ:=oS WU MM Tf
def YP:List Nat:=[0,0]
def OC (O:Alg) (x:Ags O):O.M:=let u1:=(lq9 O (-9223372036854775808));(O.b (O.i (O.e (x.I 0) u1) O.j (O.e (x.I 1) u1)) (O.a [.int (lq9 O 0)]) (O.c (O.g 83 [] [.int (x.I 0)]) fun c0=>(O.c (O.g 83 [] [.int (x.I 1)]) fun c1=>(O.c (O.w (fun s2 c2=>let u2:=(O.d c2 1);let u0:=(O.h (O.e u2 (lq9 O 0)));(O.b u0 (O.k u0 (s2 [.int u2,.int (O.ap .i64 (O.d c2 0) u2)])) (O.a [.int (O.d c2 0)]))) [.int (O.d c0 0),.int (O.d c1 0)]) fun c2=>(O.a [.int (O.d c2 0)])))))
def O8:Nat→Env:=eL [(83,DZ)]
theorem Sb {N ls}:O8 N 83 [] ls=DZ N ls:=id rfl
def KQ:=oS YP OC O8
def WM:List Nat:=[0,0]
def Mq (O:Alg) (x:Ags O):O.M:=let u6:=(lq9 O 0);let u5:=(lq9 O 2147483648);let u2:=(lq9 O (-9223372036854775808));(O.b (O.e (x.I 1) u6) (O.a [.int u6,.int u6,.int (lq9 O 1)]) (O.b (O.i (O.e (x.I 0) u2) O.j (O.e (x.I 1) u2)) (O.a [.int u6,.int u6,.int (lq9 O 2)]) (O.c (O.g 82 [] [.int (x.I 0),.int (x.I 1)]) fun c0=>let u7:=(O.d c0 0);let u4:=(O.ar .i64 (x.I 0) u7);let u3:=(O.ar .i64 (x.I 1) u7);let u0:=(O.h (O.e u7 u6));(O.k u0 (O.k u0 (O.c (O.b (O.n u3 u6) (O.a [.int (O.u .i64 u6 u4),.int (O.u .i64 u6 u3)]) (O.a [.int u4,.int u3])) fun c1=>let u1:=(O.n u5 (O.d c1 1));(O.c (O.b (O.h u1) (O.g 83 [] [.int (O.d c1 0)]) (O.a [.int u6])) fun c2=>(O.b (O.i u1 O.j (O.n u5 (O.d c2 0))) (O.a [.int u6,.int u6,.int (lq9 O 2)]) (O.a [.int (O.d c1 0),.int (O.d c1 1),.int u6])))))))))
def Jh:Nat→Env:=eL [(82,KQ),(83,DZ)]
theorem Sy {N ls}:Jh N 82 [] ls=KQ N ls:=id rfl
theorem Jw {N ls}:Jh N 83 [] ls=DZ N ls:=id rfl
def Iq:=oS WM Mq Jh
def Ml:List Nat:=[0,0,0,0,0,1,0,0,0,1]
def EL (O:Alg) (x:Ags O):O.M:=let u0:=(lq9 O 0);(O.c (O.g 39 [] (xr x [0,0,0,0,0,1,0,0,0,1] 0)) fun c0=>(O.b (O.h (O.m c0 0)) (O.a [.int u0,.int u0,.int (lq9 O 2)]) (O.b (O.e (x.I 2) u0) (O.a [.int u0,.int u0,.int (lq9 O 1)]) (O.c (O.g 53 [] [.int (O.ai .i64 (lq9 O 100) (x.I 1)),.int (x.I 2)]) fun c1=>(O.a (cr O c1 [0,0,0] 0))))))
def DM:Nat→Env:=eL [(39,Cy),(53,Iq)]
theorem I6 {N ls}:DM N 39 [] ls=Cy N ls:=id rfl
theorem Li {N ls}:DM N 53 [] ls=Iq N ls:=id rfl
def EP:=oS Ml EL DM
def YC:List Nat:=[0]
def N2 (O:Alg) (x:Ags O):O.M:=(O.a [.bool (O.i (O.t (lq9 O 0) (x.I 0)) (O.t (x.I 0) (lq9 O 1000000)) O.f)])
def U8:Nat→Env:=eL []
def KL:=oS YC N2 U8
def Zp:List Nat:=[0]
def P9 (O:Alg) (x:Ags O):O.M:=(O.b (O.n (x.I 0) (lq9 O 0)) (O.a [.int (O.u .i64 (lq9 O 0) (x.I 0))]) (O.a [.int (x.I 0)]))
def V9:Nat→Env:=eL []
def Lx:=oS Zp P9 V9
def da:List Nat:=[0,0]
def Rp (O:Alg) (x:Ags O):O.M:=let u1:=(lq9 O (-9223372036854775808));(O.b (O.i (O.e (x.I 0) u1) O.j (O.e (x.I 1) u1)) (O.a [.int (lq9 O 0)]) (O.c (O.g 102 [] [.int (x.I 0)]) fun c0=>(O.c (O.g 102 [] [.int (x.I 1)]) fun c1=>(O.c (O.w (fun s2 c2=>let u2:=(O.d c2 1);let u0:=(O.h (O.e u2 (lq9 O 0)));(O.b u0 (O.k u0 (s2 [.int u2,.int (O.ap .i64 (O.d c2 0) u2)])) (O.a [.int (O.d c2 0)]))) [.int (O.d c0 0),.int (O.d c1 0)]) fun c2=>(O.a [.int (O.d c2 0)])))))
def Sk:Nat→Env:=eL [(102,Lx)]
theorem WG {N ls}:Sk N 102 [] ls=Lx N ls:=id rfl
def G7:=oS da Rp Sk
def YJ:List Nat:=[0,0]
def N3 (O:Alg) (x:Ags O):O.M:=let u1:=(lq9 O 2147483648);let u0:=(O.i (O.i (O.i (O.t (lq9 O 1) (x.I 1)) (O.t (x.I 1) u1) O.f) (O.t (lq9 O (-2147483648)) (x.I 0)) O.f) (O.t (x.I 0) u1) O.f);(O.c (O.b u0 (O.g 84 [] [.int (x.I 0),.int (x.I 1)]) (O.a [.int (lq9 O 0)])) fun c0=>(O.a [.bool (O.i u0 (O.e (O.d c0 0) (lq9 O 1)) O.f)]))
def O0:Nat→Env:=eL [(84,G7)]
theorem Vv {N ls}:O0 N 84 [] ls=G7 N ls:=id rfl
def KJ:=oS YJ N3 O0
def Zw:List Nat:=[0,0]
def P6 (O:Alg) (x:Ags O):O.M:=let u4:=(lq9 O 0);let u3:=(lq9 O (-9223372036854775808));(O.b (O.e (x.I 1) u4) (O.a [.int u4,.int u4,.int (lq9 O 1)]) (O.b (O.i (O.e (x.I 0) u3) O.j (O.e (x.I 1) u3)) (O.a [.int u4,.int u4,.int (lq9 O 2)]) (O.c (O.b (O.n (x.I 1) u4) (O.a [.int (O.u .i64 u4 (x.I 0)),.int (O.u .i64 u4 (x.I 1))]) (O.a [.int (x.I 0),.int (x.I 1)])) fun c0=>(O.c (O.g 84 [] [.int (O.d c0 0),.int (O.d c0 1)]) fun c1=>let u5:=(O.d c1 0);let u2:=(O.ar .i64 (O.d c0 1) u5);let u1:=(O.ar .i64 (O.d c0 0) u5);let u0:=(O.h (O.e u5 u4));(O.k u0 (O.k u0 (O.c (O.g 85 [] [.int u1,.int u2]) fun c2=>(O.b (O.h (O.m c2 0)) (O.a [.int u4,.int u4,.int (lq9 O 2)]) (O.a [.int u1,.int u2,.int u4])))))))))
def MB:Nat→Env:=eL [(84,G7),(85,KJ)]
theorem OZ {N ls}:MB N 84 [] ls=G7 N ls:=id rfl
theorem Mf {N ls}:MB N 85 [] ls=KJ N ls:=id rfl
def MA:=oS Zw P6 MB
end Go.Px
