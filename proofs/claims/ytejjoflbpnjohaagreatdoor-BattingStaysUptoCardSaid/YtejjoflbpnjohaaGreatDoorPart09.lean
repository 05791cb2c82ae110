/- Part 9. -/
import Derived.Test.YtejjoflbpnjohaaGreatDoorPart07
set_option linter.unusedVariables false
set_option linter.unusedSimpArgs false
namespace Go.Px
set_option maxRecDepth 100000
def S9:List Nat:=[3]
def lq9 (O:Alg) (n:Int):O.I:=O.lit .i64 n
def Jy (O:Alg) (x:Ags O):O.M:=let u4:=(O.l (x.L 0));(O.c (O.x (fun s0 c0=>let u6:=(O.p c0 0);let u5:=(O.f c0 1);let u3:=(O.l u6);let u2:=(O.q .i64 u5 (lq9 O 1));let u1:=(O.v .i64 u3 (lq9 O 1));(O.b (O.n u5 u4) (O.k (O.r u5 u4) (O.b (O.h (O.d (O.o (x.L 0) u5 0) (O.lit .u8 2))) (s0 [.rows u6,.int u2]) (O.c (O.b (O.n (lq9 O 0) u3) (O.k (O.r u1 u3) (O.a [.rows (O.ab u6 u1 1 [.int u5])])) (O.a [.rows u6])) fun c1=>let u0:=(O.ad (O.p c1 0) (O.ac [[.int u5,.int u4]]));(O.k (O.u (O.l u0) 16) (s0 [.rows u0,.int u2]))))) (O.a [.rows u6]))) [.rows O.y,.int (lq9 O 0)]) fun c0=>(O.a [.rows (O.p c0 0)]))
def QN:Nat→Env:=eL []
def Ei:=oS S9 Jy QN
def Xj:List Nat:=[2]
def N1 (O:Alg) (x:Ags O):O.M:=let u4:=(lq9 O 1);let u3:=(lq9 O 0);let u2:=(O.al (x.S 0));let u1:=(O.l u2);(O.c (O.x (fun s0 c0=>let u5:=(O.f c0 0);let u0:=(O.o u2 u5 0);(O.b (O.n u5 u1) (O.k (O.r u5 u1) (O.b (O.i (O.h (O.i (O.t (O.lit .u8 65) u0) (O.t u0 (O.lit .u8 90)) O.e)) (O.i (O.d u5 u3) O.j (O.i (O.i (O.h (O.d u0 (O.lit .u8 95))) (O.h (O.d u0 (O.lit .u8 45))) O.e) (O.i (O.n u0 (O.lit .u8 48)) O.j (O.n (O.lit .u8 57) u0)) O.e)) O.e) (O.a [.int u3,.bool O.e]) (s0 [.int (O.q .i64 u5 u4)]))) (O.a [.int u4]))) [.int u3]) fun c0=>(O.b (O.aa c0 0) (O.a [.bool (O.m c0 1)]) (O.a [.bool (O.i (O.t u4 (O.ae (x.S 0))) (O.t (O.ae (x.S 0)) (lq9 O 16)) O.e)])))
def VD:Nat→Env:=eL []
def GH:=oS Xj N1 VD
def SD:List Nat:=[0,0,0]
def Ro (O:Alg) (x:Ags O):O.M:=(O.a [.bool (O.i (O.t (x.I 1) (x.I 0)) (O.t (x.I 0) (x.I 2)) O.e)])
def XX:Nat→Env:=eL []
def CV:=oS SD Ro XX
def Rp:List Nat:=[2,0,0,0,0,0,0,0,1,0,0,0,0,3]
def Ij (O:Alg) (x:Ags O):O.M:=let u10:=(lq9 O 1);let u9:=(lq9 O 0);(O.c (O.g 104 [] [.int (x.I 1),.int (lq9 O 2),.int (lq9 O 11)]) fun c0=>(O.c (O.b (O.m c0 0) (O.g 104 [] [.int (x.I 2),.int u10,.int (lq9 O 2)]) (O.a [.bool O.e])) fun c1=>let u8:=(O.i (O.m c0 0) (O.m c1 0) O.e);(O.c (O.b u8 (O.g 104 [] [.int (x.I 3),.int u9,.int (lq9 O 90)]) (O.a [.bool O.e])) fun c2=>let u7:=(O.i u8 (O.m c2 0) O.e);(O.c (O.b u7 (O.g 104 [] [.int (x.I 4),.int (lq9 O 4),.int (lq9 O 8)]) (O.a [.bool O.e])) fun c3=>let u6:=(O.i u7 (O.m c3 0) O.e);(O.c (O.b u6 (O.g 104 [] [.int (x.I 5),.int u9,.int (lq9 O 90)]) (O.a [.bool O.e])) fun c4=>let u5:=(O.i u6 (O.m c4 0) O.e);(O.c (O.b u5 (O.g 104 [] [.int (x.I 6),.int u10,.int (lq9 O 5)]) (O.a [.bool O.e])) fun c5=>let u4:=(O.i u5 (O.m c5 0) O.e);(O.c (O.b u4 (O.g 104 [] [.int (x.I 7),.int u10,.int (lq9 O 5)]) (O.a [.bool O.e])) fun c6=>let u3:=(O.i u4 (O.m c6 0) O.e);(O.c (O.b u3 (O.g 104 [] [.int (x.I 9),.int u9,.int (lq9 O 200)]) (O.a [.bool O.e])) fun c7=>let u2:=(O.i u3 (O.m c7 0) O.e);(O.c (O.b u2 (O.g 104 [] [.int (x.I 10),.int u9,.int (lq9 O 1000)]) (O.a [.bool O.e])) fun c8=>let u1:=(O.i u2 (O.m c8 0) O.e);(O.c (O.b u1 (O.g 104 [] [.int (x.I 11),.int u9,.int (lq9 O 9)]) (O.a [.bool O.e])) fun c9=>let u0:=(O.i u1 (O.m c9 0) O.e);(O.c (O.b u0 (O.g 104 [] [.int (x.I 12),.int u9,.int (lq9 O 11)]) (O.a [.bool O.e])) fun c10=>(O.a [.bool (O.i u0 (O.m c10 0) O.e)]))))))))))))
def KB:Nat→Env:=eL [(104,CV)]
def F9:=oS Rp Ij KB
def TW:List Nat:=[2,0,0,0,0,0,0,0,1,0,0,0,0,3]
def Jz (O:Alg) (x:Ags O):O.M:=let u7:=(lq9 O 1);let u6:=(lq9 O 0);let u5:=(O.l (x.L 13));(O.b (O.n (lq9 O 8) u5) (O.a [.int (lq9 O 9)]) (O.c (O.x (fun s0 c0=>let u8:=(O.f c0 0);let u4:=(O.o (x.L 13) u8 1);let u3:=(O.o (x.L 13) u8 0);let u2:=(O.n u6 u8);let u1:=(O.v .i64 u8 u7);let u0:=(O.i (O.i (O.n u3 u7) O.j (O.n u4 u3)) O.j (O.n (x.I 3) u4));(O.b (O.n u8 u5) (O.k (O.r u8 u5) (O.c (O.b (O.h u0) (O.g 104 [] [.int (O.o (x.L 13) u8 2),.int u6,.int (lq9 O 11)]) (O.a [.bool O.e])) fun c1=>(O.b (O.i u0 O.j (O.h (O.m c1 0))) (O.a [.int u6,.int (lq9 O 2)]) (O.k (O.h (O.w u2 (O.h (O.r u1 u5)))) (O.b (O.i u2 (O.t u3 (O.o (x.L 13) u1 1)) O.e) (O.a [.int u6,.int (lq9 O 8)]) (s0 [.int (O.q .i64 u8 u7)])))))) (O.a [.int u7]))) [.int u6]) fun c0=>(O.b (O.aa c0 0) (O.a [.int (O.f c0 1)]) (O.a [.int u6]))))
def LS:Nat→Env:=eL [(104,CV)]
def Ge:=oS TW Jz LS
def VL:List Nat:=[2,0,0,0,0,0,0,0,1,0,0,0,0,3]
def Kj (O:Alg) (x:Ags O):O.M:=let u2:=(lq9 O 0);let u1:=(O.h (O.d (x.I 5) u2));let u0:=(O.i (O.h (O.d (x.I 10) u2)) (O.d (x.I 2) (lq9 O 1)) O.e);(O.c (O.g 73 [] [.str (x.S 0)]) fun c0=>(O.b (O.h (O.m c0 0)) (O.a [.int (lq9 O 5)]) (O.c (O.g 89 [] (xr x kR 0)) fun c1=>(O.b (O.h (O.m c1 0)) (O.a [.int (lq9 O 2)]) (O.c (O.b u0 (O.a [.bool u0]) (O.a [.bool (O.i (O.i u1 O.j (O.n u2 (O.l (x.L 13)))) (O.d (x.I 3) u2) O.e)])) fun c2=>(O.b (O.m c2 0) (O.a [.int (lq9 O 1)]) (O.b (O.i u1 (O.n (O.aj .i64 (x.I 5) (x.I 1)) (x.I 3)) O.e) (O.a [.int (lq9 O 13)]) (O.c (O.g 90 [] (xr x kR 0)) fun c3=>(O.a [.int (O.f c3 0)])))))))))
def F6:Nat→Env:=eL [(73,GH),(89,F9),(90,Ge)]
def AW:=oS VL Kj F6
def C6 (N:Nat) (ls:List PV):Option (List PV):=OB 24 ls
def Um:List Nat:=[2,0,0,0,0,0,0,0,1,0,0,0,0,3]
def K6 (O:Alg) (x:Ags O):O.M:=(O.c (O.g 105 [] [.rows (x.L 13)]) fun c0=>(O.a (ap O (xr x [2,0,0,0,0,0,0,0,1,0,0,0,0] 0) [.rows (O.p c0 0)])))
def MU:Nat→Env:=eL [(105,C6)]
theorem LB {N ls}:MU N 105 [] ls=C6 N ls:=id rfl
def DD:=oS Um K6 MU
def YC:List Nat:=[2,0,0,0,0,0,0,0,1,0,0,0,0,3]
def Nu (O:Alg) (x:Ags O):O.M:=let u0:=(lq9 O 0);(O.c (O.g 61 [] (xr x kR 0)) fun c0=>(O.b (O.h (O.d (O.f c0 0) u0)) (O.a [.str (O.s ⟨#[]⟩),.int u0,.int u0,.int u0,.int u0,.int u0,.int u0,.int u0,.bool O.e,.int u0,.int u0,.int u0,.int u0,.rows O.y,.int (O.lit .u8 0),.int u0,.bool O.e,.rows O.y,.int u0,.int u0,.int (O.lit .u8 0),.int u0,.int u0,.int (O.f c0 0)]) (O.c (O.g 91 [] (xr x kR 0)) fun c1=>(O.a (ap O (cr O c1 kR 0) [.int (O.lit .u8 1),.int u0,.bool O.e,.rows O.y,.int u0,.int u0,.int (O.lit .u8 0),.int u0,.int u0,.int u0])))))
def Ko:Nat→Env:=eL [(61,AW),(91,DD)]
theorem RV {N ls}:Ko N 61 [] ls=AW N ls:=id rfl
theorem RQ {N ls}:Ko N 91 [] ls=DD N ls:=id rfl
def Nw:=oS YC Nu Ko
def PU:List Nat:=[0,0,0]
def PJ (O:Alg) (x:Ags O):O.M:=(O.a [.bool (O.i (O.t (x.I 1) (x.I 0)) (O.t (x.I 0) (x.I 2)) O.e)])
def VR:Nat→Env:=eL []
def Al:=oS PU PJ VR
def PS:List Nat:=[0,0,0,0,0,0,0,0,0,0,0,0,0,0,3,0,3,3,1,3,1,0,0,0,3,0,0,0,0]
def GT (O:Alg) (x:Ags O):O.M:=let u5:=(lq9 O 1);let u4:=(lq9 O 0);let u0:=(O.h (O.d (x.I 12) u4));(O.c (O.x (fun s0 c0=>let u8:=(O.f c0 1);let u7:=(O.f c0 0);let u6:=(O.f c0 3);let u2:=(O.o (x.L 14) u6 0);let u9:=(O.i (O.m c0 2) O.j (O.h (O.d u2 (O.lit .u8 0))));let u1:=(O.q .i64 u6 u5);(O.b (O.n u6 (O.l (x.L 14))) (O.k (O.r u6 (O.l (x.L 14))) (O.b (O.n (O.lit .u8 3) u2) (O.a [.int u4,.bool O.e]) (O.b (O.d u2 (O.lit .u8 1)) (O.b (O.i (O.h (O.d (x.I 12) u1)) (O.h (O.d (x.I 13) u1)) O.e) (O.a [.int u4,.bool O.e]) (s0 [.int u7,.int (O.q .i64 u8 u5),.bool u9,.int u1])) (O.b (O.d u2 (O.lit .u8 2)) (s0 [.int (O.q .i64 u7 u5),.int u8,.bool u9,.int u1]) (s0 [.int u7,.int u8,.bool u9,.int u1]))))) (O.a (ap O [.int u5] (cr O c0 [0,0,1] 0))))) [.int u4,.int u4,.bool O.e,.int u4]) fun c0=>(O.b (O.aa c0 0) (O.a [.bool (O.m c0 1)]) (O.c (O.g 159 [] [.int (x.I 12),.int u4,.int (x.I 28)]) fun c1=>let u3:=(O.h (O.m c1 0));(O.c (O.b (O.h u3) (O.g 159 [] [.int (x.I 13),.int u4,.int (x.I 28)]) (O.a [.bool O.e])) fun c2=>(O.b (O.i (O.i u3 O.j (O.h (O.m c2 0))) O.j (O.i (O.d (x.I 12) (x.I 13)) u0 O.e)) (O.a [.bool O.e]) (O.c (O.b u0 (O.a [.int (O.q .i64 u4 u5)]) (O.a [.int u4])) fun c3=>(O.c (O.b (O.h (O.d (x.I 13) u4)) (O.a [.int (O.q .i64 (O.f c3 0) u5)]) (O.a [.int (O.f c3 0)])) fun c4=>(O.a [.bool (O.i (O.i (O.d (O.f c4 0) (O.f c0 2)) (O.i (O.h (O.m c0 3)) O.j (O.n u4 (O.f c4 0))) O.e) (O.d (O.f c0 1) (x.I 4)) O.e)]))))))))
def IP:Nat→Env:=eL [(159,Al)]
def EN:=oS PS GT IP
def OH:List Nat:=[3,0]
def Fx (O:Alg) (x:Ags O):O.M:=(O.c (O.x (fun s0 c0=>let u0:=(O.f c0 0);(O.b (O.n u0 (O.l (x.L 0))) (O.k (O.r u0 (O.l (x.L 0))) (O.b (O.d (x.I 1) (O.o (x.L 0) u0 0)) (O.a [.int (lq9 O 0),.int u0]) (s0 [.int (O.q .i64 u0 (lq9 O 1))]))) (O.a [.int (lq9 O 1)]))) [.int (lq9 O 0)]) fun c0=>(O.b (O.aa c0 0) (O.a [.int (O.f c0 1)]) (O.a [.int (lq9 O (-1))])))
def L6:Nat→Env:=eL []
def Dj:=oS OH Fx L6
def Li:List Nat:=[3,0]
def EB (O:Alg) (x:Ags O):O.M:=(O.c (O.g 198 [] [.rows (x.L 0),.int (x.I 1)]) fun c0=>(O.a [.bool (O.t (lq9 O 0) (O.f c0 0))]))
def FT:Nat→Env:=eL [(198,Dj)]
def Aq:=oS Li EB FT
def M3:List Nat:=[3,0]
def FK (O:Alg) (x:Ags O):O.M:=let u5:=(lq9 O 1);let u4:=(lq9 O 0);let u3:=(O.l (x.L 0));(O.c (O.x (fun s0 c0=>let u6:=(O.f c0 0);let u1:=(O.o (x.L 0) u6 0);(O.b (O.n u6 u3) (O.k (O.r u6 u3) (O.c (O.g 159 [] [.int u1,.int u5,.int (x.I 1)]) fun c1=>let u2:=(O.h (O.m c1 0));let u0:=(O.h u2);(O.k (O.h (O.w u0 (O.h (O.an u4 u6 u3)))) (O.c (O.b u0 (O.g 184 [] [.rows (O.ao (x.L 0) u4 u6),.int u1]) (O.a [.bool O.e])) fun c2=>(O.b (O.i u2 O.j (O.m c2 0)) (O.a [.int u4,.bool O.e]) (s0 [.int (O.q .i64 u6 u5)])))))) (O.a [.int u5]))) [.int u4]) fun c0=>(O.b (O.aa c0 0) (O.a [.bool (O.m c0 1)]) (O.a [.bool O.j])))
def D5:Nat→Env:=eL [(159,Al),(184,Aq)]
def DR:=oS M3 FK D5
def M8:List Nat:=[0]
def FL (O:Alg) (x:Ags O):O.M:=(O.c (O.g 159 [] [.int (x.I 0),.int (lq9 O 0),.int (lq9 O 1000000000)]) fun c0=>(O.a [.bool (O.h (O.m c0 0))]))
def Gf:Nat→Env:=eL [(159,Al)]
def DQ:=oS M8 FL Gf
def O9:List Nat:=[0,0,0,0,0,0,0,0,0,0,0,0,0,0,3,0,3,3,1,3,1,0,0,0,3,0,0,0]
def GU (O:Alg) (x:Ags O):O.M:=let u2:=(lq9 O 0);let u1:=(O.ad (O.ac [[.int (x.I 1)],[.int (x.I 3)],[.int (x.I 5)],[.int (x.I 6)],[.int (x.I 7)],[.int (x.I 8)],[.int (x.I 9)],[.int (x.I 10)],[.int (x.I 21)],[.int (x.I 23)],[.int (x.I 25)],[.int (x.I 26)]]) (x.L 19));let u0:=(O.l u1);(O.k (O.u u0 8) (O.c (O.c (O.x (fun s0 c0=>let u3:=(O.f c0 0);(O.b (O.n u3 u0) (O.k (O.r u3 u0) (O.c (O.g 186 [] [.int (O.o u1 u3 0)]) fun c1=>(O.b (O.m c1 0) (O.a [.int u2,.int u3]) (s0 [.int (O.q .i64 u3 (lq9 O 1))])))) (O.a [.int (lq9 O 1)]))) [.int u2]) fun c0=>(O.b (O.aa c0 0) (O.a [.int (O.f c0 1)]) (O.a [.int (lq9 O (-1))]))) fun c0=>(O.a [.bool (O.h (O.t u2 (O.f c0 0)))])))
def IJ:Nat→Env:=eL [(186,DQ)]
def ER:=oS O9 GU IJ
def SJ:List Nat:=[2,0,0,0,0,0,0,0,1,0,0,0,0,3,0,0,0,0,0,0,0,0,0,0,0,0,0,0,3,0,3,3,1,3,1,0,0,0,3,0,0,0]
def IV (O:Alg) (x:Ags O):O.M:=let u11:=(lq9 O 1);let u10:=(lq9 O 0);let u8:=(O.d (x.I 3) u10);let u7:=(O.h u8);let u4:=(O.i u8 (O.d (x.I 16) u10) O.e);(O.c (O.g 61 [] (xr x kR 0)) fun c0=>let u6:=(O.h (O.d (O.f c0 0) u10));(O.c (O.b (O.h u6) (O.g 159 [] [.int (x.I 14),.int u11,.int (lq9 O 2)]) (O.a [.bool O.e])) fun c1=>(O.b (O.i u6 O.j (O.h (O.m c1 0))) (O.a [.bool O.e]) (O.b (O.i (O.i (O.i (O.h (O.d (O.l (x.L 28)) (x.I 1))) O.j (O.h (O.d (O.l (x.L 33)) (x.I 1)))) O.j (O.h (O.d (O.l (x.L 38)) (x.I 1)))) O.j (O.n (O.lit .u8 5) (x.I 41))) (O.a [.bool O.e]) (O.c (O.g 160 [] (ap O (xr x kI 14) [.int (x.I 1)])) fun c2=>let u9:=(O.h (O.m c2 0));(O.c (O.b (O.h u9) (O.g 159 [] [.int (x.I 29),.int u10,.int (x.I 1)]) (O.a [.bool O.e])) fun c3=>let u5:=(O.i u9 O.j (O.h (O.m c3 0)));(O.c (O.b (O.h u5) (O.g 159 [] [.int (x.I 36),.int u10,.int (x.I 1)]) (O.a [.bool O.e])) fun c4=>let u3:=(O.i u5 O.j (O.h (O.m c4 0)));(O.c (O.b (O.h u3) (O.g 161 [] [.rows (x.L 30),.int (x.I 1)]) (O.a [.bool O.e])) fun c5=>let u2:=(O.i u3 O.j (O.h (O.m c5 0)));(O.c (O.b (O.h u2) (O.g 161 [] [.rows (x.L 31),.int (x.I 1)]) (O.a [.bool O.e])) fun c6=>(O.b (O.i u2 O.j (O.h (O.m c6 0))) (O.a [.bool O.e]) (O.c (O.b (O.w (O.h u4) u7) (O.g 159 [] [.int (x.I 16),.int u11,.int (x.I 3)]) (O.a [.bool O.e])) fun c7=>let u1:=(O.i u4 O.j (O.i u7 (O.m c7 0) O.e));(O.c (O.b u1 (O.g 159 [] [.int (x.I 25),.int u10,.int (O.v .i64 (x.I 4) u11)]) (O.a [.bool O.e])) fun c8=>let u0:=(O.i u1 (O.m c8 0) O.e);(O.c (O.b u0 (O.g 162 [] (xr x kI 14)) (O.a [.bool O.e])) fun c9=>(O.a [.bool (O.i u0 (O.m c9 0) O.e)]))))))))))))))
def CU:Nat→Env:=eL [(61,AW),(159,Al),(160,EN),(161,DR),(162,ER)]
def BJ:=oS SJ IV CU
def Uq:List Nat:=[0]
def K8 (O:Alg) (x:Ags O):O.M:=(O.a [.int (O.v .i64 (lq9 O 3) (x.I 0))])
def Rg:Nat→Env:=eL []
def BL:=oS Uq K8 Rg
def U8:List Nat:=[2,0,0,0,0,0,0,0,1,0,0,0,0,3,0,0,1,3,0,0,0,0,0,0]
def K9 (O:Alg) (x:Ags O):O.M:=let u0:=(lq9 O 2);(O.c (O.b (O.i (x.B 16) (O.t u0 (x.I 23)) O.e) (O.a [.bool (O.d (x.I 23) u0)]) (O.a [.bool (O.d (O.aq .i64 (x.I 23) u0) (lq9 O 1))])) fun c0=>(O.b (O.m c0 0) (O.c (O.g 135 [] [.int (x.I 15)]) fun c1=>(O.a [.int (O.f c1 0)])) (O.a [.int (x.I 15)])))
def Mh:Nat→Env:=eL [(135,BL)]
theorem Ps {N ls}:Mh N 135 [] ls=BL N ls:=id rfl
def DC:=oS U8 K9 Mh
def VA:List Nat:=[2,0,0,0,0,0,0,0,1,0,0,0,0,3,0,0,1,3,0,0,0,0,0]
def Kp (O:Alg) (x:Ags O):O.M:=let u2:=(lq9 O 0);let u1:=(lq9 O 1);let u0:=(O.l (x.L 17));(O.c (O.x (fun s0 c0=>let u3:=(O.f c0 0);(O.b (O.n u3 u0) (O.k (O.r u3 u0) (O.b (O.h (O.ai (O.d (O.o (x.L 17) u3 27) (O.lit .u8 0)) (O.i (O.d (x.I 14) (O.lit .u8 3)) (O.d u3 (O.v .i64 u0 u1)) O.e))) (O.a [.int u2,.bool O.e]) (s0 [.int (O.q .i64 u3 u1)]))) (O.a [.int u1]))) [.int u2]) fun c0=>(O.b (O.aa c0 0) (O.a [.bool (O.m c0 1)]) (O.a [.bool (O.i (O.h (O.d (x.I 14) (O.lit .u8 3))) O.j (O.n u2 u0))])))
def Rm:Nat→Env:=eL []
def Hp:=oS VA Kp Rm
def Un:List Nat:=[2,0,0,0,0,0,0,0,1,0,0,0,0,3,0,0,1,3,0,0,0,0,0]
def Kl (O:Alg) (x:Ags O):O.M:=let u8:=(lq9 O 1);let u9:=(O.d (x.I 14) (O.lit .u8 1));let u7:=(lq9 O 2);let u6:=(lq9 O 0);let u5:=(O.l (x.L 17));let u3:=(O.d (x.I 15) u6);let u2:=(O.aj .i64 u7 (x.I 2));let u1:=(O.h (O.d (x.I 2) u7));(O.c (O.g 61 [] (xr x kR 0)) fun c0=>(O.b (O.i (O.i (O.h (O.d (O.f c0 0) u6)) O.j (O.n (x.I 14) (O.lit .u8 1))) O.j (O.n (O.lit .u8 5) (x.I 14))) (O.a [.bool O.e]) (O.c (O.x (fun s1 c1=>let u11:=(O.f c1 0);let u0:=(O.ah (O.d u11 u8) (x.I 19) (x.I 18));(O.b (O.n u11 u7) (O.k (O.r u11 u7) (O.b (O.i (O.n u0 u6) O.j (O.n (lq9 O 1000000) u0)) (O.a [.int u6,.bool O.e]) (s1 [.int (O.q .i64 u11 u8)]))) (O.a [.int u8]))) [.int u6]) fun c1=>(O.b (O.aa c1 0) (O.a [.bool (O.m c1 1)]) (O.b (O.i (O.i (O.n (x.I 15) u6) O.j (O.n u7 (x.I 15))) O.j (O.n u2 u5)) (O.a [.bool O.e]) (O.b (O.i u3 (O.i (O.n u6 u5) O.j (O.i (O.h u9) (O.h (O.d (x.I 14) (O.lit .u8 5))) O.e)) O.e) (O.a [.bool O.e]) (O.b (O.i u9 (O.h u3) O.e) (O.a [.bool O.e]) (O.b (O.i (O.d (x.I 14) (O.lit .u8 2)) (O.d u5 u2) O.e) (O.a [.bool O.e]) (O.b (O.i (O.d (x.I 14) (O.lit .u8 4)) (O.i u1 O.j (O.h (O.d u5 u7))) O.e) (O.a [.bool O.e]) (O.b (O.i (x.B 16) (O.i u1 O.j (O.n u5 u7)) O.e) (O.a [.bool O.e]) (O.c (O.x (fun s2 c2=>let u10:=(O.f c2 0);(O.b (O.n u10 u5) (O.k (O.r u10 u5) (O.c (O.g 127 [] (ap O (xr x kR 0) (rr O (x.L 17) u10 kI 0))) fun c3=>let u4:=(O.h (O.m c3 0));(O.c (O.b (O.h u4) (O.g 128 [] (ap O (xr x kM 0) [.int u10])) (O.a [.int u6])) fun c4=>(O.b (O.i u4 O.j (O.h (O.d (O.o (x.L 17) u10 0) (O.f c4 0)))) (O.a [.int u6,.bool O.e]) (s2 [.int (O.q .i64 u10 u8)]))))) (O.a [.int u8]))) [.int u6]) fun c2=>(O.b (O.aa c2 0) (O.a [.bool (O.m c2 1)]) (O.c (O.g 129 [] (xr x kM 0)) fun c3=>(O.a [.bool (O.m c3 0)]))))))))))))))
def D4:Nat→Env:=eL [(61,AW),(127,BJ),(128,DC),(129,Hp)]
theorem Pu {N ls}:D4 N 61 [] ls=AW N ls:=id rfl
theorem HM {N ls}:D4 N 127 [] ls=BJ N ls:=id rfl
theorem IY {N ls}:D4 N 128 [] ls=DC N ls:=id rfl
theorem Ia {N ls}:D4 N 129 [] ls=Hp N ls:=id rfl
def DB:=oS Un Kl D4
def Ti:List Nat:=[0]
def Jk (O:Alg) (x:Ags O):O.M:=(O.b (O.d (x.I 0) (O.lit .u8 7)) (O.a [.int (lq9 O 0),.int (lq9 O 11)]) (O.b (O.d (x.I 0) (O.lit .u8 13)) (O.a [.int (lq9 O 1),.int (lq9 O 99)]) (O.a [.int (lq9 O 0),.int (lq9 O 100000)])))
def Q6:Nat→Env:=eL []
def G8:=oS Ti Jk Q6
def Ru:List Nat:=[0,0,0]
def MR (O:Alg) (x:Ags O):O.M:=(O.a [.bool (O.i (O.t (x.I 1) (x.I 0)) (O.t (x.I 0) (x.I 2)) O.e)])
def PF:Nat→Env:=eL []
def F7:=oS Ru MR PF
def CR (N:Nat) (ls:List PV):Option (List PV):=Zb ls
def M2:List Nat:=[2,0]
def FJ (O:Alg) (x:Ags O):O.M:=(O.c (O.g 187 [] [.str (x.S 0),.int (x.I 1)]) fun c0=>(O.a [.int (O.f c0 0)]))
def Gb:Nat→Env:=eL [(187,CR)]
theorem HE {N ls}:Gb N 187 [] ls=CR N ls:=id rfl
def DM:=oS M2 FJ Gb
def VB:List Nat:=[]
def U3 (O:Alg) (x:Ags O):O.M:=let u4:=(O.s ⟨#[]⟩);let u3:=(O.s ⟨#[112]⟩);let u2:=(O.s ⟨#[112,121]⟩);let u1:=(O.s ⟨#[115,121]⟩);let u0:=(O.s ⟨#[70,73,69,76,68]⟩);(O.a [.rows (O.ac [[.str (O.s ⟨#[84,79,83,83]⟩),.str u1,.str (O.s ⟨#[66,65,84]⟩),.str u0],[.str (O.s ⟨#[79,80,69,78]⟩),.str (O.s ⟨#[112,111]⟩),.str u4,.str u4],[.str (O.s ⟨#[66,79,87,76]⟩),.str u3,.str u4,.str u4],[.str (O.s ⟨#[66,65,76,76]⟩),.str (O.s ⟨#[98]⟩),.str u4,.str u4],[.str (O.s ⟨#[69,78,84,69,82]⟩),.str u3,.str u4,.str u4],[.str (O.s ⟨#[82,69,84,73,82,69]⟩),.str u2,.str (O.s ⟨#[72,85,82,84]⟩),.str (O.s ⟨#[79,85,84]⟩)],[.str u0,.str (O.s ⟨#[114]⟩),.str u4,.str u4],[.str (O.s ⟨#[75,69,69,80,69,82]⟩),.str u3,.str u4,.str u4],[.str (O.s ⟨#[83,85,66]⟩),.str u2,.str (O.s ⟨#[79,78]⟩),.str (O.s ⟨#[79,70,70]⟩)],[.str (O.s ⟨#[78,69,87,66,65,76,76]⟩),.str u4,.str u4,.str u4],[.str (O.s ⟨#[68,69,67,76,65,82,69]⟩),.str (O.s ⟨#[115]⟩),.str u4,.str u4],[.str (O.s ⟨#[70,79,76,76,79,87]⟩),.str u1,.str (O.s ⟨#[89,69,83]⟩),.str (O.s ⟨#[78,79]⟩)],[.str (O.s ⟨#[80,69,78,65,76,84,89]⟩),.str (O.s ⟨#[115,114]⟩),.str u4,.str u4],[.str (O.s ⟨#[82,69,86,73,69,87]⟩),.str u1,.str (O.s ⟨#[75,69,80,84]⟩),.str (O.s ⟨#[76,79,83,84]⟩)],[.str (O.s ⟨#[82,69,86,73,83,69]⟩),.str (O.s ⟨#[114,118]⟩),.str u4,.str u4],[.str (O.s ⟨#[83,84,79,80]⟩),.str u4,.str u4,.str u4]])])
def bZ:Nat→Env:=eL []
def Fa:=oS VB U3 bZ
def WV:List Nat:=[0,0]
def MG (O:Alg) (x:Ags O):O.M:=(O.c (O.g 164 [] []) fun c0=>(O.k (O.r (O.v .u8 (x.I 0) (O.lit .u8 1)) (O.l (O.p c0 0))) (O.c (O.g 163 [] [.str (O.rS (O.p c0 0) (O.v .u8 (x.I 0) (O.lit .u8 1)) 1),.int (x.I 1)]) fun c1=>(O.a [.bool (O.i (O.t (lq9 O 0) (O.f c1 0)) O.j (O.i (O.d (x.I 0) (O.lit .u8 5)) (O.d (x.I 1) (O.lit .u8 121)) O.e))]))))
def Jw:Nat→Env:=eL [(163,DM),(164,Fa)]
theorem MC {N ls}:Jw N 163 [] ls=DM N ls:=id rfl
theorem QC {N ls}:Jw N 164 [] ls=Fa N ls:=id rfl
def I7:=oS WV MG Jw
def OL:List Nat:=[0,0,0]
def JY (O:Alg) (x:Ags O):O.M:=(O.a [.bool (O.i (O.t (x.I 1) (x.I 0)) (O.t (x.I 0) (x.I 2)) O.e)])
def L5:Nat→Env:=eL []
def Dg:=oS OL JY L5
def Ql:List Nat:=[0,0,0,0,0,1,0,0,0,0,1,0]
def Hd (O:Alg) (x:Ags O):O.M:=let u5:=(lq9 O 0);(O.b (O.i (O.i (O.i (O.n (x.I 0) (O.lit .u8 1)) O.j (O.n (O.lit .u8 3) (x.I 0))) O.j (O.n (O.lit .u8 3) (x.I 1))) O.j (O.n (O.lit .u8 10) (x.I 6))) (O.a [.int (lq9 O 3)]) (O.c (O.g 165 [] [.int (x.I 2),.int u5,.int (lq9 O 7)]) fun c0=>let u4:=(O.h (O.m c0 0));(O.c (O.b (O.h u4) (O.g 165 [] [.int (x.I 3),.int u5,.int (x.I 2)]) (O.a [.bool O.e])) fun c1=>let u3:=(O.i (O.i u4 O.j (O.h (O.m c1 0))) O.j (O.i (O.i (O.h (O.d (x.I 4) u5)) (O.h (O.d (x.I 4) (lq9 O 4))) O.e) (O.h (O.d (x.I 4) (lq9 O 6))) O.e));(O.c (O.b (O.h u3) (O.g 165 [] [.int (x.I 7),.int u5,.int (lq9 O 2)]) (O.a [.bool O.e])) fun c2=>let u2:=(O.i u3 O.j (O.h (O.m c2 0)));(O.c (O.b (O.h u2) (O.g 165 [] [.int (x.I 8),.int u5,.int (lq9 O 11)]) (O.a [.bool O.e])) fun c3=>let u1:=(O.i u2 O.j (O.h (O.m c3 0)));(O.c (O.b (O.h u1) (O.g 165 [] [.int (x.I 9),.int u5,.int (lq9 O 11)]) (O.a [.bool O.e])) fun c4=>let u0:=(O.i u1 O.j (O.h (O.m c4 0)));(O.c (O.b (O.h u0) (O.g 165 [] [.int (x.I 11),.int u5,.int (lq9 O 8)]) (O.a [.bool O.e])) fun c5=>(O.b (O.i u0 O.j (O.h (O.m c5 0))) (O.a [.int (lq9 O 2)]) (O.a [.int u5])))))))))
def I1:Nat→Env:=eL [(165,Dg)]
theorem KN {N ls}:I1 N 165 [] ls=Dg N ls:=id rfl
def E0:=oS Ql Hd I1
def VI:List Nat:=[0,0,0,0,1,0,0,0,0,0,0,0,1,0,0,0,0,1,0]
def Hx (O:Alg) (x:Ags O):O.M:=let u14:=(lq9 O 1);let u13:=(lq9 O 0);let u8:=(O.d (x.I 9) u13);let u15:=(O.lit .u8 0);let u7:=(O.d (x.I 6) u13);let u6:=(O.d (x.I 5) u13);let u5:=(O.d (x.I 3) u13);let u4:=(O.d (x.I 2) u13);let u3:=(O.d (x.I 1) u13);let u2:=(O.d (x.I 11) u13);let u1:=(O.d (x.I 10) u13);let u0:=(O.w (O.d (x.I 14) u13) (O.w (O.d (x.I 15) u13) (O.w (O.d (x.I 16) u13) (O.w (O.ai (x.B 17) O.e) (O.d (x.I 18) u13)))));(O.b (O.i (O.n (x.I 0) (O.lit .u8 1)) O.j (O.n (O.lit .u8 16) (x.I 0))) (O.a [.int (lq9 O 3)]) (O.c (O.g 130 [] [.int (x.I 0)]) fun c0=>(O.c (O.g 131 [] [.int (x.I 1),.int u14,.int (lq9 O 2)]) fun c1=>(O.c (O.g 131 [] [.int (x.I 2),.int u14,.int (lq9 O 11)]) fun c2=>(O.c (O.g 131 [] [.int (x.I 3),.int u14,.int (lq9 O 11)]) fun c3=>(O.c (O.g 131 [] [.int (x.I 5),.int (O.f c0 0),.int (O.f c0 1)]) fun c4=>(O.c (O.g 131 [] [.int (x.I 6),.int u13,.int (lq9 O 90)]) fun c5=>let u12:=(O.ac [[.int (O.lit .u8 115),.bool u3,.bool (O.m c1 0)],[.int (O.lit .u8 112),.bool u4,.bool (O.m c2 0)],[.int (O.lit .u8 111),.bool u5,.bool (O.m c3 0)],[.int (O.lit .u8 121),.bool (O.h (x.B 4)),.bool O.j],[.int (O.lit .u8 114),.bool u6,.bool (O.m c4 0)],[.int (O.lit .u8 118),.bool u7,.bool (O.m c5 0)],[.int (O.lit .u8 98),.bool (O.w (O.d (x.I 7) u15) (O.w (O.d (x.I 8) u15) (O.w u8 (O.w u1 (O.w u2 (O.w (O.ai (x.B 12) O.e) (O.w (O.d (x.I 13) u15) u0))))))),.bool O.j]]);let u11:=(O.l u12);(O.c (O.x (fun s6 c6=>let u16:=(O.f c6 0);let u9:=(O.h (O.rB u12 u16 1));(O.b (O.n u16 u11) (O.k (O.r u16 u11) (O.c (O.b u9 (O.g 132 [] [.int (x.I 0),.int (O.o u12 u16 0)]) (O.a [.bool O.e])) fun c7=>(O.b (O.i u9 (O.h (O.m c7 0)) O.e) (O.a [.int u13,.int u14]) (s6 [.int (O.q .i64 u16 u14)])))) (O.a [.int u14]))) [.int u13]) fun c6=>(O.b (O.aa c6 0) (O.a [.int (O.f c6 1)]) (O.c (O.x (fun s7 c7=>let u17:=(O.f c7 0);let u10:=(O.h (O.rB u12 u17 2));(O.b (O.n u17 u11) (O.k (O.r u17 u11) (O.c (O.b u10 (O.g 132 [] [.int (x.I 0),.int (O.o u12 u17 0)]) (O.a [.bool O.e])) fun c8=>(O.b (O.i u10 (O.m c8 0) O.e) (O.a [.int u13,.int (lq9 O 2)]) (s7 [.int (O.q .i64 u17 u14)])))) (O.a [.int u14]))) [.int u13]) fun c7=>(O.b (O.aa c7 0) (O.a [.int (O.f c7 1)]) (O.b (O.d (x.I 0) (O.lit .u8 4)) (O.c (O.g 133 [] (xr x [0,0,0,0,0,1,0,0,0,0,1,0] 7)) fun c8=>(O.a [.int (O.f c8 0)])) (O.a [.int u13])))))))))))))
def D2:Nat→Env:=eL [(130,G8),(131,F7),(132,I7),(133,E0)]
theorem H1 {N ls}:D2 N 130 [] ls=G8 N ls:=id rfl
theorem HH {N ls}:D2 N 131 [] ls=F7 N ls:=id rfl
theorem I4 {N ls}:D2 N 132 [] ls=I7 N ls:=id rfl
theorem DY {N ls}:D2 N 133 [] ls=E0 N ls:=id rfl
def DE:=oS VI Hx D2
def Aa (N:Nat) (ls:List PV):Option (List PV):=OB 1 ls
def Ah (N:Nat) (ls:List PV):Option (List PV):=OB 8 ls
def Ac (N:Nat) (ls:List PV):Option (List PV):=OB 1 ls
def Rv:List Nat:=[0,0,0,0,0,0,0,0,0,0,0,0,0,0,3,0,3,3,1,3,1,0,0,0,3,0,0,0]
def Ip (O:Alg) (x:Ags O):O.M:=(O.c (O.g 166 [] [.rows (x.L 14)]) fun c0=>(O.c (O.g 167 [] [.rows (x.L 16)]) fun c1=>(O.c (O.g 167 [] [.rows (x.L 17)]) fun c2=>(O.c (O.g 167 [] [.rows (x.L 19)]) fun c3=>(O.c (O.g 168 [] [.rows (x.L 24)]) fun c4=>(O.a (ap O (xr x [0,0,0,0,0,0,0,0,0,0,0,0,0,0] 0) (ap O [.rows (O.p c0 0),.int (x.I 15),.rows (O.p c1 0),.rows (O.p c2 0),.bool (x.B 18),.rows (O.p c3 0)] (ap O (xr x [1,0,0,0] 20) (ap O [.rows (O.p c4 0)] (xr x [0,0,0] 25)))))))))))
def ET:Nat→Env:=eL [(166,Aa),(167,Ah),(168,Ac)]
theorem J0 {N ls}:ET N 166 [] ls=Aa N ls:=id rfl
theorem LC {N ls}:ET N 167 [] ls=Ah N ls:=id rfl
theorem Kf {N ls}:ET N 168 [] ls=Ac N ls:=id rfl
def AU:=oS Rv Ip ET
def VF:List Nat:=[2,0,0,0,0,0,0,0,1,0,0,0,0,3,0,0,1,3,0,0,0,0,0]
def Kr (O:Alg) (x:Ags O):O.M:=(O.c (O.g 91 [] (xr x kR 0)) fun c0=>(O.c (O.x (fun s1 c1=>let u1:=(O.f c1 1);(O.b (O.n u1 (O.l (x.L 17))) (O.k (O.r u1 (O.l (x.L 17))) (O.c (O.g 134 [] (rr O (x.L 17) u1 kI 0)) fun c2=>let u0:=(O.ad (O.p c1 0) (O.ac [(cr O c2 kI 0)]));(O.k (O.u (O.l u0) 304) (s1 [.rows u0,.int (O.q .i64 u1 (lq9 O 1))])))) (O.a [.rows (O.p c1 0)]))) [.rows O.y,.int (lq9 O 0)]) fun c1=>(O.a (ap O (cr O c0 kR 0) (ap O (xr x [0,0,1] 14) (ap O [.rows (O.p c1 0)] (xr x [0,0,0,0,0] 18)))))))
def Ib:Nat→Env:=eL [(91,DD),(134,AU)]
theorem P2 {N ls}:Ib N 91 [] ls=DD N ls:=id rfl
theorem HI {N ls}:Ib N 134 [] ls=AU N ls:=id rfl
def Hz:=oS VF Kr Ib
def Ut:List Nat:=[2,0,0,0,0,0,0,0,1,0,0,0,0,3,0,0,1,3,0,0,0,0,0,0]
def Kn (O:Alg) (x:Ags O):O.M:=(O.c (O.x (fun s0 c0=>let u2:=(O.f c0 0);let u1:=(O.f c0 1);let u0:=(O.q .i64 u1 (lq9 O 1));(O.b (O.n u1 (O.l (x.L 17))) (O.k (O.r u1 (O.l (x.L 17))) (O.b (O.d (O.o (x.L 17) u1 0) (x.I 23)) (s0 [.int (O.q .i64 u2 (O.o (x.L 17) u1 3)),.int u0]) (s0 [.int u2,.int u0]))) (O.a [.int u2]))) [.int (lq9 O 0),.int (lq9 O 0)]) fun c0=>(O.a [.int (O.f c0 0)]))
def Rb:Nat→Env:=eL []
def B0:=oS Ut Kn Rb
def OP:List Nat:=[2,0,0,0,0,0,0,0,1,0,0,0,0,3]
def Fi (O:Alg) (x:Ags O):O.M:=(O.b (O.d (x.I 3) (lq9 O 0)) (O.a [.int (O.lit .u8 5)]) (O.a [.int (O.lit .u8 6)]))
def MD:Nat→Env:=eL []
def Bp:=oS OP Fi MD
def Rt:List Nat:=[2,0,0,0,0,0,0,0,1,0,0,0,0,3,0,0,1,3,0,0,0,0,0]
def IX (O:Alg) (x:Ags O):O.M:=let u10:=(lq9 O 1);let u9:=(lq9 O 0);let u8:=(O.l (x.L 17));let u11:=(O.lit .u8 0);let u7:=(O.d u8 (lq9 O 3));let u6:=(O.v .i64 u8 u10);let u5:=(O.d u8 (O.aj .i64 (lq9 O 2) (x.I 2)));let u4:=(O.o (x.L 17) u6 1);let u3:=(O.o (x.L 17) u6 3);let u2:=(O.o (x.L 17) u6 0);let u1:=(O.o (x.L 17) u6 27);let u0:=(O.v .i64 u4 u10);(O.c (O.g 106 [] (xr x kM 0)) fun c0=>(O.b (O.i (O.h (O.m c0 0)) O.j (O.d u8 u9)) (O.a [.int u11,.int u9,.int u9]) (O.k (O.r u6 u8) (O.c (O.g 135 [] [.int u2]) fun c1=>let u12:=(O.f c1 0);(O.b (O.d u1 (O.lit .u8 5)) (O.c (O.g 172 [] (xr x kR 0)) fun c2=>(O.a [.int (O.f c2 0),.int u9,.int u9])) (O.b (O.d u1 u11) (O.a [.int u11,.int u9,.int u9]) (O.b (O.i u5 (O.t u4 u3) O.e) (O.a [.int (O.lit .u8 2),.int u2,.int (O.v .i64 (O.v .i64 (x.I 1) u10) (O.o (x.L 17) u6 4))]) (O.b (O.i u5 (O.d u3 u0) O.e) (O.a [.int (O.lit .u8 4),.int u9,.int u9]) (O.b u5 (O.a [.int (O.lit .u8 1),.int u12,.int (O.v .i64 u0 u3)]) (O.c (O.b u7 (O.g 139 [] (ap O (xr x kM 0) [.int u2])) (O.a [.int u9])) fun c2=>(O.c (O.b u7 (O.g 139 [] (ap O (xr x kM 0) [.int u12])) (O.a [.int u9])) fun c3=>(O.b (O.i u7 (O.n (O.f c2 0) (O.f c3 0)) O.e) (O.c (O.g 139 [] (ap O (xr x kM 0) [.int u12])) fun c4=>(O.c (O.g 139 [] (ap O (xr x kM 0) [.int u2])) fun c5=>(O.a [.int (O.lit .u8 3),.int u12,.int (O.v .i64 (O.f c4 0) (O.f c5 0))]))) (O.a [.int u11,.int u9,.int u9])))))))))))))
def DA:Nat→Env:=eL [(106,DB),(135,BL),(139,B0),(172,Bp)]
theorem OC {N ls}:DA N 106 [] ls=DB N ls:=id rfl
theorem OJ {N ls}:DA N 135 [] ls=BL N ls:=id rfl
theorem OO {N ls}:DA N 139 [] ls=B0 N ls:=id rfl
theorem LU {N ls}:DA N 172 [] ls=Bp N ls:=id rfl
def GC:=oS Rt IX DA
def R6:List Nat:=[2,0,0,0,0,0,0,0,1,0,0,0,0,3,0,0,0]
def It (O:Alg) (x:Ags O):O.M:=let u4:=(lq9 O 0);let u3:=(O.u (x.I 1) 1);let u2:=(lq9 O 1000000);(O.c (O.g 61 [] (xr x kR 0)) fun c0=>(O.b (O.h (O.d (O.f c0 0) u4)) (O.a [.int u4,.int u4,.int u4,.int u4,.int u4,.int u4,.int u4,.int u4,.int u4,.int u4,.int u4,.int u4,.int u4,.int u4,.rows O.y,.int u4,.rows O.y,.rows O.y,.bool O.e,.rows O.y,.bool O.e,.int u4,.int u4,.int u4,.rows O.y,.int u4,.int u4,.int (O.lit .u8 0),.int (O.f c0 0)]) (O.c (O.g 159 [] [.int (x.I 14),.int (lq9 O 1),.int (lq9 O 2)]) fun c1=>let u1:=(O.h (O.m c1 0));(O.c (O.b (O.h u1) (O.g 159 [] [.int (x.I 15),.int u4,.int u2]) (O.a [.bool O.e])) fun c2=>let u0:=(O.i u1 O.j (O.h (O.m c2 0)));(O.c (O.b (O.h u0) (O.g 159 [] [.int (x.I 16),.int u4,.int u2]) (O.a [.bool O.e])) fun c3=>(O.b (O.i u0 O.j (O.h (O.m c3 0))) (O.a [.int u4,.int u4,.int u4,.int u4,.int u4,.int u4,.int u4,.int u4,.int u4,.int u4,.int u4,.int u4,.int u4,.int u4,.rows O.y,.int u4,.rows O.y,.rows O.y,.bool O.e,.rows O.y,.bool O.e,.int u4,.int u4,.int u4,.rows O.y,.int u4,.int u4,.int (O.lit .u8 0),.int (lq9 O 2)]) (O.k u3 (O.k (O.u (x.I 1) 8) (O.k u3 (O.a [.int (x.I 14),.int (x.I 15),.int (x.I 3),.int (x.I 16),.int u4,.int u4,.int u4,.int u4,.int u4,.int (x.I 16),.int u4,.int u4,.int u4,.int u4,.rows (O.ar (x.I 1) [.int (O.lit .u8 0)]),.int u4,.rows O.y,.rows O.y,.bool O.e,.rows (O.ar (x.I 1) [.int u4]),.bool O.e,.int u4,.int u4,.int u4,.rows (O.ar (x.I 1) [.bool O.e]),.int u4,.int u4,.int (O.lit .u8 0),.int u4]))))))))))
def GY:Nat→Env:=eL [(61,AW),(159,Al)]
theorem OT {N ls}:GY N 61 [] ls=AW N ls:=id rfl
theorem Lt {N ls}:GY N 159 [] ls=Al N ls:=id rfl
def Fm:=oS R6 It GY
def TP:List Nat:=[2,0,0,0,0,0,0,0,1,0,0,0,0,3,0,0,1,3,0,0,0,0,0,0]
def Jv (O:Alg) (x:Ags O):O.M:=(O.b (O.n (O.q .i64 (O.l (x.L 17)) (lq9 O 1)) (O.aj .i64 (lq9 O 2) (x.I 2))) (O.a [.int (lq9 O 0)]) (O.c (O.g 135 [] [.int (x.I 23)]) fun c0=>(O.c (O.g 139 [] (ap O (xr x kM 0) [.int (O.f c0 0)])) fun c1=>(O.c (O.g 139 [] (xr x [2,0,0,0,0,0,0,0,1,0,0,0,0,3,0,0,1,3,0,0,0,0,0,0] 0)) fun c2=>(O.a [.int (O.q .i64 (O.v .i64 (O.f c1 0) (O.f c2 0)) (lq9 O 1))])))))
def Hc:Nat→Env:=eL [(135,BL),(139,B0)]
theorem O5 {N ls}:Hc N 135 [] ls=BL N ls:=id rfl
theorem O4 {N ls}:Hc N 139 [] ls=B0 N ls:=id rfl
def G3:=oS TP Jv Hc
def PW:List Nat:=[0]
def J3 (O:Alg) (x:Ags O):O.M:=(O.a [.bool (O.h (O.d (x.I 0) (O.lit .u8 0)))])
def M9:Nat→Env:=eL []
def EU:=oS PW J3 M9
def SB:List Nat:=[0,0,0,0,0,0,0,0,0,0,0,0,0,0,3,0,3,3,1,3,1,0,0,0,3,0,0,0]
def IR (O:Alg) (x:Ags O):O.M:=let u0:=(lq9 O 0);(O.c (O.c (O.x (fun s0 c0=>let u1:=(O.f c0 0);(O.b (O.n u1 (O.l (x.L 14))) (O.k (O.r u1 (O.l (x.L 14))) (O.c (O.g 202 [] [.int (O.o (x.L 14) u1 0)]) fun c1=>(O.b (O.m c1 0) (O.a [.int u0,.int u1]) (s0 [.int (O.q .i64 u1 (lq9 O 1))])))) (O.a [.int (lq9 O 1)]))) [.int u0]) fun c0=>(O.b (O.aa c0 0) (O.a [.int (O.f c0 1)]) (O.a [.int (lq9 O (-1))]))) fun c0=>(O.a [.bool (O.t u0 (O.f c0 0))]))
def J6:Nat→Env:=eL [(202,EU)]
theorem FO {N ls}:J6 N 202 [] ls=EU N ls:=id rfl
def Fu:=oS SB IR J6
def Wc:List Nat:=[0,0,0,0,0,0,0,0,0,0,0,0,0,0,3,0,3,3,1,3,1,0,0,0,3,0,0,0]
def L4 (O:Alg) (x:Ags O):O.M:=(O.c (O.g 166 [] [.rows (x.L 14)]) fun c0=>(O.c (O.g 167 [] [.rows (x.L 16)]) fun c1=>(O.c (O.g 167 [] [.rows (x.L 17)]) fun c2=>(O.c (O.g 167 [] [.rows (x.L 19)]) fun c3=>(O.c (O.g 168 [] [.rows (x.L 24)]) fun c4=>(O.a (ap O (xr x [0,0,0,0,0,0,0,0,0,0,0,0,0,0] 0) (ap O [.rows (O.p c0 0),.int (x.I 15),.rows (O.p c1 0),.rows (O.p c2 0),.bool (x.B 18),.rows (O.p c3 0)] (ap O (xr x [1,0,0,0] 20) (ap O [.rows (O.p c4 0)] (xr x [0,0,0] 25)))))))))))
def Gj:Nat→Env:=eL [(166,Aa),(167,Ah),(168,Ac)]
theorem LL {N ls}:Gj N 166 [] ls=Aa N ls:=id rfl
theorem Mv {N ls}:Gj N 167 [] ls=Ah N ls:=id rfl
theorem MK {N ls}:Gj N 168 [] ls=Ac N ls:=id rfl
def Ax:=oS Wc L4 Gj
def QT:List Nat:=[0]
def LJ (O:Alg) (x:Ags O):O.M:=(O.a [.bool (O.h (O.d (x.I 0) (O.lit .u8 0)))])
def OG:Nat→Env:=eL []
def Cs:=oS QT LJ OG
def Sv:List Nat:=[0,0,0,0,0,0,0,0,0,0,0,0,0,0,3,0,3,3,1,3,1,0,0,0,3,0,0,0]
def En (O:Alg) (x:Ags O):O.M:=let u0:=(lq9 O 0);(O.c (O.c (O.x (fun s0 c0=>let u1:=(O.f c0 0);(O.b (O.n u1 (O.l (x.L 14))) (O.k (O.r u1 (O.l (x.L 14))) (O.c (O.g 262 [] [.int (O.o (x.L 14) u1 0)]) fun c1=>(O.b (O.m c1 0) (O.a [.int u0,.int u1]) (s0 [.int (O.q .i64 u1 (lq9 O 1))])))) (O.a [.int (lq9 O 1)]))) [.int u0]) fun c0=>(O.b (O.aa c0 0) (O.a [.int (O.f c0 1)]) (O.a [.int (lq9 O (-1))]))) fun c0=>(O.a [.bool (O.t u0 (O.f c0 0))]))
def FB:Nat→Env:=eL [(262,Cs)]
theorem GN {N ls}:FB N 262 [] ls=Cs N ls:=id rfl
def B3:=oS Sv En FB
def Te:List Nat:=[0,0,0,0,0,0,0,0,0,0,0,0,0,0,3,0,3,3,1,3,1,0,0,0,3,0,0,0,0]
def Jq (O:Alg) (x:Ags O):O.M:=(O.a [.bool (O.i (O.t (lq9 O 1) (x.I 28)) (O.t (x.I 28) (O.l (x.L 14))) O.e)])
def RI:Nat→Env:=eL []
def Av:=oS Te Jq RI
def VH:List Nat:=[0,0,0,0,0,0,0,0,0,0,0,0,0,0,3,0,3,3,1,3,1,0,0,0,3,0,0,0,0,0]
def Kx (O:Alg) (x:Ags O):O.M:=let u3:=(lq9 O 1);let u1:=(O.v .i64 (x.I 29) u3);let u0:=(O.v .i64 (x.I 28) u3);(O.c (O.g 234 [] (xr x kI 0)) fun c0=>let u4:=(O.p c0 14);(O.c (O.g 235 [] (xr x kI 0)) fun c1=>(O.b (O.m c1 0) (O.a (ap O (cr O c0 kI 0) [.int u3])) (O.c (O.g 236 [] (xr x [0,0,0,0,0,0,0,0,0,0,0,0,0,0,3,0,3,3,1,3,1,0,0,0,3,0,0,0,0] 0)) fun c2=>let u2:=(O.h (O.m c2 0));(O.c (O.b (O.h u2) (O.g 236 [] (ap O (xr x kI 0) [.int (x.I 29)])) (O.a [.bool O.e])) fun c3=>(O.b (O.i u2 O.j (O.h (O.m c3 0))) (O.a (ap O (cr O c0 kI 0) [.int (lq9 O 3)])) (O.b (O.d (x.I 28) (x.I 29)) (O.a (ap O (cr O c0 kI 0) [.int (lq9 O 4)])) (O.k (O.r u0 (O.l u4)) (O.k (O.r u1 (O.l (O.ab u4 u0 0 [.int (O.lit .u8 1)]))) (O.a (ap O (cr O c0 [0,0,0,0,0,0,0,0,0,0,0,0] 0) (ap O [.int (x.I 28),.int (x.I 29),.rows (O.ab (O.ab u4 u0 0 [.int (O.lit .u8 1)]) u1 0 [.int (O.lit .u8 1)])] (ap O (cr O c0 [0,3,3,1,3,1,0,0,0,3,0,0,0] 15) [.int (lq9 O 0)])))))))))))))
def Fv:Nat→Env:=eL [(234,Ax),(235,B3),(236,Av)]
theorem RH {N ls}:Fv N 234 [] ls=Ax N ls:=id rfl
theorem O2 {N ls}:Fv N 235 [] ls=B3 N ls:=id rfl
theorem Oz {N ls}:Fv N 236 [] ls=Av N ls:=id rfl
def H7:=oS VH Kx Fv
def Xn:List Nat:=[0,0,0,0,0,0,0,0,0,0,0,0,0,0,3,0,3,3,1,3,1,0,0,0,3,0,0,0]
def N3 (O:Alg) (x:Ags O):O.M:=(O.c (O.g 166 [] [.rows (x.L 14)]) fun c0=>(O.c (O.g 167 [] [.rows (x.L 16)]) fun c1=>(O.c (O.g 167 [] [.rows (x.L 17)]) fun c2=>(O.c (O.g 167 [] [.rows (x.L 19)]) fun c3=>(O.c (O.g 168 [] [.rows (x.L 24)]) fun c4=>(O.a (ap O (xr x [0,0,0,0,0,0,0,0,0,0,0,0,0,0] 0) (ap O [.rows (O.p c0 0),.int (x.I 15),.rows (O.p c1 0),.rows (O.p c2 0),.bool (x.B 18),.rows (O.p c3 0)] (ap O (xr x [1,0,0,0] 20) (ap O [.rows (O.p c4 0)] (xr x [0,0,0] 25)))))))))))
def Hq:Nat→Env:=eL [(166,Aa),(167,Ah),(168,Ac)]
theorem Lm {N ls}:Hq N 166 [] ls=Aa N ls:=id rfl
theorem NA {N ls}:Hq N 167 [] ls=Ah N ls:=id rfl
theorem Mt {N ls}:Hq N 168 [] ls=Ac N ls:=id rfl
def Ci:=oS Xn N3 Hq
def U5:List Nat:=[0,0,0,0,0,0,0,0,0,0,0,0,0,0,3,0,3,3,1,3,1,0,0,0,3,0,0,0,0]
def K2 (O:Alg) (x:Ags O):O.M:=(O.a [.bool (O.i (O.t (lq9 O 1) (x.I 28)) (O.t (x.I 28) (O.l (x.L 19))) O.e)])
def Rx:Nat→Env:=eL []
def Bw:=oS U5 K2 Rx
def WD:List Nat:=[2,0,0,0,0,0,0,0,1,0,0,0,0,3,0,0,0,0,0,0,0,0,0,0,0,0,0,0,3,0,3,3,1,3,1,0,0,0,3,0,0,0,0]
def MQ (O:Alg) (x:Ags O):O.M:=let u4:=(lq9 O 0);let u2:=(O.v .i64 (x.I 42) (lq9 O 1));let u1:=(O.o (x.L 33) u2 0);let u0:=(O.v .i64 (O.aj .i64 (x.I 5) (x.I 4)) (O.ah (O.n u1 u4) u4 u1));(O.c (O.g 263 [] (xr x [0,0,0,0,0,0,0,0,0,0,0,0,0,0,3,0,3,3,1,3,1,0,0,0,3,0,0,0,0] 14)) fun c0=>let u3:=(O.h (O.m c0 0));(O.c (O.b (O.h u3) (O.g 61 [] (xr x kR 0)) (O.a [.int u4])) fun c1=>(O.b (O.i u3 O.j (O.h (O.d (O.f c1 0) u4))) (O.a [.int u4]) (O.b (O.d (x.I 5) u4) (O.a [.int (lq9 O (-1))]) (O.k (O.r u2 (O.l (x.L 33))) (O.a [.int (O.ah (O.n u0 u4) u4 u0)]))))))
def Ju:Nat→Env:=eL [(61,AW),(263,Bw)]
theorem Qi {N ls}:Ju N 61 [] ls=AW N ls:=id rfl
theorem Qf {N ls}:Ju N 263 [] ls=Bw N ls:=id rfl
def I9:=oS WD MQ Ju
def Xw:List Nat:=[2,0,0,0,0,0,0,0,1,0,0,0,0,3,0,0,0,0,0,0,0,0,0,0,0,0,0,0,3,0,3,3,1,3,1,0,0,0,3,0,0,0,0]
def N6 (O:Alg) (x:Ags O):O.M:=let u3:=(lq9 O 0);let u1:=(O.t (x.I 42) (O.l (x.L 38)));let u0:=(O.v .i64 (x.I 42) (lq9 O 1));(O.c (O.g 263 [] (xr x [0,0,0,0,0,0,0,0,0,0,0,0,0,0,3,0,3,3,1,3,1,0,0,0,3,0,0,0,0] 14)) fun c0=>let u2:=(O.h (O.m c0 0));(O.c (O.b (O.h u2) (O.g 61 [] (xr x kR 0)) (O.a [.int u3])) fun c1=>(O.b (O.i u2 O.j (O.h (O.d (O.f c1 0) u3))) (O.a [.int (lq9 O 3)]) (O.k (O.h (O.w u1 (O.h (O.r u0 (O.l (x.L 38)))))) (O.c (O.g 264 [] (xr x [2,0,0,0,0,0,0,0,1,0,0,0,0,3,0,0,0,0,0,0,0,0,0,0,0,0,0,0,3,0,3,3,1,3,1,0,0,0,3,0,0,0,0] 0)) fun c2=>(O.b (O.i (O.i (O.d (x.I 42) (x.I 36)) O.j (O.d (x.I 42) (x.I 29))) O.j (O.i u1 (O.rB (x.L 38) u0 0) O.e)) (O.a [.int (lq9 O 7)]) (O.c (O.g 184 [] [.rows (x.L 31),.int (x.I 42)]) fun c3=>(O.b (O.m c3 0) (O.a [.int (lq9 O 8)]) (O.b (O.i (O.h (O.d (O.f c2 0) (lq9 O (-1)))) (O.n (x.I 25) (O.v .i64 (x.I 4) (O.f c2 0))) O.e) (O.a [.int (lq9 O 9)]) (O.a [.int u3]))))))))))
def FW:Nat→Env:=eL [(61,AW),(184,Aq),(263,Bw),(264,I9)]
theorem RO {N ls}:FW N 61 [] ls=AW N ls:=id rfl
theorem Lx {N ls}:FW N 184 [] ls=Aq N ls:=id rfl
theorem RU {N ls}:FW N 263 [] ls=Bw N ls:=id rfl
theorem ST {N ls}:FW N 264 [] ls=I9 N ls:=id rfl
def Kc:=oS Xw N6 FW
def Wf:List Nat:=[2,0,0,0,0,0,0,0,1,0,0,0,0,3,0,0,0,0,0,0,0,0,0,0,0,0,0,0,3,0,3,3,1,3,1,0,0,0,3,0,0,0,0]
def MF (O:Alg) (x:Ags O):O.M:=(O.c (O.g 237 [] (xr x kI 14)) fun c0=>(O.c (O.g 238 [] (xr x [2,0,0,0,0,0,0,0,1,0,0,0,0,3,0,0,0,0,0,0,0,0,0,0,0,0,0,0,3,0,3,3,1,3,1,0,0,0,3,0,0,0,0] 0)) fun c1=>let u0:=(O.f c1 0);(O.b (O.d u0 (lq9 O 0)) (O.a (ap O (cr O c0 [0,0,0,0,0,0,0,0,0,0,0,0,0,0,3] 0) (ap O [.int (x.I 42)] (ap O (cr O c0 [3,3,1,3,1,0,0,0,3,0,0,0] 16) [.int u0])))) (O.a (ap O (cr O c0 kI 0) [.int u0])))))
def Jb:Nat→Env:=eL [(237,Ci),(238,Kc)]
theorem Sd {N ls}:Jb N 237 [] ls=Ci N ls:=id rfl
theorem SY {N ls}:Jb N 238 [] ls=Kc N ls:=id rfl
def I5:=oS Wf MF Jb
def M5:List Nat:=[0,0,0,0,0,1,0,0,0,0,1,0]
def FH (O:Alg) (x:Ags O):O.M:=let u3:=(lq9 O 0);let u2:=(O.d (x.I 4) u3);let u1:=(O.d (x.I 2) u3);let u0:=(O.h (O.d (x.I 4) (lq9 O 6)));(O.b (O.d (x.I 0) (O.lit .u8 2)) (O.a [.bool (O.i (O.d (x.I 1) (O.lit .u8 0)) u0 O.e)]) (O.b (O.d (x.I 1) (O.lit .u8 0)) (O.a [.bool (O.i u1 u2 O.e)]) (O.b (O.d (x.I 1) (O.lit .u8 1)) (O.a [.bool (O.i u0 O.j u1)]) (O.a [.bool (O.i u0 (O.i (O.n u3 (x.I 2)) O.j (O.h u2)) O.e)]))))
def Lj:Nat→Env:=eL []
def DP:=oS M5 FH Lj
def Qz:List Nat:=[0,0,0,0,0,1,0,0,0,0,1,0]
def HV (O:Alg) (x:Ags O):O.M:=let u3:=(lq9 O 0);let u2:=(lq9 O 11);let u1:=(O.d (x.I 4) u3);let u0:=(O.h u1);(O.b (O.i (O.i (O.i (O.i (O.i (O.n (x.I 0) (O.lit .u8 1)) O.j (O.n (O.lit .u8 3) (x.I 0))) O.j (O.n (O.lit .u8 3) (x.I 1))) O.j (O.n (O.lit .u8 10) (x.I 6))) O.j (O.n (x.I 11) u3)) O.j (O.n (lq9 O 8) (x.I 11))) (O.a [.int u2]) (O.b (O.i (O.i (O.i (O.i (O.n (x.I 2) u3) O.j (O.n (lq9 O 7) (x.I 2))) O.j (O.n (x.I 3) u3)) O.j (O.n (x.I 2) (x.I 3))) O.j (O.i (O.i u0 (O.h (O.d (x.I 4) (lq9 O 4))) O.e) (O.h (O.d (x.I 4) (lq9 O 6))) O.e)) (O.a [.int (lq9 O 12)]) (O.c (O.g 103 [] (xr x [0,0,0,0,0,1,0,0,0,0,1,0] 0)) fun c0=>(O.b (O.i (O.h (O.m c0 0)) O.j (O.i (O.i (O.i (O.h (O.d (x.I 0) (O.lit .u8 2))) (O.d (x.I 1) (O.lit .u8 1)) O.e) (O.d (x.I 2) u3) O.e) u1 O.e)) (O.a [.int u2]) (O.b (O.i (O.i (O.h (O.d (x.I 11) u3)) (O.h (O.d (x.I 1) (O.lit .u8 1))) O.e) (O.h (O.d (x.I 6) (O.lit .u8 2))) O.e) (O.a [.int u2]) (O.b (O.i u0 (O.h (O.d (x.I 6) (O.lit .u8 0))) O.e) (O.a [.int u2]) (O.b (O.i (O.i (x.B 5) (O.h (O.d (x.I 6) (O.lit .u8 6))) O.e) (O.h (O.d (x.I 6) (O.lit .u8 8))) O.e) (O.a [.int u2]) (O.a [.int u3]))))))))
def JF:Nat→Env:=eL [(103,DP)]
theorem J7 {N ls}:JF N 103 [] ls=DP N ls:=id rfl
def CM:=oS Qz HV JF
def M1:List Nat:=[0]
def FG (O:Alg) (x:Ags O):O.M:=(O.a [.bool (O.i (O.t (O.lit .u8 1) (x.I 0)) (O.t (x.I 0) (O.lit .u8 5)) O.e)])
def LY:Nat→Env:=eL []
def DN:=oS M1 FG LY
def PC:List Nat:=[2,0,0,0,0,0,0,0,1,0,0,0,0,3,0,0,0,0,0,1,0,0,0,0,1,0]
def GV (O:Alg) (x:Ags O):O.M:=let u2:=(lq9 O 0);let u1:=(O.q .i64 (O.v .i64 (x.I 16) (x.I 17)) (x.I 18));(O.c (O.g 87 [] (xr x [0,0,0,0,0,1,0,0,0,0,1,0] 14)) fun c0=>(O.b (O.h (O.d (O.f c0 0) u2)) (O.a [.int u2,.int u2,.int u2,.int u2,.int u2,.int u2,.bool O.e,.bool O.e,.bool O.e,.bool O.e]) (O.c (O.g 88 [] [.int (x.I 20)]) fun c1=>let u3:=(O.m c1 0);(O.c (O.b (x.B 19) (O.a [.int (O.q .i64 (x.I 16) (lq9 O 1))]) (O.a [.int (x.I 16)])) fun c2=>let u0:=(O.d (O.aq .i64 (O.f c2 0) (lq9 O 2)) (lq9 O 1));(O.c (O.b (O.d (x.I 14) (O.lit .u8 2)) (O.a [.int u2,.int (O.q .i64 (x.I 6) u1),.int u2,.int u2,.int u2,.int u2,.bool (O.d (x.I 14) (O.lit .u8 1)),.bool (O.h (O.d (x.I 14) (O.lit .u8 2))),.bool u3,.bool u0]) (O.b (O.d (x.I 14) (O.lit .u8 3)) (O.a [.int u2,.int u2,.int (x.I 7),.int u2,.int u2,.int u2,.bool (O.d (x.I 14) (O.lit .u8 1)),.bool (O.h (O.d (x.I 14) (O.lit .u8 2))),.bool u3,.bool u0]) (O.a [.int u2,.int u2,.int u2,.int u2,.int u2,.int u2,.bool (O.d (x.I 14) (O.lit .u8 1)),.bool (O.h (O.d (x.I 14) (O.lit .u8 2))),.bool u3,.bool u0]))) fun c3=>(O.c (O.b (O.h (O.d (x.I 14) (O.lit .u8 2))) (O.b (O.d (x.I 15) (O.lit .u8 1)) (O.a (ap O [.int u1] (cr O c3 [0,0,0,0,0,1,1,1,1] 1))) (O.b (O.d (x.I 15) (O.lit .u8 2)) (O.a (ap O (cr O c3 [0,0,0] 0) (ap O [.int u1] (cr O c3 [0,0,1,1,1,1] 4)))) (O.b (O.d (x.I 15) (O.lit .u8 3)) (O.a (ap O (cr O c3 [0,0,0,0] 0) (ap O [.int u1] (cr O c3 [0,1,1,1,1] 5)))) (O.a (cr O c3 [0,0,0,0,0,0,1,1,1,1] 0))))) (O.a (cr O c3 [0,0,0,0,0,0,1,1,1,1] 0))) fun c4=>(O.a (ap O (cr O c4 [0,0,0,0,0] 0) (ap O [.int (O.q .i64 (O.q .i64 (O.f c4 0) (O.f c4 1)) (O.f c4 2))] (cr O c4 [1,1,1,1] 6))))))))))
def FE:Nat→Env:=eL [(87,CM),(88,DN)]
theorem LR {N ls}:FE N 87 [] ls=CM N ls:=id rfl
theorem Jg {N ls}:FE N 88 [] ls=DN N ls:=id rfl
def B7:=oS PC GV FE
def Q8:List Nat:=[0,0,0,0,0,0,1,1,1,1]
def Qm (O:Alg) (x:Ags O):O.M:=(O.a [.int (O.q .i64 (O.q .i64 (O.q .i64 (O.q .i64 (x.I 0) (x.I 1)) (x.I 2)) (x.I 3)) (x.I 4))])
def WW:Nat→Env:=eL []
def Et:=oS Q8 Qm WW
def Rk:List Nat:=[0,0,0,0,0,0,0,0,0,0,0,0,0,0,3,0,3,3,1,3,1,0,0,0,3,0,0,0]
def EC (O:Alg) (x:Ags O):O.M:=(O.c (O.g 235 [] (xr x kI 0)) fun c0=>(O.a [.bool (O.i (O.m c0 0) (O.i (O.d (x.I 12) (lq9 O 0)) O.j (O.d (x.I 13) (lq9 O 0))) O.e)]))
def EW:Nat→Env:=eL [(235,B3)]
theorem NG {N ls}:EW N 235 [] ls=B3 N ls:=id rfl
def BM:=oS Rk EC EW
def Uv:List Nat:=[0,0,0,0,0,0,0,0,0,0,0,0,0,0,3,0,3,3,1,3,1,0,0,0,3,0,0,0,0]
def Kk (O:Alg) (x:Ags O):O.M:=(O.a [.bool (O.i (O.t (lq9 O 1) (x.I 28)) (O.t (x.I 28) (O.l (x.L 24))) O.e)])
def Ry:Nat→Env:=eL []
def A1:=oS Uv Kk Ry
def Q7:List Nat:=[0,0,0,0,0,0,0,0,0,0,0,0,0,0,3,0,3,3,1,3,1,0,0,0,3,0,0,0,0]
def Hb (O:Alg) (x:Ags O):O.M:=let u0:=(O.v .i64 (x.I 28) (lq9 O 1));(O.c (O.g 246 [] (xr x [0,0,0,0,0,0,0,0,0,0,0,0,0,0,3,0,3,3,1,3,1,0,0,0,3,0,0,0,0] 0)) fun c0=>(O.k (O.h (O.w (O.m c0 0) (O.h (O.r u0 (O.l (x.L 24)))))) (O.a [.bool (O.i (O.m c0 0) (O.rB (x.L 24) u0 0) O.e)])))
def JL:Nat→Env:=eL [(246,A1)]
theorem NE {N ls}:JL N 246 [] ls=A1 N ls:=id rfl
def Az:=oS Q7 Hb JL
def R5:List Nat:=[2,0,0,0,0,0,0,0,1,0,0,0,0,3,0]
def Ik (O:Alg) (x:Ags O):O.M:=let u1:=(lq9 O 1);let u0:=(O.q .i64 (x.I 14) u1);(O.c (O.x (fun s0 c0=>let u2:=(O.f c0 0);(O.b (O.n u2 (O.l (x.L 13))) (O.k (O.r u2 (O.l (x.L 13))) (O.b (O.i (O.t (O.o (x.L 13) u2 0) u0) (O.t u0 (O.o (x.L 13) u2 1)) O.e) (O.a [.int (lq9 O 0),.int (O.o (x.L 13) u2 2)]) (s0 [.int (O.q .i64 u2 u1)]))) (O.a [.int u1]))) [.int (lq9 O 0)]) fun c0=>(O.b (O.aa c0 0) (O.a [.int (O.f c0 1)]) (O.a [.int (x.I 12)])))
def PB:Nat→Env:=eL []
def F3:=oS R5 Ik PB
def VK:List Nat:=[2,0,0,0,0,0,0,0,1,0,0,0,0,3,0,0,0,0,0,0,0,0,0,0,0,0,0,0,3,0,3,3,1,3,1,0,0,0,3,0,0,0]
def Kt (O:Alg) (x:Ags O):O.M:=(O.c (O.g 246 [] (ap O (xr x kI 14) [.int (x.I 36)])) fun c0=>let u0:=(O.h (O.m c0 0));(O.c (O.b (O.h u0) (O.g 247 [] (ap O (xr x kI 14) [.int (x.I 36)])) (O.a [.bool O.e])) fun c1=>(O.b (O.i (O.i u0 O.j (O.m c1 0)) O.j (O.d (x.I 36) (x.I 29))) (O.a [.int (lq9 O 17)]) (O.c (O.g 275 [] (ap O (xr x kR 0) [.int (x.I 24)])) fun c2=>(O.b (O.n (O.f c2 0) (x.I 37)) (O.a [.int (lq9 O 16)]) (O.a [.int (lq9 O 0)]))))))
def Ff:Nat→Env:=eL [(246,A1),(247,Az),(275,F3)]
theorem P1 {N ls}:Ff N 246 [] ls=A1 N ls:=id rfl
theorem Nr {N ls}:Ff N 247 [] ls=Az N ls:=id rfl
theorem OK {N ls}:Ff N 275 [] ls=F3 N ls:=id rfl
def H4:=oS VK Kt Ff
def O8:List Nat:=[]
def PD (O:Alg) (x:Ags O):O.M:=(O.a [.rows (O.ac [[.int (O.lit .u8 0),.str (O.s ⟨#[78,79,84,79,85,84]⟩),.bool O.e,.bool O.e,.bool O.e,.bool O.e,.bool O.e],[.int (O.lit .u8 1),.str (O.s ⟨#[66,79,87,76,69,68]⟩),.bool O.j,.bool O.e,.bool O.e,.bool O.e,.bool O.e],[.int (O.lit .u8 2),.str (O.s ⟨#[67,65,85,71,72,84]⟩),.bool O.j,.bool O.e,.bool O.e,.bool O.j,.bool O.e],[.int (O.lit .u8 3),.str (O.s ⟨#[76,66,87]⟩),.bool O.j,.bool O.e,.bool O.e,.bool O.e,.bool O.e],[.int (O.lit .u8 4),.str (O.s ⟨#[83,84,85,77,80,69,68]⟩),.bool O.j,.bool O.j,.bool O.e,.bool O.j,.bool O.e],[.int (O.lit .u8 5),.str (O.s ⟨#[72,73,84,87,73,67,75,69,84]⟩),.bool O.j,.bool O.j,.bool O.e,.bool O.e,.bool O.e],[.int (O.lit .u8 6),.str (O.s ⟨#[82,85,78,79,85,84]⟩),.bool O.j,.bool O.j,.bool O.j,.bool O.j,.bool O.j],[.int (O.lit .u8 7),.str (O.s ⟨#[72,73,84,84,87,73,67,69]⟩),.bool O.j,.bool O.e,.bool O.j,.bool O.e,.bool O.e],[.int (O.lit .u8 8),.str (O.s ⟨#[79,66,83,84,82,85,67,84,73,78,71]⟩),.bool O.j,.bool O.j,.bool O.j,.bool O.e,.bool O.j],[.int (O.lit .u8 9),.str (O.s ⟨#[84,73,77,69,68,79,85,84]⟩),.bool O.e,.bool O.e,.bool O.e,.bool O.e,.bool O.e],[.int (O.lit .u8 10),.str (O.s ⟨#[82,69,84,73,82,69,68]⟩),.bool O.e,.bool O.e,.bool O.e,.bool O.e,.bool O.e]])])
def VM:Nat→Env:=eL []
def Bk:=oS O8 PD VM
def Su:List Nat:=[0]
def Jo (O:Alg) (x:Ags O):O.M:=(O.c (O.g 99 [] []) fun c0=>let u2:=(O.p c0 0);let u0:=(O.l u2);(O.c (O.x (fun s1 c1=>let u1:=(O.f c1 0);(O.b (O.n u1 u0) (O.k (O.r u1 u0) (O.b (O.d (O.o u2 u1 0) (x.I 0)) (O.a (ap O [.int (lq9 O 0)] (rr O u2 u1 [0,2,1,1,1,1,1] 0))) (s1 [.int (O.q .i64 u1 (lq9 O 1))]))) (O.a [.int (lq9 O 1)]))) [.int (lq9 O 0)]) fun c1=>(O.b (O.aa c1 0) (O.a (cr O c1 [0,2,1,1,1,1,1] 1)) (O.a [.int (O.lit .u8 0),.str (O.s ⟨#[]⟩),.bool O.e,.bool O.e,.bool O.e,.bool O.e,.bool O.e]))))
def LM:Nat→Env:=eL [(99,Bk)]
theorem MX {N ls}:LM N 99 [] ls=Bk N ls:=id rfl
def DZ:=oS Su Jo LM
def OW:List Nat:=[3,0]
def Fy (O:Alg) (x:Ags O):O.M:=(O.c (O.x (fun s0 c0=>let u0:=(O.f c0 0);(O.b (O.n u0 (O.l (x.L 0))) (O.k (O.r u0 (O.l (x.L 0))) (O.b (O.d (x.I 1) (O.o (x.L 0) u0 0)) (O.a [.int (lq9 O 0),.int u0]) (s0 [.int (O.q .i64 u0 (lq9 O 1))]))) (O.a [.int (lq9 O 1)]))) [.int (lq9 O 0)]) fun c0=>(O.b (O.aa c0 0) (O.a [.int (O.f c0 1)]) (O.a [.int (lq9 O (-1))])))
def L3:Nat→Env:=eL []
def Dk:=oS OW Fy L3
def Ld:List Nat:=[3,0]
def D7 (O:Alg) (x:Ags O):O.M:=(O.c (O.g 279 [] [.rows (x.L 0),.int (x.I 1)]) fun c0=>(O.a [.bool (O.t (lq9 O 0) (O.f c0 0))]))
def FQ:Nat→Env:=eL [(279,Dk)]
theorem IL {N ls}:FQ N 279 [] ls=Dk N ls:=id rfl
def Cv:=oS Ld D7 FQ
def OE:List Nat:=[0,2,1,1,1,1,1,0]
def F1 (O:Alg) (x:Ags O):O.M:=(O.a [.bool (O.i (O.i (O.i (O.d (x.I 7) (O.lit .u8 1)) (x.B 2) O.e) O.j (O.i (O.d (x.I 7) (O.lit .u8 2)) (x.B 3) O.e)) O.j (O.i (O.d (x.I 7) (O.lit .u8 3)) (x.B 4) O.e))])
def Md:Nat→Env:=eL []
def Dx:=oS OE F1 Md
def QX:List Nat:=[0,1]
def Hh (O:Alg) (x:Ags O):O.M:=(O.c (O.g 99 [] []) fun c0=>let u5:=(O.p c0 0);let u3:=(O.l u5);(O.c (O.x (fun s1 c1=>let u6:=(O.p c1 0);let u4:=(O.f c1 1);let u2:=(O.o u5 u4 0);let u1:=(O.q .i64 u4 (lq9 O 1));let u0:=(O.ad u6 (O.ac [[.int u2]]));(O.b (O.n u4 u3) (O.k (O.r u4 u3) (O.c (O.g 280 [] (ap O (rr O u5 u4 [0,2,1,1,1,1,1] 0) [.int (x.I 0)])) fun c2=>(O.b (O.i (O.m c2 0) (O.i (O.i (O.i (O.h (x.B 1)) O.j (O.d u2 (O.lit .u8 6))) O.j (O.d u2 (O.lit .u8 7))) O.j (O.d u2 (O.lit .u8 8))) O.e) (O.k (O.u (O.l u0) 1) (s1 [.rows u0,.int u1])) (s1 [.rows u6,.int u1])))) (O.a [.rows u6]))) [.rows O.y,.int (lq9 O 0)]) fun c1=>(O.a [.rows (O.p c1 0)])))
def Fg:Nat→Env:=eL [(99,Bk),(280,Dx)]
theorem LO {N ls}:Fg N 99 [] ls=Bk N ls:=id rfl
theorem KK {N ls}:Fg N 280 [] ls=Dx N ls:=id rfl
def Er:=oS QX Hh Fg
def KZ:List Nat:=[0]
def Df (O:Alg) (x:Ags O):O.M:=(O.a [.bool (O.i (O.t (lq9 O 1) (x.I 0)) (O.t (x.I 0) (lq9 O 11)) O.e)])
def Ix:Nat→Env:=eL []
def Cc:=oS KZ Df Ix
def Mm:List Nat:=[0,0,0,0,0,1,0,0,0,0,1,0,0,2,1,1,1,1,1]
def Ee (O:Alg) (x:Ags O):O.M:=let u0:=(O.d (x.I 9) (lq9 O 0));(O.c (O.g 281 [] [.int (x.I 8)]) fun c0=>(O.b (O.i (O.h (O.ai (x.B 17) (O.m c0 0))) O.j (O.i (O.h (x.B 17)) (O.h (O.d (x.I 8) (lq9 O 0))) O.e)) (O.a [.bool O.e]) (O.c (O.b (O.w (O.h u0) (O.d (x.I 6) (O.lit .u8 6))) (O.g 281 [] [.int (x.I 9)]) (O.a [.bool O.e])) fun c1=>(O.a [.bool (O.i u0 O.j (O.i (O.i (O.d (x.I 6) (O.lit .u8 6)) (O.m c1 0) O.e) (O.h (O.d (x.I 9) (x.I 8))) O.e))]))))
def GJ:Nat→Env:=eL [(281,Cc)]
theorem HD {N ls}:GJ N 281 [] ls=Cc N ls:=id rfl
def C1:=oS Mm Ee GJ
def MB:List Nat:=[0,0,0,0,0,1,0,0,0,0,1,0,1]
def Ea (O:Alg) (x:Ags O):O.M:=let u0:=(lq9 O 0);(O.b (O.d (x.I 6) (O.lit .u8 0)) (O.b (O.h (O.d (x.I 7) u0)) (O.a [.int (lq9 O 14)]) (O.b (O.i (O.i (O.h (O.d (x.I 8) u0)) O.j (O.h (O.d (x.I 9) u0))) O.j (x.B 10)) (O.a [.int (lq9 O 15)]) (O.a [.int u0]))) (O.c (O.g 75 [] [.int (x.I 6)]) fun c0=>(O.c (O.g 277 [] [.int (x.I 0),.bool (x.B 12)]) fun c1=>(O.c (O.g 276 [] [.rows (O.p c1 0),.int (x.I 6)]) fun c2=>(O.b (O.h (O.m c2 0)) (O.a [.int (lq9 O 13)]) (O.b (O.i (O.h (O.i (O.d (x.I 6) (O.lit .u8 6)) O.j (O.d (x.I 6) (O.lit .u8 8)))) (O.i (O.h (O.d (x.I 1) (O.lit .u8 0))) O.j (O.h (O.d (x.I 2) u0))) O.e) (O.a [.int (lq9 O 12)]) (O.b (O.i (O.h (O.d (x.I 7) (lq9 O 1))) (O.i (O.h (O.d (x.I 7) (lq9 O 2))) O.j (O.h (O.m c0 6))) O.e) (O.a [.int (lq9 O 14)]) (O.c (O.g 278 [] (ap O (xr x [0,0,0,0,0,1,0,0,0,0,1,0] 0) (cr O c0 [0,2,1,1,1,1,1] 0))) fun c3=>(O.b (O.h (O.m c3 0)) (O.a [.int (lq9 O 15)]) (O.b (O.i (O.i (x.B 10) (O.h (O.d (x.I 6) (O.lit .u8 2))) O.e) (O.h (O.d (x.I 6) (O.lit .u8 6))) O.e) (O.a [.int (lq9 O 18)]) (O.a [.int u0])))))))))))
def B4:Nat→Env:=eL [(75,DZ),(276,Cv),(277,Er),(278,C1)]
theorem KP {N ls}:B4 N 75 [] ls=DZ N ls:=id rfl
theorem HZ {N ls}:B4 N 276 [] ls=Cv N ls:=id rfl
theorem Jd {N ls}:B4 N 277 [] ls=Er N ls:=id rfl
theorem Hr {N ls}:B4 N 278 [] ls=C1 N ls:=id rfl
def C4:=oS MB Ea B4
def Uy:List Nat:=[0,0,0,0,0,0,0,0,0,0,0,0,0,0,3,0,3,3,1,3,1,0,0,0,3,0,0,0,0,0,0,0,0,1,0,0,0,0,1,0]
def Kg (O:Alg) (x:Ags O):O.M:=let u1:=(lq9 O 1);let u0:=(lq9 O 0);(O.c (O.b (O.n u0 (x.I 36)) (O.c (O.g 246 [] (ap O (xr x kI 0) [.int (x.I 36)])) fun c0=>(O.b (O.h (O.m c0 0)) (O.a [.int u1,.int (lq9 O 3)]) (O.c (O.g 247 [] (ap O (xr x kI 0) [.int (x.I 36)])) fun c1=>(O.b (O.h (O.ai (x.B 38) (O.m c1 0))) (O.a [.int u1,.int (lq9 O 18)]) (O.a [.int u0]))))) (O.a [.int u0])) fun c0=>(O.b (O.aa c0 0) (O.c (O.b (O.n u0 (x.I 37)) (O.c (O.g 246 [] (ap O (xr x kI 0) [.int (x.I 37)])) fun c1=>(O.b (O.h (O.m c1 0)) (O.a [.int u1,.int (lq9 O 3)]) (O.c (O.g 247 [] (ap O (xr x kI 0) [.int (x.I 37)])) fun c2=>(O.b (O.m c2 0) (O.a [.int u1,.int (lq9 O 18)]) (O.a [.int u0]))))) (O.a [.int u0])) fun c1=>(O.b (O.aa c1 0) (O.b (O.i (O.d (x.I 34) (O.lit .u8 4)) (O.h (O.d (O.ah (O.n (x.I 36) u0) u0 (x.I 36)) (x.I 22))) O.e) (O.a [.int (lq9 O 17)]) (O.a [.int u0])) (O.a [.int (O.f c1 1)]))) (O.a [.int (O.f c0 1)])))
def Il:Nat→Env:=eL [(246,A1),(247,Az)]
theorem Ph {N ls}:Il N 246 [] ls=A1 N ls:=id rfl
theorem NX {N ls}:Il N 247 [] ls=Az N ls:=id rfl
def Hv:=oS Uy Kg Il
def PQ:List Nat:=[2,0,0,0,0,0,0,0,1,0,0,0,0,3,0,0,0,0,0,0,0,0,0,0,0,0,0,0,3,0,3,3,1,3,1,0,0,0,3,0,0,0,0,0,0,0,0,1,0,0,0,0,1,0]
def GS (O:Alg) (x:Ags O):O.M:=let u3:=(lq9 O 0);(O.c (O.g 217 [] (xr x kI 14)) fun c0=>(O.b (O.m c0 0) (O.a [.int (lq9 O 6)]) (O.b (O.d (x.I 29) u3) (O.a [.int (lq9 O 7)]) (O.c (O.g 265 [] (xr x [2,0,0,0,0,0,0,0,1,0,0,0,0,3,0,0,0,0,0,0,0,0,0,0,0,0,0,0,3,0,3,3,1,3,1,0,0,0,3,0,0,0] 0)) fun c1=>(O.c (O.g 87 [] (xr x [0,0,0,0,0,1,0,0,0,0,1,0] 42)) fun c2=>(O.c (O.g 266 [] (ap O (xr x [0,0,0,0,0,1,0,0,0,0,1,0] 42) [.bool (x.B 34)])) fun c3=>(O.c (O.g 267 [] (xr x [0,0,0,0,0,0,0,0,0,0,0,0,0,0,3,0,3,3,1,3,1,0,0,0,3,0,0,0,0,0,0,0,0,1,0,0,0,0,1,0] 14)) fun c4=>let u2:=(O.ac [[.int (O.f c1 0)],[.int (O.f c2 0)],[.int (O.f c3 0)],[.int (O.f c4 0)]]);let u1:=(O.l u2);(O.c (O.x (fun s5 c5=>let u4:=(O.f c5 0);let u0:=(O.o u2 u4 0);(O.b (O.n u4 u1) (O.k (O.r u4 u1) (O.b (O.h (O.d u0 u3)) (O.a [.int u3,.int u0]) (s5 [.int (O.q .i64 u4 (lq9 O 1))]))) (O.a [.int (lq9 O 1)]))) [.int u3]) fun c5=>(O.b (O.aa c5 0) (O.a [.int (O.f c5 1)]) (O.a [.int u3]))))))))))
def CA:Nat→Env:=eL [(87,CM),(217,BM),(265,H4),(266,C4),(267,Hv)]
theorem LH {N ls}:CA N 87 [] ls=CM N ls:=id rfl
theorem Lq {N ls}:CA N 217 [] ls=BM N ls:=id rfl
theorem M0 {N ls}:CA N 265 [] ls=H4 N ls:=id rfl
theorem Iz {N ls}:CA N 266 [] ls=C4 N ls:=id rfl
theorem Mw {N ls}:CA N 267 [] ls=Hv N ls:=id rfl
def EV:=oS PQ GS CA
def Vl:List Nat:=[0,0,0,0,0,0,0,0,0,0,0,0,0,0,3,0,3,3,1,3,1,0,0,0,3,0,0,0,0,0,0,0,0,1,0,0,0,0,1,0]
def Mf (O:Alg) (x:Ags O):O.M:=let u5:=(lq9 O 2);let u4:=(lq9 O 1);let u3:=(lq9 O 0);let u1:=(O.h (O.d (O.aq .i64 (x.I 30) u5) u3));(O.c (O.g 234 [] (xr x kI 0)) fun c0=>(O.c (O.b (O.h (O.d (x.I 34) (O.lit .u8 0))) (O.b (O.i (O.d (x.I 35) u4) (O.h (O.d (x.I 12) u3)) O.e) (O.a [.int u4,.int (x.I 12)]) (O.b (O.i (O.d (x.I 35) u5) (O.h (O.d (x.I 13) u3)) O.e) (O.a [.int u5,.int (x.I 13)]) (O.a [.int u3,.int u3]))) (O.a [.int u3,.int u3])) fun c1=>let u7:=(O.f c1 1);let u2:=(O.v .i64 u7 u4);(O.c (O.b (x.B 33) (O.a [.bool (O.h u1)]) (O.a [.bool u1])) fun c2=>(O.c (O.b (O.m c2 0) (O.a (ap O (cr O c0 [0,0,0,0,0,0,0,0,0,0,0,0] 0) (ap O [.int (O.f c0 13),.int (O.f c0 12)] (cr O c0 [3,0,3,3,1,3,1,0,0,0,3,0,0,0] 14)))) (O.a (cr O c0 kI 0))) fun c3=>let u6:=(O.p c3 14);let u0:=(O.r u2 (O.l u6));(O.b (O.d (O.f c1 0) u3) (O.a (cr O c3 kI 0)) (O.b (O.h (O.ai (O.d (O.f c1 0) u4) (O.m c2 0))) (O.c (O.g 236 [] (ap O (cr O c3 [0,0,0,0,0,0,0,0,0,0,0,0] 0) (ap O [.int u3] (ap O (cr O c3 [0,3,0,3,3,1,3,1,0,0,0,3,0,0,0] 13) [.int u7])))) fun c4=>(O.c (O.b (O.m c4 0) (O.k u0 (O.a (ap O (cr O c3 [0,0,0,0,0,0,0,0,0,0,0,0] 0) (ap O [.int u3,.int (O.f c3 13),.rows (O.ab u6 u2 0 [.int (O.lit .u8 2)])] (cr O c3 [0,3,3,1,3,1,0,0,0,3,0,0,0] 15))))) (O.a (ap O (cr O c3 [0,0,0,0,0,0,0,0,0,0,0,0] 0) (ap O [.int u3] (cr O c3 [0,3,0,3,3,1,3,1,0,0,0,3,0,0,0] 13))))) fun c5=>(O.a (ap O (cr O c5 [0,0,0,0] 0) (ap O [.int (O.q .i64 (O.f c5 4) u4)] (cr O c5 [0,0,0,0,0,0,0,0,0,3,0,3,3,1,3,1,0,0,0,3,0,0,0] 5)))))) (O.c (O.g 236 [] (ap O (cr O c3 [0,0,0,0,0,0,0,0,0,0,0,0,0] 0) (ap O [.int u3] (ap O (cr O c3 [3,0,3,3,1,3,1,0,0,0,3,0,0,0] 14) [.int u7])))) fun c4=>(O.c (O.b (O.m c4 0) (O.k u0 (O.a (ap O (cr O c3 [0,0,0,0,0,0,0,0,0,0,0,0,0] 0) (ap O [.int u3,.rows (O.ab u6 u2 0 [.int (O.lit .u8 2)])] (cr O c3 [0,3,3,1,3,1,0,0,0,3,0,0,0] 15))))) (O.a (ap O (cr O c3 [0,0,0,0,0,0,0,0,0,0,0,0,0] 0) (ap O [.int u3] (cr O c3 [3,0,3,3,1,3,1,0,0,0,3,0,0,0] 14))))) fun c5=>(O.a (ap O (cr O c5 [0,0,0,0] 0) (ap O [.int (O.q .i64 (O.f c5 4) u4)] (cr O c5 [0,0,0,0,0,0,0,0,0,3,0,3,3,1,3,1,0,0,0,3,0,0,0] 5))))))))))))
def Jn:Nat→Env:=eL [(234,Ax),(236,Av)]
theorem RN {N ls}:Jn N 234 [] ls=Ax N ls:=id rfl
theorem Pg {N ls}:Jn N 236 [] ls=Av N ls:=id rfl
def JW:=oS Vl Mf Jn
def Vv:List Nat:=[2,0,0,0,0,0,0,0,1,0,0,0,0,3,0,0,0,0,0,0,0,0,0,0,0,0,0,0,3,0,3,3,1,3,1,0,0,0,3,0,0,0,1]
def ML (O:Alg) (x:Ags O):O.M:=let u5:=(lq9 O 0);let u4:=(lq9 O 1);let u2:=(O.v .i64 (x.I 29) u4);(O.c (O.g 237 [] (xr x kI 14)) fun c0=>let u1:=(O.ad (O.p c0 16) (O.ac [[.int (x.I 29)]]));(O.c (O.g 263 [] (ap O (xr x kI 14) [.int (x.I 29)])) fun c1=>let u3:=(O.h (O.m c1 0));(O.c (O.b (O.h u3) (O.g 61 [] (xr x kR 0)) (O.a [.int u5])) fun c2=>(O.b (O.i u3 O.j (O.h (O.d (O.f c2 0) u5))) (O.a (ap O (cr O c0 kI 0) [.bool O.e])) (O.c (O.g 184 [] [.rows (O.p c0 16),.int (x.I 29)]) fun c3=>(O.c (O.b (O.h (O.m c3 0)) (O.k (O.u (O.l u1) 8) (O.a (ap O (cr O c0 [0,0,0,0,0,0,0,0,0,0,0,0,0,0,3,0] 0) (ap O [.rows u1] (cr O c0 [3,1,3,1,0,0,0,3,0,0,0] 17))))) (O.a (cr O c0 kI 0))) fun c4=>let u6:=(O.p c4 19);let u0:=(O.r u2 (O.l u6));(O.c (O.b (x.B 42) (O.k u0 (O.k u0 (O.a (ap O (cr O c4 [0,0,0,0,0,0,0,0,0,0,0] 0) (ap O [.int (O.q .i64 (O.f c4 11) u4)] (ap O (cr O c4 [0,0,3,0,3,3,1] 12) (ap O [.rows (O.ab u6 u2 0 [.int (O.q .i64 (O.o u6 u2 0) u4)]),.bool (O.m c4 20),.int (O.q .i64 (O.f c4 21) u4)] (cr O c4 [0,0,3,0,0,0] 22)))))))) (O.a (cr O c4 kI 0))) fun c5=>(O.b (O.n (O.f c5 11) (x.I 4)) (O.a (ap O (cr O c5 kI 0) [.bool O.e])) (O.a (ap O (cr O c5 [0,0,0,0,0,0,0,0,0,0] 0) (ap O [.int (O.q .i64 (O.f c5 10) u4),.int u5] (ap O (cr O c5 [0,0,3] 12) (ap O [.int u5,.rows O.y,.rows (O.p c5 16)] (ap O (cr O c5 [1,3,1,0,0,0,3,0,0,0] 18) [.bool O.j]))))))))))))))
def Em:Nat→Env:=eL [(61,AW),(184,Aq),(237,Ci),(263,Bw)]
theorem Qu {N ls}:Em N 61 [] ls=AW N ls:=id rfl
theorem LG {N ls}:Em N 184 [] ls=Aq N ls:=id rfl
theorem Sg {N ls}:Em N 237 [] ls=Ci N ls:=id rfl
theorem Qy {N ls}:Em N 263 [] ls=Bw N ls:=id rfl
def JK:=oS Vv ML Em
def Re:List Nat:=[0,0,0,0,0,0,0,0,0,0,0,0,0,0,3,0,3,3,1,3,1,0,0,0,3,0,0,0]
def Ir (O:Alg) (x:Ags O):O.M:=(O.c (O.g 234 [] (xr x kI 0)) fun c0=>(O.a (ap O (cr O c0 [0,0,0,0,0,0,0,0,0,0,0,0] 0) (ap O [.int (x.I 13),.int (x.I 12)] (cr O c0 [3,0,3,3,1,3,1,0,0,0,3,0,0,0] 14)))))
def KA:Nat→Env:=eL [(234,Ax)]
theorem O3 {N ls}:KA N 234 [] ls=Ax N ls:=id rfl
def Fp:=oS Re Ir KA
def Ta:List Nat:=[2,0,0,0,0,0,0,0,1,0,0,0,0,3,0,0,0,0,0,0,0,0,0,0,0,0,0,0,3,0,3,3,1,3,1,0,0,0,3,0,0,0,0,0,0,0,0,1,0,0,0,0,1,0]
def Jl (O:Alg) (x:Ags O):O.M:=let u0:=(lq9 O 0);(O.c (O.g 239 [] (xr x [2,0,0,0,0,0,0,0,1,0,0,0,0,3,0,0,0,0,0,0,0,0,0,0,0,0,0,0,3,0,3,3,1,3,1,0,0,0,3,0,0,0,0,0,0,0,0,1,0,0,0,0,1,0] 0)) fun c0=>(O.b (O.h (O.d (O.f c0 0) u0)) (O.c (O.g 134 [] (xr x kI 14)) fun c1=>(O.a (ap O (cr O c1 kI 0) [.int (O.f c0 0)]))) (O.c (O.g 57 [] (ap O (xr x kR 0) (xr x [0,0,0,0,0,1,0,0,0,0,1,0] 42))) fun c1=>(O.c (O.g 240 [] (xr x [0,0,0,0,0,0,0,0,0,0,0,0,0,0,3,0,3,3,1,3,1,0,0,0,3,0,0,0,0,0,0,0,0,1,0,0,0,0,1,0] 14)) fun c2=>(O.c (O.g 58 [] (cr O c1 [0,0,0,0,0,0,1,1,1,1] 0)) fun c3=>(O.c (O.g 241 [] (ap O (xr x kR 0) (ap O (cr O c2 [0,0,0] 0) (ap O [.int (O.q .i64 (O.f c2 3) (O.f c3 0)),.int (O.f c2 4),.int (O.q .i64 (O.f c2 5) (O.f c1 1)),.int (O.q .i64 (O.f c2 6) (O.f c1 2)),.int (O.q .i64 (O.f c2 7) (O.f c1 3)),.int (O.q .i64 (O.f c2 8) (O.f c1 4))] (ap O (cr O c2 [0,0,0,0,0,3,0,3,3,1,3,1,0,0,0,3,0,0,0] 9) [.bool (O.m c1 6)]))))) fun c4=>(O.c (O.b (O.m c4 28) (O.c (O.g 242 [] (cr O c4 kI 0)) fun c5=>(O.a (cr O c5 kI 0))) (O.a (cr O c4 kI 0))) fun c5=>(O.b (O.d (x.I 42) (O.lit .u8 1)) (O.a (ap O (cr O c5 [0,0,0,0,0,0,0,0,0,0,0,0,0,0,3,0,3,3,1,3] 0) (ap O [.bool O.e] (ap O (cr O c5 [0,0,0,3,0,0,0] 21) [.int u0])))) (O.b (O.i (O.d (x.I 42) (O.lit .u8 3)) (x.B 8) O.e) (O.a (ap O (cr O c5 [0,0,0,0,0,0,0,0,0,0,0,0,0,0,3,0,3,3,1,3] 0) (ap O [.bool O.j] (ap O (cr O c5 [0,0,0,3,0,0,0] 21) [.int u0])))) (O.a (ap O (cr O c5 kI 0) [.int u0])))))))))))
def Bs:Nat→Env:=eL [(57,B7),(58,Et),(134,AU),(239,EV),(240,JW),(241,JK),(242,Fp)]
theorem MW {N ls}:Bs N 57 [] ls=B7 N ls:=id rfl
theorem Mx {N ls}:Bs N 58 [] ls=Et N ls:=id rfl
theorem NN {N ls}:Bs N 134 [] ls=AU N ls:=id rfl
theorem Mg {N ls}:Bs N 239 [] ls=EV N ls:=id rfl
theorem Pm {N ls}:Bs N 240 [] ls=JW N ls:=id rfl
theorem Pq {N ls}:Bs N 241 [] ls=JK N ls:=id rfl
theorem Nl {N ls}:Bs N 242 [] ls=Fp N ls:=id rfl
def Gn:=oS Ta Jl Bs
def Vu:List Nat:=[0,0,0,0,0,0,0,0,0,0,0,0,0,0,3,0,3,3,1,3,1,0,0,0,3,0,0,0,0]
def L7 (O:Alg) (x:Ags O):O.M:=let u2:=(O.v .i64 (x.I 28) (lq9 O 1));let u1:=(O.o (x.L 14) u2 0);let u0:=(O.r u2 (O.l (x.L 14)));(O.c (O.g 236 [] (xr x [0,0,0,0,0,0,0,0,0,0,0,0,0,0,3,0,3,3,1,3,1,0,0,0,3,0,0,0,0] 0)) fun c0=>(O.b (O.h (O.m c0 0)) (O.a [.int (lq9 O 3)]) (O.c (O.g 217 [] (xr x kI 0)) fun c1=>let u3:=(O.h (O.m c1 0));(O.k (O.h (O.w (O.h u3) (O.h u0))) (O.b (O.i u3 O.j (O.d u1 (O.lit .u8 1))) (O.a [.int (lq9 O 4)]) (O.k u0 (O.b (O.d u1 (O.lit .u8 2)) (O.a [.int (lq9 O 5)]) (O.a [.int (lq9 O 0)]))))))))
def Jm:Nat→Env:=eL [(217,BM),(236,Av)]
theorem Og {N ls}:Jm N 217 [] ls=BM N ls:=id rfl
theorem Pz {N ls}:Jm N 236 [] ls=Av N ls:=id rfl
def Dn:=oS Vu L7 Jm
def Qv:List Nat:=[0,0,0,0,0,0,0,0,0,0,0,0,0,0,3,0,3,3,1,3,1,0,0,0,3,0,0,0,0]
def Hj (O:Alg) (x:Ags O):O.M:=let u0:=(O.v .i64 (x.I 28) (lq9 O 1));(O.c (O.g 234 [] (xr x kI 0)) fun c0=>(O.c (O.g 243 [] (xr x [0,0,0,0,0,0,0,0,0,0,0,0,0,0,3,0,3,3,1,3,1,0,0,0,3,0,0,0,0] 0)) fun c1=>(O.b (O.h (O.d (O.f c1 0) (lq9 O 0))) (O.a (ap O (cr O c0 kI 0) [.int (O.f c1 0)])) (O.c (O.g 236 [] (ap O (cr O c0 kI 0) [.int (x.I 28)])) fun c2=>(O.c (O.b (O.m c2 0) (O.k (O.r u0 (O.l (O.p c0 14))) (O.a (ap O (cr O c0 [0,0,0,0,0,0,0,0,0,0,0,0,0,0] 0) (ap O [.rows (O.ab (O.p c0 14) u0 0 [.int (O.lit .u8 2)])] (cr O c0 [0,3,3,1,3,1,0,0,0,3,0,0,0] 15))))) (O.a (cr O c0 kI 0))) fun c3=>(O.a (ap O (cr O c3 [0,0,0,0] 0) (ap O [.int (O.q .i64 (O.f c3 4) (lq9 O 1))] (ap O (cr O c3 [0,0,0,0,0,0,0,0,0,3,0,3,3,1,3,1,0,0,0,3,0,0,0] 5) [.int (lq9 O 0)])))))))))
def Dh:Nat→Env:=eL [(234,Ax),(236,Av),(243,Dn)]
theorem OQ {N ls}:Dh N 234 [] ls=Ax N ls:=id rfl
theorem My {N ls}:Dh N 236 [] ls=Av N ls:=id rfl
theorem OU {N ls}:Dh N 243 [] ls=Dn N ls:=id rfl
def E9:=oS Qv Hj Dh
def Sr:List Nat:=[0,0,0,0,0,0,0,0,0,0,0,0,0,0,3,0,3,3,1,3,1,0,0,0,3,0,0,0,0]
def JZ (O:Alg) (x:Ags O):O.M:=let u1:=(lq9 O 0);let u0:=(O.v .i64 (x.I 28) (lq9 O 1));(O.c (O.g 234 [] (xr x kI 0)) fun c0=>let u2:=(O.p c0 14);(O.c (O.g 243 [] (xr x [0,0,0,0,0,0,0,0,0,0,0,0,0,0,3,0,3,3,1,3,1,0,0,0,3,0,0,0,0] 0)) fun c1=>(O.b (O.h (O.d (O.f c1 0) u1)) (O.a (ap O (cr O c0 kI 0) [.int (O.f c1 0)])) (O.k (O.r u0 (O.l u2)) (O.b (O.d (O.f c0 12) u1) (O.a (ap O (cr O c0 [0,0,0,0,0,0,0,0,0,0,0,0] 0) (ap O [.int (x.I 28),.int (O.f c0 13),.rows (O.ab u2 u0 0 [.int (O.lit .u8 1)])] (ap O (cr O c0 [0,3,3,1,3,1,0,0,0,3,0,0,0] 15) [.int u1])))) (O.a (ap O (cr O c0 [0,0,0,0,0,0,0,0,0,0,0,0,0] 0) (ap O [.int (x.I 28),.rows (O.ab u2 u0 0 [.int (O.lit .u8 1)])] (ap O (cr O c0 [0,3,3,1,3,1,0,0,0,3,0,0,0] 15) [.int u1])))))))))
def Hg:Nat→Env:=eL [(234,Ax),(243,Dn)]
theorem Pi {N ls}:Hg N 234 [] ls=Ax N ls:=id rfl
theorem Pp {N ls}:Hg N 243 [] ls=Dn N ls:=id rfl
def Gu:=oS Sr JZ Hg
def VC:List Nat:=[0,0,0,0,0,0,0,0,0,0,0,0,0,0,3,0,3,3,1,3,1,0,0,0,3,0,0,0]
def FY (O:Alg) (x:Ags O):O.M:=(O.c (O.x (fun s0 c0=>let u4:=(O.p c0 0);let u3:=(O.f c0 1);let u2:=(O.o (x.L 14) u3 0);let u1:=(O.q .i64 u3 (lq9 O 1));let u0:=(O.ad u4 (O.ac [[.int u1]]));(O.b (O.n u3 (O.l (x.L 14))) (O.k (O.r u3 (O.l (x.L 14))) (O.b (O.i (O.d u2 (O.lit .u8 0)) O.j (O.d u2 (O.lit .u8 3))) (O.k (O.u (O.l u0) 8) (s0 [.rows u0,.int u1])) (s0 [.rows u4,.int u1]))) (O.a [.rows u4]))) [.rows O.y,.int (lq9 O 0)]) fun c0=>(O.a [.rows (O.p c0 0)]))
def Mp:Nat→Env:=eL []
def Cj:=oS VC FY Mp
def SE:List Nat:=[0,0,0,0,0,0,0,0,0,0,0,0,0,0,3,0,3,3,1,3,1,0,0,0,3,0,0,0,0,1]
def Ig (O:Alg) (x:Ags O):O.M:=let u3:=(lq9 O 0);let u2:=(O.d (x.I 28) (x.I 12));let u1:=(O.v .i64 (x.I 28) (lq9 O 1));(O.c (O.g 234 [] (xr x kI 0)) fun c0=>(O.c (O.g 236 [] (xr x [0,0,0,0,0,0,0,0,0,0,0,0,0,0,3,0,3,3,1,3,1,0,0,0,3,0,0,0,0] 0)) fun c1=>(O.b (O.h (O.m c1 0)) (O.a (ap O (cr O c0 kI 0) [.int (lq9 O 3)])) (O.b (O.i (O.d (x.I 12) u3) O.j (O.d (x.I 13) u3)) (O.a (ap O (cr O c0 kI 0) [.int (lq9 O 6)])) (O.b (O.i (O.h u2) (O.h (O.d (x.I 28) (x.I 13))) O.e) (O.a (ap O (cr O c0 kI 0) [.int (lq9 O 4)])) (O.c (O.b (x.B 29) (O.g 218 [] (xr x kI 0)) (O.a [.rows O.y])) fun c2=>(O.b (O.i (x.B 29) (O.d (O.l (O.p c2 0)) u3) O.e) (O.a (ap O (cr O c0 kI 0) [.int (lq9 O 19)])) (O.c (O.b u2 (O.a (ap O (cr O c0 [0,0,0,0,0,0,0,0,0,0,0,0] 0) (ap O [.int u3] (cr O c0 [0,3,0,3,3,1,3,1,0,0,0,3,0,0,0] 13)))) (O.a (ap O (cr O c0 [0,0,0,0,0,0,0,0,0,0,0,0,0] 0) (ap O [.int u3] (cr O c0 [3,0,3,3,1,3,1,0,0,0,3,0,0,0] 14))))) fun c3=>let u4:=(O.p c3 14);let u0:=(O.r u1 (O.l u4));(O.b (x.B 29) (O.k u0 (O.a (ap O (cr O c3 [0,0,0,0,0,0,0,0,0,0,0,0,0,0] 0) (ap O [.rows (O.ab u4 u1 0 [.int (O.lit .u8 3)])] (ap O (cr O c3 [0,3,3,1,3,1,0,0,0,3,0,0,0] 15) [.int u3]))))) (O.c (O.g 236 [] (ap O (cr O c3 kI 0) [.int (x.I 28)])) fun c4=>(O.c (O.b (O.m c4 0) (O.k u0 (O.a (ap O (cr O c3 [0,0,0,0,0,0,0,0,0,0,0,0,0,0] 0) (ap O [.rows (O.ab u4 u1 0 [.int (O.lit .u8 2)])] (cr O c3 [0,3,3,1,3,1,0,0,0,3,0,0,0] 15))))) (O.a (cr O c3 kI 0))) fun c5=>(O.a (ap O (cr O c5 [0,0,0,0] 0) (ap O [.int (O.q .i64 (O.f c5 4) (lq9 O 1))] (ap O (cr O c5 [0,0,0,0,0,0,0,0,0,3,0,3,3,1,3,1,0,0,0,3,0,0,0] 5) [.int u3])))))))))))))))
def EX:Nat→Env:=eL [(218,Cj),(234,Ax),(236,Av)]
theorem OX {N ls}:EX N 218 [] ls=Cj N ls:=id rfl
theorem Ot {N ls}:EX N 234 [] ls=Ax N ls:=id rfl
theorem NJ {N ls}:EX N 236 [] ls=Av N ls:=id rfl
def F2:=oS SE Ig EX
def Xs:List Nat:=[0,0,0,0,0,0,0,0,0,0,0,0,0,0,3,0,3,3,1,3,1,0,0,0,3,0,0,0]
def Ny (O:Alg) (x:Ags O):O.M:=(O.c (O.g 166 [] [.rows (x.L 14)]) fun c0=>(O.c (O.g 167 [] [.rows (x.L 16)]) fun c1=>(O.c (O.g 167 [] [.rows (x.L 17)]) fun c2=>(O.c (O.g 167 [] [.rows (x.L 19)]) fun c3=>(O.c (O.g 168 [] [.rows (x.L 24)]) fun c4=>(O.a (ap O (xr x [0,0,0,0,0,0,0,0,0,0,0,0,0,0] 0) (ap O [.rows (O.p c0 0),.int (x.I 15),.rows (O.p c1 0),.rows (O.p c2 0),.bool (x.B 18),.rows (O.p c3 0)] (ap O (xr x [1,0,0,0] 20) (ap O [.rows (O.p c4 0)] (xr x [0,0,0] 25)))))))))))
def H2:Nat→Env:=eL [(166,Aa),(167,Ah),(168,Ac)]
theorem Ls {N ls}:H2 N 166 [] ls=Aa N ls:=id rfl
theorem Nh {N ls}:H2 N 167 [] ls=Ah N ls:=id rfl
theorem Mz {N ls}:H2 N 168 [] ls=Ac N ls:=id rfl
def Ce:=oS Xs Ny H2
def SL:List Nat:=[0,0,0,0,0,0,0,0,0,0,0,0,0,0,3,0,3,3,1,3,1,0,0,0,3,0,0,0,0]
def IU (O:Alg) (x:Ags O):O.M:=(O.c (O.g 245 [] (xr x kI 0)) fun c0=>(O.b (O.i (O.n (x.I 28) (lq9 O 0)) O.j (O.n (O.v .i64 (O.l (x.L 24)) (lq9 O 2)) (x.I 28))) (O.a (ap O (cr O c0 kI 0) [.int (lq9 O 16)])) (O.a (ap O (cr O c0 [0,0,0,0,0,0,0,0,0,0,0,0,0,0,3,0,3,3,1,3,1,0,0] 0) (ap O [.int (x.I 28)] (ap O (cr O c0 [3,0,0,0] 24) [.int (lq9 O 0)]))))))
def KC:Nat→Env:=eL [(245,Ce)]
theorem Pr {N ls}:KC N 245 [] ls=Ce N ls:=id rfl
def Fq:=oS SL IU KC
def TO:List Nat:=[0,0,0,0,0,0,0,0,0,0,0,0,0,0,3,0,3,3,1,3,1,0,0,0,3,0,0,0,0]
def Jp (O:Alg) (x:Ags O):O.M:=(O.c (O.g 245 [] (xr x kI 0)) fun c0=>(O.c (O.g 246 [] (xr x [0,0,0,0,0,0,0,0,0,0,0,0,0,0,3,0,3,3,1,3,1,0,0,0,3,0,0,0,0] 0)) fun c1=>(O.b (O.h (O.m c1 0)) (O.a (ap O (cr O c0 kI 0) [.int (lq9 O 3)])) (O.c (O.g 247 [] (xr x [0,0,0,0,0,0,0,0,0,0,0,0,0,0,3,0,3,3,1,3,1,0,0,0,3,0,0,0,0] 0)) fun c2=>(O.b (O.m c2 0) (O.a (ap O (cr O c0 kI 0) [.int (lq9 O 18)])) (O.b (O.i (O.d (x.I 28) (x.I 15)) O.j (O.d (x.I 28) (x.I 22))) (O.a (ap O (cr O c0 kI 0) [.int (lq9 O 17)])) (O.a (ap O (cr O c0 [0,0,0,0,0,0,0,0,0,0,0,0,0,0,3,0,3,3,1,3,1,0] 0) (ap O [.int (x.I 28)] (ap O (cr O c0 [0,3,0,0,0] 23) [.int (lq9 O 0)]))))))))))
def Ey:Nat→Env:=eL [(245,Ce),(246,A1),(247,Az)]
theorem QO {N ls}:Ey N 245 [] ls=Ce N ls:=id rfl
theorem Ol {N ls}:Ey N 246 [] ls=A1 N ls:=id rfl
theorem Mu {N ls}:Ey N 247 [] ls=Az N ls:=id rfl
def G0:=oS TO Jp Ey
def N8:List Nat:=[0,0,0,0,0,0,0,0,0,0,0,0,0,0,3,0,3,3,1,3,1,0,0,0,3,0,0,0,0,1]
def Fl (O:Alg) (x:Ags O):O.M:=let u2:=(lq9 O 0);let u1:=(O.v .i64 (x.I 28) (lq9 O 1));(O.c (O.g 245 [] (xr x kI 0)) fun c0=>let u0:=(O.ab (O.p c0 24) u1 0 [.bool (x.B 29)]);(O.c (O.g 246 [] (xr x [0,0,0,0,0,0,0,0,0,0,0,0,0,0,3,0,3,3,1,3,1,0,0,0,3,0,0,0,0] 0)) fun c1=>(O.b (O.h (O.m c1 0)) (O.a (ap O (cr O c0 kI 0) [.int (lq9 O 3)])) (O.c (O.g 247 [] (xr x [0,0,0,0,0,0,0,0,0,0,0,0,0,0,3,0,3,3,1,3,1,0,0,0,3,0,0,0,0] 0)) fun c2=>(O.b (O.ai (O.m c2 0) (x.B 29)) (O.a (ap O (cr O c0 kI 0) [.int (lq9 O 18)])) (O.k (O.r u1 (O.l (O.p c0 24))) (O.c (O.b (O.i (x.B 29) (O.d (O.f c0 22) (x.I 28)) O.e) (O.a (ap O (cr O c0 [0,0,0,0,0,0,0,0,0,0,0,0,0,0,3,0,3,3,1,3,1,0] 0) (ap O [.int u2,.int (O.f c0 23),.rows u0] (cr O c0 [0,0,0] 25)))) (O.a (ap O (cr O c0 [0,0,0,0,0,0,0,0,0,0,0,0,0,0,3,0,3,3,1,3,1,0,0,0] 0) (ap O [.rows u0] (cr O c0 [0,0,0] 25))))) fun c3=>(O.b (O.i (x.B 29) (O.d (O.f c3 15) (x.I 28)) O.e) (O.a (ap O (cr O c3 [0,0,0,0,0,0,0,0,0,0,0,0,0,0,3] 0) (ap O [.int u2] (ap O (cr O c3 [3,3,1,3,1,0,0,0,3,0,0,0] 16) [.int u2])))) (O.a (ap O (cr O c3 kI 0) [.int u2]))))))))))
def C5:Nat→Env:=eL [(245,Ce),(246,A1),(247,Az)]
theorem Na {N ls}:C5 N 245 [] ls=Ce N ls:=id rfl
theorem Mo {N ls}:C5 N 246 [] ls=A1 N ls:=id rfl
theorem KU {N ls}:C5 N 247 [] ls=Az N ls:=id rfl
def Dw:=oS N8 Fl C5
def Ri:List Nat:=[2,0,0,0,0,0,0,0,1,0,0,0,0,3,0,0,0,0,0,0,0,0,0,0,0,0,0,0,3,0,3,3,1,3,1,0,0,0,3,0,0,0]
def Ic (O:Alg) (x:Ags O):O.M:=let u0:=(lq9 O 0);(O.c (O.g 237 [] (xr x kI 14)) fun c0=>(O.c (O.g 61 [] (xr x kR 0)) fun c1=>(O.b (O.i (O.i (O.h (O.d (O.f c1 0) u0)) O.j (O.d (x.I 9) u0)) O.j (O.n (x.I 35) (O.aj .i64 (x.I 9) (x.I 4)))) (O.a (ap O (cr O c0 kI 0) [.int (lq9 O 22)])) (O.a (ap O (cr O c0 [0,0,0,0,0,0,0,0,0,0,0,0,0,0,3,0,3,3,1,3,1] 0) (ap O [.int u0] (ap O (cr O c0 [0,0,3,0,0,0] 22) [.int u0])))))))
def GR:Nat→Env:=eL [(61,AW),(237,Ci)]
theorem N9 {N ls}:GR N 61 [] ls=AW N ls:=id rfl
theorem Pv {N ls}:GR N 237 [] ls=Ci N ls:=id rfl
def GB:=oS Ri Ic GR
def PK:List Nat:=[2,0,0,0,0,0,0,0,1,0,0,0,0,3,0,0,0,0,0,0,0,0,0,0,0,0,0,0,3,0,3,3,1,3,1,0,0,0,3,0,0,0,0,0,0,0,1,0,0,0,0,0,0,0,1,0,0,0,0,1,0]
def GP (O:Alg) (x:Ags O):O.M:=(O.c (O.g 134 [] (xr x kI 14)) fun c0=>(O.b (O.h (O.d (x.I 43) (x.I 14))) (O.a (ap O (cr O c0 kI 0) [.int (lq9 O 2)])) (O.b (O.h (O.d (x.I 3) (lq9 O 0))) (O.a (ap O (cr O c0 kI 0) [.int (lq9 O 20)])) (O.a (ap O (cr O c0 [0,0,0,0,0,0,0,0,0,0,0,0,0,0,3,0,3,3,1,3,1,0,0,0,3,0,0] 0) [.int (O.lit .u8 4),.int (lq9 O 0)])))))
def IG:Nat→Env:=eL [(134,AU)]
theorem Lw {N ls}:IG N 134 [] ls=AU N ls:=id rfl
def EP:=oS PK GP IG
def PL:List Nat:=[0,0,0,0,0,0,0,0,0,0,0,0,0,0,3,0,3,3,1,3,1,0,0,0,3,0,0,0]
def GZ (O:Alg) (x:Ags O):O.M:=(O.c (O.g 134 [] (xr x kI 0)) fun c0=>(O.a (ap O (cr O c0 [0,0,0] 0) (ap O [.int (O.q .i64 (O.f c0 3) (lq9 O 5))] (ap O (cr O c0 [0,0,0,0,0] 4) (ap O [.int (O.q .i64 (O.f c0 9) (lq9 O 5))] (cr O c0 [0,0,0,0,3,0,3,3,1,3,1,0,0,0,3,0,0,0] 10)))))))
def IM:Nat→Env:=eL [(134,AU)]
theorem Lr {N ls}:IM N 134 [] ls=AU N ls:=id rfl
def B8:=oS PL GZ IM
def O7:List Nat:=[0,0,0,0,0,0,0,0,0,0,0,0,0,0,3,0,3,3,1,3,1,0,0,0,3,0,0,0,0,0,0,0,1,0,0,0,0,0,0,0,1,0,0,0,0,1,0]
def GW (O:Alg) (x:Ags O):O.M:=let u0:=(lq9 O 0);(O.c (O.g 134 [] (xr x kI 0)) fun c0=>(O.b (O.h (O.d (x.I 33) (lq9 O 5))) (O.a (ap O (cr O c0 kI 0) [.int (lq9 O 23)])) (O.b (O.d (x.I 29) (x.I 0)) (O.c (O.g 191 [] (xr x kI 0)) fun c1=>(O.a (ap O (cr O c1 kI 0) [.int u0]))) (O.b (O.n u0 (O.f c0 1)) (O.a (ap O [.int (O.f c0 0),.int (O.q .i64 (O.f c0 1) (lq9 O 5))] (ap O (cr O c0 [0,0,0,0,0,0,0,0,0,0,0,0,3,0,3,3,1,3,1,0,0,0,3,0,0,0] 2) [.int u0]))) (O.a (ap O (cr O c0 kI 0) [.int u0]))))))
def FI:Nat→Env:=eL [(134,AU),(191,B8)]
theorem Lp {N ls}:FI N 134 [] ls=AU N ls:=id rfl
theorem KH {N ls}:FI N 191 [] ls=B8 N ls:=id rfl
def EM:=oS O7 GW FI
def QJ:List Nat:=[2,0,0,0,0,0,0,0,1,0,0,0,0,3,0,0,0,0,0,0,0,0,0,0,0,0,0,0,3,0,3,3,1,3,1,0,0,0,3,0,0,0,0,0,0,0,1,0,0,0,0,0,0,0,1,0,0,0,0,1,0]
def Ew (O:Alg) (x:Ags O):O.M:=let u5:=(lq9 O 0);let u4:=(lq9 O 1);let u3:=(O.v .i64 (x.I 43) u4);let u2:=(O.r u3 (lq9 O 2));let u1:=(O.d u3 u4);(O.c (O.g 134 [] (xr x kI 14)) fun c0=>let u0:=(O.q .i64 (O.ah u1 (O.f c0 26) (O.f c0 25)) u4);(O.k (O.h (O.w (O.h (O.h (x.B 32))) (O.h u2))) (O.b (O.i (O.h (x.B 32)) O.j (O.t (x.I 11) (O.ah u1 (x.I 40) (x.I 39)))) (O.a (ap O (cr O c0 kI 0) [.int (lq9 O 24)])) (O.b (O.h (x.B 46)) (O.k u2 (O.k u2 (O.a (ap O (cr O c0 [0,0,0,0,0,0,0,0,0,0,0,0,0,0,3,0,3,3,1,3,1,0,0,0,3] 0) [.int (O.ah (O.d u3 u5) u0 (O.f c0 25)),.int (O.ah u1 u0 (O.f c0 26)),.int (O.f c0 27),.int u5])))) (O.a (ap O (cr O c0 kI 0) [.int u5]))))))
def JV:Nat→Env:=eL [(134,AU)]
theorem Fj {N ls}:JV N 134 [] ls=AU N ls:=id rfl
def Ez:=oS QJ Ew JV
def SA:List Nat:=[2,0,0,0,0,0,0,0,1,0,0,0,0,3,0,0,0,0,0,0,0,0,0,0,0,0,0,0,3,0,3,3,1,3,1,0,0,0,3,0,0,0]
def SM (O:Alg) (x:Ags O):O.M:=(O.a [.int (O.q .i64 (O.aj .i64 (x.I 24) (x.I 4)) (x.I 25))])
def Xf:Nat→Env:=eL []
def F5:=oS SA SM Xf
def QR:List Nat:=[2,0,0,0,0,0,0,0,1,0,0,0,0,3,0,0,0,0,0,0,0,0,0,0,0,0,0,0,3,0,3,3,1,3,1,0,0,0,3,0,0,0,0,0,0,0,1,0,0,0,0,0,0,0,1,0,0,0,0,1,0]
def Hk (O:Alg) (x:Ags O):O.M:=let u4:=(lq9 O 0);let u3:=(lq9 O 25);let u2:=(O.n (x.I 3) (x.I 48));let u1:=(O.n u4 (x.I 47));let u0:=(O.n u4 (x.I 48));(O.c (O.g 134 [] (xr x kI 14)) fun c0=>(O.b (O.i (O.d (x.I 3) u4) O.j (O.i (O.d (x.I 47) u4) (O.d (x.I 48) u4) O.e)) (O.a (ap O (cr O c0 kI 0) [.int u3])) (O.b (O.i u1 (O.i (O.d (x.I 15) u4) O.j (O.t (x.I 47) (x.I 17))) O.e) (O.a (ap O (cr O c0 kI 0) [.int u3])) (O.c (O.b (O.w u0 (O.h u2)) (O.g 248 [] (xr x [2,0,0,0,0,0,0,0,1,0,0,0,0,3,0,0,0,0,0,0,0,0,0,0,0,0,0,0,3,0,3,3,1,3,1,0,0,0,3,0,0,0] 0)) (O.a [.int u4])) fun c1=>(O.b (O.i u0 (O.i u2 O.j (O.n (O.aj .i64 (x.I 48) (x.I 4)) (O.f c1 0))) O.e) (O.a (ap O (cr O c0 kI 0) [.int u3])) (O.c (O.b u1 (O.a (ap O [.int (O.f c0 0),.int (x.I 47)] (cr O c0 [0,0,0,0,0,0,0,0,0,0,0,0,3,0,3,3,1,3,1,0,0,0,3,0,0,0] 2))) (O.a (cr O c0 kI 0))) fun c2=>(O.b u0 (O.a (ap O [.int (O.f c2 0),.int (O.f c2 1),.int (x.I 48)] (ap O (cr O c2 [0,0,0,0,0,0,0,0,0,0,0,3,0,3,3,1,3,1,0,0,0,3,0,0,0] 3) [.int u4]))) (O.a (ap O (cr O c2 kI 0) [.int u4])))))))))
def Fe:Nat→Env:=eL [(134,AU),(248,F5)]
theorem L1 {N ls}:Fe N 134 [] ls=AU N ls:=id rfl
theorem MJ {N ls}:Fe N 248 [] ls=F5 N ls:=id rfl
def E5:=oS QR Hk Fe
def PE:List Nat:=[2,0,0,0,0,0,0,0,1,0,0,0,0,3,0,0,0,0,0,0,0,0,0,0,0,0,0,0,3,0,3,3,1,3,1,0,0,0,3,0,0,0,0,0,0,0,1,0,0,0,0,0,0,0,1,0,0,0,0,1,0]
def ES (O:Alg) (x:Ags O):O.M:=(O.b (O.d (x.I 42) (O.lit .u8 2)) (O.c (O.g 203 [] (ap O (xr x kI 14) [.int (x.I 44),.int (x.I 45)])) fun c0=>(O.a (cr O c0 [0,0,0,0,0,0,0,0,0,0,0,0,0,0,3,0,3,3,1,3,1,0,0,0,3,0,0,0,0] 0))) (O.b (O.d (x.I 42) (O.lit .u8 3)) (O.c (O.g 204 [] (ap O (xr x [2,0,0,0,0,0,0,0,1,0,0,0,0,3,0,0,0,0,0,0,0,0,0,0,0,0,0,0,3,0,3,3,1,3,1,0,0,0,3,0,0,0] 0) [.int (x.I 44)])) fun c0=>(O.a (cr O c0 [0,0,0,0,0,0,0,0,0,0,0,0,0,0,3,0,3,3,1,3,1,0,0,0,3,0,0,0,0] 0))) (O.b (O.d (x.I 42) (O.lit .u8 4)) (O.c (O.g 205 [] (ap O (xr x [2,0,0,0,0,0,0,0,1,0,0,0,0,3,0,0,0,0,0,0,0,0,0,0,0,0,0,0,3,0,3,3,1,3,1,0,0,0,3,0,0,0] 0) (xr x [0,0,0,0,0,1,0,0,0,0,1,0] 49))) fun c0=>(O.a (cr O c0 [0,0,0,0,0,0,0,0,0,0,0,0,0,0,3,0,3,3,1,3,1,0,0,0,3,0,0,0,0] 0))) (O.b (O.d (x.I 42) (O.lit .u8 5)) (O.b (x.B 46) (O.c (O.g 206 [] (ap O (xr x kI 14) [.int (x.I 44)])) fun c0=>(O.a (cr O c0 [0,0,0,0,0,0,0,0,0,0,0,0,0,0,3,0,3,3,1,3,1,0,0,0,3,0,0,0,0] 0))) (O.c (O.g 207 [] (ap O (xr x kI 14) [.int (x.I 44)])) fun c0=>(O.a (cr O c0 [0,0,0,0,0,0,0,0,0,0,0,0,0,0,3,0,3,3,1,3,1,0,0,0,3,0,0,0,0] 0)))) (O.b (O.d (x.I 42) (O.lit .u8 6)) (O.c (O.g 208 [] (ap O (xr x kI 14) [.int (x.I 44),.bool (x.B 46)])) fun c0=>(O.a (cr O c0 [0,0,0,0,0,0,0,0,0,0,0,0,0,0,3,0,3,3,1,3,1,0,0,0,3,0,0,0,0] 0))) (O.b (O.d (x.I 42) (O.lit .u8 7)) (O.c (O.g 209 [] (ap O (xr x kI 14) [.int (x.I 47)])) fun c0=>(O.a (cr O c0 [0,0,0,0,0,0,0,0,0,0,0,0,0,0,3,0,3,3,1,3,1,0,0,0,3,0,0,0,0] 0))) (O.b (O.d (x.I 42) (O.lit .u8 8)) (O.c (O.g 210 [] (ap O (xr x kI 14) [.int (x.I 44)])) fun c0=>(O.a (cr O c0 [0,0,0,0,0,0,0,0,0,0,0,0,0,0,3,0,3,3,1,3,1,0,0,0,3,0,0,0,0] 0))) (O.b (O.d (x.I 42) (O.lit .u8 9)) (O.c (O.g 211 [] (ap O (xr x kI 14) [.int (x.I 44),.bool (x.B 46)])) fun c0=>(O.a (cr O c0 [0,0,0,0,0,0,0,0,0,0,0,0,0,0,3,0,3,3,1,3,1,0,0,0,3,0,0,0,0] 0))) (O.b (O.d (x.I 42) (O.lit .u8 10)) (O.c (O.g 212 [] (xr x [2,0,0,0,0,0,0,0,1,0,0,0,0,3,0,0,0,0,0,0,0,0,0,0,0,0,0,0,3,0,3,3,1,3,1,0,0,0,3,0,0,0] 0)) fun c0=>(O.a (cr O c0 [0,0,0,0,0,0,0,0,0,0,0,0,0,0,3,0,3,3,1,3,1,0,0,0,3,0,0,0,0] 0))) (O.b (O.d (x.I 42) (O.lit .u8 11)) (O.c (O.g 213 [] (xr x [2,0,0,0,0,0,0,0,1,0,0,0,0,3,0,0,0,0,0,0,0,0,0,0,0,0,0,0,3,0,3,3,1,3,1,0,0,0,3,0,0,0,0,0,0,0,1,0,0,0,0,0,0,0,1,0,0,0,0,1,0] 0)) fun c0=>(O.a (cr O c0 [0,0,0,0,0,0,0,0,0,0,0,0,0,0,3,0,3,3,1,3,1,0,0,0,3,0,0,0,0] 0))) (O.b (O.d (x.I 42) (O.lit .u8 13)) (O.c (O.g 214 [] (xr x [0,0,0,0,0,0,0,0,0,0,0,0,0,0,3,0,3,3,1,3,1,0,0,0,3,0,0,0,0,0,0,0,1,0,0,0,0,0,0,0,1,0,0,0,0,1,0] 14)) fun c0=>(O.a (cr O c0 [0,0,0,0,0,0,0,0,0,0,0,0,0,0,3,0,3,3,1,3,1,0,0,0,3,0,0,0,0] 0))) (O.b (O.d (x.I 42) (O.lit .u8 14)) (O.c (O.g 215 [] (xr x [2,0,0,0,0,0,0,0,1,0,0,0,0,3,0,0,0,0,0,0,0,0,0,0,0,0,0,0,3,0,3,3,1,3,1,0,0,0,3,0,0,0,0,0,0,0,1,0,0,0,0,0,0,0,1,0,0,0,0,1,0] 0)) fun c0=>(O.a (cr O c0 [0,0,0,0,0,0,0,0,0,0,0,0,0,0,3,0,3,3,1,3,1,0,0,0,3,0,0,0,0] 0))) (O.c (O.g 216 [] (xr x [2,0,0,0,0,0,0,0,1,0,0,0,0,3,0,0,0,0,0,0,0,0,0,0,0,0,0,0,3,0,3,3,1,3,1,0,0,0,3,0,0,0,0,0,0,0,1,0,0,0,0,0,0,0,1,0,0,0,0,1,0] 0)) fun c0=>(O.a (cr O c0 [0,0,0,0,0,0,0,0,0,0,0,0,0,0,3,0,3,3,1,3,1,0,0,0,3,0,0,0,0] 0)))))))))))))))
def Ai:Nat→Env:=eL [(203,H7),(204,I5),(205,Gn),(206,E9),(207,Gu),(208,F2),(209,Fq),(210,G0),(211,Dw),(212,GB),(213,EP),(214,EM),(215,Ez),(216,E5)]
theorem GL {N ls}:Ai N 203 [] ls=H7 N ls:=id rfl
theorem G2 {N ls}:Ai N 204 [] ls=I5 N ls:=id rfl
theorem Ft {N ls}:Ai N 205 [] ls=Gn N ls:=id rfl
theorem E2 {N ls}:Ai N 206 [] ls=E9 N ls:=id rfl
theorem Fn {N ls}:Ai N 207 [] ls=Gu N ls:=id rfl
theorem FN {N ls}:Ai N 208 [] ls=F2 N ls:=id rfl
theorem FP {N ls}:Ai N 209 [] ls=Fq N ls:=id rfl
theorem Fo {N ls}:Ai N 210 [] ls=G0 N ls:=id rfl
theorem EO {N ls}:Ai N 211 [] ls=Dw N ls:=id rfl
theorem FM {N ls}:Ai N 212 [] ls=GB N ls:=id rfl
theorem Eh {N ls}:Ai N 213 [] ls=EP N ls:=id rfl
theorem Eg {N ls}:Ai N 214 [] ls=EM N ls:=id rfl
theorem E1 {N ls}:Ai N 215 [] ls=Ez N ls:=id rfl
theorem E6 {N ls}:Ai N 216 [] ls=E5 N ls:=id rfl
def EY:=oS PE ES Ai
def Qn:List Nat:=[2,0,0,0,0,0,0,0,1,0,0,0,0,3,0,0,0,0,0,0,0,0,0,0,0,0,0,0,3,0,3,3,1,3,1,0,0,0,3,0,0,0]
def Hf (O:Alg) (x:Ags O):O.M:=let u0:=(lq9 O 0);(O.c (O.g 127 [] (xr x [2,0,0,0,0,0,0,0,1,0,0,0,0,3,0,0,0,0,0,0,0,0,0,0,0,0,0,0,3,0,3,3,1,3,1,0,0,0,3,0,0,0] 0)) fun c0=>(O.b (O.h (O.m c0 0)) (O.a [.int (O.lit .u8 0)]) (O.b (O.i (O.n u0 (x.I 15)) (O.t (x.I 15) (x.I 17)) O.e) (O.a [.int (O.lit .u8 3)]) (O.c (O.g 217 [] (xr x kI 14)) fun c1=>(O.c (O.b (O.m c1 0) (O.g 218 [] (xr x kI 14)) (O.a [.rows O.y])) fun c2=>(O.b (O.i (O.m c1 0) (O.d (O.l (O.p c2 0)) u0) O.e) (O.a [.int (O.lit .u8 1)]) (O.b (O.i (O.n u0 (x.I 16)) (O.t (x.I 16) (x.I 24)) O.e) (O.a [.int (O.lit .u8 2)]) (O.a [.int (O.lit .u8 0)]))))))))
def Dl:Nat→Env:=eL [(127,BJ),(217,BM),(218,Cj)]
def DU:=oS Qn Hf Dl
def TY:List Nat:=[2,0,0,0,0,0,0,0,1,0,0,0,0,3,0,0,0,0,0,0,0,0,0,0,0,0,0,0,3,0,3,3,1,3,1,0,0,0,3,0,0,0,0,0,0,0,1,0,0,0,0,0,0,0,1,0,0,0,0,1,0]
def Jf (O:Alg) (x:Ags O):O.M:=let u1:=(lq9 O 0);(O.c (O.g 127 [] (xr x [2,0,0,0,0,0,0,0,1,0,0,0,0,3,0,0,0,0,0,0,0,0,0,0,0,0,0,0,3,0,3,3,1,3,1,0,0,0,3,0,0,0] 0)) fun c0=>let u0:=(O.h (O.m c0 0));(O.c (O.b (O.h u0) (O.g 107 [] (xr x [0,0,0,0,1,0,0,0,0,0,0,0,1,0,0,0,0,1,0] 42)) (O.a [.int u1])) fun c1=>(O.b (O.i u0 O.j (O.h (O.d (O.f c1 0) u1))) (O.c (O.g 134 [] (xr x kI 14)) fun c2=>(O.a (ap O (cr O c2 kI 0) [.int (lq9 O 1)]))) (O.b (O.h (O.d (x.I 41) (O.lit .u8 0))) (O.c (O.g 134 [] (xr x kI 14)) fun c2=>(O.a (ap O (cr O c2 kI 0) [.int (lq9 O 26)]))) (O.c (O.b (O.h (O.i (O.i (O.d (x.I 42) (O.lit .u8 1)) O.j (O.d (x.I 42) (O.lit .u8 12))) O.j (O.d (x.I 42) (O.lit .u8 16)))) (O.g 188 [] (xr x kI 14)) (O.a [.bool O.e])) fun c2=>(O.b (O.i (O.i (O.i (O.d (x.I 42) (O.lit .u8 1)) O.j (O.d (x.I 42) (O.lit .u8 12))) O.j (O.d (x.I 42) (O.lit .u8 16))) O.j (O.i (O.h (O.m c2 0)) (O.h (O.d (x.I 42) (O.lit .u8 2))) O.e)) (O.c (O.g 134 [] (xr x kI 14)) fun c3=>(O.a (ap O (cr O c3 kI 0) [.int (lq9 O 1)]))) (O.c (O.g 189 [] (xr x [2,0,0,0,0,0,0,0,1,0,0,0,0,3,0,0,0,0,0,0,0,0,0,0,0,0,0,0,3,0,3,3,1,3,1,0,0,0,3,0,0,0,0,0,0,0,1,0,0,0,0,0,0,0,1,0,0,0,0,1,0] 0)) fun c3=>(O.b (O.h (O.d (O.f c3 28) u1)) (O.c (O.g 134 [] (xr x kI 14)) fun c4=>(O.a (ap O (cr O c4 kI 0) [.int (O.f c3 28)]))) (O.b (O.d (O.f c3 27) (O.lit .u8 0)) (O.c (O.g 190 [] (ap O (xr x kR 0) (ap O (cr O c3 [0,0,0,0,0,0,0,0,0,0,0,0,0,0,3,0,3,3] 0) (ap O [.bool (O.d (x.I 42) (O.lit .u8 4))] (cr O c3 [3,1,0,0,0,3,0,0,0] 19))))) fun c4=>(O.a (ap O (cr O c3 [0,0,0,0,0,0,0,0,0,0,0,0,0,0,3,0,3,3] 0) (ap O [.bool (O.d (x.I 42) (O.lit .u8 4))] (ap O (cr O c3 [3,1,0,0,0,3,0,0] 19) [.int (O.f c4 0),.int u1]))))) (O.a (ap O (cr O c3 [0,0,0,0,0,0,0,0,0,0,0,0,0,0,3,0,3,3] 0) (ap O [.bool (O.d (x.I 42) (O.lit .u8 4))] (ap O (cr O c3 [3,1,0,0,0,3,0,0,0] 19) [.int u1])))))))))))))
def CK:Nat→Env:=eL [(107,DE),(127,BJ),(134,AU),(188,Fu),(189,EY),(190,DU)]
theorem On {N ls}:CK N 107 [] ls=DE N ls:=id rfl
theorem NC {N ls}:CK N 127 [] ls=BJ N ls:=id rfl
theorem NU {N ls}:CK N 134 [] ls=AU N ls:=id rfl
theorem NF {N ls}:CK N 188 [] ls=Fu N ls:=id rfl
theorem GA {N ls}:CK N 189 [] ls=EY N ls:=id rfl
theorem GM {N ls}:CK N 190 [] ls=DU N ls:=id rfl
def Gk:=oS TY Jf CK
def Wh:List Nat:=[2,0,0,0,0,0,0,0,1,0,0,0,0,3,0,0,1,3,0,0,0,0,0,0,0,0,0,1,0,0,0,0,0,0,0,1,0,0,0,0,1,0]
def Mq (O:Alg) (x:Ags O):O.M:=let u23:=(lq9 O 2);let u22:=(lq9 O 1);let u21:=(lq9 O 0);let u17:=(O.v .i64 (x.I 24) u22);let u11:=(O.r u17 u23);let u10:=(O.d u17 u22);(O.c (O.g 106 [] (xr x kM 0)) fun c0=>let u20:=(O.h (O.m c0 0));(O.c (O.b (O.h u20) (O.g 107 [] (xr x [0,0,0,0,1,0,0,0,0,0,0,0,1,0,0,0,0,1,0] 23)) (O.a [.int u21])) fun c1=>(O.b (O.i u20 O.j (O.h (O.d (O.f c1 0) u21))) (O.c (O.g 108 [] (xr x kM 0)) fun c2=>(O.a (ap O (cr O c2 kM 0) [.int u22]))) (O.b (O.d (x.I 14) (O.lit .u8 5)) (O.c (O.g 108 [] (xr x kM 0)) fun c2=>(O.a (ap O (cr O c2 kM 0) [.int (lq9 O 26)]))) (O.c (O.g 108 [] (xr x kM 0)) fun c2=>let u28:=(O.f c2 15);let u27:=(O.f c2 18);let u26:=(O.f c2 19);let u25:=(O.f c2 14);let u24:=(O.p c2 17);let u19:=(O.l u24);let u12:=(O.v .i64 u19 u22);let u4:=(O.r u12 u19);let u0:=(O.q .i64 (O.ah u10 u26 u27) (lq9 O 5));(O.c (O.b (O.d (x.I 23) (O.lit .u8 1)) (O.b (O.h (O.d u25 (O.lit .u8 1))) (O.a (ap O [.int u22] (cr O c2 kM 0))) (O.c (O.g 135 [] [.int (x.I 24)]) fun c3=>(O.b (x.B 27) (O.a (ap O [.int u21] (ap O (cr O c2 kR 0) (ap O [.int (O.lit .u8 2),.int (x.I 24)] (cr O c2 [1,3,0,0,0,0,0] 16))))) (O.a (ap O [.int u21] (ap O (cr O c2 kR 0) (ap O [.int (O.lit .u8 2),.int (O.f c3 0)] (cr O c2 [1,3,0,0,0,0,0] 16)))))))) (O.b (O.d (x.I 23) (O.lit .u8 2)) (O.c (O.b (O.h (O.d u25 (O.lit .u8 2))) (O.a (ap O [.int u22] (cr O c2 kM 0))) (O.c (O.g 128 [] (ap O (cr O c2 kM 0) [.int u19])) fun c3=>let u16:=(O.v .i64 (O.f c3 0) u22);let u9:=(O.d u16 u22);let u8:=(O.r u16 u23);(O.c (O.g 170 [] (ap O (cr O c2 kM 0) [.int (O.f c3 0)])) fun c4=>(O.k u8 (O.c (O.g 169 [] (ap O (cr O c2 kR 0) [.int (O.f c3 0),.int (O.f c4 0),.int (O.ah u9 u26 u27)])) fun c5=>(O.b (O.h (O.d (O.f c5 28) u21)) (O.a (ap O [.int u22] (cr O c2 kM 0))) (O.c (O.g 171 [] (ap O (cr O c2 kR 0) (ap O (cr O c5 kI 0) (xr x [0,0,0,0,1,0,0,0,0,0,0,0,1,0,0,0,0,1,0] 23)))) fun c6=>let u14:=(O.ad u24 (O.ac [(cr O c6 kI 0)]));(O.b (O.h (O.d (O.f c6 28) u21)) (O.a (ap O [.int (O.f c6 28)] (cr O c2 kM 0))) (O.k u8 (O.k (O.u (O.l u14) 304) (O.a (ap O [.int u21] (ap O (cr O c2 kR 0) (ap O [.int (O.lit .u8 3),.int u28,.bool (O.m c2 16),.rows u14,.int (O.ah (O.d u16 u21) u21 u27),.int (O.ah u9 u21 u26)] (cr O c2 [0,0,0] 20))))))))))))))) fun c3=>(O.a (cr O c3 [0,2,0,0,0,0,0,0,0,1,0,0,0,0,3,0,0,1,3,0,0,0,0,0] 0))) (O.b (O.d (x.I 23) (O.lit .u8 12)) (O.b (O.h (O.d u25 (O.lit .u8 4))) (O.a (ap O [.int u22] (cr O c2 kM 0))) (O.b (O.h (O.d (x.I 24) u28)) (O.a (ap O [.int u23] (cr O c2 kM 0))) (O.a (ap O [.int u21] (ap O (cr O c2 kR 0) (ap O [.int (O.lit .u8 2),.int u28,.bool (x.B 27)] (cr O c2 [3,0,0,0,0,0] 17))))))) (O.b (O.d (x.I 23) (O.lit .u8 16)) (O.c (O.b (O.d u25 (O.lit .u8 3)) (O.k u4 (O.a (ap O (cr O c2 [2,0,0,0,0,0,0,0,1,0,0,0,0,3,0,0,1] 0) (ap O [.rows (O.ab u24 u12 27 [.int (O.lit .u8 5)])] (cr O c2 [0,0,0,0,0] 18))))) (O.a (cr O c2 kM 0))) fun c3=>(O.c (O.g 172 [] (cr O c3 kR 0)) fun c4=>(O.a (ap O [.int u21] (ap O (cr O c3 kR 0) (ap O [.int (O.lit .u8 5)] (ap O (cr O c3 [0,1,3,0,0] 15) [.int (O.f c4 0),.int u21,.int u21]))))))) (O.c (O.b (O.h (O.d u25 (O.lit .u8 3))) (O.a (ap O [.int u22] (cr O c2 kM 0))) (O.k u4 (O.c (O.g 171 [] (ap O (cr O c2 kR 0) (ap O (rr O u24 u12 kI 0) (xr x [0,0,0,0,1,0,0,0,0,0,0,0,1,0,0,0,0,1,0] 23)))) fun c3=>let u3:=(O.ab u24 u12 0 (cr O c3 kI 0));let u2:=(O.l u3);(O.b (O.h (O.d (O.f c3 28) u21)) (O.a (ap O [.int (O.f c3 28)] (cr O c2 kM 0))) (O.k u4 (O.b (O.i (O.d (x.I 23) (O.lit .u8 13)) (O.h (O.d (x.I 24) (O.f c3 0))) O.e) (O.c (O.c (O.x (fun s4 c4=>let u30:=(O.f c4 0);let u1:=(O.r u30 u2);(O.b (O.t u21 u30) (O.k u1 (O.b (O.d (O.o u3 u30 0) (x.I 24)) (O.k u1 (O.c (O.g 191 [] (rr O u3 u30 kI 0)) fun c5=>(O.k u1 (O.a (ap O [.int u21] (ap O (cr O c2 [2,0,0,0,0,0,0,0,1,0,0,0,0,3,0,0,1] 0) (ap O [.rows (O.ab u3 u30 0 (cr O c5 kI 0))] (cr O c2 [0,0,0,0,0] 18)))))))) (s4 [.int (O.v .i64 u30 u22)]))) (O.a [.int u22]))) [.int (O.v .i64 u2 u22)]) fun c4=>(O.b (O.aa c4 0) (O.a (cr O c4 kM 1)) (O.k u11 (O.k u11 (O.a (ap O (cr O c2 [2,0,0,0,0,0,0,0,1,0,0,0,0,3,0,0,1] 0) (ap O [.rows u3,.int (O.ah (O.d u17 u21) u0 u27),.int (O.ah u10 u0 u26)] (cr O c2 [0,0,0] 20)))))))) fun c4=>(O.a (ap O [.int u21] (cr O c4 kM 0)))) (O.a (ap O [.int u21] (ap O (cr O c2 [2,0,0,0,0,0,0,0,1,0,0,0,0,3,0,0,1] 0) (ap O [.rows u3] (cr O c2 [0,0,0,0,0] 18))))))))))) fun c3=>(O.a (cr O c3 [0,2,0,0,0,0,0,0,0,1,0,0,0,0,3,0,0,1,3,0,0,0,0,0] 0))))))) fun c3=>let u29:=(O.p c3 18);let u18:=(O.l u29);let u15:=(O.d u18 (lq9 O 3));let u13:=(O.v .i64 u18 u22);let u7:=(O.d u18 (O.aj .i64 u23 (O.f c3 3)));let u6:=(O.o u29 u13 0);let u5:=(O.r u13 u18);(O.b (O.h (O.d (O.f c3 0) u21)) (O.c (O.g 108 [] (xr x kM 0)) fun c4=>(O.a (ap O (cr O c4 kM 0) [.int (O.f c3 0)]))) (O.c (O.k (O.h (O.w (O.h (O.h (O.d (O.f c3 15) (O.lit .u8 3)))) (O.h u5))) (O.b (O.i (O.h (O.d (O.f c3 15) (O.lit .u8 3))) O.j (O.d (O.o u29 u13 27) (O.lit .u8 0))) (O.a (cr O c3 kM 1)) (O.k u5 (O.c (O.g 139 [] (ap O (cr O c3 kM 1) [.int (O.f c3 16)])) fun c4=>(O.c (O.g 135 [] [.int (O.f c3 16)]) fun c5=>(O.c (O.g 139 [] (ap O (cr O c3 kM 1) [.int (O.f c5 0)])) fun c6=>(O.c (O.b u7 (O.a [.bool u7]) (O.c (O.b u15 (O.g 139 [] (ap O (cr O c3 kR 1) (ap O [.int (O.lit .u8 2)] (ap O (cr O c3 [0,1,3,0,0,0,0,0] 16) [.int u6])))) (O.a [.int u21])) fun c7=>(O.c (O.b u15 (O.g 135 [] [.int u6]) (O.a [.int u21])) fun c8=>(O.c (O.b u15 (O.g 139 [] (ap O (cr O c3 kR 1) (ap O [.int (O.lit .u8 2)] (ap O (cr O c3 [0,1,3,0,0,0,0,0] 16) [.int (O.f c8 0)])))) (O.a [.int u21])) fun c9=>(O.a [.bool (O.i u15 (O.n (O.f c7 0) (O.f c9 0)) O.e)]))))) fun c7=>(O.b (O.m c7 0) (O.c (O.g 140 [] (ap O (cr O c3 kR 1) (ap O [.int (O.lit .u8 5)] (cr O c3 [0,1,3,0,0,0,0,0] 16)))) fun c8=>(O.a (ap O (cr O c3 kR 1) (ap O [.int (O.lit .u8 5)] (ap O (cr O c3 [0,1,3,0,0] 16) (cr O c8 [0,0,0] 0)))))) (O.b (O.i (O.i (O.d u18 u23) (O.n u21 (O.f c3 11)) O.e) (O.t (O.f c3 11) (O.v .i64 (O.f c4 0) (O.f c6 0))) O.e) (O.a (ap O (cr O c3 kR 1) (ap O [.int (O.lit .u8 4)] (cr O c3 [0,1,3,0,0,0,0,0] 16)))) (O.a (ap O (cr O c3 kR 1) (ap O [.int (O.lit .u8 2)] (cr O c3 [0,1,3,0,0,0,0,0] 16))))))))))))) fun c4=>(O.a (ap O (cr O c4 kM 0) [.int u21]))))))))))
def BE:Nat→Env:=eL [(106,DB),(107,DE),(108,Hz),(128,DC),(135,BL),(139,B0),(140,GC),(169,Fm),(170,G3),(171,Gk),(172,Bp),(191,B8)]
theorem QP {N ls}:BE N 106 [] ls=DB N ls:=id rfl
theorem Qb {N ls}:BE N 107 [] ls=DE N ls:=id rfl
theorem RE {N ls}:BE N 108 [] ls=Hz N ls:=id rfl
theorem E8 {N ls}:BE N 128 [] ls=DC N ls:=id rfl
theorem FC {N ls}:BE N 135 [] ls=BL N ls:=id rfl
theorem Iy {N ls}:BE N 139 [] ls=B0 N ls:=id rfl
theorem Ht {N ls}:BE N 140 [] ls=GC N ls:=id rfl
theorem EH {N ls}:BE N 169 [] ls=Fm N ls:=id rfl
theorem Eb {N ls}:BE N 170 [] ls=G3 N ls:=id rfl
theorem Cx {N ls}:BE N 171 [] ls=Gk N ls:=id rfl
theorem DI {N ls}:BE N 172 [] ls=Bp N ls:=id rfl
theorem Gy {N ls}:BE N 191 [] ls=B8 N ls:=id rfl
def Mj:=oS Wh Mq BE
def UX:List Nat:=[2,0,0,0,0,0,0,0,1,0,0,0,0,3,0,0,1,3,0,0,0,0,0,0,0,0,0,0,1,0,0,0,0,0,0,0,1,0,0,0,0,1,0]
def Mb (O:Alg) (x:Ags O):O.M:=(O.b (O.t (lq9 O 4000) (x.I 23)) (O.a (ap O (xr x kM 0) [.int (lq9 O 26)])) (O.c (O.g 92 [] (ap O (xr x kM 0) (xr x [0,0,0,0,1,0,0,0,0,0,0,0,1,0,0,0,0,1,0] 24))) fun c0=>(O.a (cr O c0 [2,0,0,0,0,0,0,0,1,0,0,0,0,3,0,0,1,3,0,0,0,0,0,0] 0))))
def Gp (N:Nat):Env:=fun f fns ls=>(cond (Nat.beq f 92&&Ag fns []) (Mj N ls) none)
theorem S4 {N ls}:Gp N 92 [] ls=Mj N ls:=id rfl
def MZ:=oS UX Mb Gp
def SC:List Nat:=[0,2,0,0,0,0,0,0,0,1,0,0,0,0,3,0,0,1,3,0,0,0,0,0,2,0,0,0,0,0,0,0,1,0,0,0,0,3,0,0,1,3,0,0,0,0,0,0,0,0,0,0,1,0,0,0,0,1,0]
def Im (O:Alg) (x:Ags O):O.M:=let u0:=(O.v .i64 (O.l (x.L 18)) (lq9 O 1));(O.k (O.r u0 (O.l (x.L 18))) (O.k (O.r u0 (O.l (x.L 41))) (O.c (O.g 57 [] (ap O (xr x kR 1) (xr x [0,0,0,0,0,1,0,0,0,0,1,0] 47))) fun c0=>(O.a (ap O [.int (x.I 0),.int u0,.int (O.o (x.L 18) u0 10),.int (O.o (x.L 18) u0 11),.int (O.o (x.L 18) u0 15),.int (O.o (x.L 18) u0 12),.int (O.o (x.L 18) u0 13),.bool (O.rB (x.L 18) u0 20)] (ap O (xr x [0,0,0,0,0,1,0,0,0,0,1,0] 47) (ap O (cr O c0 [0,0,0,0,0,0,1,1,1,1] 0) [.int (O.o (x.L 41) u0 3),.int (O.o (x.L 41) u0 4)])))))))
def J9:Nat→Env:=eL [(57,B7)]
theorem Lu {N ls}:J9 N 57 [] ls=B7 N ls:=id rfl
def IZ:=oS SC Im J9
def UZ:List Nat:=[2,0,0,0,0,0,0,0,1,0,0,0,0,3,3]
def MO (O:Alg) (x:Ags O):O.M:=let u3:=(lq9 O 1);let u2:=(lq9 O 0);(O.c (O.g 65 [] (xr x kR 0)) fun c0=>(O.b (O.h (O.d (O.f c0 23) u2)) (O.a [.rows O.y,.str (O.s ⟨#[]⟩),.int u2,.int u2,.int u2,.int u2,.int u2,.int u2,.int u2,.bool O.e,.int u2,.int u2,.int u2,.int u2,.rows O.y,.int (O.lit .u8 0),.int u2,.bool O.e,.rows O.y,.int u2,.int u2,.int (O.lit .u8 0),.int u2,.int u2,.int u2,.int u3]) (O.c (O.x (fun s1 c1=>let u5:=(O.p c1 0);let u4:=(O.f c1 1);let u1:=(O.q .i64 u4 u3);(O.b (O.n u4 (O.l (x.L 14))) (O.k (O.r u4 (O.l (x.L 14))) (O.c (O.g 66 [] (ap O (cr O c1 kM 2) (ap O [.int u4] (rr O (x.L 14) u4 [0,0,0,0,1,0,0,0,0,0,0,0,1,0,0,0,0,1,0] 0)))) fun c2=>(O.b (O.h (O.d (O.f c2 23) u2)) (O.a (ap O [.int u2,.rows u5,.int u4,.int (O.f c2 23)] (cr O c1 kM 2))) (O.b (O.d (O.o (x.L 14) u4 0) (O.lit .u8 4)) (O.c (O.g 67 [] (ap O (cr O c1 [0,2,0,0,0,0,0,0,0,1,0,0,0,0,3,0,0,1,3,0,0,0,0,0] 1) (ap O (cr O c2 kM 0) (rr O (x.L 14) u4 [0,0,0,0,0,1,0,0,0,0,1,0] 7)))) fun c3=>let u0:=(O.ad u5 (O.ac [(cr O c3 [0,0,0,0,0,0,0,1,0,0,0,0,0,1,0,0,0,0,1,0,0,0,0,0,0,0,1,1,1,1,0,0] 0)]));(O.k (O.u (O.l u0) 216) (s1 (ap O [.rows u0,.int u1] (cr O c2 kM 0))))) (s1 (ap O [.rows u5,.int u1] (cr O c2 kM 0))))))) (O.a (ap O [.int u3,.rows u5] (cr O c1 kM 2))))) (ap O [.rows O.y,.int u2] (cr O c0 kM 0))) fun c1=>(O.b (O.aa c1 0) (O.a (ap O [.rows (O.p c1 1)] (ap O (cr O c1 kM 4) [.int (O.f c1 2),.int (O.f c1 3)]))) (O.a (ap O (cr O c1 [3,2,0,0,0,0,0,0,0,1,0,0,0,0,3,0,0,1,3,0,0,0,0,0] 1) [.int (lq9 O (-1)),.int u2]))))))
def D0 (N:Nat):Env:=fun f fns ls=>(cond (Nat.beq f 65&&Ag fns []) (Nw N ls) (cond (Nat.beq f 66&&Ag fns []) (MZ N ls) (cond (Nat.beq f 67&&Ag fns []) (IZ N ls) none)))
theorem UF {N ls}:D0 N 65 [] ls=Nw N ls:=id rfl
theorem M4 {N ls}:D0 N 66 [] ls=MZ N ls:=id rfl
theorem I2 {N ls}:D0 N 67 [] ls=IZ N ls:=id rfl
def HP:=oS UZ MO D0
def Qh:List Nat:=[2,0,0,0,0,0,0,0,1,0,0,0,0,3,3]
def I3 (O:Alg) (x:Ags O):O.M:=(O.c (O.g 32 [] (xr x [2,0,0,0,0,0,0,0,1,0,0,0,0,3,3] 0)) fun c0=>(O.a (cr O c0 [2,0,0,0,0,0,0,0,1,0,0,0,0,3,0,0,1,3,0,0,0,0,0,0,0] 1)))
def Ep (N:Nat):Env:=fun f fns ls=>(cond (Nat.beq f 32&&Ag fns []) (HP N ls) none)
theorem TD {N ls}:Ep N 32 [] ls=HP N ls:=id rfl
def JJ:=oS Qh I3 Ep
def SP:List Nat:=[2,0,0,0,0,0,0,0,1,0,0,0,0,3,3]
def KF (O:Alg) (x:Ags O):O.M:=let u0:=(lq9 O 0);(O.c (O.g 61 [] (xr x kR 0)) fun c0=>(O.b (O.h (O.d (O.f c0 0) u0)) (O.a [.int (O.f c0 0)]) (O.b (O.n (lq9 O 4000) (O.l (x.L 14))) (O.a [.int (lq9 O 9)]) (O.c (O.g 62 [] (xr x [2,0,0,0,0,0,0,0,1,0,0,0,0,3,3] 0)) fun c1=>(O.b (O.h (O.d (O.f c1 24) u0)) (O.a [.int (lq9 O 10)]) (O.a [.int u0]))))))
def EI (N:Nat):Env:=fun f fns ls=>(cond (Nat.beq f 61&&Ag fns []) (AW N ls) (cond (Nat.beq f 62&&Ag fns []) (JJ N ls) none))
theorem RS {N ls}:EI N 61 [] ls=AW N ls:=id rfl
theorem SS {N ls}:EI N 62 [] ls=JJ N ls:=id rfl
def KE:=oS SP KF EI
def R8:List Nat:=[2,0,0,0,0,0,0,0,1,0,0,0,0,3,3]
def Id (O:Alg) (x:Ags O):O.M:=let u19:=(lq9 O 1);let u18:=(lq9 O 0);let u17:=(lq9 O (-1));(O.c (O.x (fun s0 c0=>let u22:=(O.f c0 0);let u21:=(O.p c0 1);let u15:=(O.l u21);let u8:=(O.o (x.L 14) u22 2);let u20:=(O.lit .u8 0);let u7:=(O.o (x.L 14) u22 0);let u6:=(O.q .i64 u22 u19);(O.b (O.n u22 (O.l (x.L 14))) (O.k (O.r u22 (O.l (x.L 14))) (O.b (O.d u7 (O.lit .u8 2)) (O.c (O.c (O.x (fun s1 c1=>let u28:=(O.f c1 1);let u24:=(O.f c1 0);(O.b (O.n u24 u15) (O.k (O.r u24 u15) (O.b (O.d (O.o u21 u24 0) u28) (O.a [.int u18,.int u24,.int u28]) (s1 [.int (O.q .i64 u24 u19),.int u28]))) (O.a [.int u19,.int u28]))) [.int u18,.int u8]) fun c1=>(O.b (O.aa c1 0) (O.a [.int (O.f c1 1),.int (O.f c1 2)]) (O.a [.int u17,.int (O.f c1 1)]))) fun c1=>let u11:=(O.ad u21 (O.ac [[.int (O.f c1 1),.int u18,.int u18,.int u18,.int u18,.bool O.e,.int u20,.int u18,.int u18,.bool O.e]]));let u9:=(O.l u11);(O.c (O.b (O.n (O.f c1 0) u18) (O.k (O.u u9 72) (O.a [.int (O.v .i64 u9 u19),.rows u11])) (O.a [.int (O.f c1 0),.rows u21])) fun c2=>let u2:=(O.r (O.f c2 0) (O.l (O.p c2 1)));let u1:=(O.ab (O.p c2 1) (O.f c2 0) 9 [.bool (O.i (O.rB (O.p c2 1) (O.f c2 0) 9) O.j O.j)]);let u0:=(O.l u1);(O.k u2 (O.k u2 (O.c (O.c (O.x (fun s3 c3=>let u29:=(O.f c3 1);let u25:=(O.f c3 0);(O.b (O.n u25 u0) (O.k (O.r u25 u0) (O.b (O.d (O.o u1 u25 0) u29) (O.a [.int u18,.int u25,.int u29]) (s3 [.int (O.q .i64 u25 u19),.int u29]))) (O.a [.int u19,.int u29]))) [.int u18,.int (O.o (x.L 14) u22 3)]) fun c3=>(O.b (O.aa c3 0) (O.a [.int (O.f c3 1),.int (O.f c3 2)]) (O.a [.int u17,.int (O.f c3 1)]))) fun c3=>let u14:=(O.ad u1 (O.ac [[.int (O.f c3 1),.int u18,.int u18,.int u18,.int u18,.bool O.e,.int u20,.int u18,.int u18,.bool O.e]]));let u12:=(O.l u14);(O.c (O.b (O.n (O.f c3 0) u18) (O.k (O.u u12 72) (O.a [.int (O.v .i64 u12 u19),.rows u14])) (O.a [.int (O.f c3 0),.rows u1])) fun c4=>let u3:=(O.r (O.f c4 0) (O.l (O.p c4 1)));(O.k u3 (O.k u3 (s0 [.int u6,.rows (O.ab (O.p c4 1) (O.f c4 0) 9 [.bool (O.i (O.rB (O.p c4 1) (O.f c4 0) 9) O.j O.j)])]))))))))) (O.b (O.d u7 (O.lit .u8 5)) (O.c (O.c (O.x (fun s1 c1=>let u30:=(O.f c1 1);let u26:=(O.f c1 0);(O.b (O.n u26 u15) (O.k (O.r u26 u15) (O.b (O.d (O.o u21 u26 0) u30) (O.a [.int u18,.int u26,.int u30]) (s1 [.int (O.q .i64 u26 u19),.int u30]))) (O.a [.int u19,.int u30]))) [.int u18,.int u8]) fun c1=>(O.b (O.aa c1 0) (O.a [.int (O.f c1 1),.int (O.f c1 2)]) (O.a [.int u17,.int (O.f c1 1)]))) fun c1=>let u13:=(O.ad u21 (O.ac [[.int (O.f c1 1),.int u18,.int u18,.int u18,.int u18,.bool O.e,.int u20,.int u18,.int u18,.bool O.e]]));let u10:=(O.l u13);(O.c (O.b (O.n (O.f c1 0) u18) (O.k (O.u u10 72) (O.a [.int (O.v .i64 u10 u19),.rows u13])) (O.a [.int (O.f c1 0),.rows u21])) fun c2=>let u4:=(O.r (O.f c2 0) (O.l (O.p c2 1)));(O.k u4 (O.k u4 (s0 [.int u6,.rows (O.ab (O.p c2 1) (O.f c2 0) 9 [.bool (O.i (O.rB (O.p c2 1) (O.f c2 0) 9) O.j (O.h (O.rB (x.L 14) u22 4)))])]))))) (s0 [.int u6,.rows u21])))) (O.a [.rows u21]))) [.int u18,.rows O.y]) fun c0=>(O.c (O.x (fun s1 c1=>let u23:=(O.p c1 1);let u16:=(O.l u23);(O.b (O.t (O.f c1 0) (x.I 1)) (O.c (O.c (O.x (fun s2 c2=>let u31:=(O.f c2 1);let u27:=(O.f c2 0);(O.b (O.n u27 u16) (O.k (O.r u27 u16) (O.b (O.d (O.o u23 u27 0) u31) (O.a [.int u18,.int u27,.int u31]) (s2 [.int (O.q .i64 u27 u19),.int u31]))) (O.a [.int u19,.int u31]))) [.int u18,.int (O.f c1 0)]) fun c2=>(O.b (O.aa c2 0) (O.a [.int (O.f c2 1),.int (O.f c2 2)]) (O.a [.int u17,.int (O.f c2 1)]))) fun c2=>(O.c (O.b (O.n (O.f c2 0) u18) (O.k (O.u (O.l (O.ad u23 (O.ac [[.int (O.f c2 1),.int u18,.int u18,.int u18,.int u18,.bool O.e,.int (O.lit .u8 0),.int u18,.int u18,.bool O.e]]))) 72) (O.a [.int (O.v .i64 (O.l (O.ad u23 (O.ac [[.int (O.f c2 1),.int u18,.int u18,.int u18,.int u18,.bool O.e,.int (O.lit .u8 0),.int u18,.int u18,.bool O.e]]))) u19),.rows (O.ad u23 (O.ac [[.int (O.f c2 1),.int u18,.int u18,.int u18,.int u18,.bool O.e,.int (O.lit .u8 0),.int u18,.int u18,.bool O.e]]))])) (O.a [.int (O.f c2 0),.rows u23])) fun c3=>let u5:=(O.r (O.f c3 0) (O.l (O.p c3 1)));(O.k u5 (O.k u5 (s1 [.int (O.q .i64 (O.f c1 0) u19),.rows (O.ab (O.p c3 1) (O.f c3 0) 9 [.bool (O.i (O.rB (O.p c3 1) (O.f c3 0) 9) O.j O.e)])]))))) (O.a [.rows u23]))) [.int u19,.rows (O.p c0 0)]) fun c1=>(O.a [.rows (O.p c1 0)])))
def PR:Nat→Env:=eL []
def Is:=oS R8 Id PR
def EK:List Nat:=[3,3]
def Bx (O:Alg) (x:Ags O):O.M:=let u0:=(lq9 O 0);(O.c (O.x (fun s0 c0=>let u1:=(O.f c0 0);(O.b (O.n u1 (O.l (x.L 0))) (O.k (O.r u1 (O.l (x.L 0))) (O.b (O.d (O.o (x.L 0) u1 0) (O.o (x.L 1) u0 0)) (O.a [.int u0,.int u1]) (s0 [.int (O.q .i64 u1 (lq9 O 1))]))) (O.a [.int (lq9 O 1)]))) [.int u0]) fun c0=>(O.b (O.aa c0 0) (O.a [.int (O.f c0 1)]) (O.a [.int (lq9 O (-1))])))
def Bl (N:Nat):Env:=fun f fns ls=>none
def Bz:=oS EK Bx Bl
def OM:List Nat:=[0,0,0,0,0,1,0,0,0,0,1,0,0,0]
def Fd (O:Alg) (x:Ags O):O.M:=(O.b (O.d (x.I 6) (O.lit .u8 0)) (O.a [.int (lq9 O 0)]) (O.b (O.d (x.I 7) (lq9 O 1)) (O.a [.int (x.I 12)]) (O.b (O.d (x.I 7) (lq9 O 2)) (O.a [.int (x.I 13)]) (O.a [.int (lq9 O 0)]))))
def Ml:Nat→Env:=eL []
def Fw:=oS OM Fd Ml
def NK:List Nat:=[2,0,0,0,0,0,0,0,1,0,0,0,0,3,3,0]
def G1 (O:Alg) (x:Ags O):O.M:=let u18:=(lq9 O 1);let u17:=(lq9 O 0);(O.c (O.g 27 [] (xr x [2,0,0,0,0,0,0,0,1,0,0,0,0,3,3] 0)) fun c0=>(O.b (O.h (O.d (O.f c0 0) u17)) (O.a [.rows O.y,.int (O.f c0 0)]) (O.c (O.g 17 [] [.rows (x.L 14)]) fun c1=>let u14:=(O.l (O.p c1 0));let u13:=(O.o (O.p c1 0) (x.I 15) 1);let u12:=(O.o (O.p c1 0) (x.I 15) 0);let u9:=(O.r (x.I 15) u14);let u6:=(O.ao (x.L 14) u12 u13);let u5:=(O.l u6);(O.b (O.i (O.n (x.I 15) u17) O.j (O.t u14 (x.I 15))) (O.a [.rows O.y,.int (lq9 O 2)]) (O.k u9 (O.k u9 (O.k (O.an u12 u13 (O.l (x.L 14))) (O.c (O.g 28 [] (ap O (xr x kR 0) [.rows u6])) fun c2=>(O.c (O.g 32 [] (xr x [2,0,0,0,0,0,0,0,1,0,0,0,0,3,3] 0)) fun c3=>let u20:=(O.p c3 0);let u15:=(O.l u20);(O.c (O.x (fun s4 c4=>let u23:=(O.p c4 1);let u19:=(O.f c4 0);let u11:=(O.o u20 u19 5);let u10:=(O.o u20 u19 12);let u7:=(O.q .i64 u19 u18);(O.b (O.n u19 u15) (O.k (O.r u19 u15) (O.b (O.h (O.d (O.o u20 u19 1) (x.I 15))) (s4 [.int u7,.rows u23]) (O.c (O.g 30 [31] [.rows u23,.rows (O.ac [[.int u11]])]) fun c5=>let u21:=(O.f c5 0);let u1:=(O.ab u23 u21 1 [.int (O.q .i64 (O.o u23 u21 1) (O.o u20 u19 20))]);(O.k (O.r u21 (O.l u23)) (O.c (O.b (O.rB u20 u19 27) (O.a [.rows (O.ab u1 u21 2 [.int (O.q .i64 (O.o u1 u21 2) u18)])]) (O.a [.rows u1])) fun c6=>let u24:=(O.p c6 0);(O.c (O.b (O.i (O.d (O.o u20 u19 9) (O.lit .u8 1)) (O.d (O.o u20 u19 10) u17) O.e) (O.b (O.d u10 (lq9 O 4)) (O.a [.rows (O.ab u24 u21 3 [.int (O.q .i64 (O.o u24 u21 3) u18)])]) (O.b (O.d u10 (lq9 O 6)) (O.a [.rows (O.ab u24 u21 4 [.int (O.q .i64 (O.o u24 u21 4) u18)])]) (O.a [.rows u24]))) (O.a [.rows u24])) fun c7=>let u27:=(O.p c7 0);(O.c (O.g 33 [] (ap O (rr O u20 u19 [0,0,0,0,0,1,0,0,0,0,1,0] 8) [.int u11,.int (O.o u20 u19 6)])) fun c8=>(O.b (O.n u17 (O.f c8 0)) (O.c (O.g 30 [31] [.rows u27,.rows (O.ac [[.int (O.f c8 0)]])]) fun c9=>let u26:=(O.f c9 0);let u0:=(O.ab (O.ab (O.ab u27 u26 5 [.bool O.j]) u26 6 [.int (O.o u20 u19 14)]) u26 8 [.int (O.o u20 u19 16)]);(O.k (O.r u26 (O.l u27)) (O.b (O.rB u20 u19 28) (s4 [.int u7,.rows (O.ab u0 u26 7 [.int (O.o u20 u19 4)])]) (s4 [.int u7,.rows u0])))) (s4 [.int u7,.rows u27]))))))))) (O.a [.rows u23]))) [.int u17,.rows (O.p c2 0)]) fun c4=>(O.c (O.x (fun s5 c5=>let u25:=(O.f c5 0);let u22:=(O.p c5 1);let u16:=(O.l u22);let u8:=(O.q .i64 u25 u18);let u4:=(O.rB u6 u25 4);let u3:=(O.o u6 u25 0);let u2:=(O.ac [[.int (O.o u6 u25 2)]]);(O.b (O.n u25 u5) (O.k (O.r u25 u5) (O.b (O.i (O.d u3 (O.lit .u8 5)) u4 O.e) (O.c (O.g 30 [31] [.rows u22,.rows u2]) fun c6=>(O.k (O.r (O.f c6 0) u16) (s5 [.int u8,.rows (O.ab (O.ab u22 (O.f c6 0) 5 [.bool O.j]) (O.f c6 0) 6 [.int (O.lit .u8 9)])]))) (O.b (O.i (O.d u3 (O.lit .u8 6)) (O.h u4) O.e) (O.c (O.g 30 [31] [.rows u22,.rows u2]) fun c6=>(O.k (O.r (O.f c6 0) u16) (s5 [.int u8,.rows (O.ab (O.ab u22 (O.f c6 0) 5 [.bool O.j]) (O.f c6 0) 6 [.int (O.lit .u8 10)])]))) (s5 [.int u8,.rows u22])))) (O.a [.rows u22]))) [.int u17,.rows (O.p c4 0)]) fun c5=>(O.a [.rows (O.p c5 0),.int u17]))))))))))))
def BN (N:Nat):Env:=fun f fns ls=>(cond (Nat.beq f 17&&Ag fns []) (Ei N ls) (cond (Nat.beq f 27&&Ag fns []) (KE N ls) (cond (Nat.beq f 28&&Ag fns []) (Is N ls) (cond (Nat.beq f 30&&Ag fns [31]) (Bz N ls) (cond (Nat.beq f 32&&Ag fns []) (HP N ls) (cond (Nat.beq f 33&&Ag fns []) (Fw N ls) none))))))
theorem OY {N ls}:BN N 17 [] ls=Ei N ls:=id rfl
theorem Qt {N ls}:BN N 27 [] ls=KE N ls:=id rfl
theorem Nm {N ls}:BN N 28 [] ls=Is N ls:=id rfl
theorem Hn {N ls}:BN N 30 [31] ls=Bz N ls:=id rfl
theorem RP {N ls}:BN N 32 [] ls=HP N ls:=id rfl
theorem Lo {N ls}:BN N 33 [] ls=Fw N ls:=id rfl
def CQ:=oS NK G1 BN
def KY:List Nat:=[3,3]
def Db (O:Alg) (x:Ags O):O.M:=let u0:=(O.l (x.L 0));(O.b (O.h (O.d u0 (O.l (x.L 1)))) (O.a [.bool O.e]) (O.c (O.x (fun s0 c0=>let u1:=(O.f c0 0);(O.b (O.n u1 u0) (O.k (O.r u1 u0) (O.k (O.r u1 (O.l (x.L 1))) (O.b (O.h (O.w (O.d (O.o (x.L 0) u1 0) (O.o (x.L 1) u1 0)) (O.w (O.d (O.o (x.L 0) u1 1) (O.o (x.L 1) u1 1)) (O.w (O.d (O.o (x.L 0) u1 2) (O.o (x.L 1) u1 2)) (O.w (O.d (O.o (x.L 0) u1 3) (O.o (x.L 1) u1 3)) (O.w (O.d (O.o (x.L 0) u1 4) (O.o (x.L 1) u1 4)) (O.w (O.ai (O.rB (x.L 0) u1 5) (O.rB (x.L 1) u1 5)) (O.w (O.d (O.o (x.L 0) u1 6) (O.o (x.L 1) u1 6)) (O.w (O.d (O.o (x.L 0) u1 7) (O.o (x.L 1) u1 7)) (O.w (O.d (O.o (x.L 0) u1 8) (O.o (x.L 1) u1 8)) (O.ai (O.rB (x.L 0) u1 9) (O.rB (x.L 1) u1 9)))))))))))) (O.a [.int (lq9 O 0),.bool O.e]) (s0 [.int (O.q .i64 u1 (lq9 O 1))])))) (O.a [.int (lq9 O 1)]))) [.int (lq9 O 0)]) fun c0=>(O.b (O.aa c0 0) (O.a [.bool (O.m c0 1)]) (O.a [.bool O.j]))))
def JC:Nat→Env:=eL []
def Ca:=oS KY Db JC
def U6:List Nat:=[2,3,0,0,0]
def U1 (O:Alg) (x:Ags O):O.M:=let u3:=(O.s ⟨#[32,40,99,41]⟩);let u2:=(O.s ⟨#[32,40,107,41]⟩);let u1:=(O.v .i64 (x.I 4) (lq9 O 1));let u0:=(O.rS (x.L 1) u1 0);(O.b (O.i (O.n (x.I 4) (lq9 O 1)) O.j (O.n (O.l (x.L 1)) (x.I 4))) (O.a [.str (O.s ⟨#[]⟩)]) (O.k (O.r u1 (O.l (x.L 1))) (O.c (O.b (O.d (x.I 4) (x.I 2)) (O.k (O.u (O.ae u0) 1) (O.k (O.u (O.ae u3) 1) (O.a [.str (O.ak u0 u3)]))) (O.a [.str u0])) fun c0=>let u4:=(O.cS c0 0);(O.b (O.d (x.I 4) (x.I 3)) (O.k (O.u (O.ae u4) 1) (O.k (O.u (O.ae u2) 1) (O.a [.str (O.ak u4 u2)]))) (O.a [.str u4])))))
def bD:Nat→Env:=eL []
def Km:=oS U6 U1 bD
def LZ:List Nat:=[3,2]
def LV (O:Alg) (x:Ags O):O.M:=(O.c (O.x (fun s0 c0=>let u0:=(O.f c0 0);(O.b (O.n u0 (O.l (x.L 0))) (O.k (O.r u0 (O.l (x.L 0))) (O.b (O.am (x.S 1) (O.rS (x.L 0) u0 0)) (O.a [.int (lq9 O 0),.int u0]) (s0 [.int (O.q .i64 u0 (lq9 O 1))]))) (O.a [.int (lq9 O 1)]))) [.int (lq9 O 0)]) fun c0=>(O.b (O.aa c0 0) (O.a [.int (O.f c0 1)]) (O.a [.int (lq9 O (-1))])))
def RW:Nat→Env:=eL []
def Gq:=oS LZ LV RW
def Iv:List Nat:=[3,2]
def JO (O:Alg) (x:Ags O):O.M:=(O.c (O.g 98 [] [.rows (x.L 0),.str (x.S 1)]) fun c0=>(O.a [.bool (O.t (lq9 O 0) (O.f c0 0))]))
def O0:Nat→Env:=eL [(98,Gq)]
def Es:=oS Iv JO O0
def U4:List Nat:=[2,3,0,0]
def U2 (O:Alg) (x:Ags O):O.M:=let u4:=(O.s ⟨#[]⟩);let u3:=(lq9 O 0);let u2:=(O.l (x.L 1));(O.c (O.g 73 [] [.str (x.S 0)]) fun c0=>(O.b (O.h (O.m c0 0)) (O.a [.int (lq9 O 5)]) (O.b (O.i (O.n u2 (lq9 O 2)) O.j (O.n (lq9 O 11) u2)) (O.a [.int (lq9 O 9)]) (O.c (O.x (fun s1 c1=>let u5:=(O.f c1 0);let u1:=(O.rS (x.L 1) u5 0);(O.b (O.n u5 u2) (O.k (O.r u5 u2) (O.c (O.g 73 [] [.str u1]) fun c2=>(O.b (O.h (O.m c2 0)) (O.a [.int u3,.int (lq9 O 5)]) (O.k (O.an u3 u5 u2) (O.c (O.g 74 [] [.rows (O.ao (x.L 1) u3 u5),.str u1]) fun c3=>(O.b (O.m c3 0) (O.a [.int u3,.int (lq9 O 7)]) (s1 [.int (O.q .i64 u5 (lq9 O 1))]))))))) (O.a [.int (lq9 O 1)]))) [.int u3]) fun c1=>(O.b (O.aa c1 0) (O.a [.int (O.f c1 1)]) (O.c (O.g 42 [] (ap O (xr x [2,3,0,0] 0) [.int (x.I 2)])) fun c2=>let u0:=(O.am (O.cS c2 0) u4);(O.c (O.b (O.h u0) (O.g 42 [] (ap O (xr x [2,3,0,0] 0) [.int (x.I 3)])) (O.a [.str u4])) fun c3=>(O.b (O.i u0 O.j (O.am (O.cS c3 0) u4)) (O.a [.int (lq9 O 6)]) (O.a [.int u3])))))))))
def aZ:Nat→Env:=eL [(42,Km),(73,GH),(74,Es)]
def VJ:=oS U4 U2 aZ
def Q0:List Nat:=[0,0,2,3,0,0]
def QE (O:Alg) (x:Ags O):O.M:=(O.a [.bool (O.i (O.t (x.I 1) (x.I 0)) (O.t (x.I 0) (O.l (x.L 3))) O.e)])
def Wb:Nat→Env:=eL []
def Qd:=oS Q0 QE Wb
def PM:List Nat:=[0,0,0,0,0,1,0,0,0,1]
def PG (O:Alg) (x:Ags O):O.M:=let u0:=(lq9 O 1000000);(O.a [.bool (O.i (O.i (O.i (O.t (lq9 O 0) (x.I 1)) (O.t (x.I 1) u0) O.e) (O.t (lq9 O 0) (x.I 2)) O.e) (O.t (x.I 2) u0) O.e)])
def VO:Nat→Env:=eL []
def PO:=oS PM PG VO
def QU:List Nat:=[0]
def QV (O:Alg) (x:Ags O):O.M:=(O.c (O.g 75 [] [.int (x.I 0)]) fun c0=>(O.a [.str (O.cS c0 1)]))
def Vz:Nat→Env:=eL [(75,DZ)]
def QY:=oS QU QV Vz
def Hl (N:Nat) (ls:List PV):Option (List PV):=pQ ls
def M7:List Nat:=[0,0]
def M6 (O:Alg) (x:Ags O):O.M:=(O.c (O.g 101 [] [.int (x.I 0),.int (x.I 1)]) fun c0=>(O.a [.str (O.cS c0 0)]))
def TR:Nat→Env:=eL [(101,Hl)]
def IK:=oS M7 M6 TR
def TA:List Nat:=[0]
def Sw (O:Alg) (x:Ags O):O.M:=(O.c (O.g 77 [] [.int (x.I 0),.int (lq9 O 10)]) fun c0=>(O.a [.str (O.cS c0 0)]))
def Y4:Nat→Env:=eL [(77,IK)]
def Tg:=oS TA Sw Y4
def Nc:List Nat:=[3,2,3,0,0,2,3,0,0]
def Nn (O:Alg) (x:Ags O):O.M:=let u30:=(lq9 O 1);let u29:=(O.s ⟨#[]⟩);let u28:=(lq9 O 0);let u27:=(O.s ⟨#[32,40]⟩);let u26:=(O.s ⟨#[58,32]⟩);let u24:=(O.s ⟨#[32,98,32]⟩);let u23:=(O.s ⟨#[32,99,32]⟩);let u12:=(O.ac [(xr x [2,3,0,0] 1),(xr x [2,3,0,0] 5)]);let u9:=(O.l u12);(O.c (O.x (fun s0 c0=>let u32:=(O.f c0 0);(O.b (O.n u32 u9) (O.k (O.r u32 u9) (O.c (O.g 37 [] (rr O u12 u32 [2,3,0,0] 0)) fun c1=>(O.b (O.h (O.d (O.f c1 0) u28)) (O.a [.int u28,.str u29,.int (O.f c1 0)]) (s0 [.int (O.q .i64 u32 u30)])))) (O.a [.int u30]))) [.int u28]) fun c0=>(O.b (O.aa c0 0) (O.a [.str (O.cS c0 1),.int (O.f c0 2)]) (O.c (O.x (fun s1 c1=>let u31:=(O.f c1 0);let u22:=(O.o (x.L 0) u31 6);let u21:=(O.o (x.L 0) u31 0);let u20:=(O.o (x.L 0) u31 8);let u19:=(O.o (x.L 0) u31 7);let u18:=(O.rB (x.L 0) u31 5);let u16:=(O.h u18);let u15:=(O.q .i64 u31 u30);(O.b (O.n u31 (O.l (x.L 0))) (O.k (O.r u31 (O.l (x.L 0))) (O.c (O.g 38 [] (ap O [.int u21,.int u30] (xr x [2,3,0,0] 1))) fun c2=>let u25:=(O.h (O.m c2 0));(O.c (O.b (O.h u25) (O.g 38 [] (ap O [.int u19,.int u28] (xr x [2,3,0,0] 5))) (O.a [.bool O.e])) fun c3=>let u10:=(O.i u25 O.j (O.h (O.m c3 0)));(O.c (O.b (O.h u10) (O.g 38 [] (ap O [.int u20,.int u28] (xr x [2,3,0,0] 5))) (O.a [.bool O.e])) fun c4=>let u5:=(O.i u10 O.j (O.h (O.m c4 0)));(O.c (O.b (O.h u5) (O.g 39 [] (rr O (x.L 0) u31 [0,0,0,0,0,1,0,0,0,1] 0)) (O.a [.bool O.e])) fun c5=>(O.b (O.i u5 O.j (O.h (O.m c5 0))) (O.a [.int u28,.str u29,.int (lq9 O 2)]) (O.c (O.b u18 (O.g 40 [] [.int u22]) (O.a [.str u29])) fun c6=>(O.b (O.i u18 (O.am (O.cS c6 0) u29) O.e) (O.a [.int u28,.str u29,.int (lq9 O 3)]) (O.c (O.g 42 [] (ap O (xr x [2,3,0,0] 1) [.int u21])) fun c7=>let u7:=(O.ad (O.p c1 2) (O.al (O.ak (O.cS c7 0) u26)));let u4:=(O.ad u7 (O.al (O.s ⟨#[68,73,68,32,78,79,84,32,66,65,84,10]⟩)));(O.k (O.u (O.ae (O.cS c7 0)) 1) (O.k (O.u (O.ae u26) 1) (O.k (O.u (O.l u7) 1) (O.b (O.i (O.h (O.rB (x.L 0) u31 9)) u16 O.e) (O.k (O.u (O.l u4) 1) (s1 [.int u15,.bool O.j,.rows u4])) (O.c (O.g 43 [] [.int (O.o (x.L 0) u31 1)]) fun c8=>let u14:=(O.ak (O.cS c8 0) u27);(O.k (O.u (O.ae (O.cS c8 0)) 1) (O.k (O.u (O.ae u27) 1) (O.c (O.g 43 [] [.int (O.o (x.L 0) u31 2)]) fun c9=>let u8:=(O.ak u14 (O.cS c9 0));let u17:=(O.ac [[.int (O.lit .u8 10)]]);let u3:=(O.ad u7 (O.al (O.ak u8 (O.s ⟨#[41]⟩))));let u1:=(O.ad u3 (O.al (O.s ⟨#[32,78,79,84,32,79,85,84,10]⟩)));(O.k (O.u (O.ae u14) 1) (O.k (O.u (O.ae (O.cS c9 0)) 1) (O.k (O.u (O.ae u8) 1) (O.k (O.u (O.ae (O.s ⟨#[41]⟩)) 1) (O.k (O.u (O.l u3) 1) (O.b u16 (O.k (O.u (O.l u1) 1) (s1 [.int u15,.bool O.j,.rows u1])) (O.c (O.g 40 [] [.int u22]) fun c10=>let u2:=(O.ad u3 (O.al (O.ak (O.s ⟨#[32]⟩) (O.cS c10 0))));(O.k (O.u (O.ae (O.s ⟨#[32]⟩)) 1) (O.k (O.u (O.ae (O.cS c10 0)) 1) (O.k (O.u (O.l u2) 1) (O.c (O.b (O.n u28 u20) (O.c (O.g 42 [] (ap O (xr x [2,3,0,0] 5) [.int u20])) fun c11=>let u0:=(O.ad u2 (O.al (O.ak u23 (O.cS c11 0))));(O.k (O.u (O.ae u23) 1) (O.k (O.u (O.ae (O.cS c11 0)) 1) (O.k (O.u (O.l u0) 1) (O.a [.bool O.j,.rows u0]))))) (O.a [.bool O.j,.rows u2])) fun c11=>let u11:=(O.ad (O.p c11 1) u17);(O.b (O.n u28 u19) (O.c (O.g 42 [] (ap O (xr x [2,3,0,0] 5) [.int u19])) fun c12=>let u6:=(O.ad (O.p c11 1) (O.al (O.ak u24 (O.cS c12 0))));let u13:=(O.ad u6 u17);(O.k (O.u (O.ae u24) 1) (O.k (O.u (O.ae (O.cS c12 0)) 1) (O.k (O.u (O.l u6) 1) (O.k (O.u (O.l u13) 1) (s1 [.int u15,.bool O.j,.rows u13])))))) (O.k (O.u (O.l u11) 1) (s1 [.int u15,.bool O.j,.rows u11]))))))))))))))))))))))))))))))) (O.a [.int u30,.bool O.j,.rows (O.p c1 2)]))) [.int u28,.bool O.j,.rows O.y]) fun c1=>(O.b (O.aa c1 0) (O.a [.str (O.cS c1 1),.int (O.f c1 2)]) (O.k (O.u (O.l (O.p c1 2)) 1) (O.k (O.av (O.p c1 2)) (O.a [.str (O.au (O.p c1 2)),.int u28])))))))
def Hi (N:Nat):Env:=fun f fns ls=>(cond (Nat.beq f 37&&Ag fns []) (VJ N ls) (cond (Nat.beq f 38&&Ag fns []) (Qd N ls) (cond (Nat.beq f 39&&Ag fns []) (PO N ls) (cond (Nat.beq f 40&&Ag fns []) (QY N ls) (cond (Nat.beq f 42&&Ag fns []) (Km N ls) (cond (Nat.beq f 43&&Ag fns []) (Tg N ls) none))))))
def El:=oS Nc Nn Hi
def X3:List Nat:=[]
def X0 (O:Alg) (x:Ags O):O.M:=let u1:=(lq9 O 0);let u0:=(lq9 O 1);(O.a [.str (O.s ⟨#[84,69,83,84]⟩),.int (lq9 O 2),.int u0,.int u0,.int (lq9 O 4),.int u1,.int u0,.int u0,.bool O.e,.int u1,.int u1,.int u1,.int (lq9 O 11),.rows O.y])
def eF:Nat→Env:=eL []
def KQ:=oS X3 X0 eF
def Xy:List Nat:=[0,0,0,0,0,1,0,0,0,0,1,0]
def YH (O:Alg) (x:Ags O):O.M:=let u0:=(lq9 O 0);(O.a (ap O [.int (O.lit .u8 4),.int u0,.int u0,.int u0,.bool O.e,.int u0,.int u0] (xr x [0,0,0,0,0,1,0,0,0,0,1,0] 0)))
def eE:Nat→Env:=eL []
def Sm:=oS Xy YH eE
def dQ:List Nat:=[]
def dS (O:Alg) (x:Ags O):O.M:=let u2:=(lq9 O 2);let u1:=(lq9 O 1);let u0:=(lq9 O 0);(O.c (O.g 60 [] [.int (O.lit .u8 1),.int (O.lit .u8 1),.int u1,.int u0,.int u0,.bool O.e,.int (O.lit .u8 0),.int u0,.int u0,.int u0,.bool O.e,.int u0]) fun c0=>(O.c (O.g 60 [] [.int (O.lit .u8 1),.int (O.lit .u8 0),.int u0,.int u0,.int u0,.bool O.e,.int (O.lit .u8 1),.int u1,.int u0,.int u0,.bool O.e,.int u0]) fun c1=>(O.c (O.g 60 [] [.int (O.lit .u8 2),.int (O.lit .u8 0),.int u0,.int u0,.int u0,.bool O.e,.int (O.lit .u8 0),.int u0,.int u0,.int u0,.bool O.e,.int u0]) fun c2=>(O.c (O.g 60 [] [.int (O.lit .u8 1),.int (O.lit .u8 1),.int u0,.int u0,.int (lq9 O 4),.bool O.e,.int (O.lit .u8 0),.int u0,.int u0,.int u0,.bool O.e,.int u0]) fun c3=>(O.a [.rows (O.ac [[.int (O.lit .u8 1),.int u1,.int u0,.int u0,.bool O.j,.int u0,.int u0,.int (O.lit .u8 0),.int (O.lit .u8 0),.int u0,.int u0,.int u0,.bool O.e,.int (O.lit .u8 0),.int u0,.int u0,.int u0,.bool O.e,.int u0],[.int (O.lit .u8 2),.int u0,.int u1,.int u2,.bool O.e,.int u0,.int u0,.int (O.lit .u8 0),.int (O.lit .u8 0),.int u0,.int u0,.int u0,.bool O.e,.int (O.lit .u8 0),.int u0,.int u0,.int u0,.bool O.e,.int u0],[.int (O.lit .u8 8),.int u0,.int u2,.int u0,.bool O.e,.int u0,.int u0,.int (O.lit .u8 0),.int (O.lit .u8 0),.int u0,.int u0,.int u0,.bool O.e,.int (O.lit .u8 0),.int u0,.int u0,.int u0,.bool O.e,.int u0],[.int (O.lit .u8 3),.int u0,.int u1,.int u0,.bool O.e,.int u0,.int u0,.int (O.lit .u8 0),.int (O.lit .u8 0),.int u0,.int u0,.int u0,.bool O.e,.int (O.lit .u8 0),.int u0,.int u0,.int u0,.bool O.e,.int u0],(cr O c0 [0,0,0,0,1,0,0,0,0,0,0,0,1,0,0,0,0,1,0] 0),(cr O c1 [0,0,0,0,1,0,0,0,0,0,0,0,1,0,0,0,0,1,0] 0),[.int (O.lit .u8 2),.int u0,.int u2,.int u1,.bool O.e,.int u0,.int u0,.int (O.lit .u8 0),.int (O.lit .u8 0),.int u0,.int u0,.int u0,.bool O.e,.int (O.lit .u8 0),.int u0,.int u0,.int u0,.bool O.e,.int u0],[.int (O.lit .u8 8),.int u0,.int u1,.int u0,.bool O.e,.int u0,.int u0,.int (O.lit .u8 0),.int (O.lit .u8 0),.int u0,.int u0,.int u0,.bool O.e,.int (O.lit .u8 0),.int u0,.int u0,.int u0,.bool O.e,.int u0],[.int (O.lit .u8 3),.int u0,.int u2,.int u0,.bool O.e,.int u0,.int u0,.int (O.lit .u8 0),.int (O.lit .u8 0),.int u0,.int u0,.int u0,.bool O.e,.int (O.lit .u8 0),.int u0,.int u0,.int u0,.bool O.e,.int u0],(cr O c2 [0,0,0,0,1,0,0,0,0,0,0,0,1,0,0,0,0,1,0] 0),(cr O c3 [0,0,0,0,1,0,0,0,0,0,0,0,1,0,0,0,0,1,0] 0)])])))))
def i7:Nat→Env:=eL [(60,Sm)]
def ON:=oS dQ dS i7
def X7:List Nat:=[]
def Nv (O:Alg) (x:Ags O):O.M:=let u3:=(lq9 O 2);let u2:=(lq9 O 1);let u1:=(lq9 O 0);(O.c (O.g 25 [] []) fun c0=>(O.c (O.g 26 [] []) fun c1=>(O.c (O.g 10 [] (ap O (cr O c0 kR 0) [.rows (O.p c1 0),.int u1])) fun c2=>(O.c (O.g 14 [] [.rows (O.p c2 0),.str (O.s ⟨#[79,65,75,83]⟩),.rows (O.ac [[.str (O.s ⟨#[65,78,78]⟩)],[.str (O.s ⟨#[66,79,66]⟩)]]),.int u2,.int u3,.str (O.s ⟨#[69,76,77,83]⟩),.rows (O.ac [[.str (O.s ⟨#[67,76,69,79]⟩)],[.str (O.s ⟨#[68,65,78]⟩)]]),.int u3,.int u3]) fun c3=>let u0:=(O.i (O.d (O.f c2 1) u1) (O.d (O.f c3 1) u1) O.e);(O.c (O.b u0 (O.g 12 [] [.rows (O.p c2 0),.rows (O.ac [[.int u2,.int u2,.int u2,.int u1,.int u1,.bool O.e,.int (O.lit .u8 0),.int u1,.int u1,.bool O.j],[.int u3,.int u1,.int u2,.int u1,.int u1,.bool O.j,.int (O.lit .u8 1),.int u2,.int u1,.bool O.j]])]) (O.a [.bool O.e])) fun c4=>(O.a [.bool (O.i (O.i u0 (O.m c4 0) O.e) (O.am (O.cS c3 0) (O.s ⟨#[65,78,78,32,40,99,41,58,32,49,32,40,49,41,32,78,79,84,32,79,85,84,10,66,79,66,32,40,107,41,58,32,48,32,40,49,41,32,66,79,87,76,69,68,32,98,32,67,76,69,79,10]⟩)) O.e)]))))))
def EE:Nat→Env:=eL [(10,CQ),(12,Ca),(14,El),(25,KQ),(26,ON)]
theorem Qj {N ls}:EE N 10 [] ls=CQ N ls:=id rfl
theorem LF {N ls}:EE N 12 [] ls=Ca N ls:=id rfl
theorem RG {N ls}:EE N 14 [] ls=El N ls:=id rfl
theorem TN {N ls}:EE N 25 [] ls=KQ N ls:=id rfl
theorem VS {N ls}:EE N 26 [] ls=ON N ls:=id rfl
def Ke:=oS X7 Nv EE
def WI:List Nat:=[3]
def OS (O:Alg) (x:Ags O):O.M:=let u1:=(O.l (x.L 0));let u0:=(O.ah (O.n (lq9 O 60) u1) (lq9 O 60) u1);(O.k (O.an (lq9 O 0) u0 u1) (O.a [.rows (O.ao (x.L 0) (lq9 O 0) u0)]))
def KW (N:Nat):Env:=fun f fns ls=>none
def OA:=oS WI OS KW
def KM:List Nat:=[3,0,0,0,0,0,1,0,0,0,1]
def Dc (O:Alg) (x:Ags O):O.M:=(O.c (O.x (fun s0 c0=>let u0:=(O.f c0 0);(O.b (O.n u0 (O.l (x.L 0))) (O.k (O.r u0 (O.l (x.L 0))) (O.b (O.w (O.d (x.I 1) (O.o (x.L 0) u0 0)) (O.w (O.d (x.I 2) (O.o (x.L 0) u0 1)) (O.w (O.d (x.I 3) (O.o (x.L 0) u0 2)) (O.w (O.d (x.I 4) (O.o (x.L 0) u0 3)) (O.w (O.d (x.I 5) (O.o (x.L 0) u0 4)) (O.w (O.ai (x.B 6) (O.rB (x.L 0) u0 5)) (O.w (O.d (x.I 7) (O.o (x.L 0) u0 6)) (O.w (O.d (x.I 8) (O.o (x.L 0) u0 7)) (O.w (O.d (x.I 9) (O.o (x.L 0) u0 8)) (O.ai (x.B 10) (O.rB (x.L 0) u0 9))))))))))) (O.a [.int (lq9 O 0),.int u0]) (s0 [.int (O.q .i64 u0 (lq9 O 1))]))) (O.a [.int (lq9 O 1)]))) [.int (lq9 O 0)]) fun c0=>(O.b (O.aa c0 0) (O.a [.int (O.f c0 1)]) (O.a [.int (lq9 O (-1))])))
def JB:Nat→Env:=eL []
def Cb:=oS KM Dc JB
def IW:List Nat:=[3,0,0,0,0,0,1,0,0,0,1]
def Cw (O:Alg) (x:Ags O):O.M:=(O.c (O.g 52 [] (xr x [3,0,0,0,0,0,1,0,0,0,1] 0)) fun c0=>(O.a [.bool (O.t (lq9 O 0) (O.f c0 0))]))
def Dy:Nat→Env:=eL [(52,Cb)]
theorem FU {N ls}:Dy N 52 [] ls=Cb N ls:=id rfl
def CF:=oS IW Cw Dy
def Iw:List Nat:=[2,0,0,0,0,0,0,0,1,0,0,0,0,3,3]
def Ds (O:Alg) (x:Ags O):O.M:=let u9:=(lq9 O 1);let u8:=(lq9 O 0);(O.c (O.g 8 [] []) fun c0=>(O.b (O.h (O.m c0 0)) (O.a [.bool O.e]) (O.c (O.g 9 [] [.rows (x.L 14)]) fun c1=>let u5:=(O.l (O.p c1 0));let u2:=(O.v .i64 u5 u9);let u1:=(O.ao (O.p c1 0) u8 u2);let u0:=(O.an u8 u2 u5);(O.b (O.d u5 u8) (O.a [.bool O.j]) (O.k u0 (O.c (O.g 17 [] [.rows u1]) fun c2=>let u6:=(O.l (O.p c2 0));(O.c (O.x (fun s3 c3=>let u10:=(O.f c3 0);(O.b (O.n u10 u6) (O.k u0 (O.c (O.g 10 [] (ap O (xr x kR 0) [.rows u1,.int u10])) fun c4=>let u7:=(O.l (O.p c4 0));(O.c (O.g 10 [] (ap O (xr x kR 0) [.rows (O.p c1 0),.int u10])) fun c5=>let u3:=(O.h (O.d (O.f c5 1) u8));(O.b (O.i (O.h (O.d (O.f c4 1) u8)) O.j u3) (O.a [.int u8,.bool u3]) (O.c (O.x (fun s6 c6=>let u11:=(O.f c6 1);let u4:=(O.q .i64 u11 u9);(O.b (O.n u11 u7) (O.k (O.r u11 u7) (O.c (O.g 18 [] (ap O [.rows (O.p c5 0)] (rr O (O.p c4 0) u11 [0,0,0,0,0,1,0,0,0,1] 0))) fun c7=>(O.b (O.h (O.m c7 0)) (s6 [.int (O.q .i64 (O.f c6 0) u9),.int u4]) (s6 [.int (O.f c6 0),.int u4])))) (O.a [.int (O.f c6 0),.int u11]))) [.int u8,.int u8]) fun c6=>(O.b (O.i (O.n (lq9 O 2) (O.f c6 0)) O.j (O.i (O.n u10 (O.v .i64 u6 u9)) (O.n u8 (O.f c6 0)) O.e)) (O.a [.int u8,.bool O.e]) (s3 [.int (O.q .i64 u10 u9)]))))))) (O.a [.int u9]))) [.int u8]) fun c3=>(O.b (O.aa c3 0) (O.a [.bool (O.m c3 1)]) (O.a [.bool O.j])))))))))
def A9 (N:Nat):Env:=fun f fns ls=>(cond (Nat.beq f 8&&Ag fns []) (Ke N ls) (cond (Nat.beq f 9&&Ag fns []) (OA N ls) (cond (Nat.beq f 10&&Ag fns []) (CQ N ls) (cond (Nat.beq f 17&&Ag fns []) (Ei N ls) (cond (Nat.beq f 18&&Ag fns []) (CF N ls) none)))))
theorem NI {N ls}:A9 N 8 [] ls=Ke N ls:=id rfl
theorem Ow {N ls}:A9 N 9 [] ls=OA N ls:=id rfl
theorem C0 {N ls}:A9 N 10 [] ls=CQ N ls:=id rfl
theorem Ly {N ls}:A9 N 17 [] ls=Ei N ls:=id rfl
theorem Gh {N ls}:A9 N 18 [] ls=CF N ls:=id rfl
def Du:=oS Iw Ds A9
end Go.Px
