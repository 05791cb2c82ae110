/- Part 10. -/
import Derived.Test.YtkknkmdpelogmaaGreatDoorPart09
set_option linter.unusedVariables false
set_option linter.unusedSimpArgs false
namespace Go.Px
set_option maxRecDepth 100000
def Y9:List Nat:=[3]
def lq9(O:Alg)(n:Int):O.I:=O.lit .i64 n
def MV(O:Alg)(x:Ags O):O.M:=let u4:=(O.l (x.L 0));(O.c (O.v (fun s0 c0=>let u6:=(O.j c0 0);let u5:=(O.d c0 1);let u3:=(O.l u6);let u2:=(O.p .i64 u5 (lq9 O 1));let u1:=(O.x .i64 u3 (lq9 O 1));(O.b (O.n u5 u4) (O.i (O.q u5 u4) (O.b (O.h (O.e (O.m (x.L 0) u5 0) (O.lit .u8 2))) (s0 [.rows u6,.int u2]) (O.c (O.b (O.n (lq9 O 0) u3) (O.i (O.q u1 u3) (O.a [.rows (O.w u6 u1 1 [.int u5])])) (O.a [.rows u6])) fun c1=>let u0:=(O.ac (O.j c1 0) (O.z [[.int u5,.int u4]]));(O.i (O.s (O.l u0) 16) (s0 [.rows u0,.int u2]))))) (O.a [.rows u6]))) [.rows O.u,.int (lq9 O 0)]) fun c0=>(O.a [.rows (O.j c0 0)]))
def Vx:Nat→Env:=eL []
def Ay:=oS Y9 MV Vx
def gm:List Nat:=[2]
def Rq(O:Alg)(x:Ags O):O.M:=let u4:=(lq9 O 1);let u3:=(lq9 O 0);let u2:=(O.bd (x.S 0));let u1:=(O.l u2);(O.c (O.v (fun s0 c0=>let u5:=(O.d c0 0);let u0:=(O.m u2 u5 0);(O.b (O.n u5 u1) (O.i (O.q u5 u1) (O.b (O.k (O.h (O.k (O.le (O.lit .u8 65) u0) (O.le u0 (O.lit .u8 90)) O.g)) (O.k (O.e u5 u3) O.o (O.k (O.k (O.h (O.e u0 (O.lit .u8 95))) (O.h (O.e u0 (O.lit .u8 45))) O.g) (O.k (O.n u0 (O.lit .u8 48)) O.o (O.n (O.lit .u8 57) u0)) O.g)) O.g) (O.a [.int u3,.bool O.g]) (s0 [.int (O.p .i64 u5 u4)]))) (O.a [.int u4]))) [.int u3]) fun c0=>(O.b (O.ad c0 0) (O.a [.bool (O.r c0 1)]) (O.a [.bool (O.k (O.le u4 (O.y (x.S 0))) (O.le (O.y (x.S 0)) (lq9 O 16)) O.g)])))
def bN:Nat→Env:=eL []
def Mm:=oS gm Rq bN
def XQ:List Nat:=[0,0,0]
def XK(O:Alg)(x:Ags O):O.M:=(O.a [.bool (O.k (O.le (x.I 1) (x.I 0)) (O.le (x.I 0) (x.I 2)) O.g)])
def gJ:Nat→Env:=eL []
def DR:=oS XQ XK gJ
def W4:List Nat:=[2,0,0,0,0,0,0,0,1,0,0,0,0,3]
def Ki(O:Alg)(x:Ags O):O.M:=let u10:=(lq9 O 1);let u9:=(lq9 O 0);(O.c (O.f 69 [] [.int (x.I 1),.int (lq9 O 2),.int (lq9 O 11)]) fun c0=>(O.c (O.b (O.r c0 0) (O.f 69 [] [.int (x.I 2),.int u10,.int (lq9 O 2)]) (O.a [.bool O.g])) fun c1=>let u8:=(O.k (O.r c0 0) (O.r c1 0) O.g);(O.c (O.b u8 (O.f 69 [] [.int (x.I 3),.int u9,.int (lq9 O 90)]) (O.a [.bool O.g])) fun c2=>let u7:=(O.k u8 (O.r c2 0) O.g);(O.c (O.b u7 (O.f 69 [] [.int (x.I 4),.int (lq9 O 4),.int (lq9 O 8)]) (O.a [.bool O.g])) fun c3=>let u6:=(O.k u7 (O.r c3 0) O.g);(O.c (O.b u6 (O.f 69 [] [.int (x.I 5),.int u9,.int (lq9 O 90)]) (O.a [.bool O.g])) fun c4=>let u5:=(O.k u6 (O.r c4 0) O.g);(O.c (O.b u5 (O.f 69 [] [.int (x.I 6),.int u10,.int (lq9 O 5)]) (O.a [.bool O.g])) fun c5=>let u4:=(O.k u5 (O.r c5 0) O.g);(O.c (O.b u4 (O.f 69 [] [.int (x.I 7),.int u10,.int (lq9 O 5)]) (O.a [.bool O.g])) fun c6=>let u3:=(O.k u4 (O.r c6 0) O.g);(O.c (O.b u3 (O.f 69 [] [.int (x.I 9),.int u9,.int (lq9 O 200)]) (O.a [.bool O.g])) fun c7=>let u2:=(O.k u3 (O.r c7 0) O.g);(O.c (O.b u2 (O.f 69 [] [.int (x.I 10),.int u9,.int (lq9 O 1000)]) (O.a [.bool O.g])) fun c8=>let u1:=(O.k u2 (O.r c8 0) O.g);(O.c (O.b u1 (O.f 69 [] [.int (x.I 11),.int u9,.int (lq9 O 9)]) (O.a [.bool O.g])) fun c9=>let u0:=(O.k u1 (O.r c9 0) O.g);(O.c (O.b u0 (O.f 69 [] [.int (x.I 12),.int u9,.int (lq9 O 11)]) (O.a [.bool O.g])) fun c10=>(O.a [.bool (O.k u0 (O.r c10 0) O.g)]))))))))))))
def MX:Nat→Env:=eL [(69,DR)]
def HO:=oS W4 Ki MX
def YT:List Nat:=[2,0,0,0,0,0,0,0,1,0,0,0,0,3]
def Lr(O:Alg)(x:Ags O):O.M:=let u7:=(lq9 O 1);let u6:=(lq9 O 0);let u5:=(O.l (x.L 13));(O.b (O.n (lq9 O 8) u5) (O.a [.int (lq9 O 9)]) (O.c (O.v (fun s0 c0=>let u8:=(O.d c0 0);let u4:=(O.m (x.L 13) u8 1);let u3:=(O.m (x.L 13) u8 0);let u2:=(O.n u6 u8);let u1:=(O.x .i64 u8 u7);let u0:=(O.k (O.k (O.n u3 u7) O.o (O.n u4 u3)) O.o (O.n (x.I 3) u4));(O.b (O.n u8 u5) (O.i (O.q u8 u5) (O.c (O.b (O.h u0) (O.f 69 [] [.int (O.m (x.L 13) u8 2),.int u6,.int (lq9 O 11)]) (O.a [.bool O.g])) fun c1=>(O.b (O.k u0 O.o (O.h (O.r c1 0))) (O.a [.int u6,.int (lq9 O 2)]) (O.i (O.h (O.af u2 (O.h (O.q u1 u5)))) (O.b (O.k u2 (O.le u3 (O.m (x.L 13) u1 1)) O.g) (O.a [.int u6,.int (lq9 O 8)]) (s0 [.int (O.p .i64 u8 u7)])))))) (O.a [.int u7]))) [.int u6]) fun c0=>(O.b (O.ad c0 0) (O.a [.int (O.d c0 1)]) (O.a [.int u6]))))
def OA:Nat→Env:=eL [(69,DR)]
def Iw:=oS YT Lr OA
def bJ:List Nat:=[2,0,0,0,0,0,0,0,1,0,0,0,0,3]
def NI(O:Alg)(x:Ags O):O.M:=let u2:=(lq9 O 0);let u1:=(O.h (O.e (x.I 5) u2));let u0:=(O.k (O.h (O.e (x.I 10) u2)) (O.e (x.I 2) (lq9 O 1)) O.g);(O.c (O.f 61 [] [.str (x.S 0)]) fun c0=>(O.b (O.h (O.r c0 0)) (O.a [.int (lq9 O 5)]) (O.c (O.f 62 [] (xr x kR 0)) fun c1=>(O.b (O.h (O.r c1 0)) (O.a [.int (lq9 O 2)]) (O.c (O.b u0 (O.a [.bool u0]) (O.a [.bool (O.k (O.k u1 O.o (O.n u2 (O.l (x.L 13)))) (O.e (x.I 3) u2) O.g)])) fun c2=>(O.b (O.r c2 0) (O.a [.int (lq9 O 1)]) (O.b (O.k u1 (O.n (O.ak .i64 (x.I 5) (x.I 1)) (x.I 3)) O.g) (O.a [.int (lq9 O 13)]) (O.c (O.f 63 [] (xr x kR 0)) fun c3=>(O.a [.int (O.d c3 0)])))))))))
def Hf:Nat→Env:=eL [(61,Mm),(62,HO),(63,Iw)]
def Ab:=oS bJ NI Hf
def D4(N:Nat)(ls:List PV):Option (List PV):=SE 24 ls
def bm:List Nat:=[2,0,0,0,0,0,0,0,1,0,0,0,0,3]
def Nf(O:Alg)(x:Ags O):O.M:=(O.c (O.f 73 [] [.rows (x.L 13)]) fun c0=>(O.a (ap O (xr x [2,0,0,0,0,0,0,0,1,0,0,0,0] 0) [.rows (O.j c0 0)])))
def P7:Nat→Env:=eL [(73,D4)]
theorem N4{N ls}:P7 N 73 [] ls=D4 N ls:=id rfl
def EK:=oS bm Nf P7
def ga:List Nat:=[2,0,0,0,0,0,0,0,1,0,0,0,0,3]
def Ri(O:Alg)(x:Ags O):O.M:=let u0:=(lq9 O 0);(O.c (O.f 47 [] (xr x kR 0)) fun c0=>(O.b (O.h (O.e (O.d c0 0) u0)) (O.a [.str (O.t ⟨#[]⟩),.int u0,.int u0,.int u0,.int u0,.int u0,.int u0,.int u0,.bool O.g,.int u0,.int u0,.int u0,.int u0,.rows O.u,.int (O.lit .u8 0),.int u0,.bool O.g,.rows O.u,.int u0,.int u0,.int (O.lit .u8 0),.int u0,.int u0,.int (O.d c0 0)]) (O.c (O.f 67 [] (xr x kR 0)) fun c1=>(O.a (ap O (cr O c1 kR 0) [.int (O.lit .u8 1),.int u0,.bool O.g,.rows O.u,.int u0,.int u0,.int (O.lit .u8 0),.int u0,.int u0,.int u0])))))
def NZ:Nat→Env:=eL [(47,Ab),(67,EK)]
theorem WY{N ls}:NZ N 47 [] ls=Ab N ls:=id rfl
theorem WW{N ls}:NZ N 67 [] ls=EK N ls:=id rfl
def Rr:=oS ga Ri NZ
def Tb:List Nat:=[0,0,0]
def TX(O:Alg)(x:Ags O):O.M:=(O.a [.bool (O.k (O.le (x.I 1) (x.I 0)) (O.le (x.I 0) (x.I 2)) O.g)])
def cX:Nat→Env:=eL []
def Az:=oS Tb TX cX
def Tg:List Nat:=[0,0,0,0,0,0,0,0,0,0,0,0,0,0,3,0,3,3,1,3,1,0,0,0,3,0,0,0,0]
def IG(O:Alg)(x:Ags O):O.M:=let u5:=(lq9 O 1);let u4:=(lq9 O 0);let u0:=(O.h (O.e (x.I 12) u4));(O.c (O.v (fun s0 c0=>let u8:=(O.d c0 1);let u7:=(O.d c0 0);let u6:=(O.d c0 3);let u2:=(O.m (x.L 14) u6 0);let u9:=(O.k (O.r c0 2) O.o (O.h (O.e u2 (O.lit .u8 0))));let u1:=(O.p .i64 u6 u5);(O.b (O.n u6 (O.l (x.L 14))) (O.i (O.q u6 (O.l (x.L 14))) (O.b (O.n (O.lit .u8 3) u2) (O.a [.int u4,.bool O.g]) (O.b (O.e u2 (O.lit .u8 1)) (O.b (O.k (O.h (O.e (x.I 12) u1)) (O.h (O.e (x.I 13) u1)) O.g) (O.a [.int u4,.bool O.g]) (s0 [.int u7,.int (O.p .i64 u8 u5),.bool u9,.int u1])) (O.b (O.e u2 (O.lit .u8 2)) (s0 [.int (O.p .i64 u7 u5),.int u8,.bool u9,.int u1]) (s0 [.int u7,.int u8,.bool u9,.int u1]))))) (O.a (ap O [.int u5] (cr O c0 [0,0,1] 0))))) [.int u4,.int u4,.bool O.g,.int u4]) fun c0=>(O.b (O.ad c0 0) (O.a [.bool (O.r c0 1)]) (O.c (O.f 106 [] [.int (x.I 12),.int u4,.int (x.I 28)]) fun c1=>let u3:=(O.h (O.r c1 0));(O.c (O.b (O.h u3) (O.f 106 [] [.int (x.I 13),.int u4,.int (x.I 28)]) (O.a [.bool O.g])) fun c2=>(O.b (O.k (O.k u3 O.o (O.h (O.r c2 0))) O.o (O.k (O.e (x.I 12) (x.I 13)) u0 O.g)) (O.a [.bool O.g]) (O.c (O.b u0 (O.a [.int (O.p .i64 u4 u5)]) (O.a [.int u4])) fun c3=>(O.c (O.b (O.h (O.e (x.I 13) u4)) (O.a [.int (O.p .i64 (O.d c3 0) u5)]) (O.a [.int (O.d c3 0)])) fun c4=>(O.a [.bool (O.k (O.k (O.e (O.d c4 0) (O.d c0 2)) (O.k (O.h (O.r c0 3)) O.o (O.n u4 (O.d c4 0))) O.g) (O.e (O.d c0 1) (x.I 4)) O.g)]))))))))
def KP:Nat→Env:=eL [(106,Az)]
def Fc:=oS Tg IG KP
def SS:List Nat:=[3,0]
def HT(O:Alg)(x:Ags O):O.M:=(O.c (O.v (fun s0 c0=>let u0:=(O.d c0 0);(O.b (O.n u0 (O.l (x.L 0))) (O.i (O.q u0 (O.l (x.L 0))) (O.b (O.e (x.I 1) (O.m (x.L 0) u0 0)) (O.a [.int (lq9 O 0),.int u0]) (s0 [.int (O.p .i64 u0 (lq9 O 1))]))) (O.a [.int (lq9 O 1)]))) [.int (lq9 O 0)]) fun c0=>(O.b (O.ad c0 0) (O.a [.int (O.d c0 1)]) (O.a [.int (lq9 O (-1))])))
def PL:Nat→Env:=eL []
def E7:=oS SS HT PL
def OM:List Nat:=[3,0]
def FF(O:Alg)(x:Ags O):O.M:=(O.c (O.f 130 [] [.rows (x.L 0),.int (x.I 1)]) fun c0=>(O.a [.bool (O.le (lq9 O 0) (O.d c0 0))]))
def Gx:Nat→Env:=eL [(130,E7)]
def A8:=oS OM FF Gx
def Qa:List Nat:=[3,0]
def Gj(O:Alg)(x:Ags O):O.M:=let u5:=(lq9 O 1);let u4:=(lq9 O 0);let u3:=(O.l (x.L 0));(O.c (O.v (fun s0 c0=>let u6:=(O.d c0 0);let u1:=(O.m (x.L 0) u6 0);(O.b (O.n u6 u3) (O.i (O.q u6 u3) (O.c (O.f 106 [] [.int u1,.int u5,.int (x.I 1)]) fun c1=>let u2:=(O.h (O.r c1 0));let u0:=(O.h u2);(O.i (O.h (O.af u0 (O.h (O.al u4 u6 u3)))) (O.c (O.b u0 (O.f 121 [] [.rows (O.ai (x.L 0) u4 u6),.int u1]) (O.a [.bool O.g])) fun c2=>(O.b (O.k u2 O.o (O.r c2 0)) (O.a [.int u4,.bool O.g]) (s0 [.int (O.p .i64 u6 u5)])))))) (O.a [.int u5]))) [.int u4]) fun c0=>(O.b (O.ad c0 0) (O.a [.bool (O.r c0 1)]) (O.a [.bool O.o])))
def FK:Nat→Env:=eL [(106,Az),(121,A8)]
def Ea:=oS Qa Gj FK
def Qb:List Nat:=[0]
def Gi(O:Alg)(x:Ags O):O.M:=(O.c (O.f 106 [] [.int (x.I 0),.int (lq9 O 0),.int (lq9 O 1000000000)]) fun c0=>(O.a [.bool (O.h (O.r c0 0))]))
def IU:Nat→Env:=eL [(106,Az)]
def Ec:=oS Qb Gi IU
def TQ:List Nat:=[0,0,0,0,0,0,0,0,0,0,0,0,0,0,3,0,3,3,1,3,1,0,0,0,3,0,0,0]
def IH(O:Alg)(x:Ags O):O.M:=let u2:=(lq9 O 0);let u1:=(O.ac (O.z [[.int (x.I 1)],[.int (x.I 3)],[.int (x.I 5)],[.int (x.I 6)],[.int (x.I 7)],[.int (x.I 8)],[.int (x.I 9)],[.int (x.I 10)],[.int (x.I 21)],[.int (x.I 23)],[.int (x.I 25)],[.int (x.I 26)]]) (x.L 19));let u0:=(O.l u1);(O.i (O.s u0 8) (O.c (O.c (O.v (fun s0 c0=>let u3:=(O.d c0 0);(O.b (O.n u3 u0) (O.i (O.q u3 u0) (O.c (O.f 123 [] [.int (O.m u1 u3 0)]) fun c1=>(O.b (O.r c1 0) (O.a [.int u2,.int u3]) (s0 [.int (O.p .i64 u3 (lq9 O 1))])))) (O.a [.int (lq9 O 1)]))) [.int u2]) fun c0=>(O.b (O.ad c0 0) (O.a [.int (O.d c0 1)]) (O.a [.int (lq9 O (-1))]))) fun c0=>(O.a [.bool (O.h (O.le u2 (O.d c0 0)))])))
def KJ:Nat→Env:=eL [(123,Ec)]
def Fm:=oS TQ IH KJ
def Wn:List Nat:=[2,0,0,0,0,0,0,0,1,0,0,0,0,3,0,0,0,0,0,0,0,0,0,0,0,0,0,0,3,0,3,3,1,3,1,0,0,0,3,0,0,0]
def Ke(O:Alg)(x:Ags O):O.M:=let u11:=(lq9 O 1);let u10:=(lq9 O 0);let u8:=(O.e (x.I 3) u10);let u7:=(O.h u8);let u4:=(O.k u8 (O.e (x.I 16) u10) O.g);(O.c (O.f 47 [] (xr x kR 0)) fun c0=>let u6:=(O.h (O.e (O.d c0 0) u10));(O.c (O.b (O.h u6) (O.f 106 [] [.int (x.I 14),.int u11,.int (lq9 O 2)]) (O.a [.bool O.g])) fun c1=>(O.b (O.k u6 O.o (O.h (O.r c1 0))) (O.a [.bool O.g]) (O.b (O.k (O.k (O.k (O.h (O.e (O.l (x.L 28)) (x.I 1))) O.o (O.h (O.e (O.l (x.L 33)) (x.I 1)))) O.o (O.h (O.e (O.l (x.L 38)) (x.I 1)))) O.o (O.n (O.lit .u8 5) (x.I 41))) (O.a [.bool O.g]) (O.c (O.f 107 [] (ap O (xr x kI 14) [.int (x.I 1)])) fun c2=>let u9:=(O.h (O.r c2 0));(O.c (O.b (O.h u9) (O.f 106 [] [.int (x.I 29),.int u10,.int (x.I 1)]) (O.a [.bool O.g])) fun c3=>let u5:=(O.k u9 O.o (O.h (O.r c3 0)));(O.c (O.b (O.h u5) (O.f 106 [] [.int (x.I 36),.int u10,.int (x.I 1)]) (O.a [.bool O.g])) fun c4=>let u3:=(O.k u5 O.o (O.h (O.r c4 0)));(O.c (O.b (O.h u3) (O.f 108 [] [.rows (x.L 30),.int (x.I 1)]) (O.a [.bool O.g])) fun c5=>let u2:=(O.k u3 O.o (O.h (O.r c5 0)));(O.c (O.b (O.h u2) (O.f 108 [] [.rows (x.L 31),.int (x.I 1)]) (O.a [.bool O.g])) fun c6=>(O.b (O.k u2 O.o (O.h (O.r c6 0))) (O.a [.bool O.g]) (O.c (O.b (O.af (O.h u4) u7) (O.f 106 [] [.int (x.I 16),.int u11,.int (x.I 3)]) (O.a [.bool O.g])) fun c7=>let u1:=(O.k u4 O.o (O.k u7 (O.r c7 0) O.g));(O.c (O.b u1 (O.f 106 [] [.int (x.I 25),.int u10,.int (O.x .i64 (x.I 4) u11)]) (O.a [.bool O.g])) fun c8=>let u0:=(O.k u1 (O.r c8 0) O.g);(O.c (O.b u0 (O.f 109 [] (xr x kI 14)) (O.a [.bool O.g])) fun c9=>(O.a [.bool (O.k u0 (O.r c9 0) O.g)]))))))))))))))
def DQ:Nat→Env:=eL [(47,Ab),(106,Az),(107,Fc),(108,Ea),(109,Fm)]
def Bl:=oS Wn Ke DQ
def bG:List Nat:=[0]
def bz(O:Alg)(x:Ags O):O.M:=(O.a [.int (O.x .i64 (lq9 O 3) (x.I 0))])
def mA:Nat→Env:=eL []
def Bm:=oS bG bz mA
def bK:List Nat:=[2,0,0,0,0,0,0,0,1,0,0,0,0,3,0,0,1,3,0,0,0,0,0,0]
def NE(O:Alg)(x:Ags O):O.M:=let u0:=(lq9 O 2);(O.c (O.b (O.k (x.B 16) (O.le u0 (x.I 23)) O.g) (O.a [.bool (O.e (x.I 23) u0)]) (O.a [.bool (O.e (O.as .i64 (x.I 23) u0) (lq9 O 1))])) fun c0=>(O.b (O.r c0 0) (O.c (O.f 97 [] [.int (x.I 15)]) fun c1=>(O.a [.int (O.d c1 0)])) (O.a [.int (x.I 15)])))
def Ou:Nat→Env:=eL [(97,Bm)]
theorem Tx{N ls}:Ou N 97 [] ls=Bm N ls:=id rfl
def EN:=oS bK NE Ou
def bq:List Nat:=[2,0,0,0,0,0,0,0,1,0,0,0,0,3,0,0,1,3,0,0,0,0,0]
def NP(O:Alg)(x:Ags O):O.M:=let u2:=(lq9 O 0);let u1:=(lq9 O 1);let u0:=(O.l (x.L 17));(O.c (O.v (fun s0 c0=>let u3:=(O.d c0 0);(O.b (O.n u3 u0) (O.i (O.q u3 u0) (O.b (O.h (O.ao (O.e (O.m (x.L 17) u3 27) (O.lit .u8 0)) (O.k (O.e (x.I 14) (O.lit .u8 3)) (O.e u3 (O.x .i64 u0 u1)) O.g))) (O.a [.int u2,.bool O.g]) (s0 [.int (O.p .i64 u3 u1)]))) (O.a [.int u1]))) [.int u2]) fun c0=>(O.b (O.ad c0 0) (O.a [.bool (O.r c0 1)]) (O.a [.bool (O.k (O.h (O.e (x.I 14) (O.lit .u8 3))) O.o (O.n u2 u0))])))
def XD:Nat→Env:=eL []
def Jw:=oS bq NP XD
def bM:List Nat:=[2,0,0,0,0,0,0,0,1,0,0,0,0,3,0,0,1,3,0,0,0,0,0]
def NX(O:Alg)(x:Ags O):O.M:=let u8:=(lq9 O 1);let u9:=(O.e (x.I 14) (O.lit .u8 1));let u7:=(lq9 O 2);let u6:=(lq9 O 0);let u5:=(O.l (x.L 17));let u3:=(O.e (x.I 15) u6);let u2:=(O.ak .i64 u7 (x.I 2));let u1:=(O.h (O.e (x.I 2) u7));(O.c (O.f 47 [] (xr x kR 0)) fun c0=>(O.b (O.k (O.k (O.h (O.e (O.d c0 0) u6)) O.o (O.n (x.I 14) (O.lit .u8 1))) O.o (O.n (O.lit .u8 5) (x.I 14))) (O.a [.bool O.g]) (O.c (O.v (fun s1 c1=>let u11:=(O.d c1 0);let u0:=(O.aj (O.e u11 u8) (x.I 19) (x.I 18));(O.b (O.n u11 u7) (O.i (O.q u11 u7) (O.b (O.k (O.n u0 u6) O.o (O.n (lq9 O 1000000) u0)) (O.a [.int u6,.bool O.g]) (s1 [.int (O.p .i64 u11 u8)]))) (O.a [.int u8]))) [.int u6]) fun c1=>(O.b (O.ad c1 0) (O.a [.bool (O.r c1 1)]) (O.b (O.k (O.k (O.n (x.I 15) u6) O.o (O.n u7 (x.I 15))) O.o (O.n u2 u5)) (O.a [.bool O.g]) (O.b (O.k u3 (O.k (O.n u6 u5) O.o (O.k (O.h u9) (O.h (O.e (x.I 14) (O.lit .u8 5))) O.g)) O.g) (O.a [.bool O.g]) (O.b (O.k u9 (O.h u3) O.g) (O.a [.bool O.g]) (O.b (O.k (O.e (x.I 14) (O.lit .u8 2)) (O.e u5 u2) O.g) (O.a [.bool O.g]) (O.b (O.k (O.e (x.I 14) (O.lit .u8 4)) (O.k u1 O.o (O.h (O.e u5 u7))) O.g) (O.a [.bool O.g]) (O.b (O.k (x.B 16) (O.k u1 O.o (O.n u5 u7)) O.g) (O.a [.bool O.g]) (O.c (O.v (fun s2 c2=>let u10:=(O.d c2 0);(O.b (O.n u10 u5) (O.i (O.q u10 u5) (O.c (O.f 90 [] (ap O (xr x kR 0) (rr O (x.L 17) u10 kI 0))) fun c3=>let u4:=(O.h (O.r c3 0));(O.c (O.b (O.h u4) (O.f 91 [] (ap O (xr x kM 0) [.int u10])) (O.a [.int u6])) fun c4=>(O.b (O.k u4 O.o (O.h (O.e (O.m (x.L 17) u10 0) (O.d c4 0)))) (O.a [.int u6,.bool O.g]) (s2 [.int (O.p .i64 u10 u8)]))))) (O.a [.int u8]))) [.int u6]) fun c2=>(O.b (O.ad c2 0) (O.a [.bool (O.r c2 1)]) (O.c (O.f 92 [] (xr x kM 0)) fun c3=>(O.a [.bool (O.r c3 0)]))))))))))))))
def FD:Nat→Env:=eL [(47,Ab),(90,Bl),(91,EN),(92,Jw)]
theorem US{N ls}:FD N 47 [] ls=Ab N ls:=id rfl
theorem I6{N ls}:FD N 90 [] ls=Bl N ls:=id rfl
theorem KZ{N ls}:FD N 91 [] ls=EN N ls:=id rfl
theorem KW{N ls}:FD N 92 [] ls=Jw N ls:=id rfl
def EL:=oS bM NX FD
def SZ:List Nat:=[0,0,0]
def LH(O:Alg)(x:Ags O):O.M:=(O.a [.bool (O.k (O.le (x.I 1) (x.I 0)) (O.le (x.I 0) (x.I 2)) O.g)])
def P0:Nat→Env:=eL []
def E6:=oS SZ LH P0
def VJ:List Nat:=[0,0,0,0,0,1,0,0,0,0,1,0]
def JE(O:Alg)(x:Ags O):O.M:=let u5:=(lq9 O 0);(O.b (O.k (O.k (O.k (O.n (x.I 0) (O.lit .u8 1)) O.o (O.n (O.lit .u8 3) (x.I 0))) O.o (O.n (O.lit .u8 3) (x.I 1))) O.o (O.n (O.lit .u8 10) (x.I 6))) (O.a [.int (lq9 O 3)]) (O.c (O.f 103 [] [.int (x.I 2),.int u5,.int (lq9 O 7)]) fun c0=>let u4:=(O.h (O.r c0 0));(O.c (O.b (O.h u4) (O.f 103 [] [.int (x.I 3),.int u5,.int (x.I 2)]) (O.a [.bool O.g])) fun c1=>let u3:=(O.k (O.k u4 O.o (O.h (O.r c1 0))) O.o (O.k (O.k (O.h (O.e (x.I 4) u5)) (O.h (O.e (x.I 4) (lq9 O 4))) O.g) (O.h (O.e (x.I 4) (lq9 O 6))) O.g));(O.c (O.b (O.h u3) (O.f 103 [] [.int (x.I 7),.int u5,.int (lq9 O 2)]) (O.a [.bool O.g])) fun c2=>let u2:=(O.k u3 O.o (O.h (O.r c2 0)));(O.c (O.b (O.h u2) (O.f 103 [] [.int (x.I 8),.int u5,.int (lq9 O 11)]) (O.a [.bool O.g])) fun c3=>let u1:=(O.k u2 O.o (O.h (O.r c3 0)));(O.c (O.b (O.h u1) (O.f 103 [] [.int (x.I 9),.int u5,.int (lq9 O 11)]) (O.a [.bool O.g])) fun c4=>let u0:=(O.k u1 O.o (O.h (O.r c4 0)));(O.c (O.b (O.h u0) (O.f 103 [] [.int (x.I 11),.int u5,.int (lq9 O 8)]) (O.a [.bool O.g])) fun c5=>(O.b (O.k u0 O.o (O.h (O.r c5 0))) (O.a [.int (lq9 O 2)]) (O.a [.int u5])))))))))
def LF:Nat→Env:=eL [(103,E6)]
theorem M4{N ls}:LF N 103 [] ls=E6 N ls:=id rfl
def Dq:=oS VJ JE LF
def Yj:List Nat:=[0]
def Lu(O:Alg)(x:Ags O):O.M:=(O.b (O.e (x.I 0) (O.lit .u8 7)) (O.a [.int (lq9 O 0),.int (lq9 O 11)]) (O.b (O.e (x.I 0) (O.lit .u8 13)) (O.a [.int (lq9 O 1),.int (lq9 O 99)]) (O.a [.int (lq9 O 0),.int (lq9 O 100000)])))
def Uk:Nat→Env:=eL []
def Ik:=oS Yj Lu Uk
def XT:List Nat:=[0,0,0]
def PA(O:Alg)(x:Ags O):O.M:=(O.a [.bool (O.k (O.le (x.I 1) (x.I 0)) (O.le (x.I 0) (x.I 2)) O.g)])
def TP:Nat→Env:=eL []
def Hu:=oS XT PA TP
def Gw(N:Nat)(ls:List PV):Option (List PV):=uz ls
def Qc:List Nat:=[2,0]
def QW(O:Alg)(x:Ags O):O.M:=(O.c (O.f 124 [] [.str (x.S 0),.int (x.I 1)]) fun c0=>(O.a [.int (O.d c0 0)]))
def ZT:Nat→Env:=eL [(124,Gw)]
def EY:=oS Qc QW ZT
def bW:List Nat:=[]
def cD(O:Alg)(x:Ags O):O.M:=let u4:=(O.t ⟨#[]⟩);let u3:=(O.t ⟨#[112]⟩);let u2:=(O.t ⟨#[112,121]⟩);let u1:=(O.t ⟨#[115,121]⟩);let u0:=(O.t ⟨#[70,73,69,76,68]⟩);(O.a [.rows (O.z [[.str (O.t ⟨#[84,79,83,83]⟩),.str u1,.str (O.t ⟨#[66,65,84]⟩),.str u0],[.str (O.t ⟨#[79,80,69,78]⟩),.str (O.t ⟨#[112,111]⟩),.str u4,.str u4],[.str (O.t ⟨#[66,79,87,76]⟩),.str u3,.str u4,.str u4],[.str (O.t ⟨#[66,65,76,76]⟩),.str (O.t ⟨#[98]⟩),.str u4,.str u4],[.str (O.t ⟨#[69,78,84,69,82]⟩),.str u3,.str u4,.str u4],[.str (O.t ⟨#[82,69,84,73,82,69]⟩),.str u2,.str (O.t ⟨#[72,85,82,84]⟩),.str (O.t ⟨#[79,85,84]⟩)],[.str u0,.str (O.t ⟨#[114]⟩),.str u4,.str u4],[.str (O.t ⟨#[75,69,69,80,69,82]⟩),.str u3,.str u4,.str u4],[.str (O.t ⟨#[83,85,66]⟩),.str u2,.str (O.t ⟨#[79,78]⟩),.str (O.t ⟨#[79,70,70]⟩)],[.str (O.t ⟨#[78,69,87,66,65,76,76]⟩),.str u4,.str u4,.str u4],[.str (O.t ⟨#[68,69,67,76,65,82,69]⟩),.str (O.t ⟨#[115]⟩),.str u4,.str u4],[.str (O.t ⟨#[70,79,76,76,79,87]⟩),.str u1,.str (O.t ⟨#[89,69,83]⟩),.str (O.t ⟨#[78,79]⟩)],[.str (O.t ⟨#[80,69,78,65,76,84,89]⟩),.str (O.t ⟨#[115,114]⟩),.str u4,.str u4],[.str (O.t ⟨#[82,69,86,73,69,87]⟩),.str u1,.str (O.t ⟨#[75,69,80,84]⟩),.str (O.t ⟨#[76,79,83,84]⟩)],[.str (O.t ⟨#[82,69,86,73,83,69]⟩),.str (O.t ⟨#[114,118]⟩),.str u4,.str u4],[.str (O.t ⟨#[83,84,79,80]⟩),.str u4,.str u4,.str u4]])])
def l7:Nat→Env:=eL []
def G1:=oS bW cD l7
def fB:List Nat:=[0,0]
def Pp(O:Alg)(x:Ags O):O.M:=(O.c (O.f 111 [] []) fun c0=>(O.i (O.q (O.x .u8 (x.I 0) (O.lit .u8 1)) (O.l (O.j c0 0))) (O.c (O.f 110 [] [.str (O.rS (O.j c0 0) (O.x .u8 (x.I 0) (O.lit .u8 1)) 1),.int (x.I 1)]) fun c1=>(O.a [.bool (O.k (O.le (lq9 O 0) (O.d c1 0)) O.o (O.k (O.e (x.I 0) (O.lit .u8 5)) (O.e (x.I 1) (O.lit .u8 121)) O.g))]))))
def L1:Nat→Env:=eL [(110,EY),(111,G1)]
theorem O2{N ls}:L1 N 110 [] ls=EY N ls:=id rfl
theorem U3{N ls}:L1 N 111 [] ls=G1 N ls:=id rfl
def K9:=oS fB Pp L1
def bR:List Nat:=[0,0,0,0,1,0,0,0,0,0,0,0,1,0,0,0,0,1,0]
def Ju(O:Alg)(x:Ags O):O.M:=let u14:=(lq9 O 1);let u13:=(lq9 O 0);let u8:=(O.e (x.I 9) u13);let u15:=(O.lit .u8 0);let u7:=(O.e (x.I 6) u13);let u6:=(O.e (x.I 5) u13);let u5:=(O.e (x.I 3) u13);let u4:=(O.e (x.I 2) u13);let u3:=(O.e (x.I 1) u13);let u2:=(O.e (x.I 11) u13);let u1:=(O.e (x.I 10) u13);let u0:=(O.af (O.e (x.I 14) u13) (O.af (O.e (x.I 15) u13) (O.af (O.e (x.I 16) u13) (O.af (O.ao (x.B 17) O.g) (O.e (x.I 18) u13)))));(O.b (O.k (O.n (x.I 0) (O.lit .u8 1)) O.o (O.n (O.lit .u8 16) (x.I 0))) (O.a [.int (lq9 O 3)]) (O.c (O.f 93 [] [.int (x.I 0)]) fun c0=>(O.c (O.f 94 [] [.int (x.I 1),.int u14,.int (lq9 O 2)]) fun c1=>(O.c (O.f 94 [] [.int (x.I 2),.int u14,.int (lq9 O 11)]) fun c2=>(O.c (O.f 94 [] [.int (x.I 3),.int u14,.int (lq9 O 11)]) fun c3=>(O.c (O.f 94 [] [.int (x.I 5),.int (O.d c0 0),.int (O.d c0 1)]) fun c4=>(O.c (O.f 94 [] [.int (x.I 6),.int u13,.int (lq9 O 90)]) fun c5=>let u12:=(O.z [[.int (O.lit .u8 115),.bool u3,.bool (O.r c1 0)],[.int (O.lit .u8 112),.bool u4,.bool (O.r c2 0)],[.int (O.lit .u8 111),.bool u5,.bool (O.r c3 0)],[.int (O.lit .u8 121),.bool (O.h (x.B 4)),.bool O.o],[.int (O.lit .u8 114),.bool u6,.bool (O.r c4 0)],[.int (O.lit .u8 118),.bool u7,.bool (O.r c5 0)],[.int (O.lit .u8 98),.bool (O.af (O.e (x.I 7) u15) (O.af (O.e (x.I 8) u15) (O.af u8 (O.af u1 (O.af u2 (O.af (O.ao (x.B 12) O.g) (O.af (O.e (x.I 13) u15) u0))))))),.bool O.o]]);let u11:=(O.l u12);(O.c (O.v (fun s6 c6=>let u16:=(O.d c6 0);let u9:=(O.h (O.rB u12 u16 1));(O.b (O.n u16 u11) (O.i (O.q u16 u11) (O.c (O.b u9 (O.f 95 [] [.int (x.I 0),.int (O.m u12 u16 0)]) (O.a [.bool O.g])) fun c7=>(O.b (O.k u9 (O.h (O.r c7 0)) O.g) (O.a [.int u13,.int u14]) (s6 [.int (O.p .i64 u16 u14)])))) (O.a [.int u14]))) [.int u13]) fun c6=>(O.b (O.ad c6 0) (O.a [.int (O.d c6 1)]) (O.c (O.v (fun s7 c7=>let u17:=(O.d c7 0);let u10:=(O.h (O.rB u12 u17 2));(O.b (O.n u17 u11) (O.i (O.q u17 u11) (O.c (O.b u10 (O.f 95 [] [.int (x.I 0),.int (O.m u12 u17 0)]) (O.a [.bool O.g])) fun c8=>(O.b (O.k u10 (O.r c8 0) O.g) (O.a [.int u13,.int (lq9 O 2)]) (s7 [.int (O.p .i64 u17 u14)])))) (O.a [.int u14]))) [.int u13]) fun c7=>(O.b (O.ad c7 0) (O.a [.int (O.d c7 1)]) (O.b (O.e (x.I 0) (O.lit .u8 4)) (O.c (O.f 79 [] (xr x [0,0,0,0,0,1,0,0,0,0,1,0] 7)) fun c8=>(O.a [.int (O.d c8 0)])) (O.a [.int u13])))))))))))))
def FJ:Nat→Env:=eL [(79,Dq),(93,Ik),(94,Hu),(95,K9)]
theorem En{N ls}:FJ N 79 [] ls=Dq N ls:=id rfl
theorem Jz{N ls}:FJ N 93 [] ls=Ik N ls:=id rfl
theorem I2{N ls}:FJ N 94 [] ls=Hu N ls:=id rfl
theorem LB{N ls}:FJ N 95 [] ls=K9 N ls:=id rfl
def EJ:=oS bR Ju FJ
def Af(N:Nat)(ls:List PV):Option (List PV):=SE 1 ls
def As(N:Nat)(ls:List PV):Option (List PV):=SE 8 ls
def Al(N:Nat)(ls:List PV):Option (List PV):=SE 1 ls
def Wm:List Nat:=[0,0,0,0,0,0,0,0,0,0,0,0,0,0,3,0,3,3,1,3,1,0,0,0,3,0,0,0]
def Kr(O:Alg)(x:Ags O):O.M:=(O.c (O.f 112 [] [.rows (x.L 14)]) fun c0=>(O.c (O.f 113 [] [.rows (x.L 16)]) fun c1=>(O.c (O.f 113 [] [.rows (x.L 17)]) fun c2=>(O.c (O.f 113 [] [.rows (x.L 19)]) fun c3=>(O.c (O.f 114 [] [.rows (x.L 24)]) fun c4=>(O.a (ap O (xr x [0,0,0,0,0,0,0,0,0,0,0,0,0,0] 0) (ap O [.rows (O.j c0 0),.int (x.I 15),.rows (O.j c1 0),.rows (O.j c2 0),.bool (x.B 18),.rows (O.j c3 0)] (ap O (xr x [1,0,0,0] 20) (ap O [.rows (O.j c4 0)] (xr x [0,0,0] 25)))))))))))
def Fh:Nat→Env:=eL [(112,Af),(113,As),(114,Al)]
theorem ME{N ls}:Fh N 112 [] ls=Af N ls:=id rfl
theorem OD{N ls}:Fh N 113 [] ls=As N ls:=id rfl
theorem M6{N ls}:Fh N 114 [] ls=Al N ls:=id rfl
def Ac:=oS Wm Kr Fh
def bQ:List Nat:=[2,0,0,0,0,0,0,0,1,0,0,0,0,3,0,0,1,3,0,0,0,0,0]
def NY(O:Alg)(x:Ags O):O.M:=(O.c (O.f 67 [] (xr x kR 0)) fun c0=>(O.c (O.v (fun s1 c1=>let u1:=(O.d c1 1);(O.b (O.n u1 (O.l (x.L 17))) (O.i (O.q u1 (O.l (x.L 17))) (O.c (O.f 96 [] (rr O (x.L 17) u1 kI 0)) fun c2=>let u0:=(O.ac (O.j c1 0) (O.z [(cr O c2 kI 0)]));(O.i (O.s (O.l u0) 304) (s1 [.rows u0,.int (O.p .i64 u1 (lq9 O 1))])))) (O.a [.rows (O.j c1 0)]))) [.rows O.u,.int (lq9 O 0)]) fun c1=>(O.a (ap O (cr O c0 kR 0) (ap O (xr x [0,0,1] 14) (ap O [.rows (O.j c1 0)] (xr x [0,0,0,0,0] 18)))))))
def KX:Nat→Env:=eL [(67,EK),(96,Ac)]
theorem Tt{N ls}:KX N 67 [] ls=EK N ls:=id rfl
theorem I5{N ls}:KX N 96 [] ls=Ac N ls:=id rfl
def J4:=oS bQ NY KX
def cH:List Nat:=[2,0,0,0,0,0,0,0,1,0,0,0,0,3,0,0,1,3,0,0,0,0,0,0]
def NG(O:Alg)(x:Ags O):O.M:=(O.c (O.v (fun s0 c0=>let u2:=(O.d c0 0);let u1:=(O.d c0 1);let u0:=(O.p .i64 u1 (lq9 O 1));(O.b (O.n u1 (O.l (x.L 17))) (O.i (O.q u1 (O.l (x.L 17))) (O.b (O.e (O.m (x.L 17) u1 0) (x.I 23)) (s0 [.int (O.p .i64 u2 (O.m (x.L 17) u1 3)),.int u0]) (s0 [.int u2,.int u0]))) (O.a [.int u2]))) [.int (lq9 O 0),.int (lq9 O 0)]) fun c0=>(O.a [.int (O.d c0 0)]))
def XY:Nat→Env:=eL []
def Ci:=oS cH NG XY
def Sf:List Nat:=[2,0,0,0,0,0,0,0,1,0,0,0,0,3]
def G7(O:Alg)(x:Ags O):O.M:=(O.b (O.e (x.I 3) (lq9 O 0)) (O.a [.int (O.lit .u8 5)]) (O.a [.int (O.lit .u8 6)]))
def PJ:Nat→Env:=eL []
def Cb:=oS Sf G7 PJ
def XH:List Nat:=[2,0,0,0,0,0,0,0,1,0,0,0,0,3,0,0,1,3,0,0,0,0,0]
def KR(O:Alg)(x:Ags O):O.M:=let u10:=(lq9 O 1);let u9:=(lq9 O 0);let u8:=(O.l (x.L 17));let u11:=(O.lit .u8 0);let u7:=(O.e u8 (lq9 O 3));let u6:=(O.x .i64 u8 u10);let u5:=(O.e u8 (O.ak .i64 (lq9 O 2) (x.I 2)));let u4:=(O.m (x.L 17) u6 1);let u3:=(O.m (x.L 17) u6 3);let u2:=(O.m (x.L 17) u6 0);let u1:=(O.m (x.L 17) u6 27);let u0:=(O.x .i64 u4 u10);(O.c (O.f 74 [] (xr x kM 0)) fun c0=>(O.b (O.k (O.h (O.r c0 0)) O.o (O.e u8 u9)) (O.a [.int u11,.int u9,.int u9]) (O.i (O.q u6 u8) (O.c (O.f 97 [] [.int u2]) fun c1=>let u12:=(O.d c1 0);(O.b (O.e u1 (O.lit .u8 5)) (O.c (O.f 118 [] (xr x kR 0)) fun c2=>(O.a [.int (O.d c2 0),.int u9,.int u9])) (O.b (O.e u1 u11) (O.a [.int u11,.int u9,.int u9]) (O.b (O.k u5 (O.le u4 u3) O.g) (O.a [.int (O.lit .u8 2),.int u2,.int (O.x .i64 (O.x .i64 (x.I 1) u10) (O.m (x.L 17) u6 4))]) (O.b (O.k u5 (O.e u3 u0) O.g) (O.a [.int (O.lit .u8 4),.int u9,.int u9]) (O.b u5 (O.a [.int (O.lit .u8 1),.int u12,.int (O.x .i64 u0 u3)]) (O.c (O.b u7 (O.f 101 [] (ap O (xr x kM 0) [.int u2])) (O.a [.int u9])) fun c2=>(O.c (O.b u7 (O.f 101 [] (ap O (xr x kM 0) [.int u12])) (O.a [.int u9])) fun c3=>(O.b (O.k u7 (O.n (O.d c2 0) (O.d c3 0)) O.g) (O.c (O.f 101 [] (ap O (xr x kM 0) [.int u12])) fun c4=>(O.c (O.f 101 [] (ap O (xr x kM 0) [.int u2])) fun c5=>(O.a [.int (O.lit .u8 3),.int u12,.int (O.x .i64 (O.d c4 0) (O.d c5 0))]))) (O.a [.int u11,.int u9,.int u9])))))))))))))
def EI:Nat→Env:=eL [(74,EL),(97,Bm),(101,Ci),(118,Cb)]
theorem SA{N ls}:EI N 74 [] ls=EL N ls:=id rfl
theorem R0{N ls}:EI N 97 [] ls=Bm N ls:=id rfl
theorem SC{N ls}:EI N 101 [] ls=Ci N ls:=id rfl
theorem Nv{N ls}:EI N 118 [] ls=Cb N ls:=id rfl
def HN:=oS XH KR EI
def Xf:List Nat:=[2,0,0,0,0,0,0,0,1,0,0,0,0,3,0,0,0]
def Kk(O:Alg)(x:Ags O):O.M:=let u4:=(lq9 O 0);let u3:=(O.s (x.I 1) 1);let u2:=(lq9 O 1000000);(O.c (O.f 47 [] (xr x kR 0)) fun c0=>(O.b (O.h (O.e (O.d c0 0) u4)) (O.a [.int u4,.int u4,.int u4,.int u4,.int u4,.int u4,.int u4,.int u4,.int u4,.int u4,.int u4,.int u4,.int u4,.int u4,.rows O.u,.int u4,.rows O.u,.rows O.u,.bool O.g,.rows O.u,.bool O.g,.int u4,.int u4,.int u4,.rows O.u,.int u4,.int u4,.int (O.lit .u8 0),.int (O.d c0 0)]) (O.c (O.f 106 [] [.int (x.I 14),.int (lq9 O 1),.int (lq9 O 2)]) fun c1=>let u1:=(O.h (O.r c1 0));(O.c (O.b (O.h u1) (O.f 106 [] [.int (x.I 15),.int u4,.int u2]) (O.a [.bool O.g])) fun c2=>let u0:=(O.k u1 O.o (O.h (O.r c2 0)));(O.c (O.b (O.h u0) (O.f 106 [] [.int (x.I 16),.int u4,.int u2]) (O.a [.bool O.g])) fun c3=>(O.b (O.k u0 O.o (O.h (O.r c3 0))) (O.a [.int u4,.int u4,.int u4,.int u4,.int u4,.int u4,.int u4,.int u4,.int u4,.int u4,.int u4,.int u4,.int u4,.int u4,.rows O.u,.int u4,.rows O.u,.rows O.u,.bool O.g,.rows O.u,.bool O.g,.int u4,.int u4,.int u4,.rows O.u,.int u4,.int u4,.int (O.lit .u8 0),.int (lq9 O 2)]) (O.i u3 (O.i (O.s (x.I 1) 8) (O.i u3 (O.a [.int (x.I 14),.int (x.I 15),.int (x.I 3),.int (x.I 16),.int u4,.int u4,.int u4,.int u4,.int u4,.int (x.I 16),.int u4,.int u4,.int u4,.int u4,.rows (O.am (x.I 1) [.int (O.lit .u8 0)]),.int u4,.rows O.u,.rows O.u,.bool O.g,.rows (O.am (x.I 1) [.int u4]),.bool O.g,.int u4,.int u4,.int u4,.rows (O.am (x.I 1) [.bool O.g]),.int u4,.int u4,.int (O.lit .u8 0),.int u4]))))))))))
def IB:Nat→Env:=eL [(47,Ab),(106,Az)]
theorem ST{N ls}:IB N 47 [] ls=Ab N ls:=id rfl
theorem Om{N ls}:IB N 106 [] ls=Az N ls:=id rfl
def Hc:=oS Xf Kk IB
def ZO:List Nat:=[2,0,0,0,0,0,0,0,1,0,0,0,0,3,0,0,1,3,0,0,0,0,0,0]
def MD(O:Alg)(x:Ags O):O.M:=(O.b (O.n (O.p .i64 (O.l (x.L 17)) (lq9 O 1)) (O.ak .i64 (lq9 O 2) (x.I 2))) (O.a [.int (lq9 O 0)]) (O.c (O.f 97 [] [.int (x.I 23)]) fun c0=>(O.c (O.f 101 [] (ap O (xr x kM 0) [.int (O.d c0 0)])) fun c1=>(O.c (O.f 101 [] (xr x [2,0,0,0,0,0,0,0,1,0,0,0,0,3,0,0,1,3,0,0,0,0,0,0] 0)) fun c2=>(O.a [.int (O.p .i64 (O.x .i64 (O.d c1 0) (O.d c2 0)) (lq9 O 1))])))))
def JW:Nat→Env:=eL [(97,Bm),(101,Ci)]
theorem Sl{N ls}:JW N 97 [] ls=Bm N ls:=id rfl
theorem S9{N ls}:JW N 101 [] ls=Ci N ls:=id rfl
def Iy:=oS ZO MD JW
def TL:List Nat:=[0]
def TU(O:Alg)(x:Ags O):O.M:=(O.a [.bool (O.h (O.e (x.I 0) (O.lit .u8 0)))])
def cf:Nat→Env:=eL []
def Fl:=oS TL TU cf
def Wt:List Nat:=[0,0,0,0,0,0,0,0,0,0,0,0,0,0,3,0,3,3,1,3,1,0,0,0,3,0,0,0]
def KV(O:Alg)(x:Ags O):O.M:=let u0:=(lq9 O 0);(O.c (O.c (O.v (fun s0 c0=>let u1:=(O.d c0 0);(O.b (O.n u1 (O.l (x.L 14))) (O.i (O.q u1 (O.l (x.L 14))) (O.c (O.f 134 [] [.int (O.m (x.L 14) u1 0)]) fun c1=>(O.b (O.r c1 0) (O.a [.int u0,.int u1]) (s0 [.int (O.p .i64 u1 (lq9 O 1))])))) (O.a [.int (lq9 O 1)]))) [.int u0]) fun c0=>(O.b (O.ad c0 0) (O.a [.int (O.d c0 1)]) (O.a [.int (lq9 O (-1))]))) fun c0=>(O.a [.bool (O.le u0 (O.d c0 0))]))
def Mg:Nat→Env:=eL [(134,Fl)]
theorem Gt{N ls}:Mg N 134 [] ls=Fl N ls:=id rfl
def HJ:=oS Wt KV Mg
def dV:List Nat:=[0,0,0,0,0,0,0,0,0,0,0,0,0,0,3,0,3,3,1,3,1,0,0,0,3,0,0,0]
def QD(O:Alg)(x:Ags O):O.M:=(O.c (O.f 112 [] [.rows (x.L 14)]) fun c0=>(O.c (O.f 113 [] [.rows (x.L 16)]) fun c1=>(O.c (O.f 113 [] [.rows (x.L 17)]) fun c2=>(O.c (O.f 113 [] [.rows (x.L 19)]) fun c3=>(O.c (O.f 114 [] [.rows (x.L 24)]) fun c4=>(O.a (ap O (xr x [0,0,0,0,0,0,0,0,0,0,0,0,0,0] 0) (ap O [.rows (O.j c0 0),.int (x.I 15),.rows (O.j c1 0),.rows (O.j c2 0),.bool (x.B 18),.rows (O.j c3 0)] (ap O (xr x [1,0,0,0] 20) (ap O [.rows (O.j c4 0)] (xr x [0,0,0] 25)))))))))))
def IZ:Nat→Env:=eL [(112,Af),(113,As),(114,Al)]
theorem N2{N ls}:IZ N 112 [] ls=Af N ls:=id rfl
theorem QO{N ls}:IZ N 113 [] ls=As N ls:=id rfl
theorem PX{N ls}:IZ N 114 [] ls=Al N ls:=id rfl
def BE:=oS dV QD IZ
def Ut:List Nat:=[0]
def WB(O:Alg)(x:Ags O):O.M:=(O.a [.bool (O.h (O.e (x.I 0) (O.lit .u8 0)))])
def dh:Nat→Env:=eL []
def Dm:=oS Ut WB dh
def YZ:List Nat:=[0,0,0,0,0,0,0,0,0,0,0,0,0,0,3,0,3,3,1,3,1,0,0,0,3,0,0,0]
def F8(O:Alg)(x:Ags O):O.M:=let u0:=(lq9 O 0);(O.c (O.c (O.v (fun s0 c0=>let u1:=(O.d c0 0);(O.b (O.n u1 (O.l (x.L 14))) (O.i (O.q u1 (O.l (x.L 14))) (O.c (O.f 175 [] [.int (O.m (x.L 14) u1 0)]) fun c1=>(O.b (O.r c1 0) (O.a [.int u0,.int u1]) (s0 [.int (O.p .i64 u1 (lq9 O 1))])))) (O.a [.int (lq9 O 1)]))) [.int u0]) fun c0=>(O.b (O.ad c0 0) (O.a [.int (O.d c0 1)]) (O.a [.int (lq9 O (-1))]))) fun c0=>(O.a [.bool (O.le u0 (O.d c0 0))]))
def GY:Nat→Env:=eL [(175,Dm)]
theorem H7{N ls}:GY N 175 [] ls=Dm N ls:=id rfl
def Cs:=oS YZ F8 GY
def ZB:List Nat:=[0,0,0,0,0,0,0,0,0,0,0,0,0,0,3,0,3,3,1,3,1,0,0,0,3,0,0,0,0]
def MO(O:Alg)(x:Ags O):O.M:=(O.a [.bool (O.k (O.le (lq9 O 1) (x.I 28)) (O.le (x.I 28) (O.l (x.L 14))) O.g)])
def WN:Nat→Env:=eL []
def BF:=oS ZB MO WN
def cL:List Nat:=[0,0,0,0,0,0,0,0,0,0,0,0,0,0,3,0,3,3,1,3,1,0,0,0,3,0,0,0,0,0]
def Na(O:Alg)(x:Ags O):O.M:=let u3:=(lq9 O 1);let u1:=(O.x .i64 (x.I 29) u3);let u0:=(O.x .i64 (x.I 28) u3);(O.c (O.f 156 [] (xr x kI 0)) fun c0=>let u4:=(O.j c0 14);(O.c (O.f 157 [] (xr x kI 0)) fun c1=>(O.b (O.r c1 0) (O.a (ap O (cr O c0 kI 0) [.int u3])) (O.c (O.f 158 [] (xr x [0,0,0,0,0,0,0,0,0,0,0,0,0,0,3,0,3,3,1,3,1,0,0,0,3,0,0,0,0] 0)) fun c2=>let u2:=(O.h (O.r c2 0));(O.c (O.b (O.h u2) (O.f 158 [] (ap O (xr x kI 0) [.int (x.I 29)])) (O.a [.bool O.g])) fun c3=>(O.b (O.k u2 O.o (O.h (O.r c3 0))) (O.a (ap O (cr O c0 kI 0) [.int (lq9 O 3)])) (O.b (O.e (x.I 28) (x.I 29)) (O.a (ap O (cr O c0 kI 0) [.int (lq9 O 4)])) (O.i (O.q u0 (O.l u4)) (O.i (O.q u1 (O.l (O.w u4 u0 0 [.int (O.lit .u8 1)]))) (O.a (ap O (cr O c0 [0,0,0,0,0,0,0,0,0,0,0,0] 0) (ap O [.int (x.I 28),.int (x.I 29),.rows (O.w (O.w u4 u0 0 [.int (O.lit .u8 1)]) u1 0 [.int (O.lit .u8 1)])] (ap O (cr O c0 [0,3,3,1,3,1,0,0,0,3,0,0,0] 15) [.int (lq9 O 0)])))))))))))))
def HM:Nat→Env:=eL [(156,BE),(157,Cs),(158,BF)]
theorem Vz{N ls}:HM N 156 [] ls=BE N ls:=id rfl
theorem Su{N ls}:HM N 157 [] ls=Cs N ls:=id rfl
theorem S4{N ls}:HM N 158 [] ls=BF N ls:=id rfl
def Jt:=oS cL Na HM
def iC:List Nat:=[0,0,0,0,0,0,0,0,0,0,0,0,0,0,3,0,3,3,1,3,1,0,0,0,3,0,0,0]
def Rk(O:Alg)(x:Ags O):O.M:=(O.c (O.f 112 [] [.rows (x.L 14)]) fun c0=>(O.c (O.f 113 [] [.rows (x.L 16)]) fun c1=>(O.c (O.f 113 [] [.rows (x.L 17)]) fun c2=>(O.c (O.f 113 [] [.rows (x.L 19)]) fun c3=>(O.c (O.f 114 [] [.rows (x.L 24)]) fun c4=>(O.a (ap O (xr x [0,0,0,0,0,0,0,0,0,0,0,0,0,0] 0) (ap O [.rows (O.j c0 0),.int (x.I 15),.rows (O.j c1 0),.rows (O.j c2 0),.bool (x.B 18),.rows (O.j c3 0)] (ap O (xr x [1,0,0,0] 20) (ap O [.rows (O.j c4 0)] (xr x [0,0,0] 25)))))))))))
def Jx:Nat→Env:=eL [(112,Af),(113,As),(114,Al)]
theorem Od{N ls}:Jx N 112 [] ls=Af N ls:=id rfl
theorem RQ{N ls}:Jx N 113 [] ls=As N ls:=id rfl
theorem QR{N ls}:Jx N 114 [] ls=Al N ls:=id rfl
def DW:=oS iC Rk Jx
def bV:List Nat:=[0,0,0,0,0,0,0,0,0,0,0,0,0,0,3,0,3,3,1,3,1,0,0,0,3,0,0,0,0]
def NU(O:Alg)(x:Ags O):O.M:=(O.a [.bool (O.k (O.le (lq9 O 1) (x.I 28)) (O.le (x.I 28) (O.l (x.L 19))) O.g)])
def Xc:Nat→Env:=eL []
def Cm:=oS bV NU Xc
def eU:List Nat:=[2,0,0,0,0,0,0,0,1,0,0,0,0,3,0,0,0,0,0,0,0,0,0,0,0,0,0,0,3,0,3,3,1,3,1,0,0,0,3,0,0,0,0]
def PU(O:Alg)(x:Ags O):O.M:=let u4:=(lq9 O 0);let u2:=(O.x .i64 (x.I 42) (lq9 O 1));let u1:=(O.m (x.L 33) u2 0);let u0:=(O.x .i64 (O.ak .i64 (x.I 5) (x.I 4)) (O.aj (O.n u1 u4) u4 u1));(O.c (O.f 176 [] (xr x [0,0,0,0,0,0,0,0,0,0,0,0,0,0,3,0,3,3,1,3,1,0,0,0,3,0,0,0,0] 14)) fun c0=>let u3:=(O.h (O.r c0 0));(O.c (O.b (O.h u3) (O.f 47 [] (xr x kR 0)) (O.a [.int u4])) fun c1=>(O.b (O.k u3 O.o (O.h (O.e (O.d c1 0) u4))) (O.a [.int u4]) (O.b (O.e (x.I 5) u4) (O.a [.int (lq9 O (-1))]) (O.i (O.q u2 (O.l (x.L 33))) (O.a [.int (O.aj (O.n u0 u4) u4 u0)]))))))
def L3:Nat→Env:=eL [(47,Ab),(176,Cm)]
theorem WL{N ls}:L3 N 47 [] ls=Ab N ls:=id rfl
theorem V6{N ls}:L3 N 176 [] ls=Cm N ls:=id rfl
def K2:=oS eU PU L3
def gS:List Nat:=[2,0,0,0,0,0,0,0,1,0,0,0,0,3,0,0,0,0,0,0,0,0,0,0,0,0,0,0,3,0,3,3,1,3,1,0,0,0,3,0,0,0,0]
def Rt(O:Alg)(x:Ags O):O.M:=let u3:=(lq9 O 0);let u1:=(O.le (x.I 42) (O.l (x.L 38)));let u0:=(O.x .i64 (x.I 42) (lq9 O 1));(O.c (O.f 176 [] (xr x [0,0,0,0,0,0,0,0,0,0,0,0,0,0,3,0,3,3,1,3,1,0,0,0,3,0,0,0,0] 14)) fun c0=>let u2:=(O.h (O.r c0 0));(O.c (O.b (O.h u2) (O.f 47 [] (xr x kR 0)) (O.a [.int u3])) fun c1=>(O.b (O.k u2 O.o (O.h (O.e (O.d c1 0) u3))) (O.a [.int (lq9 O 3)]) (O.i (O.h (O.af u1 (O.h (O.q u0 (O.l (x.L 38)))))) (O.c (O.f 177 [] (xr x [2,0,0,0,0,0,0,0,1,0,0,0,0,3,0,0,0,0,0,0,0,0,0,0,0,0,0,0,3,0,3,3,1,3,1,0,0,0,3,0,0,0,0] 0)) fun c2=>(O.b (O.k (O.k (O.e (x.I 42) (x.I 36)) O.o (O.e (x.I 42) (x.I 29))) O.o (O.k u1 (O.rB (x.L 38) u0 0) O.g)) (O.a [.int (lq9 O 7)]) (O.c (O.f 121 [] [.rows (x.L 31),.int (x.I 42)]) fun c3=>(O.b (O.r c3 0) (O.a [.int (lq9 O 8)]) (O.b (O.k (O.h (O.e (O.d c2 0) (lq9 O (-1)))) (O.n (x.I 25) (O.x .i64 (x.I 4) (O.d c2 0))) O.g) (O.a [.int (lq9 O 9)]) (O.a [.int u3]))))))))))
def G3:Nat→Env:=eL [(47,Ab),(121,A8),(176,Cm),(177,K2)]
theorem WX{N ls}:G3 N 47 [] ls=Ab N ls:=id rfl
theorem Ob{N ls}:G3 N 121 [] ls=A8 N ls:=id rfl
theorem WQ{N ls}:G3 N 176 [] ls=Cm N ls:=id rfl
theorem Xy{N ls}:G3 N 177 [] ls=K2 N ls:=id rfl
def Mx:=oS gS Rt G3
def ez:List Nat:=[2,0,0,0,0,0,0,0,1,0,0,0,0,3,0,0,0,0,0,0,0,0,0,0,0,0,0,0,3,0,3,3,1,3,1,0,0,0,3,0,0,0,0]
def Pr(O:Alg)(x:Ags O):O.M:=(O.c (O.f 159 [] (xr x kI 14)) fun c0=>(O.c (O.f 160 [] (xr x [2,0,0,0,0,0,0,0,1,0,0,0,0,3,0,0,0,0,0,0,0,0,0,0,0,0,0,0,3,0,3,3,1,3,1,0,0,0,3,0,0,0,0] 0)) fun c1=>let u0:=(O.d c1 0);(O.b (O.e u0 (lq9 O 0)) (O.a (ap O (cr O c0 [0,0,0,0,0,0,0,0,0,0,0,0,0,0,3] 0) (ap O [.int (x.I 42)] (ap O (cr O c0 [3,3,1,3,1,0,0,0,3,0,0,0] 16) [.int u0])))) (O.a (ap O (cr O c0 kI 0) [.int u0])))))
def MM:Nat→Env:=eL [(159,DW),(160,Mx)]
theorem YA{N ls}:MM N 159 [] ls=DW N ls:=id rfl
theorem YI{N ls}:MM N 160 [] ls=Mx N ls:=id rfl
def Lb:=oS ez Pr MM
def Qe:List Nat:=[0,0,0,0,0,1,0,0,0,0,1,0]
def Gm(O:Alg)(x:Ags O):O.M:=let u3:=(lq9 O 0);let u2:=(O.e (x.I 4) u3);let u1:=(O.e (x.I 2) u3);let u0:=(O.h (O.e (x.I 4) (lq9 O 6)));(O.b (O.e (x.I 0) (O.lit .u8 2)) (O.a [.bool (O.k (O.e (x.I 1) (O.lit .u8 0)) u0 O.g)]) (O.b (O.e (x.I 1) (O.lit .u8 0)) (O.a [.bool (O.k u1 u2 O.g)]) (O.b (O.e (x.I 1) (O.lit .u8 1)) (O.a [.bool (O.k u0 O.o u1)]) (O.a [.bool (O.k u0 (O.k (O.n u3 (x.I 2)) O.o (O.h u2)) O.g)]))))
def OO:Nat→Env:=eL []
def EZ:=oS Qe Gm OO
def U1:List Nat:=[0,0,0,0,0,1,0,0,0,0,1,0]
def JT(O:Alg)(x:Ags O):O.M:=let u3:=(lq9 O 0);let u2:=(lq9 O 11);let u1:=(O.e (x.I 4) u3);let u0:=(O.h u1);(O.b (O.k (O.k (O.k (O.k (O.k (O.n (x.I 0) (O.lit .u8 1)) O.o (O.n (O.lit .u8 3) (x.I 0))) O.o (O.n (O.lit .u8 3) (x.I 1))) O.o (O.n (O.lit .u8 10) (x.I 6))) O.o (O.n (x.I 11) u3)) O.o (O.n (lq9 O 8) (x.I 11))) (O.a [.int u2]) (O.b (O.k (O.k (O.k (O.k (O.n (x.I 2) u3) O.o (O.n (lq9 O 7) (x.I 2))) O.o (O.n (x.I 3) u3)) O.o (O.n (x.I 2) (x.I 3))) O.o (O.k (O.k u0 (O.h (O.e (x.I 4) (lq9 O 4))) O.g) (O.h (O.e (x.I 4) (lq9 O 6))) O.g)) (O.a [.int (lq9 O 12)]) (O.c (O.f 64 [] (xr x [0,0,0,0,0,1,0,0,0,0,1,0] 0)) fun c0=>(O.b (O.k (O.h (O.r c0 0)) O.o (O.k (O.k (O.k (O.h (O.e (x.I 0) (O.lit .u8 2))) (O.e (x.I 1) (O.lit .u8 1)) O.g) (O.e (x.I 2) u3) O.g) u1 O.g)) (O.a [.int u2]) (O.b (O.k (O.k (O.h (O.e (x.I 11) u3)) (O.h (O.e (x.I 1) (O.lit .u8 1))) O.g) (O.h (O.e (x.I 6) (O.lit .u8 2))) O.g) (O.a [.int u2]) (O.b (O.k u0 (O.h (O.e (x.I 6) (O.lit .u8 0))) O.g) (O.a [.int u2]) (O.b (O.k (O.k (x.B 5) (O.h (O.e (x.I 6) (O.lit .u8 6))) O.g) (O.h (O.e (x.I 6) (O.lit .u8 8))) O.g) (O.a [.int u2]) (O.a [.int u3]))))))))
def Kv:Nat→Env:=eL [(64,EZ)]
theorem Md{N ls}:Kv N 64 [] ls=EZ N ls:=id rfl
def C9:=oS U1 JT Kv
def QY:List Nat:=[0]
def Gk(O:Alg)(x:Ags O):O.M:=(O.a [.bool (O.k (O.le (O.lit .u8 1) (x.I 0)) (O.le (x.I 0) (O.lit .u8 5)) O.g)])
def OP:Nat→Env:=eL []
def EX:=oS QY Gk OP
def Tn:List Nat:=[2,0,0,0,0,0,0,0,1,0,0,0,0,3,0,0,0,0,0,1,0,0,0,0,1,0]
def IA(O:Alg)(x:Ags O):O.M:=let u2:=(lq9 O 0);let u1:=(O.p .i64 (O.x .i64 (x.I 16) (x.I 17)) (x.I 18));(O.c (O.f 50 [] (xr x [0,0,0,0,0,1,0,0,0,0,1,0] 14)) fun c0=>(O.b (O.h (O.e (O.d c0 0) u2)) (O.a [.int u2,.int u2,.int u2,.int u2,.int u2,.int u2,.bool O.g,.bool O.g,.bool O.g,.bool O.g]) (O.c (O.f 51 [] [.int (x.I 20)]) fun c1=>let u3:=(O.r c1 0);(O.c (O.b (x.B 19) (O.a [.int (O.p .i64 (x.I 16) (lq9 O 1))]) (O.a [.int (x.I 16)])) fun c2=>let u0:=(O.e (O.as .i64 (O.d c2 0) (lq9 O 2)) (lq9 O 1));(O.c (O.b (O.e (x.I 14) (O.lit .u8 2)) (O.a [.int u2,.int (O.p .i64 (x.I 6) u1),.int u2,.int u2,.int u2,.int u2,.bool (O.e (x.I 14) (O.lit .u8 1)),.bool (O.h (O.e (x.I 14) (O.lit .u8 2))),.bool u3,.bool u0]) (O.b (O.e (x.I 14) (O.lit .u8 3)) (O.a [.int u2,.int u2,.int (x.I 7),.int u2,.int u2,.int u2,.bool (O.e (x.I 14) (O.lit .u8 1)),.bool (O.h (O.e (x.I 14) (O.lit .u8 2))),.bool u3,.bool u0]) (O.a [.int u2,.int u2,.int u2,.int u2,.int u2,.int u2,.bool (O.e (x.I 14) (O.lit .u8 1)),.bool (O.h (O.e (x.I 14) (O.lit .u8 2))),.bool u3,.bool u0]))) fun c3=>(O.c (O.b (O.h (O.e (x.I 14) (O.lit .u8 2))) (O.b (O.e (x.I 15) (O.lit .u8 1)) (O.a (ap O [.int u1] (cr O c3 [0,0,0,0,0,1,1,1,1] 1))) (O.b (O.e (x.I 15) (O.lit .u8 2)) (O.a (ap O (cr O c3 [0,0,0] 0) (ap O [.int u1] (cr O c3 [0,0,1,1,1,1] 4)))) (O.b (O.e (x.I 15) (O.lit .u8 3)) (O.a (ap O (cr O c3 [0,0,0,0] 0) (ap O [.int u1] (cr O c3 [0,1,1,1,1] 5)))) (O.a (cr O c3 [0,0,0,0,0,0,1,1,1,1] 0))))) (O.a (cr O c3 [0,0,0,0,0,0,1,1,1,1] 0))) fun c4=>(O.a (ap O (cr O c4 [0,0,0,0,0] 0) (ap O [.int (O.p .i64 (O.p .i64 (O.d c4 0) (O.d c4 1)) (O.d c4 2))] (cr O c4 [1,1,1,1] 6))))))))))
def Gn:Nat→Env:=eL [(50,C9),(51,EX)]
theorem OE{N ls}:Gn N 50 [] ls=C9 N ls:=id rfl
theorem MK{N ls}:Gn N 51 [] ls=EX N ls:=id rfl
def A9:=oS Tn IA Gn
def WE:List Nat:=[0,0,0,0,0,0,1,1,1,1]
def VE(O:Alg)(x:Ags O):O.M:=(O.a [.int (O.p .i64 (O.p .i64 (O.p .i64 (O.p .i64 (x.I 0) (x.I 1)) (x.I 2)) (x.I 3)) (x.I 4))])
def ef:Nat→Env:=eL []
def BB:=oS WE VE ef
def Wo:List Nat:=[0,0,0,0,0,0,0,0,0,0,0,0,0,0,3,0,3,3,1,3,1,0,0,0,3,0,0,0]
def FE(O:Alg)(x:Ags O):O.M:=(O.c (O.f 157 [] (xr x kI 0)) fun c0=>(O.a [.bool (O.k (O.r c0 0) (O.k (O.e (x.I 12) (lq9 O 0)) O.o (O.e (x.I 13) (lq9 O 0))) O.g)]))
def FZ:Nat→Env:=eL [(157,Cs)]
theorem Qu{N ls}:FZ N 157 [] ls=Cs N ls:=id rfl
def Bp:=oS Wo FE FZ
def bU:List Nat:=[0,0,0,0,0,0,0,0,0,0,0,0,0,0,3,0,3,3,1,3,1,0,0,0,3,0,0,0,0]
def NJ(O:Alg)(x:Ags O):O.M:=(O.a [.bool (O.k (O.le (lq9 O 1) (x.I 28)) (O.le (x.I 28) (O.l (x.L 24))) O.g)])
def XM:Nat→Env:=eL []
def BT:=oS bU NJ XM
def VR:List Nat:=[0,0,0,0,0,0,0,0,0,0,0,0,0,0,3,0,3,3,1,3,1,0,0,0,3,0,0,0,0]
def JS(O:Alg)(x:Ags O):O.M:=let u0:=(O.x .i64 (x.I 28) (lq9 O 1));(O.c (O.f 168 [] (xr x [0,0,0,0,0,0,0,0,0,0,0,0,0,0,3,0,3,3,1,3,1,0,0,0,3,0,0,0,0] 0)) fun c0=>(O.i (O.h (O.af (O.r c0 0) (O.h (O.q u0 (O.l (x.L 24)))))) (O.a [.bool (O.k (O.r c0 0) (O.rB (x.L 24) u0 0) O.g)])))
def LL:Nat→Env:=eL [(168,BT)]
theorem RF{N ls}:LL N 168 [] ls=BT N ls:=id rfl
def BP:=oS VR JS LL
def XN:List Nat:=[2,0,0,0,0,0,0,0,1,0,0,0,0,3,0]
def Km(O:Alg)(x:Ags O):O.M:=let u1:=(lq9 O 1);let u0:=(O.p .i64 (x.I 14) u1);(O.c (O.v (fun s0 c0=>let u2:=(O.d c0 0);(O.b (O.n u2 (O.l (x.L 13))) (O.i (O.q u2 (O.l (x.L 13))) (O.b (O.k (O.le (O.m (x.L 13) u2 0) u0) (O.le u0 (O.m (x.L 13) u2 1)) O.g) (O.a [.int (lq9 O 0),.int (O.m (x.L 13) u2 2)]) (s0 [.int (O.p .i64 u2 u1)]))) (O.a [.int u1]))) [.int (lq9 O 0)]) fun c0=>(O.b (O.ad c0 0) (O.a [.int (O.d c0 1)]) (O.a [.int (x.I 12)])))
def To:Nat→Env:=eL []
def HR:=oS XN Km To
def cC:List Nat:=[2,0,0,0,0,0,0,0,1,0,0,0,0,3,0,0,0,0,0,0,0,0,0,0,0,0,0,0,3,0,3,3,1,3,1,0,0,0,3,0,0,0]
def NK(O:Alg)(x:Ags O):O.M:=(O.c (O.f 168 [] (ap O (xr x kI 14) [.int (x.I 36)])) fun c0=>let u0:=(O.h (O.r c0 0));(O.c (O.b (O.h u0) (O.f 169 [] (ap O (xr x kI 14) [.int (x.I 36)])) (O.a [.bool O.g])) fun c1=>(O.b (O.k (O.k u0 O.o (O.r c1 0)) O.o (O.e (x.I 36) (x.I 29))) (O.a [.int (lq9 O 17)]) (O.c (O.f 183 [] (ap O (xr x kR 0) [.int (x.I 24)])) fun c2=>(O.b (O.n (O.d c2 0) (x.I 37)) (O.a [.int (lq9 O 16)]) (O.a [.int (lq9 O 0)]))))))
def HK:Nat→Env:=eL [(168,BT),(169,BP),(183,HR)]
theorem Ts{N ls}:HK N 168 [] ls=BT N ls:=id rfl
theorem RD{N ls}:HK N 169 [] ls=BP N ls:=id rfl
theorem SQ{N ls}:HK N 183 [] ls=HR N ls:=id rfl
def Jo:=oS cC NK HK
def TN:List Nat:=[]
def Tj(O:Alg)(x:Ags O):O.M:=(O.a [.rows (O.z [[.int (O.lit .u8 0),.str (O.t ⟨#[78,79,84,79,85,84]⟩),.bool O.g,.bool O.g,.bool O.g,.bool O.g,.bool O.g],[.int (O.lit .u8 1),.str (O.t ⟨#[66,79,87,76,69,68]⟩),.bool O.o,.bool O.g,.bool O.g,.bool O.g,.bool O.g],[.int (O.lit .u8 2),.str (O.t ⟨#[67,65,85,71,72,84]⟩),.bool O.o,.bool O.g,.bool O.g,.bool O.o,.bool O.g],[.int (O.lit .u8 3),.str (O.t ⟨#[76,66,87]⟩),.bool O.o,.bool O.g,.bool O.g,.bool O.g,.bool O.g],[.int (O.lit .u8 4),.str (O.t ⟨#[83,84,85,77,80,69,68]⟩),.bool O.o,.bool O.o,.bool O.g,.bool O.o,.bool O.g],[.int (O.lit .u8 5),.str (O.t ⟨#[72,73,84,87,73,67,75,69,84]⟩),.bool O.o,.bool O.o,.bool O.g,.bool O.g,.bool O.g],[.int (O.lit .u8 6),.str (O.t ⟨#[82,85,78,79,85,84]⟩),.bool O.o,.bool O.o,.bool O.o,.bool O.o,.bool O.o],[.int (O.lit .u8 7),.str (O.t ⟨#[72,73,84,84,87,73,67,69]⟩),.bool O.o,.bool O.g,.bool O.o,.bool O.g,.bool O.g],[.int (O.lit .u8 8),.str (O.t ⟨#[79,66,83,84,82,85,67,84,73,78,71]⟩),.bool O.o,.bool O.o,.bool O.o,.bool O.g,.bool O.o],[.int (O.lit .u8 9),.str (O.t ⟨#[84,73,77,69,68,79,85,84]⟩),.bool O.g,.bool O.g,.bool O.g,.bool O.g,.bool O.g],[.int (O.lit .u8 10),.str (O.t ⟨#[82,69,84,73,82,69,68]⟩),.bool O.g,.bool O.g,.bool O.g,.bool O.g,.bool O.g]])])
def cZ:Nat→Env:=eL []
def CF:=oS TN Tj cZ
def Y1:List Nat:=[0]
def MU(O:Alg)(x:Ags O):O.M:=(O.c (O.f 188 [] []) fun c0=>let u2:=(O.j c0 0);let u0:=(O.l u2);(O.c (O.v (fun s1 c1=>let u1:=(O.d c1 0);(O.b (O.n u1 u0) (O.i (O.q u1 u0) (O.b (O.e (O.m u2 u1 0) (x.I 0)) (O.a (ap O [.int (lq9 O 0)] (rr O u2 u1 [0,2,1,1,1,1,1] 0))) (s1 [.int (O.p .i64 u1 (lq9 O 1))]))) (O.a [.int (lq9 O 1)]))) [.int (lq9 O 0)]) fun c1=>(O.b (O.ad c1 0) (O.a (cr O c1 [0,2,1,1,1,1,1] 1)) (O.a [.int (O.lit .u8 0),.str (O.t ⟨#[]⟩),.bool O.g,.bool O.g,.bool O.g,.bool O.g,.bool O.g]))))
def Ny:Nat→Env:=eL [(188,CF)]
theorem PG{N ls}:Ny N 188 [] ls=CF N ls:=id rfl
def Il:=oS Y1 MU Ny
def Sa:List Nat:=[3,0]
def G6(O:Alg)(x:Ags O):O.M:=(O.c (O.v (fun s0 c0=>let u0:=(O.d c0 0);(O.b (O.n u0 (O.l (x.L 0))) (O.i (O.q u0 (O.l (x.L 0))) (O.b (O.e (x.I 1) (O.m (x.L 0) u0 0)) (O.a [.int (lq9 O 0),.int u0]) (s0 [.int (O.p .i64 u0 (lq9 O 1))]))) (O.a [.int (lq9 O 1)]))) [.int (lq9 O 0)]) fun c0=>(O.b (O.ad c0 0) (O.a [.int (O.d c0 1)]) (O.a [.int (lq9 O (-1))])))
def Ot:Nat→Env:=eL []
def E5:=oS Sa G6 Ot
def OL:List Nat:=[3,0]
def FH(O:Alg)(x:Ags O):O.M:=(O.c (O.f 189 [] [.rows (x.L 0),.int (x.I 1)]) fun c0=>(O.a [.bool (O.le (lq9 O 0) (O.d c0 0))]))
def Gy:Nat→Env:=eL [(189,E5)]
theorem KH{N ls}:Gy N 189 [] ls=E5 N ls:=id rfl
def Dw:=oS OL FH Gy
def R9:List Nat:=[0,2,1,1,1,1,1,0]
def HU(O:Alg)(x:Ags O):O.M:=(O.a [.bool (O.k (O.k (O.k (O.e (x.I 7) (O.lit .u8 1)) (x.B 2) O.g) O.o (O.k (O.e (x.I 7) (O.lit .u8 2)) (x.B 3) O.g)) O.o (O.k (O.e (x.I 7) (O.lit .u8 3)) (x.B 4) O.g))])
def O1:Nat→Env:=eL []
def Ey:=oS R9 HU O1
def U0:List Nat:=[0,1]
def JY(O:Alg)(x:Ags O):O.M:=(O.c (O.f 188 [] []) fun c0=>let u5:=(O.j c0 0);let u3:=(O.l u5);(O.c (O.v (fun s1 c1=>let u6:=(O.j c1 0);let u4:=(O.d c1 1);let u2:=(O.m u5 u4 0);let u1:=(O.p .i64 u4 (lq9 O 1));let u0:=(O.ac u6 (O.z [[.int u2]]));(O.b (O.n u4 u3) (O.i (O.q u4 u3) (O.c (O.f 190 [] (ap O (rr O u5 u4 [0,2,1,1,1,1,1] 0) [.int (x.I 0)])) fun c2=>(O.b (O.k (O.r c2 0) (O.k (O.k (O.k (O.h (x.B 1)) O.o (O.e u2 (O.lit .u8 6))) O.o (O.e u2 (O.lit .u8 7))) O.o (O.e u2 (O.lit .u8 8))) O.g) (O.i (O.s (O.l u0) 1) (s1 [.rows u0,.int u1])) (s1 [.rows u6,.int u1])))) (O.a [.rows u6]))) [.rows O.u,.int (lq9 O 0)]) fun c1=>(O.a [.rows (O.j c1 0)])))
def G8:Nat→Env:=eL [(188,CF),(190,Ey)]
theorem Np{N ls}:G8 N 188 [] ls=CF N ls:=id rfl
theorem M7{N ls}:G8 N 190 [] ls=Ey N ls:=id rfl
def GZ:=oS U0 JY G8
def Mr:List Nat:=[0]
def Et(O:Alg)(x:Ags O):O.M:=(O.a [.bool (O.k (O.le (lq9 O 1) (x.I 0)) (O.le (x.I 0) (lq9 O 11)) O.g)])
def K5:Nat→Env:=eL []
def Dd:=oS Mr Et K5
def Pv:List Nat:=[0,0,0,0,0,1,0,0,0,0,1,0,0,2,1,1,1,1,1]
def Fy(O:Alg)(x:Ags O):O.M:=let u0:=(O.e (x.I 9) (lq9 O 0));(O.c (O.f 191 [] [.int (x.I 8)]) fun c0=>(O.b (O.k (O.h (O.ao (x.B 17) (O.r c0 0))) O.o (O.k (O.h (x.B 17)) (O.h (O.e (x.I 8) (lq9 O 0))) O.g)) (O.a [.bool O.g]) (O.c (O.b (O.af (O.h u0) (O.e (x.I 6) (O.lit .u8 6))) (O.f 191 [] [.int (x.I 9)]) (O.a [.bool O.g])) fun c1=>(O.a [.bool (O.k u0 O.o (O.k (O.k (O.e (x.I 6) (O.lit .u8 6)) (O.r c1 0) O.g) (O.h (O.e (x.I 9) (x.I 8))) O.g))]))))
def H2:Nat→Env:=eL [(191,Dd)]
theorem I1{N ls}:H2 N 191 [] ls=Dd N ls:=id rfl
def ED:=oS Pv Fy H2
def PY:List Nat:=[0,0,0,0,0,1,0,0,0,0,1,0,1]
def Fu(O:Alg)(x:Ags O):O.M:=let u0:=(lq9 O 0);(O.b (O.e (x.I 6) (O.lit .u8 0)) (O.b (O.h (O.e (x.I 7) u0)) (O.a [.int (lq9 O 14)]) (O.b (O.k (O.k (O.h (O.e (x.I 8) u0)) O.o (O.h (O.e (x.I 9) u0))) O.o (x.B 10)) (O.a [.int (lq9 O 15)]) (O.a [.int u0]))) (O.c (O.f 184 [] [.int (x.I 6)]) fun c0=>(O.c (O.f 186 [] [.int (x.I 0),.bool (x.B 12)]) fun c1=>(O.c (O.f 185 [] [.rows (O.j c1 0),.int (x.I 6)]) fun c2=>(O.b (O.h (O.r c2 0)) (O.a [.int (lq9 O 13)]) (O.b (O.k (O.h (O.k (O.e (x.I 6) (O.lit .u8 6)) O.o (O.e (x.I 6) (O.lit .u8 8)))) (O.k (O.h (O.e (x.I 1) (O.lit .u8 0))) O.o (O.h (O.e (x.I 2) u0))) O.g) (O.a [.int (lq9 O 12)]) (O.b (O.k (O.h (O.e (x.I 7) (lq9 O 1))) (O.k (O.h (O.e (x.I 7) (lq9 O 2))) O.o (O.h (O.r c0 6))) O.g) (O.a [.int (lq9 O 14)]) (O.c (O.f 187 [] (ap O (xr x [0,0,0,0,0,1,0,0,0,0,1,0] 0) (cr O c0 [0,2,1,1,1,1,1] 0))) fun c3=>(O.b (O.h (O.r c3 0)) (O.a [.int (lq9 O 15)]) (O.b (O.k (O.k (x.B 10) (O.h (O.e (x.I 6) (O.lit .u8 2))) O.g) (O.h (O.e (x.I 6) (O.lit .u8 6))) O.g) (O.a [.int (lq9 O 18)]) (O.a [.int u0])))))))))))
def Ct:Nat→Env:=eL [(184,Il),(185,Dw),(186,GZ),(187,ED)]
theorem Mq{N ls}:Ct N 184 [] ls=Il N ls:=id rfl
theorem JQ{N ls}:Ct N 185 [] ls=Dw N ls:=id rfl
theorem MP{N ls}:Ct N 186 [] ls=GZ N ls:=id rfl
theorem J5{N ls}:Ct N 187 [] ls=ED N ls:=id rfl
def D7:=oS PY Fu Ct
def cM:List Nat:=[0,0,0,0,0,0,0,0,0,0,0,0,0,0,3,0,3,3,1,3,1,0,0,0,3,0,0,0,0,0,0,0,0,1,0,0,0,0,1,0]
def NN(O:Alg)(x:Ags O):O.M:=let u1:=(lq9 O 1);let u0:=(lq9 O 0);(O.c (O.b (O.n u0 (x.I 36)) (O.c (O.f 168 [] (ap O (xr x kI 0) [.int (x.I 36)])) fun c0=>(O.b (O.h (O.r c0 0)) (O.a [.int u1,.int (lq9 O 3)]) (O.c (O.f 169 [] (ap O (xr x kI 0) [.int (x.I 36)])) fun c1=>(O.b (O.h (O.ao (x.B 38) (O.r c1 0))) (O.a [.int u1,.int (lq9 O 18)]) (O.a [.int u0]))))) (O.a [.int u0])) fun c0=>(O.b (O.ad c0 0) (O.c (O.b (O.n u0 (x.I 37)) (O.c (O.f 168 [] (ap O (xr x kI 0) [.int (x.I 37)])) fun c1=>(O.b (O.h (O.r c1 0)) (O.a [.int u1,.int (lq9 O 3)]) (O.c (O.f 169 [] (ap O (xr x kI 0) [.int (x.I 37)])) fun c2=>(O.b (O.r c2 0) (O.a [.int u1,.int (lq9 O 18)]) (O.a [.int u0]))))) (O.a [.int u0])) fun c1=>(O.b (O.ad c1 0) (O.b (O.k (O.e (x.I 34) (O.lit .u8 4)) (O.h (O.e (O.aj (O.n (x.I 36) u0) u0 (x.I 36)) (x.I 22))) O.g) (O.a [.int (lq9 O 17)]) (O.a [.int u0])) (O.a [.int (O.d c1 1)]))) (O.a [.int (O.d c0 1)])))
def Kf:Nat→Env:=eL [(168,BT),(169,BP)]
theorem UC{N ls}:Kf N 168 [] ls=BT N ls:=id rfl
theorem RP{N ls}:Kf N 169 [] ls=BP N ls:=id rfl
def J7:=oS cM NN Kf
def Td:List Nat:=[2,0,0,0,0,0,0,0,1,0,0,0,0,3,0,0,0,0,0,0,0,0,0,0,0,0,0,0,3,0,3,3,1,3,1,0,0,0,3,0,0,0,0,0,0,0,0,1,0,0,0,0,1,0]
def IK(O:Alg)(x:Ags O):O.M:=let u3:=(lq9 O 0);(O.c (O.f 149 [] (xr x kI 14)) fun c0=>(O.b (O.r c0 0) (O.a [.int (lq9 O 6)]) (O.b (O.e (x.I 29) u3) (O.a [.int (lq9 O 7)]) (O.c (O.f 178 [] (xr x [2,0,0,0,0,0,0,0,1,0,0,0,0,3,0,0,0,0,0,0,0,0,0,0,0,0,0,0,3,0,3,3,1,3,1,0,0,0,3,0,0,0] 0)) fun c1=>(O.c (O.f 50 [] (xr x [0,0,0,0,0,1,0,0,0,0,1,0] 42)) fun c2=>(O.c (O.f 179 [] (ap O (xr x [0,0,0,0,0,1,0,0,0,0,1,0] 42) [.bool (x.B 34)])) fun c3=>(O.c (O.f 180 [] (xr x [0,0,0,0,0,0,0,0,0,0,0,0,0,0,3,0,3,3,1,3,1,0,0,0,3,0,0,0,0,0,0,0,0,1,0,0,0,0,1,0] 14)) fun c4=>let u2:=(O.z [[.int (O.d c1 0)],[.int (O.d c2 0)],[.int (O.d c3 0)],[.int (O.d c4 0)]]);let u1:=(O.l u2);(O.c (O.v (fun s5 c5=>let u4:=(O.d c5 0);let u0:=(O.m u2 u4 0);(O.b (O.n u4 u1) (O.i (O.q u4 u1) (O.b (O.h (O.e u0 u3)) (O.a [.int u3,.int u0]) (s5 [.int (O.p .i64 u4 (lq9 O 1))]))) (O.a [.int (lq9 O 1)]))) [.int u3]) fun c5=>(O.b (O.ad c5 0) (O.a [.int (O.d c5 1)]) (O.a [.int u3]))))))))))
def Cy:Nat→Env:=eL [(50,C9),(149,Bp),(178,Jo),(179,D7),(180,J7)]
theorem OC{N ls}:Cy N 50 [] ls=C9 N ls:=id rfl
theorem On{N ls}:Cy N 149 [] ls=Bp N ls:=id rfl
theorem QG{N ls}:Cy N 178 [] ls=Jo N ls:=id rfl
theorem LZ{N ls}:Cy N 179 [] ls=D7 N ls:=id rfl
theorem QJ{N ls}:Cy N 180 [] ls=J7 N ls:=id rfl
def Fk:=oS Td IK Cy
def dE:List Nat:=[0,0,0,0,0,0,0,0,0,0,0,0,0,0,3,0,3,3,1,3,1,0,0,0,3,0,0,0,0,0,0,0,0,1,0,0,0,0,1,0]
def Oq(O:Alg)(x:Ags O):O.M:=let u5:=(lq9 O 2);let u4:=(lq9 O 1);let u3:=(lq9 O 0);let u1:=(O.h (O.e (O.as .i64 (x.I 30) u5) u3));(O.c (O.f 156 [] (xr x kI 0)) fun c0=>(O.c (O.b (O.h (O.e (x.I 34) (O.lit .u8 0))) (O.b (O.k (O.e (x.I 35) u4) (O.h (O.e (x.I 12) u3)) O.g) (O.a [.int u4,.int (x.I 12)]) (O.b (O.k (O.e (x.I 35) u5) (O.h (O.e (x.I 13) u3)) O.g) (O.a [.int u5,.int (x.I 13)]) (O.a [.int u3,.int u3]))) (O.a [.int u3,.int u3])) fun c1=>let u7:=(O.d c1 1);let u2:=(O.x .i64 u7 u4);(O.c (O.b (x.B 33) (O.a [.bool (O.h u1)]) (O.a [.bool u1])) fun c2=>(O.c (O.b (O.r c2 0) (O.a (ap O (cr O c0 [0,0,0,0,0,0,0,0,0,0,0,0] 0) (ap O [.int (O.d c0 13),.int (O.d c0 12)] (cr O c0 [3,0,3,3,1,3,1,0,0,0,3,0,0,0] 14)))) (O.a (cr O c0 kI 0))) fun c3=>let u6:=(O.j c3 14);let u0:=(O.q u2 (O.l u6));(O.b (O.e (O.d c1 0) u3) (O.a (cr O c3 kI 0)) (O.b (O.h (O.ao (O.e (O.d c1 0) u4) (O.r c2 0))) (O.c (O.f 158 [] (ap O (cr O c3 [0,0,0,0,0,0,0,0,0,0,0,0] 0) (ap O [.int u3] (ap O (cr O c3 [0,3,0,3,3,1,3,1,0,0,0,3,0,0,0] 13) [.int u7])))) fun c4=>(O.c (O.b (O.r c4 0) (O.i u0 (O.a (ap O (cr O c3 [0,0,0,0,0,0,0,0,0,0,0,0] 0) (ap O [.int u3,.int (O.d c3 13),.rows (O.w u6 u2 0 [.int (O.lit .u8 2)])] (cr O c3 [0,3,3,1,3,1,0,0,0,3,0,0,0] 15))))) (O.a (ap O (cr O c3 [0,0,0,0,0,0,0,0,0,0,0,0] 0) (ap O [.int u3] (cr O c3 [0,3,0,3,3,1,3,1,0,0,0,3,0,0,0] 13))))) fun c5=>(O.a (ap O (cr O c5 [0,0,0,0] 0) (ap O [.int (O.p .i64 (O.d c5 4) u4)] (cr O c5 [0,0,0,0,0,0,0,0,0,3,0,3,3,1,3,1,0,0,0,3,0,0,0] 5)))))) (O.c (O.f 158 [] (ap O (cr O c3 [0,0,0,0,0,0,0,0,0,0,0,0,0] 0) (ap O [.int u3] (ap O (cr O c3 [3,0,3,3,1,3,1,0,0,0,3,0,0,0] 14) [.int u7])))) fun c4=>(O.c (O.b (O.r c4 0) (O.i u0 (O.a (ap O (cr O c3 [0,0,0,0,0,0,0,0,0,0,0,0,0] 0) (ap O [.int u3,.rows (O.w u6 u2 0 [.int (O.lit .u8 2)])] (cr O c3 [0,3,3,1,3,1,0,0,0,3,0,0,0] 15))))) (O.a (ap O (cr O c3 [0,0,0,0,0,0,0,0,0,0,0,0,0] 0) (ap O [.int u3] (cr O c3 [3,0,3,3,1,3,1,0,0,0,3,0,0,0] 14))))) fun c5=>(O.a (ap O (cr O c5 [0,0,0,0] 0) (ap O [.int (O.p .i64 (O.d c5 4) u4)] (cr O c5 [0,0,0,0,0,0,0,0,0,3,0,3,3,1,3,1,0,0,0,3,0,0,0] 5))))))))))))
def Lz:Nat→Env:=eL [(156,BE),(158,BF)]
theorem WU{N ls}:Lz N 156 [] ls=BE N ls:=id rfl
theorem T8{N ls}:Lz N 158 [] ls=BF N ls:=id rfl
def Lj:=oS dE Oq Lz
def dT:List Nat:=[2,0,0,0,0,0,0,0,1,0,0,0,0,3,0,0,0,0,0,0,0,0,0,0,0,0,0,0,3,0,3,3,1,3,1,0,0,0,3,0,0,0,1]
def O0(O:Alg)(x:Ags O):O.M:=let u5:=(lq9 O 0);let u4:=(lq9 O 1);let u2:=(O.x .i64 (x.I 29) u4);(O.c (O.f 159 [] (xr x kI 14)) fun c0=>let u1:=(O.ac (O.j c0 16) (O.z [[.int (x.I 29)]]));(O.c (O.f 176 [] (ap O (xr x kI 14) [.int (x.I 29)])) fun c1=>let u3:=(O.h (O.r c1 0));(O.c (O.b (O.h u3) (O.f 47 [] (xr x kR 0)) (O.a [.int u5])) fun c2=>(O.b (O.k u3 O.o (O.h (O.e (O.d c2 0) u5))) (O.a (ap O (cr O c0 kI 0) [.bool O.g])) (O.c (O.f 121 [] [.rows (O.j c0 16),.int (x.I 29)]) fun c3=>(O.c (O.b (O.h (O.r c3 0)) (O.i (O.s (O.l u1) 8) (O.a (ap O (cr O c0 [0,0,0,0,0,0,0,0,0,0,0,0,0,0,3,0] 0) (ap O [.rows u1] (cr O c0 [3,1,3,1,0,0,0,3,0,0,0] 17))))) (O.a (cr O c0 kI 0))) fun c4=>let u6:=(O.j c4 19);let u0:=(O.q u2 (O.l u6));(O.c (O.b (x.B 42) (O.i u0 (O.i u0 (O.a (ap O (cr O c4 [0,0,0,0,0,0,0,0,0,0,0] 0) (ap O [.int (O.p .i64 (O.d c4 11) u4)] (ap O (cr O c4 [0,0,3,0,3,3,1] 12) (ap O [.rows (O.w u6 u2 0 [.int (O.p .i64 (O.m u6 u2 0) u4)]),.bool (O.r c4 20),.int (O.p .i64 (O.d c4 21) u4)] (cr O c4 [0,0,3,0,0,0] 22)))))))) (O.a (cr O c4 kI 0))) fun c5=>(O.b (O.n (O.d c5 11) (x.I 4)) (O.a (ap O (cr O c5 kI 0) [.bool O.g])) (O.a (ap O (cr O c5 [0,0,0,0,0,0,0,0,0,0] 0) (ap O [.int (O.p .i64 (O.d c5 10) u4),.int u5] (ap O (cr O c5 [0,0,3] 12) (ap O [.int u5,.rows O.u,.rows (O.j c5 16)] (ap O (cr O c5 [1,3,1,0,0,0,3,0,0,0] 18) [.bool O.o]))))))))))))))
def F5:Nat→Env:=eL [(47,Ab),(121,A8),(159,DW),(176,Cm)]
theorem WG{N ls}:F5 N 47 [] ls=Ab N ls:=id rfl
theorem Ns{N ls}:F5 N 121 [] ls=A8 N ls:=id rfl
theorem YL{N ls}:F5 N 159 [] ls=DW N ls:=id rfl
theorem Vc{N ls}:F5 N 176 [] ls=Cm N ls:=id rfl
def Ld:=oS dT O0 F5
def XJ:List Nat:=[0,0,0,0,0,0,0,0,0,0,0,0,0,0,3,0,3,3,1,3,1,0,0,0,3,0,0,0]
def KY(O:Alg)(x:Ags O):O.M:=(O.c (O.f 156 [] (xr x kI 0)) fun c0=>(O.a (ap O (cr O c0 [0,0,0,0,0,0,0,0,0,0,0,0] 0) (ap O [.int (x.I 13),.int (x.I 12)] (cr O c0 [3,0,3,3,1,3,1,0,0,0,3,0,0,0] 14)))))
def MZ:Nat→Env:=eL [(156,BE)]
theorem So{N ls}:MZ N 156 [] ls=BE N ls:=id rfl
def Hj:=oS XJ KY MZ
def Y7:List Nat:=[2,0,0,0,0,0,0,0,1,0,0,0,0,3,0,0,0,0,0,0,0,0,0,0,0,0,0,0,3,0,3,3,1,3,1,0,0,0,3,0,0,0,0,0,0,0,0,1,0,0,0,0,1,0]
def Lw(O:Alg)(x:Ags O):O.M:=let u0:=(lq9 O 0);(O.c (O.f 161 [] (xr x [2,0,0,0,0,0,0,0,1,0,0,0,0,3,0,0,0,0,0,0,0,0,0,0,0,0,0,0,3,0,3,3,1,3,1,0,0,0,3,0,0,0,0,0,0,0,0,1,0,0,0,0,1,0] 0)) fun c0=>(O.b (O.h (O.e (O.d c0 0) u0)) (O.c (O.f 96 [] (xr x kI 14)) fun c1=>(O.a (ap O (cr O c1 kI 0) [.int (O.d c0 0)]))) (O.c (O.f 22 [] (ap O (xr x kR 0) (xr x [0,0,0,0,0,1,0,0,0,0,1,0] 42))) fun c1=>(O.c (O.f 162 [] (xr x [0,0,0,0,0,0,0,0,0,0,0,0,0,0,3,0,3,3,1,3,1,0,0,0,3,0,0,0,0,0,0,0,0,1,0,0,0,0,1,0] 14)) fun c2=>(O.c (O.f 23 [] (cr O c1 [0,0,0,0,0,0,1,1,1,1] 0)) fun c3=>(O.c (O.f 163 [] (ap O (xr x kR 0) (ap O (cr O c2 [0,0,0] 0) (ap O [.int (O.p .i64 (O.d c2 3) (O.d c3 0)),.int (O.d c2 4),.int (O.p .i64 (O.d c2 5) (O.d c1 1)),.int (O.p .i64 (O.d c2 6) (O.d c1 2)),.int (O.p .i64 (O.d c2 7) (O.d c1 3)),.int (O.p .i64 (O.d c2 8) (O.d c1 4))] (ap O (cr O c2 [0,0,0,0,0,3,0,3,3,1,3,1,0,0,0,3,0,0,0] 9) [.bool (O.r c1 6)]))))) fun c4=>(O.c (O.b (O.r c4 28) (O.c (O.f 164 [] (cr O c4 kI 0)) fun c5=>(O.a (cr O c5 kI 0))) (O.a (cr O c4 kI 0))) fun c5=>(O.b (O.e (x.I 42) (O.lit .u8 1)) (O.a (ap O (cr O c5 [0,0,0,0,0,0,0,0,0,0,0,0,0,0,3,0,3,3,1,3] 0) (ap O [.bool O.g] (ap O (cr O c5 [0,0,0,3,0,0,0] 21) [.int u0])))) (O.b (O.k (O.e (x.I 42) (O.lit .u8 3)) (x.B 8) O.g) (O.a (ap O (cr O c5 [0,0,0,0,0,0,0,0,0,0,0,0,0,0,3,0,3,3,1,3] 0) (ap O [.bool O.o] (ap O (cr O c5 [0,0,0,3,0,0,0] 21) [.int u0])))) (O.a (ap O (cr O c5 kI 0) [.int u0])))))))))))
def Cg:Nat→Env:=eL [(22,A9),(23,BB),(96,Ac),(161,Fk),(162,Lj),(163,Ld),(164,Hj)]
theorem P9{N ls}:Cg N 22 [] ls=A9 N ls:=id rfl
theorem QE{N ls}:Cg N 23 [] ls=BB N ls:=id rfl
theorem Qj{N ls}:Cg N 96 [] ls=Ac N ls:=id rfl
theorem QA{N ls}:Cg N 161 [] ls=Fk N ls:=id rfl
theorem UL{N ls}:Cg N 162 [] ls=Lj N ls:=id rfl
theorem UM{N ls}:Cg N 163 [] ls=Ld N ls:=id rfl
theorem Q2{N ls}:Cg N 164 [] ls=Hj N ls:=id rfl
def Iq:=oS Y7 Lw Cg
def dU:List Nat:=[0,0,0,0,0,0,0,0,0,0,0,0,0,0,3,0,3,3,1,3,1,0,0,0,3,0,0,0,0]
def Pk(O:Alg)(x:Ags O):O.M:=let u2:=(O.x .i64 (x.I 28) (lq9 O 1));let u1:=(O.m (x.L 14) u2 0);let u0:=(O.q u2 (O.l (x.L 14)));(O.c (O.f 158 [] (xr x [0,0,0,0,0,0,0,0,0,0,0,0,0,0,3,0,3,3,1,3,1,0,0,0,3,0,0,0,0] 0)) fun c0=>(O.b (O.h (O.r c0 0)) (O.a [.int (lq9 O 3)]) (O.c (O.f 149 [] (xr x kI 0)) fun c1=>let u3:=(O.h (O.r c1 0));(O.i (O.h (O.af (O.h u3) (O.h u0))) (O.b (O.k u3 O.o (O.e u1 (O.lit .u8 1))) (O.a [.int (lq9 O 4)]) (O.i u0 (O.b (O.e u1 (O.lit .u8 2)) (O.a [.int (lq9 O 5)]) (O.a [.int (lq9 O 0)]))))))))
def MC:Nat→Env:=eL [(149,Bp),(158,BF)]
theorem TE{N ls}:MC N 149 [] ls=Bp N ls:=id rfl
theorem UU{N ls}:MC N 158 [] ls=BF N ls:=id rfl
def Ez:=oS dU Pk MC
def U7:List Nat:=[0,0,0,0,0,0,0,0,0,0,0,0,0,0,3,0,3,3,1,3,1,0,0,0,3,0,0,0,0]
def JC(O:Alg)(x:Ags O):O.M:=let u0:=(O.x .i64 (x.I 28) (lq9 O 1));(O.c (O.f 156 [] (xr x kI 0)) fun c0=>(O.c (O.f 165 [] (xr x [0,0,0,0,0,0,0,0,0,0,0,0,0,0,3,0,3,3,1,3,1,0,0,0,3,0,0,0,0] 0)) fun c1=>(O.b (O.h (O.e (O.d c1 0) (lq9 O 0))) (O.a (ap O (cr O c0 kI 0) [.int (O.d c1 0)])) (O.c (O.f 158 [] (ap O (cr O c0 kI 0) [.int (x.I 28)])) fun c2=>(O.c (O.b (O.r c2 0) (O.i (O.q u0 (O.l (O.j c0 14))) (O.a (ap O (cr O c0 [0,0,0,0,0,0,0,0,0,0,0,0,0,0] 0) (ap O [.rows (O.w (O.j c0 14) u0 0 [.int (O.lit .u8 2)])] (cr O c0 [0,3,3,1,3,1,0,0,0,3,0,0,0] 15))))) (O.a (cr O c0 kI 0))) fun c3=>(O.a (ap O (cr O c3 [0,0,0,0] 0) (ap O [.int (O.p .i64 (O.d c3 4) (lq9 O 1))] (ap O (cr O c3 [0,0,0,0,0,0,0,0,0,3,0,3,3,1,3,1,0,0,0,3,0,0,0] 5) [.int (lq9 O 0)])))))))))
def E8:Nat→Env:=eL [(156,BE),(158,BF),(165,Ez)]
theorem Sg{N ls}:E8 N 156 [] ls=BE N ls:=id rfl
theorem QF{N ls}:E8 N 158 [] ls=BF N ls:=id rfl
theorem Si{N ls}:E8 N 165 [] ls=Ez N ls:=id rfl
def GX:=oS U7 JC E8
def Ys:List Nat:=[0,0,0,0,0,0,0,0,0,0,0,0,0,0,3,0,3,3,1,3,1,0,0,0,3,0,0,0,0]
def Lt(O:Alg)(x:Ags O):O.M:=let u1:=(lq9 O 0);let u0:=(O.x .i64 (x.I 28) (lq9 O 1));(O.c (O.f 156 [] (xr x kI 0)) fun c0=>let u2:=(O.j c0 14);(O.c (O.f 165 [] (xr x [0,0,0,0,0,0,0,0,0,0,0,0,0,0,3,0,3,3,1,3,1,0,0,0,3,0,0,0,0] 0)) fun c1=>(O.b (O.h (O.e (O.d c1 0) u1)) (O.a (ap O (cr O c0 kI 0) [.int (O.d c1 0)])) (O.i (O.q u0 (O.l u2)) (O.b (O.e (O.d c0 12) u1) (O.a (ap O (cr O c0 [0,0,0,0,0,0,0,0,0,0,0,0] 0) (ap O [.int (x.I 28),.int (O.d c0 13),.rows (O.w u2 u0 0 [.int (O.lit .u8 1)])] (ap O (cr O c0 [0,3,3,1,3,1,0,0,0,3,0,0,0] 15) [.int u1])))) (O.a (ap O (cr O c0 [0,0,0,0,0,0,0,0,0,0,0,0,0] 0) (ap O [.int (x.I 28),.rows (O.w u2 u0 0 [.int (O.lit .u8 1)])] (ap O (cr O c0 [0,3,3,1,3,1,0,0,0,3,0,0,0] 15) [.int u1])))))))))
def JX:Nat→Env:=eL [(156,BE),(165,Ez)]
theorem UJ{N ls}:JX N 156 [] ls=BE N ls:=id rfl
theorem UP{N ls}:JX N 165 [] ls=Ez N ls:=id rfl
def Ia:=oS Ys Lt JX
def bP:List Nat:=[0,0,0,0,0,0,0,0,0,0,0,0,0,0,3,0,3,3,1,3,1,0,0,0,3,0,0,0]
def Gz(O:Alg)(x:Ags O):O.M:=(O.c (O.v (fun s0 c0=>let u4:=(O.j c0 0);let u3:=(O.d c0 1);let u2:=(O.m (x.L 14) u3 0);let u1:=(O.p .i64 u3 (lq9 O 1));let u0:=(O.ac u4 (O.z [[.int u1]]));(O.b (O.n u3 (O.l (x.L 14))) (O.i (O.q u3 (O.l (x.L 14))) (O.b (O.k (O.e u2 (O.lit .u8 0)) O.o (O.e u2 (O.lit .u8 3))) (O.i (O.s (O.l u0) 8) (s0 [.rows u0,.int u1])) (s0 [.rows u4,.int u1]))) (O.a [.rows u4]))) [.rows O.u,.int (lq9 O 0)]) fun c0=>(O.a [.rows (O.j c0 0)]))
def PS:Nat→Env:=eL []
def Df:=oS bP Gz PS
def Wu:List Nat:=[0,0,0,0,0,0,0,0,0,0,0,0,0,0,3,0,3,3,1,3,1,0,0,0,3,0,0,0,0,1]
def Kq(O:Alg)(x:Ags O):O.M:=let u3:=(lq9 O 0);let u2:=(O.e (x.I 28) (x.I 12));let u1:=(O.x .i64 (x.I 28) (lq9 O 1));(O.c (O.f 156 [] (xr x kI 0)) fun c0=>(O.c (O.f 158 [] (xr x [0,0,0,0,0,0,0,0,0,0,0,0,0,0,3,0,3,3,1,3,1,0,0,0,3,0,0,0,0] 0)) fun c1=>(O.b (O.h (O.r c1 0)) (O.a (ap O (cr O c0 kI 0) [.int (lq9 O 3)])) (O.b (O.k (O.e (x.I 12) u3) O.o (O.e (x.I 13) u3)) (O.a (ap O (cr O c0 kI 0) [.int (lq9 O 6)])) (O.b (O.k (O.h u2) (O.h (O.e (x.I 28) (x.I 13))) O.g) (O.a (ap O (cr O c0 kI 0) [.int (lq9 O 4)])) (O.c (O.b (x.B 29) (O.f 150 [] (xr x kI 0)) (O.a [.rows O.u])) fun c2=>(O.b (O.k (x.B 29) (O.e (O.l (O.j c2 0)) u3) O.g) (O.a (ap O (cr O c0 kI 0) [.int (lq9 O 19)])) (O.c (O.b u2 (O.a (ap O (cr O c0 [0,0,0,0,0,0,0,0,0,0,0,0] 0) (ap O [.int u3] (cr O c0 [0,3,0,3,3,1,3,1,0,0,0,3,0,0,0] 13)))) (O.a (ap O (cr O c0 [0,0,0,0,0,0,0,0,0,0,0,0,0] 0) (ap O [.int u3] (cr O c0 [3,0,3,3,1,3,1,0,0,0,3,0,0,0] 14))))) fun c3=>let u4:=(O.j c3 14);let u0:=(O.q u1 (O.l u4));(O.b (x.B 29) (O.i u0 (O.a (ap O (cr O c3 [0,0,0,0,0,0,0,0,0,0,0,0,0,0] 0) (ap O [.rows (O.w u4 u1 0 [.int (O.lit .u8 3)])] (ap O (cr O c3 [0,3,3,1,3,1,0,0,0,3,0,0,0] 15) [.int u3]))))) (O.c (O.f 158 [] (ap O (cr O c3 kI 0) [.int (x.I 28)])) fun c4=>(O.c (O.b (O.r c4 0) (O.i u0 (O.a (ap O (cr O c3 [0,0,0,0,0,0,0,0,0,0,0,0,0,0] 0) (ap O [.rows (O.w u4 u1 0 [.int (O.lit .u8 2)])] (cr O c3 [0,3,3,1,3,1,0,0,0,3,0,0,0] 15))))) (O.a (cr O c3 kI 0))) fun c5=>(O.a (ap O (cr O c5 [0,0,0,0] 0) (ap O [.int (O.p .i64 (O.d c5 4) (lq9 O 1))] (ap O (cr O c5 [0,0,0,0,0,0,0,0,0,3,0,3,3,1,3,1,0,0,0,3,0,0,0] 5) [.int u3])))))))))))))))
def Fj:Nat→Env:=eL [(150,Df),(156,BE),(158,BF)]
theorem SM{N ls}:Fj N 150 [] ls=Df N ls:=id rfl
theorem TF{N ls}:Fj N 156 [] ls=BE N ls:=id rfl
theorem RT{N ls}:Fj N 158 [] ls=BF N ls:=id rfl
def HI:=oS Wu Kq Fj
def gf:List Nat:=[0,0,0,0,0,0,0,0,0,0,0,0,0,0,3,0,3,3,1,3,1,0,0,0,3,0,0,0]
def Ry(O:Alg)(x:Ags O):O.M:=(O.c (O.f 112 [] [.rows (x.L 14)]) fun c0=>(O.c (O.f 113 [] [.rows (x.L 16)]) fun c1=>(O.c (O.f 113 [] [.rows (x.L 17)]) fun c2=>(O.c (O.f 113 [] [.rows (x.L 19)]) fun c3=>(O.c (O.f 114 [] [.rows (x.L 24)]) fun c4=>(O.a (ap O (xr x [0,0,0,0,0,0,0,0,0,0,0,0,0,0] 0) (ap O [.rows (O.j c0 0),.int (x.I 15),.rows (O.j c1 0),.rows (O.j c2 0),.bool (x.B 18),.rows (O.j c3 0)] (ap O (xr x [1,0,0,0] 20) (ap O [.rows (O.j c4 0)] (xr x [0,0,0] 25)))))))))))
def Jl:Nat→Env:=eL [(112,Af),(113,As),(114,Al)]
theorem Oj{N ls}:Jl N 112 [] ls=Af N ls:=id rfl
theorem RI{N ls}:Jl N 113 [] ls=As N ls:=id rfl
theorem QL{N ls}:Jl N 114 [] ls=Al N ls:=id rfl
def DZ:=oS gf Ry Jl
def Wl:List Nat:=[0,0,0,0,0,0,0,0,0,0,0,0,0,0,3,0,3,3,1,3,1,0,0,0,3,0,0,0,0]
def Kt(O:Alg)(x:Ags O):O.M:=(O.c (O.f 167 [] (xr x kI 0)) fun c0=>(O.b (O.k (O.n (x.I 28) (lq9 O 0)) O.o (O.n (O.x .i64 (O.l (x.L 24)) (lq9 O 2)) (x.I 28))) (O.a (ap O (cr O c0 kI 0) [.int (lq9 O 16)])) (O.a (ap O (cr O c0 [0,0,0,0,0,0,0,0,0,0,0,0,0,0,3,0,3,3,1,3,1,0,0] 0) (ap O [.int (x.I 28)] (ap O (cr O c0 [3,0,0,0] 24) [.int (lq9 O 0)]))))))
def Ml:Nat→Env:=eL [(167,DZ)]
theorem Tv{N ls}:Ml N 167 [] ls=DZ N ls:=id rfl
def He:=oS Wl Kt Ml
def ZU:List Nat:=[0,0,0,0,0,0,0,0,0,0,0,0,0,0,3,0,3,3,1,3,1,0,0,0,3,0,0,0,0]
def MF(O:Alg)(x:Ags O):O.M:=(O.c (O.f 167 [] (xr x kI 0)) fun c0=>(O.c (O.f 168 [] (xr x [0,0,0,0,0,0,0,0,0,0,0,0,0,0,3,0,3,3,1,3,1,0,0,0,3,0,0,0,0] 0)) fun c1=>(O.b (O.h (O.r c1 0)) (O.a (ap O (cr O c0 kI 0) [.int (lq9 O 3)])) (O.c (O.f 169 [] (xr x [0,0,0,0,0,0,0,0,0,0,0,0,0,0,3,0,3,3,1,3,1,0,0,0,3,0,0,0,0] 0)) fun c2=>(O.b (O.r c2 0) (O.a (ap O (cr O c0 kI 0) [.int (lq9 O 18)])) (O.b (O.k (O.e (x.I 28) (x.I 15)) O.o (O.e (x.I 28) (x.I 22))) (O.a (ap O (cr O c0 kI 0) [.int (lq9 O 17)])) (O.a (ap O (cr O c0 [0,0,0,0,0,0,0,0,0,0,0,0,0,0,3,0,3,3,1,3,1,0] 0) (ap O [.int (x.I 28)] (ap O (cr O c0 [0,3,0,0,0] 23) [.int (lq9 O 0)]))))))))))
def GF:Nat→Env:=eL [(167,DZ),(168,BT),(169,BP)]
theorem VK{N ls}:GF N 167 [] ls=DZ N ls:=id rfl
theorem Sw{N ls}:GF N 168 [] ls=BT N ls:=id rfl
theorem QM{N ls}:GF N 169 [] ls=BP N ls:=id rfl
def IL:=oS ZU MF GF
def SI:List Nat:=[0,0,0,0,0,0,0,0,0,0,0,0,0,0,3,0,3,3,1,3,1,0,0,0,3,0,0,0,0,1]
def HB(O:Alg)(x:Ags O):O.M:=let u2:=(lq9 O 0);let u1:=(O.x .i64 (x.I 28) (lq9 O 1));(O.c (O.f 167 [] (xr x kI 0)) fun c0=>let u0:=(O.w (O.j c0 24) u1 0 [.bool (x.B 29)]);(O.c (O.f 168 [] (xr x [0,0,0,0,0,0,0,0,0,0,0,0,0,0,3,0,3,3,1,3,1,0,0,0,3,0,0,0,0] 0)) fun c1=>(O.b (O.h (O.r c1 0)) (O.a (ap O (cr O c0 kI 0) [.int (lq9 O 3)])) (O.c (O.f 169 [] (xr x [0,0,0,0,0,0,0,0,0,0,0,0,0,0,3,0,3,3,1,3,1,0,0,0,3,0,0,0,0] 0)) fun c2=>(O.b (O.ao (O.r c2 0) (x.B 29)) (O.a (ap O (cr O c0 kI 0) [.int (lq9 O 18)])) (O.i (O.q u1 (O.l (O.j c0 24))) (O.c (O.b (O.k (x.B 29) (O.e (O.d c0 22) (x.I 28)) O.g) (O.a (ap O (cr O c0 [0,0,0,0,0,0,0,0,0,0,0,0,0,0,3,0,3,3,1,3,1,0] 0) (ap O [.int u2,.int (O.d c0 23),.rows u0] (cr O c0 [0,0,0] 25)))) (O.a (ap O (cr O c0 [0,0,0,0,0,0,0,0,0,0,0,0,0,0,3,0,3,3,1,3,1,0,0,0] 0) (ap O [.rows u0] (cr O c0 [0,0,0] 25))))) fun c3=>(O.b (O.k (x.B 29) (O.e (O.d c3 15) (x.I 28)) O.g) (O.a (ap O (cr O c3 [0,0,0,0,0,0,0,0,0,0,0,0,0,0,3] 0) (ap O [.int u2] (ap O (cr O c3 [3,3,1,3,1,0,0,0,3,0,0,0] 16) [.int u2])))) (O.a (ap O (cr O c3 kI 0) [.int u2]))))))))))
def D5:Nat→Env:=eL [(167,DZ),(168,BT),(169,BP)]
theorem RG{N ls}:D5 N 167 [] ls=DZ N ls:=id rfl
theorem PO{N ls}:D5 N 168 [] ls=BT N ls:=id rfl
theorem Mp{N ls}:D5 N 169 [] ls=BP N ls:=id rfl
def E0:=oS SI HB D5
def Xm:List Nat:=[2,0,0,0,0,0,0,0,1,0,0,0,0,3,0,0,0,0,0,0,0,0,0,0,0,0,0,0,3,0,3,3,1,3,1,0,0,0,3,0,0,0]
def Kg(O:Alg)(x:Ags O):O.M:=let u0:=(lq9 O 0);(O.c (O.f 159 [] (xr x kI 14)) fun c0=>(O.c (O.f 47 [] (xr x kR 0)) fun c1=>(O.b (O.k (O.k (O.h (O.e (O.d c1 0) u0)) O.o (O.e (x.I 9) u0)) O.o (O.n (x.I 35) (O.ak .i64 (x.I 9) (x.I 4)))) (O.a (ap O (cr O c0 kI 0) [.int (lq9 O 22)])) (O.a (ap O (cr O c0 [0,0,0,0,0,0,0,0,0,0,0,0,0,0,3,0,3,3,1,3,1] 0) (ap O [.int u0] (ap O (cr O c0 [0,0,3,0,0,0] 22) [.int u0])))))))
def IJ:Nat→Env:=eL [(47,Ab),(159,DW)]
theorem Sd{N ls}:IJ N 47 [] ls=Ab N ls:=id rfl
theorem UI{N ls}:IJ N 159 [] ls=DW N ls:=id rfl
def HX:=oS Xm Kg IJ
def Ta:List Nat:=[2,0,0,0,0,0,0,0,1,0,0,0,0,3,0,0,0,0,0,0,0,0,0,0,0,0,0,0,3,0,3,3,1,3,1,0,0,0,3,0,0,0,0,0,0,0,1,0,0,0,0,0,0,0,1,0,0,0,0,1,0]
def IE(O:Alg)(x:Ags O):O.M:=(O.c (O.f 96 [] (xr x kI 14)) fun c0=>(O.b (O.h (O.e (x.I 43) (x.I 14))) (O.a (ap O (cr O c0 kI 0) [.int (lq9 O 2)])) (O.b (O.h (O.e (x.I 3) (lq9 O 0))) (O.a (ap O (cr O c0 kI 0) [.int (lq9 O 20)])) (O.a (ap O (cr O c0 [0,0,0,0,0,0,0,0,0,0,0,0,0,0,3,0,3,3,1,3,1,0,0,0,3,0,0] 0) [.int (O.lit .u8 4),.int (lq9 O 0)])))))
def KM:Nat→Env:=eL [(96,Ac)]
theorem Ok{N ls}:KM N 96 [] ls=Ac N ls:=id rfl
def Fi:=oS Ta IE KM
def TT:List Nat:=[0,0,0,0,0,0,0,0,0,0,0,0,0,0,3,0,3,3,1,3,1,0,0,0,3,0,0,0]
def IC(O:Alg)(x:Ags O):O.M:=(O.c (O.f 96 [] (xr x kI 0)) fun c0=>(O.a (ap O (cr O c0 [0,0,0] 0) (ap O [.int (O.p .i64 (O.d c0 3) (lq9 O 5))] (ap O (cr O c0 [0,0,0,0,0] 4) (ap O [.int (O.p .i64 (O.d c0 9) (lq9 O 5))] (cr O c0 [0,0,0,0,3,0,3,3,1,3,1,0,0,0,3,0,0,0] 10)))))))
def KQ:Nat→Env:=eL [(96,Ac)]
theorem Oe{N ls}:KQ N 96 [] ls=Ac N ls:=id rfl
def Cv:=oS TT IC KQ
def TK:List Nat:=[0,0,0,0,0,0,0,0,0,0,0,0,0,0,3,0,3,3,1,3,1,0,0,0,3,0,0,0,0,0,0,0,1,0,0,0,0,0,0,0,1,0,0,0,0,1,0]
def II(O:Alg)(x:Ags O):O.M:=let u0:=(lq9 O 0);(O.c (O.f 96 [] (xr x kI 0)) fun c0=>(O.b (O.h (O.e (x.I 33) (lq9 O 5))) (O.a (ap O (cr O c0 kI 0) [.int (lq9 O 23)])) (O.b (O.e (x.I 29) (x.I 0)) (O.c (O.f 128 [] (xr x kI 0)) fun c1=>(O.a (ap O (cr O c1 kI 0) [.int u0]))) (O.b (O.n u0 (O.d c0 1)) (O.a (ap O [.int (O.d c0 0),.int (O.p .i64 (O.d c0 1) (lq9 O 5))] (ap O (cr O c0 [0,0,0,0,0,0,0,0,0,0,0,0,3,0,3,3,1,3,1,0,0,0,3,0,0,0] 2) [.int u0]))) (O.a (ap O (cr O c0 kI 0) [.int u0]))))))
def Gp:Nat→Env:=eL [(96,Ac),(128,Cv)]
theorem Oc{N ls}:Gp N 96 [] ls=Ac N ls:=id rfl
theorem My{N ls}:Gp N 128 [] ls=Cv N ls:=id rfl
def Fb:=oS TK II Gp
def Va:List Nat:=[2,0,0,0,0,0,0,0,1,0,0,0,0,3,0,0,0,0,0,0,0,0,0,0,0,0,0,0,3,0,3,3,1,3,1,0,0,0,3,0,0,0,0,0,0,0,1,0,0,0,0,0,0,0,1,0,0,0,0,1,0]
def GQ(O:Alg)(x:Ags O):O.M:=let u5:=(lq9 O 0);let u4:=(lq9 O 1);let u3:=(O.x .i64 (x.I 43) u4);let u2:=(O.q u3 (lq9 O 2));let u1:=(O.e u3 u4);(O.c (O.f 96 [] (xr x kI 14)) fun c0=>let u0:=(O.p .i64 (O.aj u1 (O.d c0 26) (O.d c0 25)) u4);(O.i (O.h (O.af (O.h (O.h (x.B 32))) (O.h u2))) (O.b (O.k (O.h (x.B 32)) O.o (O.le (x.I 11) (O.aj u1 (x.I 40) (x.I 39)))) (O.a (ap O (cr O c0 kI 0) [.int (lq9 O 24)])) (O.b (O.h (x.B 46)) (O.i u2 (O.i u2 (O.a (ap O (cr O c0 [0,0,0,0,0,0,0,0,0,0,0,0,0,0,3,0,3,3,1,3,1,0,0,0,3] 0) [.int (O.aj (O.e u3 u5) u0 (O.d c0 25)),.int (O.aj u1 u0 (O.d c0 26)),.int (O.d c0 27),.int u5])))) (O.a (ap O (cr O c0 kI 0) [.int u5]))))))
def Lh:Nat→Env:=eL [(96,Ac)]
theorem Ho{N ls}:Lh N 96 [] ls=Ac N ls:=id rfl
def GA:=oS Va GQ Lh
def Xp:List Nat:=[2,0,0,0,0,0,0,0,1,0,0,0,0,3,0,0,0,0,0,0,0,0,0,0,0,0,0,0,3,0,3,3,1,3,1,0,0,0,3,0,0,0]
def XO(O:Alg)(x:Ags O):O.M:=(O.a [.int (O.p .i64 (O.ak .i64 (x.I 24) (x.I 4)) (x.I 25))])
def f7:Nat→Env:=eL []
def D8:=oS Xp XO f7
def Vl:List Nat:=[2,0,0,0,0,0,0,0,1,0,0,0,0,3,0,0,0,0,0,0,0,0,0,0,0,0,0,0,3,0,3,3,1,3,1,0,0,0,3,0,0,0,0,0,0,0,1,0,0,0,0,0,0,0,1,0,0,0,0,1,0]
def JJ(O:Alg)(x:Ags O):O.M:=let u4:=(lq9 O 0);let u3:=(lq9 O 25);let u2:=(O.n (x.I 3) (x.I 48));let u1:=(O.n u4 (x.I 47));let u0:=(O.n u4 (x.I 48));(O.c (O.f 96 [] (xr x kI 14)) fun c0=>(O.b (O.k (O.e (x.I 3) u4) O.o (O.k (O.e (x.I 47) u4) (O.e (x.I 48) u4) O.g)) (O.a (ap O (cr O c0 kI 0) [.int u3])) (O.b (O.k u1 (O.k (O.e (x.I 15) u4) O.o (O.le (x.I 47) (x.I 17))) O.g) (O.a (ap O (cr O c0 kI 0) [.int u3])) (O.c (O.b (O.af u0 (O.h u2)) (O.f 37 [] (xr x [2,0,0,0,0,0,0,0,1,0,0,0,0,3,0,0,0,0,0,0,0,0,0,0,0,0,0,0,3,0,3,3,1,3,1,0,0,0,3,0,0,0] 0)) (O.a [.int u4])) fun c1=>(O.b (O.k u0 (O.k u2 O.o (O.n (O.ak .i64 (x.I 48) (x.I 4)) (O.d c1 0))) O.g) (O.a (ap O (cr O c0 kI 0) [.int u3])) (O.c (O.b u1 (O.a (ap O [.int (O.d c0 0),.int (x.I 47)] (cr O c0 [0,0,0,0,0,0,0,0,0,0,0,0,3,0,3,3,1,3,1,0,0,0,3,0,0,0] 2))) (O.a (cr O c0 kI 0))) fun c2=>(O.b u0 (O.a (ap O [.int (O.d c2 0),.int (O.d c2 1),.int (x.I 48)] (ap O (cr O c2 [0,0,0,0,0,0,0,0,0,0,0,3,0,3,3,1,3,1,0,0,0,3,0,0,0] 3) [.int u4]))) (O.a (ap O (cr O c2 kI 0) [.int u4])))))))))
def Hh:Nat→Env:=eL [(37,D8),(96,Ac)]
theorem Po{N ls}:Hh N 37 [] ls=D8 N ls:=id rfl
theorem Pa{N ls}:Hh N 96 [] ls=Ac N ls:=id rfl
def GD:=oS Vl JJ Hh
def Tk:List Nat:=[2,0,0,0,0,0,0,0,1,0,0,0,0,3,0,0,0,0,0,0,0,0,0,0,0,0,0,0,3,0,3,3,1,3,1,0,0,0,3,0,0,0,0,0,0,0,1,0,0,0,0,0,0,0,1,0,0,0,0,1,0]
def Fd(O:Alg)(x:Ags O):O.M:=(O.b (O.e (x.I 42) (O.lit .u8 2)) (O.c (O.f 135 [] (ap O (xr x kI 14) [.int (x.I 44),.int (x.I 45)])) fun c0=>(O.a (cr O c0 [0,0,0,0,0,0,0,0,0,0,0,0,0,0,3,0,3,3,1,3,1,0,0,0,3,0,0,0,0] 0))) (O.b (O.e (x.I 42) (O.lit .u8 3)) (O.c (O.f 136 [] (ap O (xr x [2,0,0,0,0,0,0,0,1,0,0,0,0,3,0,0,0,0,0,0,0,0,0,0,0,0,0,0,3,0,3,3,1,3,1,0,0,0,3,0,0,0] 0) [.int (x.I 44)])) fun c0=>(O.a (cr O c0 [0,0,0,0,0,0,0,0,0,0,0,0,0,0,3,0,3,3,1,3,1,0,0,0,3,0,0,0,0] 0))) (O.b (O.e (x.I 42) (O.lit .u8 4)) (O.c (O.f 137 [] (ap O (xr x [2,0,0,0,0,0,0,0,1,0,0,0,0,3,0,0,0,0,0,0,0,0,0,0,0,0,0,0,3,0,3,3,1,3,1,0,0,0,3,0,0,0] 0) (xr x [0,0,0,0,0,1,0,0,0,0,1,0] 49))) fun c0=>(O.a (cr O c0 [0,0,0,0,0,0,0,0,0,0,0,0,0,0,3,0,3,3,1,3,1,0,0,0,3,0,0,0,0] 0))) (O.b (O.e (x.I 42) (O.lit .u8 5)) (O.b (x.B 46) (O.c (O.f 138 [] (ap O (xr x kI 14) [.int (x.I 44)])) fun c0=>(O.a (cr O c0 [0,0,0,0,0,0,0,0,0,0,0,0,0,0,3,0,3,3,1,3,1,0,0,0,3,0,0,0,0] 0))) (O.c (O.f 139 [] (ap O (xr x kI 14) [.int (x.I 44)])) fun c0=>(O.a (cr O c0 [0,0,0,0,0,0,0,0,0,0,0,0,0,0,3,0,3,3,1,3,1,0,0,0,3,0,0,0,0] 0)))) (O.b (O.e (x.I 42) (O.lit .u8 6)) (O.c (O.f 140 [] (ap O (xr x kI 14) [.int (x.I 44),.bool (x.B 46)])) fun c0=>(O.a (cr O c0 [0,0,0,0,0,0,0,0,0,0,0,0,0,0,3,0,3,3,1,3,1,0,0,0,3,0,0,0,0] 0))) (O.b (O.e (x.I 42) (O.lit .u8 7)) (O.c (O.f 141 [] (ap O (xr x kI 14) [.int (x.I 47)])) fun c0=>(O.a (cr O c0 [0,0,0,0,0,0,0,0,0,0,0,0,0,0,3,0,3,3,1,3,1,0,0,0,3,0,0,0,0] 0))) (O.b (O.e (x.I 42) (O.lit .u8 8)) (O.c (O.f 142 [] (ap O (xr x kI 14) [.int (x.I 44)])) fun c0=>(O.a (cr O c0 [0,0,0,0,0,0,0,0,0,0,0,0,0,0,3,0,3,3,1,3,1,0,0,0,3,0,0,0,0] 0))) (O.b (O.e (x.I 42) (O.lit .u8 9)) (O.c (O.f 143 [] (ap O (xr x kI 14) [.int (x.I 44),.bool (x.B 46)])) fun c0=>(O.a (cr O c0 [0,0,0,0,0,0,0,0,0,0,0,0,0,0,3,0,3,3,1,3,1,0,0,0,3,0,0,0,0] 0))) (O.b (O.e (x.I 42) (O.lit .u8 10)) (O.c (O.f 144 [] (xr x [2,0,0,0,0,0,0,0,1,0,0,0,0,3,0,0,0,0,0,0,0,0,0,0,0,0,0,0,3,0,3,3,1,3,1,0,0,0,3,0,0,0] 0)) fun c0=>(O.a (cr O c0 [0,0,0,0,0,0,0,0,0,0,0,0,0,0,3,0,3,3,1,3,1,0,0,0,3,0,0,0,0] 0))) (O.b (O.e (x.I 42) (O.lit .u8 11)) (O.c (O.f 145 [] (xr x [2,0,0,0,0,0,0,0,1,0,0,0,0,3,0,0,0,0,0,0,0,0,0,0,0,0,0,0,3,0,3,3,1,3,1,0,0,0,3,0,0,0,0,0,0,0,1,0,0,0,0,0,0,0,1,0,0,0,0,1,0] 0)) fun c0=>(O.a (cr O c0 [0,0,0,0,0,0,0,0,0,0,0,0,0,0,3,0,3,3,1,3,1,0,0,0,3,0,0,0,0] 0))) (O.b (O.e (x.I 42) (O.lit .u8 13)) (O.c (O.f 146 [] (xr x [0,0,0,0,0,0,0,0,0,0,0,0,0,0,3,0,3,3,1,3,1,0,0,0,3,0,0,0,0,0,0,0,1,0,0,0,0,0,0,0,1,0,0,0,0,1,0] 14)) fun c0=>(O.a (cr O c0 [0,0,0,0,0,0,0,0,0,0,0,0,0,0,3,0,3,3,1,3,1,0,0,0,3,0,0,0,0] 0))) (O.b (O.e (x.I 42) (O.lit .u8 14)) (O.c (O.f 147 [] (xr x [2,0,0,0,0,0,0,0,1,0,0,0,0,3,0,0,0,0,0,0,0,0,0,0,0,0,0,0,3,0,3,3,1,3,1,0,0,0,3,0,0,0,0,0,0,0,1,0,0,0,0,0,0,0,1,0,0,0,0,1,0] 0)) fun c0=>(O.a (cr O c0 [0,0,0,0,0,0,0,0,0,0,0,0,0,0,3,0,3,3,1,3,1,0,0,0,3,0,0,0,0] 0))) (O.c (O.f 148 [] (xr x [2,0,0,0,0,0,0,0,1,0,0,0,0,3,0,0,0,0,0,0,0,0,0,0,0,0,0,0,3,0,3,3,1,3,1,0,0,0,3,0,0,0,0,0,0,0,1,0,0,0,0,0,0,0,1,0,0,0,0,1,0] 0)) fun c0=>(O.a (cr O c0 [0,0,0,0,0,0,0,0,0,0,0,0,0,0,3,0,3,3,1,3,1,0,0,0,3,0,0,0,0] 0)))))))))))))))
def Au:Nat→Env:=eL [(135,Jt),(136,Lb),(137,Iq),(138,GX),(139,Ia),(140,HI),(141,He),(142,IL),(143,E0),(144,HX),(145,Fi),(146,Fb),(147,GA),(148,GD)]
theorem H5{N ls}:Au N 135 [] ls=Jt N ls:=id rfl
theorem Ix{N ls}:Au N 136 [] ls=Lb N ls:=id rfl
theorem Hk{N ls}:Au N 137 [] ls=Iq N ls:=id rfl
theorem Ge{N ls}:Au N 138 [] ls=GX N ls:=id rfl
theorem Hr{N ls}:Au N 139 [] ls=Ia N ls:=id rfl
theorem Gr{N ls}:Au N 140 [] ls=HI N ls:=id rfl
theorem Gq{N ls}:Au N 141 [] ls=He N ls:=id rfl
theorem G9{N ls}:Au N 142 [] ls=IL N ls:=id rfl
theorem Fe{N ls}:Au N 143 [] ls=E0 N ls:=id rfl
theorem Gu{N ls}:Au N 144 [] ls=HX N ls:=id rfl
theorem F2{N ls}:Au N 145 [] ls=Fi N ls:=id rfl
theorem Fz{N ls}:Au N 146 [] ls=Fb N ls:=id rfl
theorem GU{N ls}:Au N 147 [] ls=GA N ls:=id rfl
theorem GS{N ls}:Au N 148 [] ls=GD N ls:=id rfl
def FX:=oS Tk Fd Au
def Uy:List Nat:=[2,0,0,0,0,0,0,0,1,0,0,0,0,3,0,0,0,0,0,0,0,0,0,0,0,0,0,0,3,0,3,3,1,3,1,0,0,0,3,0,0,0]
def Ja(O:Alg)(x:Ags O):O.M:=let u0:=(lq9 O 0);(O.c (O.f 90 [] (xr x [2,0,0,0,0,0,0,0,1,0,0,0,0,3,0,0,0,0,0,0,0,0,0,0,0,0,0,0,3,0,3,3,1,3,1,0,0,0,3,0,0,0] 0)) fun c0=>(O.b (O.h (O.r c0 0)) (O.a [.int (O.lit .u8 0)]) (O.b (O.k (O.n u0 (x.I 15)) (O.le (x.I 15) (x.I 17)) O.g) (O.a [.int (O.lit .u8 3)]) (O.c (O.f 149 [] (xr x kI 14)) fun c1=>(O.c (O.b (O.r c1 0) (O.f 150 [] (xr x kI 14)) (O.a [.rows O.u])) fun c2=>(O.b (O.k (O.r c1 0) (O.e (O.l (O.j c2 0)) u0) O.g) (O.a [.int (O.lit .u8 1)]) (O.b (O.k (O.n u0 (x.I 16)) (O.le (x.I 16) (x.I 24)) O.g) (O.a [.int (O.lit .u8 2)]) (O.a [.int (O.lit .u8 0)]))))))))
def E3:Nat→Env:=eL [(90,Bl),(149,Bp),(150,Df)]
def Eo:=oS Uy Ja E3
def ZD:List Nat:=[2,0,0,0,0,0,0,0,1,0,0,0,0,3,0,0,0,0,0,0,0,0,0,0,0,0,0,0,3,0,3,3,1,3,1,0,0,0,3,0,0,0,0,0,0,0,1,0,0,0,0,0,0,0,1,0,0,0,0,1,0]
def MA(O:Alg)(x:Ags O):O.M:=let u1:=(lq9 O 0);(O.c (O.f 90 [] (xr x [2,0,0,0,0,0,0,0,1,0,0,0,0,3,0,0,0,0,0,0,0,0,0,0,0,0,0,0,3,0,3,3,1,3,1,0,0,0,3,0,0,0] 0)) fun c0=>let u0:=(O.h (O.r c0 0));(O.c (O.b (O.h u0) (O.f 75 [] (xr x [0,0,0,0,1,0,0,0,0,0,0,0,1,0,0,0,0,1,0] 42)) (O.a [.int u1])) fun c1=>(O.b (O.k u0 O.o (O.h (O.e (O.d c1 0) u1))) (O.c (O.f 96 [] (xr x kI 14)) fun c2=>(O.a (ap O (cr O c2 kI 0) [.int (lq9 O 1)]))) (O.b (O.h (O.e (x.I 41) (O.lit .u8 0))) (O.c (O.f 96 [] (xr x kI 14)) fun c2=>(O.a (ap O (cr O c2 kI 0) [.int (lq9 O 26)]))) (O.c (O.b (O.h (O.k (O.k (O.e (x.I 42) (O.lit .u8 1)) O.o (O.e (x.I 42) (O.lit .u8 12))) O.o (O.e (x.I 42) (O.lit .u8 16)))) (O.f 125 [] (xr x kI 14)) (O.a [.bool O.g])) fun c2=>(O.b (O.k (O.k (O.k (O.e (x.I 42) (O.lit .u8 1)) O.o (O.e (x.I 42) (O.lit .u8 12))) O.o (O.e (x.I 42) (O.lit .u8 16))) O.o (O.k (O.h (O.r c2 0)) (O.h (O.e (x.I 42) (O.lit .u8 2))) O.g)) (O.c (O.f 96 [] (xr x kI 14)) fun c3=>(O.a (ap O (cr O c3 kI 0) [.int (lq9 O 1)]))) (O.c (O.f 126 [] (xr x [2,0,0,0,0,0,0,0,1,0,0,0,0,3,0,0,0,0,0,0,0,0,0,0,0,0,0,0,3,0,3,3,1,3,1,0,0,0,3,0,0,0,0,0,0,0,1,0,0,0,0,0,0,0,1,0,0,0,0,1,0] 0)) fun c3=>(O.b (O.h (O.e (O.d c3 28) u1)) (O.c (O.f 96 [] (xr x kI 14)) fun c4=>(O.a (ap O (cr O c4 kI 0) [.int (O.d c3 28)]))) (O.b (O.e (O.d c3 27) (O.lit .u8 0)) (O.c (O.f 127 [] (ap O (xr x kR 0) (ap O (cr O c3 [0,0,0,0,0,0,0,0,0,0,0,0,0,0,3,0,3,3] 0) (ap O [.bool (O.e (x.I 42) (O.lit .u8 4))] (cr O c3 [3,1,0,0,0,3,0,0,0] 19))))) fun c4=>(O.a (ap O (cr O c3 [0,0,0,0,0,0,0,0,0,0,0,0,0,0,3,0,3,3] 0) (ap O [.bool (O.e (x.I 42) (O.lit .u8 4))] (ap O (cr O c3 [3,1,0,0,0,3,0,0] 19) [.int (O.d c4 0),.int u1]))))) (O.a (ap O (cr O c3 [0,0,0,0,0,0,0,0,0,0,0,0,0,0,3,0,3,3] 0) (ap O [.bool (O.e (x.I 42) (O.lit .u8 4))] (ap O (cr O c3 [3,1,0,0,0,3,0,0,0] 19) [.int u1])))))))))))))
def DC:Nat→Env:=eL [(75,EJ),(90,Bl),(96,Ac),(125,HJ),(126,FX),(127,Eo)]
theorem Sy{N ls}:DC N 75 [] ls=EJ N ls:=id rfl
theorem RH{N ls}:DC N 90 [] ls=Bl N ls:=id rfl
theorem Qx{N ls}:DC N 96 [] ls=Ac N ls:=id rfl
theorem Qt{N ls}:DC N 125 [] ls=HJ N ls:=id rfl
theorem HZ{N ls}:DC N 126 [] ls=FX N ls:=id rfl
theorem H9{N ls}:DC N 127 [] ls=Eo N ls:=id rfl
def Ic:=oS ZD MA DC
def dx:List Nat:=[2,0,0,0,0,0,0,0,1,0,0,0,0,3,0,0,1,3,0,0,0,0,0,0,0,0,0,1,0,0,0,0,0,0,0,1,0,0,0,0,1,0]
def PR(O:Alg)(x:Ags O):O.M:=let u23:=(lq9 O 2);let u22:=(lq9 O 1);let u21:=(lq9 O 0);let u17:=(O.x .i64 (x.I 24) u22);let u11:=(O.q u17 u23);let u10:=(O.e u17 u22);(O.c (O.f 74 [] (xr x kM 0)) fun c0=>let u20:=(O.h (O.r c0 0));(O.c (O.b (O.h u20) (O.f 75 [] (xr x [0,0,0,0,1,0,0,0,0,0,0,0,1,0,0,0,0,1,0] 23)) (O.a [.int u21])) fun c1=>(O.b (O.k u20 O.o (O.h (O.e (O.d c1 0) u21))) (O.c (O.f 76 [] (xr x kM 0)) fun c2=>(O.a (ap O (cr O c2 kM 0) [.int u22]))) (O.b (O.e (x.I 14) (O.lit .u8 5)) (O.c (O.f 76 [] (xr x kM 0)) fun c2=>(O.a (ap O (cr O c2 kM 0) [.int (lq9 O 26)]))) (O.c (O.f 76 [] (xr x kM 0)) fun c2=>let u28:=(O.d c2 15);let u27:=(O.d c2 18);let u26:=(O.d c2 19);let u25:=(O.d c2 14);let u24:=(O.j c2 17);let u19:=(O.l u24);let u12:=(O.x .i64 u19 u22);let u4:=(O.q u12 u19);let u0:=(O.p .i64 (O.aj u10 u26 u27) (lq9 O 5));(O.c (O.b (O.e (x.I 23) (O.lit .u8 1)) (O.b (O.h (O.e u25 (O.lit .u8 1))) (O.a (ap O [.int u22] (cr O c2 kM 0))) (O.c (O.f 97 [] [.int (x.I 24)]) fun c3=>(O.b (x.B 27) (O.a (ap O [.int u21] (ap O (cr O c2 kR 0) (ap O [.int (O.lit .u8 2),.int (x.I 24)] (cr O c2 [1,3,0,0,0,0,0] 16))))) (O.a (ap O [.int u21] (ap O (cr O c2 kR 0) (ap O [.int (O.lit .u8 2),.int (O.d c3 0)] (cr O c2 [1,3,0,0,0,0,0] 16)))))))) (O.b (O.e (x.I 23) (O.lit .u8 2)) (O.c (O.b (O.h (O.e u25 (O.lit .u8 2))) (O.a (ap O [.int u22] (cr O c2 kM 0))) (O.c (O.f 91 [] (ap O (cr O c2 kM 0) [.int u19])) fun c3=>let u16:=(O.x .i64 (O.d c3 0) u22);let u9:=(O.e u16 u22);let u8:=(O.q u16 u23);(O.c (O.f 116 [] (ap O (cr O c2 kM 0) [.int (O.d c3 0)])) fun c4=>(O.i u8 (O.c (O.f 115 [] (ap O (cr O c2 kR 0) [.int (O.d c3 0),.int (O.d c4 0),.int (O.aj u9 u26 u27)])) fun c5=>(O.b (O.h (O.e (O.d c5 28) u21)) (O.a (ap O [.int u22] (cr O c2 kM 0))) (O.c (O.f 117 [] (ap O (cr O c2 kR 0) (ap O (cr O c5 kI 0) (xr x [0,0,0,0,1,0,0,0,0,0,0,0,1,0,0,0,0,1,0] 23)))) fun c6=>let u14:=(O.ac u24 (O.z [(cr O c6 kI 0)]));(O.b (O.h (O.e (O.d c6 28) u21)) (O.a (ap O [.int (O.d c6 28)] (cr O c2 kM 0))) (O.i u8 (O.i (O.s (O.l u14) 304) (O.a (ap O [.int u21] (ap O (cr O c2 kR 0) (ap O [.int (O.lit .u8 3),.int u28,.bool (O.r c2 16),.rows u14,.int (O.aj (O.e u16 u21) u21 u27),.int (O.aj u9 u21 u26)] (cr O c2 [0,0,0] 20))))))))))))))) fun c3=>(O.a (cr O c3 [0,2,0,0,0,0,0,0,0,1,0,0,0,0,3,0,0,1,3,0,0,0,0,0] 0))) (O.b (O.e (x.I 23) (O.lit .u8 12)) (O.b (O.h (O.e u25 (O.lit .u8 4))) (O.a (ap O [.int u22] (cr O c2 kM 0))) (O.b (O.h (O.e (x.I 24) u28)) (O.a (ap O [.int u23] (cr O c2 kM 0))) (O.a (ap O [.int u21] (ap O (cr O c2 kR 0) (ap O [.int (O.lit .u8 2),.int u28,.bool (x.B 27)] (cr O c2 [3,0,0,0,0,0] 17))))))) (O.b (O.e (x.I 23) (O.lit .u8 16)) (O.c (O.b (O.e u25 (O.lit .u8 3)) (O.i u4 (O.a (ap O (cr O c2 [2,0,0,0,0,0,0,0,1,0,0,0,0,3,0,0,1] 0) (ap O [.rows (O.w u24 u12 27 [.int (O.lit .u8 5)])] (cr O c2 [0,0,0,0,0] 18))))) (O.a (cr O c2 kM 0))) fun c3=>(O.c (O.f 118 [] (cr O c3 kR 0)) fun c4=>(O.a (ap O [.int u21] (ap O (cr O c3 kR 0) (ap O [.int (O.lit .u8 5)] (ap O (cr O c3 [0,1,3,0,0] 15) [.int (O.d c4 0),.int u21,.int u21]))))))) (O.c (O.b (O.h (O.e u25 (O.lit .u8 3))) (O.a (ap O [.int u22] (cr O c2 kM 0))) (O.i u4 (O.c (O.f 117 [] (ap O (cr O c2 kR 0) (ap O (rr O u24 u12 kI 0) (xr x [0,0,0,0,1,0,0,0,0,0,0,0,1,0,0,0,0,1,0] 23)))) fun c3=>let u3:=(O.w u24 u12 0 (cr O c3 kI 0));let u2:=(O.l u3);(O.b (O.h (O.e (O.d c3 28) u21)) (O.a (ap O [.int (O.d c3 28)] (cr O c2 kM 0))) (O.i u4 (O.b (O.k (O.e (x.I 23) (O.lit .u8 13)) (O.h (O.e (x.I 24) (O.d c3 0))) O.g) (O.c (O.c (O.v (fun s4 c4=>let u30:=(O.d c4 0);let u1:=(O.q u30 u2);(O.b (O.le u21 u30) (O.i u1 (O.b (O.e (O.m u3 u30 0) (x.I 24)) (O.i u1 (O.c (O.f 128 [] (rr O u3 u30 kI 0)) fun c5=>(O.i u1 (O.a (ap O [.int u21] (ap O (cr O c2 [2,0,0,0,0,0,0,0,1,0,0,0,0,3,0,0,1] 0) (ap O [.rows (O.w u3 u30 0 (cr O c5 kI 0))] (cr O c2 [0,0,0,0,0] 18)))))))) (s4 [.int (O.x .i64 u30 u22)]))) (O.a [.int u22]))) [.int (O.x .i64 u2 u22)]) fun c4=>(O.b (O.ad c4 0) (O.a (cr O c4 kM 1)) (O.i u11 (O.i u11 (O.a (ap O (cr O c2 [2,0,0,0,0,0,0,0,1,0,0,0,0,3,0,0,1] 0) (ap O [.rows u3,.int (O.aj (O.e u17 u21) u0 u27),.int (O.aj u10 u0 u26)] (cr O c2 [0,0,0] 20)))))))) fun c4=>(O.a (ap O [.int u21] (cr O c4 kM 0)))) (O.a (ap O [.int u21] (ap O (cr O c2 [2,0,0,0,0,0,0,0,1,0,0,0,0,3,0,0,1] 0) (ap O [.rows u3] (cr O c2 [0,0,0,0,0] 18))))))))))) fun c3=>(O.a (cr O c3 [0,2,0,0,0,0,0,0,0,1,0,0,0,0,3,0,0,1,3,0,0,0,0,0] 0))))))) fun c3=>let u29:=(O.j c3 18);let u18:=(O.l u29);let u15:=(O.e u18 (lq9 O 3));let u13:=(O.x .i64 u18 u22);let u7:=(O.e u18 (O.ak .i64 u23 (O.d c3 3)));let u6:=(O.m u29 u13 0);let u5:=(O.q u13 u18);(O.b (O.h (O.e (O.d c3 0) u21)) (O.c (O.f 76 [] (xr x kM 0)) fun c4=>(O.a (ap O (cr O c4 kM 0) [.int (O.d c3 0)]))) (O.c (O.i (O.h (O.af (O.h (O.h (O.e (O.d c3 15) (O.lit .u8 3)))) (O.h u5))) (O.b (O.k (O.h (O.e (O.d c3 15) (O.lit .u8 3))) O.o (O.e (O.m u29 u13 27) (O.lit .u8 0))) (O.a (cr O c3 kM 1)) (O.i u5 (O.c (O.f 101 [] (ap O (cr O c3 kM 1) [.int (O.d c3 16)])) fun c4=>(O.c (O.f 97 [] [.int (O.d c3 16)]) fun c5=>(O.c (O.f 101 [] (ap O (cr O c3 kM 1) [.int (O.d c5 0)])) fun c6=>(O.c (O.b u7 (O.a [.bool u7]) (O.c (O.b u15 (O.f 101 [] (ap O (cr O c3 kR 1) (ap O [.int (O.lit .u8 2)] (ap O (cr O c3 [0,1,3,0,0,0,0,0] 16) [.int u6])))) (O.a [.int u21])) fun c7=>(O.c (O.b u15 (O.f 97 [] [.int u6]) (O.a [.int u21])) fun c8=>(O.c (O.b u15 (O.f 101 [] (ap O (cr O c3 kR 1) (ap O [.int (O.lit .u8 2)] (ap O (cr O c3 [0,1,3,0,0,0,0,0] 16) [.int (O.d c8 0)])))) (O.a [.int u21])) fun c9=>(O.a [.bool (O.k u15 (O.n (O.d c7 0) (O.d c9 0)) O.g)]))))) fun c7=>(O.b (O.r c7 0) (O.c (O.f 102 [] (ap O (cr O c3 kR 1) (ap O [.int (O.lit .u8 5)] (cr O c3 [0,1,3,0,0,0,0,0] 16)))) fun c8=>(O.a (ap O (cr O c3 kR 1) (ap O [.int (O.lit .u8 5)] (ap O (cr O c3 [0,1,3,0,0] 16) (cr O c8 [0,0,0] 0)))))) (O.b (O.k (O.k (O.e u18 u23) (O.n u21 (O.d c3 11)) O.g) (O.le (O.d c3 11) (O.x .i64 (O.d c4 0) (O.d c6 0))) O.g) (O.a (ap O (cr O c3 kR 1) (ap O [.int (O.lit .u8 4)] (cr O c3 [0,1,3,0,0,0,0,0] 16)))) (O.a (ap O (cr O c3 kR 1) (ap O [.int (O.lit .u8 2)] (cr O c3 [0,1,3,0,0,0,0,0] 16))))))))))))) fun c4=>(O.a (ap O (cr O c4 kM 0) [.int u21]))))))))))
def Bg:Nat→Env:=eL [(74,EL),(75,EJ),(76,J4),(91,EN),(97,Bm),(101,Ci),(102,HN),(115,Hc),(116,Iy),(117,Ic),(118,Cb),(128,Cv)]
theorem V5{N ls}:Bg N 74 [] ls=EL N ls:=id rfl
theorem Uw{N ls}:Bg N 75 [] ls=EJ N ls:=id rfl
theorem VA{N ls}:Bg N 76 [] ls=J4 N ls:=id rfl
theorem GN{N ls}:Bg N 91 [] ls=EN N ls:=id rfl
theorem GP{N ls}:Bg N 97 [] ls=Bm N ls:=id rfl
theorem LQ{N ls}:Bg N 101 [] ls=Ci N ls:=id rfl
theorem Jm{N ls}:Bg N 102 [] ls=HN N ls:=id rfl
theorem FV{N ls}:Bg N 115 [] ls=Hc N ls:=id rfl
theorem Fv{N ls}:Bg N 116 [] ls=Iy N ls:=id rfl
theorem D1{N ls}:Bg N 117 [] ls=Ic N ls:=id rfl
theorem ES{N ls}:Bg N 118 [] ls=Cb N ls:=id rfl
theorem Ig{N ls}:Bg N 128 [] ls=Cv N ls:=id rfl
def P5:=oS dx PR Bg
def Z7:List Nat:=[2,0,0,0,0,0,0,0,1,0,0,0,0,3,0,0,1,3,0,0,0,0,0,0,0,0,0,0,1,0,0,0,0,0,0,0,1,0,0,0,0,1,0]
def Ow(O:Alg)(x:Ags O):O.M:=(O.b (O.le (lq9 O 4000) (x.I 23)) (O.a (ap O (xr x kM 0) [.int (lq9 O 26)])) (O.c (O.f 68 [] (ap O (xr x kM 0) (xr x [0,0,0,0,1,0,0,0,0,0,0,0,1,0,0,0,0,1,0] 24))) fun c0=>(O.a (cr O c0 [2,0,0,0,0,0,0,0,1,0,0,0,0,3,0,0,1,3,0,0,0,0,0,0] 0))))
def Iz(N:Nat):Env:=fun f fns ls=>(cond (Nat.beq f 68&&AK fns []) (P5 N ls) none)
theorem ZS{N ls}:Iz N 68 [] ls=P5 N ls:=id rfl
def Pz:=oS Z7 Ow Iz
def Wh:List Nat:=[0,2,0,0,0,0,0,0,0,1,0,0,0,0,3,0,0,1,3,0,0,0,0,0,2,0,0,0,0,0,0,0,1,0,0,0,0,3,0,0,1,3,0,0,0,0,0,0,0,0,0,0,1,0,0,0,0,1,0]
def Ks(O:Alg)(x:Ags O):O.M:=let u0:=(O.x .i64 (O.l (x.L 18)) (lq9 O 1));(O.i (O.q u0 (O.l (x.L 18))) (O.i (O.q u0 (O.l (x.L 41))) (O.c (O.f 22 [] (ap O (xr x kR 1) (xr x [0,0,0,0,0,1,0,0,0,0,1,0] 47))) fun c0=>(O.a (ap O [.int (x.I 0),.int u0,.int (O.m (x.L 18) u0 10),.int (O.m (x.L 18) u0 11),.int (O.m (x.L 18) u0 15),.int (O.m (x.L 18) u0 12),.int (O.m (x.L 18) u0 13),.bool (O.rB (x.L 18) u0 20)] (ap O (xr x [0,0,0,0,0,1,0,0,0,0,1,0] 47) (ap O (cr O c0 [0,0,0,0,0,0,1,1,1,1] 0) [.int (O.m (x.L 41) u0 3),.int (O.m (x.L 41) u0 4)])))))))
def MW:Nat→Env:=eL [(22,A9)]
theorem Of{N ls}:MW N 22 [] ls=A9 N ls:=id rfl
def Kp:=oS Wh Ks MW
def Zk:List Nat:=[2,0,0,0,0,0,0,0,1,0,0,0,0,3,3]
def Pw(O:Alg)(x:Ags O):O.M:=let u3:=(lq9 O 1);let u2:=(lq9 O 0);(O.c (O.f 53 [] (xr x kR 0)) fun c0=>(O.b (O.h (O.e (O.d c0 23) u2)) (O.a [.rows O.u,.str (O.t ⟨#[]⟩),.int u2,.int u2,.int u2,.int u2,.int u2,.int u2,.int u2,.bool O.g,.int u2,.int u2,.int u2,.int u2,.rows O.u,.int (O.lit .u8 0),.int u2,.bool O.g,.rows O.u,.int u2,.int u2,.int (O.lit .u8 0),.int u2,.int u2,.int u2,.int u3]) (O.c (O.v (fun s1 c1=>let u5:=(O.j c1 0);let u4:=(O.d c1 1);let u1:=(O.p .i64 u4 u3);(O.b (O.n u4 (O.l (x.L 14))) (O.i (O.q u4 (O.l (x.L 14))) (O.c (O.f 54 [] (ap O (cr O c1 kM 2) (ap O [.int u4] (rr O (x.L 14) u4 [0,0,0,0,1,0,0,0,0,0,0,0,1,0,0,0,0,1,0] 0)))) fun c2=>(O.b (O.h (O.e (O.d c2 23) u2)) (O.a (ap O [.int u2,.rows u5,.int u4,.int (O.d c2 23)] (cr O c1 kM 2))) (O.b (O.e (O.m (x.L 14) u4 0) (O.lit .u8 4)) (O.c (O.f 55 [] (ap O (cr O c1 [0,2,0,0,0,0,0,0,0,1,0,0,0,0,3,0,0,1,3,0,0,0,0,0] 1) (ap O (cr O c2 kM 0) (rr O (x.L 14) u4 [0,0,0,0,0,1,0,0,0,0,1,0] 7)))) fun c3=>let u0:=(O.ac u5 (O.z [(cr O c3 [0,0,0,0,0,0,0,1,0,0,0,0,0,1,0,0,0,0,1,0,0,0,0,0,0,0,1,1,1,1,0,0] 0)]));(O.i (O.s (O.l u0) 216) (s1 (ap O [.rows u0,.int u1] (cr O c2 kM 0))))) (s1 (ap O [.rows u5,.int u1] (cr O c2 kM 0))))))) (O.a (ap O [.int u3,.rows u5] (cr O c1 kM 2))))) (ap O [.rows O.u,.int u2] (cr O c0 kM 0))) fun c1=>(O.b (O.ad c1 0) (O.a (ap O [.rows (O.j c1 1)] (ap O (cr O c1 kM 4) [.int (O.d c1 2),.int (O.d c1 3)]))) (O.a (ap O (cr O c1 [3,2,0,0,0,0,0,0,0,1,0,0,0,0,3,0,0,1,3,0,0,0,0,0] 1) [.int (lq9 O (-1)),.int u2]))))))
def E4(N:Nat):Env:=fun f fns ls=>(cond (Nat.beq f 53&&AK fns []) (Rr N ls) (cond (Nat.beq f 54&&AK fns []) (Pz N ls) (cond (Nat.beq f 55&&AK fns []) (Kp N ls) none)))
theorem aS{N ls}:E4 N 53 [] ls=Rr N ls:=id rfl
theorem Qf{N ls}:E4 N 54 [] ls=Pz N ls:=id rfl
theorem Kw{N ls}:E4 N 55 [] ls=Kp N ls:=id rfl
def Bc:=oS Zk Pw E4
def WC:List Nat:=[2,0,0,0,0,0,0,0,1,0,0,0,0,3,3]
def LN(O:Alg)(x:Ags O):O.M:=(O.c (O.f 27 [] (xr x [2,0,0,0,0,0,0,0,1,0,0,0,0,3,3] 0)) fun c0=>(O.a (cr O c0 [2,0,0,0,0,0,0,0,1,0,0,0,0,3,0,0,1,3,0,0,0,0,0,0,0] 1)))
def F4(N:Nat):Env:=fun f fns ls=>(cond (Nat.beq f 27&&AK fns []) (Bc N ls) none)
theorem Yq{N ls}:F4 N 27 [] ls=Bc N ls:=id rfl
def DB:=oS WC LN F4
def X9:List Nat:=[2,0,0,0,0,0,0,0,1,0,0,0,0,3,3]
def M5(O:Alg)(x:Ags O):O.M:=let u0:=(lq9 O 0);(O.c (O.f 47 [] (xr x kR 0)) fun c0=>(O.b (O.h (O.e (O.d c0 0) u0)) (O.a [.int (O.d c0 0)]) (O.b (O.n (lq9 O 4000) (O.l (x.L 14))) (O.a [.int (lq9 O 9)]) (O.c (O.f 48 [] (xr x [2,0,0,0,0,0,0,0,1,0,0,0,0,3,3] 0)) fun c1=>(O.b (O.h (O.e (O.d c1 24) u0)) (O.a [.int (lq9 O 10)]) (O.a [.int u0]))))))
def FW(N:Nat):Env:=fun f fns ls=>(cond (Nat.beq f 47&&AK fns []) (Ab N ls) (cond (Nat.beq f 48&&AK fns []) (DB N ls) none))
theorem WT{N ls}:FW N 47 [] ls=Ab N ls:=id rfl
theorem X2{N ls}:FW N 48 [] ls=DB N ls:=id rfl
def Bb:=oS X9 M5 FW
def bu:List Nat:=[3]
def NQ(O:Alg)(x:Ags O):O.M:=let u2:=(lq9 O 1);let u1:=(lq9 O 0);(O.c (O.v (fun s0 c0=>let u3:=(O.d c0 0);let u0:=(O.m (x.L 0) u3 1);(O.b (O.n u3 (O.l (x.L 0))) (O.i (O.q u3 (O.l (x.L 0))) (O.b (O.e (O.m (x.L 0) u3 0) (O.lit .u8 1)) (O.b (O.rB (x.L 0) u3 4) (O.a [.int u1,.int u0]) (O.a [.int u1,.int (O.x .i64 (lq9 O 3) u0)])) (s0 [.int (O.p .i64 u3 u2)]))) (O.a [.int u2]))) [.int u1]) fun c0=>(O.b (O.ad c0 0) (O.a [.int (O.d c0 1)]) (O.a [.int u2])))
def Wd:Nat→Env:=eL []
def J3:=oS bu NQ Wd
def cK:List Nat:=[3]
def NW(O:Alg)(x:Ags O):O.M:=let u4:=(lq9 O 3);let u3:=(lq9 O 1);(O.c (O.f 49 [] [.rows (x.L 0)]) fun c0=>(O.c (O.v (fun s1 c1=>let u5:=(O.d c1 1);(O.b (O.n u5 (O.l (x.L 0))) (O.i (O.q u5 (O.l (x.L 0))) (s1 [.bool (O.k (O.r c1 0) O.o (O.k (O.e (O.m (x.L 0) u5 0) (O.lit .u8 12)) (O.rB (x.L 0) u5 4) O.g)),.int (O.p .i64 u5 u3)])) (O.a [.bool (O.r c1 0)]))) [.bool O.g,.int (lq9 O 0)]) fun c1=>(O.c (O.f 17 [] [.rows (x.L 0)]) fun c2=>(O.c (O.v (fun s3 c3=>let u7:=(O.j c3 0);let u6:=(O.d c3 1);let u2:=(O.p .i64 u6 u3);(O.b (O.n u6 (O.l (O.j c2 0))) (O.c (O.b (O.e (O.as .i64 u6 (lq9 O 2)) u3) (O.a [.int (O.x .i64 u4 (O.d c0 0))]) (O.a [.int (O.d c0 0)])) fun c4=>let u1:=(O.ac u7 (O.z [[.int (O.d c4 0)]]));let u0:=(O.ac u7 (O.z [[.int (O.x .i64 u4 (O.d c4 0))]]));(O.b (O.k (O.r c1 0) (O.k (O.e u6 (lq9 O 2)) O.o (O.e u6 u4)) O.g) (O.i (O.s (O.l u0) 8) (s3 [.rows u0,.int u2])) (O.i (O.s (O.l u1) 8) (s3 [.rows u1,.int u2])))) (O.a [.rows u7]))) [.rows O.u,.int (lq9 O 0)]) fun c3=>(O.a [.rows (O.j c3 0)])))))
def Kh:Nat→Env:=eL [(17,Ay),(49,J3)]
theorem S7{N ls}:Kh N 17 [] ls=Ay N ls:=id rfl
theorem Tu{N ls}:Kh N 49 [] ls=J3 N ls:=id rfl
def J6:=oS cK NW Kh
def gV:List Nat:=[0,0,0,0,1,0,0,0,0,0,0,0,1,0,0,0,0,1,0]
def Rx(O:Alg)(x:Ags O):O.M:=(O.b (O.e (x.I 0) (O.lit .u8 4)) (O.a [.bool (O.h (O.e (x.I 13) (O.lit .u8 0)))]) (O.b (O.e (x.I 0) (O.lit .u8 5)) (O.a [.bool (x.B 4)]) (O.b (O.e (x.I 0) (O.lit .u8 6)) (O.a [.bool (O.h (x.B 4))]) (O.a [.bool O.g]))))
def bn:Nat→Env:=eL []
def Mv:=oS gV Rx bn
def gR:List Nat:=[3,0,0]
def Rj(O:Alg)(x:Ags O):O.M:=let u2:=(lq9 O 0);let u1:=(lq9 O 1);let u0:=(O.l (x.L 0));(O.c (O.v (fun s0 c0=>let u3:=(O.d c0 0);(O.b (O.le u2 u3) (O.i (O.q u3 u0) (O.b (O.e (O.m (x.L 0) u3 0) (x.I 2)) (O.a [.int u2,.int u3]) (s0 [.int (O.x .i64 u3 u1)]))) (O.a [.int u1]))) [.int (x.I 1)]) fun c0=>(O.b (O.ad c0 0) (O.a [.int (O.d c0 1)]) (O.c (O.v (fun s1 c1=>let u4:=(O.d c1 0);(O.b (O.n u4 u0) (O.i (O.q u4 u0) (O.b (O.e (O.m (x.L 0) u4 0) (x.I 2)) (O.a [.int u2,.int u4]) (s1 [.int (O.p .i64 u4 u1)]))) (O.a [.int u1]))) [.int (O.p .i64 (x.I 1) u1)]) fun c1=>(O.b (O.ad c1 0) (O.a [.int (O.d c1 1)]) (O.a [.int (lq9 O (-1))])))))
def cE:Nat→Env:=eL []
def KF:=oS gR Rj cE
def YQ:List Nat:=[2,0,0,0,0,0,0,0,1,0,0,0,0,3,3]
def MQ(O:Alg)(x:Ags O):O.M:=let u17:=(lq9 O 1);let u16:=(lq9 O 0);(O.c (O.f 19 [] (xr x [2,0,0,0,0,0,0,0,1,0,0,0,0,3,3] 0)) fun c0=>(O.b (O.h (O.e (O.d c0 0) u16)) (O.a [.rows O.u,.int (O.d c0 0)]) (O.c (O.f 20 [] [.rows (x.L 14)]) fun c1=>let u14:=(O.l (O.j c1 0));(O.i (O.s u14 80) (O.c (O.f 17 [] [.rows (x.L 14)]) fun c2=>let u15:=(O.l (O.j c2 0));(O.c (O.v (fun s3 c3=>let u18:=(O.d c3 1);let u13:=(O.m (O.j c2 0) u18 1);let u12:=(O.m (O.j c2 0) u18 0);let u9:=(O.ai (x.L 14) u12 u13);let u8:=(O.l u9);(O.b (O.n u18 u15) (O.i (O.q u18 u15) (O.i (O.q u18 (O.l (O.j c3 0))) (O.i (O.q u18 u14) (O.i (O.al u12 u13 (O.l (x.L 14))) (O.c (O.v (fun s4 c4=>let u22:=(O.j c4 0);let u19:=(O.d c4 1);let u11:=(O.p .i64 u19 u17);let u5:=(O.m u9 u19 0);(O.b (O.n u19 u8) (O.i (O.q u19 u8) (O.c (O.f 21 [] (rr O u9 u19 [0,0,0,0,1,0,0,0,0,0,0,0,1,0,0,0,0,1,0] 0)) fun c5=>(O.c (O.b (O.r c5 0) (O.a [.rows (O.w u22 u18 2 [.int (O.p .i64 (O.m u22 u18 2) u17)])]) (O.a [.rows u22])) fun c6=>let u20:=(O.j c6 0);(O.b (O.e u5 (O.lit .u8 4)) (O.c (O.f 22 [] (ap O (xr x kR 0) (rr O u9 u19 [0,0,0,0,0,1,0,0,0,0,1,0] 7))) fun c7=>(O.c (O.f 23 [] (cr O c7 [0,0,0,0,0,0,1,1,1,1] 0)) fun c8=>let u7:=(O.w u20 u18 1 [.int (O.p .i64 (O.m u20 u18 1) (O.d c8 0))]);let u3:=(O.w u7 u18 4 [.int (O.p .i64 (O.m u7 u18 4) (O.d c7 1))]);let u2:=(O.w u3 u18 5 [.int (O.p .i64 (O.m u3 u18 5) (O.d c7 2))]);let u1:=(O.w u2 u18 6 [.int (O.p .i64 (O.m u2 u18 6) (O.d c7 3))]);let u0:=(O.w u1 u18 7 [.int (O.p .i64 (O.m u1 u18 7) (O.d c7 4))]);(O.b (O.r c7 6) (s4 [.rows (O.w u0 u18 3 [.int (O.p .i64 (O.m u0 u18 3) u17)]),.int u11]) (s4 [.rows u0,.int u11])))) (O.b (O.e u5 (O.lit .u8 13)) (O.c (O.f 24 [] [.rows (O.j c1 0),.int u18,.int (O.m u9 u19 1)]) fun c7=>let u21:=(O.d c7 0);let u10:=(O.q u21 (O.l u20));let u6:=(O.w u20 u21 1 [.int (O.p .i64 (O.m u20 u21 1) (lq9 O 5))]);let u4:=(O.q u21 (O.l u6));(O.b (O.le u16 u21) (O.i u10 (O.i u10 (O.i u4 (O.i u4 (s4 [.rows (O.w u6 u21 8 [.int (O.p .i64 (O.m u6 u21 8) (lq9 O 5))]),.int u11]))))) (s4 [.rows u20,.int u11]))) (s4 [.rows u20,.int u11])))))) (O.a [.rows u22,.int u19]))) [.rows (O.w (O.j c3 0) u18 0 [.int (O.m (O.j c1 0) u18 0)]),.int u16]) fun c4=>(s3 [.rows (O.j c4 0),.int (O.p .i64 u18 u17)])))))) (O.a [.rows (O.j c3 0)]))) [.rows (O.am u14 [.int u16,.int u16,.int u16,.int u16,.int u16,.int u16,.int u16,.int u16,.int u16,.int (O.lit .u8 0)]),.int u16]) fun c3=>(O.a [.rows (O.j c3 0),.int u16])))))))
def Ce:Nat→Env:=eL [(17,Ay),(19,Bb),(20,J6),(21,Mv),(22,A9),(23,BB),(24,KF)]
theorem SO{N ls}:Ce N 17 [] ls=Ay N ls:=id rfl
theorem Uz{N ls}:Ce N 19 [] ls=Bb N ls:=id rfl
theorem Sz{N ls}:Ce N 20 [] ls=J6 N ls:=id rfl
theorem LC{N ls}:Ce N 21 [] ls=Mv N ls:=id rfl
theorem HD{N ls}:Ce N 22 [] ls=A9 N ls:=id rfl
theorem H8{N ls}:Ce N 23 [] ls=BB N ls:=id rfl
theorem VL{N ls}:Ce N 24 [] ls=KF N ls:=id rfl
def Dt:=oS YQ MQ Ce
def gQ:List Nat:=[]
def iB(O:Alg)(x:Ags O):O.M:=let u1:=(lq9 O 0);let u0:=(lq9 O 1);(O.a [.str (O.t ⟨#[84,69,83,84]⟩),.int (lq9 O 2),.int u0,.int u0,.int (lq9 O 4),.int u1,.int u0,.int u0,.bool O.g,.int u1,.int u1,.int u1,.int (lq9 O 11),.rows O.u])
def qy:Nat→Env:=eL []
def D3:=oS gQ iB qy
def gu:List Nat:=[0,0,0,0,0,1,0,0,0,0,1,0]
def gr(O:Alg)(x:Ags O):O.M:=let u0:=(lq9 O 0);(O.a (ap O [.int (O.lit .u8 4),.int u0,.int u0,.int u0,.bool O.g,.int u0,.int u0] (xr x [0,0,0,0,0,1,0,0,0,0,1,0] 0)))
def qr:Nat→Env:=eL []
def Xs:=oS gu gr qr
def qe:List Nat:=[]
def qV(O:Alg)(x:Ags O):O.M:=let u2:=(lq9 O 2);let u1:=(lq9 O 1);let u0:=(lq9 O 0);(O.c (O.f 25 [] [.int (O.lit .u8 1),.int (O.lit .u8 1),.int u1,.int u0,.int u0,.bool O.g,.int (O.lit .u8 0),.int u0,.int u0,.int u0,.bool O.g,.int u0]) fun c0=>(O.c (O.f 25 [] [.int (O.lit .u8 1),.int (O.lit .u8 0),.int u0,.int u0,.int u0,.bool O.g,.int (O.lit .u8 1),.int u1,.int u0,.int u0,.bool O.g,.int u0]) fun c1=>(O.c (O.f 25 [] [.int (O.lit .u8 2),.int (O.lit .u8 0),.int u0,.int u0,.int u0,.bool O.g,.int (O.lit .u8 0),.int u0,.int u0,.int u0,.bool O.g,.int u0]) fun c2=>(O.c (O.f 25 [] [.int (O.lit .u8 1),.int (O.lit .u8 1),.int u0,.int u0,.int (lq9 O 4),.bool O.g,.int (O.lit .u8 0),.int u0,.int u0,.int u0,.bool O.g,.int u0]) fun c3=>(O.a [.rows (O.z [[.int (O.lit .u8 1),.int u1,.int u0,.int u0,.bool O.o,.int u0,.int u0,.int (O.lit .u8 0),.int (O.lit .u8 0),.int u0,.int u0,.int u0,.bool O.g,.int (O.lit .u8 0),.int u0,.int u0,.int u0,.bool O.g,.int u0],[.int (O.lit .u8 2),.int u0,.int u1,.int u2,.bool O.g,.int u0,.int u0,.int (O.lit .u8 0),.int (O.lit .u8 0),.int u0,.int u0,.int u0,.bool O.g,.int (O.lit .u8 0),.int u0,.int u0,.int u0,.bool O.g,.int u0],[.int (O.lit .u8 8),.int u0,.int u2,.int u0,.bool O.g,.int u0,.int u0,.int (O.lit .u8 0),.int (O.lit .u8 0),.int u0,.int u0,.int u0,.bool O.g,.int (O.lit .u8 0),.int u0,.int u0,.int u0,.bool O.g,.int u0],[.int (O.lit .u8 3),.int u0,.int u1,.int u0,.bool O.g,.int u0,.int u0,.int (O.lit .u8 0),.int (O.lit .u8 0),.int u0,.int u0,.int u0,.bool O.g,.int (O.lit .u8 0),.int u0,.int u0,.int u0,.bool O.g,.int u0],(cr O c0 [0,0,0,0,1,0,0,0,0,0,0,0,1,0,0,0,0,1,0] 0),(cr O c1 [0,0,0,0,1,0,0,0,0,0,0,0,1,0,0,0,0,1,0] 0),[.int (O.lit .u8 2),.int u0,.int u2,.int u1,.bool O.g,.int u0,.int u0,.int (O.lit .u8 0),.int (O.lit .u8 0),.int u0,.int u0,.int u0,.bool O.g,.int (O.lit .u8 0),.int u0,.int u0,.int u0,.bool O.g,.int u0],[.int (O.lit .u8 8),.int u0,.int u1,.int u0,.bool O.g,.int u0,.int u0,.int (O.lit .u8 0),.int (O.lit .u8 0),.int u0,.int u0,.int u0,.bool O.g,.int (O.lit .u8 0),.int u0,.int u0,.int u0,.bool O.g,.int u0],[.int (O.lit .u8 3),.int u0,.int u2,.int u0,.bool O.g,.int u0,.int u0,.int (O.lit .u8 0),.int (O.lit .u8 0),.int u0,.int u0,.int u0,.bool O.g,.int (O.lit .u8 0),.int u0,.int u0,.int u0,.bool O.g,.int u0],(cr O c2 [0,0,0,0,1,0,0,0,0,0,0,0,1,0,0,0,0,1,0] 0),(cr O c3 [0,0,0,0,1,0,0,0,0,0,0,0,1,0,0,0,0,1,0] 0)])])))))
def we:Nat→Env:=eL [(25,Xs)]
def F1:=oS qe qV we
def Xl:List Nat:=[2,0,0,0,0,0,0,0,1,0,0,0,0,3,3]
def KU(O:Alg)(x:Ags O):O.M:=let u19:=(lq9 O 1);let u18:=(lq9 O 0);let u17:=(lq9 O (-1));(O.c (O.v (fun s0 c0=>let u22:=(O.d c0 0);let u21:=(O.j c0 1);let u15:=(O.l u21);let u8:=(O.m (x.L 14) u22 2);let u20:=(O.lit .u8 0);let u7:=(O.m (x.L 14) u22 0);let u6:=(O.p .i64 u22 u19);(O.b (O.n u22 (O.l (x.L 14))) (O.i (O.q u22 (O.l (x.L 14))) (O.b (O.e u7 (O.lit .u8 2)) (O.c (O.c (O.v (fun s1 c1=>let u28:=(O.d c1 1);let u24:=(O.d c1 0);(O.b (O.n u24 u15) (O.i (O.q u24 u15) (O.b (O.e (O.m u21 u24 0) u28) (O.a [.int u18,.int u24,.int u28]) (s1 [.int (O.p .i64 u24 u19),.int u28]))) (O.a [.int u19,.int u28]))) [.int u18,.int u8]) fun c1=>(O.b (O.ad c1 0) (O.a [.int (O.d c1 1),.int (O.d c1 2)]) (O.a [.int u17,.int (O.d c1 1)]))) fun c1=>let u11:=(O.ac u21 (O.z [[.int (O.d c1 1),.int u18,.int u18,.int u18,.int u18,.bool O.g,.int u20,.int u18,.int u18,.bool O.g]]));let u9:=(O.l u11);(O.c (O.b (O.n (O.d c1 0) u18) (O.i (O.s u9 72) (O.a [.int (O.x .i64 u9 u19),.rows u11])) (O.a [.int (O.d c1 0),.rows u21])) fun c2=>let u2:=(O.q (O.d c2 0) (O.l (O.j c2 1)));let u1:=(O.w (O.j c2 1) (O.d c2 0) 9 [.bool (O.k (O.rB (O.j c2 1) (O.d c2 0) 9) O.o O.o)]);let u0:=(O.l u1);(O.i u2 (O.i u2 (O.c (O.c (O.v (fun s3 c3=>let u29:=(O.d c3 1);let u25:=(O.d c3 0);(O.b (O.n u25 u0) (O.i (O.q u25 u0) (O.b (O.e (O.m u1 u25 0) u29) (O.a [.int u18,.int u25,.int u29]) (s3 [.int (O.p .i64 u25 u19),.int u29]))) (O.a [.int u19,.int u29]))) [.int u18,.int (O.m (x.L 14) u22 3)]) fun c3=>(O.b (O.ad c3 0) (O.a [.int (O.d c3 1),.int (O.d c3 2)]) (O.a [.int u17,.int (O.d c3 1)]))) fun c3=>let u14:=(O.ac u1 (O.z [[.int (O.d c3 1),.int u18,.int u18,.int u18,.int u18,.bool O.g,.int u20,.int u18,.int u18,.bool O.g]]));let u12:=(O.l u14);(O.c (O.b (O.n (O.d c3 0) u18) (O.i (O.s u12 72) (O.a [.int (O.x .i64 u12 u19),.rows u14])) (O.a [.int (O.d c3 0),.rows u1])) fun c4=>let u3:=(O.q (O.d c4 0) (O.l (O.j c4 1)));(O.i u3 (O.i u3 (s0 [.int u6,.rows (O.w (O.j c4 1) (O.d c4 0) 9 [.bool (O.k (O.rB (O.j c4 1) (O.d c4 0) 9) O.o O.o)])]))))))))) (O.b (O.e u7 (O.lit .u8 5)) (O.c (O.c (O.v (fun s1 c1=>let u30:=(O.d c1 1);let u26:=(O.d c1 0);(O.b (O.n u26 u15) (O.i (O.q u26 u15) (O.b (O.e (O.m u21 u26 0) u30) (O.a [.int u18,.int u26,.int u30]) (s1 [.int (O.p .i64 u26 u19),.int u30]))) (O.a [.int u19,.int u30]))) [.int u18,.int u8]) fun c1=>(O.b (O.ad c1 0) (O.a [.int (O.d c1 1),.int (O.d c1 2)]) (O.a [.int u17,.int (O.d c1 1)]))) fun c1=>let u13:=(O.ac u21 (O.z [[.int (O.d c1 1),.int u18,.int u18,.int u18,.int u18,.bool O.g,.int u20,.int u18,.int u18,.bool O.g]]));let u10:=(O.l u13);(O.c (O.b (O.n (O.d c1 0) u18) (O.i (O.s u10 72) (O.a [.int (O.x .i64 u10 u19),.rows u13])) (O.a [.int (O.d c1 0),.rows u21])) fun c2=>let u4:=(O.q (O.d c2 0) (O.l (O.j c2 1)));(O.i u4 (O.i u4 (s0 [.int u6,.rows (O.w (O.j c2 1) (O.d c2 0) 9 [.bool (O.k (O.rB (O.j c2 1) (O.d c2 0) 9) O.o (O.h (O.rB (x.L 14) u22 4)))])]))))) (s0 [.int u6,.rows u21])))) (O.a [.rows u21]))) [.int u18,.rows O.u]) fun c0=>(O.c (O.v (fun s1 c1=>let u23:=(O.j c1 1);let u16:=(O.l u23);(O.b (O.le (O.d c1 0) (x.I 1)) (O.c (O.c (O.v (fun s2 c2=>let u31:=(O.d c2 1);let u27:=(O.d c2 0);(O.b (O.n u27 u16) (O.i (O.q u27 u16) (O.b (O.e (O.m u23 u27 0) u31) (O.a [.int u18,.int u27,.int u31]) (s2 [.int (O.p .i64 u27 u19),.int u31]))) (O.a [.int u19,.int u31]))) [.int u18,.int (O.d c1 0)]) fun c2=>(O.b (O.ad c2 0) (O.a [.int (O.d c2 1),.int (O.d c2 2)]) (O.a [.int u17,.int (O.d c2 1)]))) fun c2=>(O.c (O.b (O.n (O.d c2 0) u18) (O.i (O.s (O.l (O.ac u23 (O.z [[.int (O.d c2 1),.int u18,.int u18,.int u18,.int u18,.bool O.g,.int (O.lit .u8 0),.int u18,.int u18,.bool O.g]]))) 72) (O.a [.int (O.x .i64 (O.l (O.ac u23 (O.z [[.int (O.d c2 1),.int u18,.int u18,.int u18,.int u18,.bool O.g,.int (O.lit .u8 0),.int u18,.int u18,.bool O.g]]))) u19),.rows (O.ac u23 (O.z [[.int (O.d c2 1),.int u18,.int u18,.int u18,.int u18,.bool O.g,.int (O.lit .u8 0),.int u18,.int u18,.bool O.g]]))])) (O.a [.int (O.d c2 0),.rows u23])) fun c3=>let u5:=(O.q (O.d c3 0) (O.l (O.j c3 1)));(O.i u5 (O.i u5 (s1 [.int (O.p .i64 (O.d c1 0) u19),.rows (O.w (O.j c3 1) (O.d c3 0) 9 [.bool (O.k (O.rB (O.j c3 1) (O.d c3 0) 9) O.o O.g)])]))))) (O.a [.rows u23]))) [.int u19,.rows (O.j c0 0)]) fun c1=>(O.a [.rows (O.j c1 0)])))
def Tm:Nat→Env:=eL []
def Kc:=oS Xl KU Tm
def FO:List Nat:=[3,3]
def Cj(O:Alg)(x:Ags O):O.M:=let u0:=(lq9 O 0);(O.c (O.v (fun s0 c0=>let u1:=(O.d c0 0);(O.b (O.n u1 (O.l (x.L 0))) (O.i (O.q u1 (O.l (x.L 0))) (O.b (O.e (O.m (x.L 0) u1 0) (O.m (x.L 1) u0 0)) (O.a [.int u0,.int u1]) (s0 [.int (O.p .i64 u1 (lq9 O 1))]))) (O.a [.int (lq9 O 1)]))) [.int u0]) fun c0=>(O.b (O.ad c0 0) (O.a [.int (O.d c0 1)]) (O.a [.int (lq9 O (-1))])))
def CN(N:Nat):Env:=fun f fns ls=>none
def Ck:=oS FO Cj CN
def SH:List Nat:=[0,0,0,0,0,1,0,0,0,0,1,0,0,0]
def HW(O:Alg)(x:Ags O):O.M:=(O.b (O.e (x.I 6) (O.lit .u8 0)) (O.a [.int (lq9 O 0)]) (O.b (O.e (x.I 7) (lq9 O 1)) (O.a [.int (x.I 12)]) (O.b (O.e (x.I 7) (lq9 O 2)) (O.a [.int (x.I 13)]) (O.a [.int (lq9 O 0)]))))
def Pl:Nat→Env:=eL []
def DD:=oS SH HW Pl
def RC:List Nat:=[2,0,0,0,0,0,0,0,1,0,0,0,0,3,3,0]
def IY(O:Alg)(x:Ags O):O.M:=let u18:=(lq9 O 1);let u17:=(lq9 O 0);(O.c (O.f 19 [] (xr x [2,0,0,0,0,0,0,0,1,0,0,0,0,3,3] 0)) fun c0=>(O.b (O.h (O.e (O.d c0 0) u17)) (O.a [.rows O.u,.int (O.d c0 0)]) (O.c (O.f 17 [] [.rows (x.L 14)]) fun c1=>let u14:=(O.l (O.j c1 0));let u13:=(O.m (O.j c1 0) (x.I 15) 1);let u12:=(O.m (O.j c1 0) (x.I 15) 0);let u9:=(O.q (x.I 15) u14);let u6:=(O.ai (x.L 14) u12 u13);let u5:=(O.l u6);(O.b (O.k (O.n (x.I 15) u17) O.o (O.le u14 (x.I 15))) (O.a [.rows O.u,.int (lq9 O 2)]) (O.i u9 (O.i u9 (O.i (O.al u12 u13 (O.l (x.L 14))) (O.c (O.f 30 [] (ap O (xr x kR 0) [.rows u6])) fun c2=>(O.c (O.f 27 [] (xr x [2,0,0,0,0,0,0,0,1,0,0,0,0,3,3] 0)) fun c3=>let u20:=(O.j c3 0);let u15:=(O.l u20);(O.c (O.v (fun s4 c4=>let u23:=(O.j c4 1);let u19:=(O.d c4 0);let u11:=(O.m u20 u19 5);let u10:=(O.m u20 u19 12);let u7:=(O.p .i64 u19 u18);(O.b (O.n u19 u15) (O.i (O.q u19 u15) (O.b (O.h (O.e (O.m u20 u19 1) (x.I 15))) (s4 [.int u7,.rows u23]) (O.c (O.f 32 [33] [.rows u23,.rows (O.z [[.int u11]])]) fun c5=>let u21:=(O.d c5 0);let u1:=(O.w u23 u21 1 [.int (O.p .i64 (O.m u23 u21 1) (O.m u20 u19 20))]);(O.i (O.q u21 (O.l u23)) (O.c (O.b (O.rB u20 u19 27) (O.a [.rows (O.w u1 u21 2 [.int (O.p .i64 (O.m u1 u21 2) u18)])]) (O.a [.rows u1])) fun c6=>let u24:=(O.j c6 0);(O.c (O.b (O.k (O.e (O.m u20 u19 9) (O.lit .u8 1)) (O.e (O.m u20 u19 10) u17) O.g) (O.b (O.e u10 (lq9 O 4)) (O.a [.rows (O.w u24 u21 3 [.int (O.p .i64 (O.m u24 u21 3) u18)])]) (O.b (O.e u10 (lq9 O 6)) (O.a [.rows (O.w u24 u21 4 [.int (O.p .i64 (O.m u24 u21 4) u18)])]) (O.a [.rows u24]))) (O.a [.rows u24])) fun c7=>let u27:=(O.j c7 0);(O.c (O.f 34 [] (ap O (rr O u20 u19 [0,0,0,0,0,1,0,0,0,0,1,0] 8) [.int u11,.int (O.m u20 u19 6)])) fun c8=>(O.b (O.n u17 (O.d c8 0)) (O.c (O.f 32 [33] [.rows u27,.rows (O.z [[.int (O.d c8 0)]])]) fun c9=>let u26:=(O.d c9 0);let u0:=(O.w (O.w (O.w u27 u26 5 [.bool O.o]) u26 6 [.int (O.m u20 u19 14)]) u26 8 [.int (O.m u20 u19 16)]);(O.i (O.q u26 (O.l u27)) (O.b (O.rB u20 u19 28) (s4 [.int u7,.rows (O.w u0 u26 7 [.int (O.m u20 u19 4)])]) (s4 [.int u7,.rows u0])))) (s4 [.int u7,.rows u27]))))))))) (O.a [.rows u23]))) [.int u17,.rows (O.j c2 0)]) fun c4=>(O.c (O.v (fun s5 c5=>let u25:=(O.d c5 0);let u22:=(O.j c5 1);let u16:=(O.l u22);let u8:=(O.p .i64 u25 u18);let u4:=(O.rB u6 u25 4);let u3:=(O.m u6 u25 0);let u2:=(O.z [[.int (O.m u6 u25 2)]]);(O.b (O.n u25 u5) (O.i (O.q u25 u5) (O.b (O.k (O.e u3 (O.lit .u8 5)) u4 O.g) (O.c (O.f 32 [33] [.rows u22,.rows u2]) fun c6=>(O.i (O.q (O.d c6 0) u16) (s5 [.int u8,.rows (O.w (O.w u22 (O.d c6 0) 5 [.bool O.o]) (O.d c6 0) 6 [.int (O.lit .u8 9)])]))) (O.b (O.k (O.e u3 (O.lit .u8 6)) (O.h u4) O.g) (O.c (O.f 32 [33] [.rows u22,.rows u2]) fun c6=>(O.i (O.q (O.d c6 0) u16) (s5 [.int u8,.rows (O.w (O.w u22 (O.d c6 0) 5 [.bool O.o]) (O.d c6 0) 6 [.int (O.lit .u8 10)])]))) (s5 [.int u8,.rows u22])))) (O.a [.rows u22]))) [.int u17,.rows (O.j c4 0)]) fun c5=>(O.a [.rows (O.j c5 0),.int u17]))))))))))))
def Bs(N:Nat):Env:=fun f fns ls=>(cond (Nat.beq f 17&&AK fns []) (Ay N ls) (cond (Nat.beq f 19&&AK fns []) (Bb N ls) (cond (Nat.beq f 27&&AK fns []) (Bc N ls) (cond (Nat.beq f 30&&AK fns []) (Kc N ls) (cond (Nat.beq f 32&&AK fns [33]) (Ck N ls) (cond (Nat.beq f 34&&AK fns []) (DD N ls) none))))))
theorem SD{N ls}:Bs N 17 [] ls=Ay N ls:=id rfl
theorem WA{N ls}:Bs N 19 [] ls=Bb N ls:=id rfl
theorem WZ{N ls}:Bs N 27 [] ls=Bc N ls:=id rfl
theorem RA{N ls}:Bs N 30 [] ls=Kc N ls:=id rfl
theorem Jj{N ls}:Bs N 32 [33] ls=Ck N ls:=id rfl
theorem Oh{N ls}:Bs N 34 [] ls=DD N ls:=id rfl
def DJ:=oS RC IY Bs
def VS:List Nat:=[2,0,0,0,0,0,0,0,1,0,0,0,0,3,3,0,0]
def JO(O:Alg)(x:Ags O):O.M:=let u2:=(lq9 O 1);let u1:=(lq9 O 0);(O.c (O.v (fun s0 c0=>let u4:=(O.d c0 0);let u3:=(O.d c0 1);let u0:=(O.p .i64 u3 u2);(O.b (O.n u3 (O.l (x.L 14))) (O.i (O.q u3 (O.l (x.L 14))) (O.b (O.h (O.e (O.m (x.L 14) u3 2) (x.I 15))) (s0 [.int u4,.int u0]) (O.b (O.k (O.h (O.e (O.m (x.L 14) u3 4) (x.I 16))) O.o (O.h (O.e (O.m (x.L 14) u3 25) u1))) (O.a [.int u1,.bool O.g]) (O.b (O.rB (x.L 14) u3 26) (s0 [.int (O.p .i64 u4 u2),.int u0]) (s0 [.int u4,.int u0]))))) (O.a [.int u2,.int u4]))) [.int u1,.int u1]) fun c0=>(O.b (O.ad c0 0) (O.a [.bool (O.r c0 1)]) (O.a [.bool (O.e (O.d c0 1) (x.I 4))])))
def SK:Nat→Env:=eL []
def JR:=oS VS JO SK
def Mj:List Nat:=[2,0,0,0,0,0,0,0,1,0,0,0,0,3,3,0]
def Ff(O:Alg)(x:Ags O):O.M:=let u18:=(lq9 O 1);let u17:=(lq9 O 0);let u16:=(lq9 O (-1));let u10:=(O.n (x.I 15) u17);(O.c (O.f 19 [] (xr x [2,0,0,0,0,0,0,0,1,0,0,0,0,3,3] 0)) fun c0=>(O.b (O.h (O.e (O.d c0 0) u17)) (O.a [.rows O.u,.int (O.d c0 0)]) (O.c (O.b (O.h u10) (O.f 17 [] [.rows (x.L 14)]) (O.a [.rows O.u])) fun c1=>(O.b (O.k u10 O.o (O.le (O.l (O.j c1 0)) (x.I 15))) (O.a [.rows O.u,.int (lq9 O 2)]) (O.c (O.f 27 [] (xr x [2,0,0,0,0,0,0,0,1,0,0,0,0,3,3] 0)) fun c2=>let u28:=(O.j c2 0);let u14:=(O.l u28);(O.c (O.c (O.c (O.v (fun s3 c3=>let u29:=(O.d c3 1);let u22:=(O.d c3 0);(O.b (O.n u22 u14) (O.i (O.q u22 u14) (O.b (O.h (O.e (O.m u28 u22 1) u29)) (O.a [.int u17,.int u22,.int u29]) (s3 [.int (O.p .i64 u22 u18),.int u29]))) (O.a [.int u18,.int u29]))) [.int u17,.int (x.I 15)]) fun c3=>(O.b (O.ad c3 0) (O.a [.int (O.d c3 1),.int (O.d c3 2)]) (O.a [.int u16,.int (O.d c3 1)]))) fun c3=>(O.b (O.e (O.d c3 0) u16) (O.a [.rows u28,.int (O.d c3 1)]) (O.c (O.v (fun s4 c4=>let u30:=(O.d c4 3);let u24:=(O.d c4 1);let u23:=(O.d c4 2);let u20:=(O.j c4 0);let u11:=(O.l u20);let u6:=(O.p .i64 u23 u18);(O.b (O.n u23 u11) (O.i (O.q u23 u11) (O.b (O.h (O.h (O.e (O.m u20 u23 1) u30))) (O.i (O.q u24 u11) (s4 [.rows (O.w u20 u24 0 (rr O u20 u23 [0,0,0,0,0,0,0,1,0,0,0,0,0,1,0,0,0,0,1,0,0,0,0,0,0,0,1,1,1,1,0,0] 0)),.int (O.p .i64 u24 u18),.int u6,.int u30])) (s4 [.rows u20,.int u24,.int u6,.int u30]))) (O.a [.rows u20,.int u24,.int u30]))) [.rows u28,.int (O.d c3 0),.int (O.p .i64 (O.d c3 0) u18),.int (O.d c3 1)]) fun c4=>let u25:=(O.d c4 1);let u12:=(O.l (O.j c4 0));let u5:=(O.ai (O.j c4 0) u17 u25);let u4:=(O.l (O.ai (O.j c4 0) u25 u12));(O.i (O.al u25 u12 u12) (O.i (O.al u17 u25 (O.l (O.ac u5 (O.am u4 [.int u17,.int u17,.int u17,.int u17,.int u17,.int u17,.int u17,.bool O.g,.int (O.lit .u8 0),.int (O.lit .u8 0),.int u17,.int u17,.int u17,.bool O.g,.int (O.lit .u8 0),.int u17,.int u17,.int u17,.bool O.g,.int u17,.int u17,.int u17,.int u17,.int u17,.int u17,.int u17,.bool O.g,.bool O.g,.bool O.g,.bool O.g,.int u17,.int u17])))) (O.a [.rows (O.ai (O.ac u5 (O.am u4 [.int u17,.int u17,.int u17,.int u17,.int u17,.int u17,.int u17,.bool O.g,.int (O.lit .u8 0),.int (O.lit .u8 0),.int u17,.int u17,.int u17,.bool O.g,.int (O.lit .u8 0),.int u17,.int u17,.int u17,.bool O.g,.int u17,.int u17,.int u17,.int u17,.int u17,.int u17,.int u17,.bool O.g,.bool O.g,.bool O.g,.bool O.g,.int u17,.int u17])) u17 u25),.int (O.d c4 2)])))))) fun c3=>let u31:=(O.j c3 0);let u13:=(O.l u31);(O.c (O.v (fun s4 c4=>let u26:=(O.j c4 0);let u21:=(O.d c4 1);let u15:=(O.l u26);let u9:=(O.e u21 u17);let u8:=(O.p .i64 u21 u18);let u7:=(O.x .i64 u21 u18);(O.b (O.n u21 u13) (O.i (O.q u21 u13) (O.c (O.c (O.v (fun s5 c5=>let u32:=(O.d c5 0);(O.b (O.n u32 u15) (O.i (O.q u32 u15) (O.b (O.e (O.m u26 u32 0) (O.d c5 5)) (O.a (ap O [.int u17] (cr O c5 [0,0,0,0,0,0,0,0,1,0,0,0,0,0,1,0,0,0,0,1,0,0,0,0,0,0,0,1,1,1,1,0,0] 0))) (s5 (ap O [.int (O.p .i64 u32 u18)] (cr O c5 [0,0,0,0,0,0,0,1,0,0,0,0,0,1,0,0,0,0,1,0,0,0,0,0,0,0,1,1,1,1,0,0] 1))))) (O.a (ap O [.int u18] (cr O c5 [0,0,0,0,0,0,0,1,0,0,0,0,0,1,0,0,0,0,1,0,0,0,0,0,0,0,1,1,1,1,0,0] 1))))) (ap O [.int u17] (rr O u31 u21 [0,0,0,0,0,0,0,1,0,0,0,0,0,1,0,0,0,0,1,0,0,0,0,0,0,0,1,1,1,1,0,0] 0))) fun c5=>(O.b (O.ad c5 0) (O.a (cr O c5 [0,0,0,0,0,0,0,0,1,0,0,0,0,0,1,0,0,0,0,1,0,0,0,0,0,0,0,1,1,1,1,0,0] 1)) (O.a (ap O [.int u16] (cr O c5 [0,0,0,0,0,0,0,1,0,0,0,0,0,1,0,0,0,0,1,0,0,0,0,0,0,0,1,1,1,1,0,0] 1))))) fun c5=>let u2:=(O.k u9 O.o (O.h (O.e (O.m u31 u7 2) (O.d c5 3))));let u1:=(O.ac u26 (O.z [[.int (O.d c5 5),.int u17,.int u17,.int u17,.int u17,.int u17,.int u17]]));let u0:=(O.l u1);(O.c (O.b (O.n (O.d c5 0) u17) (O.i (O.s u0 56) (O.a [.rows u1,.int (O.x .i64 u0 u18)])) (O.a [.rows u26,.int (O.d c5 0)])) fun c6=>let u19:=(O.d c6 1);let u3:=(O.w (O.j c6 0) u19 3 [.int (O.p .i64 (O.m (O.j c6 0) u19 3) (O.d c5 26))]);(O.i (O.q u19 (O.l (O.j c6 0))) (O.c (O.b (O.r c5 27) (O.a [.rows (O.w u3 u19 1 [.int (O.p .i64 (O.m u3 u19 1) u18)])]) (O.a [.rows u3])) fun c7=>(O.c (O.b (O.r c5 29) (O.a [.rows (O.w (O.j c7 0) u19 4 [.int (O.p .i64 (O.m (O.j c7 0) u19 4) u18)])]) (O.a [.rows (O.j c7 0)])) fun c8=>let u27:=(O.j c8 0);(O.c (O.b (O.e (O.d c5 9) (O.lit .u8 2)) (O.a [.rows (O.w u27 u19 5 [.int (O.p .i64 (O.m u27 u19 5) u18)])]) (O.b (O.e (O.d c5 9) (O.lit .u8 3)) (O.a [.rows (O.w u27 u19 6 [.int (O.p .i64 (O.m u27 u19 6) u18)])]) (O.a [.rows u27]))) fun c9=>(O.i (O.h (O.af (O.h u9) (O.h (O.q u7 u13)))) (O.c (O.b u2 (O.f 44 [] (ap O (xr x kR 0) [.rows u31,.int (O.d c5 3),.int (O.d c5 5)])) (O.a [.bool O.g])) fun c10=>(O.b (O.k u2 (O.r c10 0) O.g) (s4 [.rows (O.w (O.j c9 0) u19 2 [.int (O.p .i64 (O.m (O.j c9 0) u19 2) u18)]),.int u8]) (s4 [.rows (O.j c9 0),.int u8]))))))))))) (O.a [.rows u26]))) [.rows O.u,.int u17]) fun c4=>(O.a [.rows (O.j c4 0),.int u17]))))))))
def Bu(N:Nat):Env:=fun f fns ls=>(cond (Nat.beq f 17&&AK fns []) (Ay N ls) (cond (Nat.beq f 19&&AK fns []) (Bb N ls) (cond (Nat.beq f 27&&AK fns []) (Bc N ls) (cond (Nat.beq f 44&&AK fns []) (JR N ls) none))))
theorem Pq{N ls}:Bu N 17 [] ls=Ay N ls:=id rfl
theorem Sc{N ls}:Bu N 19 [] ls=Bb N ls:=id rfl
theorem S8{N ls}:Bu N 27 [] ls=Bc N ls:=id rfl
theorem Nt{N ls}:Bu N 44 [] ls=JR N ls:=id rfl
def CJ:=oS Mj Ff Bu
def Tp:List Nat:=[0,0,0,0,0,1,0,0,0,0,1,0]
def TI(O:Alg)(x:Ags O):O.M:=let u0:=(O.t ⟨#[]⟩);(O.b (O.e (x.I 1) (O.lit .u8 0)) (O.b (O.h (O.e (x.I 0) (O.lit .u8 2))) (O.a [.str (O.t ⟨#[46]⟩)]) (O.a [.str u0])) (O.b (O.e (x.I 1) (O.lit .u8 1)) (O.b (O.e (x.I 0) (O.lit .u8 2)) (O.a [.str (O.t ⟨#[111]⟩)]) (O.a [.str u0])) (O.b (O.e (x.I 1) (O.lit .u8 2)) (O.a [.str (O.t ⟨#[98]⟩)]) (O.b (O.e (x.I 1) (O.lit .u8 3)) (O.a [.str (O.t ⟨#[108]⟩)]) (O.a [.str u0])))))
def cj:Nat→Env:=eL []
def Ma:=oS Tp TI cj
end Go.Px
