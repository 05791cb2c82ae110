/- Part 10. -/
import Derived.Test.YtefmhiojnbekpaaGreatDoorPart08
import Derived.Test.YtefmhiojnbekpaaGreatDoorPart09
set_option linter.unusedVariables false
set_option linter.unusedSimpArgs false
namespace Go.Px
set_option maxRecDepth 100000
def lQ:List Nat:=[2,0,0,0,0,0,0,0,1,0,0,0,0,3,0,0,1,3,0,0,0,0,0]
def R2 (O:Alg) (x:Ags O):O.M:=(O.c (O.g 100 [] (xr x kR 0)) fun c0=>(O.c (O.w (fun s1 c1=>let u1:=(O.h c1 1);(O.b (O.m u1 (O.l (x.L 17))) (O.n (O.r u1 (O.l (x.L 17))) (O.c (O.g 122 [] (rr O (x.L 17) u1 kI 0)) fun c2=>let u0:=(O.ac (O.o c1 0) (O.ab [(cr O c2 kI 0)]));(O.n (O.z (O.l u0) 304) (s1 [.rows u0,.int (O.p .i64 u1 (lq9 O 1))])))) (O.a [.rows (O.o c1 0)]))) [.rows O.u,.int (lq9 O 0)]) fun c1=>(O.a (ap O (cr O c0 kR 0) (ap O (xr x [0,0,1] 14) (ap O [.rows (O.o c1 0)] (xr x [0,0,0,0,0] 18)))))))
def Nm:Nat→Env:=eL [(100,FL),(122,DV)]
theorem Zu {N ls}:Nm N 100 [] ls=FL N ls:=id rfl
theorem ON {N ls}:Nm N 122 [] ls=DV N ls:=id rfl
def Rm:=oS lQ R2 Nm
def xI:List Nat:=[0,0,0]
def xG (O:Alg) (x:Ags O):O.M:=(O.a [.bool (O.i (O.t (x.I 1) (x.I 0)) (O.t (x.I 0) (x.I 2)) O.e)])
def AAg:Nat→Env:=eL []
def Fh:=oS xI xG AAg
def sV:List Nat:=[3,0]
def X2 (O:Alg) (x:Ags O):O.M:=let u5:=(lq9 O 1);let u4:=(lq9 O 0);let u3:=(O.l (x.L 0));(O.c (O.w (fun s0 c0=>let u6:=(O.h c0 0);let u2:=(O.q (x.L 0) u6 0);let u1:=(O.ak (x.L 0) u4 u6);let u0:=(O.l u1);(O.b (O.m u6 u3) (O.n (O.r u6 u3) (O.c (O.g 179 [] [.int u2,.int u5,.int (x.I 1)]) fun c1=>(O.b (O.f (O.k c1 0)) (O.a [.int u4,.bool O.e]) (O.n (O.am u4 u6 u3) (O.c (O.w (fun s2 c2=>let u7:=(O.h c2 0);(O.b (O.m u7 u0) (O.n (O.r u7 u0) (O.b (O.d u2 (O.q u1 u7 0)) (O.a [.int u4,.bool O.e]) (s2 [.int (O.p .i64 u7 u5)]))) (O.a [.int u5,.int u7]))) [.int u4]) fun c2=>(O.b (O.aa c2 0) (O.a [.int u4,.bool (O.k c2 1)]) (s0 [.int (O.p .i64 u6 u5)]))))))) (O.a [.int u5]))) [.int u4]) fun c0=>(O.b (O.aa c0 0) (O.a [.bool (O.k c0 1)]) (O.a [.bool O.j])))
def Yp:Nat→Env:=eL [(179,Fh)]
def Sd:=oS sV X2 Yp
def lE:List Nat:=[0,0,0,0,0,0,0,0,0,0,0,0,0,0,3,0,3,3,1,3,1,0,0,0,3,0,0,0]
def Jm (O:Alg) (x:Ags O):O.M:=(O.c (O.w (fun s0 c0=>let u0:=(O.h c0 0);(O.b (O.m u0 (O.l (x.L 14))) (O.n (O.r u0 (O.l (x.L 14))) (O.b (O.f (O.d (O.q (x.L 14) u0 0) (O.lit .u8 0))) (O.a [.int (lq9 O 0),.bool O.j]) (s0 [.int (O.p .i64 u0 (lq9 O 1))]))) (O.a [.int (lq9 O 1)]))) [.int (lq9 O 0)]) fun c0=>(O.b (O.aa c0 0) (O.a [.bool (O.k c0 1)]) (O.a [.bool O.e])))
def Te:Nat→Env:=eL []
def Bq:=oS lE Jm Te
def dR:List Nat:=[0,0,0,0,0,0,0,0,0,0,0,0,0,0,3,0,3,3,1,3,1,0,0,0,3,0,0,0]
def NA (O:Alg) (x:Ags O):O.M:=let u3:=(lq9 O 1);let u2:=(lq9 O 0);(O.c (O.w (fun s0 c0=>let u6:=(O.h c0 1);let u5:=(O.h c0 0);let u4:=(O.h c0 2);let u1:=(O.q (x.L 14) u4 0);let u0:=(O.p .i64 u4 u3);(O.b (O.m u4 (O.l (x.L 14))) (O.n (O.r u4 (O.l (x.L 14))) (O.b (O.m (O.lit .u8 3) u1) (O.a [.int u2,.bool O.e]) (O.c (O.b (O.d u1 (O.lit .u8 2)) (O.a [.int (O.p .i64 u5 u3)]) (O.a [.int u5])) fun c1=>(O.c (O.b (O.d u1 (O.lit .u8 1)) (O.a [.int (O.p .i64 u6 u3)]) (O.a [.int u6])) fun c2=>(O.b (O.f (O.aj (O.d u1 (O.lit .u8 1)) (O.i (O.d (x.I 12) u0) O.j (O.d (x.I 13) u0)))) (O.a [.int u2,.bool O.e]) (s0 [.int (O.h c1 0),.int (O.h c2 0),.int u0])))))) (O.a [.int u3,.int u5,.int u6]))) [.int u2,.int u2,.int u2]) fun c0=>(O.b (O.aa c0 0) (O.a [.bool (O.k c0 1)]) (O.c (O.g 182 [] (xr x kI 0)) fun c1=>(O.b (O.i (O.i (O.k c1 0) (O.m (O.h c0 2) u3) O.e) O.j (O.i (O.f (O.d (x.I 12) u2)) (O.d (x.I 12) (x.I 13)) O.e)) (O.a [.bool O.e]) (O.a [.bool (O.d (x.I 4) (O.h c0 1))])))))
def QX:Nat→Env:=eL [(182,Bq)]
def JM:=oS dR NA QX
def ke:List Nat:=[2,0,0,0,0,0,0,0,1,0,0,0,0,3,0,0,0,0,0,0,0,0,0,0,0,0,0,0,3,0,3,3,1,3,1,0,0,0,3,0,0,0]
def SL (O:Alg) (x:Ags O):O.M:=let u15:=(lq9 O 1);let u14:=(lq9 O 0);let u13:=(O.l (x.L 33));let u11:=(lq9 O 1000000000);let u10:=(O.m u14 (x.I 3));let u7:=(O.i (O.d (x.I 3) u14) (O.f (O.d (x.I 16) u14)) O.e);let u1:=(O.ab [[.int (x.I 15)],[.int (x.I 17)],[.int (x.I 19)],[.int (x.I 20)],[.int (x.I 21)],[.int (x.I 22)],[.int (x.I 23)],[.int (x.I 24)],[.int (x.I 35)],[.int (x.I 37)],[.int (x.I 39)],[.int (x.I 40)]]);let u0:=(O.l u1);(O.c (O.g 80 [] (xr x kR 0)) fun c0=>let u9:=(O.f (O.d (O.h c0 0) u14));(O.c (O.b (O.f u9) (O.g 179 [] [.int (x.I 14),.int u15,.int (lq9 O 2)]) (O.a [.bool O.e])) fun c1=>(O.b (O.i (O.i (O.i (O.i (O.i u9 O.j (O.f (O.k c1 0))) O.j (O.f (O.d (O.l (x.L 28)) (x.I 1)))) O.j (O.f (O.d u13 (x.I 1)))) O.j (O.f (O.d (O.l (x.L 38)) (x.I 1)))) O.j (O.m (O.lit .u8 5) (x.I 41))) (O.a [.bool O.e]) (O.c (O.g 179 [] [.int (x.I 26),.int u14,.int (x.I 1)]) fun c2=>let u12:=(O.f (O.k c2 0));(O.c (O.b (O.f u12) (O.g 179 [] [.int (x.I 27),.int u14,.int (x.I 1)]) (O.a [.bool O.e])) fun c3=>let u8:=(O.i u12 O.j (O.f (O.k c3 0)));(O.c (O.b (O.f u8) (O.g 179 [] [.int (x.I 29),.int u14,.int (x.I 1)]) (O.a [.bool O.e])) fun c4=>let u6:=(O.i u8 O.j (O.f (O.k c4 0)));(O.c (O.b (O.f u6) (O.g 179 [] [.int (x.I 36),.int u14,.int (x.I 1)]) (O.a [.bool O.e])) fun c5=>let u5:=(O.i u6 O.j (O.f (O.k c5 0)));(O.c (O.b (O.f u5) (O.g 180 [] [.rows (x.L 30),.int (x.I 1)]) (O.a [.bool O.e])) fun c6=>let u4:=(O.i u5 O.j (O.f (O.k c6 0)));(O.c (O.b (O.f u4) (O.g 180 [] [.rows (x.L 31),.int (x.I 1)]) (O.a [.bool O.e])) fun c7=>let u2:=(O.i u4 O.j (O.f (O.k c7 0)));(O.c (O.b (O.f u2) (O.g 181 [] (xr x kI 14)) (O.a [.bool O.e])) fun c8=>(O.b (O.i u2 O.j (O.f (O.k c8 0))) (O.a [.bool O.e]) (O.c (O.b (O.x (O.f u7) u10) (O.g 179 [] [.int (x.I 16),.int u15,.int (x.I 3)]) (O.a [.bool O.e])) fun c9=>let u3:=(O.i u7 O.j (O.i u10 (O.f (O.k c9 0)) O.e));(O.c (O.b (O.f u3) (O.g 179 [] [.int (x.I 25),.int u14,.int (O.s .i64 (x.I 4) u15)]) (O.a [.bool O.e])) fun c10=>(O.b (O.i u3 O.j (O.f (O.k c10 0))) (O.a [.bool O.e]) (O.c (O.w (fun s11 c11=>let u16:=(O.h c11 0);(O.b (O.m u16 u0) (O.n (O.r u16 u0) (O.c (O.g 179 [] [.int (O.q u1 u16 0),.int u14,.int u11]) fun c12=>(O.b (O.f (O.k c12 0)) (O.a [.int u14,.bool O.e]) (s11 [.int (O.p .i64 u16 u15)])))) (O.a [.int u15]))) [.int u14]) fun c11=>(O.b (O.aa c11 0) (O.a [.bool (O.k c11 1)]) (O.c (O.w (fun s12 c12=>let u17:=(O.h c12 0);(O.b (O.m u17 u13) (O.n (O.r u17 u13) (O.c (O.g 179 [] [.int (O.q (x.L 33) u17 0),.int u14,.int u11]) fun c13=>(O.b (O.f (O.k c13 0)) (O.a [.int u14,.bool O.e]) (s12 [.int (O.p .i64 u17 u15)])))) (O.a [.int u15]))) [.int u14]) fun c12=>(O.b (O.aa c12 0) (O.a [.bool (O.k c12 1)]) (O.a [.bool O.j])))))))))))))))))))
def GL:Nat→Env:=eL [(80,Am),(179,Fh),(180,Sd),(181,JM)]
def C7:=oS ke SL GL
def ku:List Nat:=[0]
def SH (O:Alg) (x:Ags O):O.M:=(O.a [.int (O.s .i64 (lq9 O 3) (x.I 0))])
def dc:Nat→Env:=eL []
def CM:=oS ku SH dc
def iW:List Nat:=[2,0,0,0,0,0,0,0,1,0,0,0,0,3,0,0,1,3,0,0,0,0,0,0]
def QO (O:Alg) (x:Ags O):O.M:=let u0:=(O.d (O.al .i64 (x.I 23) (lq9 O 2)) (lq9 O 1));(O.c (O.b (O.i (x.B 16) (O.t (lq9 O 2) (x.I 23)) O.e) (O.a [.bool (O.f u0)]) (O.a [.bool u0])) fun c0=>(O.b (O.k c0 0) (O.c (O.g 128 [] [.int (x.I 15)]) fun c1=>(O.a [.int (O.h c1 0)])) (O.a [.int (x.I 15)])))
def Rd:Nat→Env:=eL [(128,CM)]
theorem YK {N ls}:Rd N 128 [] ls=CM N ls:=id rfl
def Fu:=oS iW QO Rd
def Xk:List Nat:=[2,0,0,0,0,0,0,0,1,0,0,0,0,3,0,0,1,3,0,0,0,0,0]
def KM (O:Alg) (x:Ags O):O.M:=let u3:=(lq9 O 1);let u2:=(lq9 O 0);let u1:=(O.l (x.L 17));(O.c (O.w (fun s0 c0=>let u4:=(O.h c0 0);(O.b (O.m u4 u1) (O.n (O.r u4 u1) (O.c (O.g 155 [] (ap O (xr x kR 0) (rr O (x.L 17) u4 kI 0))) fun c1=>let u0:=(O.f (O.k c1 0));(O.c (O.b (O.f u0) (O.g 156 [] (ap O (xr x kM 0) [.int u4])) (O.a [.int u2])) fun c2=>(O.b (O.i (O.i u0 O.j (O.f (O.d (O.q (x.L 17) u4 0) (O.h c2 0)))) O.j (O.f (O.aj (O.d (O.q (x.L 17) u4 27) (O.lit .u8 0)) (O.i (O.d (x.I 14) (O.lit .u8 3)) (O.d u4 (O.s .i64 u1 u3)) O.e)))) (O.a [.int u2,.bool O.e]) (s0 [.int (O.p .i64 u4 u3)]))))) (O.a [.int u3]))) [.int u2]) fun c0=>(O.b (O.aa c0 0) (O.a [.bool (O.k c0 1)]) (O.a [.bool O.j])))
def HN:Nat→Env:=eL [(155,C7),(156,Fu)]
theorem J4 {N ls}:HN N 155 [] ls=C7 N ls:=id rfl
theorem JZ {N ls}:HN N 156 [] ls=Fu N ls:=id rfl
def G1:=oS Xk KM HN
def lm:List Nat:=[2,0,0,0,0,0,0,0,1,0,0,0,0,3,0,0,1,3,0,0,0,0,0]
def Rz (O:Alg) (x:Ags O):O.M:=let u7:=(lq9 O 1);let u6:=(lq9 O 2);let u5:=(lq9 O 0);let u4:=(O.l (x.L 17));let u3:=(O.d (x.I 15) u5);let u2:=(O.af .i64 u6 (x.I 2));let u0:=(O.f (O.d u2 (lq9 O 4)));(O.c (O.g 80 [] (xr x kR 0)) fun c0=>(O.b (O.i (O.i (O.i (O.f (O.d (O.h c0 0) u5)) O.j (O.m (x.I 14) (O.lit .u8 1))) O.j (O.m (O.lit .u8 5) (x.I 14))) O.j (O.m u2 u4)) (O.a [.bool O.e]) (O.c (O.w (fun s1 c1=>let u8:=(O.h c1 0);let u1:=(O.ae (O.d u8 u7) (x.I 19) (x.I 18));(O.b (O.m u8 u6) (O.n (O.r u8 u6) (O.b (O.i (O.m u1 u5) O.j (O.m (lq9 O 1000000) u1)) (O.a [.int u5,.bool O.e]) (s1 [.int (O.p .i64 u8 u7)]))) (O.a [.int u7]))) [.int u5]) fun c1=>(O.b (O.aa c1 0) (O.a [.bool (O.k c1 1)]) (O.b (O.i (O.i (O.i (O.m (x.I 15) u5) O.j (O.m u6 (x.I 15))) O.j (O.i u3 (O.i (O.m u5 u4) O.j (O.i (O.f (O.d (x.I 14) (O.lit .u8 1))) (O.f (O.d (x.I 14) (O.lit .u8 5))) O.e)) O.e)) O.j (O.i (O.d (x.I 14) (O.lit .u8 1)) (O.f u3) O.e)) (O.a [.bool O.e]) (O.b (O.i (O.i (O.i (O.i (O.d (x.I 14) (O.lit .u8 3)) (O.d u4 u5) O.e) O.j (O.i (O.d (x.I 14) (O.lit .u8 2)) (O.d u4 u2) O.e)) O.j (O.i (O.d (x.I 14) (O.lit .u8 4)) (O.i (O.f (O.d u4 u6)) O.j u0) O.e)) O.j (O.i (x.B 16) (O.i (O.m u4 u6) O.j u0) O.e)) (O.a [.bool O.e]) (O.c (O.g 123 [] (xr x kM 0)) fun c2=>(O.a [.bool (O.k c2 0)]))))))))
def Nq:Nat→Env:=eL [(80,Am),(123,G1)]
theorem ZY {N ls}:Nq N 80 [] ls=Am N ls:=id rfl
theorem KA {N ls}:Nq N 123 [] ls=G1 N ls:=id rfl
def FP:=oS lm Rz Nq
def ic:List Nat:=[0]
def Qa (O:Alg) (x:Ags O):O.M:=(O.c (O.b (O.d (x.I 0) (O.lit .u8 1)) (O.a [.bool (O.d (x.I 0) (O.lit .u8 1))]) (O.b (O.d (x.I 0) (O.lit .u8 12)) (O.a [.bool (O.d (x.I 0) (O.lit .u8 12))]) (O.a [.bool (O.d (x.I 0) (O.lit .u8 14))]))) fun c0=>(O.b (O.k c0 0) (O.a [.bool O.j,.bool O.e,.bool O.e,.bool O.j,.bool O.e,.bool O.e,.bool O.e,.bool O.j]) (O.b (O.d (x.I 0) (O.lit .u8 2)) (O.a [.bool O.e,.bool O.j,.bool O.j,.bool O.e,.bool O.e,.bool O.e,.bool O.e,.bool O.j]) (O.c (O.b (O.d (x.I 0) (O.lit .u8 3)) (O.a [.bool (O.d (x.I 0) (O.lit .u8 3))]) (O.a [.bool (O.d (x.I 0) (O.lit .u8 8))])) fun c1=>(O.b (O.k c1 0) (O.a [.bool O.e,.bool O.j,.bool O.e,.bool O.e,.bool O.e,.bool O.e,.bool O.e,.bool O.j]) (O.b (O.d (x.I 0) (O.lit .u8 4)) (O.a [.bool O.e,.bool O.e,.bool O.e,.bool O.e,.bool O.e,.bool O.e,.bool O.j,.bool O.j]) (O.c (O.b (O.d (x.I 0) (O.lit .u8 5)) (O.a [.bool (O.d (x.I 0) (O.lit .u8 5))]) (O.b (O.d (x.I 0) (O.lit .u8 6)) (O.a [.bool (O.d (x.I 0) (O.lit .u8 6))]) (O.a [.bool (O.d (x.I 0) (O.lit .u8 9))]))) fun c2=>(O.b (O.k c2 0) (O.a [.bool O.e,.bool O.j,.bool O.e,.bool O.j,.bool O.e,.bool O.e,.bool O.e,.bool O.j]) (O.b (O.d (x.I 0) (O.lit .u8 7)) (O.a [.bool O.e,.bool O.e,.bool O.e,.bool O.e,.bool O.j,.bool O.e,.bool O.e,.bool O.j]) (O.c (O.b (O.d (x.I 0) (O.lit .u8 10)) (O.a [.bool (O.d (x.I 0) (O.lit .u8 10))]) (O.a [.bool (O.d (x.I 0) (O.lit .u8 16))])) fun c3=>(O.b (O.k c3 0) (O.a [.bool O.e,.bool O.e,.bool O.e,.bool O.e,.bool O.e,.bool O.e,.bool O.e,.bool O.j]) (O.b (O.d (x.I 0) (O.lit .u8 11)) (O.a [.bool O.j,.bool O.e,.bool O.e,.bool O.e,.bool O.e,.bool O.e,.bool O.e,.bool O.j]) (O.b (O.d (x.I 0) (O.lit .u8 13)) (O.a [.bool O.j,.bool O.e,.bool O.e,.bool O.e,.bool O.j,.bool O.e,.bool O.e,.bool O.j]) (O.b (O.d (x.I 0) (O.lit .u8 15)) (O.a [.bool O.e,.bool O.e,.bool O.e,.bool O.e,.bool O.j,.bool O.j,.bool O.e,.bool O.j]) (O.a [.bool O.e,.bool O.e,.bool O.e,.bool O.e,.bool O.e,.bool O.e,.bool O.e,.bool O.e])))))))))))))))
def ZQ:Nat→Env:=eL []
def Kn:=oS ic Qa ZQ
def oC:List Nat:=[0]
def Uq (O:Alg) (x:Ags O):O.M:=(O.b (O.d (x.I 0) (O.lit .u8 7)) (O.a [.int (lq9 O 0),.int (lq9 O 11)]) (O.b (O.d (x.I 0) (O.lit .u8 13)) (O.a [.int (lq9 O 1),.int (lq9 O 99)]) (O.a [.int (lq9 O 0),.int (lq9 O 100000)])))
def iZ:Nat→Env:=eL []
def P2:=oS oC Uq iZ
def xd:List Nat:=[0,0,0]
def nB (O:Alg) (x:Ags O):O.M:=(O.a [.bool (O.i (O.t (x.I 1) (x.I 0)) (O.t (x.I 0) (x.I 2)) O.e)])
def oE:Nat→Env:=eL []
def Vh:=oS xd nB oE
def yd:List Nat:=[0,0,0]
def mM (O:Alg) (x:Ags O):O.M:=(O.a [.bool (O.i (O.t (x.I 1) (x.I 0)) (O.t (x.I 0) (x.I 2)) O.e)])
def oq:Nat→Env:=eL []
def VA:=oS yd mM oq
def lR:List Nat:=[0,0,0,0,0,1,0,0,0,0,1,0]
def SJ (O:Alg) (x:Ags O):O.M:=let u5:=(lq9 O 0);(O.b (O.i (O.i (O.i (O.m (x.I 0) (O.lit .u8 1)) O.j (O.m (O.lit .u8 3) (x.I 0))) O.j (O.m (O.lit .u8 3) (x.I 1))) O.j (O.m (O.lit .u8 10) (x.I 6))) (O.a [.int (lq9 O 3)]) (O.c (O.g 157 [] [.int (x.I 2),.int u5,.int (lq9 O 7)]) fun c0=>let u4:=(O.f (O.k c0 0));(O.c (O.b (O.f u4) (O.g 157 [] [.int (x.I 3),.int u5,.int (x.I 2)]) (O.a [.bool O.e])) fun c1=>let u3:=(O.i (O.i u4 O.j (O.f (O.k c1 0))) O.j (O.i (O.i (O.f (O.d (x.I 4) u5)) (O.f (O.d (x.I 4) (lq9 O 4))) O.e) (O.f (O.d (x.I 4) (lq9 O 6))) O.e));(O.c (O.b (O.f u3) (O.g 157 [] [.int (x.I 7),.int u5,.int (lq9 O 2)]) (O.a [.bool O.e])) fun c2=>let u2:=(O.i u3 O.j (O.f (O.k c2 0)));(O.c (O.b (O.f u2) (O.g 157 [] [.int (x.I 8),.int u5,.int (lq9 O 11)]) (O.a [.bool O.e])) fun c3=>let u1:=(O.i u2 O.j (O.f (O.k c3 0)));(O.c (O.b (O.f u1) (O.g 157 [] [.int (x.I 9),.int u5,.int (lq9 O 11)]) (O.a [.bool O.e])) fun c4=>let u0:=(O.i u1 O.j (O.f (O.k c4 0)));(O.c (O.b (O.f u0) (O.g 157 [] [.int (x.I 11),.int u5,.int (lq9 O 8)]) (O.a [.bool O.e])) fun c5=>(O.b (O.i u0 O.j (O.f (O.k c5 0))) (O.a [.int (lq9 O 2)]) (O.a [.int u5])))))))))
def Ti:Nat→Env:=eL [(157,VA)]
theorem iC {N ls}:Ti N 157 [] ls=VA N ls:=id rfl
def Mb:=oS lR SJ Ti
def mG:List Nat:=[0,0,0,0,1,0,0,0,0,0,0,0,1,0,0,0,0,1,0]
def SS (O:Alg) (x:Ags O):O.M:=let u5:=(lq9 O 1);let u4:=(lq9 O 0);(O.c (O.g 124 [] [.int (x.I 0)]) fun c0=>let u8:=(O.k c0 2);let u9:=(O.lit .u8 0);let u7:=(O.k c0 1);let u6:=(O.k c0 0);(O.b (O.f (O.k c0 7)) (O.a [.int (lq9 O 3)]) (O.b (O.i (O.i (O.i (O.i (O.i (O.i (O.i (O.f u6) (O.f (O.d (x.I 1) u4)) O.e) O.j (O.i (O.f u7) (O.f (O.d (x.I 2) u4)) O.e)) O.j (O.i (O.f u8) (O.f (O.d (x.I 3) u4)) O.e)) O.j (O.i (O.f (O.k c0 3)) (x.B 4) O.e)) O.j (O.i (O.f (O.k c0 4)) (O.f (O.d (x.I 5) u4)) O.e)) O.j (O.i (O.f (O.k c0 5)) (O.f (O.d (x.I 6) u4)) O.e)) O.j (O.i (O.f (O.k c0 6)) (O.f (O.x (O.d (x.I 7) u9) (O.x (O.d (x.I 8) u9) (O.x (O.d (x.I 9) u4) (O.x (O.d (x.I 10) u4) (O.x (O.d (x.I 11) u4) (O.x (O.aj (x.B 12) O.e) (O.x (O.d (x.I 13) u9) (O.x (O.d (x.I 14) u4) (O.x (O.d (x.I 15) u4) (O.x (O.d (x.I 16) u4) (O.x (O.aj (x.B 17) O.e) (O.d (x.I 18) u4))))))))))))) O.e)) (O.a [.int u5]) (O.c (O.g 125 [] [.int (x.I 0)]) fun c1=>(O.c (O.b u6 (O.g 126 [] [.int (x.I 1),.int u5,.int (lq9 O 2)]) (O.a [.bool O.e])) fun c2=>let u3:=(O.i u6 (O.f (O.k c2 0)) O.e);(O.c (O.b (O.x (O.f u3) u7) (O.g 126 [] [.int (x.I 2),.int u5,.int (lq9 O 11)]) (O.a [.bool O.e])) fun c3=>let u2:=(O.i u3 O.j (O.i u7 (O.f (O.k c3 0)) O.e));(O.c (O.b (O.x (O.f u2) u8) (O.g 126 [] [.int (x.I 3),.int u5,.int (lq9 O 11)]) (O.a [.bool O.e])) fun c4=>let u1:=(O.i u2 O.j (O.i u8 (O.f (O.k c4 0)) O.e));(O.c (O.b (O.x (O.f u1) (O.k c0 4)) (O.g 126 [] [.int (x.I 5),.int (O.h c1 0),.int (O.h c1 1)]) (O.a [.bool O.e])) fun c5=>let u0:=(O.i u1 O.j (O.i (O.k c0 4) (O.f (O.k c5 0)) O.e));(O.c (O.b (O.x (O.f u0) (O.k c0 5)) (O.g 126 [] [.int (x.I 6),.int u4,.int (lq9 O 90)]) (O.a [.bool O.e])) fun c6=>(O.b (O.i u0 O.j (O.i (O.k c0 5) (O.f (O.k c6 0)) O.e)) (O.a [.int (lq9 O 2)]) (O.b (O.k c0 6) (O.c (O.g 127 [] (xr x [0,0,0,0,0,1,0,0,0,0,1,0] 7)) fun c7=>(O.a [.int (O.h c7 0)])) (O.a [.int u4]))))))))))))
def GH:Nat→Env:=eL [(124,Kn),(125,P2),(126,Vh),(127,Mb)]
theorem YU {N ls}:GH N 124 [] ls=Kn N ls:=id rfl
theorem bU {N ls}:GH N 125 [] ls=P2 N ls:=id rfl
theorem gh {N ls}:GH N 126 [] ls=Vh N ls:=id rfl
theorem Zf {N ls}:GH N 127 [] ls=Mb N ls:=id rfl
def Ji:=oS mG SS GH
def lU:List Nat:=[2,0,0,0,0,0,0,0,1,0,0,0,0,3,0,0,1,3,0,0,0,0,0,0]
def SB (O:Alg) (x:Ags O):O.M:=(O.c (O.w (fun s0 c0=>let u2:=(O.h c0 0);let u1:=(O.h c0 1);let u0:=(O.p .i64 u1 (lq9 O 1));(O.b (O.m u1 (O.l (x.L 17))) (O.n (O.r u1 (O.l (x.L 17))) (O.b (O.d (O.q (x.L 17) u1 0) (x.I 23)) (s0 [.int (O.p .i64 u2 (O.q (x.L 17) u1 3)),.int u0]) (s0 [.int u2,.int u0]))) (O.a [.int u2]))) [.int (lq9 O 0),.int (lq9 O 0)]) fun c0=>(O.a [.int (O.h c0 0)]))
def eB:Nat→Env:=eL []
def FO:=oS lU SB eB
def cq:List Nat:=[2,0,0,0,0,0,0,0,1,0,0,0,0,3,0,0,1,3,0,0,0,0,0]
def PL (O:Alg) (x:Ags O):O.M:=let u0:=(O.s .i64 (O.l (x.L 17)) (lq9 O 1));(O.n (O.r u0 (O.l (x.L 17))) (O.a (rr O (x.L 17) u0 kI 0)))
def LN (N:Nat):Env:=fun f fns ls=>none
def Dh:=oS cq PL LN
def Tj:List Nat:=[2,0,0,0,0,0,0,0,1,0,0,0,0,3,0,0,1,3,0,0,0,0,0]
def JW (O:Alg) (x:Ags O):O.M:=(O.c (O.g 102 [] (xr x kM 0)) fun c0=>(O.b (O.f (O.k c0 0)) (O.a [.int (lq9 O 0)]) (O.b (O.d (x.I 14) (O.lit .u8 3)) (O.c (O.g 105 [] (xr x kM 0)) fun c1=>(O.a [.int (O.h c1 0)])) (O.b (O.d (x.I 14) (O.lit .u8 2)) (O.c (O.g 156 [] (ap O (xr x kM 0) [.int (O.l (x.L 17))])) fun c1=>(O.a [.int (O.h c1 0)])) (O.a [.int (lq9 O 0)])))))
def C1 (N:Nat):Env:=fun f fns ls=>(cond (Nat.beq f 102&&AF fns []) (FP N ls) (cond (Nat.beq f 105&&AF fns []) (Dh N ls) (cond (Nat.beq f 156&&AF fns []) (Fu N ls) none)))
theorem Wg {N ls}:C1 N 102 [] ls=FP N ls:=id rfl
theorem Mm {N ls}:C1 N 105 [] ls=Dh N ls:=id rfl
theorem LO {N ls}:C1 N 156 [] ls=Fu N ls:=id rfl
def JR:=oS Tj JW C1
def lG:List Nat:=[2,0,0,0,0,0,0,0,1,0,0,0,0,3,0,0,0]
def SI (O:Alg) (x:Ags O):O.M:=let u5:=(lq9 O 0);let u4:=(lq9 O 1000000);(O.c (O.g 80 [] (xr x kR 0)) fun c0=>(O.b (O.f (O.d (O.h c0 0) u5)) (O.a [.int u5,.int u5,.int u5,.int u5,.int u5,.int u5,.int u5,.int u5,.int u5,.int u5,.int u5,.int u5,.int u5,.int u5,.rows O.u,.int u5,.rows O.u,.rows O.u,.bool O.e,.rows O.u,.bool O.e,.int u5,.int u5,.int u5,.rows O.u,.int u5,.int u5,.int (O.lit .u8 0),.int (O.h c0 0)]) (O.c (O.g 179 [] [.int (x.I 14),.int (lq9 O 1),.int (lq9 O 2)]) fun c1=>let u3:=(O.f (O.k c1 0));(O.c (O.b (O.f u3) (O.g 179 [] [.int (x.I 15),.int u5,.int u4]) (O.a [.bool O.e])) fun c2=>let u0:=(O.i u3 O.j (O.f (O.k c2 0)));(O.c (O.b (O.f u0) (O.g 179 [] [.int (x.I 16),.int u5,.int u4]) (O.a [.bool O.e])) fun c3=>(O.b (O.i u0 O.j (O.f (O.k c3 0))) (O.a [.int u5,.int u5,.int u5,.int u5,.int u5,.int u5,.int u5,.int u5,.int u5,.int u5,.int u5,.int u5,.int u5,.int u5,.rows O.u,.int u5,.rows O.u,.rows O.u,.bool O.e,.rows O.u,.bool O.e,.int u5,.int u5,.int u5,.rows O.u,.int u5,.int u5,.int (O.lit .u8 0),.int (lq9 O 2)]) (O.c (O.w (fun s4 c4=>let u2:=(O.ac (O.o c4 25) (O.ab [[.bool O.e]]));let u1:=(O.ac (O.o c4 20) (O.ab [[.int u5]]));(O.b (O.m (O.h c4 0) (x.I 1)) (O.n (O.z (O.l (O.ac (O.o c4 15) (O.ab [[.int (O.lit .u8 0)]]))) 1) (O.n (O.z (O.l u1) 8) (O.n (O.z (O.l u2) 1) (s4 (ap O [.int (O.p .i64 (O.h c4 0) (lq9 O 1))] (ap O (cr O c4 [0,0,0,0,0,0,0,0,0,0,0,0,0,0] 1) (ap O [.rows (O.ac (O.o c4 15) (O.ab [[.int (O.lit .u8 0)]]))] (ap O (cr O c4 [0,3,3,1] 16) (ap O [.rows u1] (ap O (cr O c4 [1,0,0,0] 21) (ap O [.rows u2] (cr O c4 [0,0,0] 26)))))))))))) (O.a (cr O c4 kI 1)))) [.int u5,.int (x.I 14),.int (x.I 15),.int (x.I 3),.int (x.I 16),.int u5,.int u5,.int u5,.int u5,.int u5,.int (x.I 16),.int u5,.int u5,.int u5,.int u5,.rows O.u,.int u5,.rows O.u,.rows O.u,.bool O.e,.rows O.u,.bool O.e,.int u5,.int u5,.int u5,.rows O.u,.int u5,.int u5,.int (O.lit .u8 0)]) fun c4=>(O.a (ap O (cr O c4 kI 0) [.int u5])))))))))
def M5:Nat→Env:=eL [(80,Am),(179,Fh)]
theorem ZO {N ls}:M5 N 80 [] ls=Am N ls:=id rfl
theorem iM {N ls}:M5 N 179 [] ls=Fh N ls:=id rfl
def Rl:=oS lG SI M5
def dl:List Nat:=[0,0,0,0,0,0,0,0,0,0,0,0,0,0,3,0,3,3,1,3,1,0,0,0,3,0,0,0]
def Nd (O:Alg) (x:Ags O):O.M:=(O.c (O.g 122 [] (xr x kI 0)) fun c0=>(O.a (ap O (cr O c0 [0,0,0] 0) (ap O [.int (O.p .i64 (O.h c0 3) (lq9 O 5))] (ap O (cr O c0 [0,0,0,0,0] 4) (ap O [.int (O.p .i64 (O.h c0 9) (lq9 O 5))] (cr O c0 [0,0,0,0,3,0,3,3,1,3,1,0,0,0,3,0,0,0] 10)))))))
def PI:Nat→Env:=eL [(122,DV)]
theorem Wt {N ls}:PI N 122 [] ls=DV N ls:=id rfl
def GQ:=oS dl Nd PI
def iy:List Nat:=[0,0,0,0,0,0,0,0,0,0,0,0,0,0,3,0,3,3,1,3,1,0,0,0,3,0,0,0,0]
def PO (O:Alg) (x:Ags O):O.M:=(O.a [.bool (O.i (O.t (lq9 O 1) (x.I 28)) (O.t (x.I 28) (O.l (x.L 14))) O.e)])
def Zw:Nat→Env:=eL []
def Bo:=oS iy PO Zw
def oa:List Nat:=[0,0,0,0,0,0,0,0,0,0,0,0,0,0,3,0,3,3,1,3,1,0,0,0,3,0,0,0,0,0]
def Ug (O:Alg) (x:Ags O):O.M:=let u3:=(lq9 O 1);let u1:=(O.s .i64 (x.I 29) u3);let u0:=(O.s .i64 (x.I 28) u3);(O.c (O.g 154 [] (xr x kI 0)) fun c0=>let u4:=(O.o c0 14);(O.c (O.g 182 [] (cr O c0 kI 0)) fun c1=>(O.b (O.k c1 0) (O.a (ap O (cr O c0 kI 0) [.int u3])) (O.c (O.g 226 [] (ap O (cr O c0 kI 0) [.int (x.I 28)])) fun c2=>let u2:=(O.f (O.k c2 0));(O.c (O.b (O.f u2) (O.g 226 [] (ap O (cr O c0 kI 0) [.int (x.I 29)])) (O.a [.bool O.e])) fun c3=>(O.b (O.i u2 O.j (O.f (O.k c3 0))) (O.a (ap O (cr O c0 kI 0) [.int (lq9 O 3)])) (O.b (O.d (x.I 28) (x.I 29)) (O.a (ap O (cr O c0 kI 0) [.int (lq9 O 4)])) (O.n (O.r u0 (O.l u4)) (O.n (O.r u1 (O.l (O.y u4 u0 0 [.int (O.lit .u8 1)]))) (O.a (ap O (cr O c0 [0,0,0,0,0,0,0,0,0,0,0,0] 0) (ap O [.int (x.I 28),.int (x.I 29),.rows (O.y (O.y u4 u0 0 [.int (O.lit .u8 1)]) u1 0 [.int (O.lit .u8 1)])] (ap O (cr O c0 [0,3,3,1,3,1,0,0,0,3,0,0,0] 15) [.int (lq9 O 0)])))))))))))))
def K3:Nat→Env:=eL [(154,AQ),(182,Bq),(226,Bo)]
theorem bI {N ls}:K3 N 154 [] ls=AQ N ls:=id rfl
theorem cK {N ls}:K3 N 182 [] ls=Bq N ls:=id rfl
theorem aP {N ls}:K3 N 226 [] ls=Bo N ls:=id rfl
def UP:=oS oa Ug K3
def Z6:List Nat:=[0,0,0,0,0,0,0,0,0,0,0,0,0,0,3,0,3,3,1,3,1,0,0,0,3,0,0,0,0]
def LV (O:Alg) (x:Ags O):O.M:=let u1:=(O.s .i64 (x.I 28) (lq9 O 1));let u0:=(O.i (O.t (lq9 O 1) (x.I 28)) (O.t (x.I 28) (O.l (x.L 24))) O.e);(O.n (O.f (O.x u0 (O.f (O.r u1 (O.l (x.L 24)))))) (O.a [.bool (O.i u0 (O.rB (x.L 24) u1 0) O.e)]))
def WW:Nat→Env:=eL []
def A7:=oS Z6 LV WW
def fq:List Nat:=[0,0,0,0,0,0,0,0,0,0,0,0,0,0,3,0,3,3,1,3,1,0,0,0,3,0,0,0,0]
def PU (O:Alg) (x:Ags O):O.M:=(O.a [.bool (O.i (O.t (lq9 O 1) (x.I 28)) (O.t (x.I 28) (O.l (x.L 19))) O.e)])
def Z4:Nat→Env:=eL []
def Co:=oS fq PU Z4
def qe:List Nat:=[2,0,0,0,0,0,0,0,1,0,0,0,0,3,0,0,0,0,0,0,0,0,0,0,0,0,0,0,3,0,3,3,1,3,1,0,0,0,3,0,0,0,0]
def U0 (O:Alg) (x:Ags O):O.M:=let u4:=(lq9 O 0);let u3:=(O.s .i64 (x.I 42) (lq9 O 1));let u1:=(O.q (x.L 33) u3 0);let u0:=(O.s .i64 (O.af .i64 (x.I 5) (x.I 4)) (O.ae (O.m u1 u4) u4 u1));(O.c (O.g 80 [] (xr x kR 0)) fun c0=>let u2:=(O.f (O.d (O.h c0 0) u4));(O.c (O.b (O.f u2) (O.g 255 [] (xr x [0,0,0,0,0,0,0,0,0,0,0,0,0,0,3,0,3,3,1,3,1,0,0,0,3,0,0,0,0] 14)) (O.a [.bool O.e])) fun c1=>(O.b (O.i u2 O.j (O.f (O.k c1 0))) (O.a [.int u4]) (O.b (O.d (x.I 5) u4) (O.a [.int (lq9 O (-1))]) (O.n (O.r u3 (O.l (x.L 33))) (O.a [.int (O.ae (O.m u0 u4) u4 u0)]))))))
def QN:Nat→Env:=eL [(80,Am),(255,Co)]
theorem bP {N ls}:QN N 80 [] ls=Am N ls:=id rfl
theorem aJ {N ls}:QN N 255 [] ls=Co N ls:=id rfl
def PQ:=oS qe U0 QN
def tP:List Nat:=[3,0]
def W4 (O:Alg) (x:Ags O):O.M:=(O.c (O.w (fun s0 c0=>let u0:=(O.h c0 0);(O.b (O.m u0 (O.l (x.L 0))) (O.n (O.r u0 (O.l (x.L 0))) (O.b (O.d (O.q (x.L 0) u0 0) (x.I 1)) (O.a [.int (lq9 O 0),.bool O.j]) (s0 [.int (O.p .i64 u0 (lq9 O 1))]))) (O.a [.int (lq9 O 1)]))) [.int (lq9 O 0)]) fun c0=>(O.b (O.aa c0 0) (O.a [.bool (O.k c0 1)]) (O.a [.bool O.e])))
def kU:Nat→Env:=eL []
def IU:=oS tP W4 kU
def tD:List Nat:=[2,0,0,0,0,0,0,0,1,0,0,0,0,3,0,0,0,0,0,0,0,0,0,0,0,0,0,0,3,0,3,3,1,3,1,0,0,0,3,0,0,0,0]
def XH (O:Alg) (x:Ags O):O.M:=let u2:=(lq9 O 0);let u0:=(O.i (O.d (x.I 42) (x.I 36)) O.j (O.d (x.I 42) (x.I 29)));(O.c (O.g 80 [] (xr x kR 0)) fun c0=>let u1:=(O.f (O.d (O.h c0 0) u2));(O.c (O.b (O.f u1) (O.g 255 [] (xr x [0,0,0,0,0,0,0,0,0,0,0,0,0,0,3,0,3,3,1,3,1,0,0,0,3,0,0,0,0] 14)) (O.a [.bool O.e])) fun c1=>(O.b (O.i u1 O.j (O.f (O.k c1 0))) (O.a [.int (lq9 O 3)]) (O.c (O.g 256 [] (xr x [2,0,0,0,0,0,0,0,1,0,0,0,0,3,0,0,0,0,0,0,0,0,0,0,0,0,0,0,3,0,3,3,1,3,1,0,0,0,3,0,0,0,0] 0)) fun c2=>(O.c (O.b (O.f u0) (O.g 237 [] (xr x [0,0,0,0,0,0,0,0,0,0,0,0,0,0,3,0,3,3,1,3,1,0,0,0,3,0,0,0,0] 14)) (O.a [.bool O.e])) fun c3=>(O.b (O.i u0 O.j (O.k c3 0)) (O.a [.int (lq9 O 7)]) (O.c (O.g 257 [] [.rows (x.L 31),.int (x.I 42)]) fun c4=>(O.b (O.k c4 0) (O.a [.int (lq9 O 8)]) (O.b (O.i (O.t u2 (O.h c2 0)) (O.m (x.I 25) (O.s .i64 (x.I 4) (O.h c2 0))) O.e) (O.a [.int (lq9 O 9)]) (O.a [.int u2]))))))))))
def HA:Nat→Env:=eL [(80,Am),(237,A7),(255,Co),(256,PQ),(257,IU)]
theorem fA {N ls}:HA N 80 [] ls=Am N ls:=id rfl
theorem YG {N ls}:HA N 237 [] ls=A7 N ls:=id rfl
theorem cJ {N ls}:HA N 255 [] ls=Co N ls:=id rfl
theorem fV {N ls}:HA N 256 [] ls=PQ N ls:=id rfl
theorem j9 {N ls}:HA N 257 [] ls=IU N ls:=id rfl
def Sb:=oS tD XH HA
def oT:List Nat:=[2,0,0,0,0,0,0,0,1,0,0,0,0,3,0,0,0,0,0,0,0,0,0,0,0,0,0,0,3,0,3,3,1,3,1,0,0,0,3,0,0,0,0]
def Ul (O:Alg) (x:Ags O):O.M:=(O.c (O.g 154 [] (xr x kI 14)) fun c0=>(O.c (O.g 227 [] (ap O (xr x kR 0) (ap O (cr O c0 kI 0) [.int (x.I 42)]))) fun c1=>let u0:=(O.h c1 0);(O.b (O.d u0 (lq9 O 0)) (O.a (ap O (cr O c0 [0,0,0,0,0,0,0,0,0,0,0,0,0,0,3] 0) (ap O [.int (x.I 42)] (ap O (cr O c0 [3,3,1,3,1,0,0,0,3,0,0,0] 16) [.int u0])))) (O.a (ap O (cr O c0 kI 0) [.int u0])))))
def QR:Nat→Env:=eL [(154,AQ),(227,Sb)]
theorem bi {N ls}:QR N 154 [] ls=AQ N ls:=id rfl
theorem fT {N ls}:QR N 227 [] ls=Sb N ls:=id rfl
def Us:=oS oT Ul QR
def xD:List Nat:=[0,0,0]
def mO (O:Alg) (x:Ags O):O.M:=(O.a [.bool (O.i (O.t (x.I 1) (x.I 0)) (O.t (x.I 0) (x.I 2)) O.e)])
def qi:Nat→Env:=eL []
def Ve:=oS xD mO qi
def Zx:List Nat:=[0,0,0,0,0,1,0,0,0,0,1,0]
def L5 (O:Alg) (x:Ags O):O.M:=let u3:=(lq9 O 0);let u2:=(O.d (x.I 4) u3);let u1:=(O.d (x.I 2) u3);let u0:=(O.d (x.I 4) (lq9 O 6));(O.b (O.d (x.I 0) (O.lit .u8 2)) (O.a [.bool (O.i (O.d (x.I 1) (O.lit .u8 0)) (O.f u0) O.e)]) (O.b (O.d (x.I 1) (O.lit .u8 0)) (O.a [.bool (O.i u1 u2 O.e)]) (O.b u2 (O.a [.bool (O.m u3 (x.I 2))]) (O.b u0 (O.a [.bool (O.i (O.d (x.I 1) (O.lit .u8 1)) u1 O.e)]) (O.a [.bool O.j])))))
def WS:Nat→Env:=eL []
def Hv:=oS Zx L5 WS
def kd:List Nat:=[0,0,0,0,0,1,0,0,0,0,1,0]
def SU (O:Alg) (x:Ags O):O.M:=let u3:=(lq9 O 0);let u2:=(lq9 O 11);let u0:=(O.f (O.d (x.I 4) u3));(O.c (O.b (O.f (O.i (O.i (O.i (O.m (x.I 0) (O.lit .u8 1)) O.j (O.m (O.lit .u8 3) (x.I 0))) O.j (O.m (O.lit .u8 3) (x.I 1))) O.j (O.m (O.lit .u8 10) (x.I 6)))) (O.g 133 [] [.int (x.I 11),.int u3,.int (lq9 O 8)]) (O.a [.bool O.e])) fun c0=>(O.b (O.i (O.i (O.i (O.i (O.m (x.I 0) (O.lit .u8 1)) O.j (O.m (O.lit .u8 3) (x.I 0))) O.j (O.m (O.lit .u8 3) (x.I 1))) O.j (O.m (O.lit .u8 10) (x.I 6))) O.j (O.f (O.k c0 0))) (O.a [.int u2]) (O.c (O.g 133 [] [.int (x.I 2),.int u3,.int (lq9 O 7)]) fun c1=>let u1:=(O.f (O.k c1 0));(O.c (O.b (O.f u1) (O.g 133 [] [.int (x.I 3),.int u3,.int (x.I 2)]) (O.a [.bool O.e])) fun c2=>(O.b (O.i (O.i u1 O.j (O.f (O.k c2 0))) O.j (O.i (O.i u0 (O.f (O.d (x.I 4) (lq9 O 4))) O.e) (O.f (O.d (x.I 4) (lq9 O 6))) O.e)) (O.a [.int (lq9 O 12)]) (O.c (O.g 134 [] (xr x [0,0,0,0,0,1,0,0,0,0,1,0] 0)) fun c3=>(O.b (O.f (O.k c3 0)) (O.a [.int u2]) (O.b (O.i (O.i (O.f (O.d (x.I 11) u3)) (O.f (O.d (x.I 1) (O.lit .u8 1))) O.e) (O.f (O.d (x.I 6) (O.lit .u8 2))) O.e) (O.a [.int u2]) (O.b (O.i u0 (O.f (O.d (x.I 6) (O.lit .u8 0))) O.e) (O.a [.int u2]) (O.b (O.i (O.i (x.B 5) (O.f (O.d (x.I 6) (O.lit .u8 6))) O.e) (O.f (O.d (x.I 6) (O.lit .u8 8))) O.e) (O.a [.int u2]) (O.a [.int u3])))))))))))
def Nk:Nat→Env:=eL [(133,Ve),(134,Hv)]
theorem iz {N ls}:Nk N 133 [] ls=Ve N ls:=id rfl
theorem Vb {N ls}:Nk N 134 [] ls=Hv N ls:=id rfl
def HH:=oS kd SU Nk
def Z5:List Nat:=[0]
def Lx (O:Alg) (x:Ags O):O.M:=(O.b (O.d (x.I 0) (O.lit .u8 1)) (O.b (O.d (x.I 0) (O.lit .u8 1)) (O.a [.bool O.j]) (O.a [.bool O.e])) (O.b (O.d (x.I 0) (O.lit .u8 2)) (O.b (O.d (x.I 0) (O.lit .u8 2)) (O.a [.bool O.j]) (O.a [.bool O.e])) (O.b (O.d (x.I 0) (O.lit .u8 3)) (O.b (O.d (x.I 0) (O.lit .u8 3)) (O.a [.bool O.j]) (O.a [.bool O.e])) (O.b (O.d (x.I 0) (O.lit .u8 4)) (O.b (O.d (x.I 0) (O.lit .u8 4)) (O.a [.bool O.j]) (O.a [.bool O.e])) (O.b (O.d (x.I 0) (O.lit .u8 5)) (O.a [.bool O.j]) (O.a [.bool O.e]))))))
def WN:Nat→Env:=eL []
def Ha:=oS Z5 Lx WN
def mA:List Nat:=[0,0,0,0,0,1,0,0,0,0,1,0]
def R0 (O:Alg) (x:Ags O):O.M:=(O.a [.bool (O.f (O.aj (O.f (O.d (O.al .i64 (x.I 2) (lq9 O 2)) (lq9 O 0))) (x.B 5)))])
def eI:Nat→Env:=eL []
def Mo:=oS mA R0 eI
def gz:List Nat:=[2,0,0,0,0,0,0,0,1,0,0,0,0,3,0,0,0,0,0,1,0,0,0,0,1,0]
def P8 (O:Alg) (x:Ags O):O.M:=let u1:=(lq9 O 0);let u0:=(O.p .i64 (O.s .i64 (x.I 16) (x.I 17)) (x.I 18));(O.c (O.g 107 [] (xr x [0,0,0,0,0,1,0,0,0,0,1,0] 14)) fun c0=>(O.b (O.f (O.d (O.h c0 0) u1)) (O.a [.int u1,.int u1,.int u1,.int u1,.int u1,.int u1,.bool O.e,.bool O.e,.bool O.e,.bool O.e]) (O.c (O.g 108 [] [.int (x.I 20)]) fun c1=>let u2:=(O.k c1 0);(O.c (O.g 109 [] (xr x [0,0,0,0,0,1,0,0,0,0,1,0] 14)) fun c2=>let u3:=(O.k c2 0);(O.c (O.b (O.d (x.I 14) (O.lit .u8 2)) (O.a [.int u1,.int (O.p .i64 (x.I 6) u0),.int u1,.int u1,.int u1,.int u1,.bool (O.d (x.I 14) (O.lit .u8 1)),.bool (O.f (O.d (x.I 14) (O.lit .u8 2))),.bool u2,.bool u3]) (O.b (O.d (x.I 15) (O.lit .u8 1)) (O.a [.int u0,.int u1,.int u1,.int u1,.int u1,.int u1,.bool (O.d (x.I 14) (O.lit .u8 1)),.bool (O.f (O.d (x.I 14) (O.lit .u8 2))),.bool u2,.bool u3]) (O.b (O.d (x.I 15) (O.lit .u8 2)) (O.a [.int u1,.int u1,.int u1,.int u0,.int u1,.int u1,.bool (O.d (x.I 14) (O.lit .u8 1)),.bool (O.f (O.d (x.I 14) (O.lit .u8 2))),.bool u2,.bool u3]) (O.b (O.d (x.I 15) (O.lit .u8 3)) (O.a [.int u1,.int u1,.int u1,.int u1,.int u0,.int u1,.bool (O.d (x.I 14) (O.lit .u8 1)),.bool (O.f (O.d (x.I 14) (O.lit .u8 2))),.bool u2,.bool u3]) (O.a [.int u1,.int u1,.int u1,.int u1,.int u1,.int u1,.bool (O.d (x.I 14) (O.lit .u8 1)),.bool (O.f (O.d (x.I 14) (O.lit .u8 2))),.bool u2,.bool u3]))))) fun c3=>(O.c (O.b (O.d (x.I 14) (O.lit .u8 3)) (O.a (ap O [.int (O.h c3 0),.int (O.h c3 1),.int (x.I 7)] (cr O c3 [0,0,0,1,1,1,1] 3))) (O.a (cr O c3 [0,0,0,0,0,0,1,1,1,1] 0))) fun c4=>(O.a (ap O (cr O c4 [0,0,0,0,0] 0) (ap O [.int (O.p .i64 (O.p .i64 (O.h c4 0) (O.h c4 1)) (O.h c4 2))] (cr O c4 [1,1,1,1] 6))))))))))
def Hr:Nat→Env:=eL [(107,HH),(108,Ha),(109,Mo)]
theorem X8 {N ls}:Hr N 107 [] ls=HH N ls:=id rfl
theorem Uc {N ls}:Hr N 108 [] ls=Ha N ls:=id rfl
theorem Yz {N ls}:Hr N 109 [] ls=Mo N ls:=id rfl
def Hb:=oS gz P8 Hr
def iT:List Nat:=[0,0,0,0,0,0,0,0,0,0,0,0,0,0,3,0,3,3,1,3,1,0,0,0,3,0,0,0]
def H2 (O:Alg) (x:Ags O):O.M:=(O.c (O.g 182 [] (xr x kI 0)) fun c0=>(O.a [.bool (O.i (O.k c0 0) (O.i (O.d (x.I 12) (lq9 O 0)) O.j (O.d (x.I 13) (lq9 O 0))) O.e)]))
def Hz:Nat→Env:=eL [(182,Bq)]
theorem YZ {N ls}:Hz N 182 [] ls=Bq N ls:=id rfl
def Cj:=oS iT H2 Hz
def gI:List Nat:=[0,0,0,0,0,0,0,0,0,0,0,0,0,0,3,0,3,3,1,3,1,0,0,0,3,0,0,0,0]
def QW (O:Alg) (x:Ags O):O.M:=(O.a [.bool (O.i (O.t (lq9 O 1) (x.I 28)) (O.t (x.I 28) (O.l (x.L 24))) O.e)])
def Zi:Nat→Env:=eL []
def Bp:=oS gI QW Zi
def eN:List Nat:=[2,0,0,0,0,0,0,0,1,0,0,0,0,3,0]
def NF (O:Alg) (x:Ags O):O.M:=let u1:=(lq9 O 1);let u0:=(O.p .i64 (x.I 14) u1);(O.c (O.w (fun s0 c0=>let u2:=(O.h c0 0);(O.b (O.m u2 (O.l (x.L 13))) (O.n (O.r u2 (O.l (x.L 13))) (O.b (O.i (O.t (O.q (x.L 13) u2 0) u0) (O.t u0 (O.q (x.L 13) u2 1)) O.e) (O.a [.int (lq9 O 0),.int (O.q (x.L 13) u2 2)]) (s0 [.int (O.p .i64 u2 u1)]))) (O.a [.int u1]))) [.int (lq9 O 0)]) fun c0=>(O.b (O.aa c0 0) (O.a [.int (O.h c0 1)]) (O.a [.int (x.I 12)])))
def XT:Nat→Env:=eL []
def JV:=oS eN NF XT
def kJ:List Nat:=[2,0,0,0,0,0,0,0,1,0,0,0,0,3,0,0,0,0,0,0,0,0,0,0,0,0,0,0,3,0,3,3,1,3,1,0,0,0,3,0,0,0]
def R8 (O:Alg) (x:Ags O):O.M:=(O.c (O.g 236 [] (ap O (xr x kI 14) [.int (x.I 36)])) fun c0=>let u0:=(O.f (O.k c0 0));(O.c (O.b (O.f u0) (O.g 237 [] (ap O (xr x kI 14) [.int (x.I 36)])) (O.a [.bool O.e])) fun c1=>(O.b (O.i (O.i u0 O.j (O.k c1 0)) O.j (O.d (x.I 36) (x.I 29))) (O.a [.int (lq9 O 17)]) (O.c (O.g 258 [] (ap O (xr x kR 0) [.int (x.I 24)])) fun c2=>(O.b (O.m (O.h c2 0) (x.I 37)) (O.a [.int (lq9 O 16)]) (O.a [.int (lq9 O 0)]))))))
def JI:Nat→Env:=eL [(236,Bp),(237,A7),(258,JV)]
theorem YT {N ls}:JI N 236 [] ls=Bp N ls:=id rfl
theorem V4 {N ls}:JI N 237 [] ls=A7 N ls:=id rfl
theorem Wh {N ls}:JI N 258 [] ls=JV N ls:=id rfl
def R1:=oS kJ R8 JI
def aQ:List Nat:=[0]
def Lr (O:Alg) (x:Ags O):O.M:=(O.a [.bool (O.i (O.i (O.d (x.I 0) (O.lit .u8 2)) O.j (O.d (x.I 0) (O.lit .u8 4))) O.j (O.d (x.I 0) (O.lit .u8 6))),.bool (O.i (O.i (O.d (x.I 0) (O.lit .u8 2)) O.j (O.d (x.I 0) (O.lit .u8 4))) O.j (O.d (x.I 0) (O.lit .u8 6))),.bool (O.d (x.I 0) (O.lit .u8 6))])
def Wa:Nat→Env:=eL []
def H4:=oS aQ Lr Wa
def wo:List Nat:=[0,0]
def dQ (O:Alg) (x:Ags O):O.M:=(O.c (O.b (O.d (x.I 0) (O.lit .u8 1)) (O.a [.bool (O.d (x.I 0) (O.lit .u8 1))]) (O.b (O.d (x.I 0) (O.lit .u8 2)) (O.a [.bool (O.d (x.I 0) (O.lit .u8 2))]) (O.a [.bool (O.d (x.I 0) (O.lit .u8 3))]))) fun c0=>(O.b (O.k c0 0) (O.a [.bool (O.d (x.I 1) (O.lit .u8 1))]) (O.c (O.b (O.d (x.I 0) (O.lit .u8 4)) (O.a [.bool (O.d (x.I 0) (O.lit .u8 4))]) (O.a [.bool (O.d (x.I 0) (O.lit .u8 5))])) fun c1=>(O.b (O.k c1 0) (O.a [.bool (O.i (O.d (x.I 1) (O.lit .u8 1)) O.j (O.d (x.I 1) (O.lit .u8 2)))]) (O.b (O.d (x.I 0) (O.lit .u8 7)) (O.a [.bool (O.i (O.d (x.I 1) (O.lit .u8 1)) O.j (O.d (x.I 1) (O.lit .u8 3)))]) (O.c (O.b (O.d (x.I 0) (O.lit .u8 6)) (O.a [.bool (O.d (x.I 0) (O.lit .u8 6))]) (O.a [.bool (O.d (x.I 0) (O.lit .u8 8))])) fun c2=>(O.b (O.k c2 0) (O.a [.bool (O.i (O.i (O.d (x.I 1) (O.lit .u8 1)) O.j (O.d (x.I 1) (O.lit .u8 2))) O.j (O.d (x.I 1) (O.lit .u8 3)))]) (O.a [.bool O.e]))))))))
def oX:Nat→Env:=eL []
def V2:=oS wo dQ oX
def fg:List Nat:=[0]
def Pv (O:Alg) (x:Ags O):O.M:=(O.a [.bool (O.i (O.i (O.d (x.I 0) (O.lit .u8 6)) O.j (O.d (x.I 0) (O.lit .u8 7))) O.j (O.d (x.I 0) (O.lit .u8 8)))])
def Zl:Nat→Env:=eL []
def LF:=oS fg Pv Zl
def ZR:List Nat:=[0,0,0,0,0,1,0,0,0,0,1,0,1]
def Ld (O:Alg) (x:Ags O):O.M:=let u5:=(lq9 O 1);let u4:=(lq9 O 0);let u3:=(lq9 O 15);let u1:=(O.f (O.d (x.I 9) u4));let u0:=(O.f (O.d (x.I 8) u4));(O.b (O.d (x.I 6) (O.lit .u8 0)) (O.b (O.f (O.d (x.I 7) u4)) (O.a [.int (lq9 O 14)]) (O.b (O.i (O.i u0 O.j u1) O.j (x.B 10)) (O.a [.int u3]) (O.a [.int u4]))) (O.c (O.g 259 [] [.int (x.I 6)]) fun c0=>(O.c (O.g 260 [] [.int (x.I 6),.int (x.I 0)]) fun c1=>let u2:=(O.f (O.k c1 0));(O.c (O.b (O.x (O.f u2) (x.B 12)) (O.g 261 [] [.int (x.I 6)]) (O.a [.bool O.e])) fun c2=>(O.b (O.i u2 O.j (O.i (x.B 12) (O.f (O.k c2 0)) O.e)) (O.a [.int (lq9 O 13)]) (O.b (O.i (O.f (O.i (O.d (x.I 6) (O.lit .u8 6)) O.j (O.d (x.I 6) (O.lit .u8 8)))) (O.i (O.f (O.d (x.I 1) (O.lit .u8 0))) O.j (O.f (O.d (x.I 2) u4))) O.e) (O.a [.int (lq9 O 12)]) (O.b (O.i (O.f (O.d (x.I 7) u5)) (O.f (O.i (O.d (x.I 7) (lq9 O 2)) (O.i (O.d (x.I 6) (O.lit .u8 6)) O.j (O.d (x.I 6) (O.lit .u8 8))) O.e)) O.e) (O.a [.int (lq9 O 14)]) (O.b (O.i (O.i (O.k c0 0) (O.i (O.m (x.I 8) u5) O.j (O.m (lq9 O 11) (x.I 8))) O.e) O.j (O.i (O.f (O.k c0 0)) u0 O.e)) (O.a [.int u3]) (O.b (O.i u1 (O.i (O.i (O.i (O.f (O.k c0 2)) O.j (O.m (x.I 9) u5)) O.j (O.m (lq9 O 11) (x.I 9))) O.j (O.d (x.I 9) (x.I 8))) O.e) (O.a [.int u3]) (O.b (O.i (O.i (x.B 10) (O.f (O.d (x.I 6) (O.lit .u8 2))) O.e) (O.f (O.d (x.I 6) (O.lit .u8 6))) O.e) (O.a [.int (lq9 O 18)]) (O.a [.int u4])))))))))))
def Fl:Nat→Env:=eL [(259,H4),(260,V2),(261,LF)]
theorem Sz {N ls}:Fl N 259 [] ls=H4 N ls:=id rfl
theorem ZN {N ls}:Fl N 260 [] ls=V2 N ls:=id rfl
theorem UJ {N ls}:Fl N 261 [] ls=LF N ls:=id rfl
def Lk:=oS ZR Ld Fl
def kq:List Nat:=[0,0,0,0,0,0,0,0,0,0,0,0,0,0,3,0,3,3,1,3,1,0,0,0,3,0,0,0,0,0,0,0,0,1,0,0,0,0,1,0]
def Ru (O:Alg) (x:Ags O):O.M:=let u1:=(lq9 O 1);let u0:=(lq9 O 0);(O.c (O.b (O.m u0 (x.I 36)) (O.c (O.g 236 [] (ap O (xr x kI 0) [.int (x.I 36)])) fun c0=>(O.b (O.f (O.k c0 0)) (O.a [.int u1,.int (lq9 O 3)]) (O.c (O.g 237 [] (ap O (xr x kI 0) [.int (x.I 36)])) fun c1=>(O.b (O.f (O.aj (O.k c1 0) (x.B 38))) (O.a [.int u1,.int (lq9 O 18)]) (O.a [.int u0]))))) (O.a [.int u0])) fun c0=>(O.b (O.aa c0 0) (O.c (O.b (O.m u0 (x.I 37)) (O.c (O.g 236 [] (ap O (xr x kI 0) [.int (x.I 37)])) fun c1=>(O.b (O.f (O.k c1 0)) (O.a [.int u1,.int (lq9 O 3)]) (O.c (O.g 237 [] (ap O (xr x kI 0) [.int (x.I 37)])) fun c2=>(O.b (O.k c2 0) (O.a [.int u1,.int (lq9 O 18)]) (O.a [.int u0]))))) (O.a [.int u0])) fun c1=>(O.b (O.aa c1 0) (O.b (O.i (O.d (x.I 34) (O.lit .u8 4)) (O.f (O.d (O.ae (O.m (x.I 36) u0) u0 (x.I 36)) (x.I 22))) O.e) (O.a [.int (lq9 O 17)]) (O.a [.int u0])) (O.a [.int (O.h c1 1)]))) (O.a [.int (O.h c0 1)])))
def Nc:Nat→Env:=eL [(236,Bp),(237,A7)]
theorem X9 {N ls}:Nc N 236 [] ls=Bp N ls:=id rfl
theorem VT {N ls}:Nc N 237 [] ls=A7 N ls:=id rfl
def SO:=oS kq Ru Nc
def fZ:List Nat:=[0,0,0,0,0,0,0,0,0,0,0,0,0,0,3,0,3,3,1,3,1,0,0,0,3,0,0,0]
def QG (O:Alg) (x:Ags O):O.M:=(O.c (O.g 154 [] (xr x kI 0)) fun c0=>(O.a (ap O (cr O c0 [0,0,0,0,0,0,0,0,0,0,0,0] 0) (ap O [.int (O.h c0 13),.int (O.h c0 12)] (cr O c0 [3,0,3,3,1,3,1,0,0,0,3,0,0,0] 14)))))
def Q6:Nat→Env:=eL [(154,AQ)]
theorem Yk {N ls}:Q6 N 154 [] ls=AQ N ls:=id rfl
def Fq:=oS fZ QG Q6
def tK:List Nat:=[0,0,0,0,0,0,0,0,0,0,0,0,0,0,3,0,3,3,1,3,1,0,0,0,3,0,0,0,0,0,0,0,0,1,0,0,0,0,1,0]
def XW (O:Alg) (x:Ags O):O.M:=let u2:=(lq9 O 1);let u1:=(lq9 O 0);(O.c (O.g 154 [] (xr x kI 0)) fun c0=>(O.c (O.b (O.d (x.I 34) (O.lit .u8 0)) (O.a [.int u1,.bool O.j]) (O.b (O.d (x.I 35) u2) (O.a [.int (O.h c0 12),.bool O.j]) (O.b (O.d (x.I 35) (lq9 O 2)) (O.a [.int (O.h c0 13),.bool O.e]) (O.a [.int u1,.bool O.j])))) fun c1=>let u3:=(O.h c1 0);let u0:=(O.s .i64 u3 u2);(O.c (O.b (O.f (O.aj (O.f (O.d (O.al .i64 (x.I 30) (lq9 O 2)) u1)) (x.B 33))) (O.c (O.g 233 [] (cr O c0 kI 0)) fun c2=>(O.a (ap O [.bool (O.f (O.k c1 1))] (cr O c2 kI 0)))) (O.a (ap O [.bool (O.k c1 1)] (cr O c0 kI 0)))) fun c2=>(O.b (O.d u3 u1) (O.a (cr O c2 kI 1)) (O.c (O.b (O.k c2 0) (O.a (ap O (cr O c2 [0,0,0,0,0,0,0,0,0,0,0,0] 1) (ap O [.int u1] (cr O c2 [0,3,0,3,3,1,3,1,0,0,0,3,0,0,0] 14)))) (O.a (ap O (cr O c2 [0,0,0,0,0,0,0,0,0,0,0,0,0] 1) (ap O [.int u1] (cr O c2 [3,0,3,3,1,3,1,0,0,0,3,0,0,0] 15))))) fun c3=>(O.c (O.g 226 [] (ap O (cr O c3 kI 0) [.int u3])) fun c4=>(O.c (O.b (O.k c4 0) (O.n (O.r u0 (O.l (O.o c3 14))) (O.a (ap O (cr O c3 [0,0,0,0,0,0,0,0,0,0,0,0,0,0] 0) (ap O [.rows (O.y (O.o c3 14) u0 0 [.int (O.lit .u8 2)])] (cr O c3 [0,3,3,1,3,1,0,0,0,3,0,0,0] 15))))) (O.a (cr O c3 kI 0))) fun c5=>(O.a (ap O (cr O c5 [0,0,0,0] 0) (ap O [.int (O.p .i64 (O.h c5 4) u2)] (cr O c5 [0,0,0,0,0,0,0,0,0,3,0,3,3,1,3,1,0,0,0,3,0,0,0] 5)))))))))))
def Me:Nat→Env:=eL [(154,AQ),(226,Bo),(233,Fq)]
theorem et {N ls}:Me N 154 [] ls=AQ N ls:=id rfl
theorem bn {N ls}:Me N 226 [] ls=Bo N ls:=id rfl
theorem cp {N ls}:Me N 233 [] ls=Fq N ls:=id rfl
def XA:=oS tK XW Me
def o5:List Nat:=[2,0,0,0,0,0,0,0,1,0,0,0,0,3,0,0,0,0,0,0,0,0,0,0,0,0,0,0,3,0,3,3,1,3,1,0,0,0,3,0,0,0,1]
def Ux (O:Alg) (x:Ags O):O.M:=let u5:=(lq9 O 0);let u4:=(lq9 O 1);(O.c (O.g 154 [] (xr x kI 14)) fun c0=>let u6:=(O.h c0 15);let u1:=(O.ac (O.o c0 16) (O.ab [[.int u6]]));(O.c (O.g 80 [] (xr x kR 0)) fun c1=>let u2:=(O.f (O.d (O.h c1 0) u5));(O.c (O.b (O.f u2) (O.g 255 [] (ap O (cr O c0 kI 0) [.int u6])) (O.a [.bool O.e])) fun c2=>(O.b (O.i u2 O.j (O.f (O.k c2 0))) (O.a (ap O (cr O c0 kI 0) [.bool O.e])) (O.c (O.g 257 [] [.rows (O.o c0 16),.int u6]) fun c3=>(O.c (O.b (O.f (O.k c3 0)) (O.n (O.z (O.l u1) 8) (O.a (ap O (cr O c0 [0,0,0,0,0,0,0,0,0,0,0,0,0,0,3,0] 0) (ap O [.rows u1] (cr O c0 [3,1,3,1,0,0,0,3,0,0,0] 17))))) (O.a (cr O c0 kI 0))) fun c4=>let u7:=(O.o c4 19);let u3:=(O.s .i64 (O.h c4 15) u4);let u0:=(O.r u3 (O.l u7));(O.c (O.b (x.B 42) (O.n u0 (O.n u0 (O.a (ap O (cr O c4 [0,0,0,0,0,0,0,0,0,0,0] 0) (ap O [.int (O.p .i64 (O.h c4 11) u4)] (ap O (cr O c4 [0,0,3,0,3,3,1] 12) (ap O [.rows (O.y u7 u3 0 [.int (O.p .i64 (O.q u7 u3 0) u4)]),.bool (O.k c4 20),.int (O.p .i64 (O.h c4 21) u4)] (cr O c4 [0,0,3,0,0,0] 22)))))))) (O.a (cr O c4 kI 0))) fun c5=>(O.b (O.m (O.h c5 11) (x.I 4)) (O.a (ap O (cr O c5 kI 0) [.bool O.e])) (O.a (ap O (cr O c5 [0,0,0,0,0,0,0,0,0,0] 0) (ap O [.int (O.p .i64 (O.h c5 10) u4),.int u5] (ap O (cr O c5 [0,0,3] 12) (ap O [.int u5,.rows O.u,.rows (O.o c5 16)] (ap O (cr O c5 [1,3,1,0,0,0,3,0,0,0] 18) [.bool O.j]))))))))))))))
def Hf:Nat→Env:=eL [(80,Am),(154,AQ),(255,Co),(257,IU)]
theorem bK {N ls}:Hf N 80 [] ls=Am N ls:=id rfl
theorem dF {N ls}:Hf N 154 [] ls=AQ N ls:=id rfl
theorem aK {N ls}:Hf N 255 [] ls=Co N ls:=id rfl
theorem iU {N ls}:Hf N 257 [] ls=IU N ls:=id rfl
def Uu:=oS o5 Ux Hf
def lO:List Nat:=[0,0,0,0,0,0,1,1,1,1]
def l6 (O:Alg) (x:Ags O):O.M:=(O.a [.int (O.p .i64 (O.p .i64 (O.p .i64 (O.p .i64 (x.I 0) (x.I 1)) (x.I 2)) (x.I 3)) (x.I 4))])
def ug:Nat→Env:=eL []
def Rk:=oS lO l6 ug
def bq:List Nat:=[2,0,0,0,0,0,0,0,1,0,0,0,0,3,0,0,0,0,0,0,0,0,0,0,0,0,0,0,3,0,3,3,1,3,1,0,0,0,3,0,0,0,0,0,0,0,0,1,0,0,0,0,1,0]
def P9 (O:Alg) (x:Ags O):O.M:=let u5:=(lq9 O 0);(O.c (O.g 204 [] (xr x kI 14)) fun c0=>(O.b (O.k c0 0) (O.a (ap O (xr x kI 14) [.int (lq9 O 6)])) (O.b (O.d (x.I 29) u5) (O.a (ap O (xr x kI 14) [.int (lq9 O 7)])) (O.c (O.g 228 [] (xr x [2,0,0,0,0,0,0,0,1,0,0,0,0,3,0,0,0,0,0,0,0,0,0,0,0,0,0,0,3,0,3,3,1,3,1,0,0,0,3,0,0,0] 0)) fun c1=>(O.b (O.f (O.d (O.h c1 0) u5)) (O.a (ap O (xr x kI 14) [.int (O.h c1 0)])) (O.c (O.g 107 [] (xr x [0,0,0,0,0,1,0,0,0,0,1,0] 42)) fun c2=>(O.b (O.f (O.d (O.h c2 0) u5)) (O.a (ap O (xr x kI 14) [.int (O.h c2 0)])) (O.c (O.g 229 [] (ap O (xr x [0,0,0,0,0,1,0,0,0,0,1,0] 42) [.bool (x.B 34)])) fun c3=>(O.b (O.f (O.d (O.h c3 0) u5)) (O.a (ap O (xr x kI 14) [.int (O.h c3 0)])) (O.c (O.g 230 [] (xr x [0,0,0,0,0,0,0,0,0,0,0,0,0,0,3,0,3,3,1,3,1,0,0,0,3,0,0,0,0,0,0,0,0,1,0,0,0,0,1,0] 14)) fun c4=>(O.b (O.f (O.d (O.h c4 0) u5)) (O.a (ap O (xr x kI 14) [.int (O.h c4 0)])) (O.c (O.g 84 [] (ap O (xr x kR 0) (xr x [0,0,0,0,0,1,0,0,0,0,1,0] 42))) fun c5=>(O.c (O.g 231 [] (xr x [0,0,0,0,0,0,0,0,0,0,0,0,0,0,3,0,3,3,1,3,1,0,0,0,3,0,0,0,0,0,0,0,0,1,0,0,0,0,1,0] 14)) fun c6=>(O.c (O.g 232 [] (ap O (xr x kR 0) (ap O (cr O c6 kI 0) [.bool (O.k c5 6)]))) fun c7=>(O.c (O.b (O.k c7 28) (O.c (O.g 233 [] (cr O c7 kI 0)) fun c8=>(O.a (cr O c8 kI 0))) (O.a (cr O c7 kI 0))) fun c8=>let u6:=(O.h c8 4);let u4:=(O.p .i64 (O.h c8 8) (O.h c5 4));let u3:=(O.p .i64 (O.h c8 7) (O.h c5 3));let u2:=(O.p .i64 (O.h c8 6) (O.h c5 2));let u1:=(O.p .i64 (O.h c8 5) (O.h c5 1));(O.c (O.g 234 [] (cr O c5 [0,0,0,0,0,0,1,1,1,1] 0)) fun c9=>let u0:=(O.p .i64 (O.h c8 3) (O.h c9 0));(O.b (O.d (x.I 42) (O.lit .u8 1)) (O.a (ap O (cr O c8 [0,0,0] 0) (ap O [.int u0,.int u6,.int u1,.int u2,.int u3,.int u4] (ap O (cr O c8 [0,0,0,0,0,3,0,3,3,1,3] 9) (ap O [.bool O.e] (ap O (cr O c8 [0,0,0,3,0,0,0] 21) [.int u5])))))) (O.b (O.i (O.d (x.I 42) (O.lit .u8 3)) (x.B 8) O.e) (O.a (ap O (cr O c8 [0,0,0] 0) (ap O [.int u0,.int u6,.int u1,.int u2,.int u3,.int u4] (ap O (cr O c8 [0,0,0,0,0,3,0,3,3,1,3] 9) (ap O [.bool O.j] (ap O (cr O c8 [0,0,0,3,0,0,0] 21) [.int u5])))))) (O.a (ap O (cr O c8 [0,0,0] 0) (ap O [.int u0,.int u6,.int u1,.int u2,.int u3,.int u4] (ap O (cr O c8 [0,0,0,0,0,3,0,3,3,1,3,1,0,0,0,3,0,0,0] 9) [.int u5]))))))))))))))))))))))
def Ba (N:Nat):Env:=fun f fns ls=>(cond (Nat.beq f 84&&AF fns []) (Hb N ls) (cond (Nat.beq f 107&&AF fns []) (HH N ls) (cond (Nat.beq f 204&&AF fns []) (Cj N ls) (cond (Nat.beq f 228&&AF fns []) (R1 N ls) (cond (Nat.beq f 229&&AF fns []) (Lk N ls) (cond (Nat.beq f 230&&AF fns []) (SO N ls) (cond (Nat.beq f 231&&AF fns []) (XA N ls) (cond (Nat.beq f 232&&AF fns []) (Uu N ls) (cond (Nat.beq f 233&&AF fns []) (Fq N ls) (cond (Nat.beq f 234&&AF fns []) (Rk N ls) none))))))))))
theorem ZV {N ls}:Ba N 84 [] ls=Hb N ls:=id rfl
theorem cP {N ls}:Ba N 107 [] ls=HH N ls:=id rfl
theorem ZX {N ls}:Ba N 204 [] ls=Cj N ls:=id rfl
theorem bv {N ls}:Ba N 228 [] ls=R1 N ls:=id rfl
theorem Wu {N ls}:Ba N 229 [] ls=Lk N ls:=id rfl
theorem cj {N ls}:Ba N 230 [] ls=SO N ls:=id rfl
theorem i9 {N ls}:Ba N 231 [] ls=XA N ls:=id rfl
theorem ep {N ls}:Ba N 232 [] ls=Uu N ls:=id rfl
theorem ZG {N ls}:Ba N 233 [] ls=Fq N ls:=id rfl
theorem cT {N ls}:Ba N 234 [] ls=Rk N ls:=id rfl
def O1:=oS bq P9 Ba
def lk:List Nat:=[0,0,0,0,0,0,0,0,0,0,0,0,0,0,3,0,3,3,1,3,1,0,0,0,3,0,0,0,0]
def Rx (O:Alg) (x:Ags O):O.M:=let u2:=(O.s .i64 (x.I 28) (lq9 O 1));let u1:=(O.q (x.L 14) u2 0);let u0:=(O.r u2 (O.l (x.L 14)));(O.c (O.g 226 [] (xr x [0,0,0,0,0,0,0,0,0,0,0,0,0,0,3,0,3,3,1,3,1,0,0,0,3,0,0,0,0] 0)) fun c0=>(O.b (O.f (O.k c0 0)) (O.a [.int (lq9 O 3)]) (O.c (O.g 204 [] (xr x kI 0)) fun c1=>let u3:=(O.f (O.k c1 0));(O.n (O.f (O.x (O.f u3) (O.f u0))) (O.b (O.i u3 O.j (O.d u1 (O.lit .u8 1))) (O.a [.int (lq9 O 4)]) (O.n u0 (O.b (O.d u1 (O.lit .u8 2)) (O.a [.int (lq9 O 5)]) (O.a [.int (lq9 O 0)]))))))))
def M3:Nat→Env:=eL [(204,Cj),(226,Bo)]
theorem Yq {N ls}:M3 N 204 [] ls=Cj N ls:=id rfl
theorem Ye {N ls}:M3 N 226 [] ls=Bo N ls:=id rfl
def FR:=oS lk Rx M3
def di:List Nat:=[0,0,0,0,0,0,0,0,0,0,0,0,0,0,3,0,3,3,1,3,1,0,0,0,3,0,0,0,0]
def Np (O:Alg) (x:Ags O):O.M:=let u0:=(O.s .i64 (x.I 28) (lq9 O 1));(O.c (O.g 154 [] (xr x kI 0)) fun c0=>(O.c (O.g 235 [] (ap O (cr O c0 kI 0) [.int (x.I 28)])) fun c1=>(O.b (O.f (O.d (O.h c1 0) (lq9 O 0))) (O.a (ap O (cr O c0 kI 0) [.int (O.h c1 0)])) (O.n (O.r u0 (O.l (O.o c0 14))) (O.a (ap O (cr O c0 [0,0,0,0] 0) (ap O [.int (O.p .i64 (O.h c0 4) (lq9 O 1))] (ap O (cr O c0 [0,0,0,0,0,0,0,0,0] 5) (ap O [.rows (O.y (O.o c0 14) u0 0 [.int (O.lit .u8 2)])] (ap O (cr O c0 [0,3,3,1,3,1,0,0,0,3,0,0,0] 15) [.int (lq9 O 0)]))))))))))
def J9:Nat→Env:=eL [(154,AQ),(235,FR)]
theorem Wk {N ls}:J9 N 154 [] ls=AQ N ls:=id rfl
theorem Wd {N ls}:J9 N 235 [] ls=FR N ls:=id rfl
def Nh:=oS di Np J9
def lB:List Nat:=[0,0,0,0,0,0,0,0,0,0,0,0,0,0,3,0,3,3,1,3,1,0,0,0,3,0,0,0,0]
def SE (O:Alg) (x:Ags O):O.M:=let u1:=(lq9 O 0);let u0:=(O.s .i64 (x.I 28) (lq9 O 1));(O.c (O.g 154 [] (xr x kI 0)) fun c0=>let u2:=(O.o c0 14);(O.c (O.g 235 [] (ap O (cr O c0 kI 0) [.int (x.I 28)])) fun c1=>(O.b (O.f (O.d (O.h c1 0) u1)) (O.a (ap O (cr O c0 kI 0) [.int (O.h c1 0)])) (O.n (O.r u0 (O.l u2)) (O.b (O.d (O.h c0 12) u1) (O.a (ap O (cr O c0 [0,0,0,0,0,0,0,0,0,0,0,0] 0) (ap O [.int (x.I 28),.int (O.h c0 13),.rows (O.y u2 u0 0 [.int (O.lit .u8 1)])] (ap O (cr O c0 [0,3,3,1,3,1,0,0,0,3,0,0,0] 15) [.int u1])))) (O.a (ap O (cr O c0 [0,0,0,0,0,0,0,0,0,0,0,0,0] 0) (ap O [.int (x.I 28),.rows (O.y u2 u0 0 [.int (O.lit .u8 1)])] (ap O (cr O c0 [0,3,3,1,3,1,0,0,0,3,0,0,0] 15) [.int u1])))))))))
def NC:Nat→Env:=eL [(154,AQ),(235,FR)]
theorem Zy {N ls}:NC N 154 [] ls=AQ N ls:=id rfl
theorem Zd {N ls}:NC N 235 [] ls=FR N ls:=id rfl
def SA:=oS lB SE NC
def oG:List Nat:=[0,0,0,0,0,0,0,0,0,0,0,0,0,0,3,0,3,3,1,3,1,0,0,0,3,0,0,0]
def LY (O:Alg) (x:Ags O):O.M:=(O.c (O.w (fun s0 c0=>let u4:=(O.o c0 0);let u3:=(O.h c0 1);let u2:=(O.q (x.L 14) u3 0);let u1:=(O.p .i64 u3 (lq9 O 1));let u0:=(O.ac u4 (O.ab [[.int u1]]));(O.b (O.m u3 (O.l (x.L 14))) (O.n (O.r u3 (O.l (x.L 14))) (O.b (O.i (O.d u2 (O.lit .u8 0)) O.j (O.d u2 (O.lit .u8 3))) (O.n (O.z (O.l u0) 8) (s0 [.rows u0,.int u1])) (s0 [.rows u4,.int u1]))) (O.a [.rows u4]))) [.rows O.u,.int (lq9 O 0)]) fun c0=>(O.a [.rows (O.o c0 0)]))
def VS:Nat→Env:=eL []
def FF:=oS oG LY VS
def iV:List Nat:=[0,0,0,0,0,0,0,0,0,0,0,0,0,0,3,0,3,3,1,3,1,0,0,0,3,0,0,0,0,1]
def PS (O:Alg) (x:Ags O):O.M:=let u2:=(lq9 O 0);let u0:=(O.s .i64 (x.I 28) (lq9 O 1));(O.c (O.g 154 [] (xr x kI 0)) fun c0=>let u1:=(O.d (O.h c0 12) (x.I 28));(O.c (O.g 226 [] (ap O (cr O c0 kI 0) [.int (x.I 28)])) fun c1=>(O.b (O.f (O.k c1 0)) (O.a (ap O (cr O c0 kI 0) [.int (lq9 O 3)])) (O.b (O.i (O.d (O.h c0 12) u2) O.j (O.d (O.h c0 13) u2)) (O.a (ap O (cr O c0 kI 0) [.int (lq9 O 6)])) (O.b (O.i (O.f u1) (O.f (O.d (O.h c0 13) (x.I 28))) O.e) (O.a (ap O (cr O c0 kI 0) [.int (lq9 O 4)])) (O.c (O.b (x.B 29) (O.g 205 [] (cr O c0 kI 0)) (O.a [.rows O.u])) fun c2=>(O.b (O.i (x.B 29) (O.d (O.l (O.o c2 0)) u2) O.e) (O.a (ap O (cr O c0 kI 0) [.int (lq9 O 19)])) (O.c (O.b u1 (O.a (ap O (cr O c0 [0,0,0,0,0,0,0,0,0,0,0,0] 0) (ap O [.int u2] (cr O c0 [0,3,0,3,3,1,3,1,0,0,0,3,0,0,0] 13)))) (O.a (ap O (cr O c0 [0,0,0,0,0,0,0,0,0,0,0,0,0] 0) (ap O [.int u2] (cr O c0 [3,0,3,3,1,3,1,0,0,0,3,0,0,0] 14))))) fun c3=>let u3:=(O.o c3 14);(O.n (O.r u0 (O.l u3)) (O.b (O.f (x.B 29)) (O.n (O.r u0 (O.l (O.y u3 u0 0 [.int (O.lit .u8 3)]))) (O.a (ap O (cr O c3 [0,0,0,0] 0) (ap O [.int (O.p .i64 (O.h c3 4) (lq9 O 1))] (ap O (cr O c3 [0,0,0,0,0,0,0,0,0] 5) (ap O [.rows (O.y (O.y u3 u0 0 [.int (O.lit .u8 3)]) u0 0 [.int (O.lit .u8 2)])] (ap O (cr O c3 [0,3,3,1,3,1,0,0,0,3,0,0,0] 15) [.int u2]))))))) (O.a (ap O (cr O c3 [0,0,0,0,0,0,0,0,0,0,0,0,0,0] 0) (ap O [.rows (O.y u3 u0 0 [.int (O.lit .u8 3)])] (ap O (cr O c3 [0,3,3,1,3,1,0,0,0,3,0,0,0] 15) [.int u2]))))))))))))))
def IM:Nat→Env:=eL [(154,AQ),(205,FF),(226,Bo)]
theorem YV {N ls}:IM N 154 [] ls=AQ N ls:=id rfl
theorem Zs {N ls}:IM N 205 [] ls=FF N ls:=id rfl
theorem Ww {N ls}:IM N 226 [] ls=Bo N ls:=id rfl
def PK:=oS iV PS IM
def dW:List Nat:=[0,0,0,0,0,0,0,0,0,0,0,0,0,0,3,0,3,3,1,3,1,0,0,0,3,0,0,0,0]
def Ng (O:Alg) (x:Ags O):O.M:=(O.c (O.g 154 [] (xr x kI 0)) fun c0=>(O.b (O.i (O.m (x.I 28) (lq9 O 0)) O.j (O.m (O.s .i64 (O.l (O.o c0 24)) (lq9 O 2)) (x.I 28))) (O.a (ap O (cr O c0 kI 0) [.int (lq9 O 16)])) (O.a (ap O (cr O c0 [0,0,0,0,0,0,0,0,0,0,0,0,0,0,3,0,3,3,1,3,1,0,0] 0) (ap O [.int (x.I 28)] (ap O (cr O c0 [3,0,0,0] 24) [.int (lq9 O 0)]))))))
def Oz:Nat→Env:=eL [(154,AQ)]
theorem Wl {N ls}:Oz N 154 [] ls=AQ N ls:=id rfl
def NT:=oS dW Ng Oz
def jI:List Nat:=[0,0,0,0,0,0,0,0,0,0,0,0,0,0,3,0,3,3,1,3,1,0,0,0,3,0,0,0,0]
def PG (O:Alg) (x:Ags O):O.M:=(O.c (O.g 154 [] (xr x kI 0)) fun c0=>(O.c (O.g 236 [] (ap O (cr O c0 kI 0) [.int (x.I 28)])) fun c1=>(O.b (O.f (O.k c1 0)) (O.a (ap O (cr O c0 kI 0) [.int (lq9 O 3)])) (O.c (O.g 237 [] (ap O (cr O c0 kI 0) [.int (x.I 28)])) fun c2=>(O.b (O.k c2 0) (O.a (ap O (cr O c0 kI 0) [.int (lq9 O 18)])) (O.b (O.i (O.d (x.I 28) (O.h c0 15)) O.j (O.d (x.I 28) (O.h c0 22))) (O.a (ap O (cr O c0 kI 0) [.int (lq9 O 17)])) (O.a (ap O (cr O c0 [0,0,0,0,0,0,0,0,0,0,0,0,0,0,3,0,3,3,1,3,1,0] 0) (ap O [.int (x.I 28)] (ap O (cr O c0 [0,3,0,0,0] 23) [.int (lq9 O 0)]))))))))))
def Ht:Nat→Env:=eL [(154,AQ),(236,Bp),(237,A7)]
theorem YW {N ls}:Ht N 154 [] ls=AQ N ls:=id rfl
theorem Wj {N ls}:Ht N 236 [] ls=Bp N ls:=id rfl
theorem Ue {N ls}:Ht N 237 [] ls=A7 N ls:=id rfl
def PW:=oS jI PG Ht
def WZ:List Nat:=[0,0,0,0,0,0,0,0,0,0,0,0,0,0,3,0,3,3,1,3,1,0,0,0,3,0,0,0,0,1]
def Is (O:Alg) (x:Ags O):O.M:=let u2:=(lq9 O 0);let u1:=(O.s .i64 (x.I 28) (lq9 O 1));(O.c (O.g 154 [] (xr x kI 0)) fun c0=>let u0:=(O.y (O.o c0 24) u1 0 [.bool (x.B 29)]);(O.c (O.g 236 [] (ap O (cr O c0 kI 0) [.int (x.I 28)])) fun c1=>(O.b (O.f (O.k c1 0)) (O.a (ap O (cr O c0 kI 0) [.int (lq9 O 3)])) (O.c (O.g 237 [] (ap O (cr O c0 kI 0) [.int (x.I 28)])) fun c2=>(O.b (O.aj (O.k c2 0) (x.B 29)) (O.a (ap O (cr O c0 kI 0) [.int (lq9 O 18)])) (O.n (O.r u1 (O.l (O.o c0 24))) (O.c (O.b (O.i (x.B 29) (O.d (O.h c0 22) (x.I 28)) O.e) (O.a (ap O (cr O c0 [0,0,0,0,0,0,0,0,0,0,0,0,0,0,3,0,3,3,1,3,1,0] 0) (ap O [.int u2,.int (O.h c0 23),.rows u0] (cr O c0 [0,0,0] 25)))) (O.a (ap O (cr O c0 [0,0,0,0,0,0,0,0,0,0,0,0,0,0,3,0,3,3,1,3,1,0,0,0] 0) (ap O [.rows u0] (cr O c0 [0,0,0] 25))))) fun c3=>(O.b (O.i (x.B 29) (O.d (O.h c3 15) (x.I 28)) O.e) (O.a (ap O (cr O c3 [0,0,0,0,0,0,0,0,0,0,0,0,0,0,3] 0) (ap O [.int u2] (ap O (cr O c3 [3,3,1,3,1,0,0,0,3,0,0,0] 16) [.int u2])))) (O.a (ap O (cr O c3 kI 0) [.int u2]))))))))))
def EL:Nat→Env:=eL [(154,AQ),(236,Bp),(237,A7)]
theorem TN {N ls}:EL N 154 [] ls=AQ N ls:=id rfl
theorem S9 {N ls}:EL N 236 [] ls=Bp N ls:=id rfl
theorem Qc {N ls}:EL N 237 [] ls=A7 N ls:=id rfl
def Iv:=oS WZ Is EL
def dz:List Nat:=[2,0,0,0,0,0,0,0,1,0,0,0,0,3,0,0,0,0,0,0,0,0,0,0,0,0,0,0,3,0,3,3,1,3,1,0,0,0,3,0,0,0]
def ND (O:Alg) (x:Ags O):O.M:=let u0:=(lq9 O 0);(O.c (O.g 154 [] (xr x kI 14)) fun c0=>(O.c (O.g 80 [] (xr x kR 0)) fun c1=>(O.b (O.i (O.i (O.f (O.d (O.h c1 0) u0)) O.j (O.d (x.I 9) u0)) O.j (O.m (O.h c0 21) (O.af .i64 (x.I 9) (x.I 4)))) (O.a (ap O (cr O c0 kI 0) [.int (lq9 O 22)])) (O.a (ap O (cr O c0 [0,0,0,0,0,0,0,0,0,0,0,0,0,0,3,0,3,3,1,3,1] 0) (ap O [.int u0] (ap O (cr O c0 [0,0,3,0,0,0] 22) [.int u0])))))))
def J3:Nat→Env:=eL [(80,Am),(154,AQ)]
theorem Ws {N ls}:J3 N 80 [] ls=Am N ls:=id rfl
theorem Wm {N ls}:J3 N 154 [] ls=AQ N ls:=id rfl
def NQ:=oS dz ND J3
def Wb:List Nat:=[2,0,0,0,0,0,0,0,1,0,0,0,0,3,0,0,0,0,0,0,0,0,0,0,0,0,0,0,3,0,3,3,1,3,1,0,0,0,3,0,0,0,0,1]
def IB (O:Alg) (x:Ags O):O.M:=let u6:=(lq9 O 0);let u5:=(lq9 O 1);let u4:=(O.s .i64 (x.I 42) u5);let u3:=(O.d u4 u5);let u2:=(O.r u4 (lq9 O 2));let u1:=(O.ae u3 (x.I 40) (x.I 39));let u0:=(O.p .i64 u1 u5);(O.n (O.f (O.x (O.f (O.f (x.B 32))) (O.f u2))) (O.b (O.i (O.f (x.B 32)) O.j (O.t (x.I 11) u1)) (O.a (ap O (xr x kI 14) [.int (lq9 O 24)])) (O.b (O.f (x.B 43)) (O.n u2 (O.n u2 (O.a (ap O (xr x [0,0,0,0,0,0,0,0,0,0,0,0,0,0,3,0,3,3,1,3,1,0,0,0,3] 14) [.int (O.ae (O.d u4 u6) u0 (x.I 39)),.int (O.ae u3 u0 (x.I 40)),.int (x.I 41),.int u6])))) (O.a (ap O (xr x kI 14) [.int u6])))))
def II (N:Nat):Env:=fun f fns ls=>none
def LC:=oS Wb IB II
def kN:List Nat:=[2,0,0,0,0,0,0,0,1,0,0,0,0,3,0,0,0,0,0,0,0,0,0,0,0,0,0,0,3,0,3,3,1,3,1,0,0,0,3,0,0,0]
def lr (O:Alg) (x:Ags O):O.M:=(O.a [.int (O.p .i64 (O.af .i64 (x.I 24) (x.I 4)) (x.I 25))])
def ua:Nat→Env:=eL []
def Rs:=oS kN lr ua
def VG:List Nat:=[2,0,0,0,0,0,0,0,1,0,0,0,0,3,0,0,0,0,0,0,0,0,0,0,0,0,0,0,3,0,3,3,1,3,1,0,0,0,3,0,0,0,0,0]
def LG (O:Alg) (x:Ags O):O.M:=let u6:=(lq9 O 0);let u5:=(O.m (x.I 3) (x.I 43));let u4:=(O.d (x.I 3) u6);let u3:=(O.m u6 (x.I 42));let u2:=(O.m u6 (x.I 43));let u1:=(O.i u3 (O.i (O.d (x.I 15) u6) O.j (O.t (x.I 42) (x.I 17))) O.e);(O.c (O.b u4 (O.a [.bool u4]) (O.b u1 (O.a [.bool u1]) (O.c (O.b (O.x u2 (O.f u5)) (O.g 238 [] (xr x [2,0,0,0,0,0,0,0,1,0,0,0,0,3,0,0,0,0,0,0,0,0,0,0,0,0,0,0,3,0,3,3,1,3,1,0,0,0,3,0,0,0] 0)) (O.a [.int u6])) fun c0=>let u0:=(O.i u2 (O.i u5 O.j (O.m (O.af .i64 (x.I 43) (x.I 4)) (O.h c0 0))) O.e);(O.b u0 (O.a [.bool u0]) (O.a [.bool (O.i (O.d (x.I 42) u6) (O.d (x.I 43) u6) O.e)]))))) fun c0=>(O.b (O.k c0 0) (O.a (ap O (xr x kI 14) [.int (lq9 O 25)])) (O.c (O.b u3 (O.a (ap O [.int (x.I 14),.int (x.I 42)] (xr x [0,0,0,0,0,0,0,0,0,0,0,0,3,0,3,3,1,3,1,0,0,0,3,0,0,0] 16))) (O.a (xr x kI 14))) fun c1=>(O.b u2 (O.a (ap O [.int (O.h c1 0),.int (O.h c1 1),.int (x.I 43)] (ap O (cr O c1 [0,0,0,0,0,0,0,0,0,0,0,3,0,3,3,1,3,1,0,0,0,3,0,0,0] 3) [.int u6]))) (O.a (ap O (cr O c1 kI 0) [.int u6]))))))
def FV (N:Nat):Env:=fun f fns ls=>(cond (Nat.beq f 238&&AF fns []) (Rs N ls) none)
theorem Yb {N ls}:FV N 238 [] ls=Rs N ls:=id rfl
def K1:=oS VG LG FV
def gn:List Nat:=[2,0,0,0,0,0,0,0,1,0,0,0,0,3,0,0,0,0,0,0,0,0,0,0,0,0,0,0,3,0,3,3,1,3,1,0,0,0,3,0,0,0,0,0,0,0,1,0,0,0,0,0,0,0,1,0,0,0,0,1,0]
def Od (O:Alg) (x:Ags O):O.M:=let u1:=(lq9 O 0);let u0:=(O.d (x.I 43) (x.I 14));(O.b (O.d (x.I 42) (O.lit .u8 2)) (O.c (O.g 192 [] (ap O (xr x kI 14) [.int (x.I 44),.int (x.I 45)])) fun c0=>(O.a (cr O c0 [0,0,0,0,0,0,0,0,0,0,0,0,0,0,3,0,3,3,1,3,1,0,0,0,3,0,0,0,0] 0))) (O.b (O.d (x.I 42) (O.lit .u8 3)) (O.c (O.g 193 [] (ap O (xr x [2,0,0,0,0,0,0,0,1,0,0,0,0,3,0,0,0,0,0,0,0,0,0,0,0,0,0,0,3,0,3,3,1,3,1,0,0,0,3,0,0,0] 0) [.int (x.I 44)])) fun c0=>(O.a (cr O c0 [0,0,0,0,0,0,0,0,0,0,0,0,0,0,3,0,3,3,1,3,1,0,0,0,3,0,0,0,0] 0))) (O.b (O.d (x.I 42) (O.lit .u8 4)) (O.c (O.g 194 [] (ap O (xr x [2,0,0,0,0,0,0,0,1,0,0,0,0,3,0,0,0,0,0,0,0,0,0,0,0,0,0,0,3,0,3,3,1,3,1,0,0,0,3,0,0,0] 0) (xr x [0,0,0,0,0,1,0,0,0,0,1,0] 49))) fun c0=>(O.a (cr O c0 [0,0,0,0,0,0,0,0,0,0,0,0,0,0,3,0,3,3,1,3,1,0,0,0,3,0,0,0,0] 0))) (O.b (O.d (x.I 42) (O.lit .u8 5)) (O.b (x.B 46) (O.c (O.g 195 [] (ap O (xr x kI 14) [.int (x.I 44)])) fun c0=>(O.a (cr O c0 [0,0,0,0,0,0,0,0,0,0,0,0,0,0,3,0,3,3,1,3,1,0,0,0,3,0,0,0,0] 0))) (O.c (O.g 196 [] (ap O (xr x kI 14) [.int (x.I 44)])) fun c0=>(O.a (cr O c0 [0,0,0,0,0,0,0,0,0,0,0,0,0,0,3,0,3,3,1,3,1,0,0,0,3,0,0,0,0] 0)))) (O.b (O.d (x.I 42) (O.lit .u8 6)) (O.c (O.g 197 [] (ap O (xr x kI 14) [.int (x.I 44),.bool (x.B 46)])) fun c0=>(O.a (cr O c0 [0,0,0,0,0,0,0,0,0,0,0,0,0,0,3,0,3,3,1,3,1,0,0,0,3,0,0,0,0] 0))) (O.b (O.d (x.I 42) (O.lit .u8 7)) (O.c (O.g 198 [] (ap O (xr x kI 14) [.int (x.I 47)])) fun c0=>(O.a (cr O c0 [0,0,0,0,0,0,0,0,0,0,0,0,0,0,3,0,3,3,1,3,1,0,0,0,3,0,0,0,0] 0))) (O.b (O.d (x.I 42) (O.lit .u8 8)) (O.c (O.g 199 [] (ap O (xr x kI 14) [.int (x.I 44)])) fun c0=>(O.a (cr O c0 [0,0,0,0,0,0,0,0,0,0,0,0,0,0,3,0,3,3,1,3,1,0,0,0,3,0,0,0,0] 0))) (O.b (O.d (x.I 42) (O.lit .u8 9)) (O.c (O.g 200 [] (ap O (xr x kI 14) [.int (x.I 44),.bool (x.B 46)])) fun c0=>(O.a (cr O c0 [0,0,0,0,0,0,0,0,0,0,0,0,0,0,3,0,3,3,1,3,1,0,0,0,3,0,0,0,0] 0))) (O.b (O.d (x.I 42) (O.lit .u8 10)) (O.c (O.g 201 [] (xr x [2,0,0,0,0,0,0,0,1,0,0,0,0,3,0,0,0,0,0,0,0,0,0,0,0,0,0,0,3,0,3,3,1,3,1,0,0,0,3,0,0,0] 0)) fun c0=>(O.a (cr O c0 [0,0,0,0,0,0,0,0,0,0,0,0,0,0,3,0,3,3,1,3,1,0,0,0,3,0,0,0,0] 0))) (O.b (O.d (x.I 42) (O.lit .u8 11)) (O.b (O.f u0) (O.a (ap O (xr x kI 14) [.int (lq9 O 2)])) (O.b (O.f (O.d (x.I 3) u1)) (O.a (ap O (xr x kI 14) [.int (lq9 O 20)])) (O.a (ap O (xr x [0,0,0,0,0,0,0,0,0,0,0,0,0,0,3,0,3,3,1,3,1,0,0,0,3,0,0] 14) [.int (O.lit .u8 4),.int u1])))) (O.b (O.d (x.I 42) (O.lit .u8 13)) (O.b (O.f (O.d (x.I 47) (lq9 O 5))) (O.a (ap O (xr x kI 14) [.int (lq9 O 23)])) (O.b u0 (O.c (O.g 161 [] (xr x kI 14)) fun c0=>(O.a (ap O (cr O c0 kI 0) [.int u1]))) (O.b (O.m u1 (x.I 15)) (O.a (ap O [.int (x.I 14),.int (O.p .i64 (x.I 15) (lq9 O 5))] (ap O (xr x [0,0,0,0,0,0,0,0,0,0,0,0,3,0,3,3,1,3,1,0,0,0,3,0,0,0] 16) [.int u1]))) (O.a (ap O (xr x kI 14) [.int u1]))))) (O.b (O.d (x.I 42) (O.lit .u8 14)) (O.c (O.g 202 [] (ap O (xr x [2,0,0,0,0,0,0,0,1,0,0,0,0,3,0,0,0,0,0,0,0,0,0,0,0,0,0,0,3,0,3,3,1,3,1,0,0,0,3,0,0,0] 0) [.int (x.I 43),.bool (x.B 46)])) fun c0=>(O.a (cr O c0 [0,0,0,0,0,0,0,0,0,0,0,0,0,0,3,0,3,3,1,3,1,0,0,0,3,0,0,0,0] 0))) (O.b (O.d (x.I 42) (O.lit .u8 15)) (O.c (O.g 203 [] (ap O (xr x [2,0,0,0,0,0,0,0,1,0,0,0,0,3,0,0,0,0,0,0,0,0,0,0,0,0,0,0,3,0,3,3,1,3,1,0,0,0,3,0,0,0] 0) [.int (x.I 47),.int (x.I 48)])) fun c0=>(O.a (cr O c0 [0,0,0,0,0,0,0,0,0,0,0,0,0,0,3,0,3,3,1,3,1,0,0,0,3,0,0,0,0] 0))) (O.a (ap O (xr x kI 14) [.int (lq9 O 1)])))))))))))))))
def BO (N:Nat):Env:=fun f fns ls=>(cond (Nat.beq f 161&&AF fns []) (GQ N ls) (cond (Nat.beq f 192&&AF fns []) (UP N ls) (cond (Nat.beq f 193&&AF fns []) (Us N ls) (cond (Nat.beq f 194&&AF fns []) (O1 N ls) (cond (Nat.beq f 195&&AF fns []) (Nh N ls) (cond (Nat.beq f 196&&AF fns []) (SA N ls) (cond (Nat.beq f 197&&AF fns []) (PK N ls) (cond (Nat.beq f 198&&AF fns []) (NT N ls) (cond (Nat.beq f 199&&AF fns []) (PW N ls) (cond (Nat.beq f 200&&AF fns []) (Iv N ls) (cond (Nat.beq f 201&&AF fns []) (NQ N ls) (cond (Nat.beq f 202&&AF fns []) (LC N ls) (cond (Nat.beq f 203&&AF fns []) (K1 N ls) none)))))))))))))
theorem Oh {N ls}:BO N 161 [] ls=GQ N ls:=id rfl
theorem TB {N ls}:BO N 192 [] ls=UP N ls:=id rfl
theorem Se {N ls}:BO N 193 [] ls=Us N ls:=id rfl
theorem Sh {N ls}:BO N 194 [] ls=O1 N ls:=id rfl
theorem OQ {N ls}:BO N 195 [] ls=Nh N ls:=id rfl
theorem Qs {N ls}:BO N 196 [] ls=SA N ls:=id rfl
theorem O6 {N ls}:BO N 197 [] ls=PK N ls:=id rfl
theorem Oc {N ls}:BO N 198 [] ls=NT N ls:=id rfl
theorem Qb {N ls}:BO N 199 [] ls=PW N ls:=id rfl
theorem Kv {N ls}:BO N 200 [] ls=Iv N ls:=id rfl
theorem OL {N ls}:BO N 201 [] ls=NQ N ls:=id rfl
theorem O8 {N ls}:BO N 202 [] ls=LC N ls:=id rfl
theorem PM {N ls}:BO N 203 [] ls=K1 N ls:=id rfl
def Sj:=oS gn Od BO
def fR:List Nat:=[2,0,0,0,0,0,0,0,1,0,0,0,0,3,0,0,0,0,0,0,0,0,0,0,0,0,0,0,3,0,3,3,1,3,1,0,0,0,3,0,0,0]
def Pm (O:Alg) (x:Ags O):O.M:=let u0:=(lq9 O 0);(O.c (O.g 155 [] (xr x [2,0,0,0,0,0,0,0,1,0,0,0,0,3,0,0,0,0,0,0,0,0,0,0,0,0,0,0,3,0,3,3,1,3,1,0,0,0,3,0,0,0] 0)) fun c0=>(O.b (O.f (O.k c0 0)) (O.a [.int (O.lit .u8 0)]) (O.b (O.i (O.m u0 (x.I 15)) (O.t (x.I 15) (x.I 17)) O.e) (O.a [.int (O.lit .u8 3)]) (O.c (O.g 204 [] (xr x kI 14)) fun c1=>(O.c (O.b (O.k c1 0) (O.g 205 [] (xr x kI 14)) (O.a [.rows O.u])) fun c2=>(O.b (O.i (O.k c1 0) (O.d (O.l (O.o c2 0)) u0) O.e) (O.a [.int (O.lit .u8 1)]) (O.b (O.i (O.m u0 (x.I 16)) (O.t (x.I 16) (x.I 24)) O.e) (O.a [.int (O.lit .u8 2)]) (O.a [.int (O.lit .u8 0)]))))))))
def IA:Nat→Env:=eL [(155,C7),(204,Cj),(205,FF)]
def K2:=oS fR Pm IA
def cV:List Nat:=[2,0,0,0,0,0,0,0,1,0,0,0,0,3,0,0,0,0,0,0,0,0,0,0,0,0,0,0,3,0,3,3,1,3,1,0,0,0,3,0,0,0,0,0,0,0,1,0,0,0,0,0,0,0,1,0,0,0,0,1,0]
def Oy (O:Alg) (x:Ags O):O.M:=let u1:=(lq9 O 0);(O.c (O.g 122 [] (xr x kI 14)) fun c0=>(O.c (O.g 155 [] (ap O (xr x kR 0) (cr O c0 kI 0))) fun c1=>let u0:=(O.f (O.k c1 0));(O.c (O.b (O.f u0) (O.g 103 [] (xr x [0,0,0,0,1,0,0,0,0,0,0,0,1,0,0,0,0,1,0] 42)) (O.a [.int u1])) fun c2=>(O.b (O.i u0 O.j (O.f (O.d (O.h c2 0) u1))) (O.a (ap O (cr O c0 kI 0) [.int (lq9 O 1)])) (O.b (O.f (O.d (O.h c0 27) (O.lit .u8 0))) (O.a (ap O (cr O c0 kI 0) [.int (lq9 O 26)])) (O.c (O.g 182 [] (cr O c0 kI 0)) fun c3=>(O.b (O.i (O.f (O.k c3 0)) (O.f (O.d (x.I 42) (O.lit .u8 2))) O.e) (O.a (ap O (cr O c0 kI 0) [.int (lq9 O 1)])) (O.c (O.g 122 [] (cr O c0 kI 0)) fun c4=>(O.c (O.g 183 [] (ap O (xr x kR 0) (ap O (cr O c4 kI 0) (xr x [0,0,0,0,1,0,0,0,0,0,0,0,1,0,0,0,0,1,0] 42)))) fun c5=>(O.b (O.f (O.d (O.h c5 28) u1)) (O.a (ap O (cr O c0 kI 0) [.int (O.h c5 28)])) (O.b (O.d (O.h c5 27) (O.lit .u8 0)) (O.c (O.g 184 [] (ap O (xr x kR 0) (ap O (cr O c5 [0,0,0,0,0,0,0,0,0,0,0,0,0,0,3,0,3,3] 0) (ap O [.bool (O.d (x.I 42) (O.lit .u8 4))] (cr O c5 [3,1,0,0,0,3,0,0,0] 19))))) fun c6=>(O.a (ap O (cr O c5 [0,0,0,0,0,0,0,0,0,0,0,0,0,0,3,0,3,3] 0) (ap O [.bool (O.d (x.I 42) (O.lit .u8 4))] (ap O (cr O c5 [3,1,0,0,0,3,0,0] 19) [.int (O.h c6 0),.int u1]))))) (O.a (ap O (cr O c5 [0,0,0,0,0,0,0,0,0,0,0,0,0,0,3,0,3,3] 0) (ap O [.bool (O.d (x.I 42) (O.lit .u8 4))] (ap O (cr O c5 [3,1,0,0,0,3,0,0,0] 19) [.int u1])))))))))))))))
def Ck (N:Nat):Env:=fun f fns ls=>(cond (Nat.beq f 103&&AF fns []) (Ji N ls) (cond (Nat.beq f 122&&AF fns []) (DV N ls) (cond (Nat.beq f 155&&AF fns []) (C7 N ls) (cond (Nat.beq f 182&&AF fns []) (Bq N ls) (cond (Nat.beq f 183&&AF fns []) (Sj N ls) (cond (Nat.beq f 184&&AF fns []) (K2 N ls) none))))))
theorem bC {N ls}:Ck N 103 [] ls=Ji N ls:=id rfl
theorem cc {N ls}:Ck N 122 [] ls=DV N ls:=id rfl
theorem bN {N ls}:Ck N 155 [] ls=C7 N ls:=id rfl
theorem bO {N ls}:Ck N 182 [] ls=Bq N ls:=id rfl
theorem LA {N ls}:Ck N 183 [] ls=Sj N ls:=id rfl
theorem OE {N ls}:Ck N 184 [] ls=K2 N ls:=id rfl
def I4:=oS cV Oy Ck
def dD:List Nat:=[2,0,0,0,0,0,0,0,1,0,0,0,0,3,0,0,1,3,0,0,0,0,0,0,0,0,0,1,0,0,0,0,0,0,0,1,0,0,0,0,1,0]
def Ov (O:Alg) (x:Ags O):O.M:=let u5:=(lq9 O 1);let u4:=(lq9 O 0);(O.c (O.g 158 [] (xr x kM 0)) fun c0=>let u6:=(O.h c0 0);let u3:=(O.s .i64 u6 u5);let u1:=(O.d u3 u5);let u0:=(O.r u3 (lq9 O 2));(O.c (O.b (O.d (O.p .i64 (O.l (x.L 17)) u5) (O.af .i64 (lq9 O 2) (x.I 2))) (O.c (O.g 128 [] [.int u6]) fun c1=>(O.c (O.g 131 [] (ap O (xr x kM 0) [.int (O.h c1 0)])) fun c2=>(O.c (O.g 131 [] (ap O (xr x kM 0) [.int u6])) fun c3=>(O.a [.int (O.p .i64 (O.s .i64 (O.h c2 0) (O.h c3 0)) u5)])))) (O.a [.int u4])) fun c1=>(O.n u0 (O.c (O.g 159 [] (ap O (xr x kR 0) [.int u6,.int (O.h c1 0),.int (O.ae u1 (x.I 19) (x.I 18))])) fun c2=>(O.b (O.f (O.d (O.h c2 28) u4)) (O.a (ap O (xr x kM 0) [.int u5])) (O.c (O.g 160 [] (ap O (xr x kR 0) (ap O (cr O c2 kI 0) (xr x [0,0,0,0,1,0,0,0,0,0,0,0,1,0,0,0,0,1,0] 23)))) fun c3=>let u2:=(O.ac (x.L 17) (O.ab [(cr O c3 kI 0)]));(O.b (O.f (O.d (O.h c3 28) u4)) (O.a (ap O (xr x kM 0) [.int (O.h c3 28)])) (O.n u0 (O.n (O.z (O.l u2) 304) (O.a (ap O (xr x kR 0) (ap O [.int (O.lit .u8 3),.int (x.I 15),.bool (x.B 16),.rows u2,.int (O.ae (O.d u3 u4) u4 (x.I 18)),.int (O.ae u1 u4 (x.I 19))] (ap O (xr x [0,0,0] 20) [.int u4])))))))))))))
def DC (N:Nat):Env:=fun f fns ls=>(cond (Nat.beq f 128&&AF fns []) (CM N ls) (cond (Nat.beq f 131&&AF fns []) (FO N ls) (cond (Nat.beq f 158&&AF fns []) (JR N ls) (cond (Nat.beq f 159&&AF fns []) (Rl N ls) (cond (Nat.beq f 160&&AF fns []) (I4 N ls) none)))))
theorem It {N ls}:DC N 128 [] ls=CM N ls:=id rfl
theorem I1 {N ls}:DC N 131 [] ls=FO N ls:=id rfl
theorem Yt {N ls}:DC N 158 [] ls=JR N ls:=id rfl
theorem Ij {N ls}:DC N 159 [] ls=Rl N ls:=id rfl
theorem Jn {N ls}:DC N 160 [] ls=I4 N ls:=id rfl
def Ow:=oS dD Ov DC
def bL:List Nat:=[2,0,0,0,0,0,0,0,1,0,0,0,0,3,0,0,1,3,0,0,0,0,0,0,0,0,0,1,0,0,0,0,0,0,0,1,0,0,0,0,1,0]
def Pk (O:Alg) (x:Ags O):O.M:=let u9:=(lq9 O 1);let u8:=(lq9 O 0);let u7:=(O.s .i64 (x.I 24) u9);let u6:=(O.s .i64 (O.l (x.L 17)) u9);let u5:=(O.r u7 (lq9 O 2));let u4:=(O.d u7 u9);let u3:=(O.r u6 (O.l (x.L 17)));let u0:=(O.p .i64 (O.ae u4 (x.I 19) (x.I 18)) (lq9 O 5));(O.n u3 (O.c (O.g 160 [] (ap O (xr x kR 0) (ap O (rr O (x.L 17) u6 kI 0) (xr x [0,0,0,0,1,0,0,0,0,0,0,0,1,0,0,0,0,1,0] 23)))) fun c0=>let u2:=(O.y (x.L 17) u6 0 (cr O c0 kI 0));(O.b (O.f (O.d (O.h c0 28) u8)) (O.a (ap O (xr x kM 0) [.int (O.h c0 28)])) (O.n u3 (O.b (O.i (O.f (O.d (x.I 23) (O.lit .u8 13))) O.j (O.d (x.I 24) (O.h c0 0))) (O.a (ap O (xr x [2,0,0,0,0,0,0,0,1,0,0,0,0,3,0,0,1] 0) (ap O [.rows u2] (ap O (xr x [0,0,0,0,0] 18) [.int u8])))) (O.c (O.w (fun s1 c1=>let u10:=(O.h c1 0);let u1:=(O.r u10 (O.l u2));(O.b (O.t u8 u10) (O.n u1 (O.b (O.d (O.q u2 u10 0) (x.I 24)) (O.n u1 (O.c (O.g 161 [] (rr O u2 u10 kI 0)) fun c2=>(O.n u1 (O.a (ap O [.int u8,.int u8] (ap O (xr x [2,0,0,0,0,0,0,0,1,0,0,0,0,3,0,0,1] 0) (ap O [.rows (O.y u2 u10 0 (cr O c2 kI 0))] (xr x [0,0,0,0,0] 18)))))))) (s1 [.int (O.s .i64 u10 u9)]))) (O.a [.int u9]))) [.int u6]) fun c1=>(O.b (O.aa c1 0) (O.a (ap O (cr O c1 kM 2) [.int (O.h c1 1)])) (O.n u5 (O.n u5 (O.a (ap O (xr x [2,0,0,0,0,0,0,0,1,0,0,0,0,3,0,0,1] 0) (ap O [.rows u2,.int (O.ae (O.d u7 u8) u0 (x.I 18)),.int (O.ae u4 u0 (x.I 19))] (ap O (xr x [0,0,0] 20) [.int u8])))))))))))))
def Ff (N:Nat):Env:=fun f fns ls=>(cond (Nat.beq f 160&&AF fns []) (I4 N ls) (cond (Nat.beq f 161&&AF fns []) (GQ N ls) none))
theorem Qt {N ls}:Ff N 160 [] ls=I4 N ls:=id rfl
theorem MU {N ls}:Ff N 161 [] ls=GQ N ls:=id rfl
def PP:=oS bL Pk Ff
def iD:List Nat:=[2,0,0,0,0,0,0,0,1,0,0,0,0,3,0,0,1,3,0,0,0,0,0,0,0,0,0,1,0,0,0,0,0,0,0,1,0,0,0,0,1,0]
def S8 (O:Alg) (x:Ags O):O.M:=let u2:=(lq9 O 1);let u1:=(lq9 O 0);let u0:=(O.s .i64 (O.l (x.L 17)) u2);(O.b (O.d (x.I 23) (O.lit .u8 1)) (O.b (O.f (O.d (x.I 14) (O.lit .u8 1))) (O.a (ap O (xr x kM 0) [.int u2])) (O.c (O.b (O.f (x.B 27)) (O.c (O.g 128 [] [.int (x.I 24)]) fun c0=>(O.a (ap O (xr x [2,0,0,0,0,0,0,0,1,0,0,0,0,3,0] 0) (ap O [.int (O.h c0 0)] (xr x [1,3,0,0,0,0,0] 16))))) (O.a (ap O (xr x [2,0,0,0,0,0,0,0,1,0,0,0,0,3,0] 0) (ap O [.int (x.I 24)] (xr x [1,3,0,0,0,0,0] 16))))) fun c0=>(O.a (ap O (cr O c0 kR 0) (ap O [.int (O.lit .u8 2)] (ap O (cr O c0 [0,1,3,0,0,0,0,0] 15) [.int u1])))))) (O.b (O.d (x.I 23) (O.lit .u8 2)) (O.b (O.f (O.d (x.I 14) (O.lit .u8 2))) (O.a (ap O (xr x kM 0) [.int u2])) (O.c (O.g 129 [] (xr x [2,0,0,0,0,0,0,0,1,0,0,0,0,3,0,0,1,3,0,0,0,0,0,0,0,0,0,1,0,0,0,0,0,0,0,1,0,0,0,0,1,0] 0)) fun c0=>(O.a (cr O c0 [2,0,0,0,0,0,0,0,1,0,0,0,0,3,0,0,1,3,0,0,0,0,0,0] 0)))) (O.b (O.d (x.I 23) (O.lit .u8 12)) (O.b (O.f (O.d (x.I 14) (O.lit .u8 4))) (O.a (ap O (xr x kM 0) [.int u2])) (O.b (O.f (O.d (x.I 24) (x.I 15))) (O.a (ap O (xr x kM 0) [.int (lq9 O 2)])) (O.a (ap O (xr x kR 0) (ap O [.int (O.lit .u8 2),.int (x.I 15),.bool (x.B 27)] (ap O (xr x [3,0,0,0,0,0] 17) [.int u1])))))) (O.b (O.d (x.I 23) (O.lit .u8 16)) (O.c (O.b (O.d (x.I 14) (O.lit .u8 3)) (O.n (O.r u0 (O.l (x.L 17))) (O.a (ap O (xr x [2,0,0,0,0,0,0,0,1,0,0,0,0,3,0,0,1] 0) (ap O [.rows (O.y (x.L 17) u0 27 [.int (O.lit .u8 5)])] (xr x [0,0,0,0,0] 18))))) (O.a (xr x kM 0))) fun c0=>(O.c (O.b (O.d (O.h c0 3) u1) (O.a (ap O (cr O c0 kR 0) (ap O [.int (O.lit .u8 5)] (ap O (cr O c0 [0,1,3,0,0] 15) [.int (O.lit .u8 5),.int u1,.int u1])))) (O.a (ap O (cr O c0 kR 0) (ap O [.int (O.lit .u8 5)] (ap O (cr O c0 [0,1,3,0,0] 15) [.int (O.lit .u8 6),.int u1,.int u1]))))) fun c1=>(O.a (ap O (cr O c1 kM 0) [.int u1])))) (O.b (O.f (O.d (x.I 14) (O.lit .u8 3))) (O.a (ap O (xr x kM 0) [.int u2])) (O.c (O.g 130 [] (xr x [2,0,0,0,0,0,0,0,1,0,0,0,0,3,0,0,1,3,0,0,0,0,0,0,0,0,0,1,0,0,0,0,0,0,0,1,0,0,0,0,1,0] 0)) fun c0=>(O.a (cr O c0 [2,0,0,0,0,0,0,0,1,0,0,0,0,3,0,0,1,3,0,0,0,0,0,0] 0))))))))
def FJ (N:Nat):Env:=fun f fns ls=>(cond (Nat.beq f 128&&AF fns []) (CM N ls) (cond (Nat.beq f 129&&AF fns []) (Ow N ls) (cond (Nat.beq f 130&&AF fns []) (PP N ls) none)))
theorem Qy {N ls}:FJ N 128 [] ls=CM N ls:=id rfl
theorem S4 {N ls}:FJ N 129 [] ls=Ow N ls:=id rfl
theorem Sw {N ls}:FJ N 130 [] ls=PP N ls:=id rfl
def Sl:=oS iD S8 FJ
def Tf:List Nat:=[2,0,0,0,0,0,0,0,1,0,0,0,0,3,0,0,1,3,0,0,0,0,0]
def JD (O:Alg) (x:Ags O):O.M:=let u4:=(lq9 O 0);let u3:=(O.l (x.L 17));let u1:=(O.d u3 (lq9 O 3));let u0:=(O.d u3 (O.af .i64 (lq9 O 2) (x.I 2)));(O.c (O.g 102 [] (xr x kM 0)) fun c0=>(O.b (O.i (O.f (O.k c0 0)) O.j (O.d u3 u4)) (O.a [.int (O.lit .u8 0),.int u4,.int u4]) (O.c (O.g 105 [] (xr x kM 0)) fun c1=>let u8:=(O.h c1 3);let u10:=(O.lit .u8 0);let u6:=(O.h c1 0);let u5:=(O.h c1 27);let u9:=(O.d u5 (O.lit .u8 5));let u2:=(O.s .i64 (O.h c1 1) (lq9 O 1));(O.c (O.g 128 [] [.int u6]) fun c2=>let u7:=(O.h c2 0);(O.b (O.i u9 (O.d (x.I 3) u4) O.e) (O.a [.int (O.lit .u8 5),.int u4,.int u4]) (O.b u9 (O.a [.int (O.lit .u8 6),.int u4,.int u4]) (O.b (O.d u5 u10) (O.a [.int u10,.int u4,.int u4]) (O.b (O.i u0 (O.t (O.h c1 1) u8) O.e) (O.a [.int (O.lit .u8 2),.int u6,.int (O.s .i64 (O.s .i64 (x.I 1) (lq9 O 1)) (O.h c1 4))]) (O.b (O.i u0 (O.d u8 u2) O.e) (O.a [.int (O.lit .u8 4),.int u4,.int u4]) (O.b u0 (O.a [.int (O.lit .u8 1),.int u7,.int (O.s .i64 u2 u8)]) (O.c (O.b u1 (O.g 131 [] (ap O (xr x kM 0) [.int u6])) (O.a [.int u4])) fun c3=>(O.c (O.b u1 (O.g 131 [] (ap O (xr x kM 0) [.int u7])) (O.a [.int u4])) fun c4=>(O.b (O.i u1 (O.m (O.h c3 0) (O.h c4 0)) O.e) (O.c (O.g 131 [] (ap O (xr x kM 0) [.int u7])) fun c5=>(O.c (O.g 131 [] (ap O (xr x kM 0) [.int u6])) fun c6=>(O.a [.int (O.lit .u8 3),.int u7,.int (O.s .i64 (O.h c5 0) (O.h c6 0))]))) (O.a [.int u10,.int u4,.int u4]))))))))))))))
def Cd (N:Nat):Env:=fun f fns ls=>(cond (Nat.beq f 102&&AF fns []) (FP N ls) (cond (Nat.beq f 105&&AF fns []) (Dh N ls) (cond (Nat.beq f 128&&AF fns []) (CM N ls) (cond (Nat.beq f 131&&AF fns []) (FO N ls) none))))
theorem Wo {N ls}:Cd N 102 [] ls=FP N ls:=id rfl
theorem Mq {N ls}:Cd N 105 [] ls=Dh N ls:=id rfl
theorem MF {N ls}:Cd N 128 [] ls=CM N ls:=id rfl
theorem ME {N ls}:Cd N 131 [] ls=FO N ls:=id rfl
def JU:=oS Tf JD Cd
def WB:List Nat:=[2,0,0,0,0,0,0,0,1,0,0,0,0,3,0,0,1,3,0,0,0,0,0]
def Kd (O:Alg) (x:Ags O):O.M:=let u4:=(lq9 O 0);let u3:=(O.l (x.L 17));let u2:=(O.d u3 (lq9 O 3));let u1:=(O.d u3 (O.af .i64 (lq9 O 2) (x.I 2)));let u0:=(O.i (O.d u3 (lq9 O 2)) (O.m u4 (x.I 10)) O.e);(O.c (O.g 105 [] (xr x kM 0)) fun c0=>(O.c (O.g 128 [] [.int (O.h c0 0)]) fun c1=>(O.c (O.b u1 (O.a [.bool u1]) (O.c (O.b u2 (O.g 131 [] (ap O (xr x kM 0) [.int (O.h c0 0)])) (O.a [.int u4])) fun c2=>(O.c (O.b u2 (O.g 131 [] (ap O (xr x kM 0) [.int (O.h c1 0)])) (O.a [.int u4])) fun c3=>(O.a [.bool (O.i u2 (O.m (O.h c2 0) (O.h c3 0)) O.e)])))) fun c2=>(O.b (O.k c2 0) (O.c (O.g 132 [] (ap O (xr x kR 0) (ap O [.int (O.lit .u8 5)] (xr x [0,1,3,0,0,0,0,0] 15)))) fun c3=>(O.a (ap O (xr x kR 0) (ap O [.int (O.lit .u8 5)] (ap O (xr x [0,1,3,0,0] 15) (cr O c3 [0,0,0] 0)))))) (O.c (O.b u0 (O.g 131 [] (ap O (xr x kM 0) [.int (x.I 15)])) (O.a [.int u4])) fun c3=>(O.c (O.b u0 (O.g 128 [] [.int (x.I 15)]) (O.a [.int u4])) fun c4=>(O.c (O.b u0 (O.g 131 [] (ap O (xr x kM 0) [.int (O.h c4 0)])) (O.a [.int u4])) fun c5=>(O.b (O.i u0 (O.t (x.I 10) (O.s .i64 (O.h c3 0) (O.h c5 0))) O.e) (O.a (ap O (xr x kR 0) (ap O [.int (O.lit .u8 4)] (xr x [0,1,3,0,0,0,0,0] 15)))) (O.a (ap O (xr x kR 0) (ap O [.int (O.lit .u8 2)] (xr x [0,1,3,0,0,0,0,0] 15))))))))))))
def Cq (N:Nat):Env:=fun f fns ls=>(cond (Nat.beq f 105&&AF fns []) (Dh N ls) (cond (Nat.beq f 128&&AF fns []) (CM N ls) (cond (Nat.beq f 131&&AF fns []) (FO N ls) (cond (Nat.beq f 132&&AF fns []) (JU N ls) none))))
theorem aM {N ls}:Cq N 105 [] ls=Dh N ls:=id rfl
theorem Ys {N ls}:Cq N 128 [] ls=CM N ls:=id rfl
theorem Ya {N ls}:Cq N 131 [] ls=FO N ls:=id rfl
theorem VM {N ls}:Cq N 132 [] ls=JU N ls:=id rfl
def Ki:=oS WB Kd Cq
def cN:List Nat:=[2,0,0,0,0,0,0,0,1,0,0,0,0,3,0,0,1,3,0,0,0,0,0,0,0,0,0,1,0,0,0,0,0,0,0,1,0,0,0,0,1,0]
def QM (O:Alg) (x:Ags O):O.M:=let u1:=(lq9 O 0);(O.c (O.g 101 [] (xr x kM 0)) fun c0=>(O.c (O.g 102 [] (cr O c0 kM 0)) fun c1=>let u0:=(O.f (O.k c1 0));(O.c (O.b (O.f u0) (O.g 103 [] (xr x [0,0,0,0,1,0,0,0,0,0,0,0,1,0,0,0,0,1,0] 23)) (O.a [.int u1])) fun c2=>(O.b (O.i u0 O.j (O.f (O.d (O.h c2 0) u1))) (O.a (ap O (cr O c0 kM 0) [.int (lq9 O 1)])) (O.b (O.d (O.h c0 14) (O.lit .u8 5)) (O.a (ap O (cr O c0 kM 0) [.int (lq9 O 26)])) (O.c (O.g 101 [] (cr O c0 kM 0)) fun c3=>(O.c (O.g 104 [] (ap O (cr O c3 kM 0) (xr x [0,0,0,0,1,0,0,0,0,0,0,0,1,0,0,0,0,1,0] 23))) fun c4=>(O.b (O.f (O.d (O.h c4 23) u1)) (O.a (ap O (cr O c0 kM 0) [.int (O.h c4 23)])) (O.c (O.b (O.d (O.h c4 14) (O.lit .u8 3)) (O.g 105 [] (cr O c4 kM 0)) (O.a [.int u1,.int u1,.int u1,.int u1,.int u1,.int u1,.int u1,.int u1,.int u1,.int u1,.int u1,.int u1,.int u1,.int u1,.rows O.u,.int u1,.rows O.u,.rows O.u,.bool O.e,.rows O.u,.bool O.e,.int u1,.int u1,.int u1,.rows O.u,.int u1,.int u1,.int (O.lit .u8 0)])) fun c5=>(O.b (O.i (O.d (O.h c4 14) (O.lit .u8 3)) (O.f (O.d (O.h c5 27) (O.lit .u8 0))) O.e) (O.c (O.g 106 [] (cr O c4 kM 0)) fun c6=>(O.a (ap O (cr O c6 kM 0) [.int u1]))) (O.a (ap O (cr O c4 kM 0) [.int u1]))))))))))))
def Ch (N:Nat):Env:=fun f fns ls=>(cond (Nat.beq f 101&&AF fns []) (Rm N ls) (cond (Nat.beq f 102&&AF fns []) (FP N ls) (cond (Nat.beq f 103&&AF fns []) (Ji N ls) (cond (Nat.beq f 104&&AF fns []) (Sl N ls) (cond (Nat.beq f 105&&AF fns []) (Dh N ls) (cond (Nat.beq f 106&&AF fns []) (Ki N ls) none))))))
theorem QB {N ls}:Ch N 101 [] ls=Rm N ls:=id rfl
theorem cR {N ls}:Ch N 102 [] ls=FP N ls:=id rfl
theorem br {N ls}:Ch N 103 [] ls=Ji N ls:=id rfl
theorem Sp {N ls}:Ch N 104 [] ls=Sl N ls:=id rfl
theorem Q0 {N ls}:Ch N 105 [] ls=Dh N ls:=id rfl
theorem Og {N ls}:Ch N 106 [] ls=Ki N ls:=id rfl
def Il:=oS cN QM Ch
def cB:List Nat:=[2,0,0,0,0,0,0,0,1,0,0,0,0,3,0,0,1,3,0,0,0,0,0,3]
def QP (O:Alg) (x:Ags O):O.M:=let u0:=(lq9 O 0);(O.c (O.w (fun s0 c0=>let u1:=(O.h c0 0);(O.b (O.m u1 (O.l (x.L 23))) (O.n (O.r u1 (O.l (x.L 23))) (O.b (O.t (lq9 O 4000) u1) (O.a (ap O [.int u0,.int u1,.int (lq9 O 26)] (cr O c0 kM 1))) (O.c (O.g 83 [] (ap O (cr O c0 kM 1) (rr O (x.L 23) u1 [0,0,0,0,1,0,0,0,0,0,0,0,1,0,0,0,0,1,0] 0))) fun c1=>(O.b (O.f (O.d (O.h c1 23) u0)) (O.a (ap O [.int u0,.int u1,.int (O.h c1 23)] (cr O c0 kM 1))) (s0 (ap O [.int (O.p .i64 u1 (lq9 O 1))] (cr O c1 kM 0))))))) (O.a (ap O [.int (lq9 O 1)] (cr O c0 kM 1))))) (ap O [.int u0] (xr x kM 0))) fun c0=>(O.b (O.aa c0 0) (O.a (ap O (cr O c0 kM 3) [.int (O.h c0 1),.int (O.h c0 2)])) (O.a (ap O (cr O c0 kM 1) [.int (lq9 O (-1)),.int u0]))))
def Hi (N:Nat):Env:=fun f fns ls=>(cond (Nat.beq f 83&&AF fns []) (Il N ls) none)
theorem Qo {N ls}:Hi N 83 [] ls=Il N ls:=id rfl
def Pu:=oS cB QP Hi
def VR:List Nat:=[2,0,0,0,0,0,0,0,1,0,0,0,0,3,3]
def Kw (O:Alg) (x:Ags O):O.M:=let u0:=(lq9 O 0);(O.c (O.g 82 [] (xr x kR 0)) fun c0=>(O.b (O.f (O.d (O.h c0 23) u0)) (O.a [.str (O.v ⟨#[]⟩),.int u0,.int u0,.int u0,.int u0,.int u0,.int u0,.int u0,.bool O.e,.int u0,.int u0,.int u0,.int u0,.rows O.u,.int (O.lit .u8 0),.int u0,.bool O.e,.rows O.u,.int u0,.int u0,.int (O.lit .u8 0),.int u0,.int u0,.int u0,.int (lq9 O 1)]) (O.c (O.g 99 [] (ap O (cr O c0 kM 0) [.rows (x.L 14)])) fun c1=>(O.a (cr O c1 [2,0,0,0,0,0,0,0,1,0,0,0,0,3,0,0,1,3,0,0,0,0,0,0,0] 0)))))
def D7 (N:Nat):Env:=fun f fns ls=>(cond (Nat.beq f 82&&AF fns []) (OZ N ls) (cond (Nat.beq f 99&&AF fns []) (Pu N ls) none))
theorem dL {N ls}:D7 N 82 [] ls=OZ N ls:=id rfl
theorem OI {N ls}:D7 N 99 [] ls=Pu N ls:=id rfl
def Fp:=oS VR Kw D7
def YY:List Nat:=[2,0,0,0,0,0,0,0,1,0,0,0,0,3,3]
def My (O:Alg) (x:Ags O):O.M:=let u0:=(lq9 O 0);(O.c (O.g 80 [] (xr x kR 0)) fun c0=>(O.b (O.f (O.d (O.h c0 0) u0)) (O.a [.int (O.h c0 0)]) (O.b (O.m (lq9 O 4000) (O.l (x.L 14))) (O.a [.int (lq9 O 9)]) (O.c (O.g 81 [] (xr x [2,0,0,0,0,0,0,0,1,0,0,0,0,3,3] 0)) fun c1=>(O.b (O.t u0 (O.h c1 23)) (O.a [.int (lq9 O 10)]) (O.a [.int u0]))))))
def Em (N:Nat):Env:=fun f fns ls=>(cond (Nat.beq f 80&&AF fns []) (Am N ls) (cond (Nat.beq f 81&&AF fns []) (Fp N ls) none))
theorem aN {N ls}:Em N 80 [] ls=Am N ls:=id rfl
theorem YS {N ls}:Em N 81 [] ls=Fp N ls:=id rfl
def Mw:=oS YY My Em
def ck:List Nat:=[2,0,0,0,0,0,0,0,1,0,0,0,0,3,3]
def PD (O:Alg) (x:Ags O):O.M:=let u5:=(lq9 O 0);(O.c (O.g 81 [] (xr x [2,0,0,0,0,0,0,0,1,0,0,0,0,3,3] 0)) fun c0=>let u7:=(O.h c0 23);(O.c (O.b (O.t u5 u7) (O.n (O.am u5 u7 (O.l (x.L 14))) (O.a [.rows (O.ak (x.L 14) u5 u7)])) (O.a [.rows (x.L 14)])) fun c1=>let u10:=(O.o c1 0);let u4:=(O.l u10);(O.c (O.g 82 [] (xr x kR 0)) fun c2=>(O.b (O.f (O.d (O.h c2 23) u5)) (O.a (ap O [.rows O.u] (cr O c0 [2,0,0,0,0,0,0,0,1,0,0,0,0,3,0,0,1,3,0,0,0,0,0,0,0] 0))) (O.c (O.w (fun s3 c3=>let u9:=(O.h c3 1);let u6:=(O.o c3 19);let u3:=(O.l u6);let u2:=(O.p .i64 u9 (lq9 O 1));let u1:=(O.s .i64 u3 (lq9 O 1));(O.b (O.m u9 u4) (O.n (O.r u9 u4) (O.c (O.g 83 [] (ap O (cr O c3 kM 2) (rr O u10 u9 [0,0,0,0,1,0,0,0,0,0,0,0,1,0,0,0,0,1,0] 0))) fun c4=>let u8:=(O.o c4 17);(O.b (O.d (O.q u10 u9 0) (O.lit .u8 4)) (O.n (O.r u1 u3) (O.n (O.r u1 (O.l u8)) (O.c (O.g 84 [] (ap O (xr x kR 0) (rr O u10 u9 [0,0,0,0,0,1,0,0,0,0,1,0] 7))) fun c5=>let u0:=(O.ac (O.o c3 0) (O.ab [(ap O [.int u9,.int u1,.int (O.q u6 u1 10),.int (O.q u6 u1 11),.int (O.q u6 u1 15),.int (O.q u6 u1 12),.int (O.q u6 u1 13),.bool (O.rB u6 u1 20)] (ap O (rr O u10 u9 [0,0,0,0,0,1,0,0,0,0,1,0] 7) (ap O (cr O c5 [0,0,0,0,0,0,1,1,1,1] 0) [.int (O.q u8 u1 3),.int (O.q u8 u1 4)])))]));(O.n (O.z (O.l u0) 216) (s3 (ap O [.rows u0,.int u2] (cr O c4 kM 0))))))) (s3 (ap O [.rows (O.o c3 0),.int u2] (cr O c4 kM 0)))))) (O.a [.rows (O.o c3 0)]))) (ap O [.rows O.u,.int u5] (cr O c2 kM 0))) fun c3=>(O.a (ap O [.rows (O.o c3 0)] (cr O c0 [2,0,0,0,0,0,0,0,1,0,0,0,0,3,0,0,1,3,0,0,0,0,0,0,0] 0))))))))
def Db (N:Nat):Env:=fun f fns ls=>(cond (Nat.beq f 81&&AF fns []) (Fp N ls) (cond (Nat.beq f 82&&AF fns []) (OZ N ls) (cond (Nat.beq f 83&&AF fns []) (Il N ls) (cond (Nat.beq f 84&&AF fns []) (Hb N ls) none))))
theorem Zz {N ls}:Db N 81 [] ls=Fp N ls:=id rfl
theorem jB {N ls}:Db N 82 [] ls=OZ N ls:=id rfl
theorem Qr {N ls}:Db N 83 [] ls=Il N ls:=id rfl
theorem Oe {N ls}:Db N 84 [] ls=Hb N ls:=id rfl
def PJ:=oS ck PD Db
def fU:List Nat:=[3]
def Pj (O:Alg) (x:Ags O):O.M:=let u4:=(O.l (x.L 0));(O.c (O.w (fun s0 c0=>let u6:=(O.o c0 0);let u5:=(O.h c0 1);let u3:=(O.l u6);let u2:=(O.p .i64 u5 (lq9 O 1));let u1:=(O.s .i64 u3 (lq9 O 1));(O.b (O.m u5 u4) (O.n (O.r u5 u4) (O.b (O.d (O.q (x.L 0) u5 0) (O.lit .u8 2)) (O.c (O.b (O.m (lq9 O 0) u3) (O.n (O.r u1 u3) (O.a [.rows (O.y u6 u1 1 [.int u5])])) (O.a [.rows u6])) fun c1=>let u0:=(O.ac (O.o c1 0) (O.ab [[.int u5,.int u4]]));(O.n (O.z (O.l u0) 16) (s0 [.rows u0,.int u2]))) (s0 [.rows u6,.int u2]))) (O.a [.rows u6]))) [.rows (O.ab []),.int (lq9 O 0)]) fun c0=>(O.a [.rows (O.o c0 0)]))
def aF:Nat→Env:=eL []
def Kc:=oS fU Pj aF
def kK:List Nat:=[3]
def R9 (O:Alg) (x:Ags O):O.M:=let u2:=(lq9 O 1);let u1:=(lq9 O 0);(O.c (O.w (fun s0 c0=>let u3:=(O.h c0 0);let u0:=(O.q (x.L 0) u3 1);(O.b (O.m u3 (O.l (x.L 0))) (O.n (O.r u3 (O.l (x.L 0))) (O.b (O.d (O.q (x.L 0) u3 0) (O.lit .u8 1)) (O.b (O.rB (x.L 0) u3 4) (O.a [.int u1,.int u0]) (O.a [.int u1,.int (O.s .i64 (lq9 O 3) u0)])) (s0 [.int (O.p .i64 u3 u2)]))) (O.a [.int u2]))) [.int u1]) fun c0=>(O.b (O.aa c0 0) (O.a [.int (O.h c0 1)]) (O.a [.int u2])))
def de:Nat→Env:=eL []
def Mh:=oS kK R9 de
def kW:List Nat:=[3]
def Ry (O:Alg) (x:Ags O):O.M:=let u4:=(lq9 O 1);(O.c (O.w (fun s0 c0=>let u5:=(O.h c0 1);(O.b (O.m u5 (O.l (x.L 0))) (O.n (O.r u5 (O.l (x.L 0))) (s0 [.bool (O.i (O.k c0 0) O.j (O.i (O.d (O.q (x.L 0) u5 0) (O.lit .u8 12)) (O.rB (x.L 0) u5 4) O.e)),.int (O.p .i64 u5 u4)])) (O.a [.bool (O.k c0 0)]))) [.bool O.e,.int (lq9 O 0)]) fun c0=>(O.c (O.g 85 [] [.rows (x.L 0)]) fun c1=>(O.c (O.g 76 [] [.rows (x.L 0)]) fun c2=>(O.c (O.w (fun s3 c3=>let u7:=(O.o c3 0);let u6:=(O.h c3 1);let u3:=(O.d u6 (lq9 O 2));let u2:=(O.p .i64 u6 u4);let u1:=(O.ac u7 (O.ab [[.int (O.h c1 0)]]));let u0:=(O.ac u7 (O.ab [[.int (O.s .i64 (lq9 O 3) (O.h c1 0))]]));(O.b (O.m u6 (O.l (O.o c2 0))) (O.c (O.b (O.i (O.k c0 0) (O.i u3 O.j (O.d u6 (lq9 O 3))) O.e) (O.a [.bool u3]) (O.a [.bool (O.d (O.al .i64 u6 (lq9 O 2)) u4)])) fun c4=>(O.b (O.k c4 0) (O.n (O.z (O.l u0) 8) (s3 [.rows u0,.int u2])) (O.n (O.z (O.l u1) 8) (s3 [.rows u1,.int u2])))) (O.a [.rows u7]))) [.rows (O.ab []),.int (lq9 O 0)]) fun c3=>(O.a [.rows (O.o c3 0)])))))
def NX:Nat→Env:=eL [(76,Kc),(85,Mh)]
theorem YD {N ls}:NX N 76 [] ls=Kc N ls:=id rfl
theorem ZM {N ls}:NX N 85 [] ls=Mh N ls:=id rfl
def SR:=oS kW Ry NX
def Pr:List Nat:=[2,0,0,0,0,0,0,0,1,0,0,0,0,3,3]
def GS (O:Alg) (x:Ags O):O.M:=let u11:=(lq9 O 1);let u10:=(lq9 O 0);(O.c (O.g 48 [] (xr x [2,0,0,0,0,0,0,0,1,0,0,0,0,3,3] 0)) fun c0=>(O.b (O.f (O.d (O.h c0 0) u10)) (O.a [.rows O.u,.int (O.h c0 0)]) (O.c (O.g 49 [] (xr x [2,0,0,0,0,0,0,0,1,0,0,0,0,3,3] 0)) fun c1=>let u13:=(O.o c1 0);let u8:=(O.l u13);(O.c (O.g 50 [] [.rows (x.L 14)]) fun c2=>let u9:=(O.l (O.o c2 0));(O.c (O.w (fun s3 c3=>let u14:=(O.h c3 1);let u7:=(O.q u13 u14 1);let u5:=(O.q u13 u14 4);let u4:=(O.p .i64 u14 u11);(O.b (O.m u14 u8) (O.n (O.r u14 u8) (O.c (O.c (O.w (fun s4 c4=>let u15:=(O.h c4 0);let u12:=(O.h c4 1);let u6:=(O.q u13 u12 1);let u3:=(O.s .i64 u12 u11);let u2:=(O.f (O.d (O.q u13 u12 4) u5));let u1:=(O.f u2);(O.b (O.t u10 u12) (O.n (O.r u12 u8) (O.n (O.f (O.x u1 (O.f (O.r u6 u9)))) (O.n (O.f (O.x u1 (O.f (O.r u7 u9)))) (O.b (O.i u2 O.j (O.f (O.d (O.q (O.o c2 0) u6 0) (O.q (O.o c2 0) u7 0)))) (s4 [.int u15,.int u3]) (O.b (O.f (O.rB u13 u12 28)) (O.a [.int u15,.int u12]) (s4 [.int (O.p .i64 u15 u11),.int u3])))))) (O.a [.int u15,.int u12]))) [.int u10,.int u14]) fun c4=>(O.a [.int (O.h c4 0),.int (O.h c4 1)])) fun c4=>let u0:=(O.ac (O.o c3 0) (O.ab [[.int (lq9 O 5),.int u5,.int (O.h c4 0),.int (O.q u13 u14 0)]]));(O.b (O.t (lq9 O 3) (O.h c4 0)) (O.n (O.z (O.l u0) 32) (s3 [.rows u0,.int u4])) (s3 [.rows (O.o c3 0),.int u4])))) (O.a [.rows (O.o c3 0)]))) [.rows (O.ab []),.int u10]) fun c3=>(O.a [.rows (O.o c3 0),.int u10]))))))
def CQ (N:Nat):Env:=fun f fns ls=>(cond (Nat.beq f 48&&AF fns []) (Mw N ls) (cond (Nat.beq f 49&&AF fns []) (PJ N ls) (cond (Nat.beq f 50&&AF fns []) (SR N ls) none)))
theorem UH {N ls}:CQ N 48 [] ls=Mw N ls:=id rfl
theorem Vn {N ls}:CQ N 49 [] ls=PJ N ls:=id rfl
theorem Ut {N ls}:CQ N 50 [] ls=SR N ls:=id rfl
def Gf:=oS Pr GS CQ
def Qw:List Nat:=[3,3]
def F4 (O:Alg) (x:Ags O):O.M:=let u0:=(O.l (x.L 0));(O.b (O.f (O.d u0 (O.l (x.L 1)))) (O.a [.bool O.e]) (O.c (O.w (fun s0 c0=>let u1:=(O.h c0 0);(O.b (O.m u1 u0) (O.n (O.r u1 u0) (O.n (O.r u1 (O.l (x.L 1))) (O.b (O.f (O.x (O.d (O.q (x.L 0) u1 0) (O.q (x.L 1) u1 0)) (O.x (O.d (O.q (x.L 0) u1 1) (O.q (x.L 1) u1 1)) (O.x (O.d (O.q (x.L 0) u1 2) (O.q (x.L 1) u1 2)) (O.d (O.q (x.L 0) u1 3) (O.q (x.L 1) u1 3)))))) (O.a [.int (lq9 O 0),.bool O.e]) (s0 [.int (O.p .i64 u1 (lq9 O 1))])))) (O.a [.int (lq9 O 1)]))) [.int (lq9 O 0)]) fun c0=>(O.b (O.aa c0 0) (O.a [.bool (O.k c0 1)]) (O.a [.bool O.j]))))
def OV:Nat→Env:=eL []
def F3:=oS Qw F4 OV
def HG:List Nat:=[2,0,0,0,0,0,0,0,1,0,0,0,0,3,3]
def DB (O:Alg) (x:Ags O):O.M:=(O.c (O.g 8 [] []) fun c0=>(O.b (O.f (O.k c0 0)) (O.a [.bool O.e]) (O.c (O.g 18 [] [.rows (x.L 14)]) fun c1=>(O.c (O.g 22 [] (ap O (xr x kR 0) [.rows (O.o c1 0)])) fun c2=>(O.c (O.g 23 [] (ap O (xr x kR 0) [.rows (O.o c1 0)])) fun c3=>(O.c (O.g 24 [] [.rows (O.o c2 0),.rows (O.o c3 0)]) fun c4=>(O.a [.bool (O.i (O.k c4 0) (O.d (O.h c2 1) (O.h c3 1)) O.e)])))))))
def A4 (N:Nat):Env:=fun f fns ls=>(cond (Nat.beq f 8&&AF fns []) (Mu N ls) (cond (Nat.beq f 18&&AF fns []) (TE N ls) (cond (Nat.beq f 22&&AF fns []) (D0 N ls) (cond (Nat.beq f 23&&AF fns []) (Gf N ls) (cond (Nat.beq f 24&&AF fns []) (F3 N ls) none)))))
theorem Nu {N ls}:A4 N 8 [] ls=Mu N ls:=id rfl
theorem PE {N ls}:A4 N 18 [] ls=TE N ls:=id rfl
theorem I7 {N ls}:A4 N 22 [] ls=D0 N ls:=id rfl
theorem LP {N ls}:A4 N 23 [] ls=Gf N ls:=id rfl
theorem I2 {N ls}:A4 N 24 [] ls=F3 N ls:=id rfl
def DD:=oS HG DB A4
end Go.Px
