/- Part 9. -/
import Derived.Test.YtejjoflbpnjohaaGreatDoorPart07
set_option linter.unusedVariables false
set_option linter.unusedSimpArgs false
namespace Go.Px
set_option maxRecDepth 100000
def Tx:List Nat:=[3]
def lq9 (O:Alg) (n:Int):O.I:=O.lit .i64 n
def Ki (O:Alg) (x:Ags O):O.M:=let u4:=(O.l (x.L 0));(O.c (O.w (fun s0 c0=>let u6:=(O.p c0 0);let u5:=(O.d c0 1);let u3:=(O.l u6);let u2:=(O.q .i64 u5 (lq9 O 1));let u1:=(O.v .i64 u3 (lq9 O 1));(O.b (O.n u5 u4) (O.k (O.r u5 u4) (O.b (O.h (O.e (O.o (x.L 0) u5 0) (O.lit .u8 2))) (s0 [.rows u6,.int u2]) (O.c (O.b (O.n (lq9 O 0) u3) (O.k (O.r u1 u3) (O.a [.rows (O.x u6 u1 1 [.int u5])])) (O.a [.rows u6])) fun c1=>let u0:=(O.ad (O.p c1 0) (O.ac [[.int u5,.int u4]]));(O.k (O.u (O.l u0) 16) (s0 [.rows u0,.int u2]))))) (O.a [.rows u6]))) [.rows O.y,.int (lq9 O 0)]) fun c0=>(O.a [.rows (O.p c0 0)]))
def Rj:Nat→Env:=eL []
def BR:=oS Tx Ki Rj
def Yx:List Nat:=[2]
def Om (O:Alg) (x:Ags O):O.M:=let u4:=(lq9 O 1);let u3:=(lq9 O 0);let u2:=(O.al (x.S 0));let u1:=(O.l u2);(O.c (O.w (fun s0 c0=>let u5:=(O.d c0 0);let u0:=(O.o u2 u5 0);(O.b (O.n u5 u1) (O.k (O.r u5 u1) (O.b (O.i (O.h (O.i (O.t (O.lit .u8 65) u0) (O.t u0 (O.lit .u8 90)) O.f)) (O.i (O.e u5 u3) O.j (O.i (O.i (O.h (O.e u0 (O.lit .u8 95))) (O.h (O.e u0 (O.lit .u8 45))) O.f) (O.i (O.n u0 (O.lit .u8 48)) O.j (O.n (O.lit .u8 57) u0)) O.f)) O.f) (O.a [.int u3,.bool O.f]) (s0 [.int (O.q .i64 u5 u4)]))) (O.a [.int u4]))) [.int u3]) fun c0=>(O.b (O.z c0 0) (O.a [.bool (O.m c0 1)]) (O.a [.bool (O.i (O.t u4 (O.ae (x.S 0))) (O.t (O.ae (x.S 0)) (lq9 O 16)) O.f)])))
def WZ:Nat→Env:=eL []
def Gk:=oS Yx Om WZ
def Sj:List Nat:=[0,0,0]
def SY (O:Alg) (x:Ags O):O.M:=(O.a [.bool (O.i (O.t (x.I 1) (x.I 0)) (O.t (x.I 0) (x.I 2)) O.f)])
def Yp:Nat→Env:=eL []
def Cq:=oS Sj SY Yp
def S6:List Nat:=[2,0,0,0,0,0,0,0,1,0,0,0,0,3]
def I9 (O:Alg) (x:Ags O):O.M:=let u10:=(lq9 O 1);let u9:=(lq9 O 0);(O.c (O.g 104 [] [.int (x.I 1),.int (lq9 O 2),.int (lq9 O 11)]) fun c0=>(O.c (O.b (O.m c0 0) (O.g 104 [] [.int (x.I 2),.int u10,.int (lq9 O 2)]) (O.a [.bool O.f])) fun c1=>let u8:=(O.i (O.m c0 0) (O.m c1 0) O.f);(O.c (O.b u8 (O.g 104 [] [.int (x.I 3),.int u9,.int (lq9 O 90)]) (O.a [.bool O.f])) fun c2=>let u7:=(O.i u8 (O.m c2 0) O.f);(O.c (O.b u7 (O.g 104 [] [.int (x.I 4),.int (lq9 O 4),.int (lq9 O 8)]) (O.a [.bool O.f])) fun c3=>let u6:=(O.i u7 (O.m c3 0) O.f);(O.c (O.b u6 (O.g 104 [] [.int (x.I 5),.int u9,.int (lq9 O 90)]) (O.a [.bool O.f])) fun c4=>let u5:=(O.i u6 (O.m c4 0) O.f);(O.c (O.b u5 (O.g 104 [] [.int (x.I 6),.int u10,.int (lq9 O 5)]) (O.a [.bool O.f])) fun c5=>let u4:=(O.i u5 (O.m c5 0) O.f);(O.c (O.b u4 (O.g 104 [] [.int (x.I 7),.int u10,.int (lq9 O 5)]) (O.a [.bool O.f])) fun c6=>let u3:=(O.i u4 (O.m c6 0) O.f);(O.c (O.b u3 (O.g 104 [] [.int (x.I 9),.int u9,.int (lq9 O 200)]) (O.a [.bool O.f])) fun c7=>let u2:=(O.i u3 (O.m c7 0) O.f);(O.c (O.b u2 (O.g 104 [] [.int (x.I 10),.int u9,.int (lq9 O 1000)]) (O.a [.bool O.f])) fun c8=>let u1:=(O.i u2 (O.m c8 0) O.f);(O.c (O.b u1 (O.g 104 [] [.int (x.I 11),.int u9,.int (lq9 O 9)]) (O.a [.bool O.f])) fun c9=>let u0:=(O.i u1 (O.m c9 0) O.f);(O.c (O.b u0 (O.g 104 [] [.int (x.I 12),.int u9,.int (lq9 O 11)]) (O.a [.bool O.f])) fun c10=>(O.a [.bool (O.i u0 (O.m c10 0) O.f)]))))))))))))
def Kt:Nat→Env:=eL [(104,Cq)]
def GX:=oS S6 I9 Kt
def UV:List Nat:=[2,0,0,0,0,0,0,0,1,0,0,0,0,3]
def KC (O:Alg) (x:Ags O):O.M:=let u7:=(lq9 O 1);let u6:=(lq9 O 0);let u5:=(O.l (x.L 13));(O.b (O.n (lq9 O 8) u5) (O.a [.int (lq9 O 9)]) (O.c (O.w (fun s0 c0=>let u8:=(O.d c0 0);let u4:=(O.o (x.L 13) u8 1);let u3:=(O.o (x.L 13) u8 0);let u2:=(O.n u6 u8);let u1:=(O.v .i64 u8 u7);let u0:=(O.i (O.i (O.n u3 u7) O.j (O.n u4 u3)) O.j (O.n (x.I 3) u4));(O.b (O.n u8 u5) (O.k (O.r u8 u5) (O.c (O.b (O.h u0) (O.g 104 [] [.int (O.o (x.L 13) u8 2),.int u6,.int (lq9 O 11)]) (O.a [.bool O.f])) fun c1=>(O.b (O.i u0 O.j (O.h (O.m c1 0))) (O.a [.int u6,.int (lq9 O 2)]) (O.k (O.h (O.ab u2 (O.h (O.r u1 u5)))) (O.b (O.i u2 (O.t u3 (O.o (x.L 13) u1 1)) O.f) (O.a [.int u6,.int (lq9 O 8)]) (s0 [.int (O.q .i64 u8 u7)])))))) (O.a [.int u7]))) [.int u6]) fun c0=>(O.b (O.z c0 0) (O.a [.int (O.d c0 1)]) (O.a [.int u6]))))
def L8:Nat→Env:=eL [(104,Cq)]
def HM:=oS UV KC L8
def Wf:List Nat:=[2,0,0,0,0,0,0,0,1,0,0,0,0,3]
def Lc (O:Alg) (x:Ags O):O.M:=let u2:=(lq9 O 0);let u1:=(O.h (O.e (x.I 5) u2));let u0:=(O.i (O.h (O.e (x.I 10) u2)) (O.e (x.I 2) (lq9 O 1)) O.f);(O.c (O.g 73 [] [.str (x.S 0)]) fun c0=>(O.b (O.h (O.m c0 0)) (O.a [.int (lq9 O 5)]) (O.c (O.g 89 [] (xr x kR 0)) fun c1=>(O.b (O.h (O.m c1 0)) (O.a [.int (lq9 O 2)]) (O.c (O.b u0 (O.a [.bool u0]) (O.a [.bool (O.i (O.i u1 O.j (O.n u2 (O.l (x.L 13)))) (O.e (x.I 3) u2) O.f)])) fun c2=>(O.b (O.m c2 0) (O.a [.int (lq9 O 1)]) (O.b (O.i u1 (O.n (O.ai .i64 (x.I 5) (x.I 1)) (x.I 3)) O.f) (O.a [.int (lq9 O 13)]) (O.c (O.g 90 [] (xr x kR 0)) fun c3=>(O.a [.int (O.d c3 0)])))))))))
def GA:Nat→Env:=eL [(73,Gk),(89,GX),(90,HM)]
def AY:=oS Wf Lc GA
def DI (N:Nat) (ls:List PV):Option (List PV):=PO 24 ls
def WS:List Nat:=[2,0,0,0,0,0,0,0,1,0,0,0,0,3]
def LR (O:Alg) (x:Ags O):O.M:=(O.c (O.g 105 [] [.rows (x.L 13)]) fun c0=>(O.a (ap O (xr x [2,0,0,0,0,0,0,0,1,0,0,0,0] 0) [.rows (O.p c0 0)])))
def NU:Nat→Env:=eL [(105,DI)]
theorem Lz {N ls}:NU N 105 [] ls=DI N ls:=id rfl
def DV:=oS WS LR NU
def Y4:List Nat:=[2,0,0,0,0,0,0,0,1,0,0,0,0,3]
def Ol (O:Alg) (x:Ags O):O.M:=let u0:=(lq9 O 0);(O.c (O.g 61 [] (xr x kR 0)) fun c0=>(O.b (O.h (O.e (O.d c0 0) u0)) (O.a [.str (O.s ⟨#[]⟩),.int u0,.int u0,.int u0,.int u0,.int u0,.int u0,.int u0,.bool O.f,.int u0,.int u0,.int u0,.int u0,.rows O.y,.int (O.lit .u8 0),.int u0,.bool O.f,.rows O.y,.int u0,.int u0,.int (O.lit .u8 0),.int u0,.int u0,.int (O.d c0 0)]) (O.c (O.g 91 [] (xr x kR 0)) fun c1=>(O.a (ap O (cr O c1 kR 0) [.int (O.lit .u8 1),.int u0,.bool O.f,.rows O.y,.int u0,.int u0,.int (O.lit .u8 0),.int u0,.int u0,.int u0])))))
def Ld:Nat→Env:=eL [(61,AY),(91,DV)]
theorem SR {N ls}:Ld N 61 [] ls=AY N ls:=id rfl
theorem SL {N ls}:Ld N 91 [] ls=DV N ls:=id rfl
def Ov:=oS Y4 Ol Ld
def QB:List Nat:=[0,0,0]
def QC (O:Alg) (x:Ags O):O.M:=(O.a [.bool (O.i (O.t (x.I 1) (x.I 0)) (O.t (x.I 0) (x.I 2)) O.f)])
def Wx:Nat→Env:=eL []
def Ao:=oS QB QC Wx
def QH:List Nat:=[0,0,0,0,0,0,0,0,0,0,0,0,0,0,3,0,3,3,1,3,1,0,0,0,3,0,0,0,0]
def G2 (O:Alg) (x:Ags O):O.M:=let u5:=(lq9 O 1);let u4:=(lq9 O 0);let u0:=(O.h (O.e (x.I 12) u4));(O.c (O.w (fun s0 c0=>let u8:=(O.d c0 1);let u7:=(O.d c0 0);let u6:=(O.d c0 3);let u2:=(O.o (x.L 14) u6 0);let u9:=(O.i (O.m c0 2) O.j (O.h (O.e u2 (O.lit .u8 0))));let u1:=(O.q .i64 u6 u5);(O.b (O.n u6 (O.l (x.L 14))) (O.k (O.r u6 (O.l (x.L 14))) (O.b (O.n (O.lit .u8 3) u2) (O.a [.int u4,.bool O.f]) (O.b (O.e u2 (O.lit .u8 1)) (O.b (O.i (O.h (O.e (x.I 12) u1)) (O.h (O.e (x.I 13) u1)) O.f) (O.a [.int u4,.bool O.f]) (s0 [.int u7,.int (O.q .i64 u8 u5),.bool u9,.int u1])) (O.b (O.e u2 (O.lit .u8 2)) (s0 [.int (O.q .i64 u7 u5),.int u8,.bool u9,.int u1]) (s0 [.int u7,.int u8,.bool u9,.int u1]))))) (O.a (ap O [.int u5] (cr O c0 [0,0,1] 0))))) [.int u4,.int u4,.bool O.f,.int u4]) fun c0=>(O.b (O.z c0 0) (O.a [.bool (O.m c0 1)]) (O.c (O.g 159 [] [.int (x.I 12),.int u4,.int (x.I 28)]) fun c1=>let u3:=(O.h (O.m c1 0));(O.c (O.b (O.h u3) (O.g 159 [] [.int (x.I 13),.int u4,.int (x.I 28)]) (O.a [.bool O.f])) fun c2=>(O.b (O.i (O.i u3 O.j (O.h (O.m c2 0))) O.j (O.i (O.e (x.I 12) (x.I 13)) u0 O.f)) (O.a [.bool O.f]) (O.c (O.b u0 (O.a [.int (O.q .i64 u4 u5)]) (O.a [.int u4])) fun c3=>(O.c (O.b (O.h (O.e (x.I 13) u4)) (O.a [.int (O.q .i64 (O.d c3 0) u5)]) (O.a [.int (O.d c3 0)])) fun c4=>(O.a [.bool (O.i (O.i (O.e (O.d c4 0) (O.d c0 2)) (O.i (O.h (O.m c0 3)) O.j (O.n u4 (O.d c4 0))) O.f) (O.e (O.d c0 1) (x.I 4)) O.f)]))))))))
def Iw:Nat→Env:=eL [(159,Ao)]
def Eb:=oS QH G2 Iw
def PP:List Nat:=[3,0]
def GL (O:Alg) (x:Ags O):O.M:=(O.c (O.w (fun s0 c0=>let u0:=(O.d c0 0);(O.b (O.n u0 (O.l (x.L 0))) (O.k (O.r u0 (O.l (x.L 0))) (O.b (O.e (x.I 1) (O.o (x.L 0) u0 0)) (O.a [.int (lq9 O 0),.int u0]) (s0 [.int (O.q .i64 u0 (lq9 O 1))]))) (O.a [.int (lq9 O 1)]))) [.int (lq9 O 0)]) fun c0=>(O.b (O.z c0 0) (O.a [.int (O.d c0 1)]) (O.a [.int (lq9 O (-1))])))
def Mq:Nat→Env:=eL []
def EA:=oS PP GL Mq
def MX:List Nat:=[3,0]
def EK (O:Alg) (x:Ags O):O.M:=(O.c (O.g 198 [] [.rows (x.L 0),.int (x.I 1)]) fun c0=>(O.a [.bool (O.t (lq9 O 0) (O.d c0 0))]))
def Fm:Nat→Env:=eL [(198,EA)]
def Au:=oS MX EK Fm
def Nr:List Nat:=[3,0]
def FW (O:Alg) (x:Ags O):O.M:=let u5:=(lq9 O 1);let u4:=(lq9 O 0);let u3:=(O.l (x.L 0));(O.c (O.w (fun s0 c0=>let u6:=(O.d c0 0);let u1:=(O.o (x.L 0) u6 0);(O.b (O.n u6 u3) (O.k (O.r u6 u3) (O.c (O.g 159 [] [.int u1,.int u5,.int (x.I 1)]) fun c1=>let u2:=(O.h (O.m c1 0));let u0:=(O.h u2);(O.k (O.h (O.ab u0 (O.h (O.am u4 u6 u3)))) (O.c (O.b u0 (O.g 184 [] [.rows (O.ao (x.L 0) u4 u6),.int u1]) (O.a [.bool O.f])) fun c2=>(O.b (O.i u2 O.j (O.m c2 0)) (O.a [.int u4,.bool O.f]) (s0 [.int (O.q .i64 u6 u5)])))))) (O.a [.int u5]))) [.int u4]) fun c0=>(O.b (O.z c0 0) (O.a [.bool (O.m c0 1)]) (O.a [.bool O.j])))
def EH:Nat→Env:=eL [(159,Ao),(184,Au)]
def Da:=oS Nr FW EH
def Np:List Nat:=[0]
def Fb (O:Alg) (x:Ags O):O.M:=(O.c (O.g 159 [] [.int (x.I 0),.int (lq9 O 0),.int (lq9 O 1000000000)]) fun c0=>(O.a [.bool (O.h (O.m c0 0))]))
def HH:Nat→Env:=eL [(159,Ao)]
def Dd:=oS Np Fb HH
def P5:List Nat:=[0,0,0,0,0,0,0,0,0,0,0,0,0,0,3,0,3,3,1,3,1,0,0,0,3,0,0,0]
def Gz (O:Alg) (x:Ags O):O.M:=let u2:=(lq9 O 0);let u1:=(O.ad (O.ac [[.int (x.I 1)],[.int (x.I 3)],[.int (x.I 5)],[.int (x.I 6)],[.int (x.I 7)],[.int (x.I 8)],[.int (x.I 9)],[.int (x.I 10)],[.int (x.I 21)],[.int (x.I 23)],[.int (x.I 25)],[.int (x.I 26)]]) (x.L 19));let u0:=(O.l u1);(O.k (O.u u0 8) (O.c (O.c (O.w (fun s0 c0=>let u3:=(O.d c0 0);(O.b (O.n u3 u0) (O.k (O.r u3 u0) (O.c (O.g 186 [] [.int (O.o u1 u3 0)]) fun c1=>(O.b (O.m c1 0) (O.a [.int u2,.int u3]) (s0 [.int (O.q .i64 u3 (lq9 O 1))])))) (O.a [.int (lq9 O 1)]))) [.int u2]) fun c0=>(O.b (O.z c0 0) (O.a [.int (O.d c0 1)]) (O.a [.int (lq9 O (-1))]))) fun c0=>(O.a [.bool (O.h (O.t u2 (O.d c0 0)))])))
def Ix:Nat→Env:=eL [(186,Dd)]
def Ed:=oS P5 Gz Ix
def SX:List Nat:=[2,0,0,0,0,0,0,0,1,0,0,0,0,3,0,0,0,0,0,0,0,0,0,0,0,0,0,0,3,0,3,3,1,3,1,0,0,0,3,0,0,0]
def JO (O:Alg) (x:Ags O):O.M:=let u11:=(lq9 O 1);let u10:=(lq9 O 0);let u8:=(O.e (x.I 3) u10);let u7:=(O.h u8);let u4:=(O.i u8 (O.e (x.I 16) u10) O.f);(O.c (O.g 61 [] (xr x kR 0)) fun c0=>let u6:=(O.h (O.e (O.d c0 0) u10));(O.c (O.b (O.h u6) (O.g 159 [] [.int (x.I 14),.int u11,.int (lq9 O 2)]) (O.a [.bool O.f])) fun c1=>(O.b (O.i u6 O.j (O.h (O.m c1 0))) (O.a [.bool O.f]) (O.b (O.i (O.i (O.i (O.h (O.e (O.l (x.L 28)) (x.I 1))) O.j (O.h (O.e (O.l (x.L 33)) (x.I 1)))) O.j (O.h (O.e (O.l (x.L 38)) (x.I 1)))) O.j (O.n (O.lit .u8 5) (x.I 41))) (O.a [.bool O.f]) (O.c (O.g 160 [] (ap O (xr x kI 14) [.int (x.I 1)])) fun c2=>let u9:=(O.h (O.m c2 0));(O.c (O.b (O.h u9) (O.g 159 [] [.int (x.I 29),.int u10,.int (x.I 1)]) (O.a [.bool O.f])) fun c3=>let u5:=(O.i u9 O.j (O.h (O.m c3 0)));(O.c (O.b (O.h u5) (O.g 159 [] [.int (x.I 36),.int u10,.int (x.I 1)]) (O.a [.bool O.f])) fun c4=>let u3:=(O.i u5 O.j (O.h (O.m c4 0)));(O.c (O.b (O.h u3) (O.g 161 [] [.rows (x.L 30),.int (x.I 1)]) (O.a [.bool O.f])) fun c5=>let u2:=(O.i u3 O.j (O.h (O.m c5 0)));(O.c (O.b (O.h u2) (O.g 161 [] [.rows (x.L 31),.int (x.I 1)]) (O.a [.bool O.f])) fun c6=>(O.b (O.i u2 O.j (O.h (O.m c6 0))) (O.a [.bool O.f]) (O.c (O.b (O.ab (O.h u4) u7) (O.g 159 [] [.int (x.I 16),.int u11,.int (x.I 3)]) (O.a [.bool O.f])) fun c7=>let u1:=(O.i u4 O.j (O.i u7 (O.m c7 0) O.f));(O.c (O.b u1 (O.g 159 [] [.int (x.I 25),.int u10,.int (O.v .i64 (x.I 4) u11)]) (O.a [.bool O.f])) fun c8=>let u0:=(O.i u1 (O.m c8 0) O.f);(O.c (O.b u0 (O.g 162 [] (xr x kI 14)) (O.a [.bool O.f])) fun c9=>(O.a [.bool (O.i u0 (O.m c9 0) O.f)]))))))))))))))
def Cm:Nat→Env:=eL [(61,AY),(159,Ao),(160,Eb),(161,Da),(162,Ed)]
def BS:=oS SX JO Cm
def V7:List Nat:=[0]
def LZ (O:Alg) (x:Ags O):O.M:=(O.a [.int (O.v .i64 (lq9 O 3) (x.I 0))])
def S1:Nat→Env:=eL []
def BU:=oS V7 LZ S1
def WD:List Nat:=[2,0,0,0,0,0,0,0,1,0,0,0,0,3,0,0,1,3,0,0,0,0,0,0]
def Ll (O:Alg) (x:Ags O):O.M:=let u0:=(lq9 O 2);(O.c (O.b (O.i (x.B 16) (O.t u0 (x.I 23)) O.f) (O.a [.bool (O.e (x.I 23) u0)]) (O.a [.bool (O.e (O.ar .i64 (x.I 23) u0) (lq9 O 1))])) fun c0=>(O.b (O.m c0 0) (O.c (O.g 135 [] [.int (x.I 15)]) fun c1=>(O.a [.int (O.d c1 0)])) (O.a [.int (x.I 15)])))
def NK:Nat→Env:=eL [(135,BU)]
theorem Qf {N ls}:NK N 135 [] ls=BU N ls:=id rfl
def DU:=oS WD Ll NK
def V1:List Nat:=[2,0,0,0,0,0,0,0,1,0,0,0,0,3,0,0,1,3,0,0,0,0,0]
def LW (O:Alg) (x:Ags O):O.M:=let u2:=(lq9 O 0);let u1:=(lq9 O 1);let u0:=(O.l (x.L 17));(O.c (O.w (fun s0 c0=>let u3:=(O.d c0 0);(O.b (O.n u3 u0) (O.k (O.r u3 u0) (O.b (O.h (O.aj (O.e (O.o (x.L 17) u3 27) (O.lit .u8 0)) (O.i (O.e (x.I 14) (O.lit .u8 3)) (O.e u3 (O.v .i64 u0 u1)) O.f))) (O.a [.int u2,.bool O.f]) (s0 [.int (O.q .i64 u3 u1)]))) (O.a [.int u1]))) [.int u2]) fun c0=>(O.b (O.z c0 0) (O.a [.bool (O.m c0 1)]) (O.a [.bool (O.i (O.h (O.e (x.I 14) (O.lit .u8 3))) O.j (O.n u2 u0))])))
def Sb:Nat→Env:=eL []
def IR:=oS V1 LW Sb
def WO:List Nat:=[2,0,0,0,0,0,0,0,1,0,0,0,0,3,0,0,1,3,0,0,0,0,0]
def Le (O:Alg) (x:Ags O):O.M:=let u8:=(lq9 O 1);let u9:=(O.e (x.I 14) (O.lit .u8 1));let u7:=(lq9 O 2);let u6:=(lq9 O 0);let u5:=(O.l (x.L 17));let u3:=(O.e (x.I 15) u6);let u2:=(O.ai .i64 u7 (x.I 2));let u1:=(O.h (O.e (x.I 2) u7));(O.c (O.g 61 [] (xr x kR 0)) fun c0=>(O.b (O.i (O.i (O.h (O.e (O.d c0 0) u6)) O.j (O.n (x.I 14) (O.lit .u8 1))) O.j (O.n (O.lit .u8 5) (x.I 14))) (O.a [.bool O.f]) (O.c (O.w (fun s1 c1=>let u11:=(O.d c1 0);let u0:=(O.ah (O.e u11 u8) (x.I 19) (x.I 18));(O.b (O.n u11 u7) (O.k (O.r u11 u7) (O.b (O.i (O.n u0 u6) O.j (O.n (lq9 O 1000000) u0)) (O.a [.int u6,.bool O.f]) (s1 [.int (O.q .i64 u11 u8)]))) (O.a [.int u8]))) [.int u6]) fun c1=>(O.b (O.z c1 0) (O.a [.bool (O.m c1 1)]) (O.b (O.i (O.i (O.n (x.I 15) u6) O.j (O.n u7 (x.I 15))) O.j (O.n u2 u5)) (O.a [.bool O.f]) (O.b (O.i u3 (O.i (O.n u6 u5) O.j (O.i (O.h u9) (O.h (O.e (x.I 14) (O.lit .u8 5))) O.f)) O.f) (O.a [.bool O.f]) (O.b (O.i u9 (O.h u3) O.f) (O.a [.bool O.f]) (O.b (O.i (O.e (x.I 14) (O.lit .u8 2)) (O.e u5 u2) O.f) (O.a [.bool O.f]) (O.b (O.i (O.e (x.I 14) (O.lit .u8 4)) (O.i u1 O.j (O.h (O.e u5 u7))) O.f) (O.a [.bool O.f]) (O.b (O.i (x.B 16) (O.i u1 O.j (O.n u5 u7)) O.f) (O.a [.bool O.f]) (O.c (O.w (fun s2 c2=>let u10:=(O.d c2 0);(O.b (O.n u10 u5) (O.k (O.r u10 u5) (O.c (O.g 127 [] (ap O (xr x kR 0) (rr O (x.L 17) u10 kI 0))) fun c3=>let u4:=(O.h (O.m c3 0));(O.c (O.b (O.h u4) (O.g 128 [] (ap O (xr x kM 0) [.int u10])) (O.a [.int u6])) fun c4=>(O.b (O.i u4 O.j (O.h (O.e (O.o (x.L 17) u10 0) (O.d c4 0)))) (O.a [.int u6,.bool O.f]) (s2 [.int (O.q .i64 u10 u8)]))))) (O.a [.int u8]))) [.int u6]) fun c2=>(O.b (O.z c2 0) (O.a [.bool (O.m c2 1)]) (O.c (O.g 129 [] (xr x kM 0)) fun c3=>(O.a [.bool (O.m c3 0)]))))))))))))))
def EL:Nat→Env:=eL [(61,AY),(127,BS),(128,DU),(129,IR)]
theorem Qv {N ls}:EL N 61 [] ls=AY N ls:=id rfl
theorem Ho {N ls}:EL N 127 [] ls=BS N ls:=id rfl
theorem I4 {N ls}:EL N 128 [] ls=DU N ls:=id rfl
theorem JK {N ls}:EL N 129 [] ls=IR N ls:=id rfl
def DT:=oS WO Le EL
def UB:List Nat:=[0]
def KY (O:Alg) (x:Ags O):O.M:=(O.b (O.e (x.I 0) (O.lit .u8 7)) (O.a [.int (lq9 O 0),.int (lq9 O 11)]) (O.b (O.e (x.I 0) (O.lit .u8 13)) (O.a [.int (lq9 O 1),.int (lq9 O 99)]) (O.a [.int (lq9 O 0),.int (lq9 O 100000)])))
def Rv:Nat→Env:=eL []
def HG:=oS UB KY Rv
def TN:List Nat:=[0,0,0]
def NI (O:Alg) (x:Ags O):O.M:=(O.a [.bool (O.i (O.t (x.I 1) (x.I 0)) (O.t (x.I 0) (x.I 2)) O.f)])
def QQ:Nat→Env:=eL []
def Ga:=oS TN NI QQ
def Ck (N:Nat) (ls:List PV):Option (List PV):=bK ls
def Ns:List Nat:=[2,0]
def Fa (O:Alg) (x:Ags O):O.M:=(O.c (O.g 187 [] [.str (x.S 0),.int (x.I 1)]) fun c0=>(O.a [.int (O.d c0 0)]))
def G9:Nat→Env:=eL [(187,Ck)]
theorem Hf {N ls}:G9 N 187 [] ls=Ck N ls:=id rfl
def Dk:=oS Ns Fa G9
def WJ:List Nat:=[]
def WE (O:Alg) (x:Ags O):O.M:=let u4:=(O.s ⟨#[]⟩);let u3:=(O.s ⟨#[112]⟩);let u2:=(O.s ⟨#[112,121]⟩);let u1:=(O.s ⟨#[115,121]⟩);let u0:=(O.s ⟨#[70,73,69,76,68]⟩);(O.a [.rows (O.ac [[.str (O.s ⟨#[84,79,83,83]⟩),.str u1,.str (O.s ⟨#[66,65,84]⟩),.str u0],[.str (O.s ⟨#[79,80,69,78]⟩),.str (O.s ⟨#[112,111]⟩),.str u4,.str u4],[.str (O.s ⟨#[66,79,87,76]⟩),.str u3,.str u4,.str u4],[.str (O.s ⟨#[66,65,76,76]⟩),.str (O.s ⟨#[98]⟩),.str u4,.str u4],[.str (O.s ⟨#[69,78,84,69,82]⟩),.str u3,.str u4,.str u4],[.str (O.s ⟨#[82,69,84,73,82,69]⟩),.str u2,.str (O.s ⟨#[72,85,82,84]⟩),.str (O.s ⟨#[79,85,84]⟩)],[.str u0,.str (O.s ⟨#[114]⟩),.str u4,.str u4],[.str (O.s ⟨#[75,69,69,80,69,82]⟩),.str u3,.str u4,.str u4],[.str (O.s ⟨#[83,85,66]⟩),.str u2,.str (O.s ⟨#[79,78]⟩),.str (O.s ⟨#[79,70,70]⟩)],[.str (O.s ⟨#[78,69,87,66,65,76,76]⟩),.str u4,.str u4,.str u4],[.str (O.s ⟨#[68,69,67,76,65,82,69]⟩),.str (O.s ⟨#[115]⟩),.str u4,.str u4],[.str (O.s ⟨#[70,79,76,76,79,87]⟩),.str u1,.str (O.s ⟨#[89,69,83]⟩),.str (O.s ⟨#[78,79]⟩)],[.str (O.s ⟨#[80,69,78,65,76,84,89]⟩),.str (O.s ⟨#[115,114]⟩),.str u4,.str u4],[.str (O.s ⟨#[82,69,86,73,69,87]⟩),.str u1,.str (O.s ⟨#[75,69,80,84]⟩),.str (O.s ⟨#[76,79,83,84]⟩)],[.str (O.s ⟨#[82,69,86,73,83,69]⟩),.str (O.s ⟨#[114,118]⟩),.str u4,.str u4],[.str (O.s ⟨#[83,84,79,80]⟩),.str u4,.str u4,.str u4]])])
def aW:Nat→Env:=eL []
def Fo:=oS WJ WE aW
def W3:List Nat:=[0,0]
def NN (O:Alg) (x:Ags O):O.M:=(O.c (O.g 164 [] []) fun c0=>(O.k (O.r (O.v .u8 (x.I 0) (O.lit .u8 1)) (O.l (O.p c0 0))) (O.c (O.g 163 [] [.str (O.rS (O.p c0 0) (O.v .u8 (x.I 0) (O.lit .u8 1)) 1),.int (x.I 1)]) fun c1=>(O.a [.bool (O.i (O.t (lq9 O 0) (O.d c1 0)) O.j (O.i (O.e (x.I 0) (O.lit .u8 5)) (O.e (x.I 1) (O.lit .u8 121)) O.f))]))))
def KJ:Nat→Env:=eL [(163,Dk),(164,Fo)]
theorem NW {N ls}:KJ N 163 [] ls=Dk N ls:=id rfl
theorem RQ {N ls}:KJ N 164 [] ls=Fo N ls:=id rfl
def JX:=oS W3 NN KJ
def PD:List Nat:=[0,0,0]
def J2 (O:Alg) (x:Ags O):O.M:=(O.a [.bool (O.i (O.t (x.I 1) (x.I 0)) (O.t (x.I 0) (x.I 2)) O.f)])
def Mt:Nat→Env:=eL []
def Dx:=oS PD J2 Mt
def R4:List Nat:=[0,0,0,0,0,1,0,0,0,0,1,0]
def IB (O:Alg) (x:Ags O):O.M:=let u5:=(lq9 O 0);(O.b (O.i (O.i (O.i (O.n (x.I 0) (O.lit .u8 1)) O.j (O.n (O.lit .u8 3) (x.I 0))) O.j (O.n (O.lit .u8 3) (x.I 1))) O.j (O.n (O.lit .u8 10) (x.I 6))) (O.a [.int (lq9 O 3)]) (O.c (O.g 165 [] [.int (x.I 2),.int u5,.int (lq9 O 7)]) fun c0=>let u4:=(O.h (O.m c0 0));(O.c (O.b (O.h u4) (O.g 165 [] [.int (x.I 3),.int u5,.int (x.I 2)]) (O.a [.bool O.f])) fun c1=>let u3:=(O.i (O.i u4 O.j (O.h (O.m c1 0))) O.j (O.i (O.i (O.h (O.e (x.I 4) u5)) (O.h (O.e (x.I 4) (lq9 O 4))) O.f) (O.h (O.e (x.I 4) (lq9 O 6))) O.f));(O.c (O.b (O.h u3) (O.g 165 [] [.int (x.I 7),.int u5,.int (lq9 O 2)]) (O.a [.bool O.f])) fun c2=>let u2:=(O.i u3 O.j (O.h (O.m c2 0)));(O.c (O.b (O.h u2) (O.g 165 [] [.int (x.I 8),.int u5,.int (lq9 O 11)]) (O.a [.bool O.f])) fun c3=>let u1:=(O.i u2 O.j (O.h (O.m c3 0)));(O.c (O.b (O.h u1) (O.g 165 [] [.int (x.I 9),.int u5,.int (lq9 O 11)]) (O.a [.bool O.f])) fun c4=>let u0:=(O.i u1 O.j (O.h (O.m c4 0)));(O.c (O.b (O.h u0) (O.g 165 [] [.int (x.I 11),.int u5,.int (lq9 O 8)]) (O.a [.bool O.f])) fun c5=>(O.b (O.i u0 O.j (O.h (O.m c5 0))) (O.a [.int (lq9 O 2)]) (O.a [.int u5])))))))))
def Jk:Nat→Env:=eL [(165,Dx)]
theorem K8 {N ls}:Jk N 165 [] ls=Dx N ls:=id rfl
def FG:=oS R4 IB Jk
def WQ:List Nat:=[0,0,0,0,1,0,0,0,0,0,0,0,1,0,0,0,0,1,0]
def IV (O:Alg) (x:Ags O):O.M:=let u14:=(lq9 O 1);let u13:=(lq9 O 0);let u8:=(O.e (x.I 9) u13);let u15:=(O.lit .u8 0);let u7:=(O.e (x.I 6) u13);let u6:=(O.e (x.I 5) u13);let u5:=(O.e (x.I 3) u13);let u4:=(O.e (x.I 2) u13);let u3:=(O.e (x.I 1) u13);let u2:=(O.e (x.I 11) u13);let u1:=(O.e (x.I 10) u13);let u0:=(O.ab (O.e (x.I 14) u13) (O.ab (O.e (x.I 15) u13) (O.ab (O.e (x.I 16) u13) (O.ab (O.aj (x.B 17) O.f) (O.e (x.I 18) u13)))));(O.b (O.i (O.n (x.I 0) (O.lit .u8 1)) O.j (O.n (O.lit .u8 16) (x.I 0))) (O.a [.int (lq9 O 3)]) (O.c (O.g 130 [] [.int (x.I 0)]) fun c0=>(O.c (O.g 131 [] [.int (x.I 1),.int u14,.int (lq9 O 2)]) fun c1=>(O.c (O.g 131 [] [.int (x.I 2),.int u14,.int (lq9 O 11)]) fun c2=>(O.c (O.g 131 [] [.int (x.I 3),.int u14,.int (lq9 O 11)]) fun c3=>(O.c (O.g 131 [] [.int (x.I 5),.int (O.d c0 0),.int (O.d c0 1)]) fun c4=>(O.c (O.g 131 [] [.int (x.I 6),.int u13,.int (lq9 O 90)]) fun c5=>let u12:=(O.ac [[.int (O.lit .u8 115),.bool u3,.bool (O.m c1 0)],[.int (O.lit .u8 112),.bool u4,.bool (O.m c2 0)],[.int (O.lit .u8 111),.bool u5,.bool (O.m c3 0)],[.int (O.lit .u8 121),.bool (O.h (x.B 4)),.bool O.j],[.int (O.lit .u8 114),.bool u6,.bool (O.m c4 0)],[.int (O.lit .u8 118),.bool u7,.bool (O.m c5 0)],[.int (O.lit .u8 98),.bool (O.ab (O.e (x.I 7) u15) (O.ab (O.e (x.I 8) u15) (O.ab u8 (O.ab u1 (O.ab u2 (O.ab (O.aj (x.B 12) O.f) (O.ab (O.e (x.I 13) u15) u0))))))),.bool O.j]]);let u11:=(O.l u12);(O.c (O.w (fun s6 c6=>let u16:=(O.d c6 0);let u9:=(O.h (O.rB u12 u16 1));(O.b (O.n u16 u11) (O.k (O.r u16 u11) (O.c (O.b u9 (O.g 132 [] [.int (x.I 0),.int (O.o u12 u16 0)]) (O.a [.bool O.f])) fun c7=>(O.b (O.i u9 (O.h (O.m c7 0)) O.f) (O.a [.int u13,.int u14]) (s6 [.int (O.q .i64 u16 u14)])))) (O.a [.int u14]))) [.int u13]) fun c6=>(O.b (O.z c6 0) (O.a [.int (O.d c6 1)]) (O.c (O.w (fun s7 c7=>let u17:=(O.d c7 0);let u10:=(O.h (O.rB u12 u17 2));(O.b (O.n u17 u11) (O.k (O.r u17 u11) (O.c (O.b u10 (O.g 132 [] [.int (x.I 0),.int (O.o u12 u17 0)]) (O.a [.bool O.f])) fun c8=>(O.b (O.i u10 (O.m c8 0) O.f) (O.a [.int u13,.int (lq9 O 2)]) (s7 [.int (O.q .i64 u17 u14)])))) (O.a [.int u14]))) [.int u13]) fun c7=>(O.b (O.z c7 0) (O.a [.int (O.d c7 1)]) (O.b (O.e (x.I 0) (O.lit .u8 4)) (O.c (O.g 133 [] (xr x [0,0,0,0,0,1,0,0,0,0,1,0] 7)) fun c8=>(O.a [.int (O.d c8 0)])) (O.a [.int u13])))))))))))))
def EF:Nat→Env:=eL [(130,HG),(131,Ga),(132,JX),(133,FG)]
theorem IJ {N ls}:EF N 130 [] ls=HG N ls:=id rfl
theorem Hk {N ls}:EF N 131 [] ls=Ga N ls:=id rfl
theorem JW {N ls}:EF N 132 [] ls=JX N ls:=id rfl
theorem Dn {N ls}:EF N 133 [] ls=FG N ls:=id rfl
def DR:=oS WQ IV EF
def Ab (N:Nat) (ls:List PV):Option (List PV):=PO 1 ls
def Ak (N:Nat) (ls:List PV):Option (List PV):=PO 8 ls
def Ad (N:Nat) (ls:List PV):Option (List PV):=PO 1 ls
def TD:List Nat:=[0,0,0,0,0,0,0,0,0,0,0,0,0,0,3,0,3,3,1,3,1,0,0,0,3,0,0,0]
def I8 (O:Alg) (x:Ags O):O.M:=(O.c (O.g 166 [] [.rows (x.L 14)]) fun c0=>(O.c (O.g 167 [] [.rows (x.L 16)]) fun c1=>(O.c (O.g 167 [] [.rows (x.L 17)]) fun c2=>(O.c (O.g 167 [] [.rows (x.L 19)]) fun c3=>(O.c (O.g 168 [] [.rows (x.L 24)]) fun c4=>(O.a (ap O (xr x [0,0,0,0,0,0,0,0,0,0,0,0,0,0] 0) (ap O [.rows (O.p c0 0),.int (x.I 15),.rows (O.p c1 0),.rows (O.p c2 0),.bool (x.B 18),.rows (O.p c3 0)] (ap O (xr x [1,0,0,0] 20) (ap O [.rows (O.p c4 0)] (xr x [0,0,0] 25)))))))))))
def Ef:Nat→Env:=eL [(166,Ab),(167,Ak),(168,Ad)]
theorem KL {N ls}:Ef N 166 [] ls=Ab N ls:=id rfl
theorem MB {N ls}:Ef N 167 [] ls=Ak N ls:=id rfl
theorem K4 {N ls}:Ef N 168 [] ls=Ad N ls:=id rfl
def AX:=oS TD I8 Ef
def Wa:List Nat:=[2,0,0,0,0,0,0,0,1,0,0,0,0,3,0,0,1,3,0,0,0,0,0]
def LX (O:Alg) (x:Ags O):O.M:=(O.c (O.g 91 [] (xr x kR 0)) fun c0=>(O.c (O.w (fun s1 c1=>let u1:=(O.d c1 1);(O.b (O.n u1 (O.l (x.L 17))) (O.k (O.r u1 (O.l (x.L 17))) (O.c (O.g 134 [] (rr O (x.L 17) u1 kI 0)) fun c2=>let u0:=(O.ad (O.p c1 0) (O.ac [(cr O c2 kI 0)]));(O.k (O.u (O.l u0) 304) (s1 [.rows u0,.int (O.q .i64 u1 (lq9 O 1))])))) (O.a [.rows (O.p c1 0)]))) [.rows O.y,.int (lq9 O 0)]) fun c1=>(O.a (ap O (cr O c0 kR 0) (ap O (xr x [0,0,1] 14) (ap O [.rows (O.p c1 0)] (xr x [0,0,0,0,0] 18)))))))
def I1:Nat→Env:=eL [(91,DV),(134,AX)]
theorem Qc {N ls}:I1 N 91 [] ls=DV N ls:=id rfl
theorem Hj {N ls}:I1 N 134 [] ls=AX N ls:=id rfl
def Ig:=oS Wa LX I1
def WC:List Nat:=[2,0,0,0,0,0,0,0,1,0,0,0,0,3,0,0,1,3,0,0,0,0,0,0]
def LU (O:Alg) (x:Ags O):O.M:=(O.c (O.w (fun s0 c0=>let u2:=(O.d c0 0);let u1:=(O.d c0 1);let u0:=(O.q .i64 u1 (lq9 O 1));(O.b (O.n u1 (O.l (x.L 17))) (O.k (O.r u1 (O.l (x.L 17))) (O.b (O.e (O.o (x.L 17) u1 0) (x.I 23)) (s0 [.int (O.q .i64 u2 (O.o (x.L 17) u1 3)),.int u0]) (s0 [.int u2,.int u0]))) (O.a [.int u2]))) [.int (lq9 O 0),.int (lq9 O 0)]) fun c0=>(O.a [.int (O.d c0 0)]))
def SV:Nat→Env:=eL []
def CF:=oS WC LU SV
def O9:List Nat:=[2,0,0,0,0,0,0,0,1,0,0,0,0,3]
def Fx (O:Alg) (x:Ags O):O.M:=(O.b (O.e (x.I 3) (lq9 O 0)) (O.a [.int (O.lit .u8 5)]) (O.a [.int (O.lit .u8 6)]))
def NB:Nat→Env:=eL []
def B7:=oS O9 Fx NB
def S4:List Nat:=[2,0,0,0,0,0,0,0,1,0,0,0,0,3,0,0,1,3,0,0,0,0,0]
def JM (O:Alg) (x:Ags O):O.M:=let u10:=(lq9 O 1);let u9:=(lq9 O 0);let u8:=(O.l (x.L 17));let u11:=(O.lit .u8 0);let u7:=(O.e u8 (lq9 O 3));let u6:=(O.v .i64 u8 u10);let u5:=(O.e u8 (O.ai .i64 (lq9 O 2) (x.I 2)));let u4:=(O.o (x.L 17) u6 1);let u3:=(O.o (x.L 17) u6 3);let u2:=(O.o (x.L 17) u6 0);let u1:=(O.o (x.L 17) u6 27);let u0:=(O.v .i64 u4 u10);(O.c (O.g 106 [] (xr x kM 0)) fun c0=>(O.b (O.i (O.h (O.m c0 0)) O.j (O.e u8 u9)) (O.a [.int u11,.int u9,.int u9]) (O.k (O.r u6 u8) (O.c (O.g 135 [] [.int u2]) fun c1=>let u12:=(O.d c1 0);(O.b (O.e u1 (O.lit .u8 5)) (O.c (O.g 172 [] (xr x kR 0)) fun c2=>(O.a [.int (O.d c2 0),.int u9,.int u9])) (O.b (O.e u1 u11) (O.a [.int u11,.int u9,.int u9]) (O.b (O.i u5 (O.t u4 u3) O.f) (O.a [.int (O.lit .u8 2),.int u2,.int (O.v .i64 (O.v .i64 (x.I 1) u10) (O.o (x.L 17) u6 4))]) (O.b (O.i u5 (O.e u3 u0) O.f) (O.a [.int (O.lit .u8 4),.int u9,.int u9]) (O.b u5 (O.a [.int (O.lit .u8 1),.int u12,.int (O.v .i64 u0 u3)]) (O.c (O.b u7 (O.g 139 [] (ap O (xr x kM 0) [.int u2])) (O.a [.int u9])) fun c2=>(O.c (O.b u7 (O.g 139 [] (ap O (xr x kM 0) [.int u12])) (O.a [.int u9])) fun c3=>(O.b (O.i u7 (O.n (O.d c2 0) (O.d c3 0)) O.f) (O.c (O.g 139 [] (ap O (xr x kM 0) [.int u12])) fun c4=>(O.c (O.g 139 [] (ap O (xr x kM 0) [.int u2])) fun c5=>(O.a [.int (O.lit .u8 3),.int u12,.int (O.v .i64 (O.d c4 0) (O.d c5 0))]))) (O.a [.int u11,.int u9,.int u9])))))))))))))
def DP:Nat→Env:=eL [(106,DT),(135,BU),(139,CF),(172,B7)]
theorem O8 {N ls}:DP N 106 [] ls=DT N ls:=id rfl
theorem Pd {N ls}:DP N 135 [] ls=BU N ls:=id rfl
theorem PE {N ls}:DP N 139 [] ls=CF N ls:=id rfl
theorem L4 {N ls}:DP N 172 [] ls=B7 N ls:=id rfl
def F1:=oS S4 JM DP
def SU:List Nat:=[2,0,0,0,0,0,0,0,1,0,0,0,0,3,0,0,0]
def JG (O:Alg) (x:Ags O):O.M:=let u4:=(lq9 O 0);let u3:=(O.u (x.I 1) 1);let u2:=(lq9 O 1000000);(O.c (O.g 61 [] (xr x kR 0)) fun c0=>(O.b (O.h (O.e (O.d c0 0) u4)) (O.a [.int u4,.int u4,.int u4,.int u4,.int u4,.int u4,.int u4,.int u4,.int u4,.int u4,.int u4,.int u4,.int u4,.int u4,.rows O.y,.int u4,.rows O.y,.rows O.y,.bool O.f,.rows O.y,.bool O.f,.int u4,.int u4,.int u4,.rows O.y,.int u4,.int u4,.int (O.lit .u8 0),.int (O.d c0 0)]) (O.c (O.g 159 [] [.int (x.I 14),.int (lq9 O 1),.int (lq9 O 2)]) fun c1=>let u1:=(O.h (O.m c1 0));(O.c (O.b (O.h u1) (O.g 159 [] [.int (x.I 15),.int u4,.int u2]) (O.a [.bool O.f])) fun c2=>let u0:=(O.i u1 O.j (O.h (O.m c2 0)));(O.c (O.b (O.h u0) (O.g 159 [] [.int (x.I 16),.int u4,.int u2]) (O.a [.bool O.f])) fun c3=>(O.b (O.i u0 O.j (O.h (O.m c3 0))) (O.a [.int u4,.int u4,.int u4,.int u4,.int u4,.int u4,.int u4,.int u4,.int u4,.int u4,.int u4,.int u4,.int u4,.int u4,.rows O.y,.int u4,.rows O.y,.rows O.y,.bool O.f,.rows O.y,.bool O.f,.int u4,.int u4,.int u4,.rows O.y,.int u4,.int u4,.int (O.lit .u8 0),.int (lq9 O 2)]) (O.k u3 (O.k (O.u (x.I 1) 8) (O.k u3 (O.a [.int (x.I 14),.int (x.I 15),.int (x.I 3),.int (x.I 16),.int u4,.int u4,.int u4,.int u4,.int u4,.int (x.I 16),.int u4,.int u4,.int u4,.int u4,.rows (O.aq (x.I 1) [.int (O.lit .u8 0)]),.int u4,.rows O.y,.rows O.y,.bool O.f,.rows (O.aq (x.I 1) [.int u4]),.bool O.f,.int u4,.int u4,.int u4,.rows (O.aq (x.I 1) [.bool O.f]),.int u4,.int u4,.int (O.lit .u8 0),.int u4]))))))))))
def Gu:Nat→Env:=eL [(61,AY),(159,Ao)]
theorem PC {N ls}:Gu N 61 [] ls=AY N ls:=id rfl
theorem Mj {N ls}:Gu N 159 [] ls=Ao N ls:=id rfl
def GW:=oS SU JG Gu
def UO:List Nat:=[2,0,0,0,0,0,0,0,1,0,0,0,0,3,0,0,1,3,0,0,0,0,0,0]
def KG (O:Alg) (x:Ags O):O.M:=(O.b (O.n (O.q .i64 (O.l (x.L 17)) (lq9 O 1)) (O.ai .i64 (lq9 O 2) (x.I 2))) (O.a [.int (lq9 O 0)]) (O.c (O.g 135 [] [.int (x.I 23)]) fun c0=>(O.c (O.g 139 [] (ap O (xr x kM 0) [.int (O.d c0 0)])) fun c1=>(O.c (O.g 139 [] (xr x [2,0,0,0,0,0,0,0,1,0,0,0,0,3,0,0,1,3,0,0,0,0,0,0] 0)) fun c2=>(O.a [.int (O.q .i64 (O.v .i64 (O.d c1 0) (O.d c2 0)) (lq9 O 1))])))))
def H6:Nat→Env:=eL [(135,BU),(139,CF)]
theorem P2 {N ls}:H6 N 135 [] ls=BU N ls:=id rfl
theorem P4 {N ls}:H6 N 139 [] ls=CF N ls:=id rfl
def G6:=oS UO KG H6
def QN:List Nat:=[0]
def Kn (O:Alg) (x:Ags O):O.M:=(O.a [.bool (O.h (O.e (x.I 0) (O.lit .u8 0)))])
def Nv:Nat→Env:=eL []
def EY:=oS QN Kn Nv
def TH:List Nat:=[0,0,0,0,0,0,0,0,0,0,0,0,0,0,3,0,3,3,1,3,1,0,0,0,3,0,0,0]
def JQ (O:Alg) (x:Ags O):O.M:=let u0:=(lq9 O 0);(O.c (O.c (O.w (fun s0 c0=>let u1:=(O.d c0 0);(O.b (O.n u1 (O.l (x.L 14))) (O.k (O.r u1 (O.l (x.L 14))) (O.c (O.g 202 [] [.int (O.o (x.L 14) u1 0)]) fun c1=>(O.b (O.m c1 0) (O.a [.int u0,.int u1]) (s0 [.int (O.q .i64 u1 (lq9 O 1))])))) (O.a [.int (lq9 O 1)]))) [.int u0]) fun c0=>(O.b (O.z c0 0) (O.a [.int (O.d c0 1)]) (O.a [.int (lq9 O (-1))]))) fun c0=>(O.a [.bool (O.t u0 (O.d c0 0))]))
def Ko:Nat→Env:=eL [(202,EY)]
theorem Fh {N ls}:Ko N 202 [] ls=EY N ls:=id rfl
def GQ:=oS TH JQ Ko
def X3:List Nat:=[0,0,0,0,0,0,0,0,0,0,0,0,0,0,3,0,3,3,1,3,1,0,0,0,3,0,0,0]
def NF (O:Alg) (x:Ags O):O.M:=(O.c (O.g 166 [] [.rows (x.L 14)]) fun c0=>(O.c (O.g 167 [] [.rows (x.L 16)]) fun c1=>(O.c (O.g 167 [] [.rows (x.L 17)]) fun c2=>(O.c (O.g 167 [] [.rows (x.L 19)]) fun c3=>(O.c (O.g 168 [] [.rows (x.L 24)]) fun c4=>(O.a (ap O (xr x [0,0,0,0,0,0,0,0,0,0,0,0,0,0] 0) (ap O [.rows (O.p c0 0),.int (x.I 15),.rows (O.p c1 0),.rows (O.p c2 0),.bool (x.B 18),.rows (O.p c3 0)] (ap O (xr x [1,0,0,0] 20) (ap O [.rows (O.p c4 0)] (xr x [0,0,0] 25)))))))))))
def HE:Nat→Env:=eL [(166,Ab),(167,Ak),(168,Ad)]
theorem MD {N ls}:HE N 166 [] ls=Ab N ls:=id rfl
theorem Ni {N ls}:HE N 167 [] ls=Ak N ls:=id rfl
theorem Mo {N ls}:HE N 168 [] ls=Ad N ls:=id rfl
def A4:=oS X3 NF HE
def RC:List Nat:=[0]
def Ly (O:Alg) (x:Ags O):O.M:=(O.a [.bool (O.h (O.e (x.I 0) (O.lit .u8 0)))])
def PR:Nat→Env:=eL []
def C8:=oS RC Ly PR
def Uk:List Nat:=[0,0,0,0,0,0,0,0,0,0,0,0,0,0,3,0,3,3,1,3,1,0,0,0,3,0,0,0]
def E3 (O:Alg) (x:Ags O):O.M:=let u0:=(lq9 O 0);(O.c (O.c (O.w (fun s0 c0=>let u1:=(O.d c0 0);(O.b (O.n u1 (O.l (x.L 14))) (O.k (O.r u1 (O.l (x.L 14))) (O.c (O.g 262 [] [.int (O.o (x.L 14) u1 0)]) fun c1=>(O.b (O.m c1 0) (O.a [.int u0,.int u1]) (s0 [.int (O.q .i64 u1 (lq9 O 1))])))) (O.a [.int (lq9 O 1)]))) [.int u0]) fun c0=>(O.b (O.z c0 0) (O.a [.int (O.d c0 1)]) (O.a [.int (lq9 O (-1))]))) fun c0=>(O.a [.bool (O.t u0 (O.d c0 0))]))
def FC:Nat→Env:=eL [(262,C8)]
theorem Gq {N ls}:FC N 262 [] ls=C8 N ls:=id rfl
def CP:=oS Uk E3 FC
def Uu:List Nat:=[0,0,0,0,0,0,0,0,0,0,0,0,0,0,3,0,3,3,1,3,1,0,0,0,3,0,0,0,0]
def KI (O:Alg) (x:Ags O):O.M:=(O.a [.bool (O.i (O.t (lq9 O 1) (x.I 28)) (O.t (x.I 28) (O.l (x.L 14))) O.f)])
def Ry:Nat→Env:=eL []
def A3:=oS Uu KI Ry
def V5:List Nat:=[0,0,0,0,0,0,0,0,0,0,0,0,0,0,3,0,3,3,1,3,1,0,0,0,3,0,0,0,0,0]
def LY (O:Alg) (x:Ags O):O.M:=let u3:=(lq9 O 1);let u1:=(O.v .i64 (x.I 29) u3);let u0:=(O.v .i64 (x.I 28) u3);(O.c (O.g 234 [] (xr x kI 0)) fun c0=>let u4:=(O.p c0 14);(O.c (O.g 235 [] (xr x kI 0)) fun c1=>(O.b (O.m c1 0) (O.a (ap O (cr O c0 kI 0) [.int u3])) (O.c (O.g 236 [] (xr x [0,0,0,0,0,0,0,0,0,0,0,0,0,0,3,0,3,3,1,3,1,0,0,0,3,0,0,0,0] 0)) fun c2=>let u2:=(O.h (O.m c2 0));(O.c (O.b (O.h u2) (O.g 236 [] (ap O (xr x kI 0) [.int (x.I 29)])) (O.a [.bool O.f])) fun c3=>(O.b (O.i u2 O.j (O.h (O.m c3 0))) (O.a (ap O (cr O c0 kI 0) [.int (lq9 O 3)])) (O.b (O.e (x.I 28) (x.I 29)) (O.a (ap O (cr O c0 kI 0) [.int (lq9 O 4)])) (O.k (O.r u0 (O.l u4)) (O.k (O.r u1 (O.l (O.x u4 u0 0 [.int (O.lit .u8 1)]))) (O.a (ap O (cr O c0 [0,0,0,0,0,0,0,0,0,0,0,0] 0) (ap O [.int (x.I 28),.int (x.I 29),.rows (O.x (O.x u4 u0 0 [.int (O.lit .u8 1)]) u1 0 [.int (O.lit .u8 1)])] (ap O (cr O c0 [0,3,3,1,3,1,0,0,0,3,0,0,0] 15) [.int (lq9 O 0)])))))))))))))
def GV:Nat→Env:=eL [(234,A4),(235,CP),(236,A3)]
theorem R8 {N ls}:GV N 234 [] ls=A4 N ls:=id rfl
theorem Pt {N ls}:GV N 235 [] ls=CP N ls:=id rfl
theorem P0 {N ls}:GV N 236 [] ls=A3 N ls:=id rfl
def IM:=oS V5 LY GV
def Y5:List Nat:=[0,0,0,0,0,0,0,0,0,0,0,0,0,0,3,0,3,3,1,3,1,0,0,0,3,0,0,0]
def O0 (O:Alg) (x:Ags O):O.M:=(O.c (O.g 166 [] [.rows (x.L 14)]) fun c0=>(O.c (O.g 167 [] [.rows (x.L 16)]) fun c1=>(O.c (O.g 167 [] [.rows (x.L 17)]) fun c2=>(O.c (O.g 167 [] [.rows (x.L 19)]) fun c3=>(O.c (O.g 168 [] [.rows (x.L 24)]) fun c4=>(O.a (ap O (xr x [0,0,0,0,0,0,0,0,0,0,0,0,0,0] 0) (ap O [.rows (O.p c0 0),.int (x.I 15),.rows (O.p c1 0),.rows (O.p c2 0),.bool (x.B 18),.rows (O.p c3 0)] (ap O (xr x [1,0,0,0] 20) (ap O [.rows (O.p c4 0)] (xr x [0,0,0] 25)))))))))))
def IP:Nat→Env:=eL [(166,Ab),(167,Ak),(168,Ad)]
theorem Mc {N ls}:IP N 166 [] ls=Ab N ls:=id rfl
theorem Oc {N ls}:IP N 167 [] ls=Ak N ls:=id rfl
theorem Nn {N ls}:IP N 168 [] ls=Ad N ls:=id rfl
def C1:=oS Y5 O0 IP
def V8:List Nat:=[0,0,0,0,0,0,0,0,0,0,0,0,0,0,3,0,3,3,1,3,1,0,0,0,3,0,0,0,0]
def Lb (O:Alg) (x:Ags O):O.M:=(O.a [.bool (O.i (O.t (lq9 O 1) (x.I 28)) (O.t (x.I 28) (O.l (x.L 19))) O.f)])
def Sg:Nat→Env:=eL []
def CH:=oS V8 Lb Sg
def Xq:List Nat:=[2,0,0,0,0,0,0,0,1,0,0,0,0,3,0,0,0,0,0,0,0,0,0,0,0,0,0,0,3,0,3,3,1,3,1,0,0,0,3,0,0,0,0]
def NA (O:Alg) (x:Ags O):O.M:=let u4:=(lq9 O 0);let u2:=(O.v .i64 (x.I 42) (lq9 O 1));let u1:=(O.o (x.L 33) u2 0);let u0:=(O.v .i64 (O.ai .i64 (x.I 5) (x.I 4)) (O.ah (O.n u1 u4) u4 u1));(O.c (O.g 263 [] (xr x [0,0,0,0,0,0,0,0,0,0,0,0,0,0,3,0,3,3,1,3,1,0,0,0,3,0,0,0,0] 14)) fun c0=>let u3:=(O.h (O.m c0 0));(O.c (O.b (O.h u3) (O.g 61 [] (xr x kR 0)) (O.a [.int u4])) fun c1=>(O.b (O.i u3 O.j (O.h (O.e (O.d c1 0) u4))) (O.a [.int u4]) (O.b (O.e (x.I 5) u4) (O.a [.int (lq9 O (-1))]) (O.k (O.r u2 (O.l (x.L 33))) (O.a [.int (O.ah (O.n u0 u4) u4 u0)]))))))
def KK:Nat→Env:=eL [(61,AY),(263,CH)]
theorem SA {N ls}:KK N 61 [] ls=AY N ls:=id rfl
theorem Rf {N ls}:KK N 263 [] ls=CH N ls:=id rfl
def Jj:=oS Xq NA KK
def Yz:List Nat:=[2,0,0,0,0,0,0,0,1,0,0,0,0,3,0,0,0,0,0,0,0,0,0,0,0,0,0,0,3,0,3,3,1,3,1,0,0,0,3,0,0,0,0]
def O2 (O:Alg) (x:Ags O):O.M:=let u3:=(lq9 O 0);let u1:=(O.t (x.I 42) (O.l (x.L 38)));let u0:=(O.v .i64 (x.I 42) (lq9 O 1));(O.c (O.g 263 [] (xr x [0,0,0,0,0,0,0,0,0,0,0,0,0,0,3,0,3,3,1,3,1,0,0,0,3,0,0,0,0] 14)) fun c0=>let u2:=(O.h (O.m c0 0));(O.c (O.b (O.h u2) (O.g 61 [] (xr x kR 0)) (O.a [.int u3])) fun c1=>(O.b (O.i u2 O.j (O.h (O.e (O.d c1 0) u3))) (O.a [.int (lq9 O 3)]) (O.k (O.h (O.ab u1 (O.h (O.r u0 (O.l (x.L 38)))))) (O.c (O.g 264 [] (xr x [2,0,0,0,0,0,0,0,1,0,0,0,0,3,0,0,0,0,0,0,0,0,0,0,0,0,0,0,3,0,3,3,1,3,1,0,0,0,3,0,0,0,0] 0)) fun c2=>(O.b (O.i (O.i (O.e (x.I 42) (x.I 36)) O.j (O.e (x.I 42) (x.I 29))) O.j (O.i u1 (O.rB (x.L 38) u0 0) O.f)) (O.a [.int (lq9 O 7)]) (O.c (O.g 184 [] [.rows (x.L 31),.int (x.I 42)]) fun c3=>(O.b (O.m c3 0) (O.a [.int (lq9 O 8)]) (O.b (O.i (O.h (O.e (O.d c2 0) (lq9 O (-1)))) (O.n (x.I 25) (O.v .i64 (x.I 4) (O.d c2 0))) O.f) (O.a [.int (lq9 O 9)]) (O.a [.int u3]))))))))))
def Fv:Nat→Env:=eL [(61,AY),(184,Au),(263,CH),(264,Jj)]
theorem SP {N ls}:Fv N 61 [] ls=AY N ls:=id rfl
theorem Md {N ls}:Fv N 184 [] ls=Au N ls:=id rfl
theorem SK {N ls}:Fv N 263 [] ls=CH N ls:=id rfl
theorem Tt {N ls}:Fv N 264 [] ls=Jj N ls:=id rfl
def K6:=oS Yz O2 Fv
def XU:List Nat:=[2,0,0,0,0,0,0,0,1,0,0,0,0,3,0,0,0,0,0,0,0,0,0,0,0,0,0,0,3,0,3,3,1,3,1,0,0,0,3,0,0,0,0]
def M5 (O:Alg) (x:Ags O):O.M:=(O.c (O.g 237 [] (xr x kI 14)) fun c0=>(O.c (O.g 238 [] (xr x [2,0,0,0,0,0,0,0,1,0,0,0,0,3,0,0,0,0,0,0,0,0,0,0,0,0,0,0,3,0,3,3,1,3,1,0,0,0,3,0,0,0,0] 0)) fun c1=>let u0:=(O.d c1 0);(O.b (O.e u0 (lq9 O 0)) (O.a (ap O (cr O c0 [0,0,0,0,0,0,0,0,0,0,0,0,0,0,3] 0) (ap O [.int (x.I 42)] (ap O (cr O c0 [3,3,1,3,1,0,0,0,3,0,0,0] 16) [.int u0])))) (O.a (ap O (cr O c0 kI 0) [.int u0])))))
def KP:Nat→Env:=eL [(237,C1),(238,K6)]
theorem Ta {N ls}:KP N 237 [] ls=C1 N ls:=id rfl
theorem Tj {N ls}:KP N 238 [] ls=K6 N ls:=id rfl
def JU:=oS XU M5 KP
def Nt:List Nat:=[0,0,0,0,0,1,0,0,0,0,1,0]
def Fd (O:Alg) (x:Ags O):O.M:=let u3:=(lq9 O 0);let u2:=(O.e (x.I 4) u3);let u1:=(O.e (x.I 2) u3);let u0:=(O.h (O.e (x.I 4) (lq9 O 6)));(O.b (O.e (x.I 0) (O.lit .u8 2)) (O.a [.bool (O.i (O.e (x.I 1) (O.lit .u8 0)) u0 O.f)]) (O.b (O.e (x.I 1) (O.lit .u8 0)) (O.a [.bool (O.i u1 u2 O.f)]) (O.b (O.e (x.I 1) (O.lit .u8 1)) (O.a [.bool (O.i u0 O.j u1)]) (O.a [.bool (O.i u0 (O.i (O.n u3 (x.I 2)) O.j (O.h u2)) O.f)]))))
def MM:Nat→Env:=eL []
def Dl:=oS Nt Fd MM
def Rh:List Nat:=[0,0,0,0,0,1,0,0,0,0,1,0]
def Hp (O:Alg) (x:Ags O):O.M:=let u3:=(lq9 O 0);let u2:=(lq9 O 11);let u1:=(O.e (x.I 4) u3);let u0:=(O.h u1);(O.b (O.i (O.i (O.i (O.i (O.i (O.n (x.I 0) (O.lit .u8 1)) O.j (O.n (O.lit .u8 3) (x.I 0))) O.j (O.n (O.lit .u8 3) (x.I 1))) O.j (O.n (O.lit .u8 10) (x.I 6))) O.j (O.n (x.I 11) u3)) O.j (O.n (lq9 O 8) (x.I 11))) (O.a [.int u2]) (O.b (O.i (O.i (O.i (O.i (O.n (x.I 2) u3) O.j (O.n (lq9 O 7) (x.I 2))) O.j (O.n (x.I 3) u3)) O.j (O.n (x.I 2) (x.I 3))) O.j (O.i (O.i u0 (O.h (O.e (x.I 4) (lq9 O 4))) O.f) (O.h (O.e (x.I 4) (lq9 O 6))) O.f)) (O.a [.int (lq9 O 12)]) (O.c (O.g 103 [] (xr x [0,0,0,0,0,1,0,0,0,0,1,0] 0)) fun c0=>(O.b (O.i (O.h (O.m c0 0)) O.j (O.i (O.i (O.i (O.h (O.e (x.I 0) (O.lit .u8 2))) (O.e (x.I 1) (O.lit .u8 1)) O.f) (O.e (x.I 2) u3) O.f) u1 O.f)) (O.a [.int u2]) (O.b (O.i (O.i (O.h (O.e (x.I 11) u3)) (O.h (O.e (x.I 1) (O.lit .u8 1))) O.f) (O.h (O.e (x.I 6) (O.lit .u8 2))) O.f) (O.a [.int u2]) (O.b (O.i u0 (O.h (O.e (x.I 6) (O.lit .u8 0))) O.f) (O.a [.int u2]) (O.b (O.i (O.i (x.B 5) (O.h (O.e (x.I 6) (O.lit .u8 6))) O.f) (O.h (O.e (x.I 6) (O.lit .u8 8))) O.f) (O.a [.int u2]) (O.a [.int u3]))))))))
def Jw:Nat→Env:=eL [(103,Dl)]
theorem Ku {N ls}:Jw N 103 [] ls=Dl N ls:=id rfl
def Cd:=oS Rh Hp Jw
def Nx:List Nat:=[0]
def FX (O:Alg) (x:Ags O):O.M:=(O.a [.bool (O.i (O.t (O.lit .u8 1) (x.I 0)) (O.t (x.I 0) (O.lit .u8 5)) O.f)])
def MW:Nat→Env:=eL []
def Dg:=oS Nx FX MW
def QM:List Nat:=[2,0,0,0,0,0,0,0,1,0,0,0,0,3,0,0,0,0,0,1,0,0,0,0,1,0]
def Gw (O:Alg) (x:Ags O):O.M:=let u2:=(lq9 O 0);let u1:=(O.q .i64 (O.v .i64 (x.I 16) (x.I 17)) (x.I 18));(O.c (O.g 87 [] (xr x [0,0,0,0,0,1,0,0,0,0,1,0] 14)) fun c0=>(O.b (O.h (O.e (O.d c0 0) u2)) (O.a [.int u2,.int u2,.int u2,.int u2,.int u2,.int u2,.bool O.f,.bool O.f,.bool O.f,.bool O.f]) (O.c (O.g 88 [] [.int (x.I 20)]) fun c1=>let u3:=(O.m c1 0);(O.c (O.b (x.B 19) (O.a [.int (O.q .i64 (x.I 16) (lq9 O 1))]) (O.a [.int (x.I 16)])) fun c2=>let u0:=(O.e (O.ar .i64 (O.d c2 0) (lq9 O 2)) (lq9 O 1));(O.c (O.b (O.e (x.I 14) (O.lit .u8 2)) (O.a [.int u2,.int (O.q .i64 (x.I 6) u1),.int u2,.int u2,.int u2,.int u2,.bool (O.e (x.I 14) (O.lit .u8 1)),.bool (O.h (O.e (x.I 14) (O.lit .u8 2))),.bool u3,.bool u0]) (O.b (O.e (x.I 14) (O.lit .u8 3)) (O.a [.int u2,.int u2,.int (x.I 7),.int u2,.int u2,.int u2,.bool (O.e (x.I 14) (O.lit .u8 1)),.bool (O.h (O.e (x.I 14) (O.lit .u8 2))),.bool u3,.bool u0]) (O.a [.int u2,.int u2,.int u2,.int u2,.int u2,.int u2,.bool (O.e (x.I 14) (O.lit .u8 1)),.bool (O.h (O.e (x.I 14) (O.lit .u8 2))),.bool u3,.bool u0]))) fun c3=>(O.c (O.b (O.h (O.e (x.I 14) (O.lit .u8 2))) (O.b (O.e (x.I 15) (O.lit .u8 1)) (O.a (ap O [.int u1] (cr O c3 [0,0,0,0,0,1,1,1,1] 1))) (O.b (O.e (x.I 15) (O.lit .u8 2)) (O.a (ap O (cr O c3 [0,0,0] 0) (ap O [.int u1] (cr O c3 [0,0,1,1,1,1] 4)))) (O.b (O.e (x.I 15) (O.lit .u8 3)) (O.a (ap O (cr O c3 [0,0,0,0] 0) (ap O [.int u1] (cr O c3 [0,1,1,1,1] 5)))) (O.a (cr O c3 [0,0,0,0,0,0,1,1,1,1] 0))))) (O.a (cr O c3 [0,0,0,0,0,0,1,1,1,1] 0))) fun c4=>(O.a (ap O (cr O c4 [0,0,0,0,0] 0) (ap O [.int (O.q .i64 (O.q .i64 (O.d c4 0) (O.d c4 1)) (O.d c4 2))] (cr O c4 [1,1,1,1] 6))))))))))
def FY:Nat→Env:=eL [(87,Cd),(88,Dg)]
theorem L5 {N ls}:FY N 87 [] ls=Cd N ls:=id rfl
theorem Kf {N ls}:FY N 88 [] ls=Dg N ls:=id rfl
def A1:=oS QM Gw FY
def Rg:List Nat:=[0,0,0,0,0,0,1,1,1,1]
def Rd (O:Alg) (x:Ags O):O.M:=(O.a [.int (O.q .i64 (O.q .i64 (O.q .i64 (O.q .i64 (x.I 0) (x.I 1)) (x.I 2)) (x.I 3)) (x.I 4))])
def X7:Nat→Env:=eL []
def Ca:=oS Rg Rd X7
def Sk:List Nat:=[0,0,0,0,0,0,0,0,0,0,0,0,0,0,3,0,3,3,1,3,1,0,0,0,3,0,0,0]
def EE (O:Alg) (x:Ags O):O.M:=(O.c (O.g 235 [] (xr x kI 0)) fun c0=>(O.a [.bool (O.i (O.m c0 0) (O.i (O.e (x.I 12) (lq9 O 0)) O.j (O.e (x.I 13) (lq9 O 0))) O.f)]))
def Eg:Nat→Env:=eL [(235,CP)]
theorem Oi {N ls}:Eg N 235 [] ls=CP N ls:=id rfl
def BT:=oS Sk EE Eg
def Wd:List Nat:=[0,0,0,0,0,0,0,0,0,0,0,0,0,0,3,0,3,3,1,3,1,0,0,0,3,0,0,0,0]
def Lh (O:Alg) (x:Ags O):O.M:=(O.a [.bool (O.i (O.t (lq9 O 1) (x.I 28)) (O.t (x.I 28) (O.l (x.L 24))) O.f)])
def Sv:Nat→Env:=eL []
def BB:=oS Wd Lh Sv
def RX:List Nat:=[0,0,0,0,0,0,0,0,0,0,0,0,0,0,3,0,3,3,1,3,1,0,0,0,3,0,0,0,0]
def H0 (O:Alg) (x:Ags O):O.M:=let u0:=(O.v .i64 (x.I 28) (lq9 O 1));(O.c (O.g 246 [] (xr x [0,0,0,0,0,0,0,0,0,0,0,0,0,0,3,0,3,3,1,3,1,0,0,0,3,0,0,0,0] 0)) fun c0=>(O.k (O.h (O.ab (O.m c0 0) (O.h (O.r u0 (O.l (x.L 24)))))) (O.a [.bool (O.i (O.m c0 0) (O.rB (x.L 24) u0 0) O.f)])))
def Jh:Nat→Env:=eL [(246,BB)]
theorem N3 {N ls}:Jh N 246 [] ls=BB N ls:=id rfl
def BA:=oS RX H0 Jh
def TF:List Nat:=[2,0,0,0,0,0,0,0,1,0,0,0,0,3,0]
def I2 (O:Alg) (x:Ags O):O.M:=let u1:=(lq9 O 1);let u0:=(O.q .i64 (x.I 14) u1);(O.c (O.w (fun s0 c0=>let u2:=(O.d c0 0);(O.b (O.n u2 (O.l (x.L 13))) (O.k (O.r u2 (O.l (x.L 13))) (O.b (O.i (O.t (O.o (x.L 13) u2 0) u0) (O.t u0 (O.o (x.L 13) u2 1)) O.f) (O.a [.int (lq9 O 0),.int (O.o (x.L 13) u2 2)]) (s0 [.int (O.q .i64 u2 u1)]))) (O.a [.int u1]))) [.int (lq9 O 0)]) fun c0=>(O.b (O.z c0 0) (O.a [.int (O.d c0 1)]) (O.a [.int (x.I 12)])))
def QT:Nat→Env:=eL []
def GJ:=oS TF I2 QT
def WT:List Nat:=[2,0,0,0,0,0,0,0,1,0,0,0,0,3,0,0,0,0,0,0,0,0,0,0,0,0,0,0,3,0,3,3,1,3,1,0,0,0,3,0,0,0]
def Ls (O:Alg) (x:Ags O):O.M:=(O.c (O.g 246 [] (ap O (xr x kI 14) [.int (x.I 36)])) fun c0=>let u0:=(O.h (O.m c0 0));(O.c (O.b (O.h u0) (O.g 247 [] (ap O (xr x kI 14) [.int (x.I 36)])) (O.a [.bool O.f])) fun c1=>(O.b (O.i (O.i u0 O.j (O.m c1 0)) O.j (O.e (x.I 36) (x.I 29))) (O.a [.int (lq9 O 17)]) (O.c (O.g 275 [] (ap O (xr x kR 0) [.int (x.I 24)])) fun c2=>(O.b (O.n (O.d c2 0) (x.I 37)) (O.a [.int (lq9 O 16)]) (O.a [.int (lq9 O 0)]))))))
def GM:Nat→Env:=eL [(246,BB),(247,BA),(275,GJ)]
theorem Qn {N ls}:GM N 246 [] ls=BB N ls:=id rfl
theorem OA {N ls}:GM N 247 [] ls=BA N ls:=id rfl
theorem Pe {N ls}:GM N 275 [] ls=GJ N ls:=id rfl
def IZ:=oS WT Ls GM
def QA:List Nat:=[]
def QK (O:Alg) (x:Ags O):O.M:=(O.a [.rows (O.ac [[.int (O.lit .u8 0),.str (O.s ⟨#[78,79,84,79,85,84]⟩),.bool O.f,.bool O.f,.bool O.f,.bool O.f,.bool O.f],[.int (O.lit .u8 1),.str (O.s ⟨#[66,79,87,76,69,68]⟩),.bool O.j,.bool O.f,.bool O.f,.bool O.f,.bool O.f],[.int (O.lit .u8 2),.str (O.s ⟨#[67,65,85,71,72,84]⟩),.bool O.j,.bool O.f,.bool O.f,.bool O.j,.bool O.f],[.int (O.lit .u8 3),.str (O.s ⟨#[76,66,87]⟩),.bool O.j,.bool O.f,.bool O.f,.bool O.f,.bool O.f],[.int (O.lit .u8 4),.str (O.s ⟨#[83,84,85,77,80,69,68]⟩),.bool O.j,.bool O.j,.bool O.f,.bool O.j,.bool O.f],[.int (O.lit .u8 5),.str (O.s ⟨#[72,73,84,87,73,67,75,69,84]⟩),.bool O.j,.bool O.j,.bool O.f,.bool O.f,.bool O.f],[.int (O.lit .u8 6),.str (O.s ⟨#[82,85,78,79,85,84]⟩),.bool O.j,.bool O.j,.bool O.j,.bool O.j,.bool O.j],[.int (O.lit .u8 7),.str (O.s ⟨#[72,73,84,84,87,73,67,69]⟩),.bool O.j,.bool O.f,.bool O.j,.bool O.f,.bool O.f],[.int (O.lit .u8 8),.str (O.s ⟨#[79,66,83,84,82,85,67,84,73,78,71]⟩),.bool O.j,.bool O.j,.bool O.j,.bool O.f,.bool O.j],[.int (O.lit .u8 9),.str (O.s ⟨#[84,73,77,69,68,79,85,84]⟩),.bool O.f,.bool O.f,.bool O.f,.bool O.f,.bool O.f],[.int (O.lit .u8 10),.str (O.s ⟨#[82,69,84,73,82,69,68]⟩),.bool O.f,.bool O.f,.bool O.f,.bool O.f,.bool O.f]])])
def Wt:Nat→Env:=eL []
def Bz:=oS QA QK Wt
def UT:List Nat:=[0]
def KU (O:Alg) (x:Ags O):O.M:=(O.c (O.g 99 [] []) fun c0=>let u2:=(O.p c0 0);let u0:=(O.l u2);(O.c (O.w (fun s1 c1=>let u1:=(O.d c1 0);(O.b (O.n u1 u0) (O.k (O.r u1 u0) (O.b (O.e (O.o u2 u1 0) (x.I 0)) (O.a (ap O [.int (lq9 O 0)] (rr O u2 u1 [0,2,1,1,1,1,1] 0))) (s1 [.int (O.q .i64 u1 (lq9 O 1))]))) (O.a [.int (lq9 O 1)]))) [.int (lq9 O 0)]) fun c1=>(O.b (O.z c1 0) (O.a (cr O c1 [0,2,1,1,1,1,1] 1)) (O.a [.int (O.lit .u8 0),.str (O.s ⟨#[]⟩),.bool O.f,.bool O.f,.bool O.f,.bool O.f,.bool O.f]))))
def L3:Nat→Env:=eL [(99,Bz)]
theorem NV {N ls}:L3 N 99 [] ls=Bz N ls:=id rfl
def Dm:=oS UT KU L3
def PG:List Nat:=[3,0]
def GR (O:Alg) (x:Ags O):O.M:=(O.c (O.w (fun s0 c0=>let u0:=(O.d c0 0);(O.b (O.n u0 (O.l (x.L 0))) (O.k (O.r u0 (O.l (x.L 0))) (O.b (O.e (x.I 1) (O.o (x.L 0) u0 0)) (O.a [.int (lq9 O 0),.int u0]) (s0 [.int (O.q .i64 u0 (lq9 O 1))]))) (O.a [.int (lq9 O 1)]))) [.int (lq9 O 0)]) fun c0=>(O.b (O.z c0 0) (O.a [.int (O.d c0 1)]) (O.a [.int (lq9 O (-1))])))
def Mv:Nat→Env:=eL []
def Dy:=oS PG GR Mv
def MP:List Nat:=[3,0]
def EG (O:Alg) (x:Ags O):O.M:=(O.c (O.g 279 [] [.rows (x.L 0),.int (x.I 1)]) fun c0=>(O.a [.bool (O.t (lq9 O 0) (O.d c0 0))]))
def Fk:Nat→Env:=eL [(279,Dy)]
theorem Iv {N ls}:Fk N 279 [] ls=Dy N ls:=id rfl
def DE:=oS MP EG Fk
def PL:List Nat:=[0,2,1,1,1,1,1,0]
def GS (O:Alg) (x:Ags O):O.M:=(O.a [.bool (O.i (O.i (O.i (O.e (x.I 7) (O.lit .u8 1)) (x.B 2) O.f) O.j (O.i (O.e (x.I 7) (O.lit .u8 2)) (x.B 3) O.f)) O.j (O.i (O.e (x.I 7) (O.lit .u8 3)) (x.B 4) O.f))])
def Mk:Nat→Env:=eL []
def D4:=oS PL GS Mk
def Rl:List Nat:=[0,1]
def IE (O:Alg) (x:Ags O):O.M:=(O.c (O.g 99 [] []) fun c0=>let u5:=(O.p c0 0);let u3:=(O.l u5);(O.c (O.w (fun s1 c1=>let u6:=(O.p c1 0);let u4:=(O.d c1 1);let u2:=(O.o u5 u4 0);let u1:=(O.q .i64 u4 (lq9 O 1));let u0:=(O.ad u6 (O.ac [[.int u2]]));(O.b (O.n u4 u3) (O.k (O.r u4 u3) (O.c (O.g 280 [] (ap O (rr O u5 u4 [0,2,1,1,1,1,1] 0) [.int (x.I 0)])) fun c2=>(O.b (O.i (O.m c2 0) (O.i (O.i (O.i (O.h (x.B 1)) O.j (O.e u2 (O.lit .u8 6))) O.j (O.e u2 (O.lit .u8 7))) O.j (O.e u2 (O.lit .u8 8))) O.f) (O.k (O.u (O.l u0) 1) (s1 [.rows u0,.int u1])) (s1 [.rows u6,.int u1])))) (O.a [.rows u6]))) [.rows O.y,.int (lq9 O 0)]) fun c1=>(O.a [.rows (O.p c1 0)])))
def GO:Nat→Env:=eL [(99,Bz),(280,D4)]
theorem L0 {N ls}:GO N 99 [] ls=Bz N ls:=id rfl
theorem LM {N ls}:GO N 280 [] ls=D4 N ls:=id rfl
def FU:=oS Rl IE GO
def LJ:List Nat:=[0]
def Dv (O:Alg) (x:Ags O):O.M:=(O.a [.bool (O.i (O.t (lq9 O 1) (x.I 0)) (O.t (x.I 0) (lq9 O 11)) O.f)])
def Jt:Nat→Env:=eL []
def C2:=oS LJ Dv Jt
def Nb:List Nat:=[0,0,0,0,0,1,0,0,0,0,1,0,0,2,1,1,1,1,1]
def Ep (O:Alg) (x:Ags O):O.M:=let u0:=(O.e (x.I 9) (lq9 O 0));(O.c (O.g 281 [] [.int (x.I 8)]) fun c0=>(O.b (O.i (O.h (O.aj (x.B 17) (O.m c0 0))) O.j (O.i (O.h (x.B 17)) (O.h (O.e (x.I 8) (lq9 O 0))) O.f)) (O.a [.bool O.f]) (O.c (O.b (O.ab (O.h u0) (O.e (x.I 6) (O.lit .u8 6))) (O.g 281 [] [.int (x.I 9)]) (O.a [.bool O.f])) fun c1=>(O.a [.bool (O.i u0 O.j (O.i (O.i (O.e (x.I 6) (O.lit .u8 6)) (O.m c1 0) O.f) (O.h (O.e (x.I 9) (x.I 8))) O.f))]))))
def Gj:Nat→Env:=eL [(281,C2)]
theorem Hg {N ls}:Gj N 281 [] ls=C2 N ls:=id rfl
def DK:=oS Nb Ep Gj
def Ml:List Nat:=[0,0,0,0,0,1,0,0,0,0,1,0,1]
def Em (O:Alg) (x:Ags O):O.M:=let u0:=(lq9 O 0);(O.b (O.e (x.I 6) (O.lit .u8 0)) (O.b (O.h (O.e (x.I 7) u0)) (O.a [.int (lq9 O 14)]) (O.b (O.i (O.i (O.h (O.e (x.I 8) u0)) O.j (O.h (O.e (x.I 9) u0))) O.j (x.B 10)) (O.a [.int (lq9 O 15)]) (O.a [.int u0]))) (O.c (O.g 75 [] [.int (x.I 6)]) fun c0=>(O.c (O.g 277 [] [.int (x.I 0),.bool (x.B 12)]) fun c1=>(O.c (O.g 276 [] [.rows (O.p c1 0),.int (x.I 6)]) fun c2=>(O.b (O.h (O.m c2 0)) (O.a [.int (lq9 O 13)]) (O.b (O.i (O.h (O.i (O.e (x.I 6) (O.lit .u8 6)) O.j (O.e (x.I 6) (O.lit .u8 8)))) (O.i (O.h (O.e (x.I 1) (O.lit .u8 0))) O.j (O.h (O.e (x.I 2) u0))) O.f) (O.a [.int (lq9 O 12)]) (O.b (O.i (O.h (O.e (x.I 7) (lq9 O 1))) (O.i (O.h (O.e (x.I 7) (lq9 O 2))) O.j (O.h (O.m c0 6))) O.f) (O.a [.int (lq9 O 14)]) (O.c (O.g 278 [] (ap O (xr x [0,0,0,0,0,1,0,0,0,0,1,0] 0) (cr O c0 [0,2,1,1,1,1,1] 0))) fun c3=>(O.b (O.h (O.m c3 0)) (O.a [.int (lq9 O 15)]) (O.b (O.i (O.i (x.B 10) (O.h (O.e (x.I 6) (O.lit .u8 2))) O.f) (O.h (O.e (x.I 6) (O.lit .u8 6))) O.f) (O.a [.int (lq9 O 18)]) (O.a [.int u0])))))))))))
def CO:Nat→Env:=eL [(75,Dm),(276,DE),(277,FU),(278,DK)]
theorem K2 {N ls}:CO N 75 [] ls=Dm N ls:=id rfl
theorem ID {N ls}:CO N 276 [] ls=DE N ls:=id rfl
theorem Ke {N ls}:CO N 277 [] ls=FU N ls:=id rfl
theorem Ii {N ls}:CO N 278 [] ls=DK N ls:=id rfl
def DM:=oS Ml Em CO
def V9:List Nat:=[0,0,0,0,0,0,0,0,0,0,0,0,0,0,3,0,3,3,1,3,1,0,0,0,3,0,0,0,0,0,0,0,0,1,0,0,0,0,1,0]
def LP (O:Alg) (x:Ags O):O.M:=let u1:=(lq9 O 1);let u0:=(lq9 O 0);(O.c (O.b (O.n u0 (x.I 36)) (O.c (O.g 246 [] (ap O (xr x kI 0) [.int (x.I 36)])) fun c0=>(O.b (O.h (O.m c0 0)) (O.a [.int u1,.int (lq9 O 3)]) (O.c (O.g 247 [] (ap O (xr x kI 0) [.int (x.I 36)])) fun c1=>(O.b (O.h (O.aj (x.B 38) (O.m c1 0))) (O.a [.int u1,.int (lq9 O 18)]) (O.a [.int u0]))))) (O.a [.int u0])) fun c0=>(O.b (O.z c0 0) (O.c (O.b (O.n u0 (x.I 37)) (O.c (O.g 246 [] (ap O (xr x kI 0) [.int (x.I 37)])) fun c1=>(O.b (O.h (O.m c1 0)) (O.a [.int u1,.int (lq9 O 3)]) (O.c (O.g 247 [] (ap O (xr x kI 0) [.int (x.I 37)])) fun c2=>(O.b (O.m c2 0) (O.a [.int u1,.int (lq9 O 18)]) (O.a [.int u0]))))) (O.a [.int u0])) fun c1=>(O.b (O.z c1 0) (O.b (O.i (O.e (x.I 34) (O.lit .u8 4)) (O.h (O.e (O.ah (O.n (x.I 36) u0) u0 (x.I 36)) (x.I 22))) O.f) (O.a [.int (lq9 O 17)]) (O.a [.int u0])) (O.a [.int (O.d c1 1)]))) (O.a [.int (O.d c0 1)])))
def JS:Nat→Env:=eL [(246,BB),(247,BA)]
theorem Qq {N ls}:JS N 246 [] ls=BB N ls:=id rfl
theorem ON {N ls}:JS N 247 [] ls=BA N ls:=id rfl
def IX:=oS V9 LP JS
def P9:List Nat:=[2,0,0,0,0,0,0,0,1,0,0,0,0,3,0,0,0,0,0,0,0,0,0,0,0,0,0,0,3,0,3,3,1,3,1,0,0,0,3,0,0,0,0,0,0,0,0,1,0,0,0,0,1,0]
def G1 (O:Alg) (x:Ags O):O.M:=let u3:=(lq9 O 0);(O.c (O.g 217 [] (xr x kI 14)) fun c0=>(O.b (O.m c0 0) (O.a [.int (lq9 O 6)]) (O.b (O.e (x.I 29) u3) (O.a [.int (lq9 O 7)]) (O.c (O.g 265 [] (xr x [2,0,0,0,0,0,0,0,1,0,0,0,0,3,0,0,0,0,0,0,0,0,0,0,0,0,0,0,3,0,3,3,1,3,1,0,0,0,3,0,0,0] 0)) fun c1=>(O.c (O.g 87 [] (xr x [0,0,0,0,0,1,0,0,0,0,1,0] 42)) fun c2=>(O.c (O.g 266 [] (ap O (xr x [0,0,0,0,0,1,0,0,0,0,1,0] 42) [.bool (x.B 34)])) fun c3=>(O.c (O.g 267 [] (xr x [0,0,0,0,0,0,0,0,0,0,0,0,0,0,3,0,3,3,1,3,1,0,0,0,3,0,0,0,0,0,0,0,0,1,0,0,0,0,1,0] 14)) fun c4=>let u2:=(O.ac [[.int (O.d c1 0)],[.int (O.d c2 0)],[.int (O.d c3 0)],[.int (O.d c4 0)]]);let u1:=(O.l u2);(O.c (O.w (fun s5 c5=>let u4:=(O.d c5 0);let u0:=(O.o u2 u4 0);(O.b (O.n u4 u1) (O.k (O.r u4 u1) (O.b (O.h (O.e u0 u3)) (O.a [.int u3,.int u0]) (s5 [.int (O.q .i64 u4 (lq9 O 1))]))) (O.a [.int (lq9 O 1)]))) [.int u3]) fun c5=>(O.b (O.z c5 0) (O.a [.int (O.d c5 1)]) (O.a [.int u3]))))))))))
def CU:Nat→Env:=eL [(87,Cd),(217,BT),(265,IZ),(266,DM),(267,IX)]
theorem MC {N ls}:CU N 87 [] ls=Cd N ls:=id rfl
theorem Mg {N ls}:CU N 217 [] ls=BT N ls:=id rfl
theorem Nk {N ls}:CU N 265 [] ls=IZ N ls:=id rfl
theorem Jc {N ls}:CU N 266 [] ls=DM N ls:=id rfl
theorem Nm {N ls}:CU N 267 [] ls=IX N ls:=id rfl
def Ej:=oS P9 G1 CU
def Xn:List Nat:=[0,0,0,0,0,0,0,0,0,0,0,0,0,0,3,0,3,3,1,3,1,0,0,0,3,0,0,0,0,0,0,0,0,1,0,0,0,0,1,0]
def NZ (O:Alg) (x:Ags O):O.M:=let u5:=(lq9 O 2);let u4:=(lq9 O 1);let u3:=(lq9 O 0);let u1:=(O.h (O.e (O.ar .i64 (x.I 30) u5) u3));(O.c (O.g 234 [] (xr x kI 0)) fun c0=>(O.c (O.b (O.h (O.e (x.I 34) (O.lit .u8 0))) (O.b (O.i (O.e (x.I 35) u4) (O.h (O.e (x.I 12) u3)) O.f) (O.a [.int u4,.int (x.I 12)]) (O.b (O.i (O.e (x.I 35) u5) (O.h (O.e (x.I 13) u3)) O.f) (O.a [.int u5,.int (x.I 13)]) (O.a [.int u3,.int u3]))) (O.a [.int u3,.int u3])) fun c1=>let u7:=(O.d c1 1);let u2:=(O.v .i64 u7 u4);(O.c (O.b (x.B 33) (O.a [.bool (O.h u1)]) (O.a [.bool u1])) fun c2=>(O.c (O.b (O.m c2 0) (O.a (ap O (cr O c0 [0,0,0,0,0,0,0,0,0,0,0,0] 0) (ap O [.int (O.d c0 13),.int (O.d c0 12)] (cr O c0 [3,0,3,3,1,3,1,0,0,0,3,0,0,0] 14)))) (O.a (cr O c0 kI 0))) fun c3=>let u6:=(O.p c3 14);let u0:=(O.r u2 (O.l u6));(O.b (O.e (O.d c1 0) u3) (O.a (cr O c3 kI 0)) (O.b (O.h (O.aj (O.e (O.d c1 0) u4) (O.m c2 0))) (O.c (O.g 236 [] (ap O (cr O c3 [0,0,0,0,0,0,0,0,0,0,0,0] 0) (ap O [.int u3] (ap O (cr O c3 [0,3,0,3,3,1,3,1,0,0,0,3,0,0,0] 13) [.int u7])))) fun c4=>(O.c (O.b (O.m c4 0) (O.k u0 (O.a (ap O (cr O c3 [0,0,0,0,0,0,0,0,0,0,0,0] 0) (ap O [.int u3,.int (O.d c3 13),.rows (O.x u6 u2 0 [.int (O.lit .u8 2)])] (cr O c3 [0,3,3,1,3,1,0,0,0,3,0,0,0] 15))))) (O.a (ap O (cr O c3 [0,0,0,0,0,0,0,0,0,0,0,0] 0) (ap O [.int u3] (cr O c3 [0,3,0,3,3,1,3,1,0,0,0,3,0,0,0] 13))))) fun c5=>(O.a (ap O (cr O c5 [0,0,0,0] 0) (ap O [.int (O.q .i64 (O.d c5 4) u4)] (cr O c5 [0,0,0,0,0,0,0,0,0,3,0,3,3,1,3,1,0,0,0,3,0,0,0] 5)))))) (O.c (O.g 236 [] (ap O (cr O c3 [0,0,0,0,0,0,0,0,0,0,0,0,0] 0) (ap O [.int u3] (ap O (cr O c3 [3,0,3,3,1,3,1,0,0,0,3,0,0,0] 14) [.int u7])))) fun c4=>(O.c (O.b (O.m c4 0) (O.k u0 (O.a (ap O (cr O c3 [0,0,0,0,0,0,0,0,0,0,0,0,0] 0) (ap O [.int u3,.rows (O.x u6 u2 0 [.int (O.lit .u8 2)])] (cr O c3 [0,3,3,1,3,1,0,0,0,3,0,0,0] 15))))) (O.a (ap O (cr O c3 [0,0,0,0,0,0,0,0,0,0,0,0,0] 0) (ap O [.int u3] (cr O c3 [3,0,3,3,1,3,1,0,0,0,3,0,0,0] 14))))) fun c5=>(O.a (ap O (cr O c5 [0,0,0,0] 0) (ap O [.int (O.q .i64 (O.d c5 4) u4)] (cr O c5 [0,0,0,0,0,0,0,0,0,3,0,3,3,1,3,1,0,0,0,3,0,0,0] 5))))))))))))
def KO:Nat→Env:=eL [(234,A4),(236,A3)]
theorem SO {N ls}:KO N 234 [] ls=A4 N ls:=id rfl
theorem Qu {N ls}:KO N 236 [] ls=A3 N ls:=id rfl
def Jo:=oS Xn NZ KO
def W5:List Nat:=[2,0,0,0,0,0,0,0,1,0,0,0,0,3,0,0,0,0,0,0,0,0,0,0,0,0,0,0,3,0,3,3,1,3,1,0,0,0,3,0,0,0,1]
def M6 (O:Alg) (x:Ags O):O.M:=let u5:=(lq9 O 0);let u4:=(lq9 O 1);let u2:=(O.v .i64 (x.I 29) u4);(O.c (O.g 237 [] (xr x kI 14)) fun c0=>let u1:=(O.ad (O.p c0 16) (O.ac [[.int (x.I 29)]]));(O.c (O.g 263 [] (ap O (xr x kI 14) [.int (x.I 29)])) fun c1=>let u3:=(O.h (O.m c1 0));(O.c (O.b (O.h u3) (O.g 61 [] (xr x kR 0)) (O.a [.int u5])) fun c2=>(O.b (O.i u3 O.j (O.h (O.e (O.d c2 0) u5))) (O.a (ap O (cr O c0 kI 0) [.bool O.f])) (O.c (O.g 184 [] [.rows (O.p c0 16),.int (x.I 29)]) fun c3=>(O.c (O.b (O.h (O.m c3 0)) (O.k (O.u (O.l u1) 8) (O.a (ap O (cr O c0 [0,0,0,0,0,0,0,0,0,0,0,0,0,0,3,0] 0) (ap O [.rows u1] (cr O c0 [3,1,3,1,0,0,0,3,0,0,0] 17))))) (O.a (cr O c0 kI 0))) fun c4=>let u6:=(O.p c4 19);let u0:=(O.r u2 (O.l u6));(O.c (O.b (x.B 42) (O.k u0 (O.k u0 (O.a (ap O (cr O c4 [0,0,0,0,0,0,0,0,0,0,0] 0) (ap O [.int (O.q .i64 (O.d c4 11) u4)] (ap O (cr O c4 [0,0,3,0,3,3,1] 12) (ap O [.rows (O.x u6 u2 0 [.int (O.q .i64 (O.o u6 u2 0) u4)]),.bool (O.m c4 20),.int (O.q .i64 (O.d c4 21) u4)] (cr O c4 [0,0,3,0,0,0] 22)))))))) (O.a (cr O c4 kI 0))) fun c5=>(O.b (O.n (O.d c5 11) (x.I 4)) (O.a (ap O (cr O c5 kI 0) [.bool O.f])) (O.a (ap O (cr O c5 [0,0,0,0,0,0,0,0,0,0] 0) (ap O [.int (O.q .i64 (O.d c5 10) u4),.int u5] (ap O (cr O c5 [0,0,3] 12) (ap O [.int u5,.rows O.y,.rows (O.p c5 16)] (ap O (cr O c5 [1,3,1,0,0,0,3,0,0,0] 18) [.bool O.j]))))))))))))))
def E2:Nat→Env:=eL [(61,AY),(184,Au),(237,C1),(263,CH)]
theorem R0 {N ls}:E2 N 61 [] ls=AY N ls:=id rfl
theorem Lw {N ls}:E2 N 184 [] ls=Au N ls:=id rfl
theorem TW {N ls}:E2 N 237 [] ls=C1 N ls:=id rfl
theorem Ra {N ls}:E2 N 263 [] ls=CH N ls:=id rfl
def Jq:=oS W5 M6 E2
def Sf:List Nat:=[0,0,0,0,0,0,0,0,0,0,0,0,0,0,3,0,3,3,1,3,1,0,0,0,3,0,0,0]
def I6 (O:Alg) (x:Ags O):O.M:=(O.c (O.g 234 [] (xr x kI 0)) fun c0=>(O.a (ap O (cr O c0 [0,0,0,0,0,0,0,0,0,0,0,0] 0) (ap O [.int (x.I 13),.int (x.I 12)] (cr O c0 [3,0,3,3,1,3,1,0,0,0,3,0,0,0] 14)))))
def Kl:Nat→Env:=eL [(234,A4)]
theorem Po {N ls}:Kl N 234 [] ls=A4 N ls:=id rfl
def GD:=oS Sf I6 Kl
def Uy:List Nat:=[2,0,0,0,0,0,0,0,1,0,0,0,0,3,0,0,0,0,0,0,0,0,0,0,0,0,0,0,3,0,3,3,1,3,1,0,0,0,3,0,0,0,0,0,0,0,0,1,0,0,0,0,1,0]
def KH (O:Alg) (x:Ags O):O.M:=let u0:=(lq9 O 0);(O.c (O.g 239 [] (xr x [2,0,0,0,0,0,0,0,1,0,0,0,0,3,0,0,0,0,0,0,0,0,0,0,0,0,0,0,3,0,3,3,1,3,1,0,0,0,3,0,0,0,0,0,0,0,0,1,0,0,0,0,1,0] 0)) fun c0=>(O.b (O.h (O.e (O.d c0 0) u0)) (O.c (O.g 134 [] (xr x kI 14)) fun c1=>(O.a (ap O (cr O c1 kI 0) [.int (O.d c0 0)]))) (O.c (O.g 57 [] (ap O (xr x kR 0) (xr x [0,0,0,0,0,1,0,0,0,0,1,0] 42))) fun c1=>(O.c (O.g 240 [] (xr x [0,0,0,0,0,0,0,0,0,0,0,0,0,0,3,0,3,3,1,3,1,0,0,0,3,0,0,0,0,0,0,0,0,1,0,0,0,0,1,0] 14)) fun c2=>(O.c (O.g 58 [] (cr O c1 [0,0,0,0,0,0,1,1,1,1] 0)) fun c3=>(O.c (O.g 241 [] (ap O (xr x kR 0) (ap O (cr O c2 [0,0,0] 0) (ap O [.int (O.q .i64 (O.d c2 3) (O.d c3 0)),.int (O.d c2 4),.int (O.q .i64 (O.d c2 5) (O.d c1 1)),.int (O.q .i64 (O.d c2 6) (O.d c1 2)),.int (O.q .i64 (O.d c2 7) (O.d c1 3)),.int (O.q .i64 (O.d c2 8) (O.d c1 4))] (ap O (cr O c2 [0,0,0,0,0,3,0,3,3,1,3,1,0,0,0,3,0,0,0] 9) [.bool (O.m c1 6)]))))) fun c4=>(O.c (O.b (O.m c4 28) (O.c (O.g 242 [] (cr O c4 kI 0)) fun c5=>(O.a (cr O c5 kI 0))) (O.a (cr O c4 kI 0))) fun c5=>(O.b (O.e (x.I 42) (O.lit .u8 1)) (O.a (ap O (cr O c5 [0,0,0,0,0,0,0,0,0,0,0,0,0,0,3,0,3,3,1,3] 0) (ap O [.bool O.f] (ap O (cr O c5 [0,0,0,3,0,0,0] 21) [.int u0])))) (O.b (O.i (O.e (x.I 42) (O.lit .u8 3)) (x.B 8) O.f) (O.a (ap O (cr O c5 [0,0,0,0,0,0,0,0,0,0,0,0,0,0,3,0,3,3,1,3] 0) (ap O [.bool O.j] (ap O (cr O c5 [0,0,0,3,0,0,0] 21) [.int u0])))) (O.a (ap O (cr O c5 kI 0) [.int u0])))))))))))
def CB:Nat→Env:=eL [(57,A1),(58,Ca),(134,AX),(239,Ej),(240,Jo),(241,Jq),(242,GD)]
theorem Mm {N ls}:CB N 57 [] ls=A1 N ls:=id rfl
theorem Nh {N ls}:CB N 58 [] ls=Ca N ls:=id rfl
theorem OU {N ls}:CB N 134 [] ls=AX N ls:=id rfl
theorem M0 {N ls}:CB N 239 [] ls=Ej N ls:=id rfl
theorem QW {N ls}:CB N 240 [] ls=Jo N ls:=id rfl
theorem Qi {N ls}:CB N 241 [] ls=Jq N ls:=id rfl
theorem OK {N ls}:CB N 242 [] ls=GD N ls:=id rfl
def HC:=oS Uy KH CB
def XY:List Nat:=[0,0,0,0,0,0,0,0,0,0,0,0,0,0,3,0,3,3,1,3,1,0,0,0,3,0,0,0,0]
def NM (O:Alg) (x:Ags O):O.M:=let u2:=(O.v .i64 (x.I 28) (lq9 O 1));let u1:=(O.o (x.L 14) u2 0);let u0:=(O.r u2 (O.l (x.L 14)));(O.c (O.g 236 [] (xr x [0,0,0,0,0,0,0,0,0,0,0,0,0,0,3,0,3,3,1,3,1,0,0,0,3,0,0,0,0] 0)) fun c0=>(O.b (O.h (O.m c0 0)) (O.a [.int (lq9 O 3)]) (O.c (O.g 217 [] (xr x kI 0)) fun c1=>let u3:=(O.h (O.m c1 0));(O.k (O.h (O.ab (O.h u3) (O.h u0))) (O.b (O.i u3 O.j (O.e u1 (O.lit .u8 1))) (O.a [.int (lq9 O 4)]) (O.k u0 (O.b (O.e u1 (O.lit .u8 2)) (O.a [.int (lq9 O 5)]) (O.a [.int (lq9 O 0)]))))))))
def Kb:Nat→Env:=eL [(217,BT),(236,A3)]
theorem Py {N ls}:Kb N 217 [] ls=BT N ls:=id rfl
theorem Qm {N ls}:Kb N 236 [] ls=A3 N ls:=id rfl
def D5:=oS XY NM Kb
def RL:List Nat:=[0,0,0,0,0,0,0,0,0,0,0,0,0,0,3,0,3,3,1,3,1,0,0,0,3,0,0,0,0]
def Hs (O:Alg) (x:Ags O):O.M:=let u0:=(O.v .i64 (x.I 28) (lq9 O 1));(O.c (O.g 234 [] (xr x kI 0)) fun c0=>(O.c (O.g 243 [] (xr x [0,0,0,0,0,0,0,0,0,0,0,0,0,0,3,0,3,3,1,3,1,0,0,0,3,0,0,0,0] 0)) fun c1=>(O.b (O.h (O.e (O.d c1 0) (lq9 O 0))) (O.a (ap O (cr O c0 kI 0) [.int (O.d c1 0)])) (O.c (O.g 236 [] (ap O (cr O c0 kI 0) [.int (x.I 28)])) fun c2=>(O.c (O.b (O.m c2 0) (O.k (O.r u0 (O.l (O.p c0 14))) (O.a (ap O (cr O c0 [0,0,0,0,0,0,0,0,0,0,0,0,0,0] 0) (ap O [.rows (O.x (O.p c0 14) u0 0 [.int (O.lit .u8 2)])] (cr O c0 [0,3,3,1,3,1,0,0,0,3,0,0,0] 15))))) (O.a (cr O c0 kI 0))) fun c3=>(O.a (ap O (cr O c3 [0,0,0,0] 0) (ap O [.int (O.q .i64 (O.d c3 4) (lq9 O 1))] (ap O (cr O c3 [0,0,0,0,0,0,0,0,0,3,0,3,3,1,3,1,0,0,0,3,0,0,0] 5) [.int (lq9 O 0)])))))))))
def D9:Nat→Env:=eL [(234,A4),(236,A3),(243,D5)]
theorem PI {N ls}:D9 N 234 [] ls=A4 N ls:=id rfl
theorem Nj {N ls}:D9 N 236 [] ls=A3 N ls:=id rfl
theorem PJ {N ls}:D9 N 243 [] ls=D5 N ls:=id rfl
def FO:=oS RL Hs D9
def Uq:List Nat:=[0,0,0,0,0,0,0,0,0,0,0,0,0,0,3,0,3,3,1,3,1,0,0,0,3,0,0,0,0]
def Ka (O:Alg) (x:Ags O):O.M:=let u1:=(lq9 O 0);let u0:=(O.v .i64 (x.I 28) (lq9 O 1));(O.c (O.g 234 [] (xr x kI 0)) fun c0=>let u2:=(O.p c0 14);(O.c (O.g 243 [] (xr x [0,0,0,0,0,0,0,0,0,0,0,0,0,0,3,0,3,3,1,3,1,0,0,0,3,0,0,0,0] 0)) fun c1=>(O.b (O.h (O.e (O.d c1 0) u1)) (O.a (ap O (cr O c0 kI 0) [.int (O.d c1 0)])) (O.k (O.r u0 (O.l u2)) (O.b (O.e (O.d c0 12) u1) (O.a (ap O (cr O c0 [0,0,0,0,0,0,0,0,0,0,0,0] 0) (ap O [.int (x.I 28),.int (O.d c0 13),.rows (O.x u2 u0 0 [.int (O.lit .u8 1)])] (ap O (cr O c0 [0,3,3,1,3,1,0,0,0,3,0,0,0] 15) [.int u1])))) (O.a (ap O (cr O c0 [0,0,0,0,0,0,0,0,0,0,0,0,0] 0) (ap O [.int (x.I 28),.rows (O.x u2 u0 0 [.int (O.lit .u8 1)])] (ap O (cr O c0 [0,3,3,1,3,1,0,0,0,3,0,0,0] 15) [.int u1])))))))))
def Hy:Nat→Env:=eL [(234,A4),(243,D5)]
theorem QU {N ls}:Hy N 234 [] ls=A4 N ls:=id rfl
theorem Qd {N ls}:Hy N 243 [] ls=D5 N ls:=id rfl
def HW:=oS Uq Ka Hy
def WK:List Nat:=[0,0,0,0,0,0,0,0,0,0,0,0,0,0,3,0,3,3,1,3,1,0,0,0,3,0,0,0]
def Fn (O:Alg) (x:Ags O):O.M:=(O.c (O.w (fun s0 c0=>let u4:=(O.p c0 0);let u3:=(O.d c0 1);let u2:=(O.o (x.L 14) u3 0);let u1:=(O.q .i64 u3 (lq9 O 1));let u0:=(O.ad u4 (O.ac [[.int u1]]));(O.b (O.n u3 (O.l (x.L 14))) (O.k (O.r u3 (O.l (x.L 14))) (O.b (O.i (O.e u2 (O.lit .u8 0)) O.j (O.e u2 (O.lit .u8 3))) (O.k (O.u (O.l u0) 8) (s0 [.rows u0,.int u1])) (s0 [.rows u4,.int u1]))) (O.a [.rows u4]))) [.rows O.y,.int (lq9 O 0)]) fun c0=>(O.a [.rows (O.p c0 0)]))
def Mr:Nat→Env:=eL []
def C7:=oS WK Fn Mr
def Si:List Nat:=[0,0,0,0,0,0,0,0,0,0,0,0,0,0,3,0,3,3,1,3,1,0,0,0,3,0,0,0,0,1]
def JA (O:Alg) (x:Ags O):O.M:=let u3:=(lq9 O 0);let u2:=(O.e (x.I 28) (x.I 12));let u1:=(O.v .i64 (x.I 28) (lq9 O 1));(O.c (O.g 234 [] (xr x kI 0)) fun c0=>(O.c (O.g 236 [] (xr x [0,0,0,0,0,0,0,0,0,0,0,0,0,0,3,0,3,3,1,3,1,0,0,0,3,0,0,0,0] 0)) fun c1=>(O.b (O.h (O.m c1 0)) (O.a (ap O (cr O c0 kI 0) [.int (lq9 O 3)])) (O.b (O.i (O.e (x.I 12) u3) O.j (O.e (x.I 13) u3)) (O.a (ap O (cr O c0 kI 0) [.int (lq9 O 6)])) (O.b (O.i (O.h u2) (O.h (O.e (x.I 28) (x.I 13))) O.f) (O.a (ap O (cr O c0 kI 0) [.int (lq9 O 4)])) (O.c (O.b (x.B 29) (O.g 218 [] (xr x kI 0)) (O.a [.rows O.y])) fun c2=>(O.b (O.i (x.B 29) (O.e (O.l (O.p c2 0)) u3) O.f) (O.a (ap O (cr O c0 kI 0) [.int (lq9 O 19)])) (O.c (O.b u2 (O.a (ap O (cr O c0 [0,0,0,0,0,0,0,0,0,0,0,0] 0) (ap O [.int u3] (cr O c0 [0,3,0,3,3,1,3,1,0,0,0,3,0,0,0] 13)))) (O.a (ap O (cr O c0 [0,0,0,0,0,0,0,0,0,0,0,0,0] 0) (ap O [.int u3] (cr O c0 [3,0,3,3,1,3,1,0,0,0,3,0,0,0] 14))))) fun c3=>let u4:=(O.p c3 14);let u0:=(O.r u1 (O.l u4));(O.b (x.B 29) (O.k u0 (O.a (ap O (cr O c3 [0,0,0,0,0,0,0,0,0,0,0,0,0,0] 0) (ap O [.rows (O.x u4 u1 0 [.int (O.lit .u8 3)])] (ap O (cr O c3 [0,3,3,1,3,1,0,0,0,3,0,0,0] 15) [.int u3]))))) (O.c (O.g 236 [] (ap O (cr O c3 kI 0) [.int (x.I 28)])) fun c4=>(O.c (O.b (O.m c4 0) (O.k u0 (O.a (ap O (cr O c3 [0,0,0,0,0,0,0,0,0,0,0,0,0,0] 0) (ap O [.rows (O.x u4 u1 0 [.int (O.lit .u8 2)])] (cr O c3 [0,3,3,1,3,1,0,0,0,3,0,0,0] 15))))) (O.a (cr O c3 kI 0))) fun c5=>(O.a (ap O (cr O c5 [0,0,0,0] 0) (ap O [.int (O.q .i64 (O.d c5 4) (lq9 O 1))] (ap O (cr O c5 [0,0,0,0,0,0,0,0,0,3,0,3,3,1,3,1,0,0,0,3,0,0,0] 5) [.int u3])))))))))))))))
def Ei:Nat→Env:=eL [(218,C7),(234,A4),(236,A3)]
theorem PH {N ls}:Ei N 218 [] ls=C7 N ls:=id rfl
theorem Pz {N ls}:Ei N 234 [] ls=A4 N ls:=id rfl
theorem Oj {N ls}:Ei N 236 [] ls=A3 N ls:=id rfl
def GN:=oS Si JA Ei
def ZO:List Nat:=[0,0,0,0,0,0,0,0,0,0,0,0,0,0,3,0,3,3,1,3,1,0,0,0,3,0,0,0]
def Ot (O:Alg) (x:Ags O):O.M:=(O.c (O.g 166 [] [.rows (x.L 14)]) fun c0=>(O.c (O.g 167 [] [.rows (x.L 16)]) fun c1=>(O.c (O.g 167 [] [.rows (x.L 17)]) fun c2=>(O.c (O.g 167 [] [.rows (x.L 19)]) fun c3=>(O.c (O.g 168 [] [.rows (x.L 24)]) fun c4=>(O.a (ap O (xr x [0,0,0,0,0,0,0,0,0,0,0,0,0,0] 0) (ap O [.rows (O.p c0 0),.int (x.I 15),.rows (O.p c1 0),.rows (O.p c2 0),.bool (x.B 18),.rows (O.p c3 0)] (ap O (xr x [1,0,0,0] 20) (ap O [.rows (O.p c4 0)] (xr x [0,0,0] 25)))))))))))
def IL:Nat→Env:=eL [(166,Ab),(167,Ak),(168,Ad)]
theorem Ma {N ls}:IL N 166 [] ls=Ab N ls:=id rfl
theorem OC {N ls}:IL N 167 [] ls=Ak N ls:=id rfl
theorem Ng {N ls}:IL N 168 [] ls=Ad N ls:=id rfl
def Cu:=oS ZO Ot IL
def Sm:List Nat:=[0,0,0,0,0,0,0,0,0,0,0,0,0,0,3,0,3,3,1,3,1,0,0,0,3,0,0,0,0]
def JL (O:Alg) (x:Ags O):O.M:=(O.c (O.g 245 [] (xr x kI 0)) fun c0=>(O.b (O.i (O.n (x.I 28) (lq9 O 0)) O.j (O.n (O.v .i64 (O.l (x.L 24)) (lq9 O 2)) (x.I 28))) (O.a (ap O (cr O c0 kI 0) [.int (lq9 O 16)])) (O.a (ap O (cr O c0 [0,0,0,0,0,0,0,0,0,0,0,0,0,0,3,0,3,3,1,3,1,0,0] 0) (ap O [.int (x.I 28)] (ap O (cr O c0 [3,0,0,0] 24) [.int (lq9 O 0)]))))))
def Kq:Nat→Env:=eL [(245,Cu)]
theorem Qh {N ls}:Kq N 245 [] ls=Cu N ls:=id rfl
def GH:=oS Sm JL Kq
def UC:List Nat:=[0,0,0,0,0,0,0,0,0,0,0,0,0,0,3,0,3,3,1,3,1,0,0,0,3,0,0,0,0]
def KV (O:Alg) (x:Ags O):O.M:=(O.c (O.g 245 [] (xr x kI 0)) fun c0=>(O.c (O.g 246 [] (xr x [0,0,0,0,0,0,0,0,0,0,0,0,0,0,3,0,3,3,1,3,1,0,0,0,3,0,0,0,0] 0)) fun c1=>(O.b (O.h (O.m c1 0)) (O.a (ap O (cr O c0 kI 0) [.int (lq9 O 3)])) (O.c (O.g 247 [] (xr x [0,0,0,0,0,0,0,0,0,0,0,0,0,0,3,0,3,3,1,3,1,0,0,0,3,0,0,0,0] 0)) fun c2=>(O.b (O.m c2 0) (O.a (ap O (cr O c0 kI 0) [.int (lq9 O 18)])) (O.b (O.i (O.e (x.I 28) (x.I 15)) O.j (O.e (x.I 28) (x.I 22))) (O.a (ap O (cr O c0 kI 0) [.int (lq9 O 17)])) (O.a (ap O (cr O c0 [0,0,0,0,0,0,0,0,0,0,0,0,0,0,3,0,3,3,1,3,1,0] 0) (ap O [.int (x.I 28)] (ap O (cr O c0 [0,3,0,0,0] 23) [.int (lq9 O 0)]))))))))))
def FD:Nat→Env:=eL [(245,Cu),(246,BB),(247,BA)]
theorem R3 {N ls}:FD N 245 [] ls=Cu N ls:=id rfl
theorem Ps {N ls}:FD N 246 [] ls=BB N ls:=id rfl
theorem Nl {N ls}:FD N 247 [] ls=BA N ls:=id rfl
def HR:=oS UC KV FD
def PN:List Nat:=[0,0,0,0,0,0,0,0,0,0,0,0,0,0,3,0,3,3,1,3,1,0,0,0,3,0,0,0,0,1]
def Fy (O:Alg) (x:Ags O):O.M:=let u2:=(lq9 O 0);let u1:=(O.v .i64 (x.I 28) (lq9 O 1));(O.c (O.g 245 [] (xr x kI 0)) fun c0=>let u0:=(O.x (O.p c0 24) u1 0 [.bool (x.B 29)]);(O.c (O.g 246 [] (xr x [0,0,0,0,0,0,0,0,0,0,0,0,0,0,3,0,3,3,1,3,1,0,0,0,3,0,0,0,0] 0)) fun c1=>(O.b (O.h (O.m c1 0)) (O.a (ap O (cr O c0 kI 0) [.int (lq9 O 3)])) (O.c (O.g 247 [] (xr x [0,0,0,0,0,0,0,0,0,0,0,0,0,0,3,0,3,3,1,3,1,0,0,0,3,0,0,0,0] 0)) fun c2=>(O.b (O.aj (O.m c2 0) (x.B 29)) (O.a (ap O (cr O c0 kI 0) [.int (lq9 O 18)])) (O.k (O.r u1 (O.l (O.p c0 24))) (O.c (O.b (O.i (x.B 29) (O.e (O.d c0 22) (x.I 28)) O.f) (O.a (ap O (cr O c0 [0,0,0,0,0,0,0,0,0,0,0,0,0,0,3,0,3,3,1,3,1,0] 0) (ap O [.int u2,.int (O.d c0 23),.rows u0] (cr O c0 [0,0,0] 25)))) (O.a (ap O (cr O c0 [0,0,0,0,0,0,0,0,0,0,0,0,0,0,3,0,3,3,1,3,1,0,0,0] 0) (ap O [.rows u0] (cr O c0 [0,0,0] 25))))) fun c3=>(O.b (O.i (x.B 29) (O.e (O.d c3 15) (x.I 28)) O.f) (O.a (ap O (cr O c3 [0,0,0,0,0,0,0,0,0,0,0,0,0,0,3] 0) (ap O [.int u2] (ap O (cr O c3 [3,3,1,3,1,0,0,0,3,0,0,0] 16) [.int u2])))) (O.a (ap O (cr O c3 kI 0) [.int u2]))))))))))
def DL:Nat→Env:=eL [(245,Cu),(246,BB),(247,BA)]
theorem N5 {N ls}:DL N 245 [] ls=Cu N ls:=id rfl
theorem M8 {N ls}:DL N 246 [] ls=BB N ls:=id rfl
theorem Kv {N ls}:DL N 247 [] ls=BA N ls:=id rfl
def D8:=oS PN Fy DL
def Sq:List Nat:=[2,0,0,0,0,0,0,0,1,0,0,0,0,3,0,0,0,0,0,0,0,0,0,0,0,0,0,0,3,0,3,3,1,3,1,0,0,0,3,0,0,0]
def JI (O:Alg) (x:Ags O):O.M:=let u0:=(lq9 O 0);(O.c (O.g 237 [] (xr x kI 14)) fun c0=>(O.c (O.g 61 [] (xr x kR 0)) fun c1=>(O.b (O.i (O.i (O.h (O.e (O.d c1 0) u0)) O.j (O.e (x.I 9) u0)) O.j (O.n (x.I 35) (O.ai .i64 (x.I 9) (x.I 4)))) (O.a (ap O (cr O c0 kI 0) [.int (lq9 O 22)])) (O.a (ap O (cr O c0 [0,0,0,0,0,0,0,0,0,0,0,0,0,0,3,0,3,3,1,3,1] 0) (ap O [.int u0] (ap O (cr O c0 [0,0,3,0,0,0] 22) [.int u0])))))))
def G4:Nat→Env:=eL [(61,AY),(237,C1)]
theorem PK {N ls}:G4 N 61 [] ls=AY N ls:=id rfl
theorem Qp {N ls}:G4 N 237 [] ls=C1 N ls:=id rfl
def Gb:=oS Sq JI G4
def QS:List Nat:=[2,0,0,0,0,0,0,0,1,0,0,0,0,3,0,0,0,0,0,0,0,0,0,0,0,0,0,0,3,0,3,3,1,3,1,0,0,0,3,0,0,0,0,0,0,0,1,0,0,0,0,0,0,0,1,0,0,0,0,1,0]
def Gt (O:Alg) (x:Ags O):O.M:=(O.c (O.g 134 [] (xr x kI 14)) fun c0=>(O.b (O.h (O.e (x.I 43) (x.I 14))) (O.a (ap O (cr O c0 kI 0) [.int (lq9 O 2)])) (O.b (O.h (O.e (x.I 3) (lq9 O 0))) (O.a (ap O (cr O c0 kI 0) [.int (lq9 O 20)])) (O.a (ap O (cr O c0 [0,0,0,0,0,0,0,0,0,0,0,0,0,0,3,0,3,3,1,3,1,0,0,0,3,0,0] 0) [.int (O.lit .u8 4),.int (lq9 O 0)])))))
def Iz:Nat→Env:=eL [(134,AX)]
theorem Mi {N ls}:Iz N 134 [] ls=AX N ls:=id rfl
def Ec:=oS QS Gt Iz
def QF:List Nat:=[0,0,0,0,0,0,0,0,0,0,0,0,0,0,3,0,3,3,1,3,1,0,0,0,3,0,0,0]
def Gr (O:Alg) (x:Ags O):O.M:=(O.c (O.g 134 [] (xr x kI 0)) fun c0=>(O.a (ap O (cr O c0 [0,0,0] 0) (ap O [.int (O.q .i64 (O.d c0 3) (lq9 O 5))] (ap O (cr O c0 [0,0,0,0,0] 4) (ap O [.int (O.q .i64 (O.d c0 9) (lq9 O 5))] (cr O c0 [0,0,0,0,3,0,3,3,1,3,1,0,0,0,3,0,0,0] 10)))))))
def I0:Nat→Env:=eL [(134,AX)]
theorem Mb {N ls}:I0 N 134 [] ls=AX N ls:=id rfl
def CS:=oS QF Gr I0
def QG:List Nat:=[0,0,0,0,0,0,0,0,0,0,0,0,0,0,3,0,3,3,1,3,1,0,0,0,3,0,0,0,0,0,0,0,1,0,0,0,0,0,0,0,1,0,0,0,0,1,0]
def G5 (O:Alg) (x:Ags O):O.M:=let u0:=(lq9 O 0);(O.c (O.g 134 [] (xr x kI 0)) fun c0=>(O.b (O.h (O.e (x.I 33) (lq9 O 5))) (O.a (ap O (cr O c0 kI 0) [.int (lq9 O 23)])) (O.b (O.e (x.I 29) (x.I 0)) (O.c (O.g 191 [] (xr x kI 0)) fun c1=>(O.a (ap O (cr O c1 kI 0) [.int u0]))) (O.b (O.n u0 (O.d c0 1)) (O.a (ap O [.int (O.d c0 0),.int (O.q .i64 (O.d c0 1) (lq9 O 5))] (ap O (cr O c0 [0,0,0,0,0,0,0,0,0,0,0,0,3,0,3,3,1,3,1,0,0,0,3,0,0,0] 2) [.int u0]))) (O.a (ap O (cr O c0 kI 0) [.int u0]))))))
def Fe:Nat→Env:=eL [(134,AX),(191,CS)]
theorem Me {N ls}:Fe N 134 [] ls=AX N ls:=id rfl
theorem K1 {N ls}:Fe N 191 [] ls=CS N ls:=id rfl
def EX:=oS QG G5 Fe
def Q7:List Nat:=[2,0,0,0,0,0,0,0,1,0,0,0,0,3,0,0,0,0,0,0,0,0,0,0,0,0,0,0,3,0,3,3,1,3,1,0,0,0,3,0,0,0,0,0,0,0,1,0,0,0,0,0,0,0,1,0,0,0,0,1,0]
def FK (O:Alg) (x:Ags O):O.M:=let u5:=(lq9 O 0);let u4:=(lq9 O 1);let u3:=(O.v .i64 (x.I 43) u4);let u2:=(O.r u3 (lq9 O 2));let u1:=(O.e u3 u4);(O.c (O.g 134 [] (xr x kI 14)) fun c0=>let u0:=(O.q .i64 (O.ah u1 (O.d c0 26) (O.d c0 25)) u4);(O.k (O.h (O.ab (O.h (O.h (x.B 32))) (O.h u2))) (O.b (O.i (O.h (x.B 32)) O.j (O.t (x.I 11) (O.ah u1 (x.I 40) (x.I 39)))) (O.a (ap O (cr O c0 kI 0) [.int (lq9 O 24)])) (O.b (O.h (x.B 46)) (O.k u2 (O.k u2 (O.a (ap O (cr O c0 [0,0,0,0,0,0,0,0,0,0,0,0,0,0,3,0,3,3,1,3,1,0,0,0,3] 0) [.int (O.ah (O.e u3 u5) u0 (O.d c0 25)),.int (O.ah u1 u0 (O.d c0 26)),.int (O.d c0 27),.int u5])))) (O.a (ap O (cr O c0 kI 0) [.int u5]))))))
def J3:Nat→Env:=eL [(134,AX)]
theorem GZ {N ls}:J3 N 134 [] ls=AX N ls:=id rfl
def FA:=oS Q7 FK J3
def Sp:List Nat:=[2,0,0,0,0,0,0,0,1,0,0,0,0,3,0,0,0,0,0,0,0,0,0,0,0,0,0,0,3,0,3,3,1,3,1,0,0,0,3,0,0,0]
def S0 (O:Alg) (x:Ags O):O.M:=(O.a [.int (O.q .i64 (O.ai .i64 (x.I 24) (x.I 4)) (x.I 25))])
def Yh:Nat→Env:=eL []
def GG:=oS Sp S0 Yh
def RY:List Nat:=[2,0,0,0,0,0,0,0,1,0,0,0,0,3,0,0,0,0,0,0,0,0,0,0,0,0,0,0,3,0,3,3,1,3,1,0,0,0,3,0,0,0,0,0,0,0,1,0,0,0,0,0,0,0,1,0,0,0,0,1,0]
def IA (O:Alg) (x:Ags O):O.M:=let u4:=(lq9 O 0);let u3:=(lq9 O 25);let u2:=(O.n (x.I 3) (x.I 48));let u1:=(O.n u4 (x.I 47));let u0:=(O.n u4 (x.I 48));(O.c (O.g 134 [] (xr x kI 14)) fun c0=>(O.b (O.i (O.e (x.I 3) u4) O.j (O.i (O.e (x.I 47) u4) (O.e (x.I 48) u4) O.f)) (O.a (ap O (cr O c0 kI 0) [.int u3])) (O.b (O.i u1 (O.i (O.e (x.I 15) u4) O.j (O.t (x.I 47) (x.I 17))) O.f) (O.a (ap O (cr O c0 kI 0) [.int u3])) (O.c (O.b (O.ab u0 (O.h u2)) (O.g 248 [] (xr x [2,0,0,0,0,0,0,0,1,0,0,0,0,3,0,0,0,0,0,0,0,0,0,0,0,0,0,0,3,0,3,3,1,3,1,0,0,0,3,0,0,0] 0)) (O.a [.int u4])) fun c1=>(O.b (O.i u0 (O.i u2 O.j (O.n (O.ai .i64 (x.I 48) (x.I 4)) (O.d c1 0))) O.f) (O.a (ap O (cr O c0 kI 0) [.int u3])) (O.c (O.b u1 (O.a (ap O [.int (O.d c0 0),.int (x.I 47)] (cr O c0 [0,0,0,0,0,0,0,0,0,0,0,0,3,0,3,3,1,3,1,0,0,0,3,0,0,0] 2))) (O.a (cr O c0 kI 0))) fun c2=>(O.b u0 (O.a (ap O [.int (O.d c2 0),.int (O.d c2 1),.int (x.I 48)] (ap O (cr O c2 [0,0,0,0,0,0,0,0,0,0,0,3,0,3,3,1,3,1,0,0,0,3,0,0,0] 3) [.int u4]))) (O.a (ap O (cr O c2 kI 0) [.int u4])))))))))
def F5:Nat→Env:=eL [(134,AX),(248,GG)]
theorem NJ {N ls}:F5 N 134 [] ls=AX N ls:=id rfl
theorem Mw {N ls}:F5 N 248 [] ls=GG N ls:=id rfl
def FM:=oS RY IA F5
def QI:List Nat:=[2,0,0,0,0,0,0,0,1,0,0,0,0,3,0,0,0,0,0,0,0,0,0,0,0,0,0,0,3,0,3,3,1,3,1,0,0,0,3,0,0,0,0,0,0,0,1,0,0,0,0,0,0,0,1,0,0,0,0,1,0]
def Ek (O:Alg) (x:Ags O):O.M:=(O.b (O.e (x.I 42) (O.lit .u8 2)) (O.c (O.g 203 [] (ap O (xr x kI 14) [.int (x.I 44),.int (x.I 45)])) fun c0=>(O.a (cr O c0 [0,0,0,0,0,0,0,0,0,0,0,0,0,0,3,0,3,3,1,3,1,0,0,0,3,0,0,0,0] 0))) (O.b (O.e (x.I 42) (O.lit .u8 3)) (O.c (O.g 204 [] (ap O (xr x [2,0,0,0,0,0,0,0,1,0,0,0,0,3,0,0,0,0,0,0,0,0,0,0,0,0,0,0,3,0,3,3,1,3,1,0,0,0,3,0,0,0] 0) [.int (x.I 44)])) fun c0=>(O.a (cr O c0 [0,0,0,0,0,0,0,0,0,0,0,0,0,0,3,0,3,3,1,3,1,0,0,0,3,0,0,0,0] 0))) (O.b (O.e (x.I 42) (O.lit .u8 4)) (O.c (O.g 205 [] (ap O (xr x [2,0,0,0,0,0,0,0,1,0,0,0,0,3,0,0,0,0,0,0,0,0,0,0,0,0,0,0,3,0,3,3,1,3,1,0,0,0,3,0,0,0] 0) (xr x [0,0,0,0,0,1,0,0,0,0,1,0] 49))) fun c0=>(O.a (cr O c0 [0,0,0,0,0,0,0,0,0,0,0,0,0,0,3,0,3,3,1,3,1,0,0,0,3,0,0,0,0] 0))) (O.b (O.e (x.I 42) (O.lit .u8 5)) (O.b (x.B 46) (O.c (O.g 206 [] (ap O (xr x kI 14) [.int (x.I 44)])) fun c0=>(O.a (cr O c0 [0,0,0,0,0,0,0,0,0,0,0,0,0,0,3,0,3,3,1,3,1,0,0,0,3,0,0,0,0] 0))) (O.c (O.g 207 [] (ap O (xr x kI 14) [.int (x.I 44)])) fun c0=>(O.a (cr O c0 [0,0,0,0,0,0,0,0,0,0,0,0,0,0,3,0,3,3,1,3,1,0,0,0,3,0,0,0,0] 0)))) (O.b (O.e (x.I 42) (O.lit .u8 6)) (O.c (O.g 208 [] (ap O (xr x kI 14) [.int (x.I 44),.bool (x.B 46)])) fun c0=>(O.a (cr O c0 [0,0,0,0,0,0,0,0,0,0,0,0,0,0,3,0,3,3,1,3,1,0,0,0,3,0,0,0,0] 0))) (O.b (O.e (x.I 42) (O.lit .u8 7)) (O.c (O.g 209 [] (ap O (xr x kI 14) [.int (x.I 47)])) fun c0=>(O.a (cr O c0 [0,0,0,0,0,0,0,0,0,0,0,0,0,0,3,0,3,3,1,3,1,0,0,0,3,0,0,0,0] 0))) (O.b (O.e (x.I 42) (O.lit .u8 8)) (O.c (O.g 210 [] (ap O (xr x kI 14) [.int (x.I 44)])) fun c0=>(O.a (cr O c0 [0,0,0,0,0,0,0,0,0,0,0,0,0,0,3,0,3,3,1,3,1,0,0,0,3,0,0,0,0] 0))) (O.b (O.e (x.I 42) (O.lit .u8 9)) (O.c (O.g 211 [] (ap O (xr x kI 14) [.int (x.I 44),.bool (x.B 46)])) fun c0=>(O.a (cr O c0 [0,0,0,0,0,0,0,0,0,0,0,0,0,0,3,0,3,3,1,3,1,0,0,0,3,0,0,0,0] 0))) (O.b (O.e (x.I 42) (O.lit .u8 10)) (O.c (O.g 212 [] (xr x [2,0,0,0,0,0,0,0,1,0,0,0,0,3,0,0,0,0,0,0,0,0,0,0,0,0,0,0,3,0,3,3,1,3,1,0,0,0,3,0,0,0] 0)) fun c0=>(O.a (cr O c0 [0,0,0,0,0,0,0,0,0,0,0,0,0,0,3,0,3,3,1,3,1,0,0,0,3,0,0,0,0] 0))) (O.b (O.e (x.I 42) (O.lit .u8 11)) (O.c (O.g 213 [] (xr x [2,0,0,0,0,0,0,0,1,0,0,0,0,3,0,0,0,0,0,0,0,0,0,0,0,0,0,0,3,0,3,3,1,3,1,0,0,0,3,0,0,0,0,0,0,0,1,0,0,0,0,0,0,0,1,0,0,0,0,1,0] 0)) fun c0=>(O.a (cr O c0 [0,0,0,0,0,0,0,0,0,0,0,0,0,0,3,0,3,3,1,3,1,0,0,0,3,0,0,0,0] 0))) (O.b (O.e (x.I 42) (O.lit .u8 13)) (O.c (O.g 214 [] (xr x [0,0,0,0,0,0,0,0,0,0,0,0,0,0,3,0,3,3,1,3,1,0,0,0,3,0,0,0,0,0,0,0,1,0,0,0,0,0,0,0,1,0,0,0,0,1,0] 14)) fun c0=>(O.a (cr O c0 [0,0,0,0,0,0,0,0,0,0,0,0,0,0,3,0,3,3,1,3,1,0,0,0,3,0,0,0,0] 0))) (O.b (O.e (x.I 42) (O.lit .u8 14)) (O.c (O.g 215 [] (xr x [2,0,0,0,0,0,0,0,1,0,0,0,0,3,0,0,0,0,0,0,0,0,0,0,0,0,0,0,3,0,3,3,1,3,1,0,0,0,3,0,0,0,0,0,0,0,1,0,0,0,0,0,0,0,1,0,0,0,0,1,0] 0)) fun c0=>(O.a (cr O c0 [0,0,0,0,0,0,0,0,0,0,0,0,0,0,3,0,3,3,1,3,1,0,0,0,3,0,0,0,0] 0))) (O.c (O.g 216 [] (xr x [2,0,0,0,0,0,0,0,1,0,0,0,0,3,0,0,0,0,0,0,0,0,0,0,0,0,0,0,3,0,3,3,1,3,1,0,0,0,3,0,0,0,0,0,0,0,1,0,0,0,0,0,0,0,1,0,0,0,0,1,0] 0)) fun c0=>(O.a (cr O c0 [0,0,0,0,0,0,0,0,0,0,0,0,0,0,3,0,3,3,1,3,1,0,0,0,3,0,0,0,0] 0)))))))))))))))
def Al:Nat→Env:=eL [(203,IM),(204,JU),(205,HC),(206,FO),(207,HW),(208,GN),(209,GH),(210,HR),(211,D8),(212,Gb),(213,Ec),(214,EX),(215,FA),(216,FM)]
theorem Gm {N ls}:Al N 203 [] ls=IM N ls:=id rfl
theorem HI {N ls}:Al N 204 [] ls=JU N ls:=id rfl
theorem GF {N ls}:Al N 205 [] ls=HC N ls:=id rfl
theorem FF {N ls}:Al N 206 [] ls=FO N ls:=id rfl
theorem GP {N ls}:Al N 207 [] ls=HW N ls:=id rfl
theorem Ff {N ls}:Al N 208 [] ls=GN N ls:=id rfl
theorem Fg {N ls}:Al N 209 [] ls=GH N ls:=id rfl
theorem GY {N ls}:Al N 210 [] ls=HR N ls:=id rfl
theorem Eh {N ls}:Al N 211 [] ls=D8 N ls:=id rfl
theorem Fj {N ls}:Al N 212 [] ls=Gb N ls:=id rfl
theorem Ew {N ls}:Al N 213 [] ls=Ec N ls:=id rfl
theorem Es {N ls}:Al N 214 [] ls=EX N ls:=id rfl
theorem FL {N ls}:Al N 215 [] ls=FA N ls:=id rfl
theorem FV {N ls}:Al N 216 [] ls=FM N ls:=id rfl
def Ea:=oS QI Ek Al
def R1:List Nat:=[2,0,0,0,0,0,0,0,1,0,0,0,0,3,0,0,0,0,0,0,0,0,0,0,0,0,0,0,3,0,3,3,1,3,1,0,0,0,3,0,0,0]
def Hv (O:Alg) (x:Ags O):O.M:=let u0:=(lq9 O 0);(O.c (O.g 127 [] (xr x [2,0,0,0,0,0,0,0,1,0,0,0,0,3,0,0,0,0,0,0,0,0,0,0,0,0,0,0,3,0,3,3,1,3,1,0,0,0,3,0,0,0] 0)) fun c0=>(O.b (O.h (O.m c0 0)) (O.a [.int (O.lit .u8 0)]) (O.b (O.i (O.n u0 (x.I 15)) (O.t (x.I 15) (x.I 17)) O.f) (O.a [.int (O.lit .u8 3)]) (O.c (O.g 217 [] (xr x kI 14)) fun c1=>(O.c (O.b (O.m c1 0) (O.g 218 [] (xr x kI 14)) (O.a [.rows O.y])) fun c2=>(O.b (O.i (O.m c1 0) (O.e (O.l (O.p c2 0)) u0) O.f) (O.a [.int (O.lit .u8 1)]) (O.b (O.i (O.n u0 (x.I 16)) (O.t (x.I 16) (x.I 24)) O.f) (O.a [.int (O.lit .u8 2)]) (O.a [.int (O.lit .u8 0)]))))))))
def D6:Nat→Env:=eL [(127,BS),(217,BT),(218,C7)]
def Dp:=oS R1 Hv D6
def Ut:List Nat:=[2,0,0,0,0,0,0,0,1,0,0,0,0,3,0,0,0,0,0,0,0,0,0,0,0,0,0,0,3,0,3,3,1,3,1,0,0,0,3,0,0,0,0,0,0,0,1,0,0,0,0,0,0,0,1,0,0,0,0,1,0]
def KS (O:Alg) (x:Ags O):O.M:=let u1:=(lq9 O 0);(O.c (O.g 127 [] (xr x [2,0,0,0,0,0,0,0,1,0,0,0,0,3,0,0,0,0,0,0,0,0,0,0,0,0,0,0,3,0,3,3,1,3,1,0,0,0,3,0,0,0] 0)) fun c0=>let u0:=(O.h (O.m c0 0));(O.c (O.b (O.h u0) (O.g 107 [] (xr x [0,0,0,0,1,0,0,0,0,0,0,0,1,0,0,0,0,1,0] 42)) (O.a [.int u1])) fun c1=>(O.b (O.i u0 O.j (O.h (O.e (O.d c1 0) u1))) (O.c (O.g 134 [] (xr x kI 14)) fun c2=>(O.a (ap O (cr O c2 kI 0) [.int (lq9 O 1)]))) (O.b (O.h (O.e (x.I 41) (O.lit .u8 0))) (O.c (O.g 134 [] (xr x kI 14)) fun c2=>(O.a (ap O (cr O c2 kI 0) [.int (lq9 O 26)]))) (O.c (O.b (O.h (O.i (O.i (O.e (x.I 42) (O.lit .u8 1)) O.j (O.e (x.I 42) (O.lit .u8 12))) O.j (O.e (x.I 42) (O.lit .u8 16)))) (O.g 188 [] (xr x kI 14)) (O.a [.bool O.f])) fun c2=>(O.b (O.i (O.i (O.i (O.e (x.I 42) (O.lit .u8 1)) O.j (O.e (x.I 42) (O.lit .u8 12))) O.j (O.e (x.I 42) (O.lit .u8 16))) O.j (O.i (O.h (O.m c2 0)) (O.h (O.e (x.I 42) (O.lit .u8 2))) O.f)) (O.c (O.g 134 [] (xr x kI 14)) fun c3=>(O.a (ap O (cr O c3 kI 0) [.int (lq9 O 1)]))) (O.c (O.g 189 [] (xr x [2,0,0,0,0,0,0,0,1,0,0,0,0,3,0,0,0,0,0,0,0,0,0,0,0,0,0,0,3,0,3,3,1,3,1,0,0,0,3,0,0,0,0,0,0,0,1,0,0,0,0,0,0,0,1,0,0,0,0,1,0] 0)) fun c3=>(O.b (O.h (O.e (O.d c3 28) u1)) (O.c (O.g 134 [] (xr x kI 14)) fun c4=>(O.a (ap O (cr O c4 kI 0) [.int (O.d c3 28)]))) (O.b (O.e (O.d c3 27) (O.lit .u8 0)) (O.c (O.g 190 [] (ap O (xr x kR 0) (ap O (cr O c3 [0,0,0,0,0,0,0,0,0,0,0,0,0,0,3,0,3,3] 0) (ap O [.bool (O.e (x.I 42) (O.lit .u8 4))] (cr O c3 [3,1,0,0,0,3,0,0,0] 19))))) fun c4=>(O.a (ap O (cr O c3 [0,0,0,0,0,0,0,0,0,0,0,0,0,0,3,0,3,3] 0) (ap O [.bool (O.e (x.I 42) (O.lit .u8 4))] (ap O (cr O c3 [3,1,0,0,0,3,0,0] 19) [.int (O.d c4 0),.int u1]))))) (O.a (ap O (cr O c3 [0,0,0,0,0,0,0,0,0,0,0,0,0,0,3,0,3,3] 0) (ap O [.bool (O.e (x.I 42) (O.lit .u8 4))] (ap O (cr O c3 [3,1,0,0,0,3,0,0,0] 19) [.int u1])))))))))))))
def Cb:Nat→Env:=eL [(107,DR),(127,BS),(134,AX),(188,GQ),(189,Ea),(190,Dp)]
theorem Pi {N ls}:Cb N 107 [] ls=DR N ls:=id rfl
theorem Oe {N ls}:Cb N 127 [] ls=BS N ls:=id rfl
theorem N2 {N ls}:Cb N 134 [] ls=AX N ls:=id rfl
theorem Oa {N ls}:Cb N 188 [] ls=GQ N ls:=id rfl
theorem F2 {N ls}:Cb N 189 [] ls=Ea N ls:=id rfl
theorem Gn {N ls}:Cb N 190 [] ls=Dp N ls:=id rfl
def HQ:=oS Ut KS Cb
def W6:List Nat:=[2,0,0,0,0,0,0,0,1,0,0,0,0,3,0,0,1,3,0,0,0,0,0,0,0,0,0,1,0,0,0,0,0,0,0,1,0,0,0,0,1,0]
def M7 (O:Alg) (x:Ags O):O.M:=let u23:=(lq9 O 2);let u22:=(lq9 O 1);let u21:=(lq9 O 0);let u17:=(O.v .i64 (x.I 24) u22);let u11:=(O.r u17 u23);let u10:=(O.e u17 u22);(O.c (O.g 106 [] (xr x kM 0)) fun c0=>let u20:=(O.h (O.m c0 0));(O.c (O.b (O.h u20) (O.g 107 [] (xr x [0,0,0,0,1,0,0,0,0,0,0,0,1,0,0,0,0,1,0] 23)) (O.a [.int u21])) fun c1=>(O.b (O.i u20 O.j (O.h (O.e (O.d c1 0) u21))) (O.c (O.g 108 [] (xr x kM 0)) fun c2=>(O.a (ap O (cr O c2 kM 0) [.int u22]))) (O.b (O.e (x.I 14) (O.lit .u8 5)) (O.c (O.g 108 [] (xr x kM 0)) fun c2=>(O.a (ap O (cr O c2 kM 0) [.int (lq9 O 26)]))) (O.c (O.g 108 [] (xr x kM 0)) fun c2=>let u28:=(O.d c2 15);let u27:=(O.d c2 18);let u26:=(O.d c2 19);let u25:=(O.d c2 14);let u24:=(O.p c2 17);let u19:=(O.l u24);let u12:=(O.v .i64 u19 u22);let u4:=(O.r u12 u19);let u0:=(O.q .i64 (O.ah u10 u26 u27) (lq9 O 5));(O.c (O.b (O.e (x.I 23) (O.lit .u8 1)) (O.b (O.h (O.e u25 (O.lit .u8 1))) (O.a (ap O [.int u22] (cr O c2 kM 0))) (O.c (O.g 135 [] [.int (x.I 24)]) fun c3=>(O.b (x.B 27) (O.a (ap O [.int u21] (ap O (cr O c2 kR 0) (ap O [.int (O.lit .u8 2),.int (x.I 24)] (cr O c2 [1,3,0,0,0,0,0] 16))))) (O.a (ap O [.int u21] (ap O (cr O c2 kR 0) (ap O [.int (O.lit .u8 2),.int (O.d c3 0)] (cr O c2 [1,3,0,0,0,0,0] 16)))))))) (O.b (O.e (x.I 23) (O.lit .u8 2)) (O.c (O.b (O.h (O.e u25 (O.lit .u8 2))) (O.a (ap O [.int u22] (cr O c2 kM 0))) (O.c (O.g 128 [] (ap O (cr O c2 kM 0) [.int u19])) fun c3=>let u16:=(O.v .i64 (O.d c3 0) u22);let u9:=(O.e u16 u22);let u8:=(O.r u16 u23);(O.c (O.g 170 [] (ap O (cr O c2 kM 0) [.int (O.d c3 0)])) fun c4=>(O.k u8 (O.c (O.g 169 [] (ap O (cr O c2 kR 0) [.int (O.d c3 0),.int (O.d c4 0),.int (O.ah u9 u26 u27)])) fun c5=>(O.b (O.h (O.e (O.d c5 28) u21)) (O.a (ap O [.int u22] (cr O c2 kM 0))) (O.c (O.g 171 [] (ap O (cr O c2 kR 0) (ap O (cr O c5 kI 0) (xr x [0,0,0,0,1,0,0,0,0,0,0,0,1,0,0,0,0,1,0] 23)))) fun c6=>let u14:=(O.ad u24 (O.ac [(cr O c6 kI 0)]));(O.b (O.h (O.e (O.d c6 28) u21)) (O.a (ap O [.int (O.d c6 28)] (cr O c2 kM 0))) (O.k u8 (O.k (O.u (O.l u14) 304) (O.a (ap O [.int u21] (ap O (cr O c2 kR 0) (ap O [.int (O.lit .u8 3),.int u28,.bool (O.m c2 16),.rows u14,.int (O.ah (O.e u16 u21) u21 u27),.int (O.ah u9 u21 u26)] (cr O c2 [0,0,0] 20))))))))))))))) fun c3=>(O.a (cr O c3 [0,2,0,0,0,0,0,0,0,1,0,0,0,0,3,0,0,1,3,0,0,0,0,0] 0))) (O.b (O.e (x.I 23) (O.lit .u8 12)) (O.b (O.h (O.e u25 (O.lit .u8 4))) (O.a (ap O [.int u22] (cr O c2 kM 0))) (O.b (O.h (O.e (x.I 24) u28)) (O.a (ap O [.int u23] (cr O c2 kM 0))) (O.a (ap O [.int u21] (ap O (cr O c2 kR 0) (ap O [.int (O.lit .u8 2),.int u28,.bool (x.B 27)] (cr O c2 [3,0,0,0,0,0] 17))))))) (O.b (O.e (x.I 23) (O.lit .u8 16)) (O.c (O.b (O.e u25 (O.lit .u8 3)) (O.k u4 (O.a (ap O (cr O c2 [2,0,0,0,0,0,0,0,1,0,0,0,0,3,0,0,1] 0) (ap O [.rows (O.x u24 u12 27 [.int (O.lit .u8 5)])] (cr O c2 [0,0,0,0,0] 18))))) (O.a (cr O c2 kM 0))) fun c3=>(O.c (O.g 172 [] (cr O c3 kR 0)) fun c4=>(O.a (ap O [.int u21] (ap O (cr O c3 kR 0) (ap O [.int (O.lit .u8 5)] (ap O (cr O c3 [0,1,3,0,0] 15) [.int (O.d c4 0),.int u21,.int u21]))))))) (O.c (O.b (O.h (O.e u25 (O.lit .u8 3))) (O.a (ap O [.int u22] (cr O c2 kM 0))) (O.k u4 (O.c (O.g 171 [] (ap O (cr O c2 kR 0) (ap O (rr O u24 u12 kI 0) (xr x [0,0,0,0,1,0,0,0,0,0,0,0,1,0,0,0,0,1,0] 23)))) fun c3=>let u3:=(O.x u24 u12 0 (cr O c3 kI 0));let u2:=(O.l u3);(O.b (O.h (O.e (O.d c3 28) u21)) (O.a (ap O [.int (O.d c3 28)] (cr O c2 kM 0))) (O.k u4 (O.b (O.i (O.e (x.I 23) (O.lit .u8 13)) (O.h (O.e (x.I 24) (O.d c3 0))) O.f) (O.c (O.c (O.w (fun s4 c4=>let u30:=(O.d c4 0);let u1:=(O.r u30 u2);(O.b (O.t u21 u30) (O.k u1 (O.b (O.e (O.o u3 u30 0) (x.I 24)) (O.k u1 (O.c (O.g 191 [] (rr O u3 u30 kI 0)) fun c5=>(O.k u1 (O.a (ap O [.int u21] (ap O (cr O c2 [2,0,0,0,0,0,0,0,1,0,0,0,0,3,0,0,1] 0) (ap O [.rows (O.x u3 u30 0 (cr O c5 kI 0))] (cr O c2 [0,0,0,0,0] 18)))))))) (s4 [.int (O.v .i64 u30 u22)]))) (O.a [.int u22]))) [.int (O.v .i64 u2 u22)]) fun c4=>(O.b (O.z c4 0) (O.a (cr O c4 kM 1)) (O.k u11 (O.k u11 (O.a (ap O (cr O c2 [2,0,0,0,0,0,0,0,1,0,0,0,0,3,0,0,1] 0) (ap O [.rows u3,.int (O.ah (O.e u17 u21) u0 u27),.int (O.ah u10 u0 u26)] (cr O c2 [0,0,0] 20)))))))) fun c4=>(O.a (ap O [.int u21] (cr O c4 kM 0)))) (O.a (ap O [.int u21] (ap O (cr O c2 [2,0,0,0,0,0,0,0,1,0,0,0,0,3,0,0,1] 0) (ap O [.rows u3] (cr O c2 [0,0,0,0,0] 18))))))))))) fun c3=>(O.a (cr O c3 [0,2,0,0,0,0,0,0,0,1,0,0,0,0,3,0,0,1,3,0,0,0,0,0] 0))))))) fun c3=>let u29:=(O.p c3 18);let u18:=(O.l u29);let u15:=(O.e u18 (lq9 O 3));let u13:=(O.v .i64 u18 u22);let u7:=(O.e u18 (O.ai .i64 u23 (O.d c3 3)));let u6:=(O.o u29 u13 0);let u5:=(O.r u13 u18);(O.b (O.h (O.e (O.d c3 0) u21)) (O.c (O.g 108 [] (xr x kM 0)) fun c4=>(O.a (ap O (cr O c4 kM 0) [.int (O.d c3 0)]))) (O.c (O.k (O.h (O.ab (O.h (O.h (O.e (O.d c3 15) (O.lit .u8 3)))) (O.h u5))) (O.b (O.i (O.h (O.e (O.d c3 15) (O.lit .u8 3))) O.j (O.e (O.o u29 u13 27) (O.lit .u8 0))) (O.a (cr O c3 kM 1)) (O.k u5 (O.c (O.g 139 [] (ap O (cr O c3 kM 1) [.int (O.d c3 16)])) fun c4=>(O.c (O.g 135 [] [.int (O.d c3 16)]) fun c5=>(O.c (O.g 139 [] (ap O (cr O c3 kM 1) [.int (O.d c5 0)])) fun c6=>(O.c (O.b u7 (O.a [.bool u7]) (O.c (O.b u15 (O.g 139 [] (ap O (cr O c3 kR 1) (ap O [.int (O.lit .u8 2)] (ap O (cr O c3 [0,1,3,0,0,0,0,0] 16) [.int u6])))) (O.a [.int u21])) fun c7=>(O.c (O.b u15 (O.g 135 [] [.int u6]) (O.a [.int u21])) fun c8=>(O.c (O.b u15 (O.g 139 [] (ap O (cr O c3 kR 1) (ap O [.int (O.lit .u8 2)] (ap O (cr O c3 [0,1,3,0,0,0,0,0] 16) [.int (O.d c8 0)])))) (O.a [.int u21])) fun c9=>(O.a [.bool (O.i u15 (O.n (O.d c7 0) (O.d c9 0)) O.f)]))))) fun c7=>(O.b (O.m c7 0) (O.c (O.g 140 [] (ap O (cr O c3 kR 1) (ap O [.int (O.lit .u8 5)] (cr O c3 [0,1,3,0,0,0,0,0] 16)))) fun c8=>(O.a (ap O (cr O c3 kR 1) (ap O [.int (O.lit .u8 5)] (ap O (cr O c3 [0,1,3,0,0] 16) (cr O c8 [0,0,0] 0)))))) (O.b (O.i (O.i (O.e u18 u23) (O.n u21 (O.d c3 11)) O.f) (O.t (O.d c3 11) (O.v .i64 (O.d c4 0) (O.d c6 0))) O.f) (O.a (ap O (cr O c3 kR 1) (ap O [.int (O.lit .u8 4)] (cr O c3 [0,1,3,0,0,0,0,0] 16)))) (O.a (ap O (cr O c3 kR 1) (ap O [.int (O.lit .u8 2)] (cr O c3 [0,1,3,0,0,0,0,0] 16))))))))))))) fun c4=>(O.a (ap O (cr O c4 kM 0) [.int u21]))))))))))
def BK:Nat→Env:=eL [(106,DT),(107,DR),(108,Ig),(128,DU),(135,BU),(139,CF),(140,F1),(169,GW),(170,G6),(171,HQ),(172,B7),(191,CS)]
theorem Rz {N ls}:BK N 106 [] ls=DT N ls:=id rfl
theorem R2 {N ls}:BK N 107 [] ls=DR N ls:=id rfl
theorem RG {N ls}:BK N 108 [] ls=Ig N ls:=id rfl
theorem E8 {N ls}:BK N 128 [] ls=DU N ls:=id rfl
theorem FH {N ls}:BK N 135 [] ls=BU N ls:=id rfl
theorem J5 {N ls}:BK N 139 [] ls=CF N ls:=id rfl
theorem II {N ls}:BK N 140 [] ls=F1 N ls:=id rfl
theorem EN {N ls}:BK N 169 [] ls=GW N ls:=id rfl
theorem En {N ls}:BK N 170 [] ls=G6 N ls:=id rfl
theorem DG {N ls}:BK N 171 [] ls=HQ N ls:=id rfl
theorem DX {N ls}:BK N 172 [] ls=B7 N ls:=id rfl
theorem HO {N ls}:BK N 191 [] ls=CS N ls:=id rfl
def NL:=oS W6 M7 BK
def VI:List Nat:=[2,0,0,0,0,0,0,0,1,0,0,0,0,3,0,0,1,3,0,0,0,0,0,0,0,0,0,0,1,0,0,0,0,0,0,0,1,0,0,0,0,1,0]
def M9 (O:Alg) (x:Ags O):O.M:=(O.b (O.t (lq9 O 4000) (x.I 23)) (O.a (ap O (xr x kM 0) [.int (lq9 O 26)])) (O.c (O.g 92 [] (ap O (xr x kM 0) (xr x [0,0,0,0,1,0,0,0,0,0,0,0,1,0,0,0,0,1,0] 24))) fun c0=>(O.a (cr O c0 [2,0,0,0,0,0,0,0,1,0,0,0,0,3,0,0,1,3,0,0,0,0,0,0] 0))))
def HV (N:Nat):Env:=fun f fns ls=>(cond (Nat.beq f 92&&Af fns []) (NL N ls) none)
theorem Tw {N ls}:HV N 92 [] ls=NL N ls:=id rfl
def M1:=oS VI M9 HV
def So:List Nat:=[0,2,0,0,0,0,0,0,0,1,0,0,0,0,3,0,0,1,3,0,0,0,0,0,2,0,0,0,0,0,0,0,1,0,0,0,0,3,0,0,1,3,0,0,0,0,0,0,0,0,0,0,1,0,0,0,0,1,0]
def I3 (O:Alg) (x:Ags O):O.M:=let u0:=(O.v .i64 (O.l (x.L 18)) (lq9 O 1));(O.k (O.r u0 (O.l (x.L 18))) (O.k (O.r u0 (O.l (x.L 41))) (O.c (O.g 57 [] (ap O (xr x kR 1) (xr x [0,0,0,0,0,1,0,0,0,0,1,0] 47))) fun c0=>(O.a (ap O [.int (x.I 0),.int u0,.int (O.o (x.L 18) u0 10),.int (O.o (x.L 18) u0 11),.int (O.o (x.L 18) u0 15),.int (O.o (x.L 18) u0 12),.int (O.o (x.L 18) u0 13),.bool (O.rB (x.L 18) u0 20)] (ap O (xr x [0,0,0,0,0,1,0,0,0,0,1,0] 47) (ap O (cr O c0 [0,0,0,0,0,0,1,1,1,1] 0) [.int (O.o (x.L 41) u0 3),.int (O.o (x.L 41) u0 4)])))))))
def Kr:Nat→Env:=eL [(57,A1)]
theorem Mh {N ls}:Kr N 57 [] ls=A1 N ls:=id rfl
def JN:=oS So I3 Kr
def Vv:List Nat:=[2,0,0,0,0,0,0,0,1,0,0,0,0,3,3]
def NT (O:Alg) (x:Ags O):O.M:=let u3:=(lq9 O 1);let u2:=(lq9 O 0);(O.c (O.g 65 [] (xr x kR 0)) fun c0=>(O.b (O.h (O.e (O.d c0 23) u2)) (O.a [.rows O.y,.str (O.s ⟨#[]⟩),.int u2,.int u2,.int u2,.int u2,.int u2,.int u2,.int u2,.bool O.f,.int u2,.int u2,.int u2,.int u2,.rows O.y,.int (O.lit .u8 0),.int u2,.bool O.f,.rows O.y,.int u2,.int u2,.int (O.lit .u8 0),.int u2,.int u2,.int u2,.int u3]) (O.c (O.w (fun s1 c1=>let u5:=(O.p c1 0);let u4:=(O.d c1 1);let u1:=(O.q .i64 u4 u3);(O.b (O.n u4 (O.l (x.L 14))) (O.k (O.r u4 (O.l (x.L 14))) (O.c (O.g 66 [] (ap O (cr O c1 kM 2) (ap O [.int u4] (rr O (x.L 14) u4 [0,0,0,0,1,0,0,0,0,0,0,0,1,0,0,0,0,1,0] 0)))) fun c2=>(O.b (O.h (O.e (O.d c2 23) u2)) (O.a (ap O [.int u2,.rows u5,.int u4,.int (O.d c2 23)] (cr O c1 kM 2))) (O.b (O.e (O.o (x.L 14) u4 0) (O.lit .u8 4)) (O.c (O.g 67 [] (ap O (cr O c1 [0,2,0,0,0,0,0,0,0,1,0,0,0,0,3,0,0,1,3,0,0,0,0,0] 1) (ap O (cr O c2 kM 0) (rr O (x.L 14) u4 [0,0,0,0,0,1,0,0,0,0,1,0] 7)))) fun c3=>let u0:=(O.ad u5 (O.ac [(cr O c3 [0,0,0,0,0,0,0,1,0,0,0,0,0,1,0,0,0,0,1,0,0,0,0,0,0,0,1,1,1,1,0,0] 0)]));(O.k (O.u (O.l u0) 216) (s1 (ap O [.rows u0,.int u1] (cr O c2 kM 0))))) (s1 (ap O [.rows u5,.int u1] (cr O c2 kM 0))))))) (O.a (ap O [.int u3,.rows u5] (cr O c1 kM 2))))) (ap O [.rows O.y,.int u2] (cr O c0 kM 0))) fun c1=>(O.b (O.z c1 0) (O.a (ap O [.rows (O.p c1 1)] (ap O (cr O c1 kM 4) [.int (O.d c1 2),.int (O.d c1 3)]))) (O.a (ap O (cr O c1 [3,2,0,0,0,0,0,0,0,1,0,0,0,0,3,0,0,1,3,0,0,0,0,0] 1) [.int (lq9 O (-1)),.int u2]))))))
def Dz (N:Nat):Env:=fun f fns ls=>(cond (Nat.beq f 65&&Af fns []) (Ov N ls) (cond (Nat.beq f 66&&Af fns []) (M1 N ls) (cond (Nat.beq f 67&&Af fns []) (JN N ls) none)))
theorem VS {N ls}:Dz N 65 [] ls=Ov N ls:=id rfl
theorem Nq {N ls}:Dz N 66 [] ls=M1 N ls:=id rfl
theorem Jb {N ls}:Dz N 67 [] ls=JN N ls:=id rfl
def Hu:=oS Vv NT Dz
def RJ:List Nat:=[2,0,0,0,0,0,0,0,1,0,0,0,0,3,3]
def JZ (O:Alg) (x:Ags O):O.M:=(O.c (O.g 32 [] (xr x [2,0,0,0,0,0,0,0,1,0,0,0,0,3,3] 0)) fun c0=>(O.a (cr O c0 [2,0,0,0,0,0,0,0,1,0,0,0,0,3,0,0,1,3,0,0,0,0,0,0,0] 1)))
def E1 (N:Nat):Env:=fun f fns ls=>(cond (Nat.beq f 32&&Af fns []) (Hu N ls) none)
theorem Ui {N ls}:E1 N 32 [] ls=Hu N ls:=id rfl
def Jd:=oS RJ JZ E1
def Tr:List Nat:=[2,0,0,0,0,0,0,0,1,0,0,0,0,3,3]
def K7 (O:Alg) (x:Ags O):O.M:=let u0:=(lq9 O 0);(O.c (O.g 61 [] (xr x kR 0)) fun c0=>(O.b (O.h (O.e (O.d c0 0) u0)) (O.a [.int (O.d c0 0)]) (O.b (O.n (lq9 O 4000) (O.l (x.L 14))) (O.a [.int (lq9 O 9)]) (O.c (O.g 62 [] (xr x [2,0,0,0,0,0,0,0,1,0,0,0,0,3,3] 0)) fun c1=>(O.b (O.h (O.e (O.d c1 24) u0)) (O.a [.int (lq9 O 10)]) (O.a [.int u0]))))))
def EV (N:Nat):Env:=fun f fns ls=>(cond (Nat.beq f 61&&Af fns []) (AY N ls) (cond (Nat.beq f 62&&Af fns []) (Jd N ls) none))
theorem SM {N ls}:EV N 61 [] ls=AY N ls:=id rfl
theorem Td {N ls}:EV N 62 [] ls=Jd N ls:=id rfl
def Cx:=oS Tr K7 EV
def Sr:List Nat:=[2,0,0,0,0,0,0,0,1,0,0,0,0,3,3]
def JF (O:Alg) (x:Ags O):O.M:=let u19:=(lq9 O 1);let u18:=(lq9 O 0);let u17:=(lq9 O (-1));(O.c (O.w (fun s0 c0=>let u22:=(O.d c0 0);let u21:=(O.p c0 1);let u15:=(O.l u21);let u8:=(O.o (x.L 14) u22 2);let u20:=(O.lit .u8 0);let u7:=(O.o (x.L 14) u22 0);let u6:=(O.q .i64 u22 u19);(O.b (O.n u22 (O.l (x.L 14))) (O.k (O.r u22 (O.l (x.L 14))) (O.b (O.e u7 (O.lit .u8 2)) (O.c (O.c (O.w (fun s1 c1=>let u28:=(O.d c1 1);let u24:=(O.d c1 0);(O.b (O.n u24 u15) (O.k (O.r u24 u15) (O.b (O.e (O.o u21 u24 0) u28) (O.a [.int u18,.int u24,.int u28]) (s1 [.int (O.q .i64 u24 u19),.int u28]))) (O.a [.int u19,.int u28]))) [.int u18,.int u8]) fun c1=>(O.b (O.z c1 0) (O.a [.int (O.d c1 1),.int (O.d c1 2)]) (O.a [.int u17,.int (O.d c1 1)]))) fun c1=>let u11:=(O.ad u21 (O.ac [[.int (O.d c1 1),.int u18,.int u18,.int u18,.int u18,.bool O.f,.int u20,.int u18,.int u18,.bool O.f]]));let u9:=(O.l u11);(O.c (O.b (O.n (O.d c1 0) u18) (O.k (O.u u9 72) (O.a [.int (O.v .i64 u9 u19),.rows u11])) (O.a [.int (O.d c1 0),.rows u21])) fun c2=>let u2:=(O.r (O.d c2 0) (O.l (O.p c2 1)));let u1:=(O.x (O.p c2 1) (O.d c2 0) 9 [.bool (O.i (O.rB (O.p c2 1) (O.d c2 0) 9) O.j O.j)]);let u0:=(O.l u1);(O.k u2 (O.k u2 (O.c (O.c (O.w (fun s3 c3=>let u29:=(O.d c3 1);let u25:=(O.d c3 0);(O.b (O.n u25 u0) (O.k (O.r u25 u0) (O.b (O.e (O.o u1 u25 0) u29) (O.a [.int u18,.int u25,.int u29]) (s3 [.int (O.q .i64 u25 u19),.int u29]))) (O.a [.int u19,.int u29]))) [.int u18,.int (O.o (x.L 14) u22 3)]) fun c3=>(O.b (O.z c3 0) (O.a [.int (O.d c3 1),.int (O.d c3 2)]) (O.a [.int u17,.int (O.d c3 1)]))) fun c3=>let u14:=(O.ad u1 (O.ac [[.int (O.d c3 1),.int u18,.int u18,.int u18,.int u18,.bool O.f,.int u20,.int u18,.int u18,.bool O.f]]));let u12:=(O.l u14);(O.c (O.b (O.n (O.d c3 0) u18) (O.k (O.u u12 72) (O.a [.int (O.v .i64 u12 u19),.rows u14])) (O.a [.int (O.d c3 0),.rows u1])) fun c4=>let u3:=(O.r (O.d c4 0) (O.l (O.p c4 1)));(O.k u3 (O.k u3 (s0 [.int u6,.rows (O.x (O.p c4 1) (O.d c4 0) 9 [.bool (O.i (O.rB (O.p c4 1) (O.d c4 0) 9) O.j O.j)])]))))))))) (O.b (O.e u7 (O.lit .u8 5)) (O.c (O.c (O.w (fun s1 c1=>let u30:=(O.d c1 1);let u26:=(O.d c1 0);(O.b (O.n u26 u15) (O.k (O.r u26 u15) (O.b (O.e (O.o u21 u26 0) u30) (O.a [.int u18,.int u26,.int u30]) (s1 [.int (O.q .i64 u26 u19),.int u30]))) (O.a [.int u19,.int u30]))) [.int u18,.int u8]) fun c1=>(O.b (O.z c1 0) (O.a [.int (O.d c1 1),.int (O.d c1 2)]) (O.a [.int u17,.int (O.d c1 1)]))) fun c1=>let u13:=(O.ad u21 (O.ac [[.int (O.d c1 1),.int u18,.int u18,.int u18,.int u18,.bool O.f,.int u20,.int u18,.int u18,.bool O.f]]));let u10:=(O.l u13);(O.c (O.b (O.n (O.d c1 0) u18) (O.k (O.u u10 72) (O.a [.int (O.v .i64 u10 u19),.rows u13])) (O.a [.int (O.d c1 0),.rows u21])) fun c2=>let u4:=(O.r (O.d c2 0) (O.l (O.p c2 1)));(O.k u4 (O.k u4 (s0 [.int u6,.rows (O.x (O.p c2 1) (O.d c2 0) 9 [.bool (O.i (O.rB (O.p c2 1) (O.d c2 0) 9) O.j (O.h (O.rB (x.L 14) u22 4)))])]))))) (s0 [.int u6,.rows u21])))) (O.a [.rows u21]))) [.int u18,.rows O.y]) fun c0=>(O.c (O.w (fun s1 c1=>let u23:=(O.p c1 1);let u16:=(O.l u23);(O.b (O.t (O.d c1 0) (x.I 1)) (O.c (O.c (O.w (fun s2 c2=>let u31:=(O.d c2 1);let u27:=(O.d c2 0);(O.b (O.n u27 u16) (O.k (O.r u27 u16) (O.b (O.e (O.o u23 u27 0) u31) (O.a [.int u18,.int u27,.int u31]) (s2 [.int (O.q .i64 u27 u19),.int u31]))) (O.a [.int u19,.int u31]))) [.int u18,.int (O.d c1 0)]) fun c2=>(O.b (O.z c2 0) (O.a [.int (O.d c2 1),.int (O.d c2 2)]) (O.a [.int u17,.int (O.d c2 1)]))) fun c2=>(O.c (O.b (O.n (O.d c2 0) u18) (O.k (O.u (O.l (O.ad u23 (O.ac [[.int (O.d c2 1),.int u18,.int u18,.int u18,.int u18,.bool O.f,.int (O.lit .u8 0),.int u18,.int u18,.bool O.f]]))) 72) (O.a [.int (O.v .i64 (O.l (O.ad u23 (O.ac [[.int (O.d c2 1),.int u18,.int u18,.int u18,.int u18,.bool O.f,.int (O.lit .u8 0),.int u18,.int u18,.bool O.f]]))) u19),.rows (O.ad u23 (O.ac [[.int (O.d c2 1),.int u18,.int u18,.int u18,.int u18,.bool O.f,.int (O.lit .u8 0),.int u18,.int u18,.bool O.f]]))])) (O.a [.int (O.d c2 0),.rows u23])) fun c3=>let u5:=(O.r (O.d c3 0) (O.l (O.p c3 1)));(O.k u5 (O.k u5 (s1 [.int (O.q .i64 (O.d c1 0) u19),.rows (O.x (O.p c3 1) (O.d c3 0) 9 [.bool (O.i (O.rB (O.p c3 1) (O.d c3 0) 9) O.j O.f)])]))))) (O.a [.rows u23]))) [.int u19,.rows (O.p c0 0)]) fun c1=>(O.a [.rows (O.p c1 0)])))
def QL:Nat→Env:=eL []
def JE:=oS Sr JF QL
def EW:List Nat:=[3,3]
def CG (O:Alg) (x:Ags O):O.M:=let u0:=(lq9 O 0);(O.c (O.w (fun s0 c0=>let u1:=(O.d c0 0);(O.b (O.n u1 (O.l (x.L 0))) (O.k (O.r u1 (O.l (x.L 0))) (O.b (O.e (O.o (x.L 0) u1 0) (O.o (x.L 1) u0 0)) (O.a [.int u0,.int u1]) (s0 [.int (O.q .i64 u1 (lq9 O 1))]))) (O.a [.int (lq9 O 1)]))) [.int u0]) fun c0=>(O.b (O.z c0 0) (O.a [.int (O.d c0 1)]) (O.a [.int (lq9 O (-1))])))
def B3 (N:Nat):Env:=fun f fns ls=>none
def CD:=oS EW CG B3
def Pf:List Nat:=[0,0,0,0,0,1,0,0,0,0,1,0,0,0]
def F4 (O:Alg) (x:Ags O):O.M:=(O.b (O.e (x.I 6) (O.lit .u8 0)) (O.a [.int (lq9 O 0)]) (O.b (O.e (x.I 7) (lq9 O 1)) (O.a [.int (x.I 12)]) (O.b (O.e (x.I 7) (lq9 O 2)) (O.a [.int (x.I 13)]) (O.a [.int (lq9 O 0)]))))
def M4:Nat→Env:=eL []
def GB:=oS Pf F4 M4
def Oh:List Nat:=[2,0,0,0,0,0,0,0,1,0,0,0,0,3,3,0]
def HK (O:Alg) (x:Ags O):O.M:=let u18:=(lq9 O 1);let u17:=(lq9 O 0);(O.c (O.g 27 [] (xr x [2,0,0,0,0,0,0,0,1,0,0,0,0,3,3] 0)) fun c0=>(O.b (O.h (O.e (O.d c0 0) u17)) (O.a [.rows O.y,.int (O.d c0 0)]) (O.c (O.g 17 [] [.rows (x.L 14)]) fun c1=>let u14:=(O.l (O.p c1 0));let u13:=(O.o (O.p c1 0) (x.I 15) 1);let u12:=(O.o (O.p c1 0) (x.I 15) 0);let u9:=(O.r (x.I 15) u14);let u6:=(O.ao (x.L 14) u12 u13);let u5:=(O.l u6);(O.b (O.i (O.n (x.I 15) u17) O.j (O.t u14 (x.I 15))) (O.a [.rows O.y,.int (lq9 O 2)]) (O.k u9 (O.k u9 (O.k (O.am u12 u13 (O.l (x.L 14))) (O.c (O.g 28 [] (ap O (xr x kR 0) [.rows u6])) fun c2=>(O.c (O.g 32 [] (xr x [2,0,0,0,0,0,0,0,1,0,0,0,0,3,3] 0)) fun c3=>let u20:=(O.p c3 0);let u15:=(O.l u20);(O.c (O.w (fun s4 c4=>let u23:=(O.p c4 1);let u19:=(O.d c4 0);let u11:=(O.o u20 u19 5);let u10:=(O.o u20 u19 12);let u7:=(O.q .i64 u19 u18);(O.b (O.n u19 u15) (O.k (O.r u19 u15) (O.b (O.h (O.e (O.o u20 u19 1) (x.I 15))) (s4 [.int u7,.rows u23]) (O.c (O.g 30 [31] [.rows u23,.rows (O.ac [[.int u11]])]) fun c5=>let u21:=(O.d c5 0);let u1:=(O.x u23 u21 1 [.int (O.q .i64 (O.o u23 u21 1) (O.o u20 u19 20))]);(O.k (O.r u21 (O.l u23)) (O.c (O.b (O.rB u20 u19 27) (O.a [.rows (O.x u1 u21 2 [.int (O.q .i64 (O.o u1 u21 2) u18)])]) (O.a [.rows u1])) fun c6=>let u24:=(O.p c6 0);(O.c (O.b (O.i (O.e (O.o u20 u19 9) (O.lit .u8 1)) (O.e (O.o u20 u19 10) u17) O.f) (O.b (O.e u10 (lq9 O 4)) (O.a [.rows (O.x u24 u21 3 [.int (O.q .i64 (O.o u24 u21 3) u18)])]) (O.b (O.e u10 (lq9 O 6)) (O.a [.rows (O.x u24 u21 4 [.int (O.q .i64 (O.o u24 u21 4) u18)])]) (O.a [.rows u24]))) (O.a [.rows u24])) fun c7=>let u27:=(O.p c7 0);(O.c (O.g 33 [] (ap O (rr O u20 u19 [0,0,0,0,0,1,0,0,0,0,1,0] 8) [.int u11,.int (O.o u20 u19 6)])) fun c8=>(O.b (O.n u17 (O.d c8 0)) (O.c (O.g 30 [31] [.rows u27,.rows (O.ac [[.int (O.d c8 0)]])]) fun c9=>let u26:=(O.d c9 0);let u0:=(O.x (O.x (O.x u27 u26 5 [.bool O.j]) u26 6 [.int (O.o u20 u19 14)]) u26 8 [.int (O.o u20 u19 16)]);(O.k (O.r u26 (O.l u27)) (O.b (O.rB u20 u19 28) (s4 [.int u7,.rows (O.x u0 u26 7 [.int (O.o u20 u19 4)])]) (s4 [.int u7,.rows u0])))) (s4 [.int u7,.rows u27]))))))))) (O.a [.rows u23]))) [.int u17,.rows (O.p c2 0)]) fun c4=>(O.c (O.w (fun s5 c5=>let u25:=(O.d c5 0);let u22:=(O.p c5 1);let u16:=(O.l u22);let u8:=(O.q .i64 u25 u18);let u4:=(O.rB u6 u25 4);let u3:=(O.o u6 u25 0);let u2:=(O.ac [[.int (O.o u6 u25 2)]]);(O.b (O.n u25 u5) (O.k (O.r u25 u5) (O.b (O.i (O.e u3 (O.lit .u8 5)) u4 O.f) (O.c (O.g 30 [31] [.rows u22,.rows u2]) fun c6=>(O.k (O.r (O.d c6 0) u16) (s5 [.int u8,.rows (O.x (O.x u22 (O.d c6 0) 5 [.bool O.j]) (O.d c6 0) 6 [.int (O.lit .u8 9)])]))) (O.b (O.i (O.e u3 (O.lit .u8 6)) (O.h u4) O.f) (O.c (O.g 30 [31] [.rows u22,.rows u2]) fun c6=>(O.k (O.r (O.d c6 0) u16) (s5 [.int u8,.rows (O.x (O.x u22 (O.d c6 0) 5 [.bool O.j]) (O.d c6 0) 6 [.int (O.lit .u8 10)])]))) (s5 [.int u8,.rows u22])))) (O.a [.rows u22]))) [.int u17,.rows (O.p c4 0)]) fun c5=>(O.a [.rows (O.p c5 0),.int u17]))))))))))))
def BX (N:Nat):Env:=fun f fns ls=>(cond (Nat.beq f 17&&Af fns []) (BR N ls) (cond (Nat.beq f 27&&Af fns []) (Cx N ls) (cond (Nat.beq f 28&&Af fns []) (JE N ls) (cond (Nat.beq f 30&&Af fns [31]) (CD N ls) (cond (Nat.beq f 32&&Af fns []) (Hu N ls) (cond (Nat.beq f 33&&Af fns []) (GB N ls) none))))))
theorem O7 {N ls}:BX N 17 [] ls=BR N ls:=id rfl
theorem SI {N ls}:BX N 27 [] ls=Cx N ls:=id rfl
theorem N7 {N ls}:BX N 28 [] ls=JE N ls:=id rfl
theorem Ic {N ls}:BX N 30 [31] ls=CD N ls:=id rfl
theorem SQ {N ls}:BX N 32 [] ls=Hu N ls:=id rfl
theorem Mf {N ls}:BX N 33 [] ls=GB N ls:=id rfl
def Cf:=oS Oh HK BX
def LO:List Nat:=[3,3]
def Dt (O:Alg) (x:Ags O):O.M:=let u0:=(O.l (x.L 0));(O.b (O.h (O.e u0 (O.l (x.L 1)))) (O.a [.bool O.f]) (O.c (O.w (fun s0 c0=>let u1:=(O.d c0 0);(O.b (O.n u1 u0) (O.k (O.r u1 u0) (O.k (O.r u1 (O.l (x.L 1))) (O.b (O.h (O.ab (O.e (O.o (x.L 0) u1 0) (O.o (x.L 1) u1 0)) (O.ab (O.e (O.o (x.L 0) u1 1) (O.o (x.L 1) u1 1)) (O.ab (O.e (O.o (x.L 0) u1 2) (O.o (x.L 1) u1 2)) (O.ab (O.e (O.o (x.L 0) u1 3) (O.o (x.L 1) u1 3)) (O.ab (O.e (O.o (x.L 0) u1 4) (O.o (x.L 1) u1 4)) (O.ab (O.aj (O.rB (x.L 0) u1 5) (O.rB (x.L 1) u1 5)) (O.ab (O.e (O.o (x.L 0) u1 6) (O.o (x.L 1) u1 6)) (O.ab (O.e (O.o (x.L 0) u1 7) (O.o (x.L 1) u1 7)) (O.ab (O.e (O.o (x.L 0) u1 8) (O.o (x.L 1) u1 8)) (O.aj (O.rB (x.L 0) u1 9) (O.rB (x.L 1) u1 9)))))))))))) (O.a [.int (lq9 O 0),.bool O.f]) (s0 [.int (O.q .i64 u1 (lq9 O 1))])))) (O.a [.int (lq9 O 1)]))) [.int (lq9 O 0)]) fun c0=>(O.b (O.z c0 0) (O.a [.bool (O.m c0 1)]) (O.a [.bool O.j]))))
def J6:Nat→Env:=eL []
def Cy:=oS LO Dt J6
def Wb:List Nat:=[2,3,0,0,0]
def Wh (O:Alg) (x:Ags O):O.M:=let u3:=(O.s ⟨#[32,40,99,41]⟩);let u2:=(O.s ⟨#[32,40,107,41]⟩);let u1:=(O.v .i64 (x.I 4) (lq9 O 1));let u0:=(O.rS (x.L 1) u1 0);(O.b (O.i (O.n (x.I 4) (lq9 O 1)) O.j (O.n (O.l (x.L 1)) (x.I 4))) (O.a [.str (O.s ⟨#[]⟩)]) (O.k (O.r u1 (O.l (x.L 1))) (O.c (O.b (O.e (x.I 4) (x.I 2)) (O.k (O.u (O.ae u0) 1) (O.k (O.u (O.ae u3) 1) (O.a [.str (O.ak u0 u3)]))) (O.a [.str u0])) fun c0=>let u4:=(O.cS c0 0);(O.b (O.e (x.I 4) (x.I 3)) (O.k (O.u (O.ae u4) 1) (O.k (O.u (O.ae u2) 1) (O.a [.str (O.ak u4 u2)]))) (O.a [.str u4])))))
def bZ:Nat→Env:=eL []
def Lj:=oS Wb Wh bZ
def MG:List Nat:=[3,2]
def ML (O:Alg) (x:Ags O):O.M:=(O.c (O.w (fun s0 c0=>let u0:=(O.d c0 0);(O.b (O.n u0 (O.l (x.L 0))) (O.k (O.r u0 (O.l (x.L 0))) (O.b (O.an (x.S 1) (O.rS (x.L 0) u0 0)) (O.a [.int (lq9 O 0),.int u0]) (s0 [.int (O.q .i64 u0 (lq9 O 1))]))) (O.a [.int (lq9 O 1)]))) [.int (lq9 O 0)]) fun c0=>(O.b (O.z c0 0) (O.a [.int (O.d c0 1)]) (O.a [.int (lq9 O (-1))])))
def SN:Nat→Env:=eL []
def HU:=oS MG ML SN
def Jr:List Nat:=[3,2]
def JT (O:Alg) (x:Ags O):O.M:=(O.c (O.g 98 [] [.rows (x.L 0),.str (x.S 1)]) fun c0=>(O.a [.bool (O.t (lq9 O 0) (O.d c0 0))]))
def Pq:Nat→Env:=eL [(98,HU)]
def FE:=oS Jr JT Pq
def WM:List Nat:=[2,3,0,0]
def WR (O:Alg) (x:Ags O):O.M:=let u4:=(O.s ⟨#[]⟩);let u3:=(lq9 O 0);let u2:=(O.l (x.L 1));(O.c (O.g 73 [] [.str (x.S 0)]) fun c0=>(O.b (O.h (O.m c0 0)) (O.a [.int (lq9 O 5)]) (O.b (O.i (O.n u2 (lq9 O 2)) O.j (O.n (lq9 O 11) u2)) (O.a [.int (lq9 O 9)]) (O.c (O.w (fun s1 c1=>let u5:=(O.d c1 0);let u1:=(O.rS (x.L 1) u5 0);(O.b (O.n u5 u2) (O.k (O.r u5 u2) (O.c (O.g 73 [] [.str u1]) fun c2=>(O.b (O.h (O.m c2 0)) (O.a [.int u3,.int (lq9 O 5)]) (O.k (O.am u3 u5 u2) (O.c (O.g 74 [] [.rows (O.ao (x.L 1) u3 u5),.str u1]) fun c3=>(O.b (O.m c3 0) (O.a [.int u3,.int (lq9 O 7)]) (s1 [.int (O.q .i64 u5 (lq9 O 1))]))))))) (O.a [.int (lq9 O 1)]))) [.int u3]) fun c1=>(O.b (O.z c1 0) (O.a [.int (O.d c1 1)]) (O.c (O.g 42 [] (ap O (xr x [2,3,0,0] 0) [.int (x.I 2)])) fun c2=>let u0:=(O.an (O.cS c2 0) u4);(O.c (O.b (O.h u0) (O.g 42 [] (ap O (xr x [2,3,0,0] 0) [.int (x.I 3)])) (O.a [.str u4])) fun c3=>(O.b (O.i u0 O.j (O.an (O.cS c3 0) u4)) (O.a [.int (lq9 O 6)]) (O.a [.int u3])))))))))
def dZ:Nat→Env:=eL [(42,Lj),(73,Gk),(74,FE)]
def Wc:=oS WM WR dZ
def Rw:List Nat:=[0,0,2,3,0,0]
def Rx (O:Alg) (x:Ags O):O.M:=(O.a [.bool (O.i (O.t (x.I 1) (x.I 0)) (O.t (x.I 0) (O.l (x.L 3))) O.f)])
def XG:Nat→Env:=eL []
def Rm:=oS Rw Rx XG
def P8:List Nat:=[0,0,0,0,0,1,0,0,0,1]
def P6 (O:Alg) (x:Ags O):O.M:=let u0:=(lq9 O 1000000);(O.a [.bool (O.i (O.i (O.i (O.t (lq9 O 0) (x.I 1)) (O.t (x.I 1) u0) O.f) (O.t (lq9 O 0) (x.I 2)) O.f) (O.t (x.I 2) u0) O.f)])
def Wj:Nat→Env:=eL []
def QO:=oS P8 P6 Wj
def Q9:List Nat:=[0]
def RS (O:Alg) (x:Ags O):O.M:=(O.c (O.g 75 [] [.int (x.I 0)]) fun c0=>(O.a [.str (O.cS c0 1)]))
def Xh:Nat→Env:=eL [(75,Dm)]
def Re:=oS Q9 RS Xh
def Hw (N:Nat) (ls:List PV):Option (List PV):=sj ls
def Ny:List Nat:=[0,0]
def Nu (O:Alg) (x:Ags O):O.M:=(O.c (O.g 101 [] [.int (x.I 0),.int (x.I 1)]) fun c0=>(O.a [.str (O.cS c0 0)]))
def Us:Nat→Env:=eL [(101,Hw)]
def Iy:=oS Ny Nu Us
def UF:List Nat:=[0]
def UQ (O:Alg) (x:Ags O):O.M:=(O.c (O.g 77 [] [.int (x.I 0),.int (lq9 O 10)]) fun c0=>(O.a [.str (O.cS c0 0)]))
def aE:Nat→Env:=eL [(77,Iy)]
def T1:=oS UF UQ aE
def OQ:List Nat:=[3,2,3,0,0,2,3,0,0]
def Of (O:Alg) (x:Ags O):O.M:=let u30:=(lq9 O 1);let u29:=(O.s ⟨#[]⟩);let u28:=(lq9 O 0);let u27:=(O.s ⟨#[32,40]⟩);let u26:=(O.s ⟨#[58,32]⟩);let u24:=(O.s ⟨#[32,98,32]⟩);let u23:=(O.s ⟨#[32,99,32]⟩);let u12:=(O.ac [(xr x [2,3,0,0] 1),(xr x [2,3,0,0] 5)]);let u9:=(O.l u12);(O.c (O.w (fun s0 c0=>let u32:=(O.d c0 0);(O.b (O.n u32 u9) (O.k (O.r u32 u9) (O.c (O.g 37 [] (rr O u12 u32 [2,3,0,0] 0)) fun c1=>(O.b (O.h (O.e (O.d c1 0) u28)) (O.a [.int u28,.str u29,.int (O.d c1 0)]) (s0 [.int (O.q .i64 u32 u30)])))) (O.a [.int u30]))) [.int u28]) fun c0=>(O.b (O.z c0 0) (O.a [.str (O.cS c0 1),.int (O.d c0 2)]) (O.c (O.w (fun s1 c1=>let u31:=(O.d c1 0);let u22:=(O.o (x.L 0) u31 6);let u21:=(O.o (x.L 0) u31 0);let u20:=(O.o (x.L 0) u31 8);let u19:=(O.o (x.L 0) u31 7);let u18:=(O.rB (x.L 0) u31 5);let u16:=(O.h u18);let u15:=(O.q .i64 u31 u30);(O.b (O.n u31 (O.l (x.L 0))) (O.k (O.r u31 (O.l (x.L 0))) (O.c (O.g 38 [] (ap O [.int u21,.int u30] (xr x [2,3,0,0] 1))) fun c2=>let u25:=(O.h (O.m c2 0));(O.c (O.b (O.h u25) (O.g 38 [] (ap O [.int u19,.int u28] (xr x [2,3,0,0] 5))) (O.a [.bool O.f])) fun c3=>let u10:=(O.i u25 O.j (O.h (O.m c3 0)));(O.c (O.b (O.h u10) (O.g 38 [] (ap O [.int u20,.int u28] (xr x [2,3,0,0] 5))) (O.a [.bool O.f])) fun c4=>let u5:=(O.i u10 O.j (O.h (O.m c4 0)));(O.c (O.b (O.h u5) (O.g 39 [] (rr O (x.L 0) u31 [0,0,0,0,0,1,0,0,0,1] 0)) (O.a [.bool O.f])) fun c5=>(O.b (O.i u5 O.j (O.h (O.m c5 0))) (O.a [.int u28,.str u29,.int (lq9 O 2)]) (O.c (O.b u18 (O.g 40 [] [.int u22]) (O.a [.str u29])) fun c6=>(O.b (O.i u18 (O.an (O.cS c6 0) u29) O.f) (O.a [.int u28,.str u29,.int (lq9 O 3)]) (O.c (O.g 42 [] (ap O (xr x [2,3,0,0] 1) [.int u21])) fun c7=>let u7:=(O.ad (O.p c1 2) (O.al (O.ak (O.cS c7 0) u26)));let u4:=(O.ad u7 (O.al (O.s ⟨#[68,73,68,32,78,79,84,32,66,65,84,10]⟩)));(O.k (O.u (O.ae (O.cS c7 0)) 1) (O.k (O.u (O.ae u26) 1) (O.k (O.u (O.l u7) 1) (O.b (O.i (O.h (O.rB (x.L 0) u31 9)) u16 O.f) (O.k (O.u (O.l u4) 1) (s1 [.int u15,.bool O.j,.rows u4])) (O.c (O.g 43 [] [.int (O.o (x.L 0) u31 1)]) fun c8=>let u14:=(O.ak (O.cS c8 0) u27);(O.k (O.u (O.ae (O.cS c8 0)) 1) (O.k (O.u (O.ae u27) 1) (O.c (O.g 43 [] [.int (O.o (x.L 0) u31 2)]) fun c9=>let u8:=(O.ak u14 (O.cS c9 0));let u17:=(O.ac [[.int (O.lit .u8 10)]]);let u3:=(O.ad u7 (O.al (O.ak u8 (O.s ⟨#[41]⟩))));let u1:=(O.ad u3 (O.al (O.s ⟨#[32,78,79,84,32,79,85,84,10]⟩)));(O.k (O.u (O.ae u14) 1) (O.k (O.u (O.ae (O.cS c9 0)) 1) (O.k (O.u (O.ae u8) 1) (O.k (O.u (O.ae (O.s ⟨#[41]⟩)) 1) (O.k (O.u (O.l u3) 1) (O.b u16 (O.k (O.u (O.l u1) 1) (s1 [.int u15,.bool O.j,.rows u1])) (O.c (O.g 40 [] [.int u22]) fun c10=>let u2:=(O.ad u3 (O.al (O.ak (O.s ⟨#[32]⟩) (O.cS c10 0))));(O.k (O.u (O.ae (O.s ⟨#[32]⟩)) 1) (O.k (O.u (O.ae (O.cS c10 0)) 1) (O.k (O.u (O.l u2) 1) (O.c (O.b (O.n u28 u20) (O.c (O.g 42 [] (ap O (xr x [2,3,0,0] 5) [.int u20])) fun c11=>let u0:=(O.ad u2 (O.al (O.ak u23 (O.cS c11 0))));(O.k (O.u (O.ae u23) 1) (O.k (O.u (O.ae (O.cS c11 0)) 1) (O.k (O.u (O.l u0) 1) (O.a [.bool O.j,.rows u0]))))) (O.a [.bool O.j,.rows u2])) fun c11=>let u11:=(O.ad (O.p c11 1) u17);(O.b (O.n u28 u19) (O.c (O.g 42 [] (ap O (xr x [2,3,0,0] 5) [.int u19])) fun c12=>let u6:=(O.ad (O.p c11 1) (O.al (O.ak u24 (O.cS c12 0))));let u13:=(O.ad u6 u17);(O.k (O.u (O.ae u24) 1) (O.k (O.u (O.ae (O.cS c12 0)) 1) (O.k (O.u (O.l u6) 1) (O.k (O.u (O.l u13) 1) (s1 [.int u15,.bool O.j,.rows u13])))))) (O.k (O.u (O.l u11) 1) (s1 [.int u15,.bool O.j,.rows u11]))))))))))))))))))))))))))))))) (O.a [.int u30,.bool O.j,.rows (O.p c1 2)]))) [.int u28,.bool O.j,.rows O.y]) fun c1=>(O.b (O.z c1 0) (O.a [.str (O.cS c1 1),.int (O.d c1 2)]) (O.k (O.u (O.l (O.p c1 2)) 1) (O.k (O.av (O.p c1 2)) (O.a [.str (O.au (O.p c1 2)),.int u28])))))))
def H2 (N:Nat):Env:=fun f fns ls=>(cond (Nat.beq f 37&&Af fns []) (Wc N ls) (cond (Nat.beq f 38&&Af fns []) (Rm N ls) (cond (Nat.beq f 39&&Af fns []) (QO N ls) (cond (Nat.beq f 40&&Af fns []) (Re N ls) (cond (Nat.beq f 42&&Af fns []) (Lj N ls) (cond (Nat.beq f 43&&Af fns []) (T1 N ls) none))))))
def E4:=oS OQ Of H2
def ZP:List Nat:=[]
def Yw (O:Alg) (x:Ags O):O.M:=let u1:=(lq9 O 0);let u0:=(lq9 O 1);(O.a [.str (O.s ⟨#[84,69,83,84]⟩),.int (lq9 O 2),.int u0,.int u0,.int (lq9 O 4),.int u1,.int u0,.int u0,.bool O.f,.int u1,.int u1,.int u1,.int (lq9 O 11),.rows O.y])
def gO:Nat→Env:=eL []
def LL:=oS ZP Yw gO
def ZK:List Nat:=[0,0,0,0,0,1,0,0,0,0,1,0]
def ZT (O:Alg) (x:Ags O):O.M:=let u0:=(lq9 O 0);(O.a (ap O [.int (O.lit .u8 4),.int u0,.int u0,.int u0,.bool O.f,.int u0,.int u0] (xr x [0,0,0,0,0,1,0,0,0,0,1,0] 0)))
def gR:Nat→Env:=eL []
def Tv:=oS ZK ZT gR
def fP:List Nat:=[]
def gD (O:Alg) (x:Ags O):O.M:=let u2:=(lq9 O 2);let u1:=(lq9 O 1);let u0:=(lq9 O 0);(O.c (O.g 60 [] [.int (O.lit .u8 1),.int (O.lit .u8 1),.int u1,.int u0,.int u0,.bool O.f,.int (O.lit .u8 0),.int u0,.int u0,.int u0,.bool O.f,.int u0]) fun c0=>(O.c (O.g 60 [] [.int (O.lit .u8 1),.int (O.lit .u8 0),.int u0,.int u0,.int u0,.bool O.f,.int (O.lit .u8 1),.int u1,.int u0,.int u0,.bool O.f,.int u0]) fun c1=>(O.c (O.g 60 [] [.int (O.lit .u8 2),.int (O.lit .u8 0),.int u0,.int u0,.int u0,.bool O.f,.int (O.lit .u8 0),.int u0,.int u0,.int u0,.bool O.f,.int u0]) fun c2=>(O.c (O.g 60 [] [.int (O.lit .u8 1),.int (O.lit .u8 1),.int u0,.int u0,.int (lq9 O 4),.bool O.f,.int (O.lit .u8 0),.int u0,.int u0,.int u0,.bool O.f,.int u0]) fun c3=>(O.a [.rows (O.ac [[.int (O.lit .u8 1),.int u1,.int u0,.int u0,.bool O.j,.int u0,.int u0,.int (O.lit .u8 0),.int (O.lit .u8 0),.int u0,.int u0,.int u0,.bool O.f,.int (O.lit .u8 0),.int u0,.int u0,.int u0,.bool O.f,.int u0],[.int (O.lit .u8 2),.int u0,.int u1,.int u2,.bool O.f,.int u0,.int u0,.int (O.lit .u8 0),.int (O.lit .u8 0),.int u0,.int u0,.int u0,.bool O.f,.int (O.lit .u8 0),.int u0,.int u0,.int u0,.bool O.f,.int u0],[.int (O.lit .u8 8),.int u0,.int u2,.int u0,.bool O.f,.int u0,.int u0,.int (O.lit .u8 0),.int (O.lit .u8 0),.int u0,.int u0,.int u0,.bool O.f,.int (O.lit .u8 0),.int u0,.int u0,.int u0,.bool O.f,.int u0],[.int (O.lit .u8 3),.int u0,.int u1,.int u0,.bool O.f,.int u0,.int u0,.int (O.lit .u8 0),.int (O.lit .u8 0),.int u0,.int u0,.int u0,.bool O.f,.int (O.lit .u8 0),.int u0,.int u0,.int u0,.bool O.f,.int u0],(cr O c0 [0,0,0,0,1,0,0,0,0,0,0,0,1,0,0,0,0,1,0] 0),(cr O c1 [0,0,0,0,1,0,0,0,0,0,0,0,1,0,0,0,0,1,0] 0),[.int (O.lit .u8 2),.int u0,.int u2,.int u1,.bool O.f,.int u0,.int u0,.int (O.lit .u8 0),.int (O.lit .u8 0),.int u0,.int u0,.int u0,.bool O.f,.int (O.lit .u8 0),.int u0,.int u0,.int u0,.bool O.f,.int u0],[.int (O.lit .u8 8),.int u0,.int u1,.int u0,.bool O.f,.int u0,.int u0,.int (O.lit .u8 0),.int (O.lit .u8 0),.int u0,.int u0,.int u0,.bool O.f,.int (O.lit .u8 0),.int u0,.int u0,.int u0,.bool O.f,.int u0],[.int (O.lit .u8 3),.int u0,.int u2,.int u0,.bool O.f,.int u0,.int u0,.int (O.lit .u8 0),.int (O.lit .u8 0),.int u0,.int u0,.int u0,.bool O.f,.int (O.lit .u8 0),.int u0,.int u0,.int u0,.bool O.f,.int u0],(cr O c2 [0,0,0,0,1,0,0,0,0,0,0,0,1,0,0,0,0,1,0] 0),(cr O c3 [0,0,0,0,1,0,0,0,0,0,0,0,1,0,0,0,0,1,0] 0)])])))))
def mF:Nat→Env:=eL [(60,Tv)]
def PA:=oS fP gD mF
def Y1:List Nat:=[]
def O3 (O:Alg) (x:Ags O):O.M:=let u3:=(lq9 O 2);let u2:=(lq9 O 1);let u1:=(lq9 O 0);(O.c (O.g 25 [] []) fun c0=>(O.c (O.g 26 [] []) fun c1=>(O.c (O.g 10 [] (ap O (cr O c0 kR 0) [.rows (O.p c1 0),.int u1])) fun c2=>(O.c (O.g 14 [] [.rows (O.p c2 0),.str (O.s ⟨#[79,65,75,83]⟩),.rows (O.ac [[.str (O.s ⟨#[65,78,78]⟩)],[.str (O.s ⟨#[66,79,66]⟩)]]),.int u2,.int u3,.str (O.s ⟨#[69,76,77,83]⟩),.rows (O.ac [[.str (O.s ⟨#[67,76,69,79]⟩)],[.str (O.s ⟨#[68,65,78]⟩)]]),.int u3,.int u3]) fun c3=>let u0:=(O.i (O.e (O.d c2 1) u1) (O.e (O.d c3 1) u1) O.f);(O.c (O.b u0 (O.g 12 [] [.rows (O.p c2 0),.rows (O.ac [[.int u2,.int u2,.int u2,.int u1,.int u1,.bool O.f,.int (O.lit .u8 0),.int u1,.int u1,.bool O.j],[.int u3,.int u1,.int u2,.int u1,.int u1,.bool O.j,.int (O.lit .u8 1),.int u2,.int u1,.bool O.j]])]) (O.a [.bool O.f])) fun c4=>(O.a [.bool (O.i (O.i u0 (O.m c4 0) O.f) (O.an (O.cS c3 0) (O.s ⟨#[65,78,78,32,40,99,41,58,32,49,32,40,49,41,32,78,79,84,32,79,85,84,10,66,79,66,32,40,107,41,58,32,48,32,40,49,41,32,66,79,87,76,69,68,32,98,32,67,76,69,79,10]⟩)) O.f)]))))))
def ER:Nat→Env:=eL [(10,Cf),(12,Cy),(14,E4),(25,LL),(26,PA)]
theorem RO {N ls}:ER N 10 [] ls=Cf N ls:=id rfl
theorem Lu {N ls}:ER N 12 [] ls=Cy N ls:=id rfl
theorem RD {N ls}:ER N 14 [] ls=E4 N ls:=id rfl
theorem UK {N ls}:ER N 25 [] ls=LL N ls:=id rfl
theorem Wn {N ls}:ER N 26 [] ls=PA N ls:=id rfl
def K0:=oS Y1 O3 ER
def W0:List Nat:=[3]
def PF (O:Alg) (x:Ags O):O.M:=let u1:=(O.l (x.L 0));let u0:=(O.ah (O.n (lq9 O 60) u1) (lq9 O 60) u1);(O.k (O.am (lq9 O 0) u0 u1) (O.a [.rows (O.ao (x.L 0) (lq9 O 0) u0)]))
def LA (N:Nat):Env:=fun f fns ls=>none
def Pc:=oS W0 PF LA
def Sw:List Nat:=[3]
def JH (O:Alg) (x:Ags O):O.M:=(O.c (O.w (fun s0 c0=>let u0:=(O.d c0 1);(O.b (O.n u0 (O.l (x.L 0))) (O.k (O.r u0 (O.l (x.L 0))) (s0 [.int (O.q .i64 (O.d c0 0) (O.o (x.L 0) u0 1)),.int (O.q .i64 u0 (lq9 O 1))])) (O.a [.int (O.d c0 0)]))) [.int (lq9 O 0),.int (lq9 O 0)]) fun c0=>(O.a [.int (O.d c0 0)]))
def QP:Nat→Env:=eL []
def GK:=oS Sw JH QP
def WI:List Nat:=[3]
def LV (O:Alg) (x:Ags O):O.M:=let u2:=(lq9 O 1);let u1:=(lq9 O 0);(O.c (O.w (fun s0 c0=>let u3:=(O.d c0 0);let u0:=(O.o (x.L 0) u3 1);(O.b (O.n u3 (O.l (x.L 0))) (O.k (O.r u3 (O.l (x.L 0))) (O.b (O.e (O.o (x.L 0) u3 0) (O.lit .u8 1)) (O.b (O.rB (x.L 0) u3 4) (O.a [.int u1,.int u0]) (O.a [.int u1,.int (O.v .i64 (lq9 O 3) u0)])) (s0 [.int (O.q .i64 u3 u2)]))) (O.a [.int u2]))) [.int u1]) fun c0=>(O.b (O.z c0 0) (O.a [.int (O.d c0 1)]) (O.a [.int u2])))
def SZ:Nat→Env:=eL []
def IK:=oS WI LV SZ
def WB:List Nat:=[3]
def Lk (O:Alg) (x:Ags O):O.M:=let u4:=(lq9 O 3);let u3:=(lq9 O 1);(O.c (O.g 86 [] [.rows (x.L 0)]) fun c0=>(O.c (O.w (fun s1 c1=>let u5:=(O.d c1 1);(O.b (O.n u5 (O.l (x.L 0))) (O.k (O.r u5 (O.l (x.L 0))) (s1 [.bool (O.i (O.m c1 0) O.j (O.i (O.e (O.o (x.L 0) u5 0) (O.lit .u8 12)) (O.rB (x.L 0) u5 4) O.f)),.int (O.q .i64 u5 u3)])) (O.a [.bool (O.m c1 0)]))) [.bool O.f,.int (lq9 O 0)]) fun c1=>(O.c (O.g 17 [] [.rows (x.L 0)]) fun c2=>(O.c (O.w (fun s3 c3=>let u7:=(O.p c3 0);let u6:=(O.d c3 1);let u2:=(O.q .i64 u6 u3);(O.b (O.n u6 (O.l (O.p c2 0))) (O.c (O.b (O.e (O.ar .i64 u6 (lq9 O 2)) u3) (O.a [.int (O.v .i64 u4 (O.d c0 0))]) (O.a [.int (O.d c0 0)])) fun c4=>let u1:=(O.ad u7 (O.ac [[.int (O.d c4 0)]]));let u0:=(O.ad u7 (O.ac [[.int (O.v .i64 u4 (O.d c4 0))]]));(O.b (O.i (O.m c1 0) (O.i (O.e u6 (lq9 O 2)) O.j (O.e u6 u4)) O.f) (O.k (O.u (O.l u0) 8) (s3 [.rows u0,.int u2])) (O.k (O.u (O.l u1) 8) (s3 [.rows u1,.int u2])))) (O.a [.rows u7]))) [.rows O.y,.int (lq9 O 0)]) fun c3=>(O.a [.rows (O.p c3 0)])))))
def JP:Nat→Env:=eL [(17,BR),(86,IK)]
theorem P1 {N ls}:JP N 17 [] ls=BR N ls:=id rfl
theorem QV {N ls}:JP N 86 [] ls=IK N ls:=id rfl
def Ia:=oS WB Lk JP
def ZU:List Nat:=[0,0,0,0,1,0,0,0,0,0,0,0,1,0,0,0,0,1,0]
def Oz (O:Alg) (x:Ags O):O.M:=(O.b (O.e (x.I 0) (O.lit .u8 4)) (O.a [.bool (O.h (O.e (x.I 13) (O.lit .u8 0)))]) (O.b (O.e (x.I 0) (O.lit .u8 5)) (O.a [.bool (x.B 4)]) (O.b (O.e (x.I 0) (O.lit .u8 6)) (O.a [.bool (O.h (x.B 4))]) (O.a [.bool O.f]))))
def V4:Nat→Env:=eL []
def Ky:=oS ZU Oz V4
def Y3:List Nat:=[3,0,0]
def Oy (O:Alg) (x:Ags O):O.M:=let u2:=(lq9 O 0);let u1:=(lq9 O 1);let u0:=(O.l (x.L 0));(O.c (O.w (fun s0 c0=>let u3:=(O.d c0 0);(O.b (O.t u2 u3) (O.k (O.r u3 u0) (O.b (O.e (O.o (x.L 0) u3 0) (x.I 2)) (O.a [.int u2,.int u3]) (s0 [.int (O.v .i64 u3 u1)]))) (O.a [.int u1]))) [.int (x.I 1)]) fun c0=>(O.b (O.z c0 0) (O.a [.int (O.d c0 1)]) (O.c (O.w (fun s1 c1=>let u4:=(O.d c1 0);(O.b (O.n u4 u0) (O.k (O.r u4 u0) (O.b (O.e (O.o (x.L 0) u4 0) (x.I 2)) (O.a [.int u2,.int u4]) (s1 [.int (O.q .i64 u4 u1)]))) (O.a [.int u1]))) [.int (O.q .i64 (x.I 1) u1)]) fun c1=>(O.b (O.z c1 0) (O.a [.int (O.d c1 1)]) (O.a [.int (lq9 O (-1))])))))
def WY:Nat→Env:=eL []
def Ij:=oS Y3 Oy WY
end Go.Px
