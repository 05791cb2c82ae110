/- Part 9. -/
import Derived.Test.YtejjoflbpnjohaaGreatDoorPart07
set_option linter.unusedVariables false
set_option linter.unusedSimpArgs false
namespace Go.Px
set_option maxRecDepth 100000
def Zx:List Nat:=[3]
def lq9 (O:Alg) (n:Int):O.I:=O.lit .i64 n
def L5 (O:Alg) (x:Ags O):O.M:=let u4:=(O.l (x.L 0));(O.c (O.x (fun s0 c0=>let u6:=(O.o c0 0);let u5:=(O.h c0 1);let u3:=(O.l u6);let u2:=(O.q .i64 u5 (lq9 O 1));let u1:=(O.t .i64 u3 (lq9 O 1));(O.b (O.n u5 u4) (O.m (O.r u5 u4) (O.b (O.g (O.d (O.p (x.L 0) u5 0) (O.lit .u8 2))) (s0 [.rows u6,.int u2]) (O.c (O.b (O.n (lq9 O 0) u3) (O.m (O.r u1 u3) (O.a [.rows (O.aa u6 u1 1 [.int u5])])) (O.a [.rows u6])) fun c1=>let u0:=(O.ab (O.o c1 0) (O.y [[.int u5,.int u4]]));(O.m (O.w (O.l u0) 16) (s0 [.rows u0,.int u2]))))) (O.a [.rows u6]))) [.rows O.v,.int (lq9 O 0)]) fun c0=>(O.a [.rows (O.o c0 0)]))
def Vk:Nat→Env:=eL []
def Le:=oS Zx L5 Vk
def kO:List Nat:=[2]
def Rx (O:Alg) (x:Ags O):O.M:=let u4:=(lq9 O 1);let u3:=(lq9 O 0);let u2:=(O.al (x.S 0));let u1:=(O.l u2);(O.c (O.x (fun s0 c0=>let u5:=(O.h c0 0);let u0:=(O.p u2 u5 0);(O.b (O.n u5 u1) (O.m (O.r u5 u1) (O.b (O.i (O.g (O.i (O.s (O.lit .u8 65) u0) (O.s u0 (O.lit .u8 90)) O.e)) (O.i (O.d u5 u3) O.j (O.i (O.i (O.g (O.d u0 (O.lit .u8 95))) (O.g (O.d u0 (O.lit .u8 45))) O.e) (O.i (O.n u0 (O.lit .u8 48)) O.j (O.n (O.lit .u8 57) u0)) O.e)) O.e) (O.a [.int u3,.bool O.e]) (s0 [.int (O.q .i64 u5 u4)]))) (O.a [.int u4]))) [.int u3]) fun c0=>(O.b (O.ac c0 0) (O.a [.bool (O.k c0 1)]) (O.a [.bool (O.i (O.s u4 (O.af (x.S 0))) (O.s (O.af (x.S 0)) (lq9 O 16)) O.e)])))
def dN:Nat→Env:=eL []
def HJ:=oS kO Rx dN
def XJ:List Nat:=[0,0,0]
def Xa (O:Alg) (x:Ags O):O.M:=(O.a [.bool (O.i (O.s (x.I 1) (x.I 0)) (O.s (x.I 0) (x.I 2)) O.e)])
def jb:Nat→Env:=eL []
def C7:=oS XJ Xa jb
def XX:List Nat:=[2,0,0,0,0,0,0,0,1,0,0,0,0,3]
def KZ (O:Alg) (x:Ags O):O.M:=let u10:=(lq9 O 1);let u9:=(lq9 O 0);(O.c (O.f 104 [] [.int (x.I 1),.int (lq9 O 2),.int (lq9 O 11)]) fun c0=>(O.c (O.b (O.k c0 0) (O.f 104 [] [.int (x.I 2),.int u10,.int (lq9 O 2)]) (O.a [.bool O.e])) fun c1=>let u8:=(O.i (O.k c0 0) (O.k c1 0) O.e);(O.c (O.b u8 (O.f 104 [] [.int (x.I 3),.int u9,.int (lq9 O 90)]) (O.a [.bool O.e])) fun c2=>let u7:=(O.i u8 (O.k c2 0) O.e);(O.c (O.b u7 (O.f 104 [] [.int (x.I 4),.int (lq9 O 4),.int (lq9 O 8)]) (O.a [.bool O.e])) fun c3=>let u6:=(O.i u7 (O.k c3 0) O.e);(O.c (O.b u6 (O.f 104 [] [.int (x.I 5),.int u9,.int (lq9 O 90)]) (O.a [.bool O.e])) fun c4=>let u5:=(O.i u6 (O.k c4 0) O.e);(O.c (O.b u5 (O.f 104 [] [.int (x.I 6),.int u10,.int (lq9 O 5)]) (O.a [.bool O.e])) fun c5=>let u4:=(O.i u5 (O.k c5 0) O.e);(O.c (O.b u4 (O.f 104 [] [.int (x.I 7),.int u10,.int (lq9 O 5)]) (O.a [.bool O.e])) fun c6=>let u3:=(O.i u4 (O.k c6 0) O.e);(O.c (O.b u3 (O.f 104 [] [.int (x.I 9),.int u9,.int (lq9 O 200)]) (O.a [.bool O.e])) fun c7=>let u2:=(O.i u3 (O.k c7 0) O.e);(O.c (O.b u2 (O.f 104 [] [.int (x.I 10),.int u9,.int (lq9 O 1000)]) (O.a [.bool O.e])) fun c8=>let u1:=(O.i u2 (O.k c8 0) O.e);(O.c (O.b u1 (O.f 104 [] [.int (x.I 11),.int u9,.int (lq9 O 9)]) (O.a [.bool O.e])) fun c9=>let u0:=(O.i u1 (O.k c9 0) O.e);(O.c (O.b u0 (O.f 104 [] [.int (x.I 12),.int u9,.int (lq9 O 11)]) (O.a [.bool O.e])) fun c10=>(O.a [.bool (O.i u0 (O.k c10 0) O.e)]))))))))))))
def MP:Nat→Env:=eL [(104,C7)]
def G8:=oS XX KZ MP
def aP:List Nat:=[2,0,0,0,0,0,0,0,1,0,0,0,0,3]
def Lg (O:Alg) (x:Ags O):O.M:=let u7:=(lq9 O 1);let u6:=(lq9 O 0);let u5:=(O.l (x.L 13));(O.b (O.n (lq9 O 8) u5) (O.a [.int (lq9 O 9)]) (O.c (O.x (fun s0 c0=>let u8:=(O.h c0 0);let u4:=(O.p (x.L 13) u8 1);let u3:=(O.p (x.L 13) u8 0);let u2:=(O.n u6 u8);let u1:=(O.t .i64 u8 u7);let u0:=(O.i (O.i (O.n u3 u7) O.j (O.n u4 u3)) O.j (O.n (x.I 3) u4));(O.b (O.n u8 u5) (O.m (O.r u8 u5) (O.c (O.b (O.g u0) (O.f 104 [] [.int (O.p (x.L 13) u8 2),.int u6,.int (lq9 O 11)]) (O.a [.bool O.e])) fun c1=>(O.b (O.i u0 O.j (O.g (O.k c1 0))) (O.a [.int u6,.int (lq9 O 2)]) (O.m (O.g (O.z u2 (O.g (O.r u1 u5)))) (O.b (O.i u2 (O.s u3 (O.p (x.L 13) u1 1)) O.e) (O.a [.int u6,.int (lq9 O 8)]) (s0 [.int (O.q .i64 u8 u7)])))))) (O.a [.int u7]))) [.int u6]) fun c0=>(O.b (O.ac c0 0) (O.a [.int (O.h c0 1)]) (O.a [.int u6]))))
def OE:Nat→Env:=eL [(104,C7)]
def H8:=oS aP Lg OE
def dL:List Nat:=[2,0,0,0,0,0,0,0,1,0,0,0,0,3]
def Nn (O:Alg) (x:Ags O):O.M:=let u2:=(lq9 O 0);let u1:=(O.g (O.d (x.I 5) u2));let u0:=(O.i (O.g (O.d (x.I 10) u2)) (O.d (x.I 2) (lq9 O 1)) O.e);(O.c (O.f 73 [] [.str (x.S 0)]) fun c0=>(O.b (O.g (O.k c0 0)) (O.a [.int (lq9 O 5)]) (O.c (O.f 89 [] (xr x kR 0)) fun c1=>(O.b (O.g (O.k c1 0)) (O.a [.int (lq9 O 2)]) (O.c (O.b u0 (O.a [.bool u0]) (O.a [.bool (O.i (O.i u1 O.j (O.n u2 (O.l (x.L 13)))) (O.d (x.I 3) u2) O.e)])) fun c2=>(O.b (O.k c2 0) (O.a [.int (lq9 O 1)]) (O.b (O.i u1 (O.n (O.ai .i64 (x.I 5) (x.I 1)) (x.I 3)) O.e) (O.a [.int (lq9 O 13)]) (O.c (O.f 90 [] (xr x kR 0)) fun c3=>(O.a [.int (O.h c3 0)])))))))))
def Gr:Nat→Env:=eL [(73,HJ),(89,G8),(90,H8)]
def Ab:=oS dL Nn Gr
def Dc (N:Nat) (ls:List PV):Option (List PV):=S8 24 ls
def dv:List Nat:=[2,0,0,0,0,0,0,0,1,0,0,0,0,3]
def NW (O:Alg) (x:Ags O):O.M:=(O.c (O.f 105 [] [.rows (x.L 13)]) fun c0=>(O.a (ap O (xr x [2,0,0,0,0,0,0,0,1,0,0,0,0] 0) [.rows (O.o c0 0)])))
def Pc:Nat→Env:=eL [(105,Dc)]
theorem Ny {N ls}:Pc N 105 [] ls=Dc N ls:=id rfl
def Dq:=oS dv NW Pc
def lN:List Nat:=[2,0,0,0,0,0,0,0,1,0,0,0,0,3]
def R6 (O:Alg) (x:Ags O):O.M:=let u0:=(lq9 O 0);(O.c (O.f 61 [] (xr x kR 0)) fun c0=>(O.b (O.g (O.d (O.h c0 0) u0)) (O.a [.str (O.u ⟨#[]⟩),.int u0,.int u0,.int u0,.int u0,.int u0,.int u0,.int u0,.bool O.e,.int u0,.int u0,.int u0,.int u0,.rows O.v,.int (O.lit .u8 0),.int u0,.bool O.e,.rows O.v,.int u0,.int u0,.int (O.lit .u8 0),.int u0,.int u0,.int (O.h c0 0)]) (O.c (O.f 91 [] (xr x kR 0)) fun c1=>(O.a (ap O (cr O c1 kR 0) [.int (O.lit .u8 1),.int u0,.bool O.e,.rows O.v,.int u0,.int u0,.int (O.lit .u8 0),.int u0,.int u0,.int u0])))))
def NB:Nat→Env:=eL [(61,Ab),(91,Dq)]
theorem Ww {N ls}:NB N 61 [] ls=Ab N ls:=id rfl
theorem W0 {N ls}:NB N 91 [] ls=Dq N ls:=id rfl
def Ry:=oS lN R6 NB
def UE:List Nat:=[0,0,0]
def UA (O:Alg) (x:Ags O):O.M:=(O.a [.bool (O.i (O.s (x.I 1) (x.I 0)) (O.s (x.I 0) (x.I 2)) O.e)])
def fD:Nat→Env:=eL []
def Au:=oS UE UA fD
def Tq:List Nat:=[0,0,0,0,0,0,0,0,0,0,0,0,0,0,3,0,3,3,1,3,1,0,0,0,3,0,0,0,0]
def Hc (O:Alg) (x:Ags O):O.M:=let u5:=(lq9 O 1);let u4:=(lq9 O 0);let u0:=(O.g (O.d (x.I 12) u4));(O.c (O.x (fun s0 c0=>let u8:=(O.h c0 1);let u7:=(O.h c0 0);let u6:=(O.h c0 3);let u2:=(O.p (x.L 14) u6 0);let u9:=(O.i (O.k c0 2) O.j (O.g (O.d u2 (O.lit .u8 0))));let u1:=(O.q .i64 u6 u5);(O.b (O.n u6 (O.l (x.L 14))) (O.m (O.r u6 (O.l (x.L 14))) (O.b (O.n (O.lit .u8 3) u2) (O.a [.int u4,.bool O.e]) (O.b (O.d u2 (O.lit .u8 1)) (O.b (O.i (O.g (O.d (x.I 12) u1)) (O.g (O.d (x.I 13) u1)) O.e) (O.a [.int u4,.bool O.e]) (s0 [.int u7,.int (O.q .i64 u8 u5),.bool u9,.int u1])) (O.b (O.d u2 (O.lit .u8 2)) (s0 [.int (O.q .i64 u7 u5),.int u8,.bool u9,.int u1]) (s0 [.int u7,.int u8,.bool u9,.int u1]))))) (O.a (ap O [.int u5] (cr O c0 [0,0,1] 0))))) [.int u4,.int u4,.bool O.e,.int u4]) fun c0=>(O.b (O.ac c0 0) (O.a [.bool (O.k c0 1)]) (O.c (O.f 159 [] [.int (x.I 12),.int u4,.int (x.I 28)]) fun c1=>let u3:=(O.g (O.k c1 0));(O.c (O.b (O.g u3) (O.f 159 [] [.int (x.I 13),.int u4,.int (x.I 28)]) (O.a [.bool O.e])) fun c2=>(O.b (O.i (O.i u3 O.j (O.g (O.k c2 0))) O.j (O.i (O.d (x.I 12) (x.I 13)) u0 O.e)) (O.a [.bool O.e]) (O.c (O.b u0 (O.a [.int (O.q .i64 u4 u5)]) (O.a [.int u4])) fun c3=>(O.c (O.b (O.g (O.d (x.I 13) u4)) (O.a [.int (O.q .i64 (O.h c3 0) u5)]) (O.a [.int (O.h c3 0)])) fun c4=>(O.a [.bool (O.i (O.i (O.d (O.h c4 0) (O.h c0 2)) (O.i (O.g (O.k c0 3)) O.j (O.n u4 (O.h c4 0))) O.e) (O.d (O.h c0 1) (x.I 4)) O.e)]))))))))
def J3:Nat→Env:=eL [(159,Au)]
def E0:=oS Tq Hc J3
def S0:List Nat:=[3,0]
def Gx (O:Alg) (x:Ags O):O.M:=(O.c (O.x (fun s0 c0=>let u0:=(O.h c0 0);(O.b (O.n u0 (O.l (x.L 0))) (O.m (O.r u0 (O.l (x.L 0))) (O.b (O.d (x.I 1) (O.p (x.L 0) u0 0)) (O.a [.int (lq9 O 0),.int u0]) (s0 [.int (O.q .i64 u0 (lq9 O 1))]))) (O.a [.int (lq9 O 1)]))) [.int (lq9 O 0)]) fun c0=>(O.b (O.ac c0 0) (O.a [.int (O.h c0 1)]) (O.a [.int (lq9 O (-1))])))
def Ps:Nat→Env:=eL []
def EM:=oS S0 Gx Ps
def Oh:List Nat:=[3,0]
def Eh (O:Alg) (x:Ags O):O.M:=(O.c (O.f 198 [] [.rows (x.L 0),.int (x.I 1)]) fun c0=>(O.a [.bool (O.s (lq9 O 0) (O.h c0 0))]))
def GH:Nat→Env:=eL [(198,EM)]
def Ay:=oS Oh Eh GH
def Q1:List Nat:=[3,0]
def F3 (O:Alg) (x:Ags O):O.M:=let u5:=(lq9 O 1);let u4:=(lq9 O 0);let u3:=(O.l (x.L 0));(O.c (O.x (fun s0 c0=>let u6:=(O.h c0 0);let u1:=(O.p (x.L 0) u6 0);(O.b (O.n u6 u3) (O.m (O.r u6 u3) (O.c (O.f 159 [] [.int u1,.int u5,.int (x.I 1)]) fun c1=>let u2:=(O.g (O.k c1 0));let u0:=(O.g u2);(O.m (O.g (O.z u0 (O.g (O.am u4 u6 u3)))) (O.c (O.b u0 (O.f 184 [] [.rows (O.ao (x.L 0) u4 u6),.int u1]) (O.a [.bool O.e])) fun c2=>(O.b (O.i u2 O.j (O.k c2 0)) (O.a [.int u4,.bool O.e]) (s0 [.int (O.q .i64 u6 u5)])))))) (O.a [.int u5]))) [.int u4]) fun c0=>(O.b (O.ac c0 0) (O.a [.bool (O.k c0 1)]) (O.a [.bool O.j])))
def Ee:Nat→Env:=eL [(159,Au),(184,Ay)]
def Dy:=oS Q1 F3 Ee
def Qx:List Nat:=[0]
def F4 (O:Alg) (x:Ags O):O.M:=(O.c (O.f 159 [] [.int (x.I 0),.int (lq9 O 0),.int (lq9 O 1000000000)]) fun c0=>(O.a [.bool (O.g (O.k c0 0))]))
def Hz:Nat→Env:=eL [(159,Au)]
def Dz:=oS Qx F4 Hz
def Tw:List Nat:=[0,0,0,0,0,0,0,0,0,0,0,0,0,0,3,0,3,3,1,3,1,0,0,0,3,0,0,0]
def Hf (O:Alg) (x:Ags O):O.M:=let u2:=(lq9 O 0);let u1:=(O.ab (O.y [[.int (x.I 1)],[.int (x.I 3)],[.int (x.I 5)],[.int (x.I 6)],[.int (x.I 7)],[.int (x.I 8)],[.int (x.I 9)],[.int (x.I 10)],[.int (x.I 21)],[.int (x.I 23)],[.int (x.I 25)],[.int (x.I 26)]]) (x.L 19));let u0:=(O.l u1);(O.m (O.w u0 8) (O.c (O.c (O.x (fun s0 c0=>let u3:=(O.h c0 0);(O.b (O.n u3 u0) (O.m (O.r u3 u0) (O.c (O.f 186 [] [.int (O.p u1 u3 0)]) fun c1=>(O.b (O.k c1 0) (O.a [.int u2,.int u3]) (s0 [.int (O.q .i64 u3 (lq9 O 1))])))) (O.a [.int (lq9 O 1)]))) [.int u2]) fun c0=>(O.b (O.ac c0 0) (O.a [.int (O.h c0 1)]) (O.a [.int (lq9 O (-1))]))) fun c0=>(O.a [.bool (O.g (O.s u2 (O.h c0 0)))])))
def J7:Nat→Env:=eL [(186,Dz)]
def E4:=oS Tw Hf J7
def XE:List Nat:=[2,0,0,0,0,0,0,0,1,0,0,0,0,3,0,0,0,0,0,0,0,0,0,0,0,0,0,0,3,0,3,3,1,3,1,0,0,0,3,0,0,0]
def KX (O:Alg) (x:Ags O):O.M:=let u11:=(lq9 O 1);let u10:=(lq9 O 0);let u8:=(O.d (x.I 3) u10);let u7:=(O.g u8);let u4:=(O.i u8 (O.d (x.I 16) u10) O.e);(O.c (O.f 61 [] (xr x kR 0)) fun c0=>let u6:=(O.g (O.d (O.h c0 0) u10));(O.c (O.b (O.g u6) (O.f 159 [] [.int (x.I 14),.int u11,.int (lq9 O 2)]) (O.a [.bool O.e])) fun c1=>(O.b (O.i u6 O.j (O.g (O.k c1 0))) (O.a [.bool O.e]) (O.b (O.i (O.i (O.i (O.g (O.d (O.l (x.L 28)) (x.I 1))) O.j (O.g (O.d (O.l (x.L 33)) (x.I 1)))) O.j (O.g (O.d (O.l (x.L 38)) (x.I 1)))) O.j (O.n (O.lit .u8 5) (x.I 41))) (O.a [.bool O.e]) (O.c (O.f 160 [] (ap O (xr x kI 14) [.int (x.I 1)])) fun c2=>let u9:=(O.g (O.k c2 0));(O.c (O.b (O.g u9) (O.f 159 [] [.int (x.I 29),.int u10,.int (x.I 1)]) (O.a [.bool O.e])) fun c3=>let u5:=(O.i u9 O.j (O.g (O.k c3 0)));(O.c (O.b (O.g u5) (O.f 159 [] [.int (x.I 36),.int u10,.int (x.I 1)]) (O.a [.bool O.e])) fun c4=>let u3:=(O.i u5 O.j (O.g (O.k c4 0)));(O.c (O.b (O.g u3) (O.f 161 [] [.rows (x.L 30),.int (x.I 1)]) (O.a [.bool O.e])) fun c5=>let u2:=(O.i u3 O.j (O.g (O.k c5 0)));(O.c (O.b (O.g u2) (O.f 161 [] [.rows (x.L 31),.int (x.I 1)]) (O.a [.bool O.e])) fun c6=>(O.b (O.i u2 O.j (O.g (O.k c6 0))) (O.a [.bool O.e]) (O.c (O.b (O.z (O.g u4) u7) (O.f 159 [] [.int (x.I 16),.int u11,.int (x.I 3)]) (O.a [.bool O.e])) fun c7=>let u1:=(O.i u4 O.j (O.i u7 (O.k c7 0) O.e));(O.c (O.b u1 (O.f 159 [] [.int (x.I 25),.int u10,.int (O.t .i64 (x.I 4) u11)]) (O.a [.bool O.e])) fun c8=>let u0:=(O.i u1 (O.k c8 0) O.e);(O.c (O.b u0 (O.f 162 [] (xr x kI 14)) (O.a [.bool O.e])) fun c9=>(O.a [.bool (O.i u0 (O.k c9 0) O.e)]))))))))))))))
def C0:Nat→Env:=eL [(61,Ab),(159,Au),(160,E0),(161,Dy),(162,E4)]
def BZ:=oS XE KX C0
def da:List Nat:=[0]
def Nh (O:Alg) (x:Ags O):O.M:=(O.a [.int (O.t .i64 (lq9 O 3) (x.I 0))])
def XQ:Nat→Env:=eL []
def Ba:=oS da Nh XQ
def eS:List Nat:=[2,0,0,0,0,0,0,0,1,0,0,0,0,3,0,0,1,3,0,0,0,0,0,0]
def NC (O:Alg) (x:Ags O):O.M:=let u0:=(lq9 O 2);(O.c (O.b (O.i (x.B 16) (O.s u0 (x.I 23)) O.e) (O.a [.bool (O.d (x.I 23) u0)]) (O.a [.bool (O.d (O.ap .i64 (x.I 23) u0) (lq9 O 1))])) fun c0=>(O.b (O.k c0 0) (O.c (O.f 135 [] [.int (x.I 15)]) fun c1=>(O.a [.int (O.h c1 0)])) (O.a [.int (x.I 15)])))
def Pb:Nat→Env:=eL [(135,Ba)]
theorem UJ {N ls}:Pb N 135 [] ls=Ba N ls:=id rfl
def Dp:=oS eS NC Pb
def dZ:List Nat:=[2,0,0,0,0,0,0,0,1,0,0,0,0,3,0,0,1,3,0,0,0,0,0]
def NX (O:Alg) (x:Ags O):O.M:=let u2:=(lq9 O 0);let u1:=(lq9 O 1);let u0:=(O.l (x.L 17));(O.c (O.x (fun s0 c0=>let u3:=(O.h c0 0);(O.b (O.n u3 u0) (O.m (O.r u3 u0) (O.b (O.g (O.aj (O.d (O.p (x.L 17) u3 27) (O.lit .u8 0)) (O.i (O.d (x.I 14) (O.lit .u8 3)) (O.d u3 (O.t .i64 u0 u1)) O.e))) (O.a [.int u2,.bool O.e]) (s0 [.int (O.q .i64 u3 u1)]))) (O.a [.int u1]))) [.int u2]) fun c0=>(O.b (O.ac c0 0) (O.a [.bool (O.k c0 1)]) (O.a [.bool (O.i (O.g (O.d (x.I 14) (O.lit .u8 3))) O.j (O.n u2 u0))])))
def Xt:Nat→Env:=eL []
def JY:=oS dZ NX Xt
def eN:List Nat:=[2,0,0,0,0,0,0,0,1,0,0,0,0,3,0,0,1,3,0,0,0,0,0]
def Nm (O:Alg) (x:Ags O):O.M:=let u8:=(lq9 O 1);let u9:=(O.d (x.I 14) (O.lit .u8 1));let u7:=(lq9 O 2);let u6:=(lq9 O 0);let u5:=(O.l (x.L 17));let u3:=(O.d (x.I 15) u6);let u2:=(O.ai .i64 u7 (x.I 2));let u1:=(O.g (O.d (x.I 2) u7));(O.c (O.f 61 [] (xr x kR 0)) fun c0=>(O.b (O.i (O.i (O.g (O.d (O.h c0 0) u6)) O.j (O.n (x.I 14) (O.lit .u8 1))) O.j (O.n (O.lit .u8 5) (x.I 14))) (O.a [.bool O.e]) (O.c (O.x (fun s1 c1=>let u11:=(O.h c1 0);let u0:=(O.ae (O.d u11 u8) (x.I 19) (x.I 18));(O.b (O.n u11 u7) (O.m (O.r u11 u7) (O.b (O.i (O.n u0 u6) O.j (O.n (lq9 O 1000000) u0)) (O.a [.int u6,.bool O.e]) (s1 [.int (O.q .i64 u11 u8)]))) (O.a [.int u8]))) [.int u6]) fun c1=>(O.b (O.ac c1 0) (O.a [.bool (O.k c1 1)]) (O.b (O.i (O.i (O.n (x.I 15) u6) O.j (O.n u7 (x.I 15))) O.j (O.n u2 u5)) (O.a [.bool O.e]) (O.b (O.i u3 (O.i (O.n u6 u5) O.j (O.i (O.g u9) (O.g (O.d (x.I 14) (O.lit .u8 5))) O.e)) O.e) (O.a [.bool O.e]) (O.b (O.i u9 (O.g u3) O.e) (O.a [.bool O.e]) (O.b (O.i (O.d (x.I 14) (O.lit .u8 2)) (O.d u5 u2) O.e) (O.a [.bool O.e]) (O.b (O.i (O.d (x.I 14) (O.lit .u8 4)) (O.i u1 O.j (O.g (O.d u5 u7))) O.e) (O.a [.bool O.e]) (O.b (O.i (x.B 16) (O.i u1 O.j (O.n u5 u7)) O.e) (O.a [.bool O.e]) (O.c (O.x (fun s2 c2=>let u10:=(O.h c2 0);(O.b (O.n u10 u5) (O.m (O.r u10 u5) (O.c (O.f 127 [] (ap O (xr x kR 0) (rr O (x.L 17) u10 kI 0))) fun c3=>let u4:=(O.g (O.k c3 0));(O.c (O.b (O.g u4) (O.f 128 [] (ap O (xr x kM 0) [.int u10])) (O.a [.int u6])) fun c4=>(O.b (O.i u4 O.j (O.g (O.d (O.p (x.L 17) u10 0) (O.h c4 0)))) (O.a [.int u6,.bool O.e]) (s2 [.int (O.q .i64 u10 u8)]))))) (O.a [.int u8]))) [.int u6]) fun c2=>(O.b (O.ac c2 0) (O.a [.bool (O.k c2 1)]) (O.c (O.f 129 [] (xr x kM 0)) fun c3=>(O.a [.bool (O.k c3 0)]))))))))))))))
def Ec:Nat→Env:=eL [(61,Ab),(127,BZ),(128,Dp),(129,JY)]
theorem UU {N ls}:Ec N 61 [] ls=Ab N ls:=id rfl
theorem Ie {N ls}:Ec N 127 [] ls=BZ N ls:=id rfl
theorem KV {N ls}:Ec N 128 [] ls=Dp N ls:=id rfl
theorem KF {N ls}:Ec N 129 [] ls=JY N ls:=id rfl
def Dn:=oS eN Nm Ec
def Zb:List Nat:=[0]
def Lz (O:Alg) (x:Ags O):O.M:=(O.b (O.d (x.I 0) (O.lit .u8 7)) (O.a [.int (lq9 O 0),.int (lq9 O 11)]) (O.b (O.d (x.I 0) (O.lit .u8 13)) (O.a [.int (lq9 O 1),.int (lq9 O 99)]) (O.a [.int (lq9 O 0),.int (lq9 O 100000)])))
def Vh:Nat→Env:=eL []
def ID:=oS Zb Lz Vh
def Xz:List Nat:=[0,0,0]
def PR (O:Alg) (x:Ags O):O.M:=(O.a [.bool (O.i (O.s (x.I 1) (x.I 0)) (O.s (x.I 0) (x.I 2)) O.e)])
def To:Nat→Env:=eL []
def Gm:=oS Xz PR To
def Cz (N:Nat) (ls:List PV):Option (List PV):=nf ls
def Qy:List Nat:=[2,0]
def F7 (O:Alg) (x:Ags O):O.M:=(O.c (O.f 187 [] [.str (x.S 0),.int (x.I 1)]) fun c0=>(O.a [.int (O.h c0 0)]))
def Hn:Nat→Env:=eL [(187,Cz)]
theorem IZ {N ls}:Hn N 187 [] ls=Cz N ls:=id rfl
def D2:=oS Qy F7 Hn
def eC:List Nat:=[]
def db (O:Alg) (x:Ags O):O.M:=let u4:=(O.u ⟨#[]⟩);let u3:=(O.u ⟨#[112]⟩);let u2:=(O.u ⟨#[112,121]⟩);let u1:=(O.u ⟨#[115,121]⟩);let u0:=(O.u ⟨#[70,73,69,76,68]⟩);(O.a [.rows (O.y [[.str (O.u ⟨#[84,79,83,83]⟩),.str u1,.str (O.u ⟨#[66,65,84]⟩),.str u0],[.str (O.u ⟨#[79,80,69,78]⟩),.str (O.u ⟨#[112,111]⟩),.str u4,.str u4],[.str (O.u ⟨#[66,79,87,76]⟩),.str u3,.str u4,.str u4],[.str (O.u ⟨#[66,65,76,76]⟩),.str (O.u ⟨#[98]⟩),.str u4,.str u4],[.str (O.u ⟨#[69,78,84,69,82]⟩),.str u3,.str u4,.str u4],[.str (O.u ⟨#[82,69,84,73,82,69]⟩),.str u2,.str (O.u ⟨#[72,85,82,84]⟩),.str (O.u ⟨#[79,85,84]⟩)],[.str u0,.str (O.u ⟨#[114]⟩),.str u4,.str u4],[.str (O.u ⟨#[75,69,69,80,69,82]⟩),.str u3,.str u4,.str u4],[.str (O.u ⟨#[83,85,66]⟩),.str u2,.str (O.u ⟨#[79,78]⟩),.str (O.u ⟨#[79,70,70]⟩)],[.str (O.u ⟨#[78,69,87,66,65,76,76]⟩),.str u4,.str u4,.str u4],[.str (O.u ⟨#[68,69,67,76,65,82,69]⟩),.str (O.u ⟨#[115]⟩),.str u4,.str u4],[.str (O.u ⟨#[70,79,76,76,79,87]⟩),.str u1,.str (O.u ⟨#[89,69,83]⟩),.str (O.u ⟨#[78,79]⟩)],[.str (O.u ⟨#[80,69,78,65,76,84,89]⟩),.str (O.u ⟨#[115,114]⟩),.str u4,.str u4],[.str (O.u ⟨#[82,69,86,73,69,87]⟩),.str u1,.str (O.u ⟨#[75,69,80,84]⟩),.str (O.u ⟨#[76,79,83,84]⟩)],[.str (O.u ⟨#[82,69,86,73,83,69]⟩),.str (O.u ⟨#[114,118]⟩),.str u4,.str u4],[.str (O.u ⟨#[83,84,79,80]⟩),.str u4,.str u4,.str u4]])])
def nW:Nat→Env:=eL []
def GZ:=oS eC db nW
def iA:List Nat:=[0,0]
def Ph (O:Alg) (x:Ags O):O.M:=(O.c (O.f 164 [] []) fun c0=>(O.m (O.r (O.t .u8 (x.I 0) (O.lit .u8 1)) (O.l (O.o c0 0))) (O.c (O.f 163 [] [.str (O.rS (O.o c0 0) (O.t .u8 (x.I 0) (O.lit .u8 1)) 1),.int (x.I 1)]) fun c1=>(O.a [.bool (O.i (O.s (lq9 O 0) (O.h c1 0)) O.j (O.i (O.d (x.I 0) (O.lit .u8 5)) (O.d (x.I 1) (O.lit .u8 121)) O.e))]))))
def L8:Nat→Env:=eL [(163,D2),(164,GZ)]
theorem Qc {N ls}:L8 N 163 [] ls=D2 N ls:=id rfl
theorem VW {N ls}:L8 N 164 [] ls=GZ N ls:=id rfl
def LH:=oS iA Ph L8
def S5:List Nat:=[0,0,0]
def LG (O:Alg) (x:Ags O):O.M:=(O.a [.bool (O.i (O.s (x.I 1) (x.I 0)) (O.s (x.I 0) (x.I 2)) O.e)])
def Qb:Nat→Env:=eL []
def ET:=oS S5 LG Qb
def WC:List Nat:=[0,0,0,0,0,1,0,0,0,0,1,0]
def I5 (O:Alg) (x:Ags O):O.M:=let u5:=(lq9 O 0);(O.b (O.i (O.i (O.i (O.n (x.I 0) (O.lit .u8 1)) O.j (O.n (O.lit .u8 3) (x.I 0))) O.j (O.n (O.lit .u8 3) (x.I 1))) O.j (O.n (O.lit .u8 10) (x.I 6))) (O.a [.int (lq9 O 3)]) (O.c (O.f 165 [] [.int (x.I 2),.int u5,.int (lq9 O 7)]) fun c0=>let u4:=(O.g (O.k c0 0));(O.c (O.b (O.g u4) (O.f 165 [] [.int (x.I 3),.int u5,.int (x.I 2)]) (O.a [.bool O.e])) fun c1=>let u3:=(O.i (O.i u4 O.j (O.g (O.k c1 0))) O.j (O.i (O.i (O.g (O.d (x.I 4) u5)) (O.g (O.d (x.I 4) (lq9 O 4))) O.e) (O.g (O.d (x.I 4) (lq9 O 6))) O.e));(O.c (O.b (O.g u3) (O.f 165 [] [.int (x.I 7),.int u5,.int (lq9 O 2)]) (O.a [.bool O.e])) fun c2=>let u2:=(O.i u3 O.j (O.g (O.k c2 0)));(O.c (O.b (O.g u2) (O.f 165 [] [.int (x.I 8),.int u5,.int (lq9 O 11)]) (O.a [.bool O.e])) fun c3=>let u1:=(O.i u2 O.j (O.g (O.k c3 0)));(O.c (O.b (O.g u1) (O.f 165 [] [.int (x.I 9),.int u5,.int (lq9 O 11)]) (O.a [.bool O.e])) fun c4=>let u0:=(O.i u1 O.j (O.g (O.k c4 0)));(O.c (O.b (O.g u0) (O.f 165 [] [.int (x.I 11),.int u5,.int (lq9 O 8)]) (O.a [.bool O.e])) fun c5=>(O.b (O.i u0 O.j (O.g (O.k c5 0))) (O.a [.int (lq9 O 2)]) (O.a [.int u5])))))))))
def Ku:Nat→Env:=eL [(165,ET)]
theorem Mp {N ls}:Ku N 165 [] ls=ET N ls:=id rfl
def Fk:=oS WC I5 Ku
def eG:List Nat:=[0,0,0,0,1,0,0,0,0,0,0,0,1,0,0,0,0,1,0]
def Jg (O:Alg) (x:Ags O):O.M:=let u14:=(lq9 O 1);let u13:=(lq9 O 0);let u8:=(O.d (x.I 9) u13);let u15:=(O.lit .u8 0);let u7:=(O.d (x.I 6) u13);let u6:=(O.d (x.I 5) u13);let u5:=(O.d (x.I 3) u13);let u4:=(O.d (x.I 2) u13);let u3:=(O.d (x.I 1) u13);let u2:=(O.d (x.I 11) u13);let u1:=(O.d (x.I 10) u13);let u0:=(O.z (O.d (x.I 14) u13) (O.z (O.d (x.I 15) u13) (O.z (O.d (x.I 16) u13) (O.z (O.aj (x.B 17) O.e) (O.d (x.I 18) u13)))));(O.b (O.i (O.n (x.I 0) (O.lit .u8 1)) O.j (O.n (O.lit .u8 16) (x.I 0))) (O.a [.int (lq9 O 3)]) (O.c (O.f 130 [] [.int (x.I 0)]) fun c0=>(O.c (O.f 131 [] [.int (x.I 1),.int u14,.int (lq9 O 2)]) fun c1=>(O.c (O.f 131 [] [.int (x.I 2),.int u14,.int (lq9 O 11)]) fun c2=>(O.c (O.f 131 [] [.int (x.I 3),.int u14,.int (lq9 O 11)]) fun c3=>(O.c (O.f 131 [] [.int (x.I 5),.int (O.h c0 0),.int (O.h c0 1)]) fun c4=>(O.c (O.f 131 [] [.int (x.I 6),.int u13,.int (lq9 O 90)]) fun c5=>let u12:=(O.y [[.int (O.lit .u8 115),.bool u3,.bool (O.k c1 0)],[.int (O.lit .u8 112),.bool u4,.bool (O.k c2 0)],[.int (O.lit .u8 111),.bool u5,.bool (O.k c3 0)],[.int (O.lit .u8 121),.bool (O.g (x.B 4)),.bool O.j],[.int (O.lit .u8 114),.bool u6,.bool (O.k c4 0)],[.int (O.lit .u8 118),.bool u7,.bool (O.k c5 0)],[.int (O.lit .u8 98),.bool (O.z (O.d (x.I 7) u15) (O.z (O.d (x.I 8) u15) (O.z u8 (O.z u1 (O.z u2 (O.z (O.aj (x.B 12) O.e) (O.z (O.d (x.I 13) u15) u0))))))),.bool O.j]]);let u11:=(O.l u12);(O.c (O.x (fun s6 c6=>let u16:=(O.h c6 0);let u9:=(O.g (O.rB u12 u16 1));(O.b (O.n u16 u11) (O.m (O.r u16 u11) (O.c (O.b u9 (O.f 132 [] [.int (x.I 0),.int (O.p u12 u16 0)]) (O.a [.bool O.e])) fun c7=>(O.b (O.i u9 (O.g (O.k c7 0)) O.e) (O.a [.int u13,.int u14]) (s6 [.int (O.q .i64 u16 u14)])))) (O.a [.int u14]))) [.int u13]) fun c6=>(O.b (O.ac c6 0) (O.a [.int (O.h c6 1)]) (O.c (O.x (fun s7 c7=>let u17:=(O.h c7 0);let u10:=(O.g (O.rB u12 u17 2));(O.b (O.n u17 u11) (O.m (O.r u17 u11) (O.c (O.b u10 (O.f 132 [] [.int (x.I 0),.int (O.p u12 u17 0)]) (O.a [.bool O.e])) fun c8=>(O.b (O.i u10 (O.k c8 0) O.e) (O.a [.int u13,.int (lq9 O 2)]) (s7 [.int (O.q .i64 u17 u14)])))) (O.a [.int u14]))) [.int u13]) fun c7=>(O.b (O.ac c7 0) (O.a [.int (O.h c7 1)]) (O.b (O.d (x.I 0) (O.lit .u8 4)) (O.c (O.f 133 [] (xr x [0,0,0,0,0,1,0,0,0,0,1,0] 7)) fun c8=>(O.a [.int (O.h c8 0)])) (O.a [.int u13])))))))))))))
def Ei:Nat→Env:=eL [(130,ID),(131,Gm),(132,LH),(133,Fk)]
theorem Ji {N ls}:Ei N 130 [] ls=ID N ls:=id rfl
theorem Ic {N ls}:Ei N 131 [] ls=Gm N ls:=id rfl
theorem K4 {N ls}:Ei N 132 [] ls=LH N ls:=id rfl
theorem D8 {N ls}:Ei N 133 [] ls=Fk N ls:=id rfl
def Dr:=oS eG Jg Ei
def Ag (N:Nat) (ls:List PV):Option (List PV):=S8 1 ls
def Ar (N:Nat) (ls:List PV):Option (List PV):=S8 8 ls
def Am (N:Nat) (ls:List PV):Option (List PV):=S8 1 ls
def X0:List Nat:=[0,0,0,0,0,0,0,0,0,0,0,0,0,0,3,0,3,3,1,3,1,0,0,0,3,0,0,0]
def KQ (O:Alg) (x:Ags O):O.M:=(O.c (O.f 166 [] [.rows (x.L 14)]) fun c0=>(O.c (O.f 167 [] [.rows (x.L 16)]) fun c1=>(O.c (O.f 167 [] [.rows (x.L 17)]) fun c2=>(O.c (O.f 167 [] [.rows (x.L 19)]) fun c3=>(O.c (O.f 168 [] [.rows (x.L 24)]) fun c4=>(O.a (ap O (xr x [0,0,0,0,0,0,0,0,0,0,0,0,0,0] 0) (ap O [.rows (O.o c0 0),.int (x.I 15),.rows (O.o c1 0),.rows (O.o c2 0),.bool (x.B 18),.rows (O.o c3 0)] (ap O (xr x [1,0,0,0] 20) (ap O [.rows (O.o c4 0)] (xr x [0,0,0] 25)))))))))))
def E7:Nat→Env:=eL [(166,Ag),(167,Ar),(168,Am)]
theorem MD {N ls}:E7 N 166 [] ls=Ag N ls:=id rfl
theorem N8 {N ls}:E7 N 167 [] ls=Ar N ls:=id rfl
theorem M3 {N ls}:E7 N 168 [] ls=Am N ls:=id rfl
def AZ:=oS X0 KQ E7
def dj:List Nat:=[2,0,0,0,0,0,0,0,1,0,0,0,0,3,0,0,1,3,0,0,0,0,0]
def M9 (O:Alg) (x:Ags O):O.M:=(O.c (O.f 91 [] (xr x kR 0)) fun c0=>(O.c (O.x (fun s1 c1=>let u1:=(O.h c1 1);(O.b (O.n u1 (O.l (x.L 17))) (O.m (O.r u1 (O.l (x.L 17))) (O.c (O.f 134 [] (rr O (x.L 17) u1 kI 0)) fun c2=>let u0:=(O.ab (O.o c1 0) (O.y [(cr O c2 kI 0)]));(O.m (O.w (O.l u0) 304) (s1 [.rows u0,.int (O.q .i64 u1 (lq9 O 1))])))) (O.a [.rows (O.o c1 0)]))) [.rows O.v,.int (lq9 O 0)]) fun c1=>(O.a (ap O (cr O c0 kR 0) (ap O (xr x [0,0,1] 14) (ap O [.rows (O.o c1 0)] (xr x [0,0,0,0,0] 18)))))))
def KE:Nat→Env:=eL [(91,Dq),(134,AZ)]
theorem Uz {N ls}:KE N 91 [] ls=Dq N ls:=id rfl
theorem Id {N ls}:KE N 134 [] ls=AZ N ls:=id rfl
def Jk:=oS dj M9 KE
def eF:List Nat:=[2,0,0,0,0,0,0,0,1,0,0,0,0,3,0,0,1,3,0,0,0,0,0,0]
def Nv (O:Alg) (x:Ags O):O.M:=(O.c (O.x (fun s0 c0=>let u2:=(O.h c0 0);let u1:=(O.h c0 1);let u0:=(O.q .i64 u1 (lq9 O 1));(O.b (O.n u1 (O.l (x.L 17))) (O.m (O.r u1 (O.l (x.L 17))) (O.b (O.d (O.p (x.L 17) u1 0) (x.I 23)) (s0 [.int (O.q .i64 u2 (O.p (x.L 17) u1 3)),.int u0]) (s0 [.int u2,.int u0]))) (O.a [.int u2]))) [.int (lq9 O 0),.int (lq9 O 0)]) fun c0=>(O.a [.int (O.h c0 0)]))
def XY:Nat→Env:=eL []
def CL:=oS eF Nv XY
def S6:List Nat:=[2,0,0,0,0,0,0,0,1,0,0,0,0,3]
def G9 (O:Alg) (x:Ags O):O.M:=(O.b (O.d (x.I 3) (lq9 O 0)) (O.a [.int (O.lit .u8 5)]) (O.a [.int (O.lit .u8 6)]))
def PA:Nat→Env:=eL []
def CB:=oS S6 G9 PA
def XO:List Nat:=[2,0,0,0,0,0,0,0,1,0,0,0,0,3,0,0,1,3,0,0,0,0,0]
def KW (O:Alg) (x:Ags O):O.M:=let u10:=(lq9 O 1);let u9:=(lq9 O 0);let u8:=(O.l (x.L 17));let u11:=(O.lit .u8 0);let u7:=(O.d u8 (lq9 O 3));let u6:=(O.t .i64 u8 u10);let u5:=(O.d u8 (O.ai .i64 (lq9 O 2) (x.I 2)));let u4:=(O.p (x.L 17) u6 1);let u3:=(O.p (x.L 17) u6 3);let u2:=(O.p (x.L 17) u6 0);let u1:=(O.p (x.L 17) u6 27);let u0:=(O.t .i64 u4 u10);(O.c (O.f 106 [] (xr x kM 0)) fun c0=>(O.b (O.i (O.g (O.k c0 0)) O.j (O.d u8 u9)) (O.a [.int u11,.int u9,.int u9]) (O.m (O.r u6 u8) (O.c (O.f 135 [] [.int u2]) fun c1=>let u12:=(O.h c1 0);(O.b (O.d u1 (O.lit .u8 5)) (O.c (O.f 172 [] (xr x kR 0)) fun c2=>(O.a [.int (O.h c2 0),.int u9,.int u9])) (O.b (O.d u1 u11) (O.a [.int u11,.int u9,.int u9]) (O.b (O.i u5 (O.s u4 u3) O.e) (O.a [.int (O.lit .u8 2),.int u2,.int (O.t .i64 (O.t .i64 (x.I 1) u10) (O.p (x.L 17) u6 4))]) (O.b (O.i u5 (O.d u3 u0) O.e) (O.a [.int (O.lit .u8 4),.int u9,.int u9]) (O.b u5 (O.a [.int (O.lit .u8 1),.int u12,.int (O.t .i64 u0 u3)]) (O.c (O.b u7 (O.f 139 [] (ap O (xr x kM 0) [.int u2])) (O.a [.int u9])) fun c2=>(O.c (O.b u7 (O.f 139 [] (ap O (xr x kM 0) [.int u12])) (O.a [.int u9])) fun c3=>(O.b (O.i u7 (O.n (O.h c2 0) (O.h c3 0)) O.e) (O.c (O.f 139 [] (ap O (xr x kM 0) [.int u12])) fun c4=>(O.c (O.f 139 [] (ap O (xr x kM 0) [.int u2])) fun c5=>(O.a [.int (O.lit .u8 3),.int u12,.int (O.t .i64 (O.h c4 0) (O.h c5 0))]))) (O.a [.int u11,.int u9,.int u9])))))))))))))
def Dm:Nat→Env:=eL [(106,Dn),(135,Ba),(139,CL),(172,CB)]
theorem Si {N ls}:Dm N 106 [] ls=Dn N ls:=id rfl
theorem TE {N ls}:Dm N 135 [] ls=Ba N ls:=id rfl
theorem Sr {N ls}:Dm N 139 [] ls=CL N ls:=id rfl
theorem N9 {N ls}:Dm N 172 [] ls=CB N ls:=id rfl
def G1:=oS XO KW Dm
def Xs:List Nat:=[2,0,0,0,0,0,0,0,1,0,0,0,0,3,0,0,0]
def KS (O:Alg) (x:Ags O):O.M:=let u4:=(lq9 O 0);let u3:=(O.w (x.I 1) 1);let u2:=(lq9 O 1000000);(O.c (O.f 61 [] (xr x kR 0)) fun c0=>(O.b (O.g (O.d (O.h c0 0) u4)) (O.a [.int u4,.int u4,.int u4,.int u4,.int u4,.int u4,.int u4,.int u4,.int u4,.int u4,.int u4,.int u4,.int u4,.int u4,.rows O.v,.int u4,.rows O.v,.rows O.v,.bool O.e,.rows O.v,.bool O.e,.int u4,.int u4,.int u4,.rows O.v,.int u4,.int u4,.int (O.lit .u8 0),.int (O.h c0 0)]) (O.c (O.f 159 [] [.int (x.I 14),.int (lq9 O 1),.int (lq9 O 2)]) fun c1=>let u1:=(O.g (O.k c1 0));(O.c (O.b (O.g u1) (O.f 159 [] [.int (x.I 15),.int u4,.int u2]) (O.a [.bool O.e])) fun c2=>let u0:=(O.i u1 O.j (O.g (O.k c2 0)));(O.c (O.b (O.g u0) (O.f 159 [] [.int (x.I 16),.int u4,.int u2]) (O.a [.bool O.e])) fun c3=>(O.b (O.i u0 O.j (O.g (O.k c3 0))) (O.a [.int u4,.int u4,.int u4,.int u4,.int u4,.int u4,.int u4,.int u4,.int u4,.int u4,.int u4,.int u4,.int u4,.int u4,.rows O.v,.int u4,.rows O.v,.rows O.v,.bool O.e,.rows O.v,.bool O.e,.int u4,.int u4,.int u4,.rows O.v,.int u4,.int u4,.int (O.lit .u8 0),.int (lq9 O 2)]) (O.m u3 (O.m (O.w (x.I 1) 8) (O.m u3 (O.a [.int (x.I 14),.int (x.I 15),.int (x.I 3),.int (x.I 16),.int u4,.int u4,.int u4,.int u4,.int u4,.int (x.I 16),.int u4,.int u4,.int u4,.int u4,.rows (O.ar (x.I 1) [.int (O.lit .u8 0)]),.int u4,.rows O.v,.rows O.v,.bool O.e,.rows (O.ar (x.I 1) [.int u4]),.bool O.e,.int u4,.int u4,.int u4,.rows (O.ar (x.I 1) [.bool O.e]),.int u4,.int u4,.int (O.lit .u8 0),.int u4]))))))))))
def HR:Nat→Env:=eL [(61,Ab),(159,Au)]
theorem Sj {N ls}:HR N 61 [] ls=Ab N ls:=id rfl
theorem Oq {N ls}:HR N 159 [] ls=Au N ls:=id rfl
def Gh:=oS Xs KS HR
def Z5:List Nat:=[2,0,0,0,0,0,0,0,1,0,0,0,0,3,0,0,1,3,0,0,0,0,0,0]
def Lo (O:Alg) (x:Ags O):O.M:=(O.b (O.n (O.q .i64 (O.l (x.L 17)) (lq9 O 1)) (O.ai .i64 (lq9 O 2) (x.I 2))) (O.a [.int (lq9 O 0)]) (O.c (O.f 135 [] [.int (x.I 23)]) fun c0=>(O.c (O.f 139 [] (ap O (xr x kM 0) [.int (O.h c0 0)])) fun c1=>(O.c (O.f 139 [] (xr x [2,0,0,0,0,0,0,0,1,0,0,0,0,3,0,0,1,3,0,0,0,0,0,0] 0)) fun c2=>(O.a [.int (O.q .i64 (O.t .i64 (O.h c1 0) (O.h c2 0)) (lq9 O 1))])))))
def Iq:Nat→Env:=eL [(135,Ba),(139,CL)]
theorem Ta {N ls}:Iq N 135 [] ls=Ba N ls:=id rfl
theorem TU {N ls}:Iq N 139 [] ls=CL N ls:=id rfl
def Hk:=oS Z5 Lo Iq
def T1:List Nat:=[0]
def ML (O:Alg) (x:Ags O):O.M:=(O.a [.bool (O.g (O.d (x.I 0) (O.lit .u8 0)))])
def Qv:Nat→Env:=eL []
def Ew:=oS T1 ML Qv
def Xo:List Nat:=[0,0,0,0,0,0,0,0,0,0,0,0,0,0,3,0,3,3,1,3,1,0,0,0,3,0,0,0]
def KI (O:Alg) (x:Ags O):O.M:=let u0:=(lq9 O 0);(O.c (O.c (O.x (fun s0 c0=>let u1:=(O.h c0 0);(O.b (O.n u1 (O.l (x.L 14))) (O.m (O.r u1 (O.l (x.L 14))) (O.c (O.f 202 [] [.int (O.p (x.L 14) u1 0)]) fun c1=>(O.b (O.k c1 0) (O.a [.int u0,.int u1]) (s0 [.int (O.q .i64 u1 (lq9 O 1))])))) (O.a [.int (lq9 O 1)]))) [.int u0]) fun c0=>(O.b (O.ac c0 0) (O.a [.int (O.h c0 1)]) (O.a [.int (lq9 O (-1))]))) fun c0=>(O.a [.bool (O.s u0 (O.h c0 0))]))
def MO:Nat→Env:=eL [(202,Ew)]
theorem GB {N ls}:MO N 202 [] ls=Ew N ls:=id rfl
def Gd:=oS Xo KI MO
def f8:List Nat:=[0,0,0,0,0,0,0,0,0,0,0,0,0,0,3,0,3,3,1,3,1,0,0,0,3,0,0,0]
def Pq (O:Alg) (x:Ags O):O.M:=(O.c (O.f 166 [] [.rows (x.L 14)]) fun c0=>(O.c (O.f 167 [] [.rows (x.L 16)]) fun c1=>(O.c (O.f 167 [] [.rows (x.L 17)]) fun c2=>(O.c (O.f 167 [] [.rows (x.L 19)]) fun c3=>(O.c (O.f 168 [] [.rows (x.L 24)]) fun c4=>(O.a (ap O (xr x [0,0,0,0,0,0,0,0,0,0,0,0,0,0] 0) (ap O [.rows (O.o c0 0),.int (x.I 15),.rows (O.o c1 0),.rows (O.o c2 0),.bool (x.B 18),.rows (O.o c3 0)] (ap O (xr x [1,0,0,0] 20) (ap O [.rows (O.o c4 0)] (xr x [0,0,0] 25)))))))))))
def IH:Nat→Env:=eL [(166,Ag),(167,Ar),(168,Am)]
theorem OC {N ls}:IH N 166 [] ls=Ag N ls:=id rfl
theorem Qi {N ls}:IH N 167 [] ls=Ar N ls:=id rfl
theorem O9 {N ls}:IH N 168 [] ls=Am N ls:=id rfl
def A6:=oS f8 Pq IH
def WR:List Nat:=[0]
def N4 (O:Alg) (x:Ags O):O.M:=(O.a [.bool (O.g (O.d (x.I 0) (O.lit .u8 0)))])
def SY:Nat→Env:=eL []
def DS:=oS WR N4 SY
def Z9:List Nat:=[0,0,0,0,0,0,0,0,0,0,0,0,0,0,3,0,3,3,1,3,1,0,0,0,3,0,0,0]
def FV (O:Alg) (x:Ags O):O.M:=let u0:=(lq9 O 0);(O.c (O.c (O.x (fun s0 c0=>let u1:=(O.h c0 0);(O.b (O.n u1 (O.l (x.L 14))) (O.m (O.r u1 (O.l (x.L 14))) (O.c (O.f 262 [] [.int (O.p (x.L 14) u1 0)]) fun c1=>(O.b (O.k c1 0) (O.a [.int u0,.int u1]) (s0 [.int (O.q .i64 u1 (lq9 O 1))])))) (O.a [.int (lq9 O 1)]))) [.int u0]) fun c0=>(O.b (O.ac c0 0) (O.a [.int (O.h c0 1)]) (O.a [.int (lq9 O (-1))]))) fun c0=>(O.a [.bool (O.s u0 (O.h c0 0))]))
def Fu:Nat→Env:=eL [(262,DS)]
theorem HP {N ls}:Fu N 262 [] ls=DS N ls:=id rfl
def CS:=oS Z9 FV Fu
def Zl:List Nat:=[0,0,0,0,0,0,0,0,0,0,0,0,0,0,3,0,3,3,1,3,1,0,0,0,3,0,0,0,0]
def L2 (O:Alg) (x:Ags O):O.M:=(O.a [.bool (O.i (O.s (lq9 O 1) (x.I 28)) (O.s (x.I 28) (O.l (x.L 14))) O.e)])
def Vu:Nat→Env:=eL []
def A9:=oS Zl L2 Vu
def dT:List Nat:=[0,0,0,0,0,0,0,0,0,0,0,0,0,0,3,0,3,3,1,3,1,0,0,0,3,0,0,0,0,0]
def NI (O:Alg) (x:Ags O):O.M:=let u3:=(lq9 O 1);let u1:=(O.t .i64 (x.I 29) u3);let u0:=(O.t .i64 (x.I 28) u3);(O.c (O.f 234 [] (xr x kI 0)) fun c0=>let u4:=(O.o c0 14);(O.c (O.f 235 [] (xr x kI 0)) fun c1=>(O.b (O.k c1 0) (O.a (ap O (cr O c0 kI 0) [.int u3])) (O.c (O.f 236 [] (xr x [0,0,0,0,0,0,0,0,0,0,0,0,0,0,3,0,3,3,1,3,1,0,0,0,3,0,0,0,0] 0)) fun c2=>let u2:=(O.g (O.k c2 0));(O.c (O.b (O.g u2) (O.f 236 [] (ap O (xr x kI 0) [.int (x.I 29)])) (O.a [.bool O.e])) fun c3=>(O.b (O.i u2 O.j (O.g (O.k c3 0))) (O.a (ap O (cr O c0 kI 0) [.int (lq9 O 3)])) (O.b (O.d (x.I 28) (x.I 29)) (O.a (ap O (cr O c0 kI 0) [.int (lq9 O 4)])) (O.m (O.r u0 (O.l u4)) (O.m (O.r u1 (O.l (O.aa u4 u0 0 [.int (O.lit .u8 1)]))) (O.a (ap O (cr O c0 [0,0,0,0,0,0,0,0,0,0,0,0] 0) (ap O [.int (x.I 28),.int (x.I 29),.rows (O.aa (O.aa u4 u0 0 [.int (O.lit .u8 1)]) u1 0 [.int (O.lit .u8 1)])] (ap O (cr O c0 [0,3,3,1,3,1,0,0,0,3,0,0,0] 15) [.int (lq9 O 0)])))))))))))))
def Gl:Nat→Env:=eL [(234,A6),(235,CS),(236,A9)]
theorem VI {N ls}:Gl N 234 [] ls=A6 N ls:=id rfl
theorem TL {N ls}:Gl N 235 [] ls=CS N ls:=id rfl
theorem Td {N ls}:Gl N 236 [] ls=A9 N ls:=id rfl
def JV:=oS dT NI Gl
def kP:List Nat:=[0,0,0,0,0,0,0,0,0,0,0,0,0,0,3,0,3,3,1,3,1,0,0,0,3,0,0,0]
def SG (O:Alg) (x:Ags O):O.M:=(O.c (O.f 166 [] [.rows (x.L 14)]) fun c0=>(O.c (O.f 167 [] [.rows (x.L 16)]) fun c1=>(O.c (O.f 167 [] [.rows (x.L 17)]) fun c2=>(O.c (O.f 167 [] [.rows (x.L 19)]) fun c3=>(O.c (O.f 168 [] [.rows (x.L 24)]) fun c4=>(O.a (ap O (xr x [0,0,0,0,0,0,0,0,0,0,0,0,0,0] 0) (ap O [.rows (O.o c0 0),.int (x.I 15),.rows (O.o c1 0),.rows (O.o c2 0),.bool (x.B 18),.rows (O.o c3 0)] (ap O (xr x [1,0,0,0] 20) (ap O [.rows (O.o c4 0)] (xr x [0,0,0] 25)))))))))))
def Jj:Nat→Env:=eL [(166,Ag),(167,Ar),(168,Am)]
theorem Ol {N ls}:Jj N 166 [] ls=Ag N ls:=id rfl
theorem Q7 {N ls}:Jj N 167 [] ls=Ar N ls:=id rfl
theorem Qh {N ls}:Jj N 168 [] ls=Am N ls:=id rfl
def DG:=oS kP SG Jj
def eK:List Nat:=[0,0,0,0,0,0,0,0,0,0,0,0,0,0,3,0,3,3,1,3,1,0,0,0,3,0,0,0,0]
def NL (O:Alg) (x:Ags O):O.M:=(O.a [.bool (O.i (O.s (lq9 O 1) (x.I 28)) (O.s (x.I 28) (O.l (x.L 19))) O.e)])
def Xl:Nat→Env:=eL []
def CG:=oS eK NL Xl
def iU:List Nat:=[2,0,0,0,0,0,0,0,1,0,0,0,0,3,0,0,0,0,0,0,0,0,0,0,0,0,0,0,3,0,3,3,1,3,1,0,0,0,3,0,0,0,0]
def Pv (O:Alg) (x:Ags O):O.M:=let u4:=(lq9 O 0);let u2:=(O.t .i64 (x.I 42) (lq9 O 1));let u1:=(O.p (x.L 33) u2 0);let u0:=(O.t .i64 (O.ai .i64 (x.I 5) (x.I 4)) (O.ae (O.n u1 u4) u4 u1));(O.c (O.f 263 [] (xr x [0,0,0,0,0,0,0,0,0,0,0,0,0,0,3,0,3,3,1,3,1,0,0,0,3,0,0,0,0] 14)) fun c0=>let u3:=(O.g (O.k c0 0));(O.c (O.b (O.g u3) (O.f 61 [] (xr x kR 0)) (O.a [.int u4])) fun c1=>(O.b (O.i u3 O.j (O.g (O.d (O.h c1 0) u4))) (O.a [.int u4]) (O.b (O.d (x.I 5) u4) (O.a [.int (lq9 O (-1))]) (O.m (O.r u2 (O.l (x.L 33))) (O.a [.int (O.ae (O.n u0 u4) u4 u0)]))))))
def Lp:Nat→Env:=eL [(61,Ab),(263,CG)]
theorem V5 {N ls}:Lp N 61 [] ls=Ab N ls:=id rfl
theorem VN {N ls}:Lp N 263 [] ls=CG N ls:=id rfl
def LC:=oS iU Pv Lp
def km:List Nat:=[2,0,0,0,0,0,0,0,1,0,0,0,0,3,0,0,0,0,0,0,0,0,0,0,0,0,0,0,3,0,3,3,1,3,1,0,0,0,3,0,0,0,0]
def Rw (O:Alg) (x:Ags O):O.M:=let u3:=(lq9 O 0);let u1:=(O.s (x.I 42) (O.l (x.L 38)));let u0:=(O.t .i64 (x.I 42) (lq9 O 1));(O.c (O.f 263 [] (xr x [0,0,0,0,0,0,0,0,0,0,0,0,0,0,3,0,3,3,1,3,1,0,0,0,3,0,0,0,0] 14)) fun c0=>let u2:=(O.g (O.k c0 0));(O.c (O.b (O.g u2) (O.f 61 [] (xr x kR 0)) (O.a [.int u3])) fun c1=>(O.b (O.i u2 O.j (O.g (O.d (O.h c1 0) u3))) (O.a [.int (lq9 O 3)]) (O.m (O.g (O.z u1 (O.g (O.r u0 (O.l (x.L 38)))))) (O.c (O.f 264 [] (xr x [2,0,0,0,0,0,0,0,1,0,0,0,0,3,0,0,0,0,0,0,0,0,0,0,0,0,0,0,3,0,3,3,1,3,1,0,0,0,3,0,0,0,0] 0)) fun c2=>(O.b (O.i (O.i (O.d (x.I 42) (x.I 36)) O.j (O.d (x.I 42) (x.I 29))) O.j (O.i u1 (O.rB (x.L 38) u0 0) O.e)) (O.a [.int (lq9 O 7)]) (O.c (O.f 184 [] [.rows (x.L 31),.int (x.I 42)]) fun c3=>(O.b (O.k c3 0) (O.a [.int (lq9 O 8)]) (O.b (O.i (O.g (O.d (O.h c2 0) (lq9 O (-1)))) (O.n (x.I 25) (O.t .i64 (x.I 4) (O.h c2 0))) O.e) (O.a [.int (lq9 O 9)]) (O.a [.int u3]))))))))))
def GS:Nat→Env:=eL [(61,Ab),(184,Ay),(263,CG),(264,LC)]
theorem Wv {N ls}:GS N 61 [] ls=Ab N ls:=id rfl
theorem Om {N ls}:GS N 184 [] ls=Ay N ls:=id rfl
theorem Wk {N ls}:GS N 263 [] ls=CG N ls:=id rfl
theorem Yp {N ls}:GS N 264 [] ls=LC N ls:=id rfl
def Mt:=oS km Rw GS
def fL:List Nat:=[2,0,0,0,0,0,0,0,1,0,0,0,0,3,0,0,0,0,0,0,0,0,0,0,0,0,0,0,3,0,3,3,1,3,1,0,0,0,3,0,0,0,0]
def QP (O:Alg) (x:Ags O):O.M:=(O.c (O.f 237 [] (xr x kI 14)) fun c0=>(O.c (O.f 238 [] (xr x [2,0,0,0,0,0,0,0,1,0,0,0,0,3,0,0,0,0,0,0,0,0,0,0,0,0,0,0,3,0,3,3,1,3,1,0,0,0,3,0,0,0,0] 0)) fun c1=>let u0:=(O.h c1 0);(O.b (O.d u0 (lq9 O 0)) (O.a (ap O (cr O c0 [0,0,0,0,0,0,0,0,0,0,0,0,0,0,3] 0) (ap O [.int (x.I 42)] (ap O (cr O c0 [3,3,1,3,1,0,0,0,3,0,0,0] 16) [.int u0])))) (O.a (ap O (cr O c0 kI 0) [.int u0])))))
def MA:Nat→Env:=eL [(237,DG),(238,Mt)]
theorem YU {N ls}:MA N 237 [] ls=DG N ls:=id rfl
theorem Yr {N ls}:MA N 238 [] ls=Mt N ls:=id rfl
def LL:=oS fL QP MA
def Q2:List Nat:=[0,0,0,0,0,1,0,0,0,0,1,0]
def GA (O:Alg) (x:Ags O):O.M:=let u3:=(lq9 O 0);let u2:=(O.d (x.I 4) u3);let u1:=(O.d (x.I 2) u3);let u0:=(O.g (O.d (x.I 4) (lq9 O 6)));(O.b (O.d (x.I 0) (O.lit .u8 2)) (O.a [.bool (O.i (O.d (x.I 1) (O.lit .u8 0)) u0 O.e)]) (O.b (O.d (x.I 1) (O.lit .u8 0)) (O.a [.bool (O.i u1 u2 O.e)]) (O.b (O.d (x.I 1) (O.lit .u8 1)) (O.a [.bool (O.i u0 O.j u1)]) (O.a [.bool (O.i u0 (O.i (O.n u3 (x.I 2)) O.j (O.g u2)) O.e)]))))
def OY:Nat→Env:=eL []
def D4:=oS Q2 GA OY
def V3:List Nat:=[0,0,0,0,0,1,0,0,0,0,1,0]
def JB (O:Alg) (x:Ags O):O.M:=let u3:=(lq9 O 0);let u2:=(lq9 O 11);let u1:=(O.d (x.I 4) u3);let u0:=(O.g u1);(O.b (O.i (O.i (O.i (O.i (O.i (O.n (x.I 0) (O.lit .u8 1)) O.j (O.n (O.lit .u8 3) (x.I 0))) O.j (O.n (O.lit .u8 3) (x.I 1))) O.j (O.n (O.lit .u8 10) (x.I 6))) O.j (O.n (x.I 11) u3)) O.j (O.n (lq9 O 8) (x.I 11))) (O.a [.int u2]) (O.b (O.i (O.i (O.i (O.i (O.n (x.I 2) u3) O.j (O.n (lq9 O 7) (x.I 2))) O.j (O.n (x.I 3) u3)) O.j (O.n (x.I 2) (x.I 3))) O.j (O.i (O.i u0 (O.g (O.d (x.I 4) (lq9 O 4))) O.e) (O.g (O.d (x.I 4) (lq9 O 6))) O.e)) (O.a [.int (lq9 O 12)]) (O.c (O.f 103 [] (xr x [0,0,0,0,0,1,0,0,0,0,1,0] 0)) fun c0=>(O.b (O.i (O.g (O.k c0 0)) O.j (O.i (O.i (O.i (O.g (O.d (x.I 0) (O.lit .u8 2))) (O.d (x.I 1) (O.lit .u8 1)) O.e) (O.d (x.I 2) u3) O.e) u1 O.e)) (O.a [.int u2]) (O.b (O.i (O.i (O.g (O.d (x.I 11) u3)) (O.g (O.d (x.I 1) (O.lit .u8 1))) O.e) (O.g (O.d (x.I 6) (O.lit .u8 2))) O.e) (O.a [.int u2]) (O.b (O.i u0 (O.g (O.d (x.I 6) (O.lit .u8 0))) O.e) (O.a [.int u2]) (O.b (O.i (O.i (x.B 5) (O.g (O.d (x.I 6) (O.lit .u8 6))) O.e) (O.g (O.d (x.I 6) (O.lit .u8 8))) O.e) (O.a [.int u2]) (O.a [.int u3]))))))))
def Kl:Nat→Env:=eL [(103,D4)]
theorem MM {N ls}:Kl N 103 [] ls=D4 N ls:=id rfl
def Co:=oS V3 JB Kl
def Qu:List Nat:=[0]
def F6 (O:Alg) (x:Ags O):O.M:=(O.a [.bool (O.i (O.s (O.lit .u8 1) (x.I 0)) (O.s (x.I 0) (O.lit .u8 5)) O.e)])
def OS:Nat→Env:=eL []
def D3:=oS Qu F6 OS
def T6:List Nat:=[2,0,0,0,0,0,0,0,1,0,0,0,0,3,0,0,0,0,0,1,0,0,0,0,1,0]
def Hd (O:Alg) (x:Ags O):O.M:=let u2:=(lq9 O 0);let u1:=(O.q .i64 (O.t .i64 (x.I 16) (x.I 17)) (x.I 18));(O.c (O.f 87 [] (xr x [0,0,0,0,0,1,0,0,0,0,1,0] 14)) fun c0=>(O.b (O.g (O.d (O.h c0 0) u2)) (O.a [.int u2,.int u2,.int u2,.int u2,.int u2,.int u2,.bool O.e,.bool O.e,.bool O.e,.bool O.e]) (O.c (O.f 88 [] [.int (x.I 20)]) fun c1=>let u3:=(O.k c1 0);(O.c (O.b (x.B 19) (O.a [.int (O.q .i64 (x.I 16) (lq9 O 1))]) (O.a [.int (x.I 16)])) fun c2=>let u0:=(O.d (O.ap .i64 (O.h c2 0) (lq9 O 2)) (lq9 O 1));(O.c (O.b (O.d (x.I 14) (O.lit .u8 2)) (O.a [.int u2,.int (O.q .i64 (x.I 6) u1),.int u2,.int u2,.int u2,.int u2,.bool (O.d (x.I 14) (O.lit .u8 1)),.bool (O.g (O.d (x.I 14) (O.lit .u8 2))),.bool u3,.bool u0]) (O.b (O.d (x.I 14) (O.lit .u8 3)) (O.a [.int u2,.int u2,.int (x.I 7),.int u2,.int u2,.int u2,.bool (O.d (x.I 14) (O.lit .u8 1)),.bool (O.g (O.d (x.I 14) (O.lit .u8 2))),.bool u3,.bool u0]) (O.a [.int u2,.int u2,.int u2,.int u2,.int u2,.int u2,.bool (O.d (x.I 14) (O.lit .u8 1)),.bool (O.g (O.d (x.I 14) (O.lit .u8 2))),.bool u3,.bool u0]))) fun c3=>(O.c (O.b (O.g (O.d (x.I 14) (O.lit .u8 2))) (O.b (O.d (x.I 15) (O.lit .u8 1)) (O.a (ap O [.int u1] (cr O c3 [0,0,0,0,0,1,1,1,1] 1))) (O.b (O.d (x.I 15) (O.lit .u8 2)) (O.a (ap O (cr O c3 [0,0,0] 0) (ap O [.int u1] (cr O c3 [0,0,1,1,1,1] 4)))) (O.b (O.d (x.I 15) (O.lit .u8 3)) (O.a (ap O (cr O c3 [0,0,0,0] 0) (ap O [.int u1] (cr O c3 [0,1,1,1,1] 5)))) (O.a (cr O c3 [0,0,0,0,0,0,1,1,1,1] 0))))) (O.a (cr O c3 [0,0,0,0,0,0,1,1,1,1] 0))) fun c4=>(O.a (ap O (cr O c4 [0,0,0,0,0] 0) (ap O [.int (O.q .i64 (O.q .i64 (O.h c4 0) (O.h c4 1)) (O.h c4 2))] (cr O c4 [1,1,1,1] 6))))))))))
def F5:Nat→Env:=eL [(87,Co),(88,D3)]
theorem OA {N ls}:F5 N 87 [] ls=Co N ls:=id rfl
theorem Lj {N ls}:F5 N 88 [] ls=D3 N ls:=id rfl
def CV:=oS T6 Hd F5
def WT:List Nat:=[0,0,0,0,0,0,1,1,1,1]
def WO (O:Alg) (x:Ags O):O.M:=(O.a [.int (O.q .i64 (O.q .i64 (O.q .i64 (O.q .i64 (x.I 0) (x.I 1)) (x.I 2)) (x.I 3)) (x.I 4))])
def iS:Nat→Env:=eL []
def Fq:=oS WT WO iS
def Xh:List Nat:=[0,0,0,0,0,0,0,0,0,0,0,0,0,0,3,0,3,3,1,3,1,0,0,0,3,0,0,0]
def Ed (O:Alg) (x:Ags O):O.M:=(O.c (O.f 235 [] (xr x kI 0)) fun c0=>(O.a [.bool (O.i (O.k c0 0) (O.i (O.d (x.I 12) (lq9 O 0)) O.j (O.d (x.I 13) (lq9 O 0))) O.e)]))
def E3:Nat→Env:=eL [(235,CS)]
theorem Q8 {N ls}:E3 N 235 [] ls=CS N ls:=id rfl
def BX:=oS Xh Ed E3
def eI:List Nat:=[0,0,0,0,0,0,0,0,0,0,0,0,0,0,3,0,3,3,1,3,1,0,0,0,3,0,0,0,0]
def Nq (O:Alg) (x:Ags O):O.M:=(O.a [.bool (O.i (O.s (lq9 O 1) (x.I 28)) (O.s (x.I 28) (O.l (x.L 24))) O.e)])
def Xx:Nat→Env:=eL []
def BD:=oS eI Nq Xx
def WU:List Nat:=[0,0,0,0,0,0,0,0,0,0,0,0,0,0,3,0,3,3,1,3,1,0,0,0,3,0,0,0,0]
def JH (O:Alg) (x:Ags O):O.M:=let u0:=(O.t .i64 (x.I 28) (lq9 O 1));(O.c (O.f 246 [] (xr x [0,0,0,0,0,0,0,0,0,0,0,0,0,0,3,0,3,3,1,3,1,0,0,0,3,0,0,0,0] 0)) fun c0=>(O.m (O.g (O.z (O.k c0 0) (O.g (O.r u0 (O.l (x.L 24)))))) (O.a [.bool (O.i (O.k c0 0) (O.rB (x.L 24) u0 0) O.e)])))
def LJ:Nat→Env:=eL [(246,BD)]
theorem RW {N ls}:LJ N 246 [] ls=BD N ls:=id rfl
def BA:=oS WU JH LJ
def XG:List Nat:=[2,0,0,0,0,0,0,0,1,0,0,0,0,3,0]
def KR (O:Alg) (x:Ags O):O.M:=let u1:=(lq9 O 1);let u0:=(O.q .i64 (x.I 14) u1);(O.c (O.x (fun s0 c0=>let u2:=(O.h c0 0);(O.b (O.n u2 (O.l (x.L 13))) (O.m (O.r u2 (O.l (x.L 13))) (O.b (O.i (O.s (O.p (x.L 13) u2 0) u0) (O.s u0 (O.p (x.L 13) u2 1)) O.e) (O.a [.int (lq9 O 0),.int (O.p (x.L 13) u2 2)]) (s0 [.int (O.q .i64 u2 u1)]))) (O.a [.int u1]))) [.int (lq9 O 0)]) fun c0=>(O.b (O.ac c0 0) (O.a [.int (O.h c0 1)]) (O.a [.int (x.I 12)])))
def UD:Nat→Env:=eL []
def Gw:=oS XG KR UD
def eD:List Nat:=[2,0,0,0,0,0,0,0,1,0,0,0,0,3,0,0,0,0,0,0,0,0,0,0,0,0,0,0,3,0,3,3,1,3,1,0,0,0,3,0,0,0]
def NO (O:Alg) (x:Ags O):O.M:=(O.c (O.f 246 [] (ap O (xr x kI 14) [.int (x.I 36)])) fun c0=>let u0:=(O.g (O.k c0 0));(O.c (O.b (O.g u0) (O.f 247 [] (ap O (xr x kI 14) [.int (x.I 36)])) (O.a [.bool O.e])) fun c1=>(O.b (O.i (O.i u0 O.j (O.k c1 0)) O.j (O.d (x.I 36) (x.I 29))) (O.a [.int (lq9 O 17)]) (O.c (O.f 275 [] (ap O (xr x kR 0) [.int (x.I 24)])) fun c2=>(O.b (O.n (O.h c2 0) (x.I 37)) (O.a [.int (lq9 O 16)]) (O.a [.int (lq9 O 0)]))))))
def G6:Nat→Env:=eL [(246,BD),(247,BA),(275,Gw)]
theorem Ur {N ls}:G6 N 246 [] ls=BD N ls:=id rfl
theorem RF {N ls}:G6 N 247 [] ls=BA N ls:=id rfl
theorem Sm {N ls}:G6 N 275 [] ls=Gw N ls:=id rfl
def JL:=oS eD NO G6
def UC:List Nat:=[]
def UB (O:Alg) (x:Ags O):O.M:=(O.a [.rows (O.y [[.int (O.lit .u8 0),.str (O.u ⟨#[78,79,84,79,85,84]⟩),.bool O.e,.bool O.e,.bool O.e,.bool O.e,.bool O.e],[.int (O.lit .u8 1),.str (O.u ⟨#[66,79,87,76,69,68]⟩),.bool O.j,.bool O.e,.bool O.e,.bool O.e,.bool O.e],[.int (O.lit .u8 2),.str (O.u ⟨#[67,65,85,71,72,84]⟩),.bool O.j,.bool O.e,.bool O.e,.bool O.j,.bool O.e],[.int (O.lit .u8 3),.str (O.u ⟨#[76,66,87]⟩),.bool O.j,.bool O.e,.bool O.e,.bool O.e,.bool O.e],[.int (O.lit .u8 4),.str (O.u ⟨#[83,84,85,77,80,69,68]⟩),.bool O.j,.bool O.j,.bool O.e,.bool O.j,.bool O.e],[.int (O.lit .u8 5),.str (O.u ⟨#[72,73,84,87,73,67,75,69,84]⟩),.bool O.j,.bool O.j,.bool O.e,.bool O.e,.bool O.e],[.int (O.lit .u8 6),.str (O.u ⟨#[82,85,78,79,85,84]⟩),.bool O.j,.bool O.j,.bool O.j,.bool O.j,.bool O.j],[.int (O.lit .u8 7),.str (O.u ⟨#[72,73,84,84,87,73,67,69]⟩),.bool O.j,.bool O.e,.bool O.j,.bool O.e,.bool O.e],[.int (O.lit .u8 8),.str (O.u ⟨#[79,66,83,84,82,85,67,84,73,78,71]⟩),.bool O.j,.bool O.j,.bool O.j,.bool O.e,.bool O.j],[.int (O.lit .u8 9),.str (O.u ⟨#[84,73,77,69,68,79,85,84]⟩),.bool O.e,.bool O.e,.bool O.e,.bool O.e,.bool O.e],[.int (O.lit .u8 10),.str (O.u ⟨#[82,69,84,73,82,69,68]⟩),.bool O.e,.bool O.e,.bool O.e,.bool O.e,.bool O.e]])])
def eZ:Nat→Env:=eL []
def B3:=oS UC UB eZ
def ZK:List Nat:=[0]
def ME (O:Alg) (x:Ags O):O.M:=(O.c (O.f 99 [] []) fun c0=>let u2:=(O.o c0 0);let u0:=(O.l u2);(O.c (O.x (fun s1 c1=>let u1:=(O.h c1 0);(O.b (O.n u1 u0) (O.m (O.r u1 u0) (O.b (O.d (O.p u2 u1 0) (x.I 0)) (O.a (ap O [.int (lq9 O 0)] (rr O u2 u1 [0,2,1,1,1,1,1] 0))) (s1 [.int (O.q .i64 u1 (lq9 O 1))]))) (O.a [.int (lq9 O 1)]))) [.int (lq9 O 0)]) fun c1=>(O.b (O.ac c1 0) (O.a (cr O c1 [0,2,1,1,1,1,1] 1)) (O.a [.int (O.lit .u8 0),.str (O.u ⟨#[]⟩),.bool O.e,.bool O.e,.bool O.e,.bool O.e,.bool O.e]))))
def N3:Nat→Env:=eL [(99,B3)]
theorem P4 {N ls}:N3 N 99 [] ls=B3 N ls:=id rfl
def D7:=oS ZK ME N3
def S1:List Nat:=[3,0]
def Gp (O:Alg) (x:Ags O):O.M:=(O.c (O.x (fun s0 c0=>let u0:=(O.h c0 0);(O.b (O.n u0 (O.l (x.L 0))) (O.m (O.r u0 (O.l (x.L 0))) (O.b (O.d (x.I 1) (O.p (x.L 0) u0 0)) (O.a [.int (lq9 O 0),.int u0]) (s0 [.int (O.q .i64 u0 (lq9 O 1))]))) (O.a [.int (lq9 O 1)]))) [.int (lq9 O 0)]) fun c0=>(O.b (O.ac c0 0) (O.a [.int (O.h c0 1)]) (O.a [.int (lq9 O (-1))])))
def Pl:Nat→Env:=eL []
def EO:=oS S1 Gp Pl
def OW:List Nat:=[3,0]
def Ej (O:Alg) (x:Ags O):O.M:=(O.c (O.f 279 [] [.rows (x.L 0),.int (x.I 1)]) fun c0=>(O.a [.bool (O.s (lq9 O 0) (O.h c0 0))]))
def GJ:Nat→Env:=eL [(279,EO)]
theorem Jz {N ls}:GJ N 279 [] ls=EO N ls:=id rfl
def DV:=oS OW Ej GJ
def ST:List Nat:=[0,2,1,1,1,1,1,0]
def G7 (O:Alg) (x:Ags O):O.M:=(O.a [.bool (O.i (O.i (O.i (O.d (x.I 7) (O.lit .u8 1)) (x.B 2) O.e) O.j (O.i (O.d (x.I 7) (O.lit .u8 2)) (x.B 3) O.e)) O.j (O.i (O.d (x.I 7) (O.lit .u8 3)) (x.B 4) O.e))])
def P1:Nat→Env:=eL []
def EN:=oS ST G7 P1
def WN:List Nat:=[0,1]
def I7 (O:Alg) (x:Ags O):O.M:=(O.c (O.f 99 [] []) fun c0=>let u5:=(O.o c0 0);let u3:=(O.l u5);(O.c (O.x (fun s1 c1=>let u6:=(O.o c1 0);let u4:=(O.h c1 1);let u2:=(O.p u5 u4 0);let u1:=(O.q .i64 u4 (lq9 O 1));let u0:=(O.ab u6 (O.y [[.int u2]]));(O.b (O.n u4 u3) (O.m (O.r u4 u3) (O.c (O.f 280 [] (ap O (rr O u5 u4 [0,2,1,1,1,1,1] 0) [.int (x.I 0)])) fun c2=>(O.b (O.i (O.k c2 0) (O.i (O.i (O.i (O.g (x.B 1)) O.j (O.d u2 (O.lit .u8 6))) O.j (O.d u2 (O.lit .u8 7))) O.j (O.d u2 (O.lit .u8 8))) O.e) (O.m (O.w (O.l u0) 1) (s1 [.rows u0,.int u1])) (s1 [.rows u6,.int u1])))) (O.a [.rows u6]))) [.rows O.v,.int (lq9 O 0)]) fun c1=>(O.a [.rows (O.o c1 0)])))
def G0:Nat→Env:=eL [(99,B3),(280,EN)]
theorem N7 {N ls}:G0 N 99 [] ls=B3 N ls:=id rfl
theorem Mz {N ls}:G0 N 280 [] ls=EN N ls:=id rfl
def Ft:=oS WN I7 G0
def Mx:List Nat:=[0]
def EC (O:Alg) (x:Ags O):O.M:=(O.a [.bool (O.i (O.s (lq9 O 1) (x.I 0)) (O.s (x.I 0) (lq9 O 11)) O.e)])
def Kh:Nat→Env:=eL []
def DH:=oS Mx EC Kh
def Qe:List Nat:=[0,0,0,0,0,1,0,0,0,0,1,0,0,2,1,1,1,1,1]
def FJ (O:Alg) (x:Ags O):O.M:=let u0:=(O.d (x.I 9) (lq9 O 0));(O.c (O.f 281 [] [.int (x.I 8)]) fun c0=>(O.b (O.i (O.g (O.aj (x.B 17) (O.k c0 0))) O.j (O.i (O.g (x.B 17)) (O.g (O.d (x.I 8) (lq9 O 0))) O.e)) (O.a [.bool O.e]) (O.c (O.b (O.z (O.g u0) (O.d (x.I 6) (O.lit .u8 6))) (O.f 281 [] [.int (x.I 9)]) (O.a [.bool O.e])) fun c1=>(O.a [.bool (O.i u0 O.j (O.i (O.i (O.d (x.I 6) (O.lit .u8 6)) (O.k c1 0) O.e) (O.g (O.d (x.I 9) (x.I 8))) O.e))]))))
def HC:Nat→Env:=eL [(281,DH)]
theorem Ia {N ls}:HC N 281 [] ls=DH N ls:=id rfl
def Dk:=oS Qe FJ HC
def PO:List Nat:=[0,0,0,0,0,1,0,0,0,0,1,0,1]
def FH (O:Alg) (x:Ags O):O.M:=let u0:=(lq9 O 0);(O.b (O.d (x.I 6) (O.lit .u8 0)) (O.b (O.g (O.d (x.I 7) u0)) (O.a [.int (lq9 O 14)]) (O.b (O.i (O.i (O.g (O.d (x.I 8) u0)) O.j (O.g (O.d (x.I 9) u0))) O.j (x.B 10)) (O.a [.int (lq9 O 15)]) (O.a [.int u0]))) (O.c (O.f 75 [] [.int (x.I 6)]) fun c0=>(O.c (O.f 277 [] [.int (x.I 0),.bool (x.B 12)]) fun c1=>(O.c (O.f 276 [] [.rows (O.o c1 0),.int (x.I 6)]) fun c2=>(O.b (O.g (O.k c2 0)) (O.a [.int (lq9 O 13)]) (O.b (O.i (O.g (O.i (O.d (x.I 6) (O.lit .u8 6)) O.j (O.d (x.I 6) (O.lit .u8 8)))) (O.i (O.g (O.d (x.I 1) (O.lit .u8 0))) O.j (O.g (O.d (x.I 2) u0))) O.e) (O.a [.int (lq9 O 12)]) (O.b (O.i (O.g (O.d (x.I 7) (lq9 O 1))) (O.i (O.g (O.d (x.I 7) (lq9 O 2))) O.j (O.g (O.k c0 6))) O.e) (O.a [.int (lq9 O 14)]) (O.c (O.f 278 [] (ap O (xr x [0,0,0,0,0,1,0,0,0,0,1,0] 0) (cr O c0 [0,2,1,1,1,1,1] 0))) fun c3=>(O.b (O.g (O.k c3 0)) (O.a [.int (lq9 O 15)]) (O.b (O.i (O.i (x.B 10) (O.g (O.d (x.I 6) (O.lit .u8 2))) O.e) (O.g (O.d (x.I 6) (O.lit .u8 6))) O.e) (O.a [.int (lq9 O 18)]) (O.a [.int u0])))))))))))
def CT:Nat→Env:=eL [(75,D7),(276,DV),(277,Ft),(278,Dk)]
theorem MX {N ls}:CT N 75 [] ls=D7 N ls:=id rfl
theorem JJ {N ls}:CT N 276 [] ls=DV N ls:=id rfl
theorem Li {N ls}:CT N 277 [] ls=Ft N ls:=id rfl
theorem JW {N ls}:CT N 278 [] ls=Dk N ls:=id rfl
def Dd:=oS PO FH CT
def eM:List Nat:=[0,0,0,0,0,0,0,0,0,0,0,0,0,0,3,0,3,3,1,3,1,0,0,0,3,0,0,0,0,0,0,0,0,1,0,0,0,0,1,0]
def NA (O:Alg) (x:Ags O):O.M:=let u1:=(lq9 O 1);let u0:=(lq9 O 0);(O.c (O.b (O.n u0 (x.I 36)) (O.c (O.f 246 [] (ap O (xr x kI 0) [.int (x.I 36)])) fun c0=>(O.b (O.g (O.k c0 0)) (O.a [.int u1,.int (lq9 O 3)]) (O.c (O.f 247 [] (ap O (xr x kI 0) [.int (x.I 36)])) fun c1=>(O.b (O.g (O.aj (x.B 38) (O.k c1 0))) (O.a [.int u1,.int (lq9 O 18)]) (O.a [.int u0]))))) (O.a [.int u0])) fun c0=>(O.b (O.ac c0 0) (O.c (O.b (O.n u0 (x.I 37)) (O.c (O.f 246 [] (ap O (xr x kI 0) [.int (x.I 37)])) fun c1=>(O.b (O.g (O.k c1 0)) (O.a [.int u1,.int (lq9 O 3)]) (O.c (O.f 247 [] (ap O (xr x kI 0) [.int (x.I 37)])) fun c2=>(O.b (O.k c2 0) (O.a [.int u1,.int (lq9 O 18)]) (O.a [.int u0]))))) (O.a [.int u0])) fun c1=>(O.b (O.ac c1 0) (O.b (O.i (O.d (x.I 34) (O.lit .u8 4)) (O.g (O.d (O.ae (O.n (x.I 36) u0) u0 (x.I 36)) (x.I 22))) O.e) (O.a [.int (lq9 O 17)]) (O.a [.int u0])) (O.a [.int (O.h c1 1)]))) (O.a [.int (O.h c0 1)])))
def KN:Nat→Env:=eL [(246,BD),(247,BA)]
theorem Ug {N ls}:KN N 246 [] ls=BD N ls:=id rfl
theorem Q5 {N ls}:KN N 247 [] ls=BA N ls:=id rfl
def JT:=oS eM NA KN
def Tm:List Nat:=[2,0,0,0,0,0,0,0,1,0,0,0,0,3,0,0,0,0,0,0,0,0,0,0,0,0,0,0,3,0,3,3,1,3,1,0,0,0,3,0,0,0,0,0,0,0,0,1,0,0,0,0,1,0]
def Ha (O:Alg) (x:Ags O):O.M:=let u3:=(lq9 O 0);(O.c (O.f 217 [] (xr x kI 14)) fun c0=>(O.b (O.k c0 0) (O.a [.int (lq9 O 6)]) (O.b (O.d (x.I 29) u3) (O.a [.int (lq9 O 7)]) (O.c (O.f 265 [] (xr x [2,0,0,0,0,0,0,0,1,0,0,0,0,3,0,0,0,0,0,0,0,0,0,0,0,0,0,0,3,0,3,3,1,3,1,0,0,0,3,0,0,0] 0)) fun c1=>(O.c (O.f 87 [] (xr x [0,0,0,0,0,1,0,0,0,0,1,0] 42)) fun c2=>(O.c (O.f 266 [] (ap O (xr x [0,0,0,0,0,1,0,0,0,0,1,0] 42) [.bool (x.B 34)])) fun c3=>(O.c (O.f 267 [] (xr x [0,0,0,0,0,0,0,0,0,0,0,0,0,0,3,0,3,3,1,3,1,0,0,0,3,0,0,0,0,0,0,0,0,1,0,0,0,0,1,0] 14)) fun c4=>let u2:=(O.y [[.int (O.h c1 0)],[.int (O.h c2 0)],[.int (O.h c3 0)],[.int (O.h c4 0)]]);let u1:=(O.l u2);(O.c (O.x (fun s5 c5=>let u4:=(O.h c5 0);let u0:=(O.p u2 u4 0);(O.b (O.n u4 u1) (O.m (O.r u4 u1) (O.b (O.g (O.d u0 u3)) (O.a [.int u3,.int u0]) (s5 [.int (O.q .i64 u4 (lq9 O 1))]))) (O.a [.int (lq9 O 1)]))) [.int u3]) fun c5=>(O.b (O.ac c5 0) (O.a [.int (O.h c5 1)]) (O.a [.int u3]))))))))))
def CY:Nat→Env:=eL [(87,Co),(217,BX),(265,JL),(266,Dd),(267,JT)]
theorem N0 {N ls}:CY N 87 [] ls=Co N ls:=id rfl
theorem Oo {N ls}:CY N 217 [] ls=BX N ls:=id rfl
theorem Qf {N ls}:CY N 265 [] ls=JL N ls:=id rfl
theorem Km {N ls}:CY N 266 [] ls=Dd N ls:=id rfl
theorem Qk {N ls}:CY N 267 [] ls=JT N ls:=id rfl
def FB:=oS Tm Ha CY
def gP:List Nat:=[0,0,0,0,0,0,0,0,0,0,0,0,0,0,3,0,3,3,1,3,1,0,0,0,3,0,0,0,0,0,0,0,0,1,0,0,0,0,1,0]
def PY (O:Alg) (x:Ags O):O.M:=let u5:=(lq9 O 2);let u4:=(lq9 O 1);let u3:=(lq9 O 0);let u1:=(O.g (O.d (O.ap .i64 (x.I 30) u5) u3));(O.c (O.f 234 [] (xr x kI 0)) fun c0=>(O.c (O.b (O.g (O.d (x.I 34) (O.lit .u8 0))) (O.b (O.i (O.d (x.I 35) u4) (O.g (O.d (x.I 12) u3)) O.e) (O.a [.int u4,.int (x.I 12)]) (O.b (O.i (O.d (x.I 35) u5) (O.g (O.d (x.I 13) u3)) O.e) (O.a [.int u5,.int (x.I 13)]) (O.a [.int u3,.int u3]))) (O.a [.int u3,.int u3])) fun c1=>let u7:=(O.h c1 1);let u2:=(O.t .i64 u7 u4);(O.c (O.b (x.B 33) (O.a [.bool (O.g u1)]) (O.a [.bool u1])) fun c2=>(O.c (O.b (O.k c2 0) (O.a (ap O (cr O c0 [0,0,0,0,0,0,0,0,0,0,0,0] 0) (ap O [.int (O.h c0 13),.int (O.h c0 12)] (cr O c0 [3,0,3,3,1,3,1,0,0,0,3,0,0,0] 14)))) (O.a (cr O c0 kI 0))) fun c3=>let u6:=(O.o c3 14);let u0:=(O.r u2 (O.l u6));(O.b (O.d (O.h c1 0) u3) (O.a (cr O c3 kI 0)) (O.b (O.g (O.aj (O.d (O.h c1 0) u4) (O.k c2 0))) (O.c (O.f 236 [] (ap O (cr O c3 [0,0,0,0,0,0,0,0,0,0,0,0] 0) (ap O [.int u3] (ap O (cr O c3 [0,3,0,3,3,1,3,1,0,0,0,3,0,0,0] 13) [.int u7])))) fun c4=>(O.c (O.b (O.k c4 0) (O.m u0 (O.a (ap O (cr O c3 [0,0,0,0,0,0,0,0,0,0,0,0] 0) (ap O [.int u3,.int (O.h c3 13),.rows (O.aa u6 u2 0 [.int (O.lit .u8 2)])] (cr O c3 [0,3,3,1,3,1,0,0,0,3,0,0,0] 15))))) (O.a (ap O (cr O c3 [0,0,0,0,0,0,0,0,0,0,0,0] 0) (ap O [.int u3] (cr O c3 [0,3,0,3,3,1,3,1,0,0,0,3,0,0,0] 13))))) fun c5=>(O.a (ap O (cr O c5 [0,0,0,0] 0) (ap O [.int (O.q .i64 (O.h c5 4) u4)] (cr O c5 [0,0,0,0,0,0,0,0,0,3,0,3,3,1,3,1,0,0,0,3,0,0,0] 5)))))) (O.c (O.f 236 [] (ap O (cr O c3 [0,0,0,0,0,0,0,0,0,0,0,0,0] 0) (ap O [.int u3] (ap O (cr O c3 [3,0,3,3,1,3,1,0,0,0,3,0,0,0] 14) [.int u7])))) fun c4=>(O.c (O.b (O.k c4 0) (O.m u0 (O.a (ap O (cr O c3 [0,0,0,0,0,0,0,0,0,0,0,0,0] 0) (ap O [.int u3,.rows (O.aa u6 u2 0 [.int (O.lit .u8 2)])] (cr O c3 [0,3,3,1,3,1,0,0,0,3,0,0,0] 15))))) (O.a (ap O (cr O c3 [0,0,0,0,0,0,0,0,0,0,0,0,0] 0) (ap O [.int u3] (cr O c3 [3,0,3,3,1,3,1,0,0,0,3,0,0,0] 14))))) fun c5=>(O.a (ap O (cr O c5 [0,0,0,0] 0) (ap O [.int (O.q .i64 (O.h c5 4) u4)] (cr O c5 [0,0,0,0,0,0,0,0,0,3,0,3,3,1,3,1,0,0,0,3,0,0,0] 5))))))))))))
def Ly:Nat→Env:=eL [(234,A6),(236,A9)]
theorem Wy {N ls}:Ly N 234 [] ls=A6 N ls:=id rfl
theorem Ux {N ls}:Ly N 236 [] ls=A9 N ls:=id rfl
def LY:=oS gP PY Ly
def iY:List Nat:=[2,0,0,0,0,0,0,0,1,0,0,0,0,3,0,0,0,0,0,0,0,0,0,0,0,0,0,0,3,0,3,3,1,3,1,0,0,0,3,0,0,0,1]
def QG (O:Alg) (x:Ags O):O.M:=let u5:=(lq9 O 0);let u4:=(lq9 O 1);let u2:=(O.t .i64 (x.I 29) u4);(O.c (O.f 237 [] (xr x kI 14)) fun c0=>let u1:=(O.ab (O.o c0 16) (O.y [[.int (x.I 29)]]));(O.c (O.f 263 [] (ap O (xr x kI 14) [.int (x.I 29)])) fun c1=>let u3:=(O.g (O.k c1 0));(O.c (O.b (O.g u3) (O.f 61 [] (xr x kR 0)) (O.a [.int u5])) fun c2=>(O.b (O.i u3 O.j (O.g (O.d (O.h c2 0) u5))) (O.a (ap O (cr O c0 kI 0) [.bool O.e])) (O.c (O.f 184 [] [.rows (O.o c0 16),.int (x.I 29)]) fun c3=>(O.c (O.b (O.g (O.k c3 0)) (O.m (O.w (O.l u1) 8) (O.a (ap O (cr O c0 [0,0,0,0,0,0,0,0,0,0,0,0,0,0,3,0] 0) (ap O [.rows u1] (cr O c0 [3,1,3,1,0,0,0,3,0,0,0] 17))))) (O.a (cr O c0 kI 0))) fun c4=>let u6:=(O.o c4 19);let u0:=(O.r u2 (O.l u6));(O.c (O.b (x.B 42) (O.m u0 (O.m u0 (O.a (ap O (cr O c4 [0,0,0,0,0,0,0,0,0,0,0] 0) (ap O [.int (O.q .i64 (O.h c4 11) u4)] (ap O (cr O c4 [0,0,3,0,3,3,1] 12) (ap O [.rows (O.aa u6 u2 0 [.int (O.q .i64 (O.p u6 u2 0) u4)]),.bool (O.k c4 20),.int (O.q .i64 (O.h c4 21) u4)] (cr O c4 [0,0,3,0,0,0] 22)))))))) (O.a (cr O c4 kI 0))) fun c5=>(O.b (O.n (O.h c5 11) (x.I 4)) (O.a (ap O (cr O c5 kI 0) [.bool O.e])) (O.a (ap O (cr O c5 [0,0,0,0,0,0,0,0,0,0] 0) (ap O [.int (O.q .i64 (O.h c5 10) u4),.int u5] (ap O (cr O c5 [0,0,3] 12) (ap O [.int u5,.rows O.v,.rows (O.o c5 16)] (ap O (cr O c5 [1,3,1,0,0,0,3,0,0,0] 18) [.bool O.j]))))))))))))))
def FZ:Nat→Env:=eL [(61,Ab),(184,Ay),(237,DG),(263,CG)]
theorem Vx {N ls}:FZ N 61 [] ls=Ab N ls:=id rfl
theorem N6 {N ls}:FZ N 184 [] ls=Ay N ls:=id rfl
theorem Yd {N ls}:FZ N 237 [] ls=DG N ls:=id rfl
theorem V4 {N ls}:FZ N 263 [] ls=CG N ls:=id rfl
def Kg:=oS iY QG FZ
def Xp:List Nat:=[0,0,0,0,0,0,0,0,0,0,0,0,0,0,3,0,3,3,1,3,1,0,0,0,3,0,0,0]
def Kc (O:Alg) (x:Ags O):O.M:=(O.c (O.f 234 [] (xr x kI 0)) fun c0=>(O.a (ap O (cr O c0 [0,0,0,0,0,0,0,0,0,0,0,0] 0) (ap O [.int (x.I 13),.int (x.I 12)] (cr O c0 [3,0,3,3,1,3,1,0,0,0,3,0,0,0] 14)))))
def MQ:Nat→Env:=eL [(234,A6)]
theorem TP {N ls}:MQ N 234 [] ls=A6 N ls:=id rfl
def Ga:=oS Xp Kc MQ
def aG:List Nat:=[2,0,0,0,0,0,0,0,1,0,0,0,0,3,0,0,0,0,0,0,0,0,0,0,0,0,0,0,3,0,3,3,1,3,1,0,0,0,3,0,0,0,0,0,0,0,0,1,0,0,0,0,1,0]
def Lu (O:Alg) (x:Ags O):O.M:=let u0:=(lq9 O 0);(O.c (O.f 239 [] (xr x [2,0,0,0,0,0,0,0,1,0,0,0,0,3,0,0,0,0,0,0,0,0,0,0,0,0,0,0,3,0,3,3,1,3,1,0,0,0,3,0,0,0,0,0,0,0,0,1,0,0,0,0,1,0] 0)) fun c0=>(O.b (O.g (O.d (O.h c0 0) u0)) (O.c (O.f 134 [] (xr x kI 14)) fun c1=>(O.a (ap O (cr O c1 kI 0) [.int (O.h c0 0)]))) (O.c (O.f 57 [] (ap O (xr x kR 0) (xr x [0,0,0,0,0,1,0,0,0,0,1,0] 42))) fun c1=>(O.c (O.f 240 [] (xr x [0,0,0,0,0,0,0,0,0,0,0,0,0,0,3,0,3,3,1,3,1,0,0,0,3,0,0,0,0,0,0,0,0,1,0,0,0,0,1,0] 14)) fun c2=>(O.c (O.f 58 [] (cr O c1 [0,0,0,0,0,0,1,1,1,1] 0)) fun c3=>(O.c (O.f 241 [] (ap O (xr x kR 0) (ap O (cr O c2 [0,0,0] 0) (ap O [.int (O.q .i64 (O.h c2 3) (O.h c3 0)),.int (O.h c2 4),.int (O.q .i64 (O.h c2 5) (O.h c1 1)),.int (O.q .i64 (O.h c2 6) (O.h c1 2)),.int (O.q .i64 (O.h c2 7) (O.h c1 3)),.int (O.q .i64 (O.h c2 8) (O.h c1 4))] (ap O (cr O c2 [0,0,0,0,0,3,0,3,3,1,3,1,0,0,0,3,0,0,0] 9) [.bool (O.k c1 6)]))))) fun c4=>(O.c (O.b (O.k c4 28) (O.c (O.f 242 [] (cr O c4 kI 0)) fun c5=>(O.a (cr O c5 kI 0))) (O.a (cr O c4 kI 0))) fun c5=>(O.b (O.d (x.I 42) (O.lit .u8 1)) (O.a (ap O (cr O c5 [0,0,0,0,0,0,0,0,0,0,0,0,0,0,3,0,3,3,1,3] 0) (ap O [.bool O.e] (ap O (cr O c5 [0,0,0,3,0,0,0] 21) [.int u0])))) (O.b (O.i (O.d (x.I 42) (O.lit .u8 3)) (x.B 8) O.e) (O.a (ap O (cr O c5 [0,0,0,0,0,0,0,0,0,0,0,0,0,0,3,0,3,3,1,3] 0) (ap O [.bool O.j] (ap O (cr O c5 [0,0,0,3,0,0,0] 21) [.int u0])))) (O.a (ap O (cr O c5 kI 0) [.int u0])))))))))))
def CD:Nat→Env:=eL [(57,CV),(58,Fq),(134,AZ),(239,FB),(240,LY),(241,Kg),(242,Ga)]
theorem Qa {N ls}:CD N 57 [] ls=CV N ls:=id rfl
theorem Qj {N ls}:CD N 58 [] ls=Fq N ls:=id rfl
theorem Rb {N ls}:CD N 134 [] ls=AZ N ls:=id rfl
theorem QJ {N ls}:CD N 239 [] ls=FB N ls:=id rfl
theorem UQ {N ls}:CD N 240 [] ls=LY N ls:=id rfl
theorem UX {N ls}:CD N 241 [] ls=Kg N ls:=id rfl
theorem RH {N ls}:CD N 242 [] ls=Ga N ls:=id rfl
def IW:=oS aG Lu CD
def ib:List Nat:=[0,0,0,0,0,0,0,0,0,0,0,0,0,0,3,0,3,3,1,3,1,0,0,0,3,0,0,0,0]
def PX (O:Alg) (x:Ags O):O.M:=let u2:=(O.t .i64 (x.I 28) (lq9 O 1));let u1:=(O.p (x.L 14) u2 0);let u0:=(O.r u2 (O.l (x.L 14)));(O.c (O.f 236 [] (xr x [0,0,0,0,0,0,0,0,0,0,0,0,0,0,3,0,3,3,1,3,1,0,0,0,3,0,0,0,0] 0)) fun c0=>(O.b (O.g (O.k c0 0)) (O.a [.int (lq9 O 3)]) (O.c (O.f 217 [] (xr x kI 0)) fun c1=>let u3:=(O.g (O.k c1 0));(O.m (O.g (O.z (O.g u3) (O.g u0))) (O.b (O.i u3 O.j (O.d u1 (O.lit .u8 1))) (O.a [.int (lq9 O 4)]) (O.m u0 (O.b (O.d u1 (O.lit .u8 2)) (O.a [.int (lq9 O 5)]) (O.a [.int (lq9 O 0)]))))))))
def L3:Nat→Env:=eL [(217,BX),(236,A9)]
theorem Tk {N ls}:L3 N 217 [] ls=BX N ls:=id rfl
theorem Uf {N ls}:L3 N 236 [] ls=A9 N ls:=id rfl
def EP:=oS ib PX L3
def Wg:List Nat:=[0,0,0,0,0,0,0,0,0,0,0,0,0,0,3,0,3,3,1,3,1,0,0,0,3,0,0,0,0]
def JC (O:Alg) (x:Ags O):O.M:=let u0:=(O.t .i64 (x.I 28) (lq9 O 1));(O.c (O.f 234 [] (xr x kI 0)) fun c0=>(O.c (O.f 243 [] (xr x [0,0,0,0,0,0,0,0,0,0,0,0,0,0,3,0,3,3,1,3,1,0,0,0,3,0,0,0,0] 0)) fun c1=>(O.b (O.g (O.d (O.h c1 0) (lq9 O 0))) (O.a (ap O (cr O c0 kI 0) [.int (O.h c1 0)])) (O.c (O.f 236 [] (ap O (cr O c0 kI 0) [.int (x.I 28)])) fun c2=>(O.c (O.b (O.k c2 0) (O.m (O.r u0 (O.l (O.o c0 14))) (O.a (ap O (cr O c0 [0,0,0,0,0,0,0,0,0,0,0,0,0,0] 0) (ap O [.rows (O.aa (O.o c0 14) u0 0 [.int (O.lit .u8 2)])] (cr O c0 [0,3,3,1,3,1,0,0,0,3,0,0,0] 15))))) (O.a (cr O c0 kI 0))) fun c3=>(O.a (ap O (cr O c3 [0,0,0,0] 0) (ap O [.int (O.q .i64 (O.h c3 4) (lq9 O 1))] (ap O (cr O c3 [0,0,0,0,0,0,0,0,0,3,0,3,3,1,3,1,0,0,0,3,0,0,0] 5) [.int (lq9 O 0)])))))))))
def EJ:Nat→Env:=eL [(234,A6),(236,A9),(243,EP)]
theorem Sv {N ls}:EJ N 234 [] ls=A6 N ls:=id rfl
theorem Qg {N ls}:EJ N 236 [] ls=A9 N ls:=id rfl
theorem SS {N ls}:EJ N 243 [] ls=EP N ls:=id rfl
def Fi:=oS Wg JC EJ
def Zg:List Nat:=[0,0,0,0,0,0,0,0,0,0,0,0,0,0,3,0,3,3,1,3,1,0,0,0,3,0,0,0,0]
def Lq (O:Alg) (x:Ags O):O.M:=let u1:=(lq9 O 0);let u0:=(O.t .i64 (x.I 28) (lq9 O 1));(O.c (O.f 234 [] (xr x kI 0)) fun c0=>let u2:=(O.o c0 14);(O.c (O.f 243 [] (xr x [0,0,0,0,0,0,0,0,0,0,0,0,0,0,3,0,3,3,1,3,1,0,0,0,3,0,0,0,0] 0)) fun c1=>(O.b (O.g (O.d (O.h c1 0) u1)) (O.a (ap O (cr O c0 kI 0) [.int (O.h c1 0)])) (O.m (O.r u0 (O.l u2)) (O.b (O.d (O.h c0 12) u1) (O.a (ap O (cr O c0 [0,0,0,0,0,0,0,0,0,0,0,0] 0) (ap O [.int (x.I 28),.int (O.h c0 13),.rows (O.aa u2 u0 0 [.int (O.lit .u8 1)])] (ap O (cr O c0 [0,3,3,1,3,1,0,0,0,3,0,0,0] 15) [.int u1])))) (O.a (ap O (cr O c0 [0,0,0,0,0,0,0,0,0,0,0,0,0] 0) (ap O [.int (x.I 28),.rows (O.aa u2 u0 0 [.int (O.lit .u8 1)])] (ap O (cr O c0 [0,3,3,1,3,1,0,0,0,3,0,0,0] 15) [.int u1])))))))))
def JD:Nat→Env:=eL [(234,A6),(243,EP)]
theorem UR {N ls}:JD N 234 [] ls=A6 N ls:=id rfl
theorem Un {N ls}:JD N 243 [] ls=EP N ls:=id rfl
def Hw:=oS Zg Lq JD
def de:List Nat:=[0,0,0,0,0,0,0,0,0,0,0,0,0,0,3,0,3,3,1,3,1,0,0,0,3,0,0,0]
def GR (O:Alg) (x:Ags O):O.M:=(O.c (O.x (fun s0 c0=>let u4:=(O.o c0 0);let u3:=(O.h c0 1);let u2:=(O.p (x.L 14) u3 0);let u1:=(O.q .i64 u3 (lq9 O 1));let u0:=(O.ab u4 (O.y [[.int u1]]));(O.b (O.n u3 (O.l (x.L 14))) (O.m (O.r u3 (O.l (x.L 14))) (O.b (O.i (O.d u2 (O.lit .u8 0)) O.j (O.d u2 (O.lit .u8 3))) (O.m (O.w (O.l u0) 8) (s0 [.rows u0,.int u1])) (s0 [.rows u4,.int u1]))) (O.a [.rows u4]))) [.rows O.v,.int (lq9 O 0)]) fun c0=>(O.a [.rows (O.o c0 0)]))
def O5:Nat→Env:=eL []
def DP:=oS de GR O5
def XZ:List Nat:=[0,0,0,0,0,0,0,0,0,0,0,0,0,0,3,0,3,3,1,3,1,0,0,0,3,0,0,0,0,1]
def KJ (O:Alg) (x:Ags O):O.M:=let u3:=(lq9 O 0);let u2:=(O.d (x.I 28) (x.I 12));let u1:=(O.t .i64 (x.I 28) (lq9 O 1));(O.c (O.f 234 [] (xr x kI 0)) fun c0=>(O.c (O.f 236 [] (xr x [0,0,0,0,0,0,0,0,0,0,0,0,0,0,3,0,3,3,1,3,1,0,0,0,3,0,0,0,0] 0)) fun c1=>(O.b (O.g (O.k c1 0)) (O.a (ap O (cr O c0 kI 0) [.int (lq9 O 3)])) (O.b (O.i (O.d (x.I 12) u3) O.j (O.d (x.I 13) u3)) (O.a (ap O (cr O c0 kI 0) [.int (lq9 O 6)])) (O.b (O.i (O.g u2) (O.g (O.d (x.I 28) (x.I 13))) O.e) (O.a (ap O (cr O c0 kI 0) [.int (lq9 O 4)])) (O.c (O.b (x.B 29) (O.f 218 [] (xr x kI 0)) (O.a [.rows O.v])) fun c2=>(O.b (O.i (x.B 29) (O.d (O.l (O.o c2 0)) u3) O.e) (O.a (ap O (cr O c0 kI 0) [.int (lq9 O 19)])) (O.c (O.b u2 (O.a (ap O (cr O c0 [0,0,0,0,0,0,0,0,0,0,0,0] 0) (ap O [.int u3] (cr O c0 [0,3,0,3,3,1,3,1,0,0,0,3,0,0,0] 13)))) (O.a (ap O (cr O c0 [0,0,0,0,0,0,0,0,0,0,0,0,0] 0) (ap O [.int u3] (cr O c0 [3,0,3,3,1,3,1,0,0,0,3,0,0,0] 14))))) fun c3=>let u4:=(O.o c3 14);let u0:=(O.r u1 (O.l u4));(O.b (x.B 29) (O.m u0 (O.a (ap O (cr O c3 [0,0,0,0,0,0,0,0,0,0,0,0,0,0] 0) (ap O [.rows (O.aa u4 u1 0 [.int (O.lit .u8 3)])] (ap O (cr O c3 [0,3,3,1,3,1,0,0,0,3,0,0,0] 15) [.int u3]))))) (O.c (O.f 236 [] (ap O (cr O c3 kI 0) [.int (x.I 28)])) fun c4=>(O.c (O.b (O.k c4 0) (O.m u0 (O.a (ap O (cr O c3 [0,0,0,0,0,0,0,0,0,0,0,0,0,0] 0) (ap O [.rows (O.aa u4 u1 0 [.int (O.lit .u8 2)])] (cr O c3 [0,3,3,1,3,1,0,0,0,3,0,0,0] 15))))) (O.a (cr O c3 kI 0))) fun c5=>(O.a (ap O (cr O c5 [0,0,0,0] 0) (ap O [.int (O.q .i64 (O.h c5 4) (lq9 O 1))] (ap O (cr O c5 [0,0,0,0,0,0,0,0,0,3,0,3,3,1,3,1,0,0,0,3,0,0,0] 5) [.int u3])))))))))))))))
def E2:Nat→Env:=eL [(218,DP),(234,A6),(236,A9)]
theorem Se {N ls}:E2 N 218 [] ls=DP N ls:=id rfl
theorem TX {N ls}:E2 N 234 [] ls=A6 N ls:=id rfl
theorem Rh {N ls}:E2 N 236 [] ls=A9 N ls:=id rfl
def Gu:=oS XZ KJ E2
def lU:List Nat:=[0,0,0,0,0,0,0,0,0,0,0,0,0,0,3,0,3,3,1,3,1,0,0,0,3,0,0,0]
def Rp (O:Alg) (x:Ags O):O.M:=(O.c (O.f 166 [] [.rows (x.L 14)]) fun c0=>(O.c (O.f 167 [] [.rows (x.L 16)]) fun c1=>(O.c (O.f 167 [] [.rows (x.L 17)]) fun c2=>(O.c (O.f 167 [] [.rows (x.L 19)]) fun c3=>(O.c (O.f 168 [] [.rows (x.L 24)]) fun c4=>(O.a (ap O (xr x [0,0,0,0,0,0,0,0,0,0,0,0,0,0] 0) (ap O [.rows (O.o c0 0),.int (x.I 15),.rows (O.o c1 0),.rows (O.o c2 0),.bool (x.B 18),.rows (O.o c3 0)] (ap O (xr x [1,0,0,0] 20) (ap O [.rows (O.o c4 0)] (xr x [0,0,0] 25)))))))))))
def JU:Nat→Env:=eL [(166,Ag),(167,Ar),(168,Am)]
theorem Ok {N ls}:JU N 166 [] ls=Ag N ls:=id rfl
theorem RJ {N ls}:JU N 167 [] ls=Ar N ls:=id rfl
theorem Ql {N ls}:JU N 168 [] ls=Am N ls:=id rfl
def DF:=oS lU Rp JU
def Xm:List Nat:=[0,0,0,0,0,0,0,0,0,0,0,0,0,0,3,0,3,3,1,3,1,0,0,0,3,0,0,0,0]
def KK (O:Alg) (x:Ags O):O.M:=(O.c (O.f 245 [] (xr x kI 0)) fun c0=>(O.b (O.i (O.n (x.I 28) (lq9 O 0)) O.j (O.n (O.t .i64 (O.l (x.L 24)) (lq9 O 2)) (x.I 28))) (O.a (ap O (cr O c0 kI 0) [.int (lq9 O 16)])) (O.a (ap O (cr O c0 [0,0,0,0,0,0,0,0,0,0,0,0,0,0,3,0,3,3,1,3,1,0,0] 0) (ap O [.int (x.I 28)] (ap O (cr O c0 [3,0,0,0] 24) [.int (lq9 O 0)]))))))
def MN:Nat→Env:=eL [(245,DF)]
theorem UY {N ls}:MN N 245 [] ls=DF N ls:=id rfl
def Gt:=oS Xm KK MN
def Za:List Nat:=[0,0,0,0,0,0,0,0,0,0,0,0,0,0,3,0,3,3,1,3,1,0,0,0,3,0,0,0,0]
def Lw (O:Alg) (x:Ags O):O.M:=(O.c (O.f 245 [] (xr x kI 0)) fun c0=>(O.c (O.f 246 [] (xr x [0,0,0,0,0,0,0,0,0,0,0,0,0,0,3,0,3,3,1,3,1,0,0,0,3,0,0,0,0] 0)) fun c1=>(O.b (O.g (O.k c1 0)) (O.a (ap O (cr O c0 kI 0) [.int (lq9 O 3)])) (O.c (O.f 247 [] (xr x [0,0,0,0,0,0,0,0,0,0,0,0,0,0,3,0,3,3,1,3,1,0,0,0,3,0,0,0,0] 0)) fun c2=>(O.b (O.k c2 0) (O.a (ap O (cr O c0 kI 0) [.int (lq9 O 18)])) (O.b (O.i (O.d (x.I 28) (x.I 15)) O.j (O.d (x.I 28) (x.I 22))) (O.a (ap O (cr O c0 kI 0) [.int (lq9 O 17)])) (O.a (ap O (cr O c0 [0,0,0,0,0,0,0,0,0,0,0,0,0,0,3,0,3,3,1,3,1,0] 0) (ap O [.int (x.I 28)] (ap O (cr O c0 [0,3,0,0,0] 23) [.int (lq9 O 0)]))))))))))
def Fn:Nat→Env:=eL [(245,DF),(246,BD),(247,BA)]
theorem V9 {N ls}:Fn N 245 [] ls=DF N ls:=id rfl
theorem Th {N ls}:Fn N 246 [] ls=BD N ls:=id rfl
theorem Qm {N ls}:Fn N 247 [] ls=BA N ls:=id rfl
def Hj:=oS Za Lw Fn
def TG:List Nat:=[0,0,0,0,0,0,0,0,0,0,0,0,0,0,3,0,3,3,1,3,1,0,0,0,3,0,0,0,0,1]
def Gy (O:Alg) (x:Ags O):O.M:=let u2:=(lq9 O 0);let u1:=(O.t .i64 (x.I 28) (lq9 O 1));(O.c (O.f 245 [] (xr x kI 0)) fun c0=>let u0:=(O.aa (O.o c0 24) u1 0 [.bool (x.B 29)]);(O.c (O.f 246 [] (xr x [0,0,0,0,0,0,0,0,0,0,0,0,0,0,3,0,3,3,1,3,1,0,0,0,3,0,0,0,0] 0)) fun c1=>(O.b (O.g (O.k c1 0)) (O.a (ap O (cr O c0 kI 0) [.int (lq9 O 3)])) (O.c (O.f 247 [] (xr x [0,0,0,0,0,0,0,0,0,0,0,0,0,0,3,0,3,3,1,3,1,0,0,0,3,0,0,0,0] 0)) fun c2=>(O.b (O.aj (O.k c2 0) (x.B 29)) (O.a (ap O (cr O c0 kI 0) [.int (lq9 O 18)])) (O.m (O.r u1 (O.l (O.o c0 24))) (O.c (O.b (O.i (x.B 29) (O.d (O.h c0 22) (x.I 28)) O.e) (O.a (ap O (cr O c0 [0,0,0,0,0,0,0,0,0,0,0,0,0,0,3,0,3,3,1,3,1,0] 0) (ap O [.int u2,.int (O.h c0 23),.rows u0] (cr O c0 [0,0,0] 25)))) (O.a (ap O (cr O c0 [0,0,0,0,0,0,0,0,0,0,0,0,0,0,3,0,3,3,1,3,1,0,0,0] 0) (ap O [.rows u0] (cr O c0 [0,0,0] 25))))) fun c3=>(O.b (O.i (x.B 29) (O.d (O.h c3 15) (x.I 28)) O.e) (O.a (ap O (cr O c3 [0,0,0,0,0,0,0,0,0,0,0,0,0,0,3] 0) (ap O [.int u2] (ap O (cr O c3 [3,3,1,3,1,0,0,0,3,0,0,0] 16) [.int u2])))) (O.a (ap O (cr O c3 kI 0) [.int u2]))))))))))
def Dl:Nat→Env:=eL [(245,DF),(246,BD),(247,BA)]
theorem Rj {N ls}:Dl N 245 [] ls=DF N ls:=id rfl
theorem QH {N ls}:Dl N 246 [] ls=BD N ls:=id rfl
theorem Mr {N ls}:Dl N 247 [] ls=BA N ls:=id rfl
def EH:=oS TG Gy Dl
def W6:List Nat:=[2,0,0,0,0,0,0,0,1,0,0,0,0,3,0,0,0,0,0,0,0,0,0,0,0,0,0,0,3,0,3,3,1,3,1,0,0,0,3,0,0,0]
def Ka (O:Alg) (x:Ags O):O.M:=let u0:=(lq9 O 0);(O.c (O.f 237 [] (xr x kI 14)) fun c0=>(O.c (O.f 61 [] (xr x kR 0)) fun c1=>(O.b (O.i (O.i (O.g (O.d (O.h c1 0) u0)) O.j (O.d (x.I 9) u0)) O.j (O.n (x.I 35) (O.ai .i64 (x.I 9) (x.I 4)))) (O.a (ap O (cr O c0 kI 0) [.int (lq9 O 22)])) (O.a (ap O (cr O c0 [0,0,0,0,0,0,0,0,0,0,0,0,0,0,3,0,3,3,1,3,1] 0) (ap O [.int u0] (ap O (cr O c0 [0,0,3,0,0,0] 22) [.int u0])))))))
def HW:Nat→Env:=eL [(61,Ab),(237,DG)]
theorem TA {N ls}:HW N 61 [] ls=Ab N ls:=id rfl
theorem Uu {N ls}:HW N 237 [] ls=DG N ls:=id rfl
def Ge:=oS W6 Ka HW
def Ts:List Nat:=[2,0,0,0,0,0,0,0,1,0,0,0,0,3,0,0,0,0,0,0,0,0,0,0,0,0,0,0,3,0,3,3,1,3,1,0,0,0,3,0,0,0,0,0,0,0,1,0,0,0,0,0,0,0,1,0,0,0,0,1,0]
def HY (O:Alg) (x:Ags O):O.M:=(O.c (O.f 134 [] (xr x kI 14)) fun c0=>(O.b (O.g (O.d (x.I 43) (x.I 14))) (O.a (ap O (cr O c0 kI 0) [.int (lq9 O 2)])) (O.b (O.g (O.d (x.I 3) (lq9 O 0))) (O.a (ap O (cr O c0 kI 0) [.int (lq9 O 20)])) (O.a (ap O (cr O c0 [0,0,0,0,0,0,0,0,0,0,0,0,0,0,3,0,3,3,1,3,1,0,0,0,3,0,0] 0) [.int (O.lit .u8 4),.int (lq9 O 0)])))))
def J6:Nat→Env:=eL [(134,AZ)]
theorem Ov {N ls}:J6 N 134 [] ls=AZ N ls:=id rfl
def E9:=oS Ts HY J6
def Tn:List Nat:=[0,0,0,0,0,0,0,0,0,0,0,0,0,0,3,0,3,3,1,3,1,0,0,0,3,0,0,0]
def Hb (O:Alg) (x:Ags O):O.M:=(O.c (O.f 134 [] (xr x kI 0)) fun c0=>(O.a (ap O (cr O c0 [0,0,0] 0) (ap O [.int (O.q .i64 (O.h c0 3) (lq9 O 5))] (ap O (cr O c0 [0,0,0,0,0] 4) (ap O [.int (O.q .i64 (O.h c0 9) (lq9 O 5))] (cr O c0 [0,0,0,0,3,0,3,3,1,3,1,0,0,0,3,0,0,0] 10)))))))
def J8:Nat→Env:=eL [(134,AZ)]
theorem Oj {N ls}:J8 N 134 [] ls=AZ N ls:=id rfl
def CW:=oS Tn Hb J8
def Tv:List Nat:=[0,0,0,0,0,0,0,0,0,0,0,0,0,0,3,0,3,3,1,3,1,0,0,0,3,0,0,0,0,0,0,0,1,0,0,0,0,0,0,0,1,0,0,0,0,1,0]
def HZ (O:Alg) (x:Ags O):O.M:=let u0:=(lq9 O 0);(O.c (O.f 134 [] (xr x kI 0)) fun c0=>(O.b (O.g (O.d (x.I 33) (lq9 O 5))) (O.a (ap O (cr O c0 kI 0) [.int (lq9 O 23)])) (O.b (O.d (x.I 29) (x.I 0)) (O.c (O.f 191 [] (xr x kI 0)) fun c1=>(O.a (ap O (cr O c1 kI 0) [.int u0]))) (O.b (O.n u0 (O.h c0 1)) (O.a (ap O [.int (O.h c0 0),.int (O.q .i64 (O.h c0 1) (lq9 O 5))] (ap O (cr O c0 [0,0,0,0,0,0,0,0,0,0,0,0,3,0,3,3,1,3,1,0,0,0,3,0,0,0] 2) [.int u0]))) (O.a (ap O (cr O c0 kI 0) [.int u0]))))))
def F8:Nat→Env:=eL [(134,AZ),(191,CW)]
theorem Ow {N ls}:F8 N 134 [] ls=AZ N ls:=id rfl
theorem M7 {N ls}:F8 N 191 [] ls=CW N ls:=id rfl
def Ey:=oS Tv HZ F8
def Vs:List Nat:=[2,0,0,0,0,0,0,0,1,0,0,0,0,3,0,0,0,0,0,0,0,0,0,0,0,0,0,0,3,0,3,3,1,3,1,0,0,0,3,0,0,0,0,0,0,0,1,0,0,0,0,0,0,0,1,0,0,0,0,1,0]
def F2 (O:Alg) (x:Ags O):O.M:=let u5:=(lq9 O 0);let u4:=(lq9 O 1);let u3:=(O.t .i64 (x.I 43) u4);let u2:=(O.r u3 (lq9 O 2));let u1:=(O.d u3 u4);(O.c (O.f 134 [] (xr x kI 14)) fun c0=>let u0:=(O.q .i64 (O.ae u1 (O.h c0 26) (O.h c0 25)) u4);(O.m (O.g (O.z (O.g (O.g (x.B 32))) (O.g u2))) (O.b (O.i (O.g (x.B 32)) O.j (O.s (x.I 11) (O.ae u1 (x.I 40) (x.I 39)))) (O.a (ap O (cr O c0 kI 0) [.int (lq9 O 24)])) (O.b (O.g (x.B 46)) (O.m u2 (O.m u2 (O.a (ap O (cr O c0 [0,0,0,0,0,0,0,0,0,0,0,0,0,0,3,0,3,3,1,3,1,0,0,0,3] 0) [.int (O.ae (O.d u3 u5) u0 (O.h c0 25)),.int (O.ae u1 u0 (O.h c0 26)),.int (O.h c0 27),.int u5])))) (O.a (ap O (cr O c0 kI 0) [.int u5]))))))
def Ko:Nat→Env:=eL [(134,AZ)]
theorem Gf {N ls}:Ko N 134 [] ls=AZ N ls:=id rfl
def Fe:=oS Vs F2 Ko
def Xq:List Nat:=[2,0,0,0,0,0,0,0,1,0,0,0,0,3,0,0,0,0,0,0,0,0,0,0,0,0,0,0,3,0,3,3,1,3,1,0,0,0,3,0,0,0]
def XB (O:Alg) (x:Ags O):O.M:=(O.a [.int (O.q .i64 (O.ai .i64 (x.I 24) (x.I 4)) (x.I 25))])
def je:Nat→Env:=eL []
def G4:=oS Xq XB je
def VE:List Nat:=[2,0,0,0,0,0,0,0,1,0,0,0,0,3,0,0,0,0,0,0,0,0,0,0,0,0,0,0,3,0,3,3,1,3,1,0,0,0,3,0,0,0,0,0,0,0,1,0,0,0,0,0,0,0,1,0,0,0,0,1,0]
def Iv (O:Alg) (x:Ags O):O.M:=let u4:=(lq9 O 0);let u3:=(lq9 O 25);let u2:=(O.n (x.I 3) (x.I 48));let u1:=(O.n u4 (x.I 47));let u0:=(O.n u4 (x.I 48));(O.c (O.f 134 [] (xr x kI 14)) fun c0=>(O.b (O.i (O.d (x.I 3) u4) O.j (O.i (O.d (x.I 47) u4) (O.d (x.I 48) u4) O.e)) (O.a (ap O (cr O c0 kI 0) [.int u3])) (O.b (O.i u1 (O.i (O.d (x.I 15) u4) O.j (O.s (x.I 47) (x.I 17))) O.e) (O.a (ap O (cr O c0 kI 0) [.int u3])) (O.c (O.b (O.z u0 (O.g u2)) (O.f 248 [] (xr x [2,0,0,0,0,0,0,0,1,0,0,0,0,3,0,0,0,0,0,0,0,0,0,0,0,0,0,0,3,0,3,3,1,3,1,0,0,0,3,0,0,0] 0)) (O.a [.int u4])) fun c1=>(O.b (O.i u0 (O.i u2 O.j (O.n (O.ai .i64 (x.I 48) (x.I 4)) (O.h c1 0))) O.e) (O.a (ap O (cr O c0 kI 0) [.int u3])) (O.c (O.b u1 (O.a (ap O [.int (O.h c0 0),.int (x.I 47)] (cr O c0 [0,0,0,0,0,0,0,0,0,0,0,0,3,0,3,3,1,3,1,0,0,0,3,0,0,0] 2))) (O.a (cr O c0 kI 0))) fun c2=>(O.b u0 (O.a (ap O [.int (O.h c2 0),.int (O.h c2 1),.int (x.I 48)] (ap O (cr O c2 [0,0,0,0,0,0,0,0,0,0,0,3,0,3,3,1,3,1,0,0,0,3,0,0,0] 3) [.int u4]))) (O.a (ap O (cr O c2 kI 0) [.int u4])))))))))
def G3:Nat→Env:=eL [(134,AZ),(248,G4)]
theorem Pr {N ls}:G3 N 134 [] ls=AZ N ls:=id rfl
theorem Qd {N ls}:G3 N 248 [] ls=G4 N ls:=id rfl
def Fr:=oS VE Iv G3
def T4:List Nat:=[2,0,0,0,0,0,0,0,1,0,0,0,0,3,0,0,0,0,0,0,0,0,0,0,0,0,0,0,3,0,3,3,1,3,1,0,0,0,3,0,0,0,0,0,0,0,1,0,0,0,0,0,0,0,1,0,0,0,0,1,0]
def Ez (O:Alg) (x:Ags O):O.M:=(O.b (O.d (x.I 42) (O.lit .u8 2)) (O.c (O.f 203 [] (ap O (xr x kI 14) [.int (x.I 44),.int (x.I 45)])) fun c0=>(O.a (cr O c0 [0,0,0,0,0,0,0,0,0,0,0,0,0,0,3,0,3,3,1,3,1,0,0,0,3,0,0,0,0] 0))) (O.b (O.d (x.I 42) (O.lit .u8 3)) (O.c (O.f 204 [] (ap O (xr x [2,0,0,0,0,0,0,0,1,0,0,0,0,3,0,0,0,0,0,0,0,0,0,0,0,0,0,0,3,0,3,3,1,3,1,0,0,0,3,0,0,0] 0) [.int (x.I 44)])) fun c0=>(O.a (cr O c0 [0,0,0,0,0,0,0,0,0,0,0,0,0,0,3,0,3,3,1,3,1,0,0,0,3,0,0,0,0] 0))) (O.b (O.d (x.I 42) (O.lit .u8 4)) (O.c (O.f 205 [] (ap O (xr x [2,0,0,0,0,0,0,0,1,0,0,0,0,3,0,0,0,0,0,0,0,0,0,0,0,0,0,0,3,0,3,3,1,3,1,0,0,0,3,0,0,0] 0) (xr x [0,0,0,0,0,1,0,0,0,0,1,0] 49))) fun c0=>(O.a (cr O c0 [0,0,0,0,0,0,0,0,0,0,0,0,0,0,3,0,3,3,1,3,1,0,0,0,3,0,0,0,0] 0))) (O.b (O.d (x.I 42) (O.lit .u8 5)) (O.b (x.B 46) (O.c (O.f 206 [] (ap O (xr x kI 14) [.int (x.I 44)])) fun c0=>(O.a (cr O c0 [0,0,0,0,0,0,0,0,0,0,0,0,0,0,3,0,3,3,1,3,1,0,0,0,3,0,0,0,0] 0))) (O.c (O.f 207 [] (ap O (xr x kI 14) [.int (x.I 44)])) fun c0=>(O.a (cr O c0 [0,0,0,0,0,0,0,0,0,0,0,0,0,0,3,0,3,3,1,3,1,0,0,0,3,0,0,0,0] 0)))) (O.b (O.d (x.I 42) (O.lit .u8 6)) (O.c (O.f 208 [] (ap O (xr x kI 14) [.int (x.I 44),.bool (x.B 46)])) fun c0=>(O.a (cr O c0 [0,0,0,0,0,0,0,0,0,0,0,0,0,0,3,0,3,3,1,3,1,0,0,0,3,0,0,0,0] 0))) (O.b (O.d (x.I 42) (O.lit .u8 7)) (O.c (O.f 209 [] (ap O (xr x kI 14) [.int (x.I 47)])) fun c0=>(O.a (cr O c0 [0,0,0,0,0,0,0,0,0,0,0,0,0,0,3,0,3,3,1,3,1,0,0,0,3,0,0,0,0] 0))) (O.b (O.d (x.I 42) (O.lit .u8 8)) (O.c (O.f 210 [] (ap O (xr x kI 14) [.int (x.I 44)])) fun c0=>(O.a (cr O c0 [0,0,0,0,0,0,0,0,0,0,0,0,0,0,3,0,3,3,1,3,1,0,0,0,3,0,0,0,0] 0))) (O.b (O.d (x.I 42) (O.lit .u8 9)) (O.c (O.f 211 [] (ap O (xr x kI 14) [.int (x.I 44),.bool (x.B 46)])) fun c0=>(O.a (cr O c0 [0,0,0,0,0,0,0,0,0,0,0,0,0,0,3,0,3,3,1,3,1,0,0,0,3,0,0,0,0] 0))) (O.b (O.d (x.I 42) (O.lit .u8 10)) (O.c (O.f 212 [] (xr x [2,0,0,0,0,0,0,0,1,0,0,0,0,3,0,0,0,0,0,0,0,0,0,0,0,0,0,0,3,0,3,3,1,3,1,0,0,0,3,0,0,0] 0)) fun c0=>(O.a (cr O c0 [0,0,0,0,0,0,0,0,0,0,0,0,0,0,3,0,3,3,1,3,1,0,0,0,3,0,0,0,0] 0))) (O.b (O.d (x.I 42) (O.lit .u8 11)) (O.c (O.f 213 [] (xr x [2,0,0,0,0,0,0,0,1,0,0,0,0,3,0,0,0,0,0,0,0,0,0,0,0,0,0,0,3,0,3,3,1,3,1,0,0,0,3,0,0,0,0,0,0,0,1,0,0,0,0,0,0,0,1,0,0,0,0,1,0] 0)) fun c0=>(O.a (cr O c0 [0,0,0,0,0,0,0,0,0,0,0,0,0,0,3,0,3,3,1,3,1,0,0,0,3,0,0,0,0] 0))) (O.b (O.d (x.I 42) (O.lit .u8 13)) (O.c (O.f 214 [] (xr x [0,0,0,0,0,0,0,0,0,0,0,0,0,0,3,0,3,3,1,3,1,0,0,0,3,0,0,0,0,0,0,0,1,0,0,0,0,0,0,0,1,0,0,0,0,1,0] 14)) fun c0=>(O.a (cr O c0 [0,0,0,0,0,0,0,0,0,0,0,0,0,0,3,0,3,3,1,3,1,0,0,0,3,0,0,0,0] 0))) (O.b (O.d (x.I 42) (O.lit .u8 14)) (O.c (O.f 215 [] (xr x [2,0,0,0,0,0,0,0,1,0,0,0,0,3,0,0,0,0,0,0,0,0,0,0,0,0,0,0,3,0,3,3,1,3,1,0,0,0,3,0,0,0,0,0,0,0,1,0,0,0,0,0,0,0,1,0,0,0,0,1,0] 0)) fun c0=>(O.a (cr O c0 [0,0,0,0,0,0,0,0,0,0,0,0,0,0,3,0,3,3,1,3,1,0,0,0,3,0,0,0,0] 0))) (O.c (O.f 216 [] (xr x [2,0,0,0,0,0,0,0,1,0,0,0,0,3,0,0,0,0,0,0,0,0,0,0,0,0,0,0,3,0,3,3,1,3,1,0,0,0,3,0,0,0,0,0,0,0,1,0,0,0,0,0,0,0,1,0,0,0,0,1,0] 0)) fun c0=>(O.a (cr O c0 [0,0,0,0,0,0,0,0,0,0,0,0,0,0,3,0,3,3,1,3,1,0,0,0,3,0,0,0,0] 0)))))))))))))))
def As:Nat→Env:=eL [(203,JV),(204,LL),(205,IW),(206,Fi),(207,Hw),(208,Gu),(209,Gt),(210,Hj),(211,EH),(212,Ge),(213,E9),(214,Ey),(215,Fe),(216,Fr)]
theorem HO {N ls}:As N 203 [] ls=JV N ls:=id rfl
theorem Hy {N ls}:As N 204 [] ls=LL N ls:=id rfl
theorem Gk {N ls}:As N 205 [] ls=IW N ls:=id rfl
theorem F1 {N ls}:As N 206 [] ls=Fi N ls:=id rfl
theorem Gb {N ls}:As N 207 [] ls=Hw N ls:=id rfl
theorem GC {N ls}:As N 208 [] ls=Gu N ls:=id rfl
theorem GE {N ls}:As N 209 [] ls=Gt N ls:=id rfl
theorem Gi {N ls}:As N 210 [] ls=Hj N ls:=id rfl
theorem E5 {N ls}:As N 211 [] ls=EH N ls:=id rfl
theorem GD {N ls}:As N 212 [] ls=Ge N ls:=id rfl
theorem FQ {N ls}:As N 213 [] ls=E9 N ls:=id rfl
theorem FR {N ls}:As N 214 [] ls=Ey N ls:=id rfl
theorem Fy {N ls}:As N 215 [] ls=Fe N ls:=id rfl
theorem Fv {N ls}:As N 216 [] ls=Fr N ls:=id rfl
def FA:=oS T4 Ez As
def VX:List Nat:=[2,0,0,0,0,0,0,0,1,0,0,0,0,3,0,0,0,0,0,0,0,0,0,0,0,0,0,0,3,0,3,3,1,3,1,0,0,0,3,0,0,0]
def Ip (O:Alg) (x:Ags O):O.M:=let u0:=(lq9 O 0);(O.c (O.f 127 [] (xr x [2,0,0,0,0,0,0,0,1,0,0,0,0,3,0,0,0,0,0,0,0,0,0,0,0,0,0,0,3,0,3,3,1,3,1,0,0,0,3,0,0,0] 0)) fun c0=>(O.b (O.g (O.k c0 0)) (O.a [.int (O.lit .u8 0)]) (O.b (O.i (O.n u0 (x.I 15)) (O.s (x.I 15) (x.I 17)) O.e) (O.a [.int (O.lit .u8 3)]) (O.c (O.f 217 [] (xr x kI 14)) fun c1=>(O.c (O.b (O.k c1 0) (O.f 218 [] (xr x kI 14)) (O.a [.rows O.v])) fun c2=>(O.b (O.i (O.k c1 0) (O.d (O.l (O.o c2 0)) u0) O.e) (O.a [.int (O.lit .u8 1)]) (O.b (O.i (O.n u0 (x.I 16)) (O.s (x.I 16) (x.I 24)) O.e) (O.a [.int (O.lit .u8 2)]) (O.a [.int (O.lit .u8 0)]))))))))
def Eb:Nat→Env:=eL [(127,BZ),(217,BX),(218,DP)]
def EA:=oS VX Ip Eb
def Ze:List Nat:=[2,0,0,0,0,0,0,0,1,0,0,0,0,3,0,0,0,0,0,0,0,0,0,0,0,0,0,0,3,0,3,3,1,3,1,0,0,0,3,0,0,0,0,0,0,0,1,0,0,0,0,0,0,0,1,0,0,0,0,1,0]
def L0 (O:Alg) (x:Ags O):O.M:=let u1:=(lq9 O 0);(O.c (O.f 127 [] (xr x [2,0,0,0,0,0,0,0,1,0,0,0,0,3,0,0,0,0,0,0,0,0,0,0,0,0,0,0,3,0,3,3,1,3,1,0,0,0,3,0,0,0] 0)) fun c0=>let u0:=(O.g (O.k c0 0));(O.c (O.b (O.g u0) (O.f 107 [] (xr x [0,0,0,0,1,0,0,0,0,0,0,0,1,0,0,0,0,1,0] 42)) (O.a [.int u1])) fun c1=>(O.b (O.i u0 O.j (O.g (O.d (O.h c1 0) u1))) (O.c (O.f 134 [] (xr x kI 14)) fun c2=>(O.a (ap O (cr O c2 kI 0) [.int (lq9 O 1)]))) (O.b (O.g (O.d (x.I 41) (O.lit .u8 0))) (O.c (O.f 134 [] (xr x kI 14)) fun c2=>(O.a (ap O (cr O c2 kI 0) [.int (lq9 O 26)]))) (O.c (O.b (O.g (O.i (O.i (O.d (x.I 42) (O.lit .u8 1)) O.j (O.d (x.I 42) (O.lit .u8 12))) O.j (O.d (x.I 42) (O.lit .u8 16)))) (O.f 188 [] (xr x kI 14)) (O.a [.bool O.e])) fun c2=>(O.b (O.i (O.i (O.i (O.d (x.I 42) (O.lit .u8 1)) O.j (O.d (x.I 42) (O.lit .u8 12))) O.j (O.d (x.I 42) (O.lit .u8 16))) O.j (O.i (O.g (O.k c2 0)) (O.g (O.d (x.I 42) (O.lit .u8 2))) O.e)) (O.c (O.f 134 [] (xr x kI 14)) fun c3=>(O.a (ap O (cr O c3 kI 0) [.int (lq9 O 1)]))) (O.c (O.f 189 [] (xr x [2,0,0,0,0,0,0,0,1,0,0,0,0,3,0,0,0,0,0,0,0,0,0,0,0,0,0,0,3,0,3,3,1,3,1,0,0,0,3,0,0,0,0,0,0,0,1,0,0,0,0,0,0,0,1,0,0,0,0,1,0] 0)) fun c3=>(O.b (O.g (O.d (O.h c3 28) u1)) (O.c (O.f 134 [] (xr x kI 14)) fun c4=>(O.a (ap O (cr O c4 kI 0) [.int (O.h c3 28)]))) (O.b (O.d (O.h c3 27) (O.lit .u8 0)) (O.c (O.f 190 [] (ap O (xr x kR 0) (ap O (cr O c3 [0,0,0,0,0,0,0,0,0,0,0,0,0,0,3,0,3,3] 0) (ap O [.bool (O.d (x.I 42) (O.lit .u8 4))] (cr O c3 [3,1,0,0,0,3,0,0,0] 19))))) fun c4=>(O.a (ap O (cr O c3 [0,0,0,0,0,0,0,0,0,0,0,0,0,0,3,0,3,3] 0) (ap O [.bool (O.d (x.I 42) (O.lit .u8 4))] (ap O (cr O c3 [3,1,0,0,0,3,0,0] 19) [.int (O.h c4 0),.int u1]))))) (O.a (ap O (cr O c3 [0,0,0,0,0,0,0,0,0,0,0,0,0,0,3,0,3,3] 0) (ap O [.bool (O.d (x.I 42) (O.lit .u8 4))] (ap O (cr O c3 [3,1,0,0,0,3,0,0,0] 19) [.int u1])))))))))))))
def Cm:Nat→Env:=eL [(107,Dr),(127,BZ),(134,AZ),(188,Gd),(189,FA),(190,EA)]
theorem TR {N ls}:Cm N 107 [] ls=Dr N ls:=id rfl
theorem RY {N ls}:Cm N 127 [] ls=BZ N ls:=id rfl
theorem RI {N ls}:Cm N 134 [] ls=AZ N ls:=id rfl
theorem Re {N ls}:Cm N 188 [] ls=Gd N ls:=id rfl
theorem G5 {N ls}:Cm N 189 [] ls=FA N ls:=id rfl
theorem HQ {N ls}:Cm N 190 [] ls=EA N ls:=id rfl
def IY:=oS Ze L0 Cm
def gj:List Nat:=[2,0,0,0,0,0,0,0,1,0,0,0,0,3,0,0,1,3,0,0,0,0,0,0,0,0,0,1,0,0,0,0,0,0,0,1,0,0,0,0,1,0]
def PI (O:Alg) (x:Ags O):O.M:=let u23:=(lq9 O 2);let u22:=(lq9 O 1);let u21:=(lq9 O 0);let u17:=(O.t .i64 (x.I 24) u22);let u11:=(O.r u17 u23);let u10:=(O.d u17 u22);(O.c (O.f 106 [] (xr x kM 0)) fun c0=>let u20:=(O.g (O.k c0 0));(O.c (O.b (O.g u20) (O.f 107 [] (xr x [0,0,0,0,1,0,0,0,0,0,0,0,1,0,0,0,0,1,0] 23)) (O.a [.int u21])) fun c1=>(O.b (O.i u20 O.j (O.g (O.d (O.h c1 0) u21))) (O.c (O.f 108 [] (xr x kM 0)) fun c2=>(O.a (ap O (cr O c2 kM 0) [.int u22]))) (O.b (O.d (x.I 14) (O.lit .u8 5)) (O.c (O.f 108 [] (xr x kM 0)) fun c2=>(O.a (ap O (cr O c2 kM 0) [.int (lq9 O 26)]))) (O.c (O.f 108 [] (xr x kM 0)) fun c2=>let u28:=(O.h c2 15);let u27:=(O.h c2 18);let u26:=(O.h c2 19);let u25:=(O.h c2 14);let u24:=(O.o c2 17);let u19:=(O.l u24);let u12:=(O.t .i64 u19 u22);let u4:=(O.r u12 u19);let u0:=(O.q .i64 (O.ae u10 u26 u27) (lq9 O 5));(O.c (O.b (O.d (x.I 23) (O.lit .u8 1)) (O.b (O.g (O.d u25 (O.lit .u8 1))) (O.a (ap O [.int u22] (cr O c2 kM 0))) (O.c (O.f 135 [] [.int (x.I 24)]) fun c3=>(O.b (x.B 27) (O.a (ap O [.int u21] (ap O (cr O c2 kR 0) (ap O [.int (O.lit .u8 2),.int (x.I 24)] (cr O c2 [1,3,0,0,0,0,0] 16))))) (O.a (ap O [.int u21] (ap O (cr O c2 kR 0) (ap O [.int (O.lit .u8 2),.int (O.h c3 0)] (cr O c2 [1,3,0,0,0,0,0] 16)))))))) (O.b (O.d (x.I 23) (O.lit .u8 2)) (O.c (O.b (O.g (O.d u25 (O.lit .u8 2))) (O.a (ap O [.int u22] (cr O c2 kM 0))) (O.c (O.f 128 [] (ap O (cr O c2 kM 0) [.int u19])) fun c3=>let u16:=(O.t .i64 (O.h c3 0) u22);let u9:=(O.d u16 u22);let u8:=(O.r u16 u23);(O.c (O.f 170 [] (ap O (cr O c2 kM 0) [.int (O.h c3 0)])) fun c4=>(O.m u8 (O.c (O.f 169 [] (ap O (cr O c2 kR 0) [.int (O.h c3 0),.int (O.h c4 0),.int (O.ae u9 u26 u27)])) fun c5=>(O.b (O.g (O.d (O.h c5 28) u21)) (O.a (ap O [.int u22] (cr O c2 kM 0))) (O.c (O.f 171 [] (ap O (cr O c2 kR 0) (ap O (cr O c5 kI 0) (xr x [0,0,0,0,1,0,0,0,0,0,0,0,1,0,0,0,0,1,0] 23)))) fun c6=>let u14:=(O.ab u24 (O.y [(cr O c6 kI 0)]));(O.b (O.g (O.d (O.h c6 28) u21)) (O.a (ap O [.int (O.h c6 28)] (cr O c2 kM 0))) (O.m u8 (O.m (O.w (O.l u14) 304) (O.a (ap O [.int u21] (ap O (cr O c2 kR 0) (ap O [.int (O.lit .u8 3),.int u28,.bool (O.k c2 16),.rows u14,.int (O.ae (O.d u16 u21) u21 u27),.int (O.ae u9 u21 u26)] (cr O c2 [0,0,0] 20))))))))))))))) fun c3=>(O.a (cr O c3 [0,2,0,0,0,0,0,0,0,1,0,0,0,0,3,0,0,1,3,0,0,0,0,0] 0))) (O.b (O.d (x.I 23) (O.lit .u8 12)) (O.b (O.g (O.d u25 (O.lit .u8 4))) (O.a (ap O [.int u22] (cr O c2 kM 0))) (O.b (O.g (O.d (x.I 24) u28)) (O.a (ap O [.int u23] (cr O c2 kM 0))) (O.a (ap O [.int u21] (ap O (cr O c2 kR 0) (ap O [.int (O.lit .u8 2),.int u28,.bool (x.B 27)] (cr O c2 [3,0,0,0,0,0] 17))))))) (O.b (O.d (x.I 23) (O.lit .u8 16)) (O.c (O.b (O.d u25 (O.lit .u8 3)) (O.m u4 (O.a (ap O (cr O c2 [2,0,0,0,0,0,0,0,1,0,0,0,0,3,0,0,1] 0) (ap O [.rows (O.aa u24 u12 27 [.int (O.lit .u8 5)])] (cr O c2 [0,0,0,0,0] 18))))) (O.a (cr O c2 kM 0))) fun c3=>(O.c (O.f 172 [] (cr O c3 kR 0)) fun c4=>(O.a (ap O [.int u21] (ap O (cr O c3 kR 0) (ap O [.int (O.lit .u8 5)] (ap O (cr O c3 [0,1,3,0,0] 15) [.int (O.h c4 0),.int u21,.int u21]))))))) (O.c (O.b (O.g (O.d u25 (O.lit .u8 3))) (O.a (ap O [.int u22] (cr O c2 kM 0))) (O.m u4 (O.c (O.f 171 [] (ap O (cr O c2 kR 0) (ap O (rr O u24 u12 kI 0) (xr x [0,0,0,0,1,0,0,0,0,0,0,0,1,0,0,0,0,1,0] 23)))) fun c3=>let u3:=(O.aa u24 u12 0 (cr O c3 kI 0));let u2:=(O.l u3);(O.b (O.g (O.d (O.h c3 28) u21)) (O.a (ap O [.int (O.h c3 28)] (cr O c2 kM 0))) (O.m u4 (O.b (O.i (O.d (x.I 23) (O.lit .u8 13)) (O.g (O.d (x.I 24) (O.h c3 0))) O.e) (O.c (O.c (O.x (fun s4 c4=>let u30:=(O.h c4 0);let u1:=(O.r u30 u2);(O.b (O.s u21 u30) (O.m u1 (O.b (O.d (O.p u3 u30 0) (x.I 24)) (O.m u1 (O.c (O.f 191 [] (rr O u3 u30 kI 0)) fun c5=>(O.m u1 (O.a (ap O [.int u21] (ap O (cr O c2 [2,0,0,0,0,0,0,0,1,0,0,0,0,3,0,0,1] 0) (ap O [.rows (O.aa u3 u30 0 (cr O c5 kI 0))] (cr O c2 [0,0,0,0,0] 18)))))))) (s4 [.int (O.t .i64 u30 u22)]))) (O.a [.int u22]))) [.int (O.t .i64 u2 u22)]) fun c4=>(O.b (O.ac c4 0) (O.a (cr O c4 kM 1)) (O.m u11 (O.m u11 (O.a (ap O (cr O c2 [2,0,0,0,0,0,0,0,1,0,0,0,0,3,0,0,1] 0) (ap O [.rows u3,.int (O.ae (O.d u17 u21) u0 u27),.int (O.ae u10 u0 u26)] (cr O c2 [0,0,0] 20)))))))) fun c4=>(O.a (ap O [.int u21] (cr O c4 kM 0)))) (O.a (ap O [.int u21] (ap O (cr O c2 [2,0,0,0,0,0,0,0,1,0,0,0,0,3,0,0,1] 0) (ap O [.rows u3] (cr O c2 [0,0,0,0,0] 18))))))))))) fun c3=>(O.a (cr O c3 [0,2,0,0,0,0,0,0,0,1,0,0,0,0,3,0,0,1,3,0,0,0,0,0] 0))))))) fun c3=>let u29:=(O.o c3 18);let u18:=(O.l u29);let u15:=(O.d u18 (lq9 O 3));let u13:=(O.t .i64 u18 u22);let u7:=(O.d u18 (O.ai .i64 u23 (O.h c3 3)));let u6:=(O.p u29 u13 0);let u5:=(O.r u13 u18);(O.b (O.g (O.d (O.h c3 0) u21)) (O.c (O.f 108 [] (xr x kM 0)) fun c4=>(O.a (ap O (cr O c4 kM 0) [.int (O.h c3 0)]))) (O.c (O.m (O.g (O.z (O.g (O.g (O.d (O.h c3 15) (O.lit .u8 3)))) (O.g u5))) (O.b (O.i (O.g (O.d (O.h c3 15) (O.lit .u8 3))) O.j (O.d (O.p u29 u13 27) (O.lit .u8 0))) (O.a (cr O c3 kM 1)) (O.m u5 (O.c (O.f 139 [] (ap O (cr O c3 kM 1) [.int (O.h c3 16)])) fun c4=>(O.c (O.f 135 [] [.int (O.h c3 16)]) fun c5=>(O.c (O.f 139 [] (ap O (cr O c3 kM 1) [.int (O.h c5 0)])) fun c6=>(O.c (O.b u7 (O.a [.bool u7]) (O.c (O.b u15 (O.f 139 [] (ap O (cr O c3 kR 1) (ap O [.int (O.lit .u8 2)] (ap O (cr O c3 [0,1,3,0,0,0,0,0] 16) [.int u6])))) (O.a [.int u21])) fun c7=>(O.c (O.b u15 (O.f 135 [] [.int u6]) (O.a [.int u21])) fun c8=>(O.c (O.b u15 (O.f 139 [] (ap O (cr O c3 kR 1) (ap O [.int (O.lit .u8 2)] (ap O (cr O c3 [0,1,3,0,0,0,0,0] 16) [.int (O.h c8 0)])))) (O.a [.int u21])) fun c9=>(O.a [.bool (O.i u15 (O.n (O.h c7 0) (O.h c9 0)) O.e)]))))) fun c7=>(O.b (O.k c7 0) (O.c (O.f 140 [] (ap O (cr O c3 kR 1) (ap O [.int (O.lit .u8 5)] (cr O c3 [0,1,3,0,0,0,0,0] 16)))) fun c8=>(O.a (ap O (cr O c3 kR 1) (ap O [.int (O.lit .u8 5)] (ap O (cr O c3 [0,1,3,0,0] 16) (cr O c8 [0,0,0] 0)))))) (O.b (O.i (O.i (O.d u18 u23) (O.n u21 (O.h c3 11)) O.e) (O.s (O.h c3 11) (O.t .i64 (O.h c4 0) (O.h c6 0))) O.e) (O.a (ap O (cr O c3 kR 1) (ap O [.int (O.lit .u8 4)] (cr O c3 [0,1,3,0,0,0,0,0] 16)))) (O.a (ap O (cr O c3 kR 1) (ap O [.int (O.lit .u8 2)] (cr O c3 [0,1,3,0,0,0,0,0] 16))))))))))))) fun c4=>(O.a (ap O (cr O c4 kM 0) [.int u21]))))))))))
def BR:Nat→Env:=eL [(106,Dn),(107,Dr),(108,Jk),(128,Dp),(135,Ba),(139,CL),(140,G1),(169,Gh),(170,Hk),(171,IY),(172,CB),(191,CW)]
theorem WG {N ls}:BR N 106 [] ls=Dn N ls:=id rfl
theorem V8 {N ls}:BR N 107 [] ls=Dr N ls:=id rfl
theorem VT {N ls}:BR N 108 [] ls=Jk N ls:=id rfl
theorem Ff {N ls}:BR N 128 [] ls=Dp N ls:=id rfl
theorem Fg {N ls}:BR N 135 [] ls=Ba N ls:=id rfl
theorem K5 {N ls}:BR N 139 [] ls=CL N ls:=id rfl
theorem Jl {N ls}:BR N 140 [] ls=G1 N ls:=id rfl
theorem Eo {N ls}:BR N 169 [] ls=Gh N ls:=id rfl
theorem FI {N ls}:BR N 170 [] ls=Hk N ls:=id rfl
theorem DW {N ls}:BR N 171 [] ls=IY N ls:=id rfl
theorem Dt {N ls}:BR N 172 [] ls=CB N ls:=id rfl
theorem IU {N ls}:BR N 191 [] ls=CW N ls:=id rfl
def PH:=oS gj PI BR
def cC:List Nat:=[2,0,0,0,0,0,0,0,1,0,0,0,0,3,0,0,1,3,0,0,0,0,0,0,0,0,0,0,1,0,0,0,0,0,0,0,1,0,0,0,0,1,0]
def QL (O:Alg) (x:Ags O):O.M:=(O.b (O.s (lq9 O 4000) (x.I 23)) (O.a (ap O (xr x kM 0) [.int (lq9 O 26)])) (O.c (O.f 92 [] (ap O (xr x kM 0) (xr x [0,0,0,0,1,0,0,0,0,0,0,0,1,0,0,0,0,1,0] 24))) fun c0=>(O.a (cr O c0 [2,0,0,0,0,0,0,0,1,0,0,0,0,3,0,0,1,3,0,0,0,0,0,0] 0))))
def Hr (N:Nat):Env:=fun f fns ls=>(cond (Nat.beq f 92&&AB fns []) (PH N ls) none)
theorem aJ {N ls}:Hr N 92 [] ls=PH N ls:=id rfl
def QN:=oS cC QL Hr
def X3:List Nat:=[0,2,0,0,0,0,0,0,0,1,0,0,0,0,3,0,0,1,3,0,0,0,0,0,2,0,0,0,0,0,0,0,1,0,0,0,0,3,0,0,1,3,0,0,0,0,0,0,0,0,0,0,1,0,0,0,0,1,0]
def Kb (O:Alg) (x:Ags O):O.M:=let u0:=(O.t .i64 (O.l (x.L 18)) (lq9 O 1));(O.m (O.r u0 (O.l (x.L 18))) (O.m (O.r u0 (O.l (x.L 41))) (O.c (O.f 57 [] (ap O (xr x kR 1) (xr x [0,0,0,0,0,1,0,0,0,0,1,0] 47))) fun c0=>(O.a (ap O [.int (x.I 0),.int u0,.int (O.p (x.L 18) u0 10),.int (O.p (x.L 18) u0 11),.int (O.p (x.L 18) u0 15),.int (O.p (x.L 18) u0 12),.int (O.p (x.L 18) u0 13),.bool (O.rB (x.L 18) u0 20)] (ap O (xr x [0,0,0,0,0,1,0,0,0,0,1,0] 47) (ap O (cr O c0 [0,0,0,0,0,0,1,1,1,1] 0) [.int (O.p (x.L 41) u0 3),.int (O.p (x.L 41) u0 4)])))))))
def MR:Nat→Env:=eL [(57,CV)]
theorem On {N ls}:MR N 57 [] ls=CV N ls:=id rfl
def KB:=oS X3 Kb MR
def bp:List Nat:=[2,0,0,0,0,0,0,0,1,0,0,0,0,3,3]
def Ox (O:Alg) (x:Ags O):O.M:=let u3:=(lq9 O 1);let u2:=(lq9 O 0);(O.c (O.f 65 [] (xr x kR 0)) fun c0=>(O.b (O.g (O.d (O.h c0 23) u2)) (O.a [.rows O.v,.str (O.u ⟨#[]⟩),.int u2,.int u2,.int u2,.int u2,.int u2,.int u2,.int u2,.bool O.e,.int u2,.int u2,.int u2,.int u2,.rows O.v,.int (O.lit .u8 0),.int u2,.bool O.e,.rows O.v,.int u2,.int u2,.int (O.lit .u8 0),.int u2,.int u2,.int u2,.int u3]) (O.c (O.x (fun s1 c1=>let u5:=(O.o c1 0);let u4:=(O.h c1 1);let u1:=(O.q .i64 u4 u3);(O.b (O.n u4 (O.l (x.L 14))) (O.m (O.r u4 (O.l (x.L 14))) (O.c (O.f 66 [] (ap O (cr O c1 kM 2) (ap O [.int u4] (rr O (x.L 14) u4 [0,0,0,0,1,0,0,0,0,0,0,0,1,0,0,0,0,1,0] 0)))) fun c2=>(O.b (O.g (O.d (O.h c2 23) u2)) (O.a (ap O [.int u2,.rows u5,.int u4,.int (O.h c2 23)] (cr O c1 kM 2))) (O.b (O.d (O.p (x.L 14) u4 0) (O.lit .u8 4)) (O.c (O.f 67 [] (ap O (cr O c1 [0,2,0,0,0,0,0,0,0,1,0,0,0,0,3,0,0,1,3,0,0,0,0,0] 1) (ap O (cr O c2 kM 0) (rr O (x.L 14) u4 [0,0,0,0,0,1,0,0,0,0,1,0] 7)))) fun c3=>let u0:=(O.ab u5 (O.y [(cr O c3 [0,0,0,0,0,0,0,1,0,0,0,0,0,1,0,0,0,0,1,0,0,0,0,0,0,0,1,1,1,1,0,0] 0)]));(O.m (O.w (O.l u0) 216) (s1 (ap O [.rows u0,.int u1] (cr O c2 kM 0))))) (s1 (ap O [.rows u5,.int u1] (cr O c2 kM 0))))))) (O.a (ap O [.int u3,.rows u5] (cr O c1 kM 2))))) (ap O [.rows O.v,.int u2] (cr O c0 kM 0))) fun c1=>(O.b (O.ac c1 0) (O.a (ap O [.rows (O.o c1 1)] (ap O (cr O c1 kM 4) [.int (O.h c1 2),.int (O.h c1 3)]))) (O.a (ap O (cr O c1 [3,2,0,0,0,0,0,0,0,1,0,0,0,0,3,0,0,1,3,0,0,0,0,0] 1) [.int (lq9 O (-1)),.int u2]))))))
def ER (N:Nat):Env:=fun f fns ls=>(cond (Nat.beq f 65&&AB fns []) (Ry N ls) (cond (Nat.beq f 66&&AB fns []) (QN N ls) (cond (Nat.beq f 67&&AB fns []) (KB N ls) none)))
theorem bL {N ls}:ER N 65 [] ls=Ry N ls:=id rfl
theorem Qt {N ls}:ER N 66 [] ls=QN N ls:=id rfl
theorem Ld {N ls}:ER N 67 [] ls=KB N ls:=id rfl
def Im:=oS bp Ox ER
def Vj:List Nat:=[2,0,0,0,0,0,0,0,1,0,0,0,0,3,3]
def Kn (O:Alg) (x:Ags O):O.M:=(O.c (O.f 32 [] (xr x [2,0,0,0,0,0,0,0,1,0,0,0,0,3,3] 0)) fun c0=>(O.a (cr O c0 [2,0,0,0,0,0,0,0,1,0,0,0,0,3,0,0,1,3,0,0,0,0,0,0,0] 1)))
def FY (N:Nat):Env:=fun f fns ls=>(cond (Nat.beq f 32&&AB fns []) (Im N ls) none)
theorem ZA {N ls}:FY N 32 [] ls=Im N ls:=id rfl
def K2:=oS Vj Kn FY
def YD:List Nat:=[2,0,0,0,0,0,0,0,1,0,0,0,0,3,3]
def Mc (O:Alg) (x:Ags O):O.M:=let u0:=(lq9 O 0);(O.c (O.f 61 [] (xr x kR 0)) fun c0=>(O.b (O.g (O.d (O.h c0 0) u0)) (O.a [.int (O.h c0 0)]) (O.b (O.n (lq9 O 4000) (O.l (x.L 14))) (O.a [.int (lq9 O 9)]) (O.c (O.f 62 [] (xr x [2,0,0,0,0,0,0,0,1,0,0,0,0,3,3] 0)) fun c1=>(O.b (O.g (O.d (O.h c1 24) u0)) (O.a [.int (lq9 O 10)]) (O.a [.int u0]))))))
def Et (N:Nat):Env:=fun f fns ls=>(cond (Nat.beq f 61&&AB fns []) (Ab N ls) (cond (Nat.beq f 62&&AB fns []) (K2 N ls) none))
theorem W1 {N ls}:Et N 61 [] ls=Ab N ls:=id rfl
theorem X9 {N ls}:Et N 62 [] ls=K2 N ls:=id rfl
def M4:=oS YD Mc Et
def X1:List Nat:=[2,0,0,0,0,0,0,0,1,0,0,0,0,3,3]
def KH (O:Alg) (x:Ags O):O.M:=let u19:=(lq9 O 1);let u18:=(lq9 O 0);let u17:=(lq9 O (-1));(O.c (O.x (fun s0 c0=>let u22:=(O.h c0 0);let u21:=(O.o c0 1);let u15:=(O.l u21);let u8:=(O.p (x.L 14) u22 2);let u20:=(O.lit .u8 0);let u7:=(O.p (x.L 14) u22 0);let u6:=(O.q .i64 u22 u19);(O.b (O.n u22 (O.l (x.L 14))) (O.m (O.r u22 (O.l (x.L 14))) (O.b (O.d u7 (O.lit .u8 2)) (O.c (O.c (O.x (fun s1 c1=>let u28:=(O.h c1 1);let u24:=(O.h c1 0);(O.b (O.n u24 u15) (O.m (O.r u24 u15) (O.b (O.d (O.p u21 u24 0) u28) (O.a [.int u18,.int u24,.int u28]) (s1 [.int (O.q .i64 u24 u19),.int u28]))) (O.a [.int u19,.int u28]))) [.int u18,.int u8]) fun c1=>(O.b (O.ac c1 0) (O.a [.int (O.h c1 1),.int (O.h c1 2)]) (O.a [.int u17,.int (O.h c1 1)]))) fun c1=>let u11:=(O.ab u21 (O.y [[.int (O.h c1 1),.int u18,.int u18,.int u18,.int u18,.bool O.e,.int u20,.int u18,.int u18,.bool O.e]]));let u9:=(O.l u11);(O.c (O.b (O.n (O.h c1 0) u18) (O.m (O.w u9 72) (O.a [.int (O.t .i64 u9 u19),.rows u11])) (O.a [.int (O.h c1 0),.rows u21])) fun c2=>let u2:=(O.r (O.h c2 0) (O.l (O.o c2 1)));let u1:=(O.aa (O.o c2 1) (O.h c2 0) 9 [.bool (O.i (O.rB (O.o c2 1) (O.h c2 0) 9) O.j O.j)]);let u0:=(O.l u1);(O.m u2 (O.m u2 (O.c (O.c (O.x (fun s3 c3=>let u29:=(O.h c3 1);let u25:=(O.h c3 0);(O.b (O.n u25 u0) (O.m (O.r u25 u0) (O.b (O.d (O.p u1 u25 0) u29) (O.a [.int u18,.int u25,.int u29]) (s3 [.int (O.q .i64 u25 u19),.int u29]))) (O.a [.int u19,.int u29]))) [.int u18,.int (O.p (x.L 14) u22 3)]) fun c3=>(O.b (O.ac c3 0) (O.a [.int (O.h c3 1),.int (O.h c3 2)]) (O.a [.int u17,.int (O.h c3 1)]))) fun c3=>let u14:=(O.ab u1 (O.y [[.int (O.h c3 1),.int u18,.int u18,.int u18,.int u18,.bool O.e,.int u20,.int u18,.int u18,.bool O.e]]));let u12:=(O.l u14);(O.c (O.b (O.n (O.h c3 0) u18) (O.m (O.w u12 72) (O.a [.int (O.t .i64 u12 u19),.rows u14])) (O.a [.int (O.h c3 0),.rows u1])) fun c4=>let u3:=(O.r (O.h c4 0) (O.l (O.o c4 1)));(O.m u3 (O.m u3 (s0 [.int u6,.rows (O.aa (O.o c4 1) (O.h c4 0) 9 [.bool (O.i (O.rB (O.o c4 1) (O.h c4 0) 9) O.j O.j)])]))))))))) (O.b (O.d u7 (O.lit .u8 5)) (O.c (O.c (O.x (fun s1 c1=>let u30:=(O.h c1 1);let u26:=(O.h c1 0);(O.b (O.n u26 u15) (O.m (O.r u26 u15) (O.b (O.d (O.p u21 u26 0) u30) (O.a [.int u18,.int u26,.int u30]) (s1 [.int (O.q .i64 u26 u19),.int u30]))) (O.a [.int u19,.int u30]))) [.int u18,.int u8]) fun c1=>(O.b (O.ac c1 0) (O.a [.int (O.h c1 1),.int (O.h c1 2)]) (O.a [.int u17,.int (O.h c1 1)]))) fun c1=>let u13:=(O.ab u21 (O.y [[.int (O.h c1 1),.int u18,.int u18,.int u18,.int u18,.bool O.e,.int u20,.int u18,.int u18,.bool O.e]]));let u10:=(O.l u13);(O.c (O.b (O.n (O.h c1 0) u18) (O.m (O.w u10 72) (O.a [.int (O.t .i64 u10 u19),.rows u13])) (O.a [.int (O.h c1 0),.rows u21])) fun c2=>let u4:=(O.r (O.h c2 0) (O.l (O.o c2 1)));(O.m u4 (O.m u4 (s0 [.int u6,.rows (O.aa (O.o c2 1) (O.h c2 0) 9 [.bool (O.i (O.rB (O.o c2 1) (O.h c2 0) 9) O.j (O.g (O.rB (x.L 14) u22 4)))])]))))) (s0 [.int u6,.rows u21])))) (O.a [.rows u21]))) [.int u18,.rows O.v]) fun c0=>(O.c (O.x (fun s1 c1=>let u23:=(O.o c1 1);let u16:=(O.l u23);(O.b (O.s (O.h c1 0) (x.I 1)) (O.c (O.c (O.x (fun s2 c2=>let u31:=(O.h c2 1);let u27:=(O.h c2 0);(O.b (O.n u27 u16) (O.m (O.r u27 u16) (O.b (O.d (O.p u23 u27 0) u31) (O.a [.int u18,.int u27,.int u31]) (s2 [.int (O.q .i64 u27 u19),.int u31]))) (O.a [.int u19,.int u31]))) [.int u18,.int (O.h c1 0)]) fun c2=>(O.b (O.ac c2 0) (O.a [.int (O.h c2 1),.int (O.h c2 2)]) (O.a [.int u17,.int (O.h c2 1)]))) fun c2=>(O.c (O.b (O.n (O.h c2 0) u18) (O.m (O.w (O.l (O.ab u23 (O.y [[.int (O.h c2 1),.int u18,.int u18,.int u18,.int u18,.bool O.e,.int (O.lit .u8 0),.int u18,.int u18,.bool O.e]]))) 72) (O.a [.int (O.t .i64 (O.l (O.ab u23 (O.y [[.int (O.h c2 1),.int u18,.int u18,.int u18,.int u18,.bool O.e,.int (O.lit .u8 0),.int u18,.int u18,.bool O.e]]))) u19),.rows (O.ab u23 (O.y [[.int (O.h c2 1),.int u18,.int u18,.int u18,.int u18,.bool O.e,.int (O.lit .u8 0),.int u18,.int u18,.bool O.e]]))])) (O.a [.int (O.h c2 0),.rows u23])) fun c3=>let u5:=(O.r (O.h c3 0) (O.l (O.o c3 1)));(O.m u5 (O.m u5 (s1 [.int (O.q .i64 (O.h c1 0) u19),.rows (O.aa (O.o c3 1) (O.h c3 0) 9 [.bool (O.i (O.rB (O.o c3 1) (O.h c3 0) 9) O.j O.e)])]))))) (O.a [.rows u23]))) [.int u19,.rows (O.o c0 0)]) fun c1=>(O.a [.rows (O.o c1 0)])))
def Tt:Nat→Env:=eL []
def KO:=oS X1 KH Tt
def En:List Nat:=[3,3]
def CH (O:Alg) (x:Ags O):O.M:=let u0:=(lq9 O 0);(O.c (O.x (fun s0 c0=>let u1:=(O.h c0 0);(O.b (O.n u1 (O.l (x.L 0))) (O.m (O.r u1 (O.l (x.L 0))) (O.b (O.d (O.p (x.L 0) u1 0) (O.p (x.L 1) u0 0)) (O.a [.int u0,.int u1]) (s0 [.int (O.q .i64 u1 (lq9 O 1))]))) (O.a [.int (lq9 O 1)]))) [.int u0]) fun c0=>(O.b (O.ac c0 0) (O.a [.int (O.h c0 1)]) (O.a [.int (lq9 O (-1))])))
def B8 (N:Nat):Env:=fun f fns ls=>none
def CJ:=oS En CH B8
def Sn:List Nat:=[0,0,0,0,0,1,0,0,0,0,1,0,0,0]
def Gn (O:Alg) (x:Ags O):O.M:=(O.b (O.d (x.I 6) (O.lit .u8 0)) (O.a [.int (lq9 O 0)]) (O.b (O.d (x.I 7) (lq9 O 1)) (O.a [.int (x.I 12)]) (O.b (O.d (x.I 7) (lq9 O 2)) (O.a [.int (x.I 13)]) (O.a [.int (lq9 O 0)]))))
def O0:Nat→Env:=eL []
def Gq:=oS Sn Gn O0
def RT:List Nat:=[2,0,0,0,0,0,0,0,1,0,0,0,0,3,3,0]
def IK (O:Alg) (x:Ags O):O.M:=let u18:=(lq9 O 1);let u17:=(lq9 O 0);(O.c (O.f 27 [] (xr x [2,0,0,0,0,0,0,0,1,0,0,0,0,3,3] 0)) fun c0=>(O.b (O.g (O.d (O.h c0 0) u17)) (O.a [.rows O.v,.int (O.h c0 0)]) (O.c (O.f 17 [] [.rows (x.L 14)]) fun c1=>let u14:=(O.l (O.o c1 0));let u13:=(O.p (O.o c1 0) (x.I 15) 1);let u12:=(O.p (O.o c1 0) (x.I 15) 0);let u9:=(O.r (x.I 15) u14);let u6:=(O.ao (x.L 14) u12 u13);let u5:=(O.l u6);(O.b (O.i (O.n (x.I 15) u17) O.j (O.s u14 (x.I 15))) (O.a [.rows O.v,.int (lq9 O 2)]) (O.m u9 (O.m u9 (O.m (O.am u12 u13 (O.l (x.L 14))) (O.c (O.f 28 [] (ap O (xr x kR 0) [.rows u6])) fun c2=>(O.c (O.f 32 [] (xr x [2,0,0,0,0,0,0,0,1,0,0,0,0,3,3] 0)) fun c3=>let u20:=(O.o c3 0);let u15:=(O.l u20);(O.c (O.x (fun s4 c4=>let u23:=(O.o c4 1);let u19:=(O.h c4 0);let u11:=(O.p u20 u19 5);let u10:=(O.p u20 u19 12);let u7:=(O.q .i64 u19 u18);(O.b (O.n u19 u15) (O.m (O.r u19 u15) (O.b (O.g (O.d (O.p u20 u19 1) (x.I 15))) (s4 [.int u7,.rows u23]) (O.c (O.f 30 [31] [.rows u23,.rows (O.y [[.int u11]])]) fun c5=>let u21:=(O.h c5 0);let u1:=(O.aa u23 u21 1 [.int (O.q .i64 (O.p u23 u21 1) (O.p u20 u19 20))]);(O.m (O.r u21 (O.l u23)) (O.c (O.b (O.rB u20 u19 27) (O.a [.rows (O.aa u1 u21 2 [.int (O.q .i64 (O.p u1 u21 2) u18)])]) (O.a [.rows u1])) fun c6=>let u24:=(O.o c6 0);(O.c (O.b (O.i (O.d (O.p u20 u19 9) (O.lit .u8 1)) (O.d (O.p u20 u19 10) u17) O.e) (O.b (O.d u10 (lq9 O 4)) (O.a [.rows (O.aa u24 u21 3 [.int (O.q .i64 (O.p u24 u21 3) u18)])]) (O.b (O.d u10 (lq9 O 6)) (O.a [.rows (O.aa u24 u21 4 [.int (O.q .i64 (O.p u24 u21 4) u18)])]) (O.a [.rows u24]))) (O.a [.rows u24])) fun c7=>let u27:=(O.o c7 0);(O.c (O.f 33 [] (ap O (rr O u20 u19 [0,0,0,0,0,1,0,0,0,0,1,0] 8) [.int u11,.int (O.p u20 u19 6)])) fun c8=>(O.b (O.n u17 (O.h c8 0)) (O.c (O.f 30 [31] [.rows u27,.rows (O.y [[.int (O.h c8 0)]])]) fun c9=>let u26:=(O.h c9 0);let u0:=(O.aa (O.aa (O.aa u27 u26 5 [.bool O.j]) u26 6 [.int (O.p u20 u19 14)]) u26 8 [.int (O.p u20 u19 16)]);(O.m (O.r u26 (O.l u27)) (O.b (O.rB u20 u19 28) (s4 [.int u7,.rows (O.aa u0 u26 7 [.int (O.p u20 u19 4)])]) (s4 [.int u7,.rows u0])))) (s4 [.int u7,.rows u27]))))))))) (O.a [.rows u23]))) [.int u17,.rows (O.o c2 0)]) fun c4=>(O.c (O.x (fun s5 c5=>let u25:=(O.h c5 0);let u22:=(O.o c5 1);let u16:=(O.l u22);let u8:=(O.q .i64 u25 u18);let u4:=(O.rB u6 u25 4);let u3:=(O.p u6 u25 0);let u2:=(O.y [[.int (O.p u6 u25 2)]]);(O.b (O.n u25 u5) (O.m (O.r u25 u5) (O.b (O.i (O.d u3 (O.lit .u8 5)) u4 O.e) (O.c (O.f 30 [31] [.rows u22,.rows u2]) fun c6=>(O.m (O.r (O.h c6 0) u16) (s5 [.int u8,.rows (O.aa (O.aa u22 (O.h c6 0) 5 [.bool O.j]) (O.h c6 0) 6 [.int (O.lit .u8 9)])]))) (O.b (O.i (O.d u3 (O.lit .u8 6)) (O.g u4) O.e) (O.c (O.f 30 [31] [.rows u22,.rows u2]) fun c6=>(O.m (O.r (O.h c6 0) u16) (s5 [.int u8,.rows (O.aa (O.aa u22 (O.h c6 0) 5 [.bool O.j]) (O.h c6 0) 6 [.int (O.lit .u8 10)])]))) (s5 [.int u8,.rows u22])))) (O.a [.rows u22]))) [.int u17,.rows (O.o c4 0)]) fun c5=>(O.a [.rows (O.o c5 0),.int u17]))))))))))))
def Bb (N:Nat):Env:=fun f fns ls=>(cond (Nat.beq f 17&&AB fns []) (Le N ls) (cond (Nat.beq f 27&&AB fns []) (M4 N ls) (cond (Nat.beq f 28&&AB fns []) (KO N ls) (cond (Nat.beq f 30&&AB fns [31]) (CJ N ls) (cond (Nat.beq f 32&&AB fns []) (Im N ls) (cond (Nat.beq f 33&&AB fns []) (Gq N ls) none))))))
theorem TB {N ls}:Bb N 17 [] ls=Le N ls:=id rfl
theorem VZ {N ls}:Bb N 27 [] ls=M4 N ls:=id rfl
theorem Ra {N ls}:Bb N 28 [] ls=KO N ls:=id rfl
theorem JR {N ls}:Bb N 30 [31] ls=CJ N ls:=id rfl
theorem Wu {N ls}:Bb N 32 [] ls=Im N ls:=id rfl
theorem Ot {N ls}:Bb N 33 [] ls=Gq N ls:=id rfl
def Cw:=oS RT IK Bb
def M1:List Nat:=[3,3]
def EB (O:Alg) (x:Ags O):O.M:=let u0:=(O.l (x.L 0));(O.b (O.g (O.d u0 (O.l (x.L 1)))) (O.a [.bool O.e]) (O.c (O.x (fun s0 c0=>let u1:=(O.h c0 0);(O.b (O.n u1 u0) (O.m (O.r u1 u0) (O.m (O.r u1 (O.l (x.L 1))) (O.b (O.g (O.z (O.d (O.p (x.L 0) u1 0) (O.p (x.L 1) u1 0)) (O.z (O.d (O.p (x.L 0) u1 1) (O.p (x.L 1) u1 1)) (O.z (O.d (O.p (x.L 0) u1 2) (O.p (x.L 1) u1 2)) (O.z (O.d (O.p (x.L 0) u1 3) (O.p (x.L 1) u1 3)) (O.z (O.d (O.p (x.L 0) u1 4) (O.p (x.L 1) u1 4)) (O.z (O.aj (O.rB (x.L 0) u1 5) (O.rB (x.L 1) u1 5)) (O.z (O.d (O.p (x.L 0) u1 6) (O.p (x.L 1) u1 6)) (O.z (O.d (O.p (x.L 0) u1 7) (O.p (x.L 1) u1 7)) (O.z (O.d (O.p (x.L 0) u1 8) (O.p (x.L 1) u1 8)) (O.aj (O.rB (x.L 0) u1 9) (O.rB (x.L 1) u1 9)))))))))))) (O.a [.int (lq9 O 0),.bool O.e]) (s0 [.int (O.q .i64 u1 (lq9 O 1))])))) (O.a [.int (lq9 O 1)]))) [.int (lq9 O 0)]) fun c0=>(O.b (O.ac c0 0) (O.a [.bool (O.k c0 1)]) (O.a [.bool O.j]))))
def Ki:Nat→Env:=eL []
def Bw:=oS M1 EB Ki
def dK:List Nat:=[2,3,0,0,0]
def dl (O:Alg) (x:Ags O):O.M:=let u3:=(O.u ⟨#[32,40,99,41]⟩);let u2:=(O.u ⟨#[32,40,107,41]⟩);let u1:=(O.t .i64 (x.I 4) (lq9 O 1));let u0:=(O.rS (x.L 1) u1 0);(O.b (O.i (O.n (x.I 4) (lq9 O 1)) O.j (O.n (O.l (x.L 1)) (x.I 4))) (O.a [.str (O.u ⟨#[]⟩)]) (O.m (O.r u1 (O.l (x.L 1))) (O.c (O.b (O.d (x.I 4) (x.I 2)) (O.m (O.w (O.af u0) 1) (O.m (O.w (O.af u3) 1) (O.a [.str (O.ak u0 u3)]))) (O.a [.str u0])) fun c0=>let u4:=(O.cS c0 0);(O.b (O.d (x.I 4) (x.I 3)) (O.m (O.w (O.af u4) 1) (O.m (O.w (O.af u2) 1) (O.a [.str (O.ak u4 u2)]))) (O.a [.str u4])))))
def nF:Nat→Env:=eL []
def Nl:=oS dK dl nF
def ON:List Nat:=[3,2]
def Oe (O:Alg) (x:Ags O):O.M:=(O.c (O.x (fun s0 c0=>let u0:=(O.h c0 0);(O.b (O.n u0 (O.l (x.L 0))) (O.m (O.r u0 (O.l (x.L 0))) (O.b (O.an (x.S 1) (O.rS (x.L 0) u0 0)) (O.a [.int (lq9 O 0),.int u0]) (s0 [.int (O.q .i64 u0 (lq9 O 1))]))) (O.a [.int (lq9 O 1)]))) [.int (lq9 O 0)]) fun c0=>(O.b (O.ac c0 0) (O.a [.int (O.h c0 1)]) (O.a [.int (lq9 O (-1))])))
def W3:Nat→Env:=eL []
def IP:=oS ON Oe W3
def Lc:List Nat:=[3,2]
def LI (O:Alg) (x:Ags O):O.M:=(O.c (O.f 98 [] [.rows (x.L 0),.str (x.S 1)]) fun c0=>(O.a [.bool (O.s (lq9 O 0) (O.h c0 0))]))
def TJ:Nat→Env:=eL [(98,IP)]
def Fz:=oS Lc LI TJ
def dX:List Nat:=[2,3,0,0]
def eV (O:Alg) (x:Ags O):O.M:=let u4:=(O.u ⟨#[]⟩);let u3:=(lq9 O 0);let u2:=(O.l (x.L 1));(O.c (O.f 73 [] [.str (x.S 0)]) fun c0=>(O.b (O.g (O.k c0 0)) (O.a [.int (lq9 O 5)]) (O.b (O.i (O.n u2 (lq9 O 2)) O.j (O.n (lq9 O 11) u2)) (O.a [.int (lq9 O 9)]) (O.c (O.x (fun s1 c1=>let u5:=(O.h c1 0);let u1:=(O.rS (x.L 1) u5 0);(O.b (O.n u5 u2) (O.m (O.r u5 u2) (O.c (O.f 73 [] [.str u1]) fun c2=>(O.b (O.g (O.k c2 0)) (O.a [.int u3,.int (lq9 O 5)]) (O.m (O.am u3 u5 u2) (O.c (O.f 74 [] [.rows (O.ao (x.L 1) u3 u5),.str u1]) fun c3=>(O.b (O.k c3 0) (O.a [.int u3,.int (lq9 O 7)]) (s1 [.int (O.q .i64 u5 (lq9 O 1))]))))))) (O.a [.int (lq9 O 1)]))) [.int u3]) fun c1=>(O.b (O.ac c1 0) (O.a [.int (O.h c1 1)]) (O.c (O.f 42 [] (ap O (xr x [2,3,0,0] 0) [.int (x.I 2)])) fun c2=>let u0:=(O.an (O.cS c2 0) u4);(O.c (O.b (O.g u0) (O.f 42 [] (ap O (xr x [2,3,0,0] 0) [.int (x.I 3)])) (O.a [.str u4])) fun c3=>(O.b (O.i u0 O.j (O.an (O.cS c3 0) u4)) (O.a [.int (lq9 O 6)]) (O.a [.int u3])))))))))
def oa:Nat→Env:=eL [(42,Nl),(73,HJ),(74,Fz)]
def eR:=oS dX eV oa
def Vn:List Nat:=[0,0,2,3,0,0]
def WY (O:Alg) (x:Ags O):O.M:=(O.a [.bool (O.i (O.s (x.I 1) (x.I 0)) (O.s (x.I 0) (O.l (x.L 3))) O.e)])
def iJ:Nat→Env:=eL []
def Wi:=oS Vn WY iJ
def Tr:List Nat:=[0,0,0,0,0,1,0,0,0,1]
def UF (O:Alg) (x:Ags O):O.M:=let u0:=(lq9 O 1000000);(O.a [.bool (O.i (O.i (O.i (O.s (lq9 O 0) (x.I 1)) (O.s (x.I 1) u0) O.e) (O.s (lq9 O 0) (x.I 2)) O.e) (O.s (x.I 2) u0) O.e)])
def fH:Nat→Env:=eL []
def Tp:=oS Tr UF fH
def Vw:List Nat:=[0]
def Wh (O:Alg) (x:Ags O):O.M:=(O.c (O.f 75 [] [.int (x.I 0)]) fun c0=>(O.a [.str (O.cS c0 1)]))
def hG:Nat→Env:=eL [(75,D7)]
def Vb:=oS Vw Wh hG
def I2 (N:Nat) (ls:List PV):Option (List PV):=ADa ls
def Qo:List Nat:=[0,0]
def Qw (O:Alg) (x:Ags O):O.M:=(O.c (O.f 101 [] [.int (x.I 0),.int (x.I 1)]) fun c0=>(O.a [.str (O.cS c0 0)]))
def aK:Nat→Env:=eL [(101,I2)]
def J4:=oS Qo Qw aK
def ZV:List Nat:=[0]
def aA (O:Alg) (x:Ags O):O.M:=(O.c (O.f 77 [] [.int (x.I 0),.int (lq9 O 10)]) fun c0=>(O.a [.str (O.cS c0 0)]))
def my:Nat→Env:=eL [(77,J4)]
def ZP:=oS ZV aA my
def Rk:List Nat:=[3,2,3,0,0,2,3,0,0]
def RC (O:Alg) (x:Ags O):O.M:=let u30:=(lq9 O 1);let u29:=(O.u ⟨#[]⟩);let u28:=(lq9 O 0);let u27:=(O.u ⟨#[32,40]⟩);let u26:=(O.u ⟨#[58,32]⟩);let u24:=(O.u ⟨#[32,98,32]⟩);let u23:=(O.u ⟨#[32,99,32]⟩);let u12:=(O.y [(xr x [2,3,0,0] 1),(xr x [2,3,0,0] 5)]);let u9:=(O.l u12);(O.c (O.x (fun s0 c0=>let u32:=(O.h c0 0);(O.b (O.n u32 u9) (O.m (O.r u32 u9) (O.c (O.f 37 [] (rr O u12 u32 [2,3,0,0] 0)) fun c1=>(O.b (O.g (O.d (O.h c1 0) u28)) (O.a [.int u28,.str u29,.int (O.h c1 0)]) (s0 [.int (O.q .i64 u32 u30)])))) (O.a [.int u30]))) [.int u28]) fun c0=>(O.b (O.ac c0 0) (O.a [.str (O.cS c0 1),.int (O.h c0 2)]) (O.c (O.x (fun s1 c1=>let u31:=(O.h c1 0);let u22:=(O.p (x.L 0) u31 6);let u21:=(O.p (x.L 0) u31 0);let u20:=(O.p (x.L 0) u31 8);let u19:=(O.p (x.L 0) u31 7);let u18:=(O.rB (x.L 0) u31 5);let u16:=(O.g u18);let u15:=(O.q .i64 u31 u30);(O.b (O.n u31 (O.l (x.L 0))) (O.m (O.r u31 (O.l (x.L 0))) (O.c (O.f 38 [] (ap O [.int u21,.int u30] (xr x [2,3,0,0] 1))) fun c2=>let u25:=(O.g (O.k c2 0));(O.c (O.b (O.g u25) (O.f 38 [] (ap O [.int u19,.int u28] (xr x [2,3,0,0] 5))) (O.a [.bool O.e])) fun c3=>let u10:=(O.i u25 O.j (O.g (O.k c3 0)));(O.c (O.b (O.g u10) (O.f 38 [] (ap O [.int u20,.int u28] (xr x [2,3,0,0] 5))) (O.a [.bool O.e])) fun c4=>let u5:=(O.i u10 O.j (O.g (O.k c4 0)));(O.c (O.b (O.g u5) (O.f 39 [] (rr O (x.L 0) u31 [0,0,0,0,0,1,0,0,0,1] 0)) (O.a [.bool O.e])) fun c5=>(O.b (O.i u5 O.j (O.g (O.k c5 0))) (O.a [.int u28,.str u29,.int (lq9 O 2)]) (O.c (O.b u18 (O.f 40 [] [.int u22]) (O.a [.str u29])) fun c6=>(O.b (O.i u18 (O.an (O.cS c6 0) u29) O.e) (O.a [.int u28,.str u29,.int (lq9 O 3)]) (O.c (O.f 42 [] (ap O (xr x [2,3,0,0] 1) [.int u21])) fun c7=>let u7:=(O.ab (O.o c1 2) (O.al (O.ak (O.cS c7 0) u26)));let u4:=(O.ab u7 (O.al (O.u ⟨#[68,73,68,32,78,79,84,32,66,65,84,10]⟩)));(O.m (O.w (O.af (O.cS c7 0)) 1) (O.m (O.w (O.af u26) 1) (O.m (O.w (O.l u7) 1) (O.b (O.i (O.g (O.rB (x.L 0) u31 9)) u16 O.e) (O.m (O.w (O.l u4) 1) (s1 [.int u15,.bool O.j,.rows u4])) (O.c (O.f 43 [] [.int (O.p (x.L 0) u31 1)]) fun c8=>let u14:=(O.ak (O.cS c8 0) u27);(O.m (O.w (O.af (O.cS c8 0)) 1) (O.m (O.w (O.af u27) 1) (O.c (O.f 43 [] [.int (O.p (x.L 0) u31 2)]) fun c9=>let u8:=(O.ak u14 (O.cS c9 0));let u17:=(O.y [[.int (O.lit .u8 10)]]);let u3:=(O.ab u7 (O.al (O.ak u8 (O.u ⟨#[41]⟩))));let u1:=(O.ab u3 (O.al (O.u ⟨#[32,78,79,84,32,79,85,84,10]⟩)));(O.m (O.w (O.af u14) 1) (O.m (O.w (O.af (O.cS c9 0)) 1) (O.m (O.w (O.af u8) 1) (O.m (O.w (O.af (O.u ⟨#[41]⟩)) 1) (O.m (O.w (O.l u3) 1) (O.b u16 (O.m (O.w (O.l u1) 1) (s1 [.int u15,.bool O.j,.rows u1])) (O.c (O.f 40 [] [.int u22]) fun c10=>let u2:=(O.ab u3 (O.al (O.ak (O.u ⟨#[32]⟩) (O.cS c10 0))));(O.m (O.w (O.af (O.u ⟨#[32]⟩)) 1) (O.m (O.w (O.af (O.cS c10 0)) 1) (O.m (O.w (O.l u2) 1) (O.c (O.b (O.n u28 u20) (O.c (O.f 42 [] (ap O (xr x [2,3,0,0] 5) [.int u20])) fun c11=>let u0:=(O.ab u2 (O.al (O.ak u23 (O.cS c11 0))));(O.m (O.w (O.af u23) 1) (O.m (O.w (O.af (O.cS c11 0)) 1) (O.m (O.w (O.l u0) 1) (O.a [.bool O.j,.rows u0]))))) (O.a [.bool O.j,.rows u2])) fun c11=>let u11:=(O.ab (O.o c11 1) u17);(O.b (O.n u28 u19) (O.c (O.f 42 [] (ap O (xr x [2,3,0,0] 5) [.int u19])) fun c12=>let u6:=(O.ab (O.o c11 1) (O.al (O.ak u24 (O.cS c12 0))));let u13:=(O.ab u6 u17);(O.m (O.w (O.af u24) 1) (O.m (O.w (O.af (O.cS c12 0)) 1) (O.m (O.w (O.l u6) 1) (O.m (O.w (O.l u13) 1) (s1 [.int u15,.bool O.j,.rows u13])))))) (O.m (O.w (O.l u11) 1) (s1 [.int u15,.bool O.j,.rows u11]))))))))))))))))))))))))))))))) (O.a [.int u30,.bool O.j,.rows (O.o c1 2)]))) [.int u28,.bool O.j,.rows O.v]) fun c1=>(O.b (O.ac c1 0) (O.a [.str (O.cS c1 1),.int (O.h c1 2)]) (O.m (O.w (O.l (O.o c1 2)) 1) (O.m (O.aw (O.o c1 2)) (O.a [.str (O.av (O.o c1 2)),.int u28])))))))
def JE (N:Nat):Env:=fun f fns ls=>(cond (Nat.beq f 37&&AB fns []) (eR N ls) (cond (Nat.beq f 38&&AB fns []) (Wi N ls) (cond (Nat.beq f 39&&AB fns []) (Tp N ls) (cond (Nat.beq f 40&&AB fns []) (Vb N ls) (cond (Nat.beq f 42&&AB fns []) (Nl N ls) (cond (Nat.beq f 43&&AB fns []) (ZP N ls) none))))))
def Fb:=oS Rk RC JE
def kN:List Nat:=[]
def kG (O:Alg) (x:Ags O):O.M:=let u1:=(lq9 O 0);let u0:=(lq9 O 1);(O.a [.str (O.u ⟨#[84,69,83,84]⟩),.int (lq9 O 2),.int u0,.int u0,.int (lq9 O 4),.int u1,.int u0,.int u0,.bool O.e,.int u1,.int u1,.int u1,.int (lq9 O 11),.rows O.v])
def uL:Nat→Env:=eL []
def Mn:=oS kN kG uL
def kz:List Nat:=[0,0,0,0,0,1,0,0,0,0,1,0]
def kd (O:Alg) (x:Ags O):O.M:=let u0:=(lq9 O 0);(O.a (ap O [.int (O.lit .u8 4),.int u0,.int u0,.int u0,.bool O.e,.int u0,.int u0] (xr x [0,0,0,0,0,1,0,0,0,0,1,0] 0)))
def uF:Nat→Env:=eL []
def YM:=oS kz kd uF
def sn:List Nat:=[]
def sN (O:Alg) (x:Ags O):O.M:=let u2:=(lq9 O 2);let u1:=(lq9 O 1);let u0:=(lq9 O 0);(O.c (O.f 60 [] [.int (O.lit .u8 1),.int (O.lit .u8 1),.int u1,.int u0,.int u0,.bool O.e,.int (O.lit .u8 0),.int u0,.int u0,.int u0,.bool O.e,.int u0]) fun c0=>(O.c (O.f 60 [] [.int (O.lit .u8 1),.int (O.lit .u8 0),.int u0,.int u0,.int u0,.bool O.e,.int (O.lit .u8 1),.int u1,.int u0,.int u0,.bool O.e,.int u0]) fun c1=>(O.c (O.f 60 [] [.int (O.lit .u8 2),.int (O.lit .u8 0),.int u0,.int u0,.int u0,.bool O.e,.int (O.lit .u8 0),.int u0,.int u0,.int u0,.bool O.e,.int u0]) fun c2=>(O.c (O.f 60 [] [.int (O.lit .u8 1),.int (O.lit .u8 1),.int u0,.int u0,.int (lq9 O 4),.bool O.e,.int (O.lit .u8 0),.int u0,.int u0,.int u0,.bool O.e,.int u0]) fun c3=>(O.a [.rows (O.y [[.int (O.lit .u8 1),.int u1,.int u0,.int u0,.bool O.j,.int u0,.int u0,.int (O.lit .u8 0),.int (O.lit .u8 0),.int u0,.int u0,.int u0,.bool O.e,.int (O.lit .u8 0),.int u0,.int u0,.int u0,.bool O.e,.int u0],[.int (O.lit .u8 2),.int u0,.int u1,.int u2,.bool O.e,.int u0,.int u0,.int (O.lit .u8 0),.int (O.lit .u8 0),.int u0,.int u0,.int u0,.bool O.e,.int (O.lit .u8 0),.int u0,.int u0,.int u0,.bool O.e,.int u0],[.int (O.lit .u8 8),.int u0,.int u2,.int u0,.bool O.e,.int u0,.int u0,.int (O.lit .u8 0),.int (O.lit .u8 0),.int u0,.int u0,.int u0,.bool O.e,.int (O.lit .u8 0),.int u0,.int u0,.int u0,.bool O.e,.int u0],[.int (O.lit .u8 3),.int u0,.int u1,.int u0,.bool O.e,.int u0,.int u0,.int (O.lit .u8 0),.int (O.lit .u8 0),.int u0,.int u0,.int u0,.bool O.e,.int (O.lit .u8 0),.int u0,.int u0,.int u0,.bool O.e,.int u0],(cr O c0 [0,0,0,0,1,0,0,0,0,0,0,0,1,0,0,0,0,1,0] 0),(cr O c1 [0,0,0,0,1,0,0,0,0,0,0,0,1,0,0,0,0,1,0] 0),[.int (O.lit .u8 2),.int u0,.int u2,.int u1,.bool O.e,.int u0,.int u0,.int (O.lit .u8 0),.int (O.lit .u8 0),.int u0,.int u0,.int u0,.bool O.e,.int (O.lit .u8 0),.int u0,.int u0,.int u0,.bool O.e,.int u0],[.int (O.lit .u8 8),.int u0,.int u1,.int u0,.bool O.e,.int u0,.int u0,.int (O.lit .u8 0),.int (O.lit .u8 0),.int u0,.int u0,.int u0,.bool O.e,.int (O.lit .u8 0),.int u0,.int u0,.int u0,.bool O.e,.int u0],[.int (O.lit .u8 3),.int u0,.int u2,.int u0,.bool O.e,.int u0,.int u0,.int (O.lit .u8 0),.int (O.lit .u8 0),.int u0,.int u0,.int u0,.bool O.e,.int (O.lit .u8 0),.int u0,.int u0,.int u0,.bool O.e,.int u0],(cr O c2 [0,0,0,0,1,0,0,0,0,0,0,0,1,0,0,0,0,1,0] 0),(cr O c3 [0,0,0,0,1,0,0,0,0,0,0,0,1,0,0,0,0,1,0] 0)])])))))
def yx:Nat→Env:=eL [(60,YM)]
def Sf:=oS sn sN yx
def lX:List Nat:=[]
def Ro (O:Alg) (x:Ags O):O.M:=let u3:=(lq9 O 2);let u2:=(lq9 O 1);let u1:=(lq9 O 0);(O.c (O.f 25 [] []) fun c0=>(O.c (O.f 26 [] []) fun c1=>(O.c (O.f 10 [] (ap O (cr O c0 kR 0) [.rows (O.o c1 0),.int u1])) fun c2=>(O.c (O.f 14 [] [.rows (O.o c2 0),.str (O.u ⟨#[79,65,75,83]⟩),.rows (O.y [[.str (O.u ⟨#[65,78,78]⟩)],[.str (O.u ⟨#[66,79,66]⟩)]]),.int u2,.int u3,.str (O.u ⟨#[69,76,77,83]⟩),.rows (O.y [[.str (O.u ⟨#[67,76,69,79]⟩)],[.str (O.u ⟨#[68,65,78]⟩)]]),.int u3,.int u3]) fun c3=>let u0:=(O.i (O.d (O.h c2 1) u1) (O.d (O.h c3 1) u1) O.e);(O.c (O.b u0 (O.f 12 [] [.rows (O.o c2 0),.rows (O.y [[.int u2,.int u2,.int u2,.int u1,.int u1,.bool O.e,.int (O.lit .u8 0),.int u1,.int u1,.bool O.j],[.int u3,.int u1,.int u2,.int u1,.int u1,.bool O.j,.int (O.lit .u8 1),.int u2,.int u1,.bool O.j]])]) (O.a [.bool O.e])) fun c4=>(O.a [.bool (O.i (O.i u0 (O.k c4 0) O.e) (O.an (O.cS c3 0) (O.u ⟨#[65,78,78,32,40,99,41,58,32,49,32,40,49,41,32,78,79,84,32,79,85,84,10,66,79,66,32,40,107,41,58,32,48,32,40,49,41,32,66,79,87,76,69,68,32,98,32,67,76,69,79,10]⟩)) O.e)]))))))
def Eu:Nat→Env:=eL [(10,Cw),(12,Bw),(14,Fb),(25,Mn),(26,Sf)]
theorem V1 {N ls}:Eu N 10 [] ls=Cw N ls:=id rfl
theorem N1 {N ls}:Eu N 12 [] ls=Bw N ls:=id rfl
theorem WX {N ls}:Eu N 14 [] ls=Fb N ls:=id rfl
theorem ZM {N ls}:Eu N 25 [] ls=Mn N ls:=id rfl
theorem fI {N ls}:Eu N 26 [] ls=Sf N ls:=id rfl
def Mq:=oS lX Ro Eu
def ic:List Nat:=[3]
def SX (O:Alg) (x:Ags O):O.M:=let u1:=(O.l (x.L 0));let u0:=(O.ae (O.n (lq9 O 60) u1) (lq9 O 60) u1);(O.m (O.am (lq9 O 0) u0 u1) (O.a [.rows (O.ao (x.L 0) (lq9 O 0) u0)]))
def MZ (N:Nat):Env:=fun f fns ls=>none
def TF:=oS ic SX MZ
def nv:List Nat:=[2]
def U0 (O:Alg) (x:Ags O):O.M:=let u3:=(lq9 O 0);let u2:=(O.af (x.S 0));(O.b (O.i (O.an (x.S 0) (O.u ⟨#[]⟩)) O.j (O.n (lq9 O 16) u2)) (O.a [.bool O.e]) (O.c (O.x (fun s0 c0=>let u4:=(O.h c0 0);let u1:=(O.au (x.S 0) u4);let u0:=(O.q .i64 u4 (lq9 O 1));(O.b (O.n u4 u2) (O.m (O.r u4 u2) (O.b (O.i (O.s (O.lit .u8 65) u1) (O.s u1 (O.lit .u8 90)) O.e) (s0 [.int u0]) (O.b (O.i (O.d u4 u3) O.j (O.i (O.i (O.g (O.d u1 (O.lit .u8 95))) (O.g (O.d u1 (O.lit .u8 45))) O.e) (O.i (O.n u1 (O.lit .u8 48)) O.j (O.n (O.lit .u8 57) u1)) O.e)) (O.a [.int u3,.bool O.e]) (s0 [.int u0])))) (O.a [.int (lq9 O 1)]))) [.int u3]) fun c0=>(O.b (O.ac c0 0) (O.a [.bool (O.k c0 1)]) (O.a [.bool O.j]))))
def gJ:Nat→Env:=eL []
def Oz:=oS nv U0 gJ
def vR:List Nat:=[0,0,0]
def xT (O:Alg) (x:Ags O):O.M:=(O.a [.bool (O.i (O.s (x.I 1) (x.I 0)) (O.s (x.I 0) (x.I 2)) O.e)])
def AAU:Nat→Env:=eL []
def Vc:=oS vR xT AAU
def kK:List Nat:=[2,0,0,0,0,0,0,0,1,0,0,0,0,3]
def Rt (O:Alg) (x:Ags O):O.M:=let u22:=(lq9 O 8);let u21:=(lq9 O 5);let u20:=(lq9 O 2);let u19:=(lq9 O 1);let u18:=(lq9 O 0);let u17:=(lq9 O 11);let u16:=(O.l (x.L 13));let u11:=(O.g (O.d (x.I 5) u18));(O.c (O.f 78 [] [.str (x.S 0)]) fun c0=>(O.b (O.g (O.k c0 0)) (O.a [.int u21]) (O.c (O.f 111 [] [.int (x.I 1),.int u20,.int u17]) fun c1=>let u15:=(O.g (O.k c1 0));(O.c (O.b (O.g u15) (O.f 111 [] [.int (x.I 2),.int u19,.int u20]) (O.a [.bool O.e])) fun c2=>let u9:=(O.i u15 O.j (O.g (O.k c2 0)));(O.c (O.b (O.g u9) (O.f 111 [] [.int (x.I 3),.int u18,.int (lq9 O 90)]) (O.a [.bool O.e])) fun c3=>let u8:=(O.i u9 O.j (O.g (O.k c3 0)));(O.c (O.b (O.g u8) (O.f 111 [] [.int (x.I 4),.int (lq9 O 4),.int u22]) (O.a [.bool O.e])) fun c4=>let u7:=(O.i u8 O.j (O.g (O.k c4 0)));(O.c (O.b (O.g u7) (O.f 111 [] [.int (x.I 5),.int u18,.int (lq9 O 90)]) (O.a [.bool O.e])) fun c5=>let u6:=(O.i u7 O.j (O.g (O.k c5 0)));(O.c (O.b (O.g u6) (O.f 111 [] [.int (x.I 6),.int u19,.int u21]) (O.a [.bool O.e])) fun c6=>let u4:=(O.i u6 O.j (O.g (O.k c6 0)));(O.c (O.b (O.g u4) (O.f 111 [] [.int (x.I 7),.int u19,.int u21]) (O.a [.bool O.e])) fun c7=>let u3:=(O.i u4 O.j (O.g (O.k c7 0)));(O.c (O.b (O.g u3) (O.f 111 [] [.int (x.I 9),.int u18,.int (lq9 O 200)]) (O.a [.bool O.e])) fun c8=>let u2:=(O.i u3 O.j (O.g (O.k c8 0)));(O.c (O.b (O.g u2) (O.f 111 [] [.int (x.I 10),.int u18,.int (lq9 O 1000)]) (O.a [.bool O.e])) fun c9=>let u1:=(O.i u2 O.j (O.g (O.k c9 0)));(O.c (O.b (O.g u1) (O.f 111 [] [.int (x.I 11),.int u18,.int (lq9 O 9)]) (O.a [.bool O.e])) fun c10=>let u0:=(O.i u1 O.j (O.g (O.k c10 0)));(O.c (O.b (O.g u0) (O.f 111 [] [.int (x.I 12),.int u18,.int u17]) (O.a [.bool O.e])) fun c11=>(O.b (O.i u0 O.j (O.g (O.k c11 0))) (O.a [.int u20]) (O.b (O.i (O.i (O.g (O.d (x.I 10) u18)) (O.d (x.I 2) u19) O.e) O.j (O.i (O.d (x.I 3) u18) (O.i u11 O.j (O.n u18 u16)) O.e)) (O.a [.int u19]) (O.b (O.i u11 (O.n (O.ai .i64 (x.I 5) (x.I 1)) (x.I 3)) O.e) (O.a [.int (lq9 O 13)]) (O.b (O.n u22 u16) (O.a [.int (lq9 O 9)]) (O.c (O.x (fun s12 c12=>let u23:=(O.h c12 0);let u14:=(O.p (x.L 13) u23 1);let u13:=(O.p (x.L 13) u23 0);let u12:=(O.n u18 u23);let u10:=(O.t .i64 u23 u19);let u5:=(O.i (O.i (O.n u13 u19) O.j (O.n u14 u13)) O.j (O.n (x.I 3) u14));(O.b (O.n u23 u16) (O.m (O.r u23 u16) (O.c (O.b (O.g u5) (O.f 111 [] [.int (O.p (x.L 13) u23 2),.int u18,.int u17]) (O.a [.bool O.e])) fun c13=>(O.b (O.i u5 O.j (O.g (O.k c13 0))) (O.a [.int u18,.int u20]) (O.m (O.g (O.z u12 (O.g (O.r u10 u16)))) (O.b (O.i u12 (O.s u13 (O.p (x.L 13) u10 1)) O.e) (O.a [.int u18,.int u22]) (s12 [.int (O.q .i64 u23 u19)])))))) (O.a [.int u19]))) [.int u18]) fun c12=>(O.b (O.ac c12 0) (O.a [.int (O.h c12 1)]) (O.a [.int u18]))))))))))))))))))))
def NE:Nat→Env:=eL [(78,Oz),(111,Vc)]
def Ap:=oS kK Rt NE
def j0:List Nat:=[2,0,0,0,0,0,0,0,1,0,0,0,0,3]
def SM (O:Alg) (x:Ags O):O.M:=let u0:=(O.ab (O.y []) (x.L 13));(O.m (O.w (O.l u0) 24) (O.a (ap O (xr x [2,0,0,0,0,0,0,0,1,0,0,0,0] 0) [.rows u0])))
def di:Nat→Env:=eL []
def FT:=oS j0 SM di
end Go.Px
