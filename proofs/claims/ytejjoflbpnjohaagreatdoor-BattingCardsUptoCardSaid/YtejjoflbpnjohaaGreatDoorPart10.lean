/- Part 10. -/
import Derived.Test.YtejjoflbpnjohaaGreatDoorPart07
import Derived.Test.YtejjoflbpnjohaaGreatDoorPart09
set_option linter.unusedVariables false
set_option linter.unusedSimpArgs false
namespace Go.Px
set_option maxRecDepth 100000
def tA:List Nat:=[2,0,0,0,0,0,0,0,1,0,0,0,0,3]
def XT (O:Alg) (x:Ags O):O.M:=let u0:=(lq9 O 0);(O.c (O.f 93 [] (xr x kR 0)) fun c0=>(O.b (O.g (O.d (O.h c0 0) u0)) (O.a [.str (O.u ⟨#[]⟩),.int u0,.int u0,.int u0,.int u0,.int u0,.int u0,.int u0,.bool O.e,.int u0,.int u0,.int u0,.int u0,.rows O.v,.int (O.lit .u8 0),.int u0,.bool O.e,.rows O.v,.int u0,.int u0,.int (O.lit .u8 0),.int u0,.int u0,.int (O.h c0 0)]) (O.c (O.f 113 [] (xr x kR 0)) fun c1=>(O.a (ap O (cr O c1 kR 0) [.int (O.lit .u8 1),.int u0,.bool O.e,.rows O.v,.int u0,.int u0,.int (O.lit .u8 0),.int u0,.int u0,.int u0])))))
def R5:Nat→Env:=eL [(93,Ap),(113,FT)]
theorem fF {N ls}:R5 N 93 [] ls=Ap N ls:=id rfl
theorem ed {N ls}:R5 N 113 [] ls=FT N ls:=id rfl
def Oa:=oS tA XT R5
def jy:List Nat:=[0,0,0,0,0,0,0,0,0,0,0,0,0,0,3,0,3,3,1,3,1,0,0,0,3,0,0,0]
def Rl (O:Alg) (x:Ags O):O.M:=let u5:=(O.y []);let u4:=(O.ab u5 (x.L 24));let u3:=(O.ab u5 (x.L 19));let u2:=(O.ab u5 (x.L 17));let u1:=(O.ab u5 (x.L 16));let u0:=(O.ab u5 (x.L 14));(O.m (O.w (O.l u0) 1) (O.m (O.w (O.l u1) 8) (O.m (O.w (O.l u2) 8) (O.m (O.w (O.l u3) 8) (O.m (O.w (O.l u4) 1) (O.a (ap O (xr x [0,0,0,0,0,0,0,0,0,0,0,0,0,0] 0) (ap O [.rows u0,.int (x.I 15),.rows u1,.rows u2,.bool (x.B 18),.rows u3] (ap O (xr x [1,0,0,0] 20) (ap O [.rows u4] (xr x [0,0,0] 25)))))))))))
def dR:Nat→Env:=eL []
def AR:=oS jy Rl dR
def lK:List Nat:=[0,0,0,0,0,0,0,0,0,0,0,0,0,0,3,0,3,3,1,3,1,0,0,0,3,0,0,0]
def R9 (O:Alg) (x:Ags O):O.M:=(O.c (O.f 174 [] (xr x kI 0)) fun c0=>(O.a (cr O c0 kI 0)))
def TZ:Nat→Env:=eL [(174,AR)]
theorem ZW {N ls}:TZ N 174 [] ls=AR N ls:=id rfl
def DY:=oS lK R9 TZ
def kU:List Nat:=[2,0,0,0,0,0,0,0,1,0,0,0,0,3,0,0,1,3,0,0,0,0,0]
def SF (O:Alg) (x:Ags O):O.M:=(O.c (O.f 113 [] (xr x kR 0)) fun c0=>(O.c (O.x (fun s1 c1=>let u1:=(O.h c1 1);(O.b (O.n u1 (O.l (x.L 17))) (O.m (O.r u1 (O.l (x.L 17))) (O.c (O.f 141 [] (rr O (x.L 17) u1 kI 0)) fun c2=>let u0:=(O.ab (O.o c1 0) (O.y [(cr O c2 kI 0)]));(O.m (O.w (O.l u0) 304) (s1 [.rows u0,.int (O.q .i64 u1 (lq9 O 1))])))) (O.a [.rows (O.o c1 0)]))) [.rows O.v,.int (lq9 O 0)]) fun c1=>(O.a (ap O (cr O c0 kR 0) (ap O (xr x [0,0,1] 14) (ap O [.rows (O.o c1 0)] (xr x [0,0,0,0,0] 18)))))))
def Nf:Nat→Env:=eL [(113,FT),(141,DY)]
theorem ZC {N ls}:Nf N 113 [] ls=FT N ls:=id rfl
theorem Ob {N ls}:Nf N 141 [] ls=DY N ls:=id rfl
def SL:=oS kU SF Nf
def vZ:List Nat:=[0,0,0]
def wA (O:Alg) (x:Ags O):O.M:=(O.a [.bool (O.i (O.s (x.I 1) (x.I 0)) (O.s (x.I 0) (x.I 2)) O.e)])
def ABH:Nat→Env:=eL []
def Fh:=oS vZ wA ABH
def sP:List Nat:=[3,0]
def XN (O:Alg) (x:Ags O):O.M:=let u5:=(lq9 O 1);let u4:=(lq9 O 0);let u3:=(O.l (x.L 0));(O.c (O.x (fun s0 c0=>let u6:=(O.h c0 0);let u2:=(O.p (x.L 0) u6 0);let u1:=(O.ao (x.L 0) u4 u6);let u0:=(O.l u1);(O.b (O.n u6 u3) (O.m (O.r u6 u3) (O.c (O.f 192 [] [.int u2,.int u5,.int (x.I 1)]) fun c1=>(O.b (O.g (O.k c1 0)) (O.a [.int u4,.bool O.e]) (O.m (O.am u4 u6 u3) (O.c (O.x (fun s2 c2=>let u7:=(O.h c2 0);(O.b (O.n u7 u0) (O.m (O.r u7 u0) (O.b (O.d u2 (O.p u1 u7 0)) (O.a [.int u4,.bool O.e]) (s2 [.int (O.q .i64 u7 u5)]))) (O.a [.int u5,.int u7]))) [.int u4]) fun c2=>(O.b (O.ac c2 0) (O.a [.int u4,.bool (O.k c2 1)]) (s0 [.int (O.q .i64 u6 u5)]))))))) (O.a [.int u5]))) [.int u4]) fun c0=>(O.b (O.ac c0 0) (O.a [.bool (O.k c0 1)]) (O.a [.bool O.j])))
def Yj:Nat→Env:=eL [(192,Fh)]
def S7:=oS sP XN Yj
def kZ:List Nat:=[0,0,0,0,0,0,0,0,0,0,0,0,0,0,3,0,3,3,1,3,1,0,0,0,3,0,0,0]
def Jt (O:Alg) (x:Ags O):O.M:=(O.c (O.x (fun s0 c0=>let u0:=(O.h c0 0);(O.b (O.n u0 (O.l (x.L 14))) (O.m (O.r u0 (O.l (x.L 14))) (O.b (O.g (O.d (O.p (x.L 14) u0 0) (O.lit .u8 0))) (O.a [.int (lq9 O 0),.bool O.j]) (s0 [.int (O.q .i64 u0 (lq9 O 1))]))) (O.a [.int (lq9 O 1)]))) [.int (lq9 O 0)]) fun c0=>(O.b (O.ac c0 0) (O.a [.bool (O.k c0 1)]) (O.a [.bool O.e])))
def TQ:Nat→Env:=eL []
def Bu:=oS kZ Jt TQ
def eP:List Nat:=[0,0,0,0,0,0,0,0,0,0,0,0,0,0,3,0,3,3,1,3,1,0,0,0,3,0,0,0]
def Nj (O:Alg) (x:Ags O):O.M:=let u3:=(lq9 O 1);let u2:=(lq9 O 0);(O.c (O.x (fun s0 c0=>let u6:=(O.h c0 1);let u5:=(O.h c0 0);let u4:=(O.h c0 2);let u1:=(O.p (x.L 14) u4 0);let u0:=(O.q .i64 u4 u3);(O.b (O.n u4 (O.l (x.L 14))) (O.m (O.r u4 (O.l (x.L 14))) (O.b (O.n (O.lit .u8 3) u1) (O.a [.int u2,.bool O.e]) (O.c (O.b (O.d u1 (O.lit .u8 2)) (O.a [.int (O.q .i64 u5 u3)]) (O.a [.int u5])) fun c1=>(O.c (O.b (O.d u1 (O.lit .u8 1)) (O.a [.int (O.q .i64 u6 u3)]) (O.a [.int u6])) fun c2=>(O.b (O.g (O.aj (O.d u1 (O.lit .u8 1)) (O.i (O.d (x.I 12) u0) O.j (O.d (x.I 13) u0)))) (O.a [.int u2,.bool O.e]) (s0 [.int (O.h c1 0),.int (O.h c2 0),.int u0])))))) (O.a [.int u3,.int u5,.int u6]))) [.int u2,.int u2,.int u2]) fun c0=>(O.b (O.ac c0 0) (O.a [.bool (O.k c0 1)]) (O.c (O.f 195 [] (xr x kI 0)) fun c1=>(O.b (O.i (O.i (O.k c1 0) (O.n (O.h c0 2) u3) O.e) O.j (O.i (O.g (O.d (x.I 12) u2)) (O.d (x.I 12) (x.I 13)) O.e)) (O.a [.bool O.e]) (O.a [.bool (O.d (x.I 4) (O.h c0 1))])))))
def P3:Nat→Env:=eL [(195,Bu)]
def Jh:=oS eP Nj P3
def lD:List Nat:=[2,0,0,0,0,0,0,0,1,0,0,0,0,3,0,0,0,0,0,0,0,0,0,0,0,0,0,0,3,0,3,3,1,3,1,0,0,0,3,0,0,0]
def Rm (O:Alg) (x:Ags O):O.M:=let u15:=(lq9 O 1);let u14:=(lq9 O 0);let u13:=(O.l (x.L 33));let u11:=(lq9 O 1000000000);let u10:=(O.n u14 (x.I 3));let u7:=(O.i (O.d (x.I 3) u14) (O.g (O.d (x.I 16) u14)) O.e);let u1:=(O.y [[.int (x.I 15)],[.int (x.I 17)],[.int (x.I 19)],[.int (x.I 20)],[.int (x.I 21)],[.int (x.I 22)],[.int (x.I 23)],[.int (x.I 24)],[.int (x.I 35)],[.int (x.I 37)],[.int (x.I 39)],[.int (x.I 40)]]);let u0:=(O.l u1);(O.c (O.f 93 [] (xr x kR 0)) fun c0=>let u9:=(O.g (O.d (O.h c0 0) u14));(O.c (O.b (O.g u9) (O.f 192 [] [.int (x.I 14),.int u15,.int (lq9 O 2)]) (O.a [.bool O.e])) fun c1=>(O.b (O.i (O.i (O.i (O.i (O.i u9 O.j (O.g (O.k c1 0))) O.j (O.g (O.d (O.l (x.L 28)) (x.I 1)))) O.j (O.g (O.d u13 (x.I 1)))) O.j (O.g (O.d (O.l (x.L 38)) (x.I 1)))) O.j (O.n (O.lit .u8 5) (x.I 41))) (O.a [.bool O.e]) (O.c (O.f 192 [] [.int (x.I 26),.int u14,.int (x.I 1)]) fun c2=>let u12:=(O.g (O.k c2 0));(O.c (O.b (O.g u12) (O.f 192 [] [.int (x.I 27),.int u14,.int (x.I 1)]) (O.a [.bool O.e])) fun c3=>let u8:=(O.i u12 O.j (O.g (O.k c3 0)));(O.c (O.b (O.g u8) (O.f 192 [] [.int (x.I 29),.int u14,.int (x.I 1)]) (O.a [.bool O.e])) fun c4=>let u6:=(O.i u8 O.j (O.g (O.k c4 0)));(O.c (O.b (O.g u6) (O.f 192 [] [.int (x.I 36),.int u14,.int (x.I 1)]) (O.a [.bool O.e])) fun c5=>let u5:=(O.i u6 O.j (O.g (O.k c5 0)));(O.c (O.b (O.g u5) (O.f 193 [] [.rows (x.L 30),.int (x.I 1)]) (O.a [.bool O.e])) fun c6=>let u4:=(O.i u5 O.j (O.g (O.k c6 0)));(O.c (O.b (O.g u4) (O.f 193 [] [.rows (x.L 31),.int (x.I 1)]) (O.a [.bool O.e])) fun c7=>let u2:=(O.i u4 O.j (O.g (O.k c7 0)));(O.c (O.b (O.g u2) (O.f 194 [] (xr x kI 14)) (O.a [.bool O.e])) fun c8=>(O.b (O.i u2 O.j (O.g (O.k c8 0))) (O.a [.bool O.e]) (O.c (O.b (O.z (O.g u7) u10) (O.f 192 [] [.int (x.I 16),.int u15,.int (x.I 3)]) (O.a [.bool O.e])) fun c9=>let u3:=(O.i u7 O.j (O.i u10 (O.g (O.k c9 0)) O.e));(O.c (O.b (O.g u3) (O.f 192 [] [.int (x.I 25),.int u14,.int (O.t .i64 (x.I 4) u15)]) (O.a [.bool O.e])) fun c10=>(O.b (O.i u3 O.j (O.g (O.k c10 0))) (O.a [.bool O.e]) (O.c (O.x (fun s11 c11=>let u16:=(O.h c11 0);(O.b (O.n u16 u0) (O.m (O.r u16 u0) (O.c (O.f 192 [] [.int (O.p u1 u16 0),.int u14,.int u11]) fun c12=>(O.b (O.g (O.k c12 0)) (O.a [.int u14,.bool O.e]) (s11 [.int (O.q .i64 u16 u15)])))) (O.a [.int u15]))) [.int u14]) fun c11=>(O.b (O.ac c11 0) (O.a [.bool (O.k c11 1)]) (O.c (O.x (fun s12 c12=>let u17:=(O.h c12 0);(O.b (O.n u17 u13) (O.m (O.r u17 u13) (O.c (O.f 192 [] [.int (O.p (x.L 33) u17 0),.int u14,.int u11]) fun c13=>(O.b (O.g (O.k c13 0)) (O.a [.int u14,.bool O.e]) (s12 [.int (O.q .i64 u17 u15)])))) (O.a [.int u15]))) [.int u14]) fun c12=>(O.b (O.ac c12 0) (O.a [.bool (O.k c12 1)]) (O.a [.bool O.j])))))))))))))))))))
def GP:Nat→Env:=eL [(93,Ap),(192,Fh),(193,S7),(194,Jh)]
def DI:=oS lD Rm GP
def kY:List Nat:=[0]
def R0 (O:Alg) (x:Ags O):O.M:=(O.a [.int (O.t .i64 (lq9 O 3) (x.I 0))])
def eH:Nat→Env:=eL []
def CR:=oS kY R0 eH
def gC:List Nat:=[2,0,0,0,0,0,0,0,1,0,0,0,0,3,0,0,1,3,0,0,0,0,0,0]
def PE (O:Alg) (x:Ags O):O.M:=let u0:=(O.d (O.ap .i64 (x.I 23) (lq9 O 2)) (lq9 O 1));(O.c (O.b (O.i (x.B 16) (O.s (lq9 O 2) (x.I 23)) O.e) (O.a [.bool (O.g u0)]) (O.a [.bool u0])) fun c0=>(O.b (O.k c0 0) (O.c (O.f 147 [] [.int (x.I 15)]) fun c1=>(O.a [.int (O.h c1 0)])) (O.a [.int (x.I 15)])))
def RS:Nat→Env:=eL [(147,CR)]
theorem Yi {N ls}:RS N 147 [] ls=CR N ls:=id rfl
def Fw:=oS gC PE RS
def XK:List Nat:=[2,0,0,0,0,0,0,0,1,0,0,0,0,3,0,0,1,3,0,0,0,0,0]
def KU (O:Alg) (x:Ags O):O.M:=let u3:=(lq9 O 1);let u2:=(lq9 O 0);let u1:=(O.l (x.L 17));(O.c (O.x (fun s0 c0=>let u4:=(O.h c0 0);(O.b (O.n u4 u1) (O.m (O.r u4 u1) (O.c (O.f 175 [] (ap O (xr x kR 0) (rr O (x.L 17) u4 kI 0))) fun c1=>let u0:=(O.g (O.k c1 0));(O.c (O.b (O.g u0) (O.f 176 [] (ap O (xr x kM 0) [.int u4])) (O.a [.int u2])) fun c2=>(O.b (O.i (O.i u0 O.j (O.g (O.d (O.p (x.L 17) u4 0) (O.h c2 0)))) O.j (O.g (O.aj (O.d (O.p (x.L 17) u4 27) (O.lit .u8 0)) (O.i (O.d (x.I 14) (O.lit .u8 3)) (O.d u4 (O.t .i64 u1 u3)) O.e)))) (O.a [.int u2,.bool O.e]) (s0 [.int (O.q .i64 u4 u3)]))))) (O.a [.int u3]))) [.int u2]) fun c0=>(O.b (O.ac c0 0) (O.a [.bool (O.k c0 1)]) (O.a [.bool O.j])))
def He:Nat→Env:=eL [(175,DI),(176,Fw)]
theorem KP {N ls}:He N 175 [] ls=DI N ls:=id rfl
theorem Ja {N ls}:He N 176 [] ls=Fw N ls:=id rfl
def Gv:=oS XK KU He
def kv:List Nat:=[2,0,0,0,0,0,0,0,1,0,0,0,0,3,0,0,1,3,0,0,0,0,0]
def R4 (O:Alg) (x:Ags O):O.M:=let u7:=(lq9 O 1);let u6:=(lq9 O 2);let u5:=(lq9 O 0);let u4:=(O.l (x.L 17));let u3:=(O.d (x.I 15) u5);let u2:=(O.ai .i64 u6 (x.I 2));let u0:=(O.g (O.d u2 (lq9 O 4)));(O.c (O.f 93 [] (xr x kR 0)) fun c0=>(O.b (O.i (O.i (O.i (O.g (O.d (O.h c0 0) u5)) O.j (O.n (x.I 14) (O.lit .u8 1))) O.j (O.n (O.lit .u8 5) (x.I 14))) O.j (O.n u2 u4)) (O.a [.bool O.e]) (O.c (O.x (fun s1 c1=>let u8:=(O.h c1 0);let u1:=(O.ae (O.d u8 u7) (x.I 19) (x.I 18));(O.b (O.n u8 u6) (O.m (O.r u8 u6) (O.b (O.i (O.n u1 u5) O.j (O.n (lq9 O 1000000) u1)) (O.a [.int u5,.bool O.e]) (s1 [.int (O.q .i64 u8 u7)]))) (O.a [.int u7]))) [.int u5]) fun c1=>(O.b (O.ac c1 0) (O.a [.bool (O.k c1 1)]) (O.b (O.i (O.i (O.i (O.n (x.I 15) u5) O.j (O.n u6 (x.I 15))) O.j (O.i u3 (O.i (O.n u5 u4) O.j (O.i (O.g (O.d (x.I 14) (O.lit .u8 1))) (O.g (O.d (x.I 14) (O.lit .u8 5))) O.e)) O.e)) O.j (O.i (O.d (x.I 14) (O.lit .u8 1)) (O.g u3) O.e)) (O.a [.bool O.e]) (O.b (O.i (O.i (O.i (O.i (O.d (x.I 14) (O.lit .u8 3)) (O.d u4 u5) O.e) O.j (O.i (O.d (x.I 14) (O.lit .u8 2)) (O.d u4 u2) O.e)) O.j (O.i (O.d (x.I 14) (O.lit .u8 4)) (O.i (O.g (O.d u4 u6)) O.j u0) O.e)) O.j (O.i (x.B 16) (O.i (O.n u4 u6) O.j u0) O.e)) (O.a [.bool O.e]) (O.c (O.f 142 [] (xr x kM 0)) fun c2=>(O.a [.bool (O.k c2 0)]))))))))
def Nd:Nat→Env:=eL [(93,Ap),(142,Gv)]
theorem Zi {N ls}:Nd N 93 [] ls=Ap N ls:=id rfl
theorem KL {N ls}:Nd N 142 [] ls=Gv N ls:=id rfl
def FO:=oS kv R4 Nd
def gV:List Nat:=[0]
def Pk (O:Alg) (x:Ags O):O.M:=(O.c (O.b (O.d (x.I 0) (O.lit .u8 1)) (O.a [.bool (O.d (x.I 0) (O.lit .u8 1))]) (O.b (O.d (x.I 0) (O.lit .u8 12)) (O.a [.bool (O.d (x.I 0) (O.lit .u8 12))]) (O.a [.bool (O.d (x.I 0) (O.lit .u8 14))]))) fun c0=>(O.b (O.k c0 0) (O.a [.bool O.j,.bool O.e,.bool O.e,.bool O.j,.bool O.e,.bool O.e,.bool O.e,.bool O.j]) (O.b (O.d (x.I 0) (O.lit .u8 2)) (O.a [.bool O.e,.bool O.j,.bool O.j,.bool O.e,.bool O.e,.bool O.e,.bool O.e,.bool O.j]) (O.c (O.b (O.d (x.I 0) (O.lit .u8 3)) (O.a [.bool (O.d (x.I 0) (O.lit .u8 3))]) (O.a [.bool (O.d (x.I 0) (O.lit .u8 8))])) fun c1=>(O.b (O.k c1 0) (O.a [.bool O.e,.bool O.j,.bool O.e,.bool O.e,.bool O.e,.bool O.e,.bool O.e,.bool O.j]) (O.b (O.d (x.I 0) (O.lit .u8 4)) (O.a [.bool O.e,.bool O.e,.bool O.e,.bool O.e,.bool O.e,.bool O.e,.bool O.j,.bool O.j]) (O.c (O.b (O.d (x.I 0) (O.lit .u8 5)) (O.a [.bool (O.d (x.I 0) (O.lit .u8 5))]) (O.b (O.d (x.I 0) (O.lit .u8 6)) (O.a [.bool (O.d (x.I 0) (O.lit .u8 6))]) (O.a [.bool (O.d (x.I 0) (O.lit .u8 9))]))) fun c2=>(O.b (O.k c2 0) (O.a [.bool O.e,.bool O.j,.bool O.e,.bool O.j,.bool O.e,.bool O.e,.bool O.e,.bool O.j]) (O.b (O.d (x.I 0) (O.lit .u8 7)) (O.a [.bool O.e,.bool O.e,.bool O.e,.bool O.e,.bool O.j,.bool O.e,.bool O.e,.bool O.j]) (O.c (O.b (O.d (x.I 0) (O.lit .u8 10)) (O.a [.bool (O.d (x.I 0) (O.lit .u8 10))]) (O.a [.bool (O.d (x.I 0) (O.lit .u8 16))])) fun c3=>(O.b (O.k c3 0) (O.a [.bool O.e,.bool O.e,.bool O.e,.bool O.e,.bool O.e,.bool O.e,.bool O.e,.bool O.j]) (O.b (O.d (x.I 0) (O.lit .u8 11)) (O.a [.bool O.j,.bool O.e,.bool O.e,.bool O.e,.bool O.e,.bool O.e,.bool O.e,.bool O.j]) (O.b (O.d (x.I 0) (O.lit .u8 13)) (O.a [.bool O.j,.bool O.e,.bool O.e,.bool O.e,.bool O.j,.bool O.e,.bool O.e,.bool O.j]) (O.b (O.d (x.I 0) (O.lit .u8 15)) (O.a [.bool O.e,.bool O.e,.bool O.e,.bool O.e,.bool O.j,.bool O.j,.bool O.e,.bool O.j]) (O.a [.bool O.e,.bool O.e,.bool O.e,.bool O.e,.bool O.e,.bool O.e,.bool O.e,.bool O.e])))))))))))))))
def Zs:Nat→Env:=eL []
def LP:=oS gV Pk Zs
def qG:List Nat:=[0]
def UN (O:Alg) (x:Ags O):O.M:=(O.b (O.d (x.I 0) (O.lit .u8 7)) (O.a [.int (lq9 O 0),.int (lq9 O 11)]) (O.b (O.d (x.I 0) (O.lit .u8 13)) (O.a [.int (lq9 O 1),.int (lq9 O 99)]) (O.a [.int (lq9 O 0),.int (lq9 O 100000)])))
def fx:Nat→Env:=eL []
def Oy:=oS qG UN fx
def vF:List Nat:=[0,0,0]
def mv (O:Alg) (x:Ags O):O.M:=(O.a [.bool (O.i (O.s (x.I 1) (x.I 0)) (O.s (x.I 0) (x.I 2)) O.e)])
def pE:Nat→Env:=eL []
def Vf:=oS vF mv pE
def xg:List Nat:=[0,0,0]
def mG (O:Alg) (x:Ags O):O.M:=(O.a [.bool (O.i (O.s (x.I 1) (x.I 0)) (O.s (x.I 0) (x.I 2)) O.e)])
def oW:Nat→Env:=eL []
def WZ:=oS xg mG oW
def lM:List Nat:=[0,0,0,0,0,1,0,0,0,0,1,0]
def SQ (O:Alg) (x:Ags O):O.M:=let u5:=(lq9 O 0);(O.b (O.i (O.i (O.i (O.n (x.I 0) (O.lit .u8 1)) O.j (O.n (O.lit .u8 3) (x.I 0))) O.j (O.n (O.lit .u8 3) (x.I 1))) O.j (O.n (O.lit .u8 10) (x.I 6))) (O.a [.int (lq9 O 3)]) (O.c (O.f 177 [] [.int (x.I 2),.int u5,.int (lq9 O 7)]) fun c0=>let u4:=(O.g (O.k c0 0));(O.c (O.b (O.g u4) (O.f 177 [] [.int (x.I 3),.int u5,.int (x.I 2)]) (O.a [.bool O.e])) fun c1=>let u3:=(O.i (O.i u4 O.j (O.g (O.k c1 0))) O.j (O.i (O.i (O.g (O.d (x.I 4) u5)) (O.g (O.d (x.I 4) (lq9 O 4))) O.e) (O.g (O.d (x.I 4) (lq9 O 6))) O.e));(O.c (O.b (O.g u3) (O.f 177 [] [.int (x.I 7),.int u5,.int (lq9 O 2)]) (O.a [.bool O.e])) fun c2=>let u2:=(O.i u3 O.j (O.g (O.k c2 0)));(O.c (O.b (O.g u2) (O.f 177 [] [.int (x.I 8),.int u5,.int (lq9 O 11)]) (O.a [.bool O.e])) fun c3=>let u1:=(O.i u2 O.j (O.g (O.k c3 0)));(O.c (O.b (O.g u1) (O.f 177 [] [.int (x.I 9),.int u5,.int (lq9 O 11)]) (O.a [.bool O.e])) fun c4=>let u0:=(O.i u1 O.j (O.g (O.k c4 0)));(O.c (O.b (O.g u0) (O.f 177 [] [.int (x.I 11),.int u5,.int (lq9 O 8)]) (O.a [.bool O.e])) fun c5=>(O.b (O.i u0 O.j (O.g (O.k c5 0))) (O.a [.int (lq9 O 2)]) (O.a [.int u5])))))))))
def Tb:Nat→Env:=eL [(177,WZ)]
theorem iX {N ls}:Tb N 177 [] ls=WZ N ls:=id rfl
def Mb:=oS lM SQ Tb
def lQ:List Nat:=[0,0,0,0,1,0,0,0,0,0,0,0,1,0,0,0,0,1,0]
def R8 (O:Alg) (x:Ags O):O.M:=let u5:=(lq9 O 1);let u4:=(lq9 O 0);(O.c (O.f 143 [] [.int (x.I 0)]) fun c0=>let u8:=(O.k c0 2);let u9:=(O.lit .u8 0);let u7:=(O.k c0 1);let u6:=(O.k c0 0);(O.b (O.g (O.k c0 7)) (O.a [.int (lq9 O 3)]) (O.b (O.i (O.i (O.i (O.i (O.i (O.i (O.i (O.g u6) (O.g (O.d (x.I 1) u4)) O.e) O.j (O.i (O.g u7) (O.g (O.d (x.I 2) u4)) O.e)) O.j (O.i (O.g u8) (O.g (O.d (x.I 3) u4)) O.e)) O.j (O.i (O.g (O.k c0 3)) (x.B 4) O.e)) O.j (O.i (O.g (O.k c0 4)) (O.g (O.d (x.I 5) u4)) O.e)) O.j (O.i (O.g (O.k c0 5)) (O.g (O.d (x.I 6) u4)) O.e)) O.j (O.i (O.g (O.k c0 6)) (O.g (O.z (O.d (x.I 7) u9) (O.z (O.d (x.I 8) u9) (O.z (O.d (x.I 9) u4) (O.z (O.d (x.I 10) u4) (O.z (O.d (x.I 11) u4) (O.z (O.aj (x.B 12) O.e) (O.z (O.d (x.I 13) u9) (O.z (O.d (x.I 14) u4) (O.z (O.d (x.I 15) u4) (O.z (O.d (x.I 16) u4) (O.z (O.aj (x.B 17) O.e) (O.d (x.I 18) u4))))))))))))) O.e)) (O.a [.int u5]) (O.c (O.f 144 [] [.int (x.I 0)]) fun c1=>(O.c (O.b u6 (O.f 145 [] [.int (x.I 1),.int u5,.int (lq9 O 2)]) (O.a [.bool O.e])) fun c2=>let u3:=(O.i u6 (O.g (O.k c2 0)) O.e);(O.c (O.b (O.z (O.g u3) u7) (O.f 145 [] [.int (x.I 2),.int u5,.int (lq9 O 11)]) (O.a [.bool O.e])) fun c3=>let u2:=(O.i u3 O.j (O.i u7 (O.g (O.k c3 0)) O.e));(O.c (O.b (O.z (O.g u2) u8) (O.f 145 [] [.int (x.I 3),.int u5,.int (lq9 O 11)]) (O.a [.bool O.e])) fun c4=>let u1:=(O.i u2 O.j (O.i u8 (O.g (O.k c4 0)) O.e));(O.c (O.b (O.z (O.g u1) (O.k c0 4)) (O.f 145 [] [.int (x.I 5),.int (O.h c1 0),.int (O.h c1 1)]) (O.a [.bool O.e])) fun c5=>let u0:=(O.i u1 O.j (O.i (O.k c0 4) (O.g (O.k c5 0)) O.e));(O.c (O.b (O.z (O.g u0) (O.k c0 5)) (O.f 145 [] [.int (x.I 6),.int u4,.int (lq9 O 90)]) (O.a [.bool O.e])) fun c6=>(O.b (O.i u0 O.j (O.i (O.k c0 5) (O.g (O.k c6 0)) O.e)) (O.a [.int (lq9 O 2)]) (O.b (O.k c0 6) (O.c (O.f 146 [] (xr x [0,0,0,0,0,1,0,0,0,0,1,0] 7)) fun c7=>(O.a [.int (O.h c7 0)])) (O.a [.int u4]))))))))))))
def GW:Nat→Env:=eL [(143,LP),(144,Oy),(145,Vf),(146,Mb)]
theorem YX {N ls}:GW N 143 [] ls=LP N ls:=id rfl
theorem cF {N ls}:GW N 144 [] ls=Oy N ls:=id rfl
theorem fX {N ls}:GW N 145 [] ls=Vf N ls:=id rfl
theorem Y8 {N ls}:GW N 146 [] ls=Mb N ls:=id rfl
def Jy:=oS lQ R8 GW
def jx:List Nat:=[2,0,0,0,0,0,0,0,1,0,0,0,0,3,0,0,1,3,0,0,0,0,0,0]
def R1 (O:Alg) (x:Ags O):O.M:=(O.c (O.x (fun s0 c0=>let u2:=(O.h c0 0);let u1:=(O.h c0 1);let u0:=(O.q .i64 u1 (lq9 O 1));(O.b (O.n u1 (O.l (x.L 17))) (O.m (O.r u1 (O.l (x.L 17))) (O.b (O.d (O.p (x.L 17) u1 0) (x.I 23)) (s0 [.int (O.q .i64 u2 (O.p (x.L 17) u1 3)),.int u0]) (s0 [.int u2,.int u0]))) (O.a [.int u2]))) [.int (lq9 O 0),.int (lq9 O 0)]) fun c0=>(O.a [.int (O.h c0 0)]))
def dc:Nat→Env:=eL []
def FU:=oS jx R1 dc
def aS:List Nat:=[2,0,0,0,0,0,0,0,1,0,0,0,0,3,0,0,1,3,0,0,0,0,0]
def PP (O:Alg) (x:Ags O):O.M:=let u0:=(O.t .i64 (O.l (x.L 17)) (lq9 O 1));(O.m (O.r u0 (O.l (x.L 17))) (O.a (rr O (x.L 17) u0 kI 0)))
def LQ (N:Nat):Env:=fun f fns ls=>none
def Dj:=oS aS PP LQ
def Tl:List Nat:=[2,0,0,0,0,0,0,0,1,0,0,0,0,3,0,0,1,3,0,0,0,0,0]
def Jn (O:Alg) (x:Ags O):O.M:=(O.c (O.f 115 [] (xr x kM 0)) fun c0=>(O.b (O.g (O.k c0 0)) (O.a [.int (lq9 O 0)]) (O.b (O.d (x.I 14) (O.lit .u8 3)) (O.c (O.f 118 [] (xr x kM 0)) fun c1=>(O.a [.int (O.h c1 0)])) (O.b (O.d (x.I 14) (O.lit .u8 2)) (O.c (O.f 176 [] (ap O (xr x kM 0) [.int (O.l (x.L 17))])) fun c1=>(O.a [.int (O.h c1 0)])) (O.a [.int (lq9 O 0)])))))
def C4 (N:Nat):Env:=fun f fns ls=>(cond (Nat.beq f 115&&AB fns []) (FO N ls) (cond (Nat.beq f 118&&AB fns []) (Dj N ls) (cond (Nat.beq f 176&&AB fns []) (Fw N ls) none)))
theorem Wt {N ls}:C4 N 115 [] ls=FO N ls:=id rfl
theorem Mg {N ls}:C4 N 118 [] ls=Dj N ls:=id rfl
theorem LT {N ls}:C4 N 176 [] ls=Fw N ls:=id rfl
def JQ:=oS Tl Jn C4
def ki:List Nat:=[2,0,0,0,0,0,0,0,1,0,0,0,0,3,0,0,0]
def Rv (O:Alg) (x:Ags O):O.M:=let u5:=(lq9 O 0);let u4:=(lq9 O 1000000);(O.c (O.f 93 [] (xr x kR 0)) fun c0=>(O.b (O.g (O.d (O.h c0 0) u5)) (O.a [.int u5,.int u5,.int u5,.int u5,.int u5,.int u5,.int u5,.int u5,.int u5,.int u5,.int u5,.int u5,.int u5,.int u5,.rows O.v,.int u5,.rows O.v,.rows O.v,.bool O.e,.rows O.v,.bool O.e,.int u5,.int u5,.int u5,.rows O.v,.int u5,.int u5,.int (O.lit .u8 0),.int (O.h c0 0)]) (O.c (O.f 192 [] [.int (x.I 14),.int (lq9 O 1),.int (lq9 O 2)]) fun c1=>let u3:=(O.g (O.k c1 0));(O.c (O.b (O.g u3) (O.f 192 [] [.int (x.I 15),.int u5,.int u4]) (O.a [.bool O.e])) fun c2=>let u0:=(O.i u3 O.j (O.g (O.k c2 0)));(O.c (O.b (O.g u0) (O.f 192 [] [.int (x.I 16),.int u5,.int u4]) (O.a [.bool O.e])) fun c3=>(O.b (O.i u0 O.j (O.g (O.k c3 0))) (O.a [.int u5,.int u5,.int u5,.int u5,.int u5,.int u5,.int u5,.int u5,.int u5,.int u5,.int u5,.int u5,.int u5,.int u5,.rows O.v,.int u5,.rows O.v,.rows O.v,.bool O.e,.rows O.v,.bool O.e,.int u5,.int u5,.int u5,.rows O.v,.int u5,.int u5,.int (O.lit .u8 0),.int (lq9 O 2)]) (O.c (O.x (fun s4 c4=>let u2:=(O.ab (O.o c4 25) (O.y [[.bool O.e]]));let u1:=(O.ab (O.o c4 20) (O.y [[.int u5]]));(O.b (O.n (O.h c4 0) (x.I 1)) (O.m (O.w (O.l (O.ab (O.o c4 15) (O.y [[.int (O.lit .u8 0)]]))) 1) (O.m (O.w (O.l u1) 8) (O.m (O.w (O.l u2) 1) (s4 (ap O [.int (O.q .i64 (O.h c4 0) (lq9 O 1))] (ap O (cr O c4 [0,0,0,0,0,0,0,0,0,0,0,0,0,0] 1) (ap O [.rows (O.ab (O.o c4 15) (O.y [[.int (O.lit .u8 0)]]))] (ap O (cr O c4 [0,3,3,1] 16) (ap O [.rows u1] (ap O (cr O c4 [1,0,0,0] 21) (ap O [.rows u2] (cr O c4 [0,0,0] 26)))))))))))) (O.a (cr O c4 kI 1)))) [.int u5,.int (x.I 14),.int (x.I 15),.int (x.I 3),.int (x.I 16),.int u5,.int u5,.int u5,.int u5,.int u5,.int (x.I 16),.int u5,.int u5,.int u5,.int u5,.rows O.v,.int u5,.rows O.v,.rows O.v,.bool O.e,.rows O.v,.bool O.e,.int u5,.int u5,.int u5,.rows O.v,.int u5,.int u5,.int (O.lit .u8 0)]) fun c4=>(O.a (ap O (cr O c4 kI 0) [.int u5])))))))))
def Ni:Nat→Env:=eL [(93,Ap),(192,Fh)]
theorem Zu {N ls}:Ni N 93 [] ls=Ap N ls:=id rfl
theorem fP {N ls}:Ni N 192 [] ls=Fh N ls:=id rfl
def Ru:=oS ki Rv Ni
def eW:List Nat:=[0,0,0,0,0,0,0,0,0,0,0,0,0,0,3,0,3,3,1,3,1,0,0,0,3,0,0,0]
def NP (O:Alg) (x:Ags O):O.M:=(O.c (O.f 141 [] (xr x kI 0)) fun c0=>(O.a (ap O (cr O c0 [0,0,0] 0) (ap O [.int (O.q .i64 (O.h c0 3) (lq9 O 5))] (ap O (cr O c0 [0,0,0,0,0] 4) (ap O [.int (O.q .i64 (O.h c0 9) (lq9 O 5))] (cr O c0 [0,0,0,0,3,0,3,3,1,3,1,0,0,0,3,0,0,0] 10)))))))
def QB:Nat→Env:=eL [(141,DY)]
theorem W2 {N ls}:QB N 141 [] ls=DY N ls:=id rfl
def GU:=oS eW NP QB
def gN:List Nat:=[0,0,0,0,0,0,0,0,0,0,0,0,0,0,3,0,3,3,1,3,1,0,0,0,3,0,0,0,0]
def O1 (O:Alg) (x:Ags O):O.M:=(O.a [.bool (O.i (O.s (lq9 O 1) (x.I 28)) (O.s (x.I 28) (O.l (x.L 14))) O.e)])
def Z8:Nat→Env:=eL []
def Bs:=oS gN O1 Z8
def oN:List Nat:=[0,0,0,0,0,0,0,0,0,0,0,0,0,0,3,0,3,3,1,3,1,0,0,0,3,0,0,0,0,0]
def US (O:Alg) (x:Ags O):O.M:=let u3:=(lq9 O 1);let u1:=(O.t .i64 (x.I 29) u3);let u0:=(O.t .i64 (x.I 28) u3);(O.c (O.f 174 [] (xr x kI 0)) fun c0=>let u4:=(O.o c0 14);(O.c (O.f 195 [] (cr O c0 kI 0)) fun c1=>(O.b (O.k c1 0) (O.a (ap O (cr O c0 kI 0) [.int u3])) (O.c (O.f 249 [] (ap O (cr O c0 kI 0) [.int (x.I 28)])) fun c2=>let u2:=(O.g (O.k c2 0));(O.c (O.b (O.g u2) (O.f 249 [] (ap O (cr O c0 kI 0) [.int (x.I 29)])) (O.a [.bool O.e])) fun c3=>(O.b (O.i u2 O.j (O.g (O.k c3 0))) (O.a (ap O (cr O c0 kI 0) [.int (lq9 O 3)])) (O.b (O.d (x.I 28) (x.I 29)) (O.a (ap O (cr O c0 kI 0) [.int (lq9 O 4)])) (O.m (O.r u0 (O.l u4)) (O.m (O.r u1 (O.l (O.aa u4 u0 0 [.int (O.lit .u8 1)]))) (O.a (ap O (cr O c0 [0,0,0,0,0,0,0,0,0,0,0,0] 0) (ap O [.int (x.I 28),.int (x.I 29),.rows (O.aa (O.aa u4 u0 0 [.int (O.lit .u8 1)]) u1 0 [.int (O.lit .u8 1)])] (ap O (cr O c0 [0,3,3,1,3,1,0,0,0,3,0,0,0] 15) [.int (lq9 O 0)])))))))))))))
def Kp:Nat→Env:=eL [(174,AR),(195,Bu),(249,Bs)]
theorem bB {N ls}:Kp N 174 [] ls=AR N ls:=id rfl
theorem bZ {N ls}:Kp N 195 [] ls=Bu N ls:=id rfl
theorem ZO {N ls}:Kp N 249 [] ls=Bs N ls:=id rfl
def Ul:=oS oN US Kp
def ZJ:List Nat:=[0,0,0,0,0,0,0,0,0,0,0,0,0,0,3,0,3,3,1,3,1,0,0,0,3,0,0,0,0]
def L4 (O:Alg) (x:Ags O):O.M:=let u1:=(O.t .i64 (x.I 28) (lq9 O 1));let u0:=(O.i (O.s (lq9 O 1) (x.I 28)) (O.s (x.I 28) (O.l (x.L 24))) O.e);(O.m (O.g (O.z u0 (O.g (O.r u1 (O.l (x.L 24)))))) (O.a [.bool (O.i u0 (O.rB (x.L 24) u1 0) O.e)]))
def Vi:Nat→Env:=eL []
def A5:=oS ZJ L4 Vi
def fM:List Nat:=[0,0,0,0,0,0,0,0,0,0,0,0,0,0,3,0,3,3,1,3,1,0,0,0,3,0,0,0,0]
def QZ (O:Alg) (x:Ags O):O.M:=(O.a [.bool (O.i (O.s (lq9 O 1) (x.I 28)) (O.s (x.I 28) (O.l (x.L 19))) O.e)])
def Zt:Nat→Env:=eL []
def Ck:=oS fM QZ Zt
def oX:List Nat:=[2,0,0,0,0,0,0,0,1,0,0,0,0,3,0,0,0,0,0,0,0,0,0,0,0,0,0,0,3,0,3,3,1,3,1,0,0,0,3,0,0,0,0]
def Ub (O:Alg) (x:Ags O):O.M:=let u4:=(lq9 O 0);let u3:=(O.t .i64 (x.I 42) (lq9 O 1));let u1:=(O.p (x.L 33) u3 0);let u0:=(O.t .i64 (O.ai .i64 (x.I 5) (x.I 4)) (O.ae (O.n u1 u4) u4 u1));(O.c (O.f 93 [] (xr x kR 0)) fun c0=>let u2:=(O.g (O.d (O.h c0 0) u4));(O.c (O.b (O.g u2) (O.f 268 [] (xr x [0,0,0,0,0,0,0,0,0,0,0,0,0,0,3,0,3,3,1,3,1,0,0,0,3,0,0,0,0] 14)) (O.a [.bool O.e])) fun c1=>(O.b (O.i u2 O.j (O.g (O.k c1 0))) (O.a [.int u4]) (O.b (O.d (x.I 5) u4) (O.a [.int (lq9 O (-1))]) (O.m (O.r u3 (O.l (x.L 33))) (O.a [.int (O.ae (O.n u0 u4) u4 u0)]))))))
def QU:Nat→Env:=eL [(93,Ap),(268,Ck)]
theorem bQ {N ls}:QU N 93 [] ls=Ap N ls:=id rfl
theorem aH {N ls}:QU N 268 [] ls=Ck N ls:=id rfl
def P5:=oS oX Ub QU
def sI:List Nat:=[3,0]
def X2 (O:Alg) (x:Ags O):O.M:=(O.c (O.x (fun s0 c0=>let u0:=(O.h c0 0);(O.b (O.n u0 (O.l (x.L 0))) (O.m (O.r u0 (O.l (x.L 0))) (O.b (O.d (O.p (x.L 0) u0 0) (x.I 1)) (O.a [.int (lq9 O 0),.bool O.j]) (s0 [.int (O.q .i64 u0 (lq9 O 1))]))) (O.a [.int (lq9 O 1)]))) [.int (lq9 O 0)]) fun c0=>(O.b (O.ac c0 0) (O.a [.bool (O.k c0 1)]) (O.a [.bool O.e])))
def js:Nat→Env:=eL []
def Ih:=oS sI X2 js
def rp:List Nat:=[2,0,0,0,0,0,0,0,1,0,0,0,0,3,0,0,0,0,0,0,0,0,0,0,0,0,0,0,3,0,3,3,1,3,1,0,0,0,3,0,0,0,0]
def Xc (O:Alg) (x:Ags O):O.M:=let u2:=(lq9 O 0);let u0:=(O.i (O.d (x.I 42) (x.I 36)) O.j (O.d (x.I 42) (x.I 29)));(O.c (O.f 93 [] (xr x kR 0)) fun c0=>let u1:=(O.g (O.d (O.h c0 0) u2));(O.c (O.b (O.g u1) (O.f 268 [] (xr x [0,0,0,0,0,0,0,0,0,0,0,0,0,0,3,0,3,3,1,3,1,0,0,0,3,0,0,0,0] 14)) (O.a [.bool O.e])) fun c1=>(O.b (O.i u1 O.j (O.g (O.k c1 0))) (O.a [.int (lq9 O 3)]) (O.c (O.f 269 [] (xr x [2,0,0,0,0,0,0,0,1,0,0,0,0,3,0,0,0,0,0,0,0,0,0,0,0,0,0,0,3,0,3,3,1,3,1,0,0,0,3,0,0,0,0] 0)) fun c2=>(O.c (O.b (O.g u0) (O.f 260 [] (xr x [0,0,0,0,0,0,0,0,0,0,0,0,0,0,3,0,3,3,1,3,1,0,0,0,3,0,0,0,0] 14)) (O.a [.bool O.e])) fun c3=>(O.b (O.i u0 O.j (O.k c3 0)) (O.a [.int (lq9 O 7)]) (O.c (O.f 270 [] [.rows (x.L 31),.int (x.I 42)]) fun c4=>(O.b (O.k c4 0) (O.a [.int (lq9 O 8)]) (O.b (O.i (O.s u2 (O.h c2 0)) (O.n (x.I 25) (O.t .i64 (x.I 4) (O.h c2 0))) O.e) (O.a [.int (lq9 O 9)]) (O.a [.int u2]))))))))))
def HM:Nat→Env:=eL [(93,Ap),(260,A5),(268,Ck),(269,P5),(270,Ih)]
theorem ec {N ls}:HM N 93 [] ls=Ap N ls:=id rfl
theorem Yu {N ls}:HM N 260 [] ls=A5 N ls:=id rfl
theorem cz {N ls}:HM N 268 [] ls=Ck N ls:=id rfl
theorem iR {N ls}:HM N 269 [] ls=P5 N ls:=id rfl
theorem jT {N ls}:HM N 270 [] ls=Ih N ls:=id rfl
def Sc:=oS rp Xc HM
def pU:List Nat:=[2,0,0,0,0,0,0,0,1,0,0,0,0,3,0,0,0,0,0,0,0,0,0,0,0,0,0,0,3,0,3,3,1,3,1,0,0,0,3,0,0,0,0]
def UH (O:Alg) (x:Ags O):O.M:=(O.c (O.f 174 [] (xr x kI 14)) fun c0=>(O.c (O.f 250 [] (ap O (xr x kR 0) (ap O (cr O c0 kI 0) [.int (x.I 42)]))) fun c1=>let u0:=(O.h c1 0);(O.b (O.d u0 (lq9 O 0)) (O.a (ap O (cr O c0 [0,0,0,0,0,0,0,0,0,0,0,0,0,0,3] 0) (ap O [.int (x.I 42)] (ap O (cr O c0 [3,3,1,3,1,0,0,0,3,0,0,0] 16) [.int u0])))) (O.a (ap O (cr O c0 kI 0) [.int u0])))))
def QK:Nat→Env:=eL [(174,AR),(250,Sc)]
theorem bV {N ls}:QK N 174 [] ls=AR N ls:=id rfl
theorem ga {N ls}:QK N 250 [] ls=Sc N ls:=id rfl
def Ut:=oS pU UH QK
def vW:List Nat:=[0,0,0]
def mf (O:Alg) (x:Ags O):O.M:=(O.a [.bool (O.i (O.s (x.I 1) (x.I 0)) (O.s (x.I 0) (x.I 2)) O.e)])
def qF:Nat→Env:=eL []
def WE:=oS vW mf qF
def aN:List Nat:=[0,0,0,0,0,1,0,0,0,0,1,0]
def MI (O:Alg) (x:Ags O):O.M:=let u3:=(lq9 O 0);let u2:=(O.d (x.I 4) u3);let u1:=(O.d (x.I 2) u3);let u0:=(O.d (x.I 4) (lq9 O 6));(O.b (O.d (x.I 0) (O.lit .u8 2)) (O.a [.bool (O.i (O.d (x.I 1) (O.lit .u8 0)) (O.g u0) O.e)]) (O.b (O.d (x.I 1) (O.lit .u8 0)) (O.a [.bool (O.i u1 u2 O.e)]) (O.b u2 (O.a [.bool (O.n u3 (x.I 2))]) (O.b u0 (O.a [.bool (O.i (O.d (x.I 1) (O.lit .u8 1)) u1 O.e)]) (O.a [.bool O.j])))))
def VB:Nat→Env:=eL []
def H6:=oS aN MI VB
def j8:List Nat:=[0,0,0,0,0,1,0,0,0,0,1,0]
def Rn (O:Alg) (x:Ags O):O.M:=let u3:=(lq9 O 0);let u2:=(lq9 O 11);let u0:=(O.g (O.d (x.I 4) u3));(O.c (O.b (O.g (O.i (O.i (O.i (O.n (x.I 0) (O.lit .u8 1)) O.j (O.n (O.lit .u8 3) (x.I 0))) O.j (O.n (O.lit .u8 3) (x.I 1))) O.j (O.n (O.lit .u8 10) (x.I 6)))) (O.f 152 [] [.int (x.I 11),.int u3,.int (lq9 O 8)]) (O.a [.bool O.e])) fun c0=>(O.b (O.i (O.i (O.i (O.i (O.n (x.I 0) (O.lit .u8 1)) O.j (O.n (O.lit .u8 3) (x.I 0))) O.j (O.n (O.lit .u8 3) (x.I 1))) O.j (O.n (O.lit .u8 10) (x.I 6))) O.j (O.g (O.k c0 0))) (O.a [.int u2]) (O.c (O.f 152 [] [.int (x.I 2),.int u3,.int (lq9 O 7)]) fun c1=>let u1:=(O.g (O.k c1 0));(O.c (O.b (O.g u1) (O.f 152 [] [.int (x.I 3),.int u3,.int (x.I 2)]) (O.a [.bool O.e])) fun c2=>(O.b (O.i (O.i u1 O.j (O.g (O.k c2 0))) O.j (O.i (O.i u0 (O.g (O.d (x.I 4) (lq9 O 4))) O.e) (O.g (O.d (x.I 4) (lq9 O 6))) O.e)) (O.a [.int (lq9 O 12)]) (O.c (O.f 153 [] (xr x [0,0,0,0,0,1,0,0,0,0,1,0] 0)) fun c3=>(O.b (O.g (O.k c3 0)) (O.a [.int u2]) (O.b (O.i (O.i (O.g (O.d (x.I 11) u3)) (O.g (O.d (x.I 1) (O.lit .u8 1))) O.e) (O.g (O.d (x.I 6) (O.lit .u8 2))) O.e) (O.a [.int u2]) (O.b (O.i u0 (O.g (O.d (x.I 6) (O.lit .u8 0))) O.e) (O.a [.int u2]) (O.b (O.i (O.i (x.B 5) (O.g (O.d (x.I 6) (O.lit .u8 6))) O.e) (O.g (O.d (x.I 6) (O.lit .u8 8))) O.e) (O.a [.int u2]) (O.a [.int u3])))))))))))
def NU:Nat→Env:=eL [(152,WE),(153,H6)]
theorem gQ {N ls}:NU N 152 [] ls=WE N ls:=id rfl
theorem VC {N ls}:NU N 153 [] ls=H6 N ls:=id rfl
def HE:=oS j8 Rn NU
def Y3:List Nat:=[0]
def L9 (O:Alg) (x:Ags O):O.M:=(O.b (O.d (x.I 0) (O.lit .u8 1)) (O.b (O.d (x.I 0) (O.lit .u8 1)) (O.a [.bool O.j]) (O.a [.bool O.e])) (O.b (O.d (x.I 0) (O.lit .u8 2)) (O.b (O.d (x.I 0) (O.lit .u8 2)) (O.a [.bool O.j]) (O.a [.bool O.e])) (O.b (O.d (x.I 0) (O.lit .u8 3)) (O.b (O.d (x.I 0) (O.lit .u8 3)) (O.a [.bool O.j]) (O.a [.bool O.e])) (O.b (O.d (x.I 0) (O.lit .u8 4)) (O.b (O.d (x.I 0) (O.lit .u8 4)) (O.a [.bool O.j]) (O.a [.bool O.e])) (O.b (O.d (x.I 0) (O.lit .u8 5)) (O.a [.bool O.j]) (O.a [.bool O.e]))))))
def U8:Nat→Env:=eL []
def Hq:=oS Y3 L9 U8
def ku:List Nat:=[0,0,0,0,0,1,0,0,0,0,1,0]
def SH (O:Alg) (x:Ags O):O.M:=(O.a [.bool (O.g (O.aj (O.g (O.d (O.ap .i64 (x.I 2) (lq9 O 2)) (lq9 O 0))) (x.B 5)))])
def dV:Nat→Env:=eL []
def Mh:=oS ku SH dV
def fU:List Nat:=[2,0,0,0,0,0,0,0,1,0,0,0,0,3,0,0,0,0,0,1,0,0,0,0,1,0]
def QD (O:Alg) (x:Ags O):O.M:=let u1:=(lq9 O 0);let u0:=(O.q .i64 (O.t .i64 (x.I 16) (x.I 17)) (x.I 18));(O.c (O.f 120 [] (xr x [0,0,0,0,0,1,0,0,0,0,1,0] 14)) fun c0=>(O.b (O.g (O.d (O.h c0 0) u1)) (O.a [.int u1,.int u1,.int u1,.int u1,.int u1,.int u1,.bool O.e,.bool O.e,.bool O.e,.bool O.e]) (O.c (O.f 121 [] [.int (x.I 20)]) fun c1=>let u2:=(O.k c1 0);(O.c (O.f 122 [] (xr x [0,0,0,0,0,1,0,0,0,0,1,0] 14)) fun c2=>let u3:=(O.k c2 0);(O.c (O.b (O.d (x.I 14) (O.lit .u8 2)) (O.a [.int u1,.int (O.q .i64 (x.I 6) u0),.int u1,.int u1,.int u1,.int u1,.bool (O.d (x.I 14) (O.lit .u8 1)),.bool (O.g (O.d (x.I 14) (O.lit .u8 2))),.bool u2,.bool u3]) (O.b (O.d (x.I 15) (O.lit .u8 1)) (O.a [.int u0,.int u1,.int u1,.int u1,.int u1,.int u1,.bool (O.d (x.I 14) (O.lit .u8 1)),.bool (O.g (O.d (x.I 14) (O.lit .u8 2))),.bool u2,.bool u3]) (O.b (O.d (x.I 15) (O.lit .u8 2)) (O.a [.int u1,.int u1,.int u1,.int u0,.int u1,.int u1,.bool (O.d (x.I 14) (O.lit .u8 1)),.bool (O.g (O.d (x.I 14) (O.lit .u8 2))),.bool u2,.bool u3]) (O.b (O.d (x.I 15) (O.lit .u8 3)) (O.a [.int u1,.int u1,.int u1,.int u1,.int u0,.int u1,.bool (O.d (x.I 14) (O.lit .u8 1)),.bool (O.g (O.d (x.I 14) (O.lit .u8 2))),.bool u2,.bool u3]) (O.a [.int u1,.int u1,.int u1,.int u1,.int u1,.int u1,.bool (O.d (x.I 14) (O.lit .u8 1)),.bool (O.g (O.d (x.I 14) (O.lit .u8 2))),.bool u2,.bool u3]))))) fun c3=>(O.c (O.b (O.d (x.I 14) (O.lit .u8 3)) (O.a (ap O [.int (O.h c3 0),.int (O.h c3 1),.int (x.I 7)] (cr O c3 [0,0,0,1,1,1,1] 3))) (O.a (cr O c3 [0,0,0,0,0,0,1,1,1,1] 0))) fun c4=>(O.a (ap O (cr O c4 [0,0,0,0,0] 0) (ap O [.int (O.q .i64 (O.q .i64 (O.h c4 0) (O.h c4 1)) (O.h c4 2))] (cr O c4 [1,1,1,1] 6))))))))))
def IJ:Nat→Env:=eL [(120,HE),(121,Hq),(122,Mh)]
theorem Yq {N ls}:IJ N 120 [] ls=HE N ls:=id rfl
theorem Uo {N ls}:IJ N 121 [] ls=Hq N ls:=id rfl
theorem Ye {N ls}:IJ N 122 [] ls=Mh N ls:=id rfl
def Hu:=oS fU QD IJ
def iP:List Nat:=[0,0,0,0,0,0,0,0,0,0,0,0,0,0,3,0,3,3,1,3,1,0,0,0,3,0,0,0]
def IQ (O:Alg) (x:Ags O):O.M:=(O.c (O.f 195 [] (xr x kI 0)) fun c0=>(O.a [.bool (O.i (O.k c0 0) (O.i (O.d (x.I 12) (lq9 O 0)) O.j (O.d (x.I 13) (lq9 O 0))) O.e)]))
def H9:Nat→Env:=eL [(195,Bu)]
theorem YL {N ls}:H9 N 195 [] ls=Bu N ls:=id rfl
def Cr:=oS iP IQ H9
def iE:List Nat:=[0,0,0,0,0,0,0,0,0,0,0,0,0,0,3,0,3,3,1,3,1,0,0,0,3,0,0,0,0]
def PW (O:Alg) (x:Ags O):O.M:=(O.a [.bool (O.i (O.s (lq9 O 1) (x.I 28)) (O.s (x.I 28) (O.l (x.L 24))) O.e)])
def Zv:Nat→Env:=eL []
def Bq:=oS iE PW Zv
def dz:List Nat:=[2,0,0,0,0,0,0,0,1,0,0,0,0,3,0]
def Ng (O:Alg) (x:Ags O):O.M:=let u1:=(lq9 O 1);let u0:=(O.q .i64 (x.I 14) u1);(O.c (O.x (fun s0 c0=>let u2:=(O.h c0 0);(O.b (O.n u2 (O.l (x.L 13))) (O.m (O.r u2 (O.l (x.L 13))) (O.b (O.i (O.s (O.p (x.L 13) u2 0) u0) (O.s u0 (O.p (x.L 13) u2 1)) O.e) (O.a [.int (lq9 O 0),.int (O.p (x.L 13) u2 2)]) (s0 [.int (O.q .i64 u2 u1)]))) (O.a [.int u1]))) [.int (lq9 O 0)]) fun c0=>(O.b (O.ac c0 0) (O.a [.int (O.h c0 1)]) (O.a [.int (x.I 12)])))
def W7:Nat→Env:=eL []
def Je:=oS dz Ng W7
def lS:List Nat:=[2,0,0,0,0,0,0,0,1,0,0,0,0,3,0,0,0,0,0,0,0,0,0,0,0,0,0,0,3,0,3,3,1,3,1,0,0,0,3,0,0,0]
def R7 (O:Alg) (x:Ags O):O.M:=(O.c (O.f 259 [] (ap O (xr x kI 14) [.int (x.I 36)])) fun c0=>let u0:=(O.g (O.k c0 0));(O.c (O.b (O.g u0) (O.f 260 [] (ap O (xr x kI 14) [.int (x.I 36)])) (O.a [.bool O.e])) fun c1=>(O.b (O.i (O.i u0 O.j (O.k c1 0)) O.j (O.d (x.I 36) (x.I 29))) (O.a [.int (lq9 O 17)]) (O.c (O.f 271 [] (ap O (xr x kR 0) [.int (x.I 24)])) fun c2=>(O.b (O.n (O.h c2 0) (x.I 37)) (O.a [.int (lq9 O 16)]) (O.a [.int (lq9 O 0)]))))))
def Jm:Nat→Env:=eL [(259,Bq),(260,A5),(271,Je)]
theorem Yx {N ls}:Jm N 259 [] ls=Bq N ls:=id rfl
theorem Wc {N ls}:Jm N 260 [] ls=A5 N ls:=id rfl
theorem Wq {N ls}:Jm N 271 [] ls=Je N ls:=id rfl
def SB:=oS lS R7 Jm
def Zw:List Nat:=[0]
def MB (O:Alg) (x:Ags O):O.M:=(O.a [.bool (O.i (O.i (O.d (x.I 0) (O.lit .u8 2)) O.j (O.d (x.I 0) (O.lit .u8 4))) O.j (O.d (x.I 0) (O.lit .u8 6))),.bool (O.i (O.i (O.d (x.I 0) (O.lit .u8 2)) O.j (O.d (x.I 0) (O.lit .u8 4))) O.j (O.d (x.I 0) (O.lit .u8 6))),.bool (O.d (x.I 0) (O.lit .u8 6))])
def WV:Nat→Env:=eL []
def H1:=oS Zw MB WV
def wc:List Nat:=[0,0]
def cO (O:Alg) (x:Ags O):O.M:=(O.c (O.b (O.d (x.I 0) (O.lit .u8 1)) (O.a [.bool (O.d (x.I 0) (O.lit .u8 1))]) (O.b (O.d (x.I 0) (O.lit .u8 2)) (O.a [.bool (O.d (x.I 0) (O.lit .u8 2))]) (O.a [.bool (O.d (x.I 0) (O.lit .u8 3))]))) fun c0=>(O.b (O.k c0 0) (O.a [.bool (O.d (x.I 1) (O.lit .u8 1))]) (O.c (O.b (O.d (x.I 0) (O.lit .u8 4)) (O.a [.bool (O.d (x.I 0) (O.lit .u8 4))]) (O.a [.bool (O.d (x.I 0) (O.lit .u8 5))])) fun c1=>(O.b (O.k c1 0) (O.a [.bool (O.i (O.d (x.I 1) (O.lit .u8 1)) O.j (O.d (x.I 1) (O.lit .u8 2)))]) (O.b (O.d (x.I 0) (O.lit .u8 7)) (O.a [.bool (O.i (O.d (x.I 1) (O.lit .u8 1)) O.j (O.d (x.I 1) (O.lit .u8 3)))]) (O.c (O.b (O.d (x.I 0) (O.lit .u8 6)) (O.a [.bool (O.d (x.I 0) (O.lit .u8 6))]) (O.a [.bool (O.d (x.I 0) (O.lit .u8 8))])) fun c2=>(O.b (O.k c2 0) (O.a [.bool (O.i (O.i (O.d (x.I 1) (O.lit .u8 1)) O.j (O.d (x.I 1) (O.lit .u8 2))) O.j (O.d (x.I 1) (O.lit .u8 3)))]) (O.a [.bool O.e]))))))))
def nV:Nat→Env:=eL []
def WI:=oS wc cO nV
def gq:List Nat:=[0]
def O7 (O:Alg) (x:Ags O):O.M:=(O.a [.bool (O.i (O.i (O.d (x.I 0) (O.lit .u8 6)) O.j (O.d (x.I 0) (O.lit .u8 7))) O.j (O.d (x.I 0) (O.lit .u8 8)))])
def ZR:Nat→Env:=eL []
def LX:=oS gq O7 ZR
def ZH:List Nat:=[0,0,0,0,0,1,0,0,0,0,1,0,1]
def Lh (O:Alg) (x:Ags O):O.M:=let u5:=(lq9 O 1);let u4:=(lq9 O 0);let u3:=(lq9 O 15);let u1:=(O.g (O.d (x.I 9) u4));let u0:=(O.g (O.d (x.I 8) u4));(O.b (O.d (x.I 6) (O.lit .u8 0)) (O.b (O.g (O.d (x.I 7) u4)) (O.a [.int (lq9 O 14)]) (O.b (O.i (O.i u0 O.j u1) O.j (x.B 10)) (O.a [.int u3]) (O.a [.int u4]))) (O.c (O.f 272 [] [.int (x.I 6)]) fun c0=>(O.c (O.f 273 [] [.int (x.I 6),.int (x.I 0)]) fun c1=>let u2:=(O.g (O.k c1 0));(O.c (O.b (O.z (O.g u2) (x.B 12)) (O.f 274 [] [.int (x.I 6)]) (O.a [.bool O.e])) fun c2=>(O.b (O.i u2 O.j (O.i (x.B 12) (O.g (O.k c2 0)) O.e)) (O.a [.int (lq9 O 13)]) (O.b (O.i (O.g (O.i (O.d (x.I 6) (O.lit .u8 6)) O.j (O.d (x.I 6) (O.lit .u8 8)))) (O.i (O.g (O.d (x.I 1) (O.lit .u8 0))) O.j (O.g (O.d (x.I 2) u4))) O.e) (O.a [.int (lq9 O 12)]) (O.b (O.i (O.g (O.d (x.I 7) u5)) (O.g (O.i (O.d (x.I 7) (lq9 O 2)) (O.i (O.d (x.I 6) (O.lit .u8 6)) O.j (O.d (x.I 6) (O.lit .u8 8))) O.e)) O.e) (O.a [.int (lq9 O 14)]) (O.b (O.i (O.i (O.k c0 0) (O.i (O.n (x.I 8) u5) O.j (O.n (lq9 O 11) (x.I 8))) O.e) O.j (O.i (O.g (O.k c0 0)) u0 O.e)) (O.a [.int u3]) (O.b (O.i u1 (O.i (O.i (O.i (O.g (O.k c0 2)) O.j (O.n (x.I 9) u5)) O.j (O.n (lq9 O 11) (x.I 9))) O.j (O.d (x.I 9) (x.I 8))) O.e) (O.a [.int u3]) (O.b (O.i (O.i (x.B 10) (O.g (O.d (x.I 6) (O.lit .u8 2))) O.e) (O.g (O.d (x.I 6) (O.lit .u8 6))) O.e) (O.a [.int (lq9 O 18)]) (O.a [.int u4])))))))))))
def Fd:Nat→Env:=eL [(272,H1),(273,WI),(274,LX)]
theorem Sp {N ls}:Fd N 272 [] ls=H1 N ls:=id rfl
theorem Zp {N ls}:Fd N 273 [] ls=WI N ls:=id rfl
theorem Uk {N ls}:Fd N 274 [] ls=LX N ls:=id rfl
def Lt:=oS ZH Lh Fd
def lC:List Nat:=[0,0,0,0,0,0,0,0,0,0,0,0,0,0,3,0,3,3,1,3,1,0,0,0,3,0,0,0,0,0,0,0,0,1,0,0,0,0,1,0]
def SK (O:Alg) (x:Ags O):O.M:=let u1:=(lq9 O 1);let u0:=(lq9 O 0);(O.c (O.b (O.n u0 (x.I 36)) (O.c (O.f 259 [] (ap O (xr x kI 0) [.int (x.I 36)])) fun c0=>(O.b (O.g (O.k c0 0)) (O.a [.int u1,.int (lq9 O 3)]) (O.c (O.f 260 [] (ap O (xr x kI 0) [.int (x.I 36)])) fun c1=>(O.b (O.g (O.aj (O.k c1 0) (x.B 38))) (O.a [.int u1,.int (lq9 O 18)]) (O.a [.int u0]))))) (O.a [.int u0])) fun c0=>(O.b (O.ac c0 0) (O.c (O.b (O.n u0 (x.I 37)) (O.c (O.f 259 [] (ap O (xr x kI 0) [.int (x.I 37)])) fun c1=>(O.b (O.g (O.k c1 0)) (O.a [.int u1,.int (lq9 O 3)]) (O.c (O.f 260 [] (ap O (xr x kI 0) [.int (x.I 37)])) fun c2=>(O.b (O.k c2 0) (O.a [.int u1,.int (lq9 O 18)]) (O.a [.int u0]))))) (O.a [.int u0])) fun c1=>(O.b (O.ac c1 0) (O.b (O.i (O.d (x.I 34) (O.lit .u8 4)) (O.g (O.d (O.ae (O.n (x.I 36) u0) u0 (x.I 36)) (x.I 22))) O.e) (O.a [.int (lq9 O 17)]) (O.a [.int u0])) (O.a [.int (O.h c1 1)]))) (O.a [.int (O.h c0 1)])))
def NG:Nat→Env:=eL [(259,Bq),(260,A5)]
theorem Yb {N ls}:NG N 259 [] ls=Bq N ls:=id rfl
theorem VS {N ls}:NG N 260 [] ls=A5 N ls:=id rfl
def Rs:=oS lC SK NG
def fg:List Nat:=[0,0,0,0,0,0,0,0,0,0,0,0,0,0,3,0,3,3,1,3,1,0,0,0,3,0,0,0]
def PB (O:Alg) (x:Ags O):O.M:=(O.c (O.f 174 [] (xr x kI 0)) fun c0=>(O.a (ap O (cr O c0 [0,0,0,0,0,0,0,0,0,0,0,0] 0) (ap O [.int (O.h c0 13),.int (O.h c0 12)] (cr O c0 [3,0,3,3,1,3,1,0,0,0,3,0,0,0] 14)))))
def Q3:Nat→Env:=eL [(174,AR)]
theorem YJ {N ls}:Q3 N 174 [] ls=AR N ls:=id rfl
def Fl:=oS fg PB Q3
def sW:List Nat:=[0,0,0,0,0,0,0,0,0,0,0,0,0,0,3,0,3,3,1,3,1,0,0,0,3,0,0,0,0,0,0,0,0,1,0,0,0,0,1,0]
def XA (O:Alg) (x:Ags O):O.M:=let u2:=(lq9 O 1);let u1:=(lq9 O 0);(O.c (O.f 174 [] (xr x kI 0)) fun c0=>(O.c (O.b (O.d (x.I 34) (O.lit .u8 0)) (O.a [.int u1,.bool O.j]) (O.b (O.d (x.I 35) u2) (O.a [.int (O.h c0 12),.bool O.j]) (O.b (O.d (x.I 35) (lq9 O 2)) (O.a [.int (O.h c0 13),.bool O.e]) (O.a [.int u1,.bool O.j])))) fun c1=>let u3:=(O.h c1 0);let u0:=(O.t .i64 u3 u2);(O.c (O.b (O.g (O.aj (O.g (O.d (O.ap .i64 (x.I 30) (lq9 O 2)) u1)) (x.B 33))) (O.c (O.f 256 [] (cr O c0 kI 0)) fun c2=>(O.a (ap O [.bool (O.g (O.k c1 1))] (cr O c2 kI 0)))) (O.a (ap O [.bool (O.k c1 1)] (cr O c0 kI 0)))) fun c2=>(O.b (O.d u3 u1) (O.a (cr O c2 kI 1)) (O.c (O.b (O.k c2 0) (O.a (ap O (cr O c2 [0,0,0,0,0,0,0,0,0,0,0,0] 1) (ap O [.int u1] (cr O c2 [0,3,0,3,3,1,3,1,0,0,0,3,0,0,0] 14)))) (O.a (ap O (cr O c2 [0,0,0,0,0,0,0,0,0,0,0,0,0] 1) (ap O [.int u1] (cr O c2 [3,0,3,3,1,3,1,0,0,0,3,0,0,0] 15))))) fun c3=>(O.c (O.f 249 [] (ap O (cr O c3 kI 0) [.int u3])) fun c4=>(O.c (O.b (O.k c4 0) (O.m (O.r u0 (O.l (O.o c3 14))) (O.a (ap O (cr O c3 [0,0,0,0,0,0,0,0,0,0,0,0,0,0] 0) (ap O [.rows (O.aa (O.o c3 14) u0 0 [.int (O.lit .u8 2)])] (cr O c3 [0,3,3,1,3,1,0,0,0,3,0,0,0] 15))))) (O.a (cr O c3 kI 0))) fun c5=>(O.a (ap O (cr O c5 [0,0,0,0] 0) (ap O [.int (O.q .i64 (O.h c5 4) u2)] (cr O c5 [0,0,0,0,0,0,0,0,0,3,0,3,3,1,3,1,0,0,0,3,0,0,0] 5)))))))))))
def Ma:Nat→Env:=eL [(174,AR),(249,Bs),(256,Fl)]
theorem ef {N ls}:Ma N 174 [] ls=AR N ls:=id rfl
theorem bM {N ls}:Ma N 249 [] ls=Bs N ls:=id rfl
theorem cq {N ls}:Ma N 256 [] ls=Fl N ls:=id rfl
def X5:=oS sW XA Ma
def pO:List Nat:=[2,0,0,0,0,0,0,0,1,0,0,0,0,3,0,0,0,0,0,0,0,0,0,0,0,0,0,0,3,0,3,3,1,3,1,0,0,0,3,0,0,0,1]
def UV (O:Alg) (x:Ags O):O.M:=let u5:=(lq9 O 0);let u4:=(lq9 O 1);(O.c (O.f 174 [] (xr x kI 14)) fun c0=>let u6:=(O.h c0 15);let u1:=(O.ab (O.o c0 16) (O.y [[.int u6]]));(O.c (O.f 93 [] (xr x kR 0)) fun c1=>let u2:=(O.g (O.d (O.h c1 0) u5));(O.c (O.b (O.g u2) (O.f 268 [] (ap O (cr O c0 kI 0) [.int u6])) (O.a [.bool O.e])) fun c2=>(O.b (O.i u2 O.j (O.g (O.k c2 0))) (O.a (ap O (cr O c0 kI 0) [.bool O.e])) (O.c (O.f 270 [] [.rows (O.o c0 16),.int u6]) fun c3=>(O.c (O.b (O.g (O.k c3 0)) (O.m (O.w (O.l u1) 8) (O.a (ap O (cr O c0 [0,0,0,0,0,0,0,0,0,0,0,0,0,0,3,0] 0) (ap O [.rows u1] (cr O c0 [3,1,3,1,0,0,0,3,0,0,0] 17))))) (O.a (cr O c0 kI 0))) fun c4=>let u7:=(O.o c4 19);let u3:=(O.t .i64 (O.h c4 15) u4);let u0:=(O.r u3 (O.l u7));(O.c (O.b (x.B 42) (O.m u0 (O.m u0 (O.a (ap O (cr O c4 [0,0,0,0,0,0,0,0,0,0,0] 0) (ap O [.int (O.q .i64 (O.h c4 11) u4)] (ap O (cr O c4 [0,0,3,0,3,3,1] 12) (ap O [.rows (O.aa u7 u3 0 [.int (O.q .i64 (O.p u7 u3 0) u4)]),.bool (O.k c4 20),.int (O.q .i64 (O.h c4 21) u4)] (cr O c4 [0,0,3,0,0,0] 22)))))))) (O.a (cr O c4 kI 0))) fun c5=>(O.b (O.n (O.h c5 11) (x.I 4)) (O.a (ap O (cr O c5 kI 0) [.bool O.e])) (O.a (ap O (cr O c5 [0,0,0,0,0,0,0,0,0,0] 0) (ap O [.int (O.q .i64 (O.h c5 10) u4),.int u5] (ap O (cr O c5 [0,0,3] 12) (ap O [.int u5,.rows O.v,.rows (O.o c5 16)] (ap O (cr O c5 [1,3,1,0,0,0,3,0,0,0] 18) [.bool O.j]))))))))))))))
def IR:Nat→Env:=eL [(93,Ap),(174,AR),(268,Ck),(270,Ih)]
theorem aQ {N ls}:IR N 93 [] ls=Ap N ls:=id rfl
theorem cR {N ls}:IR N 174 [] ls=AR N ls:=id rfl
theorem Zq {N ls}:IR N 268 [] ls=Ck N ls:=id rfl
theorem gF {N ls}:IR N 270 [] ls=Ih N ls:=id rfl
def Us:=oS pO UV IR
def lA:List Nat:=[0,0,0,0,0,0,1,1,1,1]
def lR (O:Alg) (x:Ags O):O.M:=(O.a [.int (O.q .i64 (O.q .i64 (O.q .i64 (O.q .i64 (x.I 0) (x.I 1)) (x.I 2)) (x.I 3)) (x.I 4))])
def tQ:Nat→Env:=eL []
def R3:=oS lA lR tQ
def bH:List Nat:=[2,0,0,0,0,0,0,0,1,0,0,0,0,3,0,0,0,0,0,0,0,0,0,0,0,0,0,0,3,0,3,3,1,3,1,0,0,0,3,0,0,0,0,0,0,0,0,1,0,0,0,0,1,0]
def PS (O:Alg) (x:Ags O):O.M:=let u5:=(lq9 O 0);(O.c (O.f 231 [] (xr x kI 14)) fun c0=>(O.b (O.k c0 0) (O.a (ap O (xr x kI 14) [.int (lq9 O 6)])) (O.b (O.d (x.I 29) u5) (O.a (ap O (xr x kI 14) [.int (lq9 O 7)])) (O.c (O.f 251 [] (xr x [2,0,0,0,0,0,0,0,1,0,0,0,0,3,0,0,0,0,0,0,0,0,0,0,0,0,0,0,3,0,3,3,1,3,1,0,0,0,3,0,0,0] 0)) fun c1=>(O.b (O.g (O.d (O.h c1 0) u5)) (O.a (ap O (xr x kI 14) [.int (O.h c1 0)])) (O.c (O.f 120 [] (xr x [0,0,0,0,0,1,0,0,0,0,1,0] 42)) fun c2=>(O.b (O.g (O.d (O.h c2 0) u5)) (O.a (ap O (xr x kI 14) [.int (O.h c2 0)])) (O.c (O.f 252 [] (ap O (xr x [0,0,0,0,0,1,0,0,0,0,1,0] 42) [.bool (x.B 34)])) fun c3=>(O.b (O.g (O.d (O.h c3 0) u5)) (O.a (ap O (xr x kI 14) [.int (O.h c3 0)])) (O.c (O.f 253 [] (xr x [0,0,0,0,0,0,0,0,0,0,0,0,0,0,3,0,3,3,1,3,1,0,0,0,3,0,0,0,0,0,0,0,0,1,0,0,0,0,1,0] 14)) fun c4=>(O.b (O.g (O.d (O.h c4 0) u5)) (O.a (ap O (xr x kI 14) [.int (O.h c4 0)])) (O.c (O.f 97 [] (ap O (xr x kR 0) (xr x [0,0,0,0,0,1,0,0,0,0,1,0] 42))) fun c5=>(O.c (O.f 254 [] (xr x [0,0,0,0,0,0,0,0,0,0,0,0,0,0,3,0,3,3,1,3,1,0,0,0,3,0,0,0,0,0,0,0,0,1,0,0,0,0,1,0] 14)) fun c6=>(O.c (O.f 255 [] (ap O (xr x kR 0) (ap O (cr O c6 kI 0) [.bool (O.k c5 6)]))) fun c7=>(O.c (O.b (O.k c7 28) (O.c (O.f 256 [] (cr O c7 kI 0)) fun c8=>(O.a (cr O c8 kI 0))) (O.a (cr O c7 kI 0))) fun c8=>let u6:=(O.h c8 4);let u4:=(O.q .i64 (O.h c8 8) (O.h c5 4));let u3:=(O.q .i64 (O.h c8 7) (O.h c5 3));let u2:=(O.q .i64 (O.h c8 6) (O.h c5 2));let u1:=(O.q .i64 (O.h c8 5) (O.h c5 1));(O.c (O.f 257 [] (cr O c5 [0,0,0,0,0,0,1,1,1,1] 0)) fun c9=>let u0:=(O.q .i64 (O.h c8 3) (O.h c9 0));(O.b (O.d (x.I 42) (O.lit .u8 1)) (O.a (ap O (cr O c8 [0,0,0] 0) (ap O [.int u0,.int u6,.int u1,.int u2,.int u3,.int u4] (ap O (cr O c8 [0,0,0,0,0,3,0,3,3,1,3] 9) (ap O [.bool O.e] (ap O (cr O c8 [0,0,0,3,0,0,0] 21) [.int u5])))))) (O.b (O.i (O.d (x.I 42) (O.lit .u8 3)) (x.B 8) O.e) (O.a (ap O (cr O c8 [0,0,0] 0) (ap O [.int u0,.int u6,.int u1,.int u2,.int u3,.int u4] (ap O (cr O c8 [0,0,0,0,0,3,0,3,3,1,3] 9) (ap O [.bool O.j] (ap O (cr O c8 [0,0,0,3,0,0,0] 21) [.int u5])))))) (O.a (ap O (cr O c8 [0,0,0] 0) (ap O [.int u0,.int u6,.int u1,.int u2,.int u3,.int u4] (ap O (cr O c8 [0,0,0,0,0,3,0,3,3,1,3,1,0,0,0,3,0,0,0] 9) [.int u5]))))))))))))))))))))))
def Be (N:Nat):Env:=fun f fns ls=>(cond (Nat.beq f 97&&AB fns []) (Hu N ls) (cond (Nat.beq f 120&&AB fns []) (HE N ls) (cond (Nat.beq f 231&&AB fns []) (Cr N ls) (cond (Nat.beq f 251&&AB fns []) (SB N ls) (cond (Nat.beq f 252&&AB fns []) (Lt N ls) (cond (Nat.beq f 253&&AB fns []) (Rs N ls) (cond (Nat.beq f 254&&AB fns []) (X5 N ls) (cond (Nat.beq f 255&&AB fns []) (Us N ls) (cond (Nat.beq f 256&&AB fns []) (Fl N ls) (cond (Nat.beq f 257&&AB fns []) (R3 N ls) none))))))))))
theorem Y9 {N ls}:Be N 97 [] ls=Hu N ls:=id rfl
theorem dA {N ls}:Be N 120 [] ls=HE N ls:=id rfl
theorem Y0 {N ls}:Be N 231 [] ls=Cr N ls:=id rfl
theorem cN {N ls}:Be N 251 [] ls=SB N ls:=id rfl
theorem Wl {N ls}:Be N 252 [] ls=Lt N ls:=id rfl
theorem cp {N ls}:Be N 253 [] ls=Rs N ls:=id rfl
theorem gx {N ls}:Be N 254 [] ls=X5 N ls:=id rfl
theorem fE {N ls}:Be N 255 [] ls=Us N ls:=id rfl
theorem Zm {N ls}:Be N 256 [] ls=Fl N ls:=id rfl
theorem ck {N ls}:Be N 257 [] ls=R3 N ls:=id rfl
def PZ:=oS bH PS Be
def kA:List Nat:=[0,0,0,0,0,0,0,0,0,0,0,0,0,0,3,0,3,3,1,3,1,0,0,0,3,0,0,0,0]
def SE (O:Alg) (x:Ags O):O.M:=let u2:=(O.t .i64 (x.I 28) (lq9 O 1));let u1:=(O.p (x.L 14) u2 0);let u0:=(O.r u2 (O.l (x.L 14)));(O.c (O.f 249 [] (xr x [0,0,0,0,0,0,0,0,0,0,0,0,0,0,3,0,3,3,1,3,1,0,0,0,3,0,0,0,0] 0)) fun c0=>(O.b (O.g (O.k c0 0)) (O.a [.int (lq9 O 3)]) (O.c (O.f 231 [] (xr x kI 0)) fun c1=>let u3:=(O.g (O.k c1 0));(O.m (O.g (O.z (O.g u3) (O.g u0))) (O.b (O.i u3 O.j (O.d u1 (O.lit .u8 1))) (O.a [.int (lq9 O 4)]) (O.m u0 (O.b (O.d u1 (O.lit .u8 2)) (O.a [.int (lq9 O 5)]) (O.a [.int (lq9 O 0)]))))))))
def NS:Nat→Env:=eL [(231,Cr),(249,Bs)]
theorem Yg {N ls}:NS N 231 [] ls=Cr N ls:=id rfl
theorem YG {N ls}:NS N 249 [] ls=Bs N ls:=id rfl
def FM:=oS kA SE NS
def dY:List Nat:=[0,0,0,0,0,0,0,0,0,0,0,0,0,0,3,0,3,3,1,3,1,0,0,0,3,0,0,0,0]
def Nt (O:Alg) (x:Ags O):O.M:=let u0:=(O.t .i64 (x.I 28) (lq9 O 1));(O.c (O.f 174 [] (xr x kI 0)) fun c0=>(O.c (O.f 258 [] (ap O (cr O c0 kI 0) [.int (x.I 28)])) fun c1=>(O.b (O.g (O.d (O.h c1 0) (lq9 O 0))) (O.a (ap O (cr O c0 kI 0) [.int (O.h c1 0)])) (O.m (O.r u0 (O.l (O.o c0 14))) (O.a (ap O (cr O c0 [0,0,0,0] 0) (ap O [.int (O.q .i64 (O.h c0 4) (lq9 O 1))] (ap O (cr O c0 [0,0,0,0,0,0,0,0,0] 5) (ap O [.rows (O.aa (O.o c0 14) u0 0 [.int (O.lit .u8 2)])] (ap O (cr O c0 [0,3,3,1,3,1,0,0,0,3,0,0,0] 15) [.int (lq9 O 0)]))))))))))
def KA:Nat→Env:=eL [(174,AR),(258,FM)]
theorem Wx {N ls}:KA N 174 [] ls=AR N ls:=id rfl
theorem Ws {N ls}:KA N 258 [] ls=FM N ls:=id rfl
def NY:=oS dY Nt KA
def lH:List Nat:=[0,0,0,0,0,0,0,0,0,0,0,0,0,0,3,0,3,3,1,3,1,0,0,0,3,0,0,0,0]
def SC (O:Alg) (x:Ags O):O.M:=let u1:=(lq9 O 0);let u0:=(O.t .i64 (x.I 28) (lq9 O 1));(O.c (O.f 174 [] (xr x kI 0)) fun c0=>let u2:=(O.o c0 14);(O.c (O.f 258 [] (ap O (cr O c0 kI 0) [.int (x.I 28)])) fun c1=>(O.b (O.g (O.d (O.h c1 0) u1)) (O.a (ap O (cr O c0 kI 0) [.int (O.h c1 0)])) (O.m (O.r u0 (O.l u2)) (O.b (O.d (O.h c0 12) u1) (O.a (ap O (cr O c0 [0,0,0,0,0,0,0,0,0,0,0,0] 0) (ap O [.int (x.I 28),.int (O.h c0 13),.rows (O.aa u2 u0 0 [.int (O.lit .u8 1)])] (ap O (cr O c0 [0,3,3,1,3,1,0,0,0,3,0,0,0] 15) [.int u1])))) (O.a (ap O (cr O c0 [0,0,0,0,0,0,0,0,0,0,0,0,0] 0) (ap O [.int (x.I 28),.rows (O.aa u2 u0 0 [.int (O.lit .u8 1)])] (ap O (cr O c0 [0,3,3,1,3,1,0,0,0,3,0,0,0] 15) [.int u1])))))))))
def Ne:Nat→Env:=eL [(174,AR),(258,FM)]
theorem ZQ {N ls}:Ne N 174 [] ls=AR N ls:=id rfl
theorem ZT {N ls}:Ne N 258 [] ls=FM N ls:=id rfl
def SD:=oS lH SC Ne
def qK:List Nat:=[0,0,0,0,0,0,0,0,0,0,0,0,0,0,3,0,3,3,1,3,1,0,0,0,3,0,0,0]
def MG (O:Alg) (x:Ags O):O.M:=(O.c (O.x (fun s0 c0=>let u4:=(O.o c0 0);let u3:=(O.h c0 1);let u2:=(O.p (x.L 14) u3 0);let u1:=(O.q .i64 u3 (lq9 O 1));let u0:=(O.ab u4 (O.y [[.int u1]]));(O.b (O.n u3 (O.l (x.L 14))) (O.m (O.r u3 (O.l (x.L 14))) (O.b (O.i (O.d u2 (O.lit .u8 0)) O.j (O.d u2 (O.lit .u8 3))) (O.m (O.w (O.l u0) 8) (s0 [.rows u0,.int u1])) (s0 [.rows u4,.int u1]))) (O.a [.rows u4]))) [.rows O.v,.int (lq9 O 0)]) fun c0=>(O.a [.rows (O.o c0 0)]))
def VF:Nat→Env:=eL []
def FE:=oS qK MG VF
def fh:List Nat:=[0,0,0,0,0,0,0,0,0,0,0,0,0,0,3,0,3,3,1,3,1,0,0,0,3,0,0,0,0,1]
def QS (O:Alg) (x:Ags O):O.M:=let u2:=(lq9 O 0);let u0:=(O.t .i64 (x.I 28) (lq9 O 1));(O.c (O.f 174 [] (xr x kI 0)) fun c0=>let u1:=(O.d (O.h c0 12) (x.I 28));(O.c (O.f 249 [] (ap O (cr O c0 kI 0) [.int (x.I 28)])) fun c1=>(O.b (O.g (O.k c1 0)) (O.a (ap O (cr O c0 kI 0) [.int (lq9 O 3)])) (O.b (O.i (O.d (O.h c0 12) u2) O.j (O.d (O.h c0 13) u2)) (O.a (ap O (cr O c0 kI 0) [.int (lq9 O 6)])) (O.b (O.i (O.g u1) (O.g (O.d (O.h c0 13) (x.I 28))) O.e) (O.a (ap O (cr O c0 kI 0) [.int (lq9 O 4)])) (O.c (O.b (x.B 29) (O.f 232 [] (cr O c0 kI 0)) (O.a [.rows O.v])) fun c2=>(O.b (O.i (x.B 29) (O.d (O.l (O.o c2 0)) u2) O.e) (O.a (ap O (cr O c0 kI 0) [.int (lq9 O 19)])) (O.c (O.b u1 (O.a (ap O (cr O c0 [0,0,0,0,0,0,0,0,0,0,0,0] 0) (ap O [.int u2] (cr O c0 [0,3,0,3,3,1,3,1,0,0,0,3,0,0,0] 13)))) (O.a (ap O (cr O c0 [0,0,0,0,0,0,0,0,0,0,0,0,0] 0) (ap O [.int u2] (cr O c0 [3,0,3,3,1,3,1,0,0,0,3,0,0,0] 14))))) fun c3=>let u3:=(O.o c3 14);(O.m (O.r u0 (O.l u3)) (O.b (O.g (x.B 29)) (O.m (O.r u0 (O.l (O.aa u3 u0 0 [.int (O.lit .u8 3)]))) (O.a (ap O (cr O c3 [0,0,0,0] 0) (ap O [.int (O.q .i64 (O.h c3 4) (lq9 O 1))] (ap O (cr O c3 [0,0,0,0,0,0,0,0,0] 5) (ap O [.rows (O.aa (O.aa u3 u0 0 [.int (O.lit .u8 3)]) u0 0 [.int (O.lit .u8 2)])] (ap O (cr O c3 [0,3,3,1,3,1,0,0,0,3,0,0,0] 15) [.int u2]))))))) (O.a (ap O (cr O c3 [0,0,0,0,0,0,0,0,0,0,0,0,0,0] 0) (ap O [.rows (O.aa u3 u0 0 [.int (O.lit .u8 3)])] (ap O (cr O c3 [0,3,3,1,3,1,0,0,0,3,0,0,0] 15) [.int u2]))))))))))))))
def Hl:Nat→Env:=eL [(174,AR),(232,FE),(249,Bs)]
theorem Yl {N ls}:Hl N 174 [] ls=AR N ls:=id rfl
theorem Z0 {N ls}:Hl N 232 [] ls=FE N ls:=id rfl
theorem Wz {N ls}:Hl N 249 [] ls=Bs N ls:=id rfl
def QI:=oS fh QS Hl
def dS:List Nat:=[0,0,0,0,0,0,0,0,0,0,0,0,0,0,3,0,3,3,1,3,1,0,0,0,3,0,0,0,0]
def Nr (O:Alg) (x:Ags O):O.M:=(O.c (O.f 174 [] (xr x kI 0)) fun c0=>(O.b (O.i (O.n (x.I 28) (lq9 O 0)) O.j (O.n (O.t .i64 (O.l (O.o c0 24)) (lq9 O 2)) (x.I 28))) (O.a (ap O (cr O c0 kI 0) [.int (lq9 O 16)])) (O.a (ap O (cr O c0 [0,0,0,0,0,0,0,0,0,0,0,0,0,0,3,0,3,3,1,3,1,0,0] 0) (ap O [.int (x.I 28)] (ap O (cr O c0 [3,0,0,0] 24) [.int (lq9 O 0)]))))))
def Pt:Nat→Env:=eL [(174,AR)]
theorem Wn {N ls}:Pt N 174 [] ls=AR N ls:=id rfl
def NN:=oS dS Nr Pt
def gK:List Nat:=[0,0,0,0,0,0,0,0,0,0,0,0,0,0,3,0,3,3,1,3,1,0,0,0,3,0,0,0,0]
def Pi (O:Alg) (x:Ags O):O.M:=(O.c (O.f 174 [] (xr x kI 0)) fun c0=>(O.c (O.f 259 [] (ap O (cr O c0 kI 0) [.int (x.I 28)])) fun c1=>(O.b (O.g (O.k c1 0)) (O.a (ap O (cr O c0 kI 0) [.int (lq9 O 3)])) (O.c (O.f 260 [] (ap O (cr O c0 kI 0) [.int (x.I 28)])) fun c2=>(O.b (O.k c2 0) (O.a (ap O (cr O c0 kI 0) [.int (lq9 O 18)])) (O.b (O.i (O.d (x.I 28) (O.h c0 15)) O.j (O.d (x.I 28) (O.h c0 22))) (O.a (ap O (cr O c0 kI 0) [.int (lq9 O 17)])) (O.a (ap O (cr O c0 [0,0,0,0,0,0,0,0,0,0,0,0,0,0,3,0,3,3,1,3,1,0] 0) (ap O [.int (x.I 28)] (ap O (cr O c0 [0,3,0,0,0] 23) [.int (lq9 O 0)]))))))))))
def Hv:Nat→Env:=eL [(174,AR),(259,Bq),(260,A5)]
theorem Yy {N ls}:Hv N 174 [] ls=AR N ls:=id rfl
theorem Wp {N ls}:Hv N 259 [] ls=Bq N ls:=id rfl
theorem Ud {N ls}:Hv N 260 [] ls=A5 N ls:=id rfl
def Pd:=oS gK Pi Hv
def Vo:List Nat:=[0,0,0,0,0,0,0,0,0,0,0,0,0,0,3,0,3,3,1,3,1,0,0,0,3,0,0,0,0,1]
def Iu (O:Alg) (x:Ags O):O.M:=let u2:=(lq9 O 0);let u1:=(O.t .i64 (x.I 28) (lq9 O 1));(O.c (O.f 174 [] (xr x kI 0)) fun c0=>let u0:=(O.aa (O.o c0 24) u1 0 [.bool (x.B 29)]);(O.c (O.f 259 [] (ap O (cr O c0 kI 0) [.int (x.I 28)])) fun c1=>(O.b (O.g (O.k c1 0)) (O.a (ap O (cr O c0 kI 0) [.int (lq9 O 3)])) (O.c (O.f 260 [] (ap O (cr O c0 kI 0) [.int (x.I 28)])) fun c2=>(O.b (O.aj (O.k c2 0) (x.B 29)) (O.a (ap O (cr O c0 kI 0) [.int (lq9 O 18)])) (O.m (O.r u1 (O.l (O.o c0 24))) (O.c (O.b (O.i (x.B 29) (O.d (O.h c0 22) (x.I 28)) O.e) (O.a (ap O (cr O c0 [0,0,0,0,0,0,0,0,0,0,0,0,0,0,3,0,3,3,1,3,1,0] 0) (ap O [.int u2,.int (O.h c0 23),.rows u0] (cr O c0 [0,0,0] 25)))) (O.a (ap O (cr O c0 [0,0,0,0,0,0,0,0,0,0,0,0,0,0,3,0,3,3,1,3,1,0,0,0] 0) (ap O [.rows u0] (cr O c0 [0,0,0] 25))))) fun c3=>(O.b (O.i (x.B 29) (O.d (O.h c3 15) (x.I 28)) O.e) (O.a (ap O (cr O c3 [0,0,0,0,0,0,0,0,0,0,0,0,0,0,3] 0) (ap O [.int u2] (ap O (cr O c3 [3,3,1,3,1,0,0,0,3,0,0,0] 16) [.int u2])))) (O.a (ap O (cr O c3 kI 0) [.int u2]))))))))))
def EL:Nat→Env:=eL [(174,AR),(259,Bq),(260,A5)]
theorem TK {N ls}:EL N 174 [] ls=AR N ls:=id rfl
theorem SZ {N ls}:EL N 259 [] ls=Bq N ls:=id rfl
theorem Qn {N ls}:EL N 260 [] ls=A5 N ls:=id rfl
def JI:=oS Vo Iu EL
def eY:List Nat:=[2,0,0,0,0,0,0,0,1,0,0,0,0,3,0,0,0,0,0,0,0,0,0,0,0,0,0,0,3,0,3,3,1,3,1,0,0,0,3,0,0,0]
def Ns (O:Alg) (x:Ags O):O.M:=let u0:=(lq9 O 0);(O.c (O.f 174 [] (xr x kI 14)) fun c0=>(O.c (O.f 93 [] (xr x kR 0)) fun c1=>(O.b (O.i (O.i (O.g (O.d (O.h c1 0) u0)) O.j (O.d (x.I 9) u0)) O.j (O.n (O.h c0 21) (O.ai .i64 (x.I 9) (x.I 4)))) (O.a (ap O (cr O c0 kI 0) [.int (lq9 O 22)])) (O.a (ap O (cr O c0 [0,0,0,0,0,0,0,0,0,0,0,0,0,0,3,0,3,3,1,3,1] 0) (ap O [.int u0] (ap O (cr O c0 [0,0,3,0,0,0] 22) [.int u0])))))))
def KC:Nat→Env:=eL [(93,Ap),(174,AR)]
theorem Wj {N ls}:KC N 93 [] ls=Ap N ls:=id rfl
theorem W4 {N ls}:KC N 174 [] ls=AR N ls:=id rfl
def NM:=oS eY Ns KC
def Vg:List Nat:=[2,0,0,0,0,0,0,0,1,0,0,0,0,3,0,0,0,0,0,0,0,0,0,0,0,0,0,0,3,0,3,3,1,3,1,0,0,0,3,0,0,0,0,1]
def IA (O:Alg) (x:Ags O):O.M:=let u6:=(lq9 O 0);let u5:=(lq9 O 1);let u4:=(O.t .i64 (x.I 42) u5);let u3:=(O.d u4 u5);let u2:=(O.r u4 (lq9 O 2));let u1:=(O.ae u3 (x.I 40) (x.I 39));let u0:=(O.q .i64 u1 u5);(O.m (O.g (O.z (O.g (O.g (x.B 32))) (O.g u2))) (O.b (O.i (O.g (x.B 32)) O.j (O.s (x.I 11) u1)) (O.a (ap O (xr x kI 14) [.int (lq9 O 24)])) (O.b (O.g (x.B 43)) (O.m u2 (O.m u2 (O.a (ap O (xr x [0,0,0,0,0,0,0,0,0,0,0,0,0,0,3,0,3,3,1,3,1,0,0,0,3] 14) [.int (O.ae (O.d u4 u6) u0 (x.I 39)),.int (O.ae u3 u0 (x.I 40)),.int (x.I 41),.int u6])))) (O.a (ap O (xr x kI 14) [.int u6])))))
def Ho (N:Nat):Env:=fun f fns ls=>none
def LD:=oS Vg IA Ho
def kC:List Nat:=[2,0,0,0,0,0,0,0,1,0,0,0,0,3,0,0,0,0,0,0,0,0,0,0,0,0,0,0,3,0,3,3,1,3,1,0,0,0,3,0,0,0]
def kD (O:Alg) (x:Ags O):O.M:=(O.a [.int (O.q .i64 (O.ai .i64 (x.I 24) (x.I 4)) (x.I 25))])
def uQ:Nat→Env:=eL []
def SP:=oS kC kD uQ
def VK:List Nat:=[2,0,0,0,0,0,0,0,1,0,0,0,0,3,0,0,0,0,0,0,0,0,0,0,0,0,0,0,3,0,3,3,1,3,1,0,0,0,3,0,0,0,0,0]
def Lb (O:Alg) (x:Ags O):O.M:=let u6:=(lq9 O 0);let u5:=(O.n (x.I 3) (x.I 43));let u4:=(O.d (x.I 3) u6);let u3:=(O.n u6 (x.I 42));let u2:=(O.n u6 (x.I 43));let u1:=(O.i u3 (O.i (O.d (x.I 15) u6) O.j (O.s (x.I 42) (x.I 17))) O.e);(O.c (O.b u4 (O.a [.bool u4]) (O.b u1 (O.a [.bool u1]) (O.c (O.b (O.z u2 (O.g u5)) (O.f 261 [] (xr x [2,0,0,0,0,0,0,0,1,0,0,0,0,3,0,0,0,0,0,0,0,0,0,0,0,0,0,0,3,0,3,3,1,3,1,0,0,0,3,0,0,0] 0)) (O.a [.int u6])) fun c0=>let u0:=(O.i u2 (O.i u5 O.j (O.n (O.ai .i64 (x.I 43) (x.I 4)) (O.h c0 0))) O.e);(O.b u0 (O.a [.bool u0]) (O.a [.bool (O.i (O.d (x.I 42) u6) (O.d (x.I 43) u6) O.e)]))))) fun c0=>(O.b (O.k c0 0) (O.a (ap O (xr x kI 14) [.int (lq9 O 25)])) (O.c (O.b u3 (O.a (ap O [.int (x.I 14),.int (x.I 42)] (xr x [0,0,0,0,0,0,0,0,0,0,0,0,3,0,3,3,1,3,1,0,0,0,3,0,0,0] 16))) (O.a (xr x kI 14))) fun c1=>(O.b u2 (O.a (ap O [.int (O.h c1 0),.int (O.h c1 1),.int (x.I 43)] (ap O (cr O c1 [0,0,0,0,0,0,0,0,0,0,0,3,0,3,3,1,3,1,0,0,0,3,0,0,0] 3) [.int u6]))) (O.a (ap O (cr O c1 kI 0) [.int u6]))))))
def FW (N:Nat):Env:=fun f fns ls=>(cond (Nat.beq f 261&&AB fns []) (SP N ls) none)
theorem Ya {N ls}:FW N 261 [] ls=SP N ls:=id rfl
def Kq:=oS VK Lb FW
def hY:List Nat:=[2,0,0,0,0,0,0,0,1,0,0,0,0,3,0,0,0,0,0,0,0,0,0,0,0,0,0,0,3,0,3,3,1,3,1,0,0,0,3,0,0,0,0,0,0,0,1,0,0,0,0,0,0,0,1,0,0,0,0,1,0]
def OZ (O:Alg) (x:Ags O):O.M:=let u1:=(lq9 O 0);let u0:=(O.d (x.I 43) (x.I 14));(O.b (O.d (x.I 42) (O.lit .u8 2)) (O.c (O.f 219 [] (ap O (xr x kI 14) [.int (x.I 44),.int (x.I 45)])) fun c0=>(O.a (cr O c0 [0,0,0,0,0,0,0,0,0,0,0,0,0,0,3,0,3,3,1,3,1,0,0,0,3,0,0,0,0] 0))) (O.b (O.d (x.I 42) (O.lit .u8 3)) (O.c (O.f 220 [] (ap O (xr x [2,0,0,0,0,0,0,0,1,0,0,0,0,3,0,0,0,0,0,0,0,0,0,0,0,0,0,0,3,0,3,3,1,3,1,0,0,0,3,0,0,0] 0) [.int (x.I 44)])) fun c0=>(O.a (cr O c0 [0,0,0,0,0,0,0,0,0,0,0,0,0,0,3,0,3,3,1,3,1,0,0,0,3,0,0,0,0] 0))) (O.b (O.d (x.I 42) (O.lit .u8 4)) (O.c (O.f 221 [] (ap O (xr x [2,0,0,0,0,0,0,0,1,0,0,0,0,3,0,0,0,0,0,0,0,0,0,0,0,0,0,0,3,0,3,3,1,3,1,0,0,0,3,0,0,0] 0) (xr x [0,0,0,0,0,1,0,0,0,0,1,0] 49))) fun c0=>(O.a (cr O c0 [0,0,0,0,0,0,0,0,0,0,0,0,0,0,3,0,3,3,1,3,1,0,0,0,3,0,0,0,0] 0))) (O.b (O.d (x.I 42) (O.lit .u8 5)) (O.b (x.B 46) (O.c (O.f 222 [] (ap O (xr x kI 14) [.int (x.I 44)])) fun c0=>(O.a (cr O c0 [0,0,0,0,0,0,0,0,0,0,0,0,0,0,3,0,3,3,1,3,1,0,0,0,3,0,0,0,0] 0))) (O.c (O.f 223 [] (ap O (xr x kI 14) [.int (x.I 44)])) fun c0=>(O.a (cr O c0 [0,0,0,0,0,0,0,0,0,0,0,0,0,0,3,0,3,3,1,3,1,0,0,0,3,0,0,0,0] 0)))) (O.b (O.d (x.I 42) (O.lit .u8 6)) (O.c (O.f 224 [] (ap O (xr x kI 14) [.int (x.I 44),.bool (x.B 46)])) fun c0=>(O.a (cr O c0 [0,0,0,0,0,0,0,0,0,0,0,0,0,0,3,0,3,3,1,3,1,0,0,0,3,0,0,0,0] 0))) (O.b (O.d (x.I 42) (O.lit .u8 7)) (O.c (O.f 225 [] (ap O (xr x kI 14) [.int (x.I 47)])) fun c0=>(O.a (cr O c0 [0,0,0,0,0,0,0,0,0,0,0,0,0,0,3,0,3,3,1,3,1,0,0,0,3,0,0,0,0] 0))) (O.b (O.d (x.I 42) (O.lit .u8 8)) (O.c (O.f 226 [] (ap O (xr x kI 14) [.int (x.I 44)])) fun c0=>(O.a (cr O c0 [0,0,0,0,0,0,0,0,0,0,0,0,0,0,3,0,3,3,1,3,1,0,0,0,3,0,0,0,0] 0))) (O.b (O.d (x.I 42) (O.lit .u8 9)) (O.c (O.f 227 [] (ap O (xr x kI 14) [.int (x.I 44),.bool (x.B 46)])) fun c0=>(O.a (cr O c0 [0,0,0,0,0,0,0,0,0,0,0,0,0,0,3,0,3,3,1,3,1,0,0,0,3,0,0,0,0] 0))) (O.b (O.d (x.I 42) (O.lit .u8 10)) (O.c (O.f 228 [] (xr x [2,0,0,0,0,0,0,0,1,0,0,0,0,3,0,0,0,0,0,0,0,0,0,0,0,0,0,0,3,0,3,3,1,3,1,0,0,0,3,0,0,0] 0)) fun c0=>(O.a (cr O c0 [0,0,0,0,0,0,0,0,0,0,0,0,0,0,3,0,3,3,1,3,1,0,0,0,3,0,0,0,0] 0))) (O.b (O.d (x.I 42) (O.lit .u8 11)) (O.b (O.g u0) (O.a (ap O (xr x kI 14) [.int (lq9 O 2)])) (O.b (O.g (O.d (x.I 3) u1)) (O.a (ap O (xr x kI 14) [.int (lq9 O 20)])) (O.a (ap O (xr x [0,0,0,0,0,0,0,0,0,0,0,0,0,0,3,0,3,3,1,3,1,0,0,0,3,0,0] 14) [.int (O.lit .u8 4),.int u1])))) (O.b (O.d (x.I 42) (O.lit .u8 13)) (O.b (O.g (O.d (x.I 47) (lq9 O 5))) (O.a (ap O (xr x kI 14) [.int (lq9 O 23)])) (O.b u0 (O.c (O.f 181 [] (xr x kI 14)) fun c0=>(O.a (ap O (cr O c0 kI 0) [.int u1]))) (O.b (O.n u1 (x.I 15)) (O.a (ap O [.int (x.I 14),.int (O.q .i64 (x.I 15) (lq9 O 5))] (ap O (xr x [0,0,0,0,0,0,0,0,0,0,0,0,3,0,3,3,1,3,1,0,0,0,3,0,0,0] 16) [.int u1]))) (O.a (ap O (xr x kI 14) [.int u1]))))) (O.b (O.d (x.I 42) (O.lit .u8 14)) (O.c (O.f 229 [] (ap O (xr x [2,0,0,0,0,0,0,0,1,0,0,0,0,3,0,0,0,0,0,0,0,0,0,0,0,0,0,0,3,0,3,3,1,3,1,0,0,0,3,0,0,0] 0) [.int (x.I 43),.bool (x.B 46)])) fun c0=>(O.a (cr O c0 [0,0,0,0,0,0,0,0,0,0,0,0,0,0,3,0,3,3,1,3,1,0,0,0,3,0,0,0,0] 0))) (O.b (O.d (x.I 42) (O.lit .u8 15)) (O.c (O.f 230 [] (ap O (xr x [2,0,0,0,0,0,0,0,1,0,0,0,0,3,0,0,0,0,0,0,0,0,0,0,0,0,0,0,3,0,3,3,1,3,1,0,0,0,3,0,0,0] 0) [.int (x.I 47),.int (x.I 48)])) fun c0=>(O.a (cr O c0 [0,0,0,0,0,0,0,0,0,0,0,0,0,0,3,0,3,3,1,3,1,0,0,0,3,0,0,0,0] 0))) (O.a (ap O (xr x kI 14) [.int (lq9 O 1)])))))))))))))))
def BS (N:Nat):Env:=fun f fns ls=>(cond (Nat.beq f 181&&AB fns []) (GU N ls) (cond (Nat.beq f 219&&AB fns []) (Ul N ls) (cond (Nat.beq f 220&&AB fns []) (Ut N ls) (cond (Nat.beq f 221&&AB fns []) (PZ N ls) (cond (Nat.beq f 222&&AB fns []) (NY N ls) (cond (Nat.beq f 223&&AB fns []) (SD N ls) (cond (Nat.beq f 224&&AB fns []) (QI N ls) (cond (Nat.beq f 225&&AB fns []) (NN N ls) (cond (Nat.beq f 226&&AB fns []) (Pd N ls) (cond (Nat.beq f 227&&AB fns []) (JI N ls) (cond (Nat.beq f 228&&AB fns []) (NM N ls) (cond (Nat.beq f 229&&AB fns []) (LD N ls) (cond (Nat.beq f 230&&AB fns []) (Kq N ls) none)))))))))))))
theorem OJ {N ls}:BS N 181 [] ls=GU N ls:=id rfl
theorem SW {N ls}:BS N 219 [] ls=Ul N ls:=id rfl
theorem Sw {N ls}:BS N 220 [] ls=Ut N ls:=id rfl
theorem SR {N ls}:BS N 221 [] ls=PZ N ls:=id rfl
theorem Og {N ls}:BS N 222 [] ls=NY N ls:=id rfl
theorem Qq {N ls}:BS N 223 [] ls=SD N ls:=id rfl
theorem PL {N ls}:BS N 224 [] ls=QI N ls:=id rfl
theorem Od {N ls}:BS N 225 [] ls=NN N ls:=id rfl
theorem P7 {N ls}:BS N 226 [] ls=Pd N ls:=id rfl
theorem LO {N ls}:BS N 227 [] ls=JI N ls:=id rfl
theorem OU {N ls}:BS N 228 [] ls=NM N ls:=id rfl
theorem QV {N ls}:BS N 229 [] ls=LD N ls:=id rfl
theorem Pe {N ls}:BS N 230 [] ls=Kq N ls:=id rfl
def Ss:=oS hY OZ BS
def fN:List Nat:=[2,0,0,0,0,0,0,0,1,0,0,0,0,3,0,0,0,0,0,0,0,0,0,0,0,0,0,0,3,0,3,3,1,3,1,0,0,0,3,0,0,0]
def QC (O:Alg) (x:Ags O):O.M:=let u0:=(lq9 O 0);(O.c (O.f 175 [] (xr x [2,0,0,0,0,0,0,0,1,0,0,0,0,3,0,0,0,0,0,0,0,0,0,0,0,0,0,0,3,0,3,3,1,3,1,0,0,0,3,0,0,0] 0)) fun c0=>(O.b (O.g (O.k c0 0)) (O.a [.int (O.lit .u8 0)]) (O.b (O.i (O.n u0 (x.I 15)) (O.s (x.I 15) (x.I 17)) O.e) (O.a [.int (O.lit .u8 3)]) (O.c (O.f 231 [] (xr x kI 14)) fun c1=>(O.c (O.b (O.k c1 0) (O.f 232 [] (xr x kI 14)) (O.a [.rows O.v])) fun c2=>(O.b (O.i (O.k c1 0) (O.d (O.l (O.o c2 0)) u0) O.e) (O.a [.int (O.lit .u8 1)]) (O.b (O.i (O.n u0 (x.I 16)) (O.s (x.I 16) (x.I 24)) O.e) (O.a [.int (O.lit .u8 2)]) (O.a [.int (O.lit .u8 0)]))))))))
def H7:Nat→Env:=eL [(175,DI),(231,Cr),(232,FE)]
def Kd:=oS fN QC H7
def cg:List Nat:=[2,0,0,0,0,0,0,0,1,0,0,0,0,3,0,0,0,0,0,0,0,0,0,0,0,0,0,0,3,0,3,3,1,3,1,0,0,0,3,0,0,0,0,0,0,0,1,0,0,0,0,0,0,0,1,0,0,0,0,1,0]
def O2 (O:Alg) (x:Ags O):O.M:=let u1:=(lq9 O 0);(O.c (O.f 141 [] (xr x kI 14)) fun c0=>(O.c (O.f 175 [] (ap O (xr x kR 0) (cr O c0 kI 0))) fun c1=>let u0:=(O.g (O.k c1 0));(O.c (O.b (O.g u0) (O.f 116 [] (xr x [0,0,0,0,1,0,0,0,0,0,0,0,1,0,0,0,0,1,0] 42)) (O.a [.int u1])) fun c2=>(O.b (O.i u0 O.j (O.g (O.d (O.h c2 0) u1))) (O.a (ap O (cr O c0 kI 0) [.int (lq9 O 1)])) (O.b (O.g (O.d (O.h c0 27) (O.lit .u8 0))) (O.a (ap O (cr O c0 kI 0) [.int (lq9 O 26)])) (O.c (O.f 195 [] (cr O c0 kI 0)) fun c3=>(O.b (O.i (O.g (O.k c3 0)) (O.g (O.d (x.I 42) (O.lit .u8 2))) O.e) (O.a (ap O (cr O c0 kI 0) [.int (lq9 O 1)])) (O.c (O.f 141 [] (cr O c0 kI 0)) fun c4=>(O.c (O.f 196 [] (ap O (xr x kR 0) (ap O (cr O c4 kI 0) (xr x [0,0,0,0,1,0,0,0,0,0,0,0,1,0,0,0,0,1,0] 42)))) fun c5=>(O.b (O.g (O.d (O.h c5 28) u1)) (O.a (ap O (cr O c0 kI 0) [.int (O.h c5 28)])) (O.b (O.d (O.h c5 27) (O.lit .u8 0)) (O.c (O.f 197 [] (ap O (xr x kR 0) (ap O (cr O c5 [0,0,0,0,0,0,0,0,0,0,0,0,0,0,3,0,3,3] 0) (ap O [.bool (O.d (x.I 42) (O.lit .u8 4))] (cr O c5 [3,1,0,0,0,3,0,0,0] 19))))) fun c6=>(O.a (ap O (cr O c5 [0,0,0,0,0,0,0,0,0,0,0,0,0,0,3,0,3,3] 0) (ap O [.bool (O.d (x.I 42) (O.lit .u8 4))] (ap O (cr O c5 [3,1,0,0,0,3,0,0] 19) [.int (O.h c6 0),.int u1]))))) (O.a (ap O (cr O c5 [0,0,0,0,0,0,0,0,0,0,0,0,0,0,3,0,3,3] 0) (ap O [.bool (O.d (x.I 42) (O.lit .u8 4))] (ap O (cr O c5 [3,1,0,0,0,3,0,0,0] 19) [.int u1])))))))))))))))
def Cj (N:Nat):Env:=fun f fns ls=>(cond (Nat.beq f 116&&AB fns []) (Jy N ls) (cond (Nat.beq f 141&&AB fns []) (DY N ls) (cond (Nat.beq f 175&&AB fns []) (DI N ls) (cond (Nat.beq f 195&&AB fns []) (Bu N ls) (cond (Nat.beq f 196&&AB fns []) (Ss N ls) (cond (Nat.beq f 197&&AB fns []) (Kd N ls) none))))))
theorem dE {N ls}:Cj N 116 [] ls=Jy N ls:=id rfl
theorem bC {N ls}:Cj N 141 [] ls=DY N ls:=id rfl
theorem ct {N ls}:Cj N 175 [] ls=DI N ls:=id rfl
theorem cc {N ls}:Cj N 195 [] ls=Bu N ls:=id rfl
theorem K6 {N ls}:Cj N 196 [] ls=Ss N ls:=id rfl
theorem OV {N ls}:Cj N 197 [] ls=Kd N ls:=id rfl
def I9:=oS cg O2 Cj
def cP:List Nat:=[2,0,0,0,0,0,0,0,1,0,0,0,0,3,0,0,1,3,0,0,0,0,0,0,0,0,0,1,0,0,0,0,0,0,0,1,0,0,0,0,1,0]
def QX (O:Alg) (x:Ags O):O.M:=let u5:=(lq9 O 1);let u4:=(lq9 O 0);(O.c (O.f 178 [] (xr x kM 0)) fun c0=>let u6:=(O.h c0 0);let u3:=(O.t .i64 u6 u5);let u1:=(O.d u3 u5);let u0:=(O.r u3 (lq9 O 2));(O.c (O.b (O.d (O.q .i64 (O.l (x.L 17)) u5) (O.ai .i64 (lq9 O 2) (x.I 2))) (O.c (O.f 147 [] [.int u6]) fun c1=>(O.c (O.f 150 [] (ap O (xr x kM 0) [.int (O.h c1 0)])) fun c2=>(O.c (O.f 150 [] (ap O (xr x kM 0) [.int u6])) fun c3=>(O.a [.int (O.q .i64 (O.t .i64 (O.h c2 0) (O.h c3 0)) u5)])))) (O.a [.int u4])) fun c1=>(O.m u0 (O.c (O.f 179 [] (ap O (xr x kR 0) [.int u6,.int (O.h c1 0),.int (O.ae u1 (x.I 19) (x.I 18))])) fun c2=>(O.b (O.g (O.d (O.h c2 28) u4)) (O.a (ap O (xr x kM 0) [.int u5])) (O.c (O.f 180 [] (ap O (xr x kR 0) (ap O (cr O c2 kI 0) (xr x [0,0,0,0,1,0,0,0,0,0,0,0,1,0,0,0,0,1,0] 23)))) fun c3=>let u2:=(O.ab (x.L 17) (O.y [(cr O c3 kI 0)]));(O.b (O.g (O.d (O.h c3 28) u4)) (O.a (ap O (xr x kM 0) [.int (O.h c3 28)])) (O.m u0 (O.m (O.w (O.l u2) 304) (O.a (ap O (xr x kR 0) (ap O [.int (O.lit .u8 3),.int (x.I 15),.bool (x.B 16),.rows u2,.int (O.ae (O.d u3 u4) u4 (x.I 18)),.int (O.ae u1 u4 (x.I 19))] (ap O (xr x [0,0,0] 20) [.int u4])))))))))))))
def DD (N:Nat):Env:=fun f fns ls=>(cond (Nat.beq f 147&&AB fns []) (CR N ls) (cond (Nat.beq f 150&&AB fns []) (FU N ls) (cond (Nat.beq f 178&&AB fns []) (JQ N ls) (cond (Nat.beq f 179&&AB fns []) (Ru N ls) (cond (Nat.beq f 180&&AB fns []) (I9 N ls) none)))))
theorem JA {N ls}:DD N 147 [] ls=CR N ls:=id rfl
theorem Ir {N ls}:DD N 150 [] ls=FU N ls:=id rfl
theorem YV {N ls}:DD N 178 [] ls=JQ N ls:=id rfl
theorem I0 {N ls}:DD N 179 [] ls=Ru N ls:=id rfl
theorem J0 {N ls}:DD N 180 [] ls=I9 N ls:=id rfl
def Pa:=oS cP QX DD
def bu:List Nat:=[2,0,0,0,0,0,0,0,1,0,0,0,0,3,0,0,1,3,0,0,0,0,0,0,0,0,0,1,0,0,0,0,0,0,0,1,0,0,0,0,1,0]
def QR (O:Alg) (x:Ags O):O.M:=let u9:=(lq9 O 1);let u8:=(lq9 O 0);let u7:=(O.t .i64 (x.I 24) u9);let u6:=(O.t .i64 (O.l (x.L 17)) u9);let u5:=(O.r u7 (lq9 O 2));let u4:=(O.d u7 u9);let u3:=(O.r u6 (O.l (x.L 17)));let u0:=(O.q .i64 (O.ae u4 (x.I 19) (x.I 18)) (lq9 O 5));(O.m u3 (O.c (O.f 180 [] (ap O (xr x kR 0) (ap O (rr O (x.L 17) u6 kI 0) (xr x [0,0,0,0,1,0,0,0,0,0,0,0,1,0,0,0,0,1,0] 23)))) fun c0=>let u2:=(O.aa (x.L 17) u6 0 (cr O c0 kI 0));(O.b (O.g (O.d (O.h c0 28) u8)) (O.a (ap O (xr x kM 0) [.int (O.h c0 28)])) (O.m u3 (O.b (O.i (O.g (O.d (x.I 23) (O.lit .u8 13))) O.j (O.d (x.I 24) (O.h c0 0))) (O.a (ap O (xr x [2,0,0,0,0,0,0,0,1,0,0,0,0,3,0,0,1] 0) (ap O [.rows u2] (ap O (xr x [0,0,0,0,0] 18) [.int u8])))) (O.c (O.x (fun s1 c1=>let u10:=(O.h c1 0);let u1:=(O.r u10 (O.l u2));(O.b (O.s u8 u10) (O.m u1 (O.b (O.d (O.p u2 u10 0) (x.I 24)) (O.m u1 (O.c (O.f 181 [] (rr O u2 u10 kI 0)) fun c2=>(O.m u1 (O.a (ap O [.int u8,.int u8] (ap O (xr x [2,0,0,0,0,0,0,0,1,0,0,0,0,3,0,0,1] 0) (ap O [.rows (O.aa u2 u10 0 (cr O c2 kI 0))] (xr x [0,0,0,0,0] 18)))))))) (s1 [.int (O.t .i64 u10 u9)]))) (O.a [.int u9]))) [.int u6]) fun c1=>(O.b (O.ac c1 0) (O.a (ap O (cr O c1 kM 2) [.int (O.h c1 1)])) (O.m u5 (O.m u5 (O.a (ap O (xr x [2,0,0,0,0,0,0,0,1,0,0,0,0,3,0,0,1] 0) (ap O [.rows u2,.int (O.ae (O.d u7 u8) u0 (x.I 18)),.int (O.ae u4 u0 (x.I 19))] (ap O (xr x [0,0,0] 20) [.int u8])))))))))))))
def Fp (N:Nat):Env:=fun f fns ls=>(cond (Nat.beq f 180&&AB fns []) (I9 N ls) (cond (Nat.beq f 181&&AB fns []) (GU N ls) none))
theorem Q0 {N ls}:Fp N 180 [] ls=I9 N ls:=id rfl
theorem Me {N ls}:Fp N 181 [] ls=GU N ls:=id rfl
def P9:=oS bu QR Fp
def ff:List Nat:=[2,0,0,0,0,0,0,0,1,0,0,0,0,3,0,0,1,3,0,0,0,0,0,0,0,0,0,1,0,0,0,0,0,0,0,1,0,0,0,0,1,0]
def Su (O:Alg) (x:Ags O):O.M:=let u2:=(lq9 O 1);let u1:=(lq9 O 0);let u0:=(O.t .i64 (O.l (x.L 17)) u2);(O.b (O.d (x.I 23) (O.lit .u8 1)) (O.b (O.g (O.d (x.I 14) (O.lit .u8 1))) (O.a (ap O (xr x kM 0) [.int u2])) (O.c (O.b (O.g (x.B 27)) (O.c (O.f 147 [] [.int (x.I 24)]) fun c0=>(O.a (ap O (xr x [2,0,0,0,0,0,0,0,1,0,0,0,0,3,0] 0) (ap O [.int (O.h c0 0)] (xr x [1,3,0,0,0,0,0] 16))))) (O.a (ap O (xr x [2,0,0,0,0,0,0,0,1,0,0,0,0,3,0] 0) (ap O [.int (x.I 24)] (xr x [1,3,0,0,0,0,0] 16))))) fun c0=>(O.a (ap O (cr O c0 kR 0) (ap O [.int (O.lit .u8 2)] (ap O (cr O c0 [0,1,3,0,0,0,0,0] 15) [.int u1])))))) (O.b (O.d (x.I 23) (O.lit .u8 2)) (O.b (O.g (O.d (x.I 14) (O.lit .u8 2))) (O.a (ap O (xr x kM 0) [.int u2])) (O.c (O.f 148 [] (xr x [2,0,0,0,0,0,0,0,1,0,0,0,0,3,0,0,1,3,0,0,0,0,0,0,0,0,0,1,0,0,0,0,0,0,0,1,0,0,0,0,1,0] 0)) fun c0=>(O.a (cr O c0 [2,0,0,0,0,0,0,0,1,0,0,0,0,3,0,0,1,3,0,0,0,0,0,0] 0)))) (O.b (O.d (x.I 23) (O.lit .u8 12)) (O.b (O.g (O.d (x.I 14) (O.lit .u8 4))) (O.a (ap O (xr x kM 0) [.int u2])) (O.b (O.g (O.d (x.I 24) (x.I 15))) (O.a (ap O (xr x kM 0) [.int (lq9 O 2)])) (O.a (ap O (xr x kR 0) (ap O [.int (O.lit .u8 2),.int (x.I 15),.bool (x.B 27)] (ap O (xr x [3,0,0,0,0,0] 17) [.int u1])))))) (O.b (O.d (x.I 23) (O.lit .u8 16)) (O.c (O.b (O.d (x.I 14) (O.lit .u8 3)) (O.m (O.r u0 (O.l (x.L 17))) (O.a (ap O (xr x [2,0,0,0,0,0,0,0,1,0,0,0,0,3,0,0,1] 0) (ap O [.rows (O.aa (x.L 17) u0 27 [.int (O.lit .u8 5)])] (xr x [0,0,0,0,0] 18))))) (O.a (xr x kM 0))) fun c0=>(O.c (O.b (O.d (O.h c0 3) u1) (O.a (ap O (cr O c0 kR 0) (ap O [.int (O.lit .u8 5)] (ap O (cr O c0 [0,1,3,0,0] 15) [.int (O.lit .u8 5),.int u1,.int u1])))) (O.a (ap O (cr O c0 kR 0) (ap O [.int (O.lit .u8 5)] (ap O (cr O c0 [0,1,3,0,0] 15) [.int (O.lit .u8 6),.int u1,.int u1]))))) fun c1=>(O.a (ap O (cr O c1 kM 0) [.int u1])))) (O.b (O.g (O.d (x.I 14) (O.lit .u8 3))) (O.a (ap O (xr x kM 0) [.int u2])) (O.c (O.f 149 [] (xr x [2,0,0,0,0,0,0,0,1,0,0,0,0,3,0,0,1,3,0,0,0,0,0,0,0,0,0,1,0,0,0,0,0,0,0,1,0,0,0,0,1,0] 0)) fun c0=>(O.a (cr O c0 [2,0,0,0,0,0,0,0,1,0,0,0,0,3,0,0,1,3,0,0,0,0,0,0] 0))))))))
def FN (N:Nat):Env:=fun f fns ls=>(cond (Nat.beq f 147&&AB fns []) (CR N ls) (cond (Nat.beq f 148&&AB fns []) (Pa N ls) (cond (Nat.beq f 149&&AB fns []) (P9 N ls) none)))
theorem Qs {N ls}:FN N 147 [] ls=CR N ls:=id rfl
theorem Sb {N ls}:FN N 148 [] ls=Pa N ls:=id rfl
theorem SV {N ls}:FN N 149 [] ls=P9 N ls:=id rfl
def Sq:=oS ff Su FN
def TN:List Nat:=[2,0,0,0,0,0,0,0,1,0,0,0,0,3,0,0,1,3,0,0,0,0,0]
def JS (O:Alg) (x:Ags O):O.M:=let u4:=(lq9 O 0);let u3:=(O.l (x.L 17));let u1:=(O.d u3 (lq9 O 3));let u0:=(O.d u3 (O.ai .i64 (lq9 O 2) (x.I 2)));(O.c (O.f 115 [] (xr x kM 0)) fun c0=>(O.b (O.i (O.g (O.k c0 0)) O.j (O.d u3 u4)) (O.a [.int (O.lit .u8 0),.int u4,.int u4]) (O.c (O.f 118 [] (xr x kM 0)) fun c1=>let u8:=(O.h c1 3);let u10:=(O.lit .u8 0);let u6:=(O.h c1 0);let u5:=(O.h c1 27);let u9:=(O.d u5 (O.lit .u8 5));let u2:=(O.t .i64 (O.h c1 1) (lq9 O 1));(O.c (O.f 147 [] [.int u6]) fun c2=>let u7:=(O.h c2 0);(O.b (O.i u9 (O.d (x.I 3) u4) O.e) (O.a [.int (O.lit .u8 5),.int u4,.int u4]) (O.b u9 (O.a [.int (O.lit .u8 6),.int u4,.int u4]) (O.b (O.d u5 u10) (O.a [.int u10,.int u4,.int u4]) (O.b (O.i u0 (O.s (O.h c1 1) u8) O.e) (O.a [.int (O.lit .u8 2),.int u6,.int (O.t .i64 (O.t .i64 (x.I 1) (lq9 O 1)) (O.h c1 4))]) (O.b (O.i u0 (O.d u8 u2) O.e) (O.a [.int (O.lit .u8 4),.int u4,.int u4]) (O.b u0 (O.a [.int (O.lit .u8 1),.int u7,.int (O.t .i64 u2 u8)]) (O.c (O.b u1 (O.f 150 [] (ap O (xr x kM 0) [.int u6])) (O.a [.int u4])) fun c3=>(O.c (O.b u1 (O.f 150 [] (ap O (xr x kM 0) [.int u7])) (O.a [.int u4])) fun c4=>(O.b (O.i u1 (O.n (O.h c3 0) (O.h c4 0)) O.e) (O.c (O.f 150 [] (ap O (xr x kM 0) [.int u7])) fun c5=>(O.c (O.f 150 [] (ap O (xr x kM 0) [.int u6])) fun c6=>(O.a [.int (O.lit .u8 3),.int u7,.int (O.t .i64 (O.h c5 0) (O.h c6 0))]))) (O.a [.int u10,.int u4,.int u4]))))))))))))))
def Cd (N:Nat):Env:=fun f fns ls=>(cond (Nat.beq f 115&&AB fns []) (FO N ls) (cond (Nat.beq f 118&&AB fns []) (Dj N ls) (cond (Nat.beq f 147&&AB fns []) (CR N ls) (cond (Nat.beq f 150&&AB fns []) (FU N ls) none))))
theorem Wm {N ls}:Cd N 115 [] ls=FO N ls:=id rfl
theorem Mi {N ls}:Cd N 118 [] ls=Dj N ls:=id rfl
theorem MJ {N ls}:Cd N 147 [] ls=CR N ls:=id rfl
theorem MK {N ls}:Cd N 150 [] ls=FU N ls:=id rfl
def Jo:=oS TN JS Cd
def WK:List Nat:=[2,0,0,0,0,0,0,0,1,0,0,0,0,3,0,0,1,3,0,0,0,0,0]
def Kw (O:Alg) (x:Ags O):O.M:=let u4:=(lq9 O 0);let u3:=(O.l (x.L 17));let u2:=(O.d u3 (lq9 O 3));let u1:=(O.d u3 (O.ai .i64 (lq9 O 2) (x.I 2)));let u0:=(O.i (O.d u3 (lq9 O 2)) (O.n u4 (x.I 10)) O.e);(O.c (O.f 118 [] (xr x kM 0)) fun c0=>(O.c (O.f 147 [] [.int (O.h c0 0)]) fun c1=>(O.c (O.b u1 (O.a [.bool u1]) (O.c (O.b u2 (O.f 150 [] (ap O (xr x kM 0) [.int (O.h c0 0)])) (O.a [.int u4])) fun c2=>(O.c (O.b u2 (O.f 150 [] (ap O (xr x kM 0) [.int (O.h c1 0)])) (O.a [.int u4])) fun c3=>(O.a [.bool (O.i u2 (O.n (O.h c2 0) (O.h c3 0)) O.e)])))) fun c2=>(O.b (O.k c2 0) (O.c (O.f 151 [] (ap O (xr x kR 0) (ap O [.int (O.lit .u8 5)] (xr x [0,1,3,0,0,0,0,0] 15)))) fun c3=>(O.a (ap O (xr x kR 0) (ap O [.int (O.lit .u8 5)] (ap O (xr x [0,1,3,0,0] 15) (cr O c3 [0,0,0] 0)))))) (O.c (O.b u0 (O.f 150 [] (ap O (xr x kM 0) [.int (x.I 15)])) (O.a [.int u4])) fun c3=>(O.c (O.b u0 (O.f 147 [] [.int (x.I 15)]) (O.a [.int u4])) fun c4=>(O.c (O.b u0 (O.f 150 [] (ap O (xr x kM 0) [.int (O.h c4 0)])) (O.a [.int u4])) fun c5=>(O.b (O.i u0 (O.s (x.I 10) (O.t .i64 (O.h c3 0) (O.h c5 0))) O.e) (O.a (ap O (xr x kR 0) (ap O [.int (O.lit .u8 4)] (xr x [0,1,3,0,0,0,0,0] 15)))) (O.a (ap O (xr x kR 0) (ap O [.int (O.lit .u8 2)] (xr x [0,1,3,0,0,0,0,0] 15))))))))))))
def Cu (N:Nat):Env:=fun f fns ls=>(cond (Nat.beq f 118&&AB fns []) (Dj N ls) (cond (Nat.beq f 147&&AB fns []) (CR N ls) (cond (Nat.beq f 150&&AB fns []) (FU N ls) (cond (Nat.beq f 151&&AB fns []) (Jo N ls) none))))
theorem aD {N ls}:Cu N 118 [] ls=Dj N ls:=id rfl
theorem YA {N ls}:Cu N 147 [] ls=CR N ls:=id rfl
theorem Yo {N ls}:Cu N 150 [] ls=FU N ls:=id rfl
theorem VA {N ls}:Cu N 151 [] ls=Jo N ls:=id rfl
def LW:=oS WK Kw Cu
def ah:List Nat:=[2,0,0,0,0,0,0,0,1,0,0,0,0,3,0,0,1,3,0,0,0,0,0,0,0,0,0,1,0,0,0,0,0,0,0,1,0,0,0,0,1,0]
def Pn (O:Alg) (x:Ags O):O.M:=let u1:=(lq9 O 0);(O.c (O.f 114 [] (xr x kM 0)) fun c0=>(O.c (O.f 115 [] (cr O c0 kM 0)) fun c1=>let u0:=(O.g (O.k c1 0));(O.c (O.b (O.g u0) (O.f 116 [] (xr x [0,0,0,0,1,0,0,0,0,0,0,0,1,0,0,0,0,1,0] 23)) (O.a [.int u1])) fun c2=>(O.b (O.i u0 O.j (O.g (O.d (O.h c2 0) u1))) (O.a (ap O (cr O c0 kM 0) [.int (lq9 O 1)])) (O.b (O.d (O.h c0 14) (O.lit .u8 5)) (O.a (ap O (cr O c0 kM 0) [.int (lq9 O 26)])) (O.c (O.f 114 [] (cr O c0 kM 0)) fun c3=>(O.c (O.f 117 [] (ap O (cr O c3 kM 0) (xr x [0,0,0,0,1,0,0,0,0,0,0,0,1,0,0,0,0,1,0] 23))) fun c4=>(O.b (O.g (O.d (O.h c4 23) u1)) (O.a (ap O (cr O c0 kM 0) [.int (O.h c4 23)])) (O.c (O.b (O.d (O.h c4 14) (O.lit .u8 3)) (O.f 118 [] (cr O c4 kM 0)) (O.a [.int u1,.int u1,.int u1,.int u1,.int u1,.int u1,.int u1,.int u1,.int u1,.int u1,.int u1,.int u1,.int u1,.int u1,.rows O.v,.int u1,.rows O.v,.rows O.v,.bool O.e,.rows O.v,.bool O.e,.int u1,.int u1,.int u1,.rows O.v,.int u1,.int u1,.int (O.lit .u8 0)])) fun c5=>(O.b (O.i (O.d (O.h c4 14) (O.lit .u8 3)) (O.g (O.d (O.h c5 27) (O.lit .u8 0))) O.e) (O.c (O.f 119 [] (cr O c4 kM 0)) fun c6=>(O.a (ap O (cr O c6 kM 0) [.int u1]))) (O.a (ap O (cr O c4 kM 0) [.int u1]))))))))))))
def Cl (N:Nat):Env:=fun f fns ls=>(cond (Nat.beq f 114&&AB fns []) (SL N ls) (cond (Nat.beq f 115&&AB fns []) (FO N ls) (cond (Nat.beq f 116&&AB fns []) (Jy N ls) (cond (Nat.beq f 117&&AB fns []) (Sq N ls) (cond (Nat.beq f 118&&AB fns []) (Dj N ls) (cond (Nat.beq f 119&&AB fns []) (LW N ls) none))))))
theorem Pw {N ls}:Cl N 114 [] ls=SL N ls:=id rfl
theorem bJ {N ls}:Cl N 115 [] ls=FO N ls:=id rfl
theorem bh {N ls}:Cl N 116 [] ls=Jy N ls:=id rfl
theorem TC {N ls}:Cl N 117 [] ls=Sq N ls:=id rfl
theorem Qr {N ls}:Cl N 118 [] ls=Dj N ls:=id rfl
theorem OK {N ls}:Cl N 119 [] ls=LW N ls:=id rfl
def JG:=oS ah Pn Cl
def aZ:List Nat:=[2,0,0,0,0,0,0,0,1,0,0,0,0,3,0,0,1,3,0,0,0,0,0,3]
def QF (O:Alg) (x:Ags O):O.M:=let u0:=(lq9 O 0);(O.c (O.x (fun s0 c0=>let u1:=(O.h c0 0);(O.b (O.n u1 (O.l (x.L 23))) (O.m (O.r u1 (O.l (x.L 23))) (O.b (O.s (lq9 O 4000) u1) (O.a (ap O [.int u0,.int u1,.int (lq9 O 26)] (cr O c0 kM 1))) (O.c (O.f 96 [] (ap O (cr O c0 kM 1) (rr O (x.L 23) u1 [0,0,0,0,1,0,0,0,0,0,0,0,1,0,0,0,0,1,0] 0))) fun c1=>(O.b (O.g (O.d (O.h c1 23) u0)) (O.a (ap O [.int u0,.int u1,.int (O.h c1 23)] (cr O c0 kM 1))) (s0 (ap O [.int (O.q .i64 u1 (lq9 O 1))] (cr O c1 kM 0))))))) (O.a (ap O [.int (lq9 O 1)] (cr O c0 kM 1))))) (ap O [.int u0] (xr x kM 0))) fun c0=>(O.b (O.ac c0 0) (O.a (ap O (cr O c0 kM 3) [.int (O.h c0 1),.int (O.h c0 2)])) (O.a (ap O (cr O c0 kM 1) [.int (lq9 O (-1)),.int u0]))))
def IX (N:Nat):Env:=fun f fns ls=>(cond (Nat.beq f 96&&AB fns []) (JG N ls) none)
theorem Qp {N ls}:IX N 96 [] ls=JG N ls:=id rfl
def QE:=oS aZ QF IX
def WL:List Nat:=[2,0,0,0,0,0,0,0,1,0,0,0,0,3,3]
def Kj (O:Alg) (x:Ags O):O.M:=let u0:=(lq9 O 0);(O.c (O.f 95 [] (xr x kR 0)) fun c0=>(O.b (O.g (O.d (O.h c0 23) u0)) (O.a [.str (O.u ⟨#[]⟩),.int u0,.int u0,.int u0,.int u0,.int u0,.int u0,.int u0,.bool O.e,.int u0,.int u0,.int u0,.int u0,.rows O.v,.int (O.lit .u8 0),.int u0,.bool O.e,.rows O.v,.int u0,.int u0,.int (O.lit .u8 0),.int u0,.int u0,.int u0,.int (lq9 O 1)]) (O.c (O.f 112 [] (ap O (cr O c0 kM 0) [.rows (x.L 14)])) fun c1=>(O.a (cr O c1 [2,0,0,0,0,0,0,0,1,0,0,0,0,3,0,0,1,3,0,0,0,0,0,0,0] 0)))))
def D6 (N:Nat):Env:=fun f fns ls=>(cond (Nat.beq f 95&&AB fns []) (Oa N ls) (cond (Nat.beq f 112&&AB fns []) (QE N ls) none))
theorem bi {N ls}:D6 N 95 [] ls=Oa N ls:=id rfl
theorem OH {N ls}:D6 N 112 [] ls=QE N ls:=id rfl
def Fm:=oS WL Kj D6
def YP:List Nat:=[2,0,0,0,0,0,0,0,1,0,0,0,0,3,3]
def Mv (O:Alg) (x:Ags O):O.M:=let u0:=(lq9 O 0);(O.c (O.f 93 [] (xr x kR 0)) fun c0=>(O.b (O.g (O.d (O.h c0 0) u0)) (O.a [.int (O.h c0 0)]) (O.b (O.n (lq9 O 4000) (O.l (x.L 14))) (O.a [.int (lq9 O 9)]) (O.c (O.f 94 [] (xr x [2,0,0,0,0,0,0,0,1,0,0,0,0,3,3] 0)) fun c1=>(O.b (O.s u0 (O.h c1 23)) (O.a [.int (lq9 O 10)]) (O.a [.int u0]))))))
def Ep (N:Nat):Env:=fun f fns ls=>(cond (Nat.beq f 93&&AB fns []) (Ap N ls) (cond (Nat.beq f 94&&AB fns []) (Fm N ls) none))
theorem ZX {N ls}:Ep N 93 [] ls=Ap N ls:=id rfl
theorem Ym {N ls}:Ep N 94 [] ls=Fm N ls:=id rfl
def M0:=oS YP Mv Ep
def hP:List Nat:=[3]
def PQ (O:Alg) (x:Ags O):O.M:=let u4:=(O.l (x.L 0));(O.c (O.x (fun s0 c0=>let u6:=(O.o c0 0);let u5:=(O.h c0 1);let u3:=(O.l u6);let u2:=(O.q .i64 u5 (lq9 O 1));let u1:=(O.t .i64 u3 (lq9 O 1));(O.b (O.n u5 u4) (O.m (O.r u5 u4) (O.b (O.d (O.p (x.L 0) u5 0) (O.lit .u8 2)) (O.c (O.b (O.n (lq9 O 0) u3) (O.m (O.r u1 u3) (O.a [.rows (O.aa u6 u1 1 [.int u5])])) (O.a [.rows u6])) fun c1=>let u0:=(O.ab (O.o c1 0) (O.y [[.int u5,.int u4]]));(O.m (O.w (O.l u0) 16) (s0 [.rows u0,.int u2]))) (s0 [.rows u6,.int u2]))) (O.a [.rows u6]))) [.rows (O.y []),.int (lq9 O 0)]) fun c0=>(O.a [.rows (O.o c0 0)]))
def Y2:Nat→Env:=eL []
def PK:=oS hP PQ Y2
def cu:List Nat:=[2,0,0,0,0,0,0,0,1,0,0,0,0,3,3]
def Pf (O:Alg) (x:Ags O):O.M:=let u5:=(lq9 O 0);(O.c (O.f 94 [] (xr x [2,0,0,0,0,0,0,0,1,0,0,0,0,3,3] 0)) fun c0=>let u7:=(O.h c0 23);(O.c (O.b (O.s u5 u7) (O.m (O.am u5 u7 (O.l (x.L 14))) (O.a [.rows (O.ao (x.L 14) u5 u7)])) (O.a [.rows (x.L 14)])) fun c1=>let u10:=(O.o c1 0);let u4:=(O.l u10);(O.c (O.f 95 [] (xr x kR 0)) fun c2=>(O.b (O.g (O.d (O.h c2 23) u5)) (O.a (ap O [.rows O.v] (cr O c0 [2,0,0,0,0,0,0,0,1,0,0,0,0,3,0,0,1,3,0,0,0,0,0,0,0] 0))) (O.c (O.x (fun s3 c3=>let u9:=(O.h c3 1);let u6:=(O.o c3 19);let u3:=(O.l u6);let u2:=(O.q .i64 u9 (lq9 O 1));let u1:=(O.t .i64 u3 (lq9 O 1));(O.b (O.n u9 u4) (O.m (O.r u9 u4) (O.c (O.f 96 [] (ap O (cr O c3 kM 2) (rr O u10 u9 [0,0,0,0,1,0,0,0,0,0,0,0,1,0,0,0,0,1,0] 0))) fun c4=>let u8:=(O.o c4 17);(O.b (O.d (O.p u10 u9 0) (O.lit .u8 4)) (O.m (O.r u1 u3) (O.m (O.r u1 (O.l u8)) (O.c (O.f 97 [] (ap O (xr x kR 0) (rr O u10 u9 [0,0,0,0,0,1,0,0,0,0,1,0] 7))) fun c5=>let u0:=(O.ab (O.o c3 0) (O.y [(ap O [.int u9,.int u1,.int (O.p u6 u1 10),.int (O.p u6 u1 11),.int (O.p u6 u1 15),.int (O.p u6 u1 12),.int (O.p u6 u1 13),.bool (O.rB u6 u1 20)] (ap O (rr O u10 u9 [0,0,0,0,0,1,0,0,0,0,1,0] 7) (ap O (cr O c5 [0,0,0,0,0,0,1,1,1,1] 0) [.int (O.p u8 u1 3),.int (O.p u8 u1 4)])))]));(O.m (O.w (O.l u0) 216) (s3 (ap O [.rows u0,.int u2] (cr O c4 kM 0))))))) (s3 (ap O [.rows (O.o c3 0),.int u2] (cr O c4 kM 0)))))) (O.a [.rows (O.o c3 0)]))) (ap O [.rows O.v,.int u5] (cr O c2 kM 0))) fun c3=>(O.a (ap O [.rows (O.o c3 0)] (cr O c0 [2,0,0,0,0,0,0,0,1,0,0,0,0,3,0,0,1,3,0,0,0,0,0,0,0] 0))))))))
def Dg (N:Nat):Env:=fun f fns ls=>(cond (Nat.beq f 94&&AB fns []) (Fm N ls) (cond (Nat.beq f 95&&AB fns []) (Oa N ls) (cond (Nat.beq f 96&&AB fns []) (JG N ls) (cond (Nat.beq f 97&&AB fns []) (Hu N ls) none))))
theorem Zf {N ls}:Dg N 94 [] ls=Fm N ls:=id rfl
theorem hZ {N ls}:Dg N 95 [] ls=Oa N ls:=id rfl
theorem Qz {N ls}:Dg N 96 [] ls=JG N ls:=id rfl
theorem Oc {N ls}:Dg N 97 [] ls=Hu N ls:=id rfl
def QY:=oS cu Pf Dg
def dn:List Nat:=[3,0]
def Np (O:Alg) (x:Ags O):O.M:=(O.c (O.x (fun s0 c0=>let u3:=(O.o c0 0);let u2:=(O.h c0 1);let u1:=(O.q .i64 u2 (lq9 O 1));let u0:=(O.ab u3 (O.y [(rr O (x.L 0) u2 [0,0,0,0,0,0,0,1,0,0,0,0,0,1,0,0,0,0,1,0,0,0,0,0,0,0,1,1,1,1,0,0] 0)]));(O.b (O.n u2 (O.l (x.L 0))) (O.m (O.r u2 (O.l (x.L 0))) (O.b (O.d (O.p (x.L 0) u2 1) (x.I 1)) (O.m (O.w (O.l u0) 216) (s0 [.rows u0,.int u1])) (s0 [.rows u3,.int u1]))) (O.a [.rows u3]))) [.rows (O.y []),.int (lq9 O 0)]) fun c0=>(O.a [.rows (O.o c0 0)]))
def X6:Nat→Env:=eL []
def Na:=oS dn Np X6
def mN:List Nat:=[2,0,0,0,0,0,0,0,1,0,0,0,0,3,3,0]
def WD (O:Alg) (x:Ags O):O.M:=let u4:=(lq9 O 0);(O.c (O.f 68 [] (xr x [2,0,0,0,0,0,0,0,1,0,0,0,0,3,3] 0)) fun c0=>(O.b (O.g (O.d (O.h c0 0) u4)) (O.a [.rows O.v,.rows O.v,.int (O.h c0 0)]) (O.c (O.f 69 [] [.rows (x.L 14)]) fun c1=>let u5:=(O.o c1 0);let u3:=(O.l u5);let u2:=(O.p u5 (x.I 15) 1);let u1:=(O.p u5 (x.I 15) 0);let u0:=(O.r (x.I 15) u3);(O.b (O.i (O.n (x.I 15) u4) O.j (O.s u3 (x.I 15))) (O.a [.rows O.v,.rows O.v,.int (lq9 O 2)]) (O.c (O.f 70 [] (xr x [2,0,0,0,0,0,0,0,1,0,0,0,0,3,3] 0)) fun c2=>(O.m u0 (O.m u0 (O.m (O.am u1 u2 (O.l (x.L 14))) (O.c (O.f 71 [] [.rows (O.o c2 0),.int (x.I 15)]) fun c3=>(O.a [.rows (O.ao (x.L 14) u1 u2),.rows (O.o c3 0),.int u4]))))))))))
def FK (N:Nat):Env:=fun f fns ls=>(cond (Nat.beq f 68&&AB fns []) (M0 N ls) (cond (Nat.beq f 69&&AB fns []) (PK N ls) (cond (Nat.beq f 70&&AB fns []) (QY N ls) (cond (Nat.beq f 71&&AB fns []) (Na N ls) none))))
theorem gr {N ls}:FK N 68 [] ls=M0 N ls:=id rfl
theorem ez {N ls}:FK N 69 [] ls=PK N ls:=id rfl
theorem jV {N ls}:FK N 70 [] ls=QY N ls:=id rfl
theorem Pj {N ls}:FK N 71 [] ls=Na N ls:=id rfl
def VJ:=oS mN WD FK
def eU:List Nat:=[3]
def Nc (O:Alg) (x:Ags O):O.M:=let u8:=(lq9 O 0);let u7:=(lq9 O 1);(O.c (O.x (fun s0 c0=>let u9:=(O.h c0 1);let u4:=(O.p (x.L 0) u9 2);let u3:=(O.p (x.L 0) u9 0);(O.b (O.n u9 (O.l (x.L 0))) (O.m (O.r u9 (O.l (x.L 0))) (O.c (O.b (O.d u3 (O.lit .u8 2)) (O.a [.rows (O.y [[.int u4],[.int (O.p (x.L 0) u9 3)]])]) (O.a [.rows (O.y [])])) fun c1=>(O.c (O.b (O.d u3 (O.lit .u8 5)) (O.a [.rows (O.y [[.int u4]])]) (O.a [.rows (O.o c1 0)])) fun c2=>let u5:=(O.l (O.o c2 0));(O.c (O.x (fun s3 c3=>let u11:=(O.h c3 1);let u10:=(O.o c3 0);let u6:=(O.l u10);let u2:=(O.p (O.o c2 0) u11 0);let u1:=(O.q .i64 u11 u7);let u0:=(O.ab u10 (O.y [[.int u2]]));(O.b (O.n u11 u5) (O.m (O.r u11 u5) (O.c (O.x (fun s4 c4=>let u12:=(O.h c4 1);(O.b (O.n u12 u6) (O.m (O.r u12 u6) (s4 [.bool (O.i (O.k c4 0) O.j (O.d u2 (O.p u10 u12 0))),.int (O.q .i64 u12 u7)])) (O.a [.bool (O.k c4 0),.int u12]))) [.bool O.e,.int u8]) fun c4=>(O.b (O.g (O.k c4 0)) (O.m (O.w (O.l u0) 8) (s3 [.rows u0,.int u1])) (s3 [.rows u10,.int u1])))) (O.a [.rows u10,.int u11]))) [.rows (O.o c0 0),.int u8]) fun c3=>(s0 [.rows (O.o c3 0),.int (O.q .i64 u9 u7)]))))) (O.a [.rows (O.o c0 0)]))) [.rows (O.y []),.int u8]) fun c0=>(O.a [.rows (O.o c0 0)]))
def XS:Nat→Env:=eL []
def NV:=oS eU Nc XS
def fY:List Nat:=[0,0,0,0,0,1,0,0,0,0,1,0,0,0]
def PT (O:Alg) (x:Ags O):O.M:=(O.b (O.d (x.I 6) (O.lit .u8 0)) (O.a [.int (lq9 O 0)]) (O.b (O.d (x.I 7) (lq9 O 1)) (O.a [.int (x.I 12)]) (O.b (O.d (x.I 7) (lq9 O 2)) (O.a [.int (x.I 13)]) (O.a [.int (lq9 O 0)]))))
def aE:Nat→Env:=eL []
def LM:=oS fY PT aE
def qB:List Nat:=[3,3,0]
def Uq (O:Alg) (x:Ags O):O.M:=let u13:=(lq9 O 1);let u12:=(lq9 O 0);(O.c (O.x (fun s0 c0=>let u14:=(O.h c0 0);let u11:=(O.p (x.L 1) u14 5);let u8:=(O.p (x.L 1) u14 16);let u7:=(O.p (x.L 1) u14 14);let u6:=(O.p (x.L 1) u14 12);let u4:=(O.q .i64 u14 u13);let u1:=(O.d (O.p (x.L 1) u14 10) u12);let u9:=(O.i (O.d (O.p (x.L 1) u14 9) (O.lit .u8 1)) u1 O.e);let u0:=(O.q .i64 (O.h c0 2) (O.p (x.L 1) u14 20));(O.b (O.n u14 (O.l (x.L 1))) (O.m (O.r u14 (O.l (x.L 1))) (O.c (O.b (O.d u11 (x.I 2)) (O.c (O.b (O.rB (x.L 1) u14 27) (O.a (ap O [.int (O.h c0 1),.int u0,.int (O.q .i64 (O.h c0 3) u13)] (cr O c0 [0,0,1,0,0,0,1] 4))) (O.a (ap O [.int (O.h c0 1),.int u0] (cr O c0 [0,0,0,1,0,0,0,1] 3)))) fun c1=>(O.c (O.b (O.i u9 (O.d u6 (lq9 O 4)) O.e) (O.a (ap O (cr O c1 [0,0,0] 0) (ap O [.int (O.q .i64 (O.h c1 3) u13)] (cr O c1 [0,1,0,0,0,1] 4)))) (O.a (cr O c1 [0,0,0,0,0,1,0,0,0,1] 0))) fun c2=>(O.b (O.i u9 (O.d u6 (lq9 O 6)) O.e) (O.a (ap O (cr O c2 [0,0,0,0] 0) (ap O [.int (O.q .i64 (O.h c2 4) u13)] (cr O c2 [1,0,0,0,1] 5)))) (O.a (cr O c2 [0,0,0,0,0,1,0,0,0,1] 0))))) (O.a (cr O c0 [0,0,0,0,0,1,0,0,0,1] 1))) fun c1=>(O.c (O.f 72 [] (ap O (rr O (x.L 1) u14 [0,0,0,0,0,1,0,0,0,0,1,0] 8) [.int u11,.int (O.p (x.L 1) u14 6)])) fun c2=>(O.b (O.d (O.h c2 0) (x.I 2)) (O.b (O.rB (x.L 1) u14 28) (s0 (ap O [.int u4] (ap O (cr O c1 [0,0,0,0,0] 0) [.bool O.j,.int u7,.int (O.p (x.L 1) u14 4),.int u8,.bool (O.k c1 9)]))) (s0 (ap O [.int u4] (ap O (cr O c1 [0,0,0,0,0] 0) [.bool O.j,.int u7,.int (O.h c1 7),.int u8,.bool (O.k c1 9)])))) (s0 (ap O [.int u4] (cr O c1 [0,0,0,0,0,1,0,0,0,1] 0))))))) (O.a (cr O c0 [0,0,0,0,0,1,0,0,0,1] 1)))) [.int u12,.int (x.I 2),.int u12,.int u12,.int u12,.int u12,.bool O.e,.int (O.lit .u8 0),.int u12,.int u12,.bool O.e]) fun c0=>(O.c (O.x (fun s1 c1=>let u15:=(O.h c1 0);let u10:=(O.p (x.L 0) u15 0);let u5:=(O.g (O.rB (x.L 0) u15 4));let u3:=(O.q .i64 u15 u13);let u2:=(O.d (O.p (x.L 0) u15 2) (x.I 2));(O.b (O.n u15 (O.l (x.L 0))) (O.m (O.r u15 (O.l (x.L 0))) (O.b (O.i (O.d u10 (O.lit .u8 2)) (O.i u2 O.j (O.d (O.p (x.L 0) u15 3) (x.I 2))) O.e) (s1 (ap O [.int u3] (ap O (cr O c1 [0,0,0,0,0,1,0,0,0] 1) [.bool O.j]))) (O.b (O.i (O.i (O.d u10 (O.lit .u8 5)) u2 O.e) u5 O.e) (s1 (ap O [.int u3] (ap O (cr O c1 [0,0,0,0,0,1,0,0,0] 1) [.bool O.j]))) (O.b (O.i (O.d u10 (O.lit .u8 5)) u2 O.e) (s1 (ap O [.int u3] (ap O (cr O c1 [0,0,0,0,0] 1) (ap O [.bool O.j,.int (O.lit .u8 9)] (cr O c1 [0,0,1] 8))))) (O.b (O.i (O.i (O.d u10 (O.lit .u8 6)) u2 O.e) u5 O.e) (s1 (ap O [.int u3] (ap O (cr O c1 [0,0,0,0,0] 1) (ap O [.bool O.j,.int (O.lit .u8 10)] (cr O c1 [0,0,1] 8))))) (s1 (ap O [.int u3] (cr O c1 [0,0,0,0,0,1,0,0,0,1] 1)))))))) (O.a (cr O c1 [0,0,0,0,0,1,0,0,0,1] 1)))) (ap O [.int u12] (cr O c0 [0,0,0,0,0,1,0,0,0,1] 0))) fun c1=>(O.a (cr O c1 [0,0,0,0,0,1,0,0,0,1] 0))))
def Ve:Nat→Env:=eL [(72,LM)]
theorem Zn {N ls}:Ve N 72 [] ls=LM N ls:=id rfl
def Ua:=oS qB Uq Ve
def cm:List Nat:=[2,0,0,0,0,0,0,0,1,0,0,0,0,3,3,0]
def Pm (O:Alg) (x:Ags O):O.M:=let u6:=(lq9 O 1);let u5:=(lq9 O 0);(O.c (O.f 34 [] (xr x [2,0,0,0,0,0,0,0,1,0,0,0,0,3,3,0] 0)) fun c0=>(O.b (O.g (O.d (O.h c0 2) u5)) (O.a [.rows O.v,.int (O.h c0 2)]) (O.c (O.f 35 [] [.rows (O.o c0 0)]) fun c1=>(O.c (O.x (fun s2 c2=>let u9:=(O.h c2 1);let u7:=(O.o c2 0);let u3:=(O.l u7);let u2:=(O.q .i64 u9 u6);let u1:=(O.ab u7 (O.y [[.int u9]]));(O.b (O.s u9 (x.I 1)) (O.c (O.x (fun s3 c3=>let u8:=(O.h c3 1);(O.b (O.n u8 u3) (O.m (O.r u8 u3) (s3 [.bool (O.i (O.k c3 0) O.j (O.d u9 (O.p u7 u8 0))),.int (O.q .i64 u8 u6)])) (O.a [.bool (O.k c3 0),.int u8]))) [.bool O.e,.int u5]) fun c3=>(O.b (O.g (O.k c3 0)) (O.m (O.w (O.l u1) 8) (s2 [.rows u1,.int u2])) (s2 [.rows u7,.int u2]))) (O.a [.rows u7]))) [.rows (O.o c1 0),.int u6]) fun c2=>let u4:=(O.l (O.o c2 0));(O.c (O.x (fun s3 c3=>let u10:=(O.h c3 1);(O.b (O.n u10 u4) (O.m (O.r u10 u4) (O.c (O.f 36 [] [.rows (O.o c0 0),.rows (O.o c0 1),.int (O.p (O.o c2 0) u10 0)]) fun c4=>let u0:=(O.ab (O.o c3 0) (O.y [(cr O c4 [0,0,0,0,0,1,0,0,0,1] 0)]));(O.m (O.w (O.l u0) 72) (s3 [.rows u0,.int (O.q .i64 u10 u6)])))) (O.a [.rows (O.o c3 0)]))) [.rows (O.y []),.int u5]) fun c3=>(O.a [.rows (O.o c3 0),.int u5]))))))
def Ea (N:Nat):Env:=fun f fns ls=>(cond (Nat.beq f 34&&AB fns []) (VJ N ls) (cond (Nat.beq f 35&&AB fns []) (NV N ls) (cond (Nat.beq f 36&&AB fns []) (Ua N ls) none)))
theorem jW {N ls}:Ea N 34 [] ls=VJ N ls:=id rfl
theorem YB {N ls}:Ea N 35 [] ls=NV N ls:=id rfl
theorem em {N ls}:Ea N 36 [] ls=Ua N ls:=id rfl
def Pz:=oS cm Pm Ea
def Kx:List Nat:=[2,0,0,0,0,0,0,0,1,0,0,0,0,3,3,0]
def EI (O:Alg) (x:Ags O):O.M:=(O.c (O.f 8 [] []) fun c0=>(O.b (O.g (O.k c0 0)) (O.a [.bool O.e]) (O.c (O.f 9 [] [.rows (x.L 14)]) fun c1=>(O.c (O.f 10 [] (ap O (xr x kR 0) [.rows (O.o c1 0),.int (x.I 15)])) fun c2=>(O.c (O.f 11 [] (ap O (xr x kR 0) [.rows (O.o c1 0),.int (x.I 15)])) fun c3=>(O.c (O.f 12 [] [.rows (O.o c2 0),.rows (O.o c3 0)]) fun c4=>(O.a [.bool (O.i (O.k c4 0) (O.d (O.h c2 1) (O.h c3 1)) O.e)])))))))
def BM (N:Nat):Env:=fun f fns ls=>(cond (Nat.beq f 8&&AB fns []) (Mq N ls) (cond (Nat.beq f 9&&AB fns []) (TF N ls) (cond (Nat.beq f 10&&AB fns []) (Cw N ls) (cond (Nat.beq f 11&&AB fns []) (Pz N ls) (cond (Nat.beq f 12&&AB fns []) (Bw N ls) none)))))
theorem RU {N ls}:BM N 8 [] ls=Mq N ls:=id rfl
theorem Tj {N ls}:BM N 9 [] ls=TF N ls:=id rfl
theorem Ou {N ls}:BM N 10 [] ls=Cw N ls:=id rfl
theorem Sa {N ls}:BM N 11 [] ls=Pz N ls:=id rfl
theorem Jb {N ls}:BM N 12 [] ls=Bw N ls:=id rfl
def EW:=oS Kx EI BM
end Go.Px
