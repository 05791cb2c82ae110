/- Part 10. -/
import Derived.Test.YtlbbobdcfhkkfaaGreatDoorPart08
set_option linter.unusedVariables false
set_option linter.unusedSimpArgs false
namespace Go.Px
set_option maxRecDepth 100000
def cf:List Nat:=[2]
def lq9 (O:Alg) (n:Int):O.I:=O.lit .i64 n
def QT (O:Alg) (x:Ags O):O.M:=let u4:=(lq9 O 1);let u3:=(lq9 O 0);let u2:=(O.aw (x.S 0));let u1:=(O.l u2);(O.c (O.w (fun s0 c0=>let u5:=(O.d c0 0);let u0:=(O.n u2 u5 0);(O.b (O.o u5 u1) (O.j (O.r u5 u1) (O.b (O.i (O.h (O.i (O.z (O.lit .u8 65) u0) (O.z u0 (O.lit .u8 90)) O.g)) (O.i (O.e u5 u3) O.m (O.i (O.i (O.h (O.e u0 (O.lit .u8 95))) (O.h (O.e u0 (O.lit .u8 45))) O.g) (O.i (O.o u0 (O.lit .u8 48)) O.m (O.o (O.lit .u8 57) u0)) O.g)) O.g) (O.a [.int u3,.bool O.g]) (s0 [.int (O.p .i64 u5 u4)]))) (O.a [.int u4]))) [.int u3]) fun c0=>(O.b (O.ac c0 0) (O.a [.bool (O.q c0 1)]) (O.a [.bool (O.i (O.z u4 (O.x (x.S 0))) (O.z (O.x (x.S 0)) (lq9 O 16)) O.g)])))
def Y0:Nat→Env:=eL []
def MS:=oS cf QT Y0
def Ul:List Nat:=[0,0,0]
def VW (O:Alg) (x:Ags O):O.M:=(O.a [.bool (O.i (O.z (x.I 1) (x.I 0)) (O.z (x.I 0) (x.I 2)) O.g)])
def cC:Nat→Env:=eL []
def DM:=oS Ul VW cC
def VC:List Nat:=[2,0,0,0,0,0,0,0,1,0,0,0,0,3]
def KS (O:Alg) (x:Ags O):O.M:=let u10:=(lq9 O 1);let u9:=(lq9 O 0);(O.c (O.f 56 [] [.int (x.I 1),.int (lq9 O 2),.int (lq9 O 11)]) fun c0=>(O.c (O.b (O.q c0 0) (O.f 56 [] [.int (x.I 2),.int u10,.int (lq9 O 2)]) (O.a [.bool O.g])) fun c1=>let u8:=(O.i (O.q c0 0) (O.q c1 0) O.g);(O.c (O.b u8 (O.f 56 [] [.int (x.I 3),.int u9,.int (lq9 O 90)]) (O.a [.bool O.g])) fun c2=>let u7:=(O.i u8 (O.q c2 0) O.g);(O.c (O.b u7 (O.f 56 [] [.int (x.I 4),.int (lq9 O 4),.int (lq9 O 8)]) (O.a [.bool O.g])) fun c3=>let u6:=(O.i u7 (O.q c3 0) O.g);(O.c (O.b u6 (O.f 56 [] [.int (x.I 5),.int u9,.int (lq9 O 90)]) (O.a [.bool O.g])) fun c4=>let u5:=(O.i u6 (O.q c4 0) O.g);(O.c (O.b u5 (O.f 56 [] [.int (x.I 6),.int u10,.int (lq9 O 5)]) (O.a [.bool O.g])) fun c5=>let u4:=(O.i u5 (O.q c5 0) O.g);(O.c (O.b u4 (O.f 56 [] [.int (x.I 7),.int u10,.int (lq9 O 5)]) (O.a [.bool O.g])) fun c6=>let u3:=(O.i u4 (O.q c6 0) O.g);(O.c (O.b u3 (O.f 56 [] [.int (x.I 9),.int u9,.int (lq9 O 200)]) (O.a [.bool O.g])) fun c7=>let u2:=(O.i u3 (O.q c7 0) O.g);(O.c (O.b u2 (O.f 56 [] [.int (x.I 10),.int u9,.int (lq9 O 1000)]) (O.a [.bool O.g])) fun c8=>let u1:=(O.i u2 (O.q c8 0) O.g);(O.c (O.b u1 (O.f 56 [] [.int (x.I 11),.int u9,.int (lq9 O 9)]) (O.a [.bool O.g])) fun c9=>let u0:=(O.i u1 (O.q c9 0) O.g);(O.c (O.b u0 (O.f 56 [] [.int (x.I 12),.int u9,.int (lq9 O 11)]) (O.a [.bool O.g])) fun c10=>(O.a [.bool (O.i u0 (O.q c10 0) O.g)]))))))))))))
def L9:Nat→Env:=eL [(56,DM)]
def HP:=oS VC KS L9
def Wi:List Nat:=[2,0,0,0,0,0,0,0,1,0,0,0,0,3]
def Ll (O:Alg) (x:Ags O):O.M:=let u7:=(lq9 O 1);let u6:=(lq9 O 0);let u5:=(O.l (x.L 13));(O.b (O.o (lq9 O 8) u5) (O.a [.int (lq9 O 9)]) (O.c (O.w (fun s0 c0=>let u8:=(O.d c0 0);let u4:=(O.n (x.L 13) u8 1);let u3:=(O.n (x.L 13) u8 0);let u2:=(O.o u6 u8);let u1:=(O.u .i64 u8 u7);let u0:=(O.i (O.i (O.o u3 u7) O.m (O.o u4 u3)) O.m (O.o (x.I 3) u4));(O.b (O.o u8 u5) (O.j (O.r u8 u5) (O.c (O.b (O.h u0) (O.f 56 [] [.int (O.n (x.L 13) u8 2),.int u6,.int (lq9 O 11)]) (O.a [.bool O.g])) fun c1=>(O.b (O.i u0 O.m (O.h (O.q c1 0))) (O.a [.int u6,.int (lq9 O 2)]) (O.j (O.h (O.af u2 (O.h (O.r u1 u5)))) (O.b (O.i u2 (O.z u3 (O.n (x.L 13) u1 1)) O.g) (O.a [.int u6,.int (lq9 O 8)]) (s0 [.int (O.p .i64 u8 u7)])))))) (O.a [.int u7]))) [.int u6]) fun c0=>(O.b (O.ac c0 0) (O.a [.int (O.d c0 1)]) (O.a [.int u6]))))
def M7:Nat→Env:=eL [(56,DM)]
def Ib:=oS Wi Ll M7
def Yd:List Nat:=[2,0,0,0,0,0,0,0,1,0,0,0,0,3]
def Mj (O:Alg) (x:Ags O):O.M:=let u2:=(lq9 O 0);let u1:=(O.h (O.e (x.I 5) u2));let u0:=(O.i (O.h (O.e (x.I 10) u2)) (O.e (x.I 2) (lq9 O 1)) O.g);(O.c (O.f 41 [] [.str (x.S 0)]) fun c0=>(O.b (O.h (O.q c0 0)) (O.a [.int (lq9 O 5)]) (O.c (O.f 42 [] (xr x kR 0)) fun c1=>(O.b (O.h (O.q c1 0)) (O.a [.int (lq9 O 2)]) (O.c (O.b u0 (O.a [.bool u0]) (O.a [.bool (O.i (O.i u1 O.m (O.o u2 (O.l (x.L 13)))) (O.e (x.I 3) u2) O.g)])) fun c2=>(O.b (O.q c2 0) (O.a [.int (lq9 O 1)]) (O.b (O.i u1 (O.o (O.al .i64 (x.I 5) (x.I 1)) (x.I 3)) O.g) (O.a [.int (lq9 O 13)]) (O.c (O.f 43 [] (xr x kR 0)) fun c3=>(O.a [.int (O.d c3 0)])))))))))
def G6:Nat→Env:=eL [(41,MS),(42,HP),(43,Ib)]
def Ab:=oS Yd Mj G6
def Dw (N:Nat) (ls:List PV):Option (List PV):=Qk 24 ls
def Yf:List Nat:=[2,0,0,0,0,0,0,0,1,0,0,0,0,3]
def M1 (O:Alg) (x:Ags O):O.M:=(O.c (O.f 48 [] [.rows (x.L 13)]) fun c0=>(O.a (ap O (xr x [2,0,0,0,0,0,0,0,1,0,0,0,0] 0) [.rows (O.k c0 0)])))
def OC:Nat→Env:=eL [(48,Dw)]
theorem NQ {N ls}:OC N 48 [] ls=Dw N ls:=id rfl
def D3:=oS Yf M1 OC
def cH:List Nat:=[2,0,0,0,0,0,0,0,1,0,0,0,0,3]
def Qa (O:Alg) (x:Ags O):O.M:=let u0:=(lq9 O 0);(O.c (O.f 32 [] (xr x kR 0)) fun c0=>(O.b (O.h (O.e (O.d c0 0) u0)) (O.a [.str (O.s ⟨#[]⟩),.int u0,.int u0,.int u0,.int u0,.int u0,.int u0,.int u0,.bool O.g,.int u0,.int u0,.int u0,.int u0,.rows O.y,.int (O.lit .u8 0),.int u0,.bool O.g,.rows O.y,.int u0,.int u0,.int (O.lit .u8 0),.int u0,.int u0,.int (O.d c0 0)]) (O.c (O.f 38 [] (xr x kR 0)) fun c1=>(O.a (ap O (cr O c1 kR 0) [.int (O.lit .u8 1),.int u0,.bool O.g,.rows O.y,.int u0,.int u0,.int (O.lit .u8 0),.int u0,.int u0,.int u0])))))
def Mm:Nat→Env:=eL [(32,Ab),(38,D3)]
theorem Uj {N ls}:Mm N 32 [] ls=Ab N ls:=id rfl
theorem Ue {N ls}:Mm N 38 [] ls=D3 N ls:=id rfl
def QV:=oS cH Qa Mm
def Rz:List Nat:=[0,0,0]
def R1 (O:Alg) (x:Ags O):O.M:=(O.a [.bool (O.i (O.z (x.I 1) (x.I 0)) (O.z (x.I 0) (x.I 2)) O.g)])
def ZC:Nat→Env:=eL []
def Az:=oS Rz R1 ZC
def Rr:List Nat:=[0,0,0,0,0,0,0,0,0,0,0,0,0,0,3,0,3,3,1,3,1,0,0,0,3,0,0,0,0]
def Hm (O:Alg) (x:Ags O):O.M:=let u5:=(lq9 O 1);let u4:=(lq9 O 0);let u0:=(O.h (O.e (x.I 12) u4));(O.c (O.w (fun s0 c0=>let u8:=(O.d c0 1);let u7:=(O.d c0 0);let u6:=(O.d c0 3);let u2:=(O.n (x.L 14) u6 0);let u9:=(O.i (O.q c0 2) O.m (O.h (O.e u2 (O.lit .u8 0))));let u1:=(O.p .i64 u6 u5);(O.b (O.o u6 (O.l (x.L 14))) (O.j (O.r u6 (O.l (x.L 14))) (O.b (O.o (O.lit .u8 3) u2) (O.a [.int u4,.bool O.g]) (O.b (O.e u2 (O.lit .u8 1)) (O.b (O.i (O.h (O.e (x.I 12) u1)) (O.h (O.e (x.I 13) u1)) O.g) (O.a [.int u4,.bool O.g]) (s0 [.int u7,.int (O.p .i64 u8 u5),.bool u9,.int u1])) (O.b (O.e u2 (O.lit .u8 2)) (s0 [.int (O.p .i64 u7 u5),.int u8,.bool u9,.int u1]) (s0 [.int u7,.int u8,.bool u9,.int u1]))))) (O.a (ap O [.int u5] (cr O c0 [0,0,1] 0))))) [.int u4,.int u4,.bool O.g,.int u4]) fun c0=>(O.b (O.ac c0 0) (O.a [.bool (O.q c0 1)]) (O.c (O.f 90 [] [.int (x.I 12),.int u4,.int (x.I 28)]) fun c1=>let u3:=(O.h (O.q c1 0));(O.c (O.b (O.h u3) (O.f 90 [] [.int (x.I 13),.int u4,.int (x.I 28)]) (O.a [.bool O.g])) fun c2=>(O.b (O.i (O.i u3 O.m (O.h (O.q c2 0))) O.m (O.i (O.e (x.I 12) (x.I 13)) u0 O.g)) (O.a [.bool O.g]) (O.c (O.b u0 (O.a [.int (O.p .i64 u4 u5)]) (O.a [.int u4])) fun c3=>(O.c (O.b (O.h (O.e (x.I 13) u4)) (O.a [.int (O.p .i64 (O.d c3 0) u5)]) (O.a [.int (O.d c3 0)])) fun c4=>(O.a [.bool (O.i (O.i (O.e (O.d c4 0) (O.d c0 2)) (O.i (O.h (O.q c0 3)) O.m (O.o u4 (O.d c4 0))) O.g) (O.e (O.d c0 1) (x.I 4)) O.g)]))))))))
def Jz:Nat→Env:=eL [(90,Az)]
def FM:=oS Rr Hm Jz
def Q5:List Nat:=[3,0]
def G4 (O:Alg) (x:Ags O):O.M:=(O.c (O.w (fun s0 c0=>let u0:=(O.d c0 0);(O.b (O.o u0 (O.l (x.L 0))) (O.j (O.r u0 (O.l (x.L 0))) (O.b (O.e (x.I 1) (O.n (x.L 0) u0 0)) (O.a [.int (lq9 O 0),.int u0]) (s0 [.int (O.p .i64 u0 (lq9 O 1))]))) (O.a [.int (lq9 O 1)]))) [.int (lq9 O 0)]) fun c0=>(O.b (O.ac c0 0) (O.a [.int (O.d c0 1)]) (O.a [.int (lq9 O (-1))])))
def OW:Nat→Env:=eL []
def Ea:=oS Q5 G4 OW
def Na:List Nat:=[3,0]
def E3 (O:Alg) (x:Ags O):O.M:=(O.c (O.f 114 [] [.rows (x.L 0),.int (x.I 1)]) fun c0=>(O.a [.bool (O.z (lq9 O 0) (O.d c0 0))]))
def GY:Nat→Env:=eL [(114,Ea)]
def A4:=oS Na E3 GY
def PO:List Nat:=[3,0]
def GG (O:Alg) (x:Ags O):O.M:=let u5:=(lq9 O 1);let u4:=(lq9 O 0);let u3:=(O.l (x.L 0));(O.c (O.w (fun s0 c0=>let u6:=(O.d c0 0);let u1:=(O.n (x.L 0) u6 0);(O.b (O.o u6 u3) (O.j (O.r u6 u3) (O.c (O.f 90 [] [.int u1,.int u5,.int (x.I 1)]) fun c1=>let u2:=(O.h (O.q c1 0));let u0:=(O.h u2);(O.j (O.h (O.af u0 (O.h (O.ak u4 u6 u3)))) (O.c (O.b u0 (O.f 105 [] [.rows (O.aj (x.L 0) u4 u6),.int u1]) (O.a [.bool O.g])) fun c2=>(O.b (O.i u2 O.m (O.q c2 0)) (O.a [.int u4,.bool O.g]) (s0 [.int (O.p .i64 u6 u5)])))))) (O.a [.int u5]))) [.int u4]) fun c0=>(O.b (O.ac c0 0) (O.a [.bool (O.q c0 1)]) (O.a [.bool O.m])))
def E1:Nat→Env:=eL [(90,Az),(105,A4)]
def EM:=oS PO GG E1
def PT:List Nat:=[0]
def GP (O:Alg) (x:Ags O):O.M:=(O.c (O.f 90 [] [.int (x.I 0),.int (lq9 O 0),.int (lq9 O 1000000000)]) fun c0=>(O.a [.bool (O.h (O.q c0 0))]))
def Hw:Nat→Env:=eL [(90,Az)]
def EI:=oS PT GP Hw
def Ry:List Nat:=[0,0,0,0,0,0,0,0,0,0,0,0,0,0,3,0,3,3,1,3,1,0,0,0,3,0,0,0]
def Hl (O:Alg) (x:Ags O):O.M:=let u2:=(lq9 O 0);let u1:=(O.ae (O.ab [[.int (x.I 1)],[.int (x.I 3)],[.int (x.I 5)],[.int (x.I 6)],[.int (x.I 7)],[.int (x.I 8)],[.int (x.I 9)],[.int (x.I 10)],[.int (x.I 21)],[.int (x.I 23)],[.int (x.I 25)],[.int (x.I 26)]]) (x.L 19));let u0:=(O.l u1);(O.j (O.t u0 8) (O.c (O.c (O.w (fun s0 c0=>let u3:=(O.d c0 0);(O.b (O.o u3 u0) (O.j (O.r u3 u0) (O.c (O.f 107 [] [.int (O.n u1 u3 0)]) fun c1=>(O.b (O.q c1 0) (O.a [.int u2,.int u3]) (s0 [.int (O.p .i64 u3 (lq9 O 1))])))) (O.a [.int (lq9 O 1)]))) [.int u2]) fun c0=>(O.b (O.ac c0 0) (O.a [.int (O.d c0 1)]) (O.a [.int (lq9 O (-1))]))) fun c0=>(O.a [.bool (O.h (O.z u2 (O.d c0 0)))])))
def Jx:Nat→Env:=eL [(107,EI)]
def FK:=oS Ry Hl Jx
def Uv:List Nat:=[2,0,0,0,0,0,0,0,1,0,0,0,0,3,0,0,0,0,0,0,0,0,0,0,0,0,0,0,3,0,3,3,1,3,1,0,0,0,3,0,0,0]
def J6 (O:Alg) (x:Ags O):O.M:=let u11:=(lq9 O 1);let u10:=(lq9 O 0);let u8:=(O.e (x.I 3) u10);let u7:=(O.h u8);let u4:=(O.i u8 (O.e (x.I 16) u10) O.g);(O.c (O.f 32 [] (xr x kR 0)) fun c0=>let u6:=(O.h (O.e (O.d c0 0) u10));(O.c (O.b (O.h u6) (O.f 90 [] [.int (x.I 14),.int u11,.int (lq9 O 2)]) (O.a [.bool O.g])) fun c1=>(O.b (O.i u6 O.m (O.h (O.q c1 0))) (O.a [.bool O.g]) (O.b (O.i (O.i (O.i (O.h (O.e (O.l (x.L 28)) (x.I 1))) O.m (O.h (O.e (O.l (x.L 33)) (x.I 1)))) O.m (O.h (O.e (O.l (x.L 38)) (x.I 1)))) O.m (O.o (O.lit .u8 5) (x.I 41))) (O.a [.bool O.g]) (O.c (O.f 91 [] (ap O (xr x kI 14) [.int (x.I 1)])) fun c2=>let u9:=(O.h (O.q c2 0));(O.c (O.b (O.h u9) (O.f 90 [] [.int (x.I 29),.int u10,.int (x.I 1)]) (O.a [.bool O.g])) fun c3=>let u5:=(O.i u9 O.m (O.h (O.q c3 0)));(O.c (O.b (O.h u5) (O.f 90 [] [.int (x.I 36),.int u10,.int (x.I 1)]) (O.a [.bool O.g])) fun c4=>let u3:=(O.i u5 O.m (O.h (O.q c4 0)));(O.c (O.b (O.h u3) (O.f 92 [] [.rows (x.L 30),.int (x.I 1)]) (O.a [.bool O.g])) fun c5=>let u2:=(O.i u3 O.m (O.h (O.q c5 0)));(O.c (O.b (O.h u2) (O.f 92 [] [.rows (x.L 31),.int (x.I 1)]) (O.a [.bool O.g])) fun c6=>(O.b (O.i u2 O.m (O.h (O.q c6 0))) (O.a [.bool O.g]) (O.c (O.b (O.af (O.h u4) u7) (O.f 90 [] [.int (x.I 16),.int u11,.int (x.I 3)]) (O.a [.bool O.g])) fun c7=>let u1:=(O.i u4 O.m (O.i u7 (O.q c7 0) O.g));(O.c (O.b u1 (O.f 90 [] [.int (x.I 25),.int u10,.int (O.u .i64 (x.I 4) u11)]) (O.a [.bool O.g])) fun c8=>let u0:=(O.i u1 (O.q c8 0) O.g);(O.c (O.b u0 (O.f 93 [] (xr x kI 14)) (O.a [.bool O.g])) fun c9=>(O.a [.bool (O.i u0 (O.q c9 0) O.g)]))))))))))))))
def DI:Nat→Env:=eL [(32,Ab),(90,Az),(91,FM),(92,EM),(93,FK)]
def Bm:=oS Uv J6 DI
def Yq:List Nat:=[0]
def Mg (O:Alg) (x:Ags O):O.M:=(O.a [.int (O.u .i64 (lq9 O 3) (x.I 0))])
def VA:Nat→Env:=eL []
def Bl:=oS Yq Mg VA
def Ye:List Nat:=[2,0,0,0,0,0,0,0,1,0,0,0,0,3,0,0,1,3,0,0,0,0,0,0]
def Mz (O:Alg) (x:Ags O):O.M:=let u0:=(lq9 O 2);(O.c (O.b (O.i (x.B 16) (O.z u0 (x.I 23)) O.g) (O.a [.bool (O.e (x.I 23) u0)]) (O.a [.bool (O.e (O.ap .i64 (x.I 23) u0) (lq9 O 1))])) fun c0=>(O.b (O.q c0 0) (O.c (O.f 79 [] [.int (x.I 15)]) fun c1=>(O.a [.int (O.d c1 0)])) (O.a [.int (x.I 15)])))
def N5:Nat→Env:=eL [(79,Bl)]
theorem Sb {N ls}:N5 N 79 [] ls=Bl N ls:=id rfl
def D8:=oS Ye Mz N5
def Yr:List Nat:=[2,0,0,0,0,0,0,0,1,0,0,0,0,3,0,0,1,3,0,0,0,0,0]
def M2 (O:Alg) (x:Ags O):O.M:=let u2:=(lq9 O 0);let u1:=(lq9 O 1);let u0:=(O.l (x.L 17));(O.c (O.w (fun s0 c0=>let u3:=(O.d c0 0);(O.b (O.o u3 u0) (O.j (O.r u3 u0) (O.b (O.h (O.an (O.e (O.n (x.L 17) u3 27) (O.lit .u8 0)) (O.i (O.e (x.I 14) (O.lit .u8 3)) (O.e u3 (O.u .i64 u0 u1)) O.g))) (O.a [.int u2,.bool O.g]) (s0 [.int (O.p .i64 u3 u1)]))) (O.a [.int u1]))) [.int u2]) fun c0=>(O.b (O.ac c0 0) (O.a [.bool (O.q c0 1)]) (O.a [.bool (O.i (O.h (O.e (x.I 14) (O.lit .u8 3))) O.m (O.o u2 u0))])))
def VH:Nat→Env:=eL []
def Jf:=oS Yr M2 VH
def Ys:List Nat:=[2,0,0,0,0,0,0,0,1,0,0,0,0,3,0,0,1,3,0,0,0,0,0]
def Mx (O:Alg) (x:Ags O):O.M:=let u8:=(lq9 O 1);let u9:=(O.e (x.I 14) (O.lit .u8 1));let u7:=(lq9 O 2);let u6:=(lq9 O 0);let u5:=(O.l (x.L 17));let u3:=(O.e (x.I 15) u6);let u2:=(O.al .i64 u7 (x.I 2));let u1:=(O.h (O.e (x.I 2) u7));(O.c (O.f 32 [] (xr x kR 0)) fun c0=>(O.b (O.i (O.i (O.h (O.e (O.d c0 0) u6)) O.m (O.o (x.I 14) (O.lit .u8 1))) O.m (O.o (O.lit .u8 5) (x.I 14))) (O.a [.bool O.g]) (O.c (O.w (fun s1 c1=>let u11:=(O.d c1 0);let u0:=(O.ai (O.e u11 u8) (x.I 19) (x.I 18));(O.b (O.o u11 u7) (O.j (O.r u11 u7) (O.b (O.i (O.o u0 u6) O.m (O.o (lq9 O 1000000) u0)) (O.a [.int u6,.bool O.g]) (s1 [.int (O.p .i64 u11 u8)]))) (O.a [.int u8]))) [.int u6]) fun c1=>(O.b (O.ac c1 0) (O.a [.bool (O.q c1 1)]) (O.b (O.i (O.i (O.o (x.I 15) u6) O.m (O.o u7 (x.I 15))) O.m (O.o u2 u5)) (O.a [.bool O.g]) (O.b (O.i u3 (O.i (O.o u6 u5) O.m (O.i (O.h u9) (O.h (O.e (x.I 14) (O.lit .u8 5))) O.g)) O.g) (O.a [.bool O.g]) (O.b (O.i u9 (O.h u3) O.g) (O.a [.bool O.g]) (O.b (O.i (O.e (x.I 14) (O.lit .u8 2)) (O.e u5 u2) O.g) (O.a [.bool O.g]) (O.b (O.i (O.e (x.I 14) (O.lit .u8 4)) (O.i u1 O.m (O.h (O.e u5 u7))) O.g) (O.a [.bool O.g]) (O.b (O.i (x.B 16) (O.i u1 O.m (O.o u5 u7)) O.g) (O.a [.bool O.g]) (O.c (O.w (fun s2 c2=>let u10:=(O.d c2 0);(O.b (O.o u10 u5) (O.j (O.r u10 u5) (O.c (O.f 72 [] (ap O (xr x kR 0) (rr O (x.L 17) u10 kI 0))) fun c3=>let u4:=(O.h (O.q c3 0));(O.c (O.b (O.h u4) (O.f 73 [] (ap O (xr x kM 0) [.int u10])) (O.a [.int u6])) fun c4=>(O.b (O.i u4 O.m (O.h (O.e (O.n (x.L 17) u10 0) (O.d c4 0)))) (O.a [.int u6,.bool O.g]) (s2 [.int (O.p .i64 u10 u8)]))))) (O.a [.int u8]))) [.int u6]) fun c2=>(O.b (O.ac c2 0) (O.a [.bool (O.q c2 1)]) (O.c (O.f 74 [] (xr x kM 0)) fun c3=>(O.a [.bool (O.q c3 0)]))))))))))))))
def Es:Nat→Env:=eL [(32,Ab),(72,Bm),(73,D8),(74,Jf)]
theorem SM {N ls}:Es N 32 [] ls=Ab N ls:=id rfl
theorem Ik {N ls}:Es N 72 [] ls=Bm N ls:=id rfl
theorem KR {N ls}:Es N 73 [] ls=D8 N ls:=id rfl
theorem J8 {N ls}:Es N 74 [] ls=Jf N ls:=id rfl
def D5:=oS Ys Mx Es
def RD:List Nat:=[0,0,0]
def K9 (O:Alg) (x:Ags O):O.M:=(O.a [.bool (O.i (O.z (x.I 1) (x.I 0)) (O.z (x.I 0) (x.I 2)) O.g)])
def O5:Nat→Env:=eL []
def Ei:=oS RD K9 O5
def Tc:List Nat:=[0,0,0,0,0,1,0,0,0,0,1,0]
def I7 (O:Alg) (x:Ags O):O.M:=let u5:=(lq9 O 0);(O.b (O.i (O.i (O.i (O.o (x.I 0) (O.lit .u8 1)) O.m (O.o (O.lit .u8 3) (x.I 0))) O.m (O.o (O.lit .u8 3) (x.I 1))) O.m (O.o (O.lit .u8 10) (x.I 6))) (O.a [.int (lq9 O 3)]) (O.c (O.f 86 [] [.int (x.I 2),.int u5,.int (lq9 O 7)]) fun c0=>let u4:=(O.h (O.q c0 0));(O.c (O.b (O.h u4) (O.f 86 [] [.int (x.I 3),.int u5,.int (x.I 2)]) (O.a [.bool O.g])) fun c1=>let u3:=(O.i (O.i u4 O.m (O.h (O.q c1 0))) O.m (O.i (O.i (O.h (O.e (x.I 4) u5)) (O.h (O.e (x.I 4) (lq9 O 4))) O.g) (O.h (O.e (x.I 4) (lq9 O 6))) O.g));(O.c (O.b (O.h u3) (O.f 86 [] [.int (x.I 7),.int u5,.int (lq9 O 2)]) (O.a [.bool O.g])) fun c2=>let u2:=(O.i u3 O.m (O.h (O.q c2 0)));(O.c (O.b (O.h u2) (O.f 86 [] [.int (x.I 8),.int u5,.int (lq9 O 11)]) (O.a [.bool O.g])) fun c3=>let u1:=(O.i u2 O.m (O.h (O.q c3 0)));(O.c (O.b (O.h u1) (O.f 86 [] [.int (x.I 9),.int u5,.int (lq9 O 11)]) (O.a [.bool O.g])) fun c4=>let u0:=(O.i u1 O.m (O.h (O.q c4 0)));(O.c (O.b (O.h u0) (O.f 86 [] [.int (x.I 11),.int u5,.int (lq9 O 8)]) (O.a [.bool O.g])) fun c5=>(O.b (O.i u0 O.m (O.h (O.q c5 0))) (O.a [.int (lq9 O 2)]) (O.a [.int u5])))))))))
def Kg:Nat→Env:=eL [(86,Ei)]
theorem MX {N ls}:Kg N 86 [] ls=Ei N ls:=id rfl
def Dg:=oS Tc I7 Kg
def WZ:List Nat:=[0]
def Lx (O:Alg) (x:Ags O):O.M:=(O.b (O.e (x.I 0) (O.lit .u8 7)) (O.a [.int (lq9 O 0),.int (lq9 O 11)]) (O.b (O.e (x.I 0) (O.lit .u8 13)) (O.a [.int (lq9 O 1),.int (lq9 O 99)]) (O.a [.int (lq9 O 0),.int (lq9 O 100000)])))
def Te:Nat→Env:=eL []
def IU:=oS WZ Lx Te
def Uu:List Nat:=[0,0,0]
def Oo (O:Alg) (x:Ags O):O.M:=(O.a [.bool (O.i (O.z (x.I 1) (x.I 0)) (O.z (x.I 0) (x.I 2)) O.g)])
def SJ:Nat→Env:=eL []
def Gh:=oS Uu Oo SJ
def DH (N:Nat) (ls:List PV):Option (List PV):=gN ls
def PQ:List Nat:=[2,0]
def GO (O:Alg) (x:Ags O):O.M:=(O.c (O.f 108 [] [.str (x.S 0),.int (x.I 1)]) fun c0=>(O.a [.int (O.d c0 0)]))
def H2:Nat→Env:=eL [(108,DH)]
theorem Ih {N ls}:H2 N 108 [] ls=DH N ls:=id rfl
def EL:=oS PQ GO H2
def Ya:List Nat:=[]
def Yx (O:Alg) (x:Ags O):O.M:=let u4:=(O.s ⟨#[]⟩);let u3:=(O.s ⟨#[112]⟩);let u2:=(O.s ⟨#[112,121]⟩);let u1:=(O.s ⟨#[115,121]⟩);let u0:=(O.s ⟨#[70,73,69,76,68]⟩);(O.a [.rows (O.ab [[.str (O.s ⟨#[84,79,83,83]⟩),.str u1,.str (O.s ⟨#[66,65,84]⟩),.str u0],[.str (O.s ⟨#[79,80,69,78]⟩),.str (O.s ⟨#[112,111]⟩),.str u4,.str u4],[.str (O.s ⟨#[66,79,87,76]⟩),.str u3,.str u4,.str u4],[.str (O.s ⟨#[66,65,76,76]⟩),.str (O.s ⟨#[98]⟩),.str u4,.str u4],[.str (O.s ⟨#[69,78,84,69,82]⟩),.str u3,.str u4,.str u4],[.str (O.s ⟨#[82,69,84,73,82,69]⟩),.str u2,.str (O.s ⟨#[72,85,82,84]⟩),.str (O.s ⟨#[79,85,84]⟩)],[.str u0,.str (O.s ⟨#[114]⟩),.str u4,.str u4],[.str (O.s ⟨#[75,69,69,80,69,82]⟩),.str u3,.str u4,.str u4],[.str (O.s ⟨#[83,85,66]⟩),.str u2,.str (O.s ⟨#[79,78]⟩),.str (O.s ⟨#[79,70,70]⟩)],[.str (O.s ⟨#[78,69,87,66,65,76,76]⟩),.str u4,.str u4,.str u4],[.str (O.s ⟨#[68,69,67,76,65,82,69]⟩),.str (O.s ⟨#[115]⟩),.str u4,.str u4],[.str (O.s ⟨#[70,79,76,76,79,87]⟩),.str u1,.str (O.s ⟨#[89,69,83]⟩),.str (O.s ⟨#[78,79]⟩)],[.str (O.s ⟨#[80,69,78,65,76,84,89]⟩),.str (O.s ⟨#[115,114]⟩),.str u4,.str u4],[.str (O.s ⟨#[82,69,86,73,69,87]⟩),.str u1,.str (O.s ⟨#[75,69,80,84]⟩),.str (O.s ⟨#[76,79,83,84]⟩)],[.str (O.s ⟨#[82,69,86,73,83,69]⟩),.str (O.s ⟨#[114,118]⟩),.str u4,.str u4],[.str (O.s ⟨#[83,84,79,80]⟩),.str u4,.str u4,.str u4]])])
def gp:Nat→Env:=eL []
def Gb:=oS Ya Yx gp
def ZP:List Nat:=[0,0]
def OH (O:Alg) (x:Ags O):O.M:=(O.c (O.f 95 [] []) fun c0=>(O.j (O.r (O.u .u8 (x.I 0) (O.lit .u8 1)) (O.l (O.k c0 0))) (O.c (O.f 94 [] [.str (O.rS (O.k c0 0) (O.u .u8 (x.I 0) (O.lit .u8 1)) 1),.int (x.I 1)]) fun c1=>(O.a [.bool (O.i (O.z (lq9 O 0) (O.d c1 0)) O.m (O.i (O.e (x.I 0) (O.lit .u8 5)) (O.e (x.I 1) (O.lit .u8 121)) O.g))]))))
def LU:Nat→Env:=eL [(94,EL),(95,Gb)]
theorem Oi {N ls}:LU N 94 [] ls=EL N ls:=id rfl
theorem UD {N ls}:LU N 95 [] ls=Gb N ls:=id rfl
def LC:=oS ZP OH LU
def Ym:List Nat:=[0,0,0,0,1,0,0,0,0,0,0,0,1,0,0,0,0,1,0]
def Jl (O:Alg) (x:Ags O):O.M:=let u14:=(lq9 O 1);let u13:=(lq9 O 0);let u8:=(O.e (x.I 9) u13);let u15:=(O.lit .u8 0);let u7:=(O.e (x.I 6) u13);let u6:=(O.e (x.I 5) u13);let u5:=(O.e (x.I 3) u13);let u4:=(O.e (x.I 2) u13);let u3:=(O.e (x.I 1) u13);let u2:=(O.e (x.I 11) u13);let u1:=(O.e (x.I 10) u13);let u0:=(O.af (O.e (x.I 14) u13) (O.af (O.e (x.I 15) u13) (O.af (O.e (x.I 16) u13) (O.af (O.an (x.B 17) O.g) (O.e (x.I 18) u13)))));(O.b (O.i (O.o (x.I 0) (O.lit .u8 1)) O.m (O.o (O.lit .u8 16) (x.I 0))) (O.a [.int (lq9 O 3)]) (O.c (O.f 75 [] [.int (x.I 0)]) fun c0=>(O.c (O.f 76 [] [.int (x.I 1),.int u14,.int (lq9 O 2)]) fun c1=>(O.c (O.f 76 [] [.int (x.I 2),.int u14,.int (lq9 O 11)]) fun c2=>(O.c (O.f 76 [] [.int (x.I 3),.int u14,.int (lq9 O 11)]) fun c3=>(O.c (O.f 76 [] [.int (x.I 5),.int (O.d c0 0),.int (O.d c0 1)]) fun c4=>(O.c (O.f 76 [] [.int (x.I 6),.int u13,.int (lq9 O 90)]) fun c5=>let u12:=(O.ab [[.int (O.lit .u8 115),.bool u3,.bool (O.q c1 0)],[.int (O.lit .u8 112),.bool u4,.bool (O.q c2 0)],[.int (O.lit .u8 111),.bool u5,.bool (O.q c3 0)],[.int (O.lit .u8 121),.bool (O.h (x.B 4)),.bool O.m],[.int (O.lit .u8 114),.bool u6,.bool (O.q c4 0)],[.int (O.lit .u8 118),.bool u7,.bool (O.q c5 0)],[.int (O.lit .u8 98),.bool (O.af (O.e (x.I 7) u15) (O.af (O.e (x.I 8) u15) (O.af u8 (O.af u1 (O.af u2 (O.af (O.an (x.B 12) O.g) (O.af (O.e (x.I 13) u15) u0))))))),.bool O.m]]);let u11:=(O.l u12);(O.c (O.w (fun s6 c6=>let u16:=(O.d c6 0);let u9:=(O.h (O.rB u12 u16 1));(O.b (O.o u16 u11) (O.j (O.r u16 u11) (O.c (O.b u9 (O.f 77 [] [.int (x.I 0),.int (O.n u12 u16 0)]) (O.a [.bool O.g])) fun c7=>(O.b (O.i u9 (O.h (O.q c7 0)) O.g) (O.a [.int u13,.int u14]) (s6 [.int (O.p .i64 u16 u14)])))) (O.a [.int u14]))) [.int u13]) fun c6=>(O.b (O.ac c6 0) (O.a [.int (O.d c6 1)]) (O.c (O.w (fun s7 c7=>let u17:=(O.d c7 0);let u10:=(O.h (O.rB u12 u17 2));(O.b (O.o u17 u11) (O.j (O.r u17 u11) (O.c (O.b u10 (O.f 77 [] [.int (x.I 0),.int (O.n u12 u17 0)]) (O.a [.bool O.g])) fun c8=>(O.b (O.i u10 (O.q c8 0) O.g) (O.a [.int u13,.int (lq9 O 2)]) (s7 [.int (O.p .i64 u17 u14)])))) (O.a [.int u14]))) [.int u13]) fun c7=>(O.b (O.ac c7 0) (O.a [.int (O.d c7 1)]) (O.b (O.e (x.I 0) (O.lit .u8 4)) (O.c (O.f 57 [] (xr x [0,0,0,0,0,1,0,0,0,0,1,0] 7)) fun c8=>(O.a [.int (O.d c8 0)])) (O.a [.int u13])))))))))))))
def Ez:Nat→Env:=eL [(57,Dg),(75,IU),(76,Gh),(77,LC)]
theorem EU {N ls}:Ez N 57 [] ls=Dg N ls:=id rfl
theorem JW {N ls}:Ez N 75 [] ls=IU N ls:=id rfl
theorem Ij {N ls}:Ez N 76 [] ls=Gh N ls:=id rfl
theorem Ku {N ls}:Ez N 77 [] ls=LC N ls:=id rfl
def D6:=oS Ym Jl Ez
def Ae (N:Nat) (ls:List PV):Option (List PV):=Qk 1 ls
def As (N:Nat) (ls:List PV):Option (List PV):=Qk 8 ls
def Ai (N:Nat) (ls:List PV):Option (List PV):=Qk 1 ls
def Ur:List Nat:=[0,0,0,0,0,0,0,0,0,0,0,0,0,0,3,0,3,3,1,3,1,0,0,0,3,0,0,0]
def KG (O:Alg) (x:Ags O):O.M:=(O.c (O.f 96 [] [.rows (x.L 14)]) fun c0=>(O.c (O.f 97 [] [.rows (x.L 16)]) fun c1=>(O.c (O.f 97 [] [.rows (x.L 17)]) fun c2=>(O.c (O.f 97 [] [.rows (x.L 19)]) fun c3=>(O.c (O.f 98 [] [.rows (x.L 24)]) fun c4=>(O.a (ap O (xr x [0,0,0,0,0,0,0,0,0,0,0,0,0,0] 0) (ap O [.rows (O.k c0 0),.int (x.I 15),.rows (O.k c1 0),.rows (O.k c2 0),.bool (x.B 18),.rows (O.k c3 0)] (ap O (xr x [1,0,0,0] 20) (ap O [.rows (O.k c4 0)] (xr x [0,0,0] 25)))))))))))
def FP:Nat→Env:=eL [(96,Ae),(97,As),(98,Ai)]
theorem LH {N ls}:FP N 96 [] ls=Ae N ls:=id rfl
theorem NC {N ls}:FP N 97 [] ls=As N ls:=id rfl
theorem Mb {N ls}:FP N 98 [] ls=Ai N ls:=id rfl
def Aa:=oS Ur KG FP
def YW:List Nat:=[2,0,0,0,0,0,0,0,1,0,0,0,0,3,0,0,1,3,0,0,0,0,0]
def Md (O:Alg) (x:Ags O):O.M:=(O.c (O.f 38 [] (xr x kR 0)) fun c0=>(O.c (O.w (fun s1 c1=>let u1:=(O.d c1 1);(O.b (O.o u1 (O.l (x.L 17))) (O.j (O.r u1 (O.l (x.L 17))) (O.c (O.f 78 [] (rr O (x.L 17) u1 kI 0)) fun c2=>let u0:=(O.ae (O.k c1 0) (O.ab [(cr O c2 kI 0)]));(O.j (O.t (O.l u0) 304) (s1 [.rows u0,.int (O.p .i64 u1 (lq9 O 1))])))) (O.a [.rows (O.k c1 0)]))) [.rows O.y,.int (lq9 O 0)]) fun c1=>(O.a (ap O (cr O c0 kR 0) (ap O (xr x [0,0,1] 14) (ap O [.rows (O.k c1 0)] (xr x [0,0,0,0,0] 18)))))))
def KU:Nat→Env:=eL [(38,D3),(78,Aa)]
theorem Sn {N ls}:KU N 38 [] ls=D3 N ls:=id rfl
theorem Ir {N ls}:KU N 78 [] ls=Aa N ls:=id rfl
def Jk:=oS YW Md KU
def Yk:List Nat:=[2,0,0,0,0,0,0,0,1,0,0,0,0,3,0,0,1,3,0,0,0,0,0,0]
def Mw (O:Alg) (x:Ags O):O.M:=(O.c (O.w (fun s0 c0=>let u2:=(O.d c0 0);let u1:=(O.d c0 1);let u0:=(O.p .i64 u1 (lq9 O 1));(O.b (O.o u1 (O.l (x.L 17))) (O.j (O.r u1 (O.l (x.L 17))) (O.b (O.e (O.n (x.L 17) u1 0) (x.I 23)) (s0 [.int (O.p .i64 u2 (O.n (x.L 17) u1 3)),.int u0]) (s0 [.int u2,.int u0]))) (O.a [.int u2]))) [.int (lq9 O 0),.int (lq9 O 0)]) fun c0=>(O.a [.int (O.d c0 0)]))
def Ut:Nat→Env:=eL []
def Cd:=oS Yk Mw Ut
def Qm:List Nat:=[2,0,0,0,0,0,0,0,1,0,0,0,0,3]
def G3 (O:Alg) (x:Ags O):O.M:=(O.b (O.e (x.I 3) (lq9 O 0)) (O.a [.int (O.lit .u8 5)]) (O.a [.int (O.lit .u8 6)]))
def O3:Nat→Env:=eL []
def CU:=oS Qm G3 O3
def Uw:List Nat:=[2,0,0,0,0,0,0,0,1,0,0,0,0,3,0,0,1,3,0,0,0,0,0]
def KM (O:Alg) (x:Ags O):O.M:=let u10:=(lq9 O 1);let u9:=(lq9 O 0);let u8:=(O.l (x.L 17));let u11:=(O.lit .u8 0);let u7:=(O.e u8 (lq9 O 3));let u6:=(O.u .i64 u8 u10);let u5:=(O.e u8 (O.al .i64 (lq9 O 2) (x.I 2)));let u4:=(O.n (x.L 17) u6 1);let u3:=(O.n (x.L 17) u6 3);let u2:=(O.n (x.L 17) u6 0);let u1:=(O.n (x.L 17) u6 27);let u0:=(O.u .i64 u4 u10);(O.c (O.f 49 [] (xr x kM 0)) fun c0=>(O.b (O.i (O.h (O.q c0 0)) O.m (O.e u8 u9)) (O.a [.int u11,.int u9,.int u9]) (O.j (O.r u6 u8) (O.c (O.f 79 [] [.int u2]) fun c1=>let u12:=(O.d c1 0);(O.b (O.e u1 (O.lit .u8 5)) (O.c (O.f 102 [] (xr x kR 0)) fun c2=>(O.a [.int (O.d c2 0),.int u9,.int u9])) (O.b (O.e u1 u11) (O.a [.int u11,.int u9,.int u9]) (O.b (O.i u5 (O.z u4 u3) O.g) (O.a [.int (O.lit .u8 2),.int u2,.int (O.u .i64 (O.u .i64 (x.I 1) u10) (O.n (x.L 17) u6 4))]) (O.b (O.i u5 (O.e u3 u0) O.g) (O.a [.int (O.lit .u8 4),.int u9,.int u9]) (O.b u5 (O.a [.int (O.lit .u8 1),.int u12,.int (O.u .i64 u0 u3)]) (O.c (O.b u7 (O.f 83 [] (ap O (xr x kM 0) [.int u2])) (O.a [.int u9])) fun c2=>(O.c (O.b u7 (O.f 83 [] (ap O (xr x kM 0) [.int u12])) (O.a [.int u9])) fun c3=>(O.b (O.i u7 (O.o (O.d c2 0) (O.d c3 0)) O.g) (O.c (O.f 83 [] (ap O (xr x kM 0) [.int u12])) fun c4=>(O.c (O.f 83 [] (ap O (xr x kM 0) [.int u2])) fun c5=>(O.a [.int (O.lit .u8 3),.int u12,.int (O.u .i64 (O.d c4 0) (O.d c5 0))]))) (O.a [.int u11,.int u9,.int u9])))))))))))))
def D1:Nat→Env:=eL [(49,D5),(79,Bl),(83,Cd),(102,CU)]
theorem Qx {N ls}:D1 N 49 [] ls=D5 N ls:=id rfl
theorem Qw {N ls}:D1 N 79 [] ls=Bl N ls:=id rfl
theorem Q6 {N ls}:D1 N 83 [] ls=Cd N ls:=id rfl
theorem ND {N ls}:D1 N 102 [] ls=CU N ls:=id rfl
def Gq:=oS Uw KM D1
def VI:List Nat:=[2,0,0,0,0,0,0,0,1,0,0,0,0,3,0,0,0]
def KF (O:Alg) (x:Ags O):O.M:=let u4:=(lq9 O 0);let u3:=(O.t (x.I 1) 1);let u2:=(lq9 O 1000000);(O.c (O.f 32 [] (xr x kR 0)) fun c0=>(O.b (O.h (O.e (O.d c0 0) u4)) (O.a [.int u4,.int u4,.int u4,.int u4,.int u4,.int u4,.int u4,.int u4,.int u4,.int u4,.int u4,.int u4,.int u4,.int u4,.rows O.y,.int u4,.rows O.y,.rows O.y,.bool O.g,.rows O.y,.bool O.g,.int u4,.int u4,.int u4,.rows O.y,.int u4,.int u4,.int (O.lit .u8 0),.int (O.d c0 0)]) (O.c (O.f 90 [] [.int (x.I 14),.int (lq9 O 1),.int (lq9 O 2)]) fun c1=>let u1:=(O.h (O.q c1 0));(O.c (O.b (O.h u1) (O.f 90 [] [.int (x.I 15),.int u4,.int u2]) (O.a [.bool O.g])) fun c2=>let u0:=(O.i u1 O.m (O.h (O.q c2 0)));(O.c (O.b (O.h u0) (O.f 90 [] [.int (x.I 16),.int u4,.int u2]) (O.a [.bool O.g])) fun c3=>(O.b (O.i u0 O.m (O.h (O.q c3 0))) (O.a [.int u4,.int u4,.int u4,.int u4,.int u4,.int u4,.int u4,.int u4,.int u4,.int u4,.int u4,.int u4,.int u4,.int u4,.rows O.y,.int u4,.rows O.y,.rows O.y,.bool O.g,.rows O.y,.bool O.g,.int u4,.int u4,.int u4,.rows O.y,.int u4,.int u4,.int (O.lit .u8 0),.int (lq9 O 2)]) (O.j u3 (O.j (O.t (x.I 1) 8) (O.j u3 (O.a [.int (x.I 14),.int (x.I 15),.int (x.I 3),.int (x.I 16),.int u4,.int u4,.int u4,.int u4,.int u4,.int (x.I 16),.int u4,.int u4,.int u4,.int u4,.rows (O.am (x.I 1) [.int (O.lit .u8 0)]),.int u4,.rows O.y,.rows O.y,.bool O.g,.rows (O.am (x.I 1) [.int u4]),.bool O.g,.int u4,.int u4,.int u4,.rows (O.am (x.I 1) [.bool O.g]),.int u4,.int u4,.int (O.lit .u8 0),.int u4]))))))))))
def Hp:Nat→Env:=eL [(32,Ab),(90,Az)]
theorem Q0 {N ls}:Hp N 32 [] ls=Ab N ls:=id rfl
theorem Nw {N ls}:Hp N 90 [] ls=Az N ls:=id rfl
def Gw:=oS VI KF Hp
def WV:List Nat:=[2,0,0,0,0,0,0,0,1,0,0,0,0,3,0,0,1,3,0,0,0,0,0,0]
def Lm (O:Alg) (x:Ags O):O.M:=(O.b (O.o (O.p .i64 (O.l (x.L 17)) (lq9 O 1)) (O.al .i64 (lq9 O 2) (x.I 2))) (O.a [.int (lq9 O 0)]) (O.c (O.f 79 [] [.int (x.I 23)]) fun c0=>(O.c (O.f 83 [] (ap O (xr x kM 0) [.int (O.d c0 0)])) fun c1=>(O.c (O.f 83 [] (xr x [2,0,0,0,0,0,0,0,1,0,0,0,0,3,0,0,1,3,0,0,0,0,0,0] 0)) fun c2=>(O.a [.int (O.p .i64 (O.u .i64 (O.d c1 0) (O.d c2 0)) (lq9 O 1))])))))
def I1:Nat→Env:=eL [(79,Bl),(83,Cd)]
theorem Rg {N ls}:I1 N 79 [] ls=Bl N ls:=id rfl
theorem Rh {N ls}:I1 N 83 [] ls=Cd N ls:=id rfl
def IW:=oS WV Lm I1
def Rx:List Nat:=[0]
def L2 (O:Alg) (x:Ags O):O.M:=(O.a [.bool (O.h (O.e (x.I 0) (O.lit .u8 0)))])
def PU:Nat→Env:=eL []
def FI:=oS Rx L2 PU
def Vp:List Nat:=[0,0,0,0,0,0,0,0,0,0,0,0,0,0,3,0,3,3,1,3,1,0,0,0,3,0,0,0]
def KH (O:Alg) (x:Ags O):O.M:=let u0:=(lq9 O 0);(O.c (O.c (O.w (fun s0 c0=>let u1:=(O.d c0 0);(O.b (O.o u1 (O.l (x.L 14))) (O.j (O.r u1 (O.l (x.L 14))) (O.c (O.f 118 [] [.int (O.n (x.L 14) u1 0)]) fun c1=>(O.b (O.q c1 0) (O.a [.int u0,.int u1]) (s0 [.int (O.p .i64 u1 (lq9 O 1))])))) (O.a [.int (lq9 O 1)]))) [.int u0]) fun c0=>(O.b (O.ac c0 0) (O.a [.int (O.d c0 1)]) (O.a [.int (lq9 O (-1))]))) fun c0=>(O.a [.bool (O.z u0 (O.d c0 0))]))
def MD:Nat→Env:=eL [(118,FI)]
theorem GV {N ls}:MD N 118 [] ls=FI N ls:=id rfl
def HJ:=oS Vp KH MD
def ah:List Nat:=[0,0,0,0,0,0,0,0,0,0,0,0,0,0,3,0,3,3,1,3,1,0,0,0,3,0,0,0]
def OU (O:Alg) (x:Ags O):O.M:=(O.c (O.f 96 [] [.rows (x.L 14)]) fun c0=>(O.c (O.f 97 [] [.rows (x.L 16)]) fun c1=>(O.c (O.f 97 [] [.rows (x.L 17)]) fun c2=>(O.c (O.f 97 [] [.rows (x.L 19)]) fun c3=>(O.c (O.f 98 [] [.rows (x.L 24)]) fun c4=>(O.a (ap O (xr x [0,0,0,0,0,0,0,0,0,0,0,0,0,0] 0) (ap O [.rows (O.k c0 0),.int (x.I 15),.rows (O.k c1 0),.rows (O.k c2 0),.bool (x.B 18),.rows (O.k c3 0)] (ap O (xr x [1,0,0,0] 20) (ap O [.rows (O.k c4 0)] (xr x [0,0,0] 25)))))))))))
def IH:Nat→Env:=eL [(96,Ae),(97,As),(98,Ai)]
theorem NJ {N ls}:IH N 96 [] ls=Ae N ls:=id rfl
theorem PC {N ls}:IH N 97 [] ls=As N ls:=id rfl
theorem Oz {N ls}:IH N 98 [] ls=Ai N ls:=id rfl
def BA:=oS ah OU IH
def Tj:List Nat:=[0]
def NI (O:Alg) (x:Ags O):O.M:=(O.a [.bool (O.h (O.e (x.I 0) (O.lit .u8 0)))])
def Qh:Nat→Env:=eL []
def Df:=oS Tj NI Qh
def WJ:List Nat:=[0,0,0,0,0,0,0,0,0,0,0,0,0,0,3,0,3,3,1,3,1,0,0,0,3,0,0,0]
def Fi (O:Alg) (x:Ags O):O.M:=let u0:=(lq9 O 0);(O.c (O.c (O.w (fun s0 c0=>let u1:=(O.d c0 0);(O.b (O.o u1 (O.l (x.L 14))) (O.j (O.r u1 (O.l (x.L 14))) (O.c (O.f 160 [] [.int (O.n (x.L 14) u1 0)]) fun c1=>(O.b (O.q c1 0) (O.a [.int u0,.int u1]) (s0 [.int (O.p .i64 u1 (lq9 O 1))])))) (O.a [.int (lq9 O 1)]))) [.int u0]) fun c0=>(O.b (O.ac c0 0) (O.a [.int (O.d c0 1)]) (O.a [.int (lq9 O (-1))]))) fun c0=>(O.a [.bool (O.z u0 (O.d c0 0))]))
def Fv:Nat→Env:=eL [(160,Df)]
theorem Hi {N ls}:Fv N 160 [] ls=Df N ls:=id rfl
def Ck:=oS WJ Fi Fv
def W6:List Nat:=[0,0,0,0,0,0,0,0,0,0,0,0,0,0,3,0,3,3,1,3,1,0,0,0,3,0,0,0,0]
def LW (O:Alg) (x:Ags O):O.M:=(O.a [.bool (O.i (O.z (lq9 O 1) (x.I 28)) (O.z (x.I 28) (O.l (x.L 14))) O.g)])
def TK:Nat→Env:=eL []
def BC:=oS W6 LW TK
def YS:List Nat:=[0,0,0,0,0,0,0,0,0,0,0,0,0,0,3,0,3,3,1,3,1,0,0,0,3,0,0,0,0,0]
def Mf (O:Alg) (x:Ags O):O.M:=let u3:=(lq9 O 1);let u1:=(O.u .i64 (x.I 29) u3);let u0:=(O.u .i64 (x.I 28) u3);(O.c (O.f 140 [] (xr x kI 0)) fun c0=>let u4:=(O.k c0 14);(O.c (O.f 141 [] (xr x kI 0)) fun c1=>(O.b (O.q c1 0) (O.a (ap O (cr O c0 kI 0) [.int u3])) (O.c (O.f 142 [] (xr x [0,0,0,0,0,0,0,0,0,0,0,0,0,0,3,0,3,3,1,3,1,0,0,0,3,0,0,0,0] 0)) fun c2=>let u2:=(O.h (O.q c2 0));(O.c (O.b (O.h u2) (O.f 142 [] (ap O (xr x kI 0) [.int (x.I 29)])) (O.a [.bool O.g])) fun c3=>(O.b (O.i u2 O.m (O.h (O.q c3 0))) (O.a (ap O (cr O c0 kI 0) [.int (lq9 O 3)])) (O.b (O.e (x.I 28) (x.I 29)) (O.a (ap O (cr O c0 kI 0) [.int (lq9 O 4)])) (O.j (O.r u0 (O.l u4)) (O.j (O.r u1 (O.l (O.v u4 u0 0 [.int (O.lit .u8 1)]))) (O.a (ap O (cr O c0 [0,0,0,0,0,0,0,0,0,0,0,0] 0) (ap O [.int (x.I 28),.int (x.I 29),.rows (O.v (O.v u4 u0 0 [.int (O.lit .u8 1)]) u1 0 [.int (O.lit .u8 1)])] (ap O (cr O c0 [0,3,3,1,3,1,0,0,0,3,0,0,0] 15) [.int (lq9 O 0)])))))))))))))
def Gt:Nat→Env:=eL [(140,BA),(141,Ck),(142,BC)]
theorem TG {N ls}:Gt N 140 [] ls=BA N ls:=id rfl
theorem RN {N ls}:Gt N 141 [] ls=Ck N ls:=id rfl
theorem RS {N ls}:Gt N 142 [] ls=BC N ls:=id rfl
def Jn:=oS YS Mf Gt
def cT:List Nat:=[0,0,0,0,0,0,0,0,0,0,0,0,0,0,3,0,3,3,1,3,1,0,0,0,3,0,0,0]
def Qf (O:Alg) (x:Ags O):O.M:=(O.c (O.f 96 [] [.rows (x.L 14)]) fun c0=>(O.c (O.f 97 [] [.rows (x.L 16)]) fun c1=>(O.c (O.f 97 [] [.rows (x.L 17)]) fun c2=>(O.c (O.f 97 [] [.rows (x.L 19)]) fun c3=>(O.c (O.f 98 [] [.rows (x.L 24)]) fun c4=>(O.a (ap O (xr x [0,0,0,0,0,0,0,0,0,0,0,0,0,0] 0) (ap O [.rows (O.k c0 0),.int (x.I 15),.rows (O.k c1 0),.rows (O.k c2 0),.bool (x.B 18),.rows (O.k c3 0)] (ap O (xr x [1,0,0,0] 20) (ap O [.rows (O.k c4 0)] (xr x [0,0,0] 25)))))))))))
def JT:Nat→Env:=eL [(96,Ae),(97,As),(98,Ai)]
theorem Ny {N ls}:JT N 96 [] ls=Ae N ls:=id rfl
theorem QA {N ls}:JT N 97 [] ls=As N ls:=id rfl
theorem O7 {N ls}:JT N 98 [] ls=Ai N ls:=id rfl
def DT:=oS cT Qf JT
def YQ:List Nat:=[0,0,0,0,0,0,0,0,0,0,0,0,0,0,3,0,3,3,1,3,1,0,0,0,3,0,0,0,0]
def Mp (O:Alg) (x:Ags O):O.M:=(O.a [.bool (O.i (O.z (lq9 O 1) (x.I 28)) (O.z (x.I 28) (O.l (x.L 19))) O.g)])
def VX:Nat→Env:=eL []
def Cf:=oS YQ Mp VX
def Z5:List Nat:=[2,0,0,0,0,0,0,0,1,0,0,0,0,3,0,0,0,0,0,0,0,0,0,0,0,0,0,0,3,0,3,3,1,3,1,0,0,0,3,0,0,0,0]
def OM (O:Alg) (x:Ags O):O.M:=let u4:=(lq9 O 0);let u2:=(O.u .i64 (x.I 42) (lq9 O 1));let u1:=(O.n (x.L 33) u2 0);let u0:=(O.u .i64 (O.al .i64 (x.I 5) (x.I 4)) (O.ai (O.o u1 u4) u4 u1));(O.c (O.f 161 [] (xr x [0,0,0,0,0,0,0,0,0,0,0,0,0,0,3,0,3,3,1,3,1,0,0,0,3,0,0,0,0] 14)) fun c0=>let u3:=(O.h (O.q c0 0));(O.c (O.b (O.h u3) (O.f 32 [] (xr x kR 0)) (O.a [.int u4])) fun c1=>(O.b (O.i u3 O.m (O.h (O.e (O.d c1 0) u4))) (O.a [.int u4]) (O.b (O.e (x.I 5) u4) (O.a [.int (lq9 O (-1))]) (O.j (O.r u2 (O.l (x.L 33))) (O.a [.int (O.ai (O.o u0 u4) u4 u0)]))))))
def L0:Nat→Env:=eL [(32,Ab),(161,Cf)]
theorem TJ {N ls}:L0 N 32 [] ls=Ab N ls:=id rfl
theorem Ty {N ls}:L0 N 161 [] ls=Cf N ls:=id rfl
def LB:=oS Z5 OM L0
def cj:List Nat:=[2,0,0,0,0,0,0,0,1,0,0,0,0,3,0,0,0,0,0,0,0,0,0,0,0,0,0,0,3,0,3,3,1,3,1,0,0,0,3,0,0,0,0]
def QU (O:Alg) (x:Ags O):O.M:=let u3:=(lq9 O 0);let u1:=(O.z (x.I 42) (O.l (x.L 38)));let u0:=(O.u .i64 (x.I 42) (lq9 O 1));(O.c (O.f 161 [] (xr x [0,0,0,0,0,0,0,0,0,0,0,0,0,0,3,0,3,3,1,3,1,0,0,0,3,0,0,0,0] 14)) fun c0=>let u2:=(O.h (O.q c0 0));(O.c (O.b (O.h u2) (O.f 32 [] (xr x kR 0)) (O.a [.int u3])) fun c1=>(O.b (O.i u2 O.m (O.h (O.e (O.d c1 0) u3))) (O.a [.int (lq9 O 3)]) (O.j (O.h (O.af u1 (O.h (O.r u0 (O.l (x.L 38)))))) (O.c (O.f 162 [] (xr x [2,0,0,0,0,0,0,0,1,0,0,0,0,3,0,0,0,0,0,0,0,0,0,0,0,0,0,0,3,0,3,3,1,3,1,0,0,0,3,0,0,0,0] 0)) fun c2=>(O.b (O.i (O.i (O.e (x.I 42) (x.I 36)) O.m (O.e (x.I 42) (x.I 29))) O.m (O.i u1 (O.rB (x.L 38) u0 0) O.g)) (O.a [.int (lq9 O 7)]) (O.c (O.f 105 [] [.rows (x.L 31),.int (x.I 42)]) fun c3=>(O.b (O.q c3 0) (O.a [.int (lq9 O 8)]) (O.b (O.i (O.h (O.e (O.d c2 0) (lq9 O (-1)))) (O.o (x.I 25) (O.u .i64 (x.I 4) (O.d c2 0))) O.g) (O.a [.int (lq9 O 9)]) (O.a [.int u3]))))))))))
def Gd:Nat→Env:=eL [(32,Ab),(105,A4),(161,Cf),(162,LB)]
theorem Ua {N ls}:Gd N 32 [] ls=Ab N ls:=id rfl
theorem Nn {N ls}:Gd N 105 [] ls=A4 N ls:=id rfl
theorem Ud {N ls}:Gd N 161 [] ls=Cf N ls:=id rfl
theorem Vx {N ls}:Gd N 162 [] ls=LB N ls:=id rfl
def MQ:=oS cj QU Gd
def aH:List Nat:=[2,0,0,0,0,0,0,0,1,0,0,0,0,3,0,0,0,0,0,0,0,0,0,0,0,0,0,0,3,0,3,3,1,3,1,0,0,0,3,0,0,0,0]
def Ou (O:Alg) (x:Ags O):O.M:=(O.c (O.f 143 [] (xr x kI 14)) fun c0=>(O.c (O.f 144 [] (xr x [2,0,0,0,0,0,0,0,1,0,0,0,0,3,0,0,0,0,0,0,0,0,0,0,0,0,0,0,3,0,3,3,1,3,1,0,0,0,3,0,0,0,0] 0)) fun c1=>let u0:=(O.d c1 0);(O.b (O.e u0 (lq9 O 0)) (O.a (ap O (cr O c0 [0,0,0,0,0,0,0,0,0,0,0,0,0,0,3] 0) (ap O [.int (x.I 42)] (ap O (cr O c0 [3,3,1,3,1,0,0,0,3,0,0,0] 16) [.int u0])))) (O.a (ap O (cr O c0 kI 0) [.int u0])))))
def LX:Nat→Env:=eL [(143,DT),(144,MQ)]
theorem Vy {N ls}:LX N 143 [] ls=DT N ls:=id rfl
theorem V9 {N ls}:LX N 144 [] ls=MQ N ls:=id rfl
def Kp:=oS aH Ou LX
def PR:List Nat:=[0,0,0,0,0,1,0,0,0,0,1,0]
def GQ (O:Alg) (x:Ags O):O.M:=let u3:=(lq9 O 0);let u2:=(O.e (x.I 4) u3);let u1:=(O.e (x.I 2) u3);let u0:=(O.h (O.e (x.I 4) (lq9 O 6)));(O.b (O.e (x.I 0) (O.lit .u8 2)) (O.a [.bool (O.i (O.e (x.I 1) (O.lit .u8 0)) u0 O.g)]) (O.b (O.e (x.I 1) (O.lit .u8 0)) (O.a [.bool (O.i u1 u2 O.g)]) (O.b (O.e (x.I 1) (O.lit .u8 1)) (O.a [.bool (O.i u0 O.m u1)]) (O.a [.bool (O.i u0 (O.i (O.o u3 (x.I 2)) O.m (O.h u2)) O.g)]))))
def NR:Nat→Env:=eL []
def EH:=oS PR GQ NR
def TH:List Nat:=[0,0,0,0,0,1,0,0,0,0,1,0]
def JJ (O:Alg) (x:Ags O):O.M:=let u3:=(lq9 O 0);let u2:=(lq9 O 11);let u1:=(O.e (x.I 4) u3);let u0:=(O.h u1);(O.b (O.i (O.i (O.i (O.i (O.i (O.o (x.I 0) (O.lit .u8 1)) O.m (O.o (O.lit .u8 3) (x.I 0))) O.m (O.o (O.lit .u8 3) (x.I 1))) O.m (O.o (O.lit .u8 10) (x.I 6))) O.m (O.o (x.I 11) u3)) O.m (O.o (lq9 O 8) (x.I 11))) (O.a [.int u2]) (O.b (O.i (O.i (O.i (O.i (O.o (x.I 2) u3) O.m (O.o (lq9 O 7) (x.I 2))) O.m (O.o (x.I 3) u3)) O.m (O.o (x.I 2) (x.I 3))) O.m (O.i (O.i u0 (O.h (O.e (x.I 4) (lq9 O 4))) O.g) (O.h (O.e (x.I 4) (lq9 O 6))) O.g)) (O.a [.int (lq9 O 12)]) (O.c (O.f 85 [] (xr x [0,0,0,0,0,1,0,0,0,0,1,0] 0)) fun c0=>(O.b (O.i (O.h (O.q c0 0)) O.m (O.i (O.i (O.i (O.h (O.e (x.I 0) (O.lit .u8 2))) (O.e (x.I 1) (O.lit .u8 1)) O.g) (O.e (x.I 2) u3) O.g) u1 O.g)) (O.a [.int u2]) (O.b (O.i (O.i (O.h (O.e (x.I 11) u3)) (O.h (O.e (x.I 1) (O.lit .u8 1))) O.g) (O.h (O.e (x.I 6) (O.lit .u8 2))) O.g) (O.a [.int u2]) (O.b (O.i u0 (O.h (O.e (x.I 6) (O.lit .u8 0))) O.g) (O.a [.int u2]) (O.b (O.i (O.i (x.B 5) (O.h (O.e (x.I 6) (O.lit .u8 6))) O.g) (O.h (O.e (x.I 6) (O.lit .u8 8))) O.g) (O.a [.int u2]) (O.a [.int u3]))))))))
def LA:Nat→Env:=eL [(85,EH)]
theorem L6 {N ls}:LA N 85 [] ls=EH N ls:=id rfl
def C7:=oS TH JJ LA
def PN:List Nat:=[0]
def GJ (O:Alg) (x:Ags O):O.M:=(O.a [.bool (O.i (O.z (O.lit .u8 1) (x.I 0)) (O.z (x.I 0) (O.lit .u8 5)) O.g)])
def NT:Nat→Env:=eL []
def EJ:=oS PN GJ NT
def SA:List Nat:=[2,0,0,0,0,0,0,0,1,0,0,0,0,3,0,0,0,0,0,1,0,0,0,0,1,0]
def Hk (O:Alg) (x:Ags O):O.M:=let u2:=(lq9 O 0);let u1:=(O.p .i64 (O.u .i64 (x.I 16) (x.I 17)) (x.I 18));(O.c (O.f 54 [] (xr x [0,0,0,0,0,1,0,0,0,0,1,0] 14)) fun c0=>(O.b (O.h (O.e (O.d c0 0) u2)) (O.a [.int u2,.int u2,.int u2,.int u2,.int u2,.int u2,.bool O.g,.bool O.g,.bool O.g,.bool O.g]) (O.c (O.f 55 [] [.int (x.I 20)]) fun c1=>let u3:=(O.q c1 0);(O.c (O.b (x.B 19) (O.a [.int (O.p .i64 (x.I 16) (lq9 O 1))]) (O.a [.int (x.I 16)])) fun c2=>let u0:=(O.e (O.ap .i64 (O.d c2 0) (lq9 O 2)) (lq9 O 1));(O.c (O.b (O.e (x.I 14) (O.lit .u8 2)) (O.a [.int u2,.int (O.p .i64 (x.I 6) u1),.int u2,.int u2,.int u2,.int u2,.bool (O.e (x.I 14) (O.lit .u8 1)),.bool (O.h (O.e (x.I 14) (O.lit .u8 2))),.bool u3,.bool u0]) (O.b (O.e (x.I 14) (O.lit .u8 3)) (O.a [.int u2,.int u2,.int (x.I 7),.int u2,.int u2,.int u2,.bool (O.e (x.I 14) (O.lit .u8 1)),.bool (O.h (O.e (x.I 14) (O.lit .u8 2))),.bool u3,.bool u0]) (O.a [.int u2,.int u2,.int u2,.int u2,.int u2,.int u2,.bool (O.e (x.I 14) (O.lit .u8 1)),.bool (O.h (O.e (x.I 14) (O.lit .u8 2))),.bool u3,.bool u0]))) fun c3=>(O.c (O.b (O.h (O.e (x.I 14) (O.lit .u8 2))) (O.b (O.e (x.I 15) (O.lit .u8 1)) (O.a (ap O [.int u1] (cr O c3 [0,0,0,0,0,1,1,1,1] 1))) (O.b (O.e (x.I 15) (O.lit .u8 2)) (O.a (ap O (cr O c3 [0,0,0] 0) (ap O [.int u1] (cr O c3 [0,0,1,1,1,1] 4)))) (O.b (O.e (x.I 15) (O.lit .u8 3)) (O.a (ap O (cr O c3 [0,0,0,0] 0) (ap O [.int u1] (cr O c3 [0,1,1,1,1] 5)))) (O.a (cr O c3 [0,0,0,0,0,0,1,1,1,1] 0))))) (O.a (cr O c3 [0,0,0,0,0,0,1,1,1,1] 0))) fun c4=>(O.a (ap O (cr O c4 [0,0,0,0,0] 0) (ap O [.int (O.p .i64 (O.p .i64 (O.d c4 0) (O.d c4 1)) (O.d c4 2))] (cr O c4 [1,1,1,1] 6))))))))))
def GN:Nat→Env:=eL [(54,C7),(55,EJ)]
theorem NN {N ls}:GN N 54 [] ls=C7 N ls:=id rfl
theorem Lu {N ls}:GN N 55 [] ls=EJ N ls:=id rfl
def A6:=oS SA Hk GN
def Tx:List Nat:=[0,0,0,0,0,0,1,1,1,1]
def UC (O:Alg) (x:Ags O):O.M:=(O.a [.int (O.p .i64 (O.p .i64 (O.p .i64 (O.p .i64 (x.I 0) (x.I 1)) (x.I 2)) (x.I 3)) (x.I 4))])
def ZI:Nat→Env:=eL []
def C8:=oS Tx UC ZI
def Vk:List Nat:=[0,0,0,0,0,0,0,0,0,0,0,0,0,0,3,0,3,3,1,3,1,0,0,0,3,0,0,0]
def E0 (O:Alg) (x:Ags O):O.M:=(O.c (O.f 141 [] (xr x kI 0)) fun c0=>(O.a [.bool (O.i (O.q c0 0) (O.i (O.e (x.I 12) (lq9 O 0)) O.m (O.e (x.I 13) (lq9 O 0))) O.g)]))
def FN:Nat→Env:=eL [(141,Ck)]
theorem P6 {N ls}:FN N 141 [] ls=Ck N ls:=id rfl
def Bn:=oS Vk E0 FN
def YY:List Nat:=[0,0,0,0,0,0,0,0,0,0,0,0,0,0,3,0,3,3,1,3,1,0,0,0,3,0,0,0,0]
def Me (O:Alg) (x:Ags O):O.M:=(O.a [.bool (O.i (O.z (lq9 O 1) (x.I 28)) (O.z (x.I 28) (O.l (x.L 24))) O.g)])
def Vm:Nat→Env:=eL []
def BM:=oS YY Me Vm
def S1:List Nat:=[0,0,0,0,0,0,0,0,0,0,0,0,0,0,3,0,3,3,1,3,1,0,0,0,3,0,0,0,0]
def JE (O:Alg) (x:Ags O):O.M:=let u0:=(O.u .i64 (x.I 28) (lq9 O 1));(O.c (O.f 152 [] (xr x [0,0,0,0,0,0,0,0,0,0,0,0,0,0,3,0,3,3,1,3,1,0,0,0,3,0,0,0,0] 0)) fun c0=>(O.j (O.h (O.af (O.q c0 0) (O.h (O.r u0 (O.l (x.L 24)))))) (O.a [.bool (O.i (O.q c0 0) (O.rB (x.L 24) u0 0) O.g)])))
def Kn:Nat→Env:=eL [(152,BM)]
theorem QJ {N ls}:Kn N 152 [] ls=BM N ls:=id rfl
def BE:=oS S1 JE Kn
def VN:List Nat:=[2,0,0,0,0,0,0,0,1,0,0,0,0,3,0]
def KJ (O:Alg) (x:Ags O):O.M:=let u1:=(lq9 O 1);let u0:=(O.p .i64 (x.I 14) u1);(O.c (O.w (fun s0 c0=>let u2:=(O.d c0 0);(O.b (O.o u2 (O.l (x.L 13))) (O.j (O.r u2 (O.l (x.L 13))) (O.b (O.i (O.z (O.n (x.L 13) u2 0) u0) (O.z u0 (O.n (x.L 13) u2 1)) O.g) (O.a [.int (lq9 O 0),.int (O.n (x.L 13) u2 2)]) (s0 [.int (O.p .i64 u2 u1)]))) (O.a [.int u1]))) [.int (lq9 O 0)]) fun c0=>(O.b (O.ac c0 0) (O.a [.int (O.d c0 1)]) (O.a [.int (x.I 12)])))
def Rs:Nat→Env:=eL []
def Gj:=oS VN KJ Rs
def Yo:List Nat:=[2,0,0,0,0,0,0,0,1,0,0,0,0,3,0,0,0,0,0,0,0,0,0,0,0,0,0,0,3,0,3,3,1,3,1,0,0,0,3,0,0,0]
def Mn (O:Alg) (x:Ags O):O.M:=(O.c (O.f 152 [] (ap O (xr x kI 14) [.int (x.I 36)])) fun c0=>let u0:=(O.h (O.q c0 0));(O.c (O.b (O.h u0) (O.f 153 [] (ap O (xr x kI 14) [.int (x.I 36)])) (O.a [.bool O.g])) fun c1=>(O.b (O.i (O.i u0 O.m (O.q c1 0)) O.m (O.e (x.I 36) (x.I 29))) (O.a [.int (lq9 O 17)]) (O.c (O.f 168 [] (ap O (xr x kR 0) [.int (x.I 24)])) fun c2=>(O.b (O.o (O.d c2 0) (x.I 37)) (O.a [.int (lq9 O 16)]) (O.a [.int (lq9 O 0)]))))))
def G8:Nat→Env:=eL [(152,BM),(153,BE),(168,Gj)]
theorem SR {N ls}:G8 N 152 [] ls=BM N ls:=id rfl
theorem Pn {N ls}:G8 N 153 [] ls=BE N ls:=id rfl
theorem Q7 {N ls}:G8 N 168 [] ls=Gj N ls:=id rfl
def Jd:=oS Yo Mn G8
def R8:List Nat:=[]
def R4 (O:Alg) (x:Ags O):O.M:=(O.a [.rows (O.ab [[.int (O.lit .u8 0),.str (O.s ⟨#[78,79,84,79,85,84]⟩),.bool O.g,.bool O.g,.bool O.g,.bool O.g,.bool O.g],[.int (O.lit .u8 1),.str (O.s ⟨#[66,79,87,76,69,68]⟩),.bool O.m,.bool O.g,.bool O.g,.bool O.g,.bool O.g],[.int (O.lit .u8 2),.str (O.s ⟨#[67,65,85,71,72,84]⟩),.bool O.m,.bool O.g,.bool O.g,.bool O.m,.bool O.g],[.int (O.lit .u8 3),.str (O.s ⟨#[76,66,87]⟩),.bool O.m,.bool O.g,.bool O.g,.bool O.g,.bool O.g],[.int (O.lit .u8 4),.str (O.s ⟨#[83,84,85,77,80,69,68]⟩),.bool O.m,.bool O.m,.bool O.g,.bool O.m,.bool O.g],[.int (O.lit .u8 5),.str (O.s ⟨#[72,73,84,87,73,67,75,69,84]⟩),.bool O.m,.bool O.m,.bool O.g,.bool O.g,.bool O.g],[.int (O.lit .u8 6),.str (O.s ⟨#[82,85,78,79,85,84]⟩),.bool O.m,.bool O.m,.bool O.m,.bool O.m,.bool O.m],[.int (O.lit .u8 7),.str (O.s ⟨#[72,73,84,84,87,73,67,69]⟩),.bool O.m,.bool O.g,.bool O.m,.bool O.g,.bool O.g],[.int (O.lit .u8 8),.str (O.s ⟨#[79,66,83,84,82,85,67,84,73,78,71]⟩),.bool O.m,.bool O.m,.bool O.m,.bool O.g,.bool O.m],[.int (O.lit .u8 9),.str (O.s ⟨#[84,73,77,69,68,79,85,84]⟩),.bool O.g,.bool O.g,.bool O.g,.bool O.g,.bool O.g],[.int (O.lit .u8 10),.str (O.s ⟨#[82,69,84,73,82,69,68]⟩),.bool O.g,.bool O.g,.bool O.g,.bool O.g,.bool O.g]])])
def ZF:Nat→Env:=eL []
def CJ:=oS R8 R4 ZF
def XI:List Nat:=[0]
def Lo (O:Alg) (x:Ags O):O.M:=(O.c (O.f 173 [] []) fun c0=>let u2:=(O.k c0 0);let u0:=(O.l u2);(O.c (O.w (fun s1 c1=>let u1:=(O.d c1 0);(O.b (O.o u1 u0) (O.j (O.r u1 u0) (O.b (O.e (O.n u2 u1 0) (x.I 0)) (O.a (ap O [.int (lq9 O 0)] (rr O u2 u1 [0,2,1,1,1,1,1] 0))) (s1 [.int (O.p .i64 u1 (lq9 O 1))]))) (O.a [.int (lq9 O 1)]))) [.int (lq9 O 0)]) fun c1=>(O.b (O.ac c1 0) (O.a (cr O c1 [0,2,1,1,1,1,1] 1)) (O.a [.int (O.lit .u8 0),.str (O.s ⟨#[]⟩),.bool O.g,.bool O.g,.bool O.g,.bool O.g,.bool O.g]))))
def M8:Nat→Env:=eL [(173,CJ)]
theorem N0 {N ls}:M8 N 173 [] ls=CJ N ls:=id rfl
def Ia:=oS XI Lo M8
def RH:List Nat:=[3,0]
def HA (O:Alg) (x:Ags O):O.M:=(O.c (O.w (fun s0 c0=>let u0:=(O.d c0 0);(O.b (O.o u0 (O.l (x.L 0))) (O.j (O.r u0 (O.l (x.L 0))) (O.b (O.e (x.I 1) (O.n (x.L 0) u0 0)) (O.a [.int (lq9 O 0),.int u0]) (s0 [.int (O.p .i64 u0 (lq9 O 1))]))) (O.a [.int (lq9 O 1)]))) [.int (lq9 O 0)]) fun c0=>(O.b (O.ac c0 0) (O.a [.int (O.d c0 1)]) (O.a [.int (lq9 O (-1))])))
def OS:Nat→Env:=eL []
def Ep:=oS RH HA OS
def Nb:List Nat:=[3,0]
def Et (O:Alg) (x:Ags O):O.M:=(O.c (O.f 174 [] [.rows (x.L 0),.int (x.I 1)]) fun c0=>(O.a [.bool (O.z (lq9 O 0) (O.d c0 0))]))
def GX:Nat→Env:=eL [(174,Ep)]
theorem Jt {N ls}:GX N 174 [] ls=Ep N ls:=id rfl
def Dk:=oS Nb Et GX
def Qj:List Nat:=[0,2,1,1,1,1,1,0]
def Gm (O:Alg) (x:Ags O):O.M:=(O.a [.bool (O.i (O.i (O.i (O.e (x.I 7) (O.lit .u8 1)) (x.B 2) O.g) O.m (O.i (O.e (x.I 7) (O.lit .u8 2)) (x.B 3) O.g)) O.m (O.i (O.e (x.I 7) (O.lit .u8 3)) (x.B 4) O.g))])
def OD:Nat→Env:=eL []
def Ej:=oS Qj Gm OD
def TX:List Nat:=[0,1]
def Iv (O:Alg) (x:Ags O):O.M:=(O.c (O.f 173 [] []) fun c0=>let u5:=(O.k c0 0);let u3:=(O.l u5);(O.c (O.w (fun s1 c1=>let u6:=(O.k c1 0);let u4:=(O.d c1 1);let u2:=(O.n u5 u4 0);let u1:=(O.p .i64 u4 (lq9 O 1));let u0:=(O.ae u6 (O.ab [[.int u2]]));(O.b (O.o u4 u3) (O.j (O.r u4 u3) (O.c (O.f 175 [] (ap O (rr O u5 u4 [0,2,1,1,1,1,1] 0) [.int (x.I 0)])) fun c2=>(O.b (O.i (O.q c2 0) (O.i (O.i (O.i (O.h (x.B 1)) O.m (O.e u2 (O.lit .u8 6))) O.m (O.e u2 (O.lit .u8 7))) O.m (O.e u2 (O.lit .u8 8))) O.g) (O.j (O.t (O.l u0) 1) (s1 [.rows u0,.int u1])) (s1 [.rows u6,.int u1])))) (O.a [.rows u6]))) [.rows O.y,.int (lq9 O 0)]) fun c1=>(O.a [.rows (O.k c1 0)])))
def Gy:Nat→Env:=eL [(173,CJ),(175,Ej)]
theorem NB {N ls}:Gy N 173 [] ls=CJ N ls:=id rfl
theorem MI {N ls}:Gy N 175 [] ls=Ej N ls:=id rfl
def F6:=oS TX Iv Gy
def MU:List Nat:=[0]
def EX (O:Alg) (x:Ags O):O.M:=(O.a [.bool (O.i (O.z (lq9 O 1) (x.I 0)) (O.z (x.I 0) (lq9 O 11)) O.g)])
def Kd:Nat→Env:=eL []
def DV:=oS MU EX Kd
def N4:List Nat:=[0,0,0,0,0,1,0,0,0,0,1,0,0,2,1,1,1,1,1]
def FZ (O:Alg) (x:Ags O):O.M:=let u0:=(O.e (x.I 9) (lq9 O 0));(O.c (O.f 176 [] [.int (x.I 8)]) fun c0=>(O.b (O.i (O.h (O.an (x.B 17) (O.q c0 0))) O.m (O.i (O.h (x.B 17)) (O.h (O.e (x.I 8) (lq9 O 0))) O.g)) (O.a [.bool O.g]) (O.c (O.b (O.af (O.h u0) (O.e (x.I 6) (O.lit .u8 6))) (O.f 176 [] [.int (x.I 9)]) (O.a [.bool O.g])) fun c1=>(O.a [.bool (O.i u0 O.m (O.i (O.i (O.e (x.I 6) (O.lit .u8 6)) (O.q c1 0) O.g) (O.h (O.e (x.I 9) (x.I 8))) O.g))]))))
def Hd:Nat→Env:=eL [(176,DV)]
theorem Ig {N ls}:Hd N 176 [] ls=DV N ls:=id rfl
def Dy:=oS N4 FZ Hd
def O4:List Nat:=[0,0,0,0,0,1,0,0,0,0,1,0,1]
def Fc (O:Alg) (x:Ags O):O.M:=let u0:=(lq9 O 0);(O.b (O.e (x.I 6) (O.lit .u8 0)) (O.b (O.h (O.e (x.I 7) u0)) (O.a [.int (lq9 O 14)]) (O.b (O.i (O.i (O.h (O.e (x.I 8) u0)) O.m (O.h (O.e (x.I 9) u0))) O.m (x.B 10)) (O.a [.int (lq9 O 15)]) (O.a [.int u0]))) (O.c (O.f 169 [] [.int (x.I 6)]) fun c0=>(O.c (O.f 171 [] [.int (x.I 0),.bool (x.B 12)]) fun c1=>(O.c (O.f 170 [] [.rows (O.k c1 0),.int (x.I 6)]) fun c2=>(O.b (O.h (O.q c2 0)) (O.a [.int (lq9 O 13)]) (O.b (O.i (O.h (O.i (O.e (x.I 6) (O.lit .u8 6)) O.m (O.e (x.I 6) (O.lit .u8 8)))) (O.i (O.h (O.e (x.I 1) (O.lit .u8 0))) O.m (O.h (O.e (x.I 2) u0))) O.g) (O.a [.int (lq9 O 12)]) (O.b (O.i (O.h (O.e (x.I 7) (lq9 O 1))) (O.i (O.h (O.e (x.I 7) (lq9 O 2))) O.m (O.h (O.q c0 6))) O.g) (O.a [.int (lq9 O 14)]) (O.c (O.f 172 [] (ap O (xr x [0,0,0,0,0,1,0,0,0,0,1,0] 0) (cr O c0 [0,2,1,1,1,1,1] 0))) fun c3=>(O.b (O.h (O.q c3 0)) (O.a [.int (lq9 O 15)]) (O.b (O.i (O.i (x.B 10) (O.h (O.e (x.I 6) (O.lit .u8 2))) O.g) (O.h (O.e (x.I 6) (O.lit .u8 6))) O.g) (O.a [.int (lq9 O 18)]) (O.a [.int u0])))))))))))
def Cj:Nat→Env:=eL [(169,Ia),(170,Dk),(171,F6),(172,Dy)]
theorem MY {N ls}:Cj N 169 [] ls=Ia N ls:=id rfl
theorem I6 {N ls}:Cj N 170 [] ls=Dk N ls:=id rfl
theorem Lb {N ls}:Cj N 171 [] ls=F6 N ls:=id rfl
theorem Jh {N ls}:Cj N 172 [] ls=Dy N ls:=id rfl
def Dz:=oS O4 Fc Cj
def Yv:List Nat:=[0,0,0,0,0,0,0,0,0,0,0,0,0,0,3,0,3,3,1,3,1,0,0,0,3,0,0,0,0,0,0,0,0,1,0,0,0,0,1,0]
def Mi (O:Alg) (x:Ags O):O.M:=let u1:=(lq9 O 1);let u0:=(lq9 O 0);(O.c (O.b (O.o u0 (x.I 36)) (O.c (O.f 152 [] (ap O (xr x kI 0) [.int (x.I 36)])) fun c0=>(O.b (O.h (O.q c0 0)) (O.a [.int u1,.int (lq9 O 3)]) (O.c (O.f 153 [] (ap O (xr x kI 0) [.int (x.I 36)])) fun c1=>(O.b (O.h (O.an (x.B 38) (O.q c1 0))) (O.a [.int u1,.int (lq9 O 18)]) (O.a [.int u0]))))) (O.a [.int u0])) fun c0=>(O.b (O.ac c0 0) (O.c (O.b (O.o u0 (x.I 37)) (O.c (O.f 152 [] (ap O (xr x kI 0) [.int (x.I 37)])) fun c1=>(O.b (O.h (O.q c1 0)) (O.a [.int u1,.int (lq9 O 3)]) (O.c (O.f 153 [] (ap O (xr x kI 0) [.int (x.I 37)])) fun c2=>(O.b (O.q c2 0) (O.a [.int u1,.int (lq9 O 18)]) (O.a [.int u0]))))) (O.a [.int u0])) fun c1=>(O.b (O.ac c1 0) (O.b (O.i (O.e (x.I 34) (O.lit .u8 4)) (O.h (O.e (O.ai (O.o (x.I 36) u0) u0 (x.I 36)) (x.I 22))) O.g) (O.a [.int (lq9 O 17)]) (O.a [.int u0])) (O.a [.int (O.d c1 1)]))) (O.a [.int (O.d c0 1)])))
def KQ:Nat→Env:=eL [(152,BM),(153,BE)]
theorem SP {N ls}:KQ N 152 [] ls=BM N ls:=id rfl
theorem Pm {N ls}:KQ N 153 [] ls=BE N ls:=id rfl
def JR:=oS Yv Mi KQ
def Ru:List Nat:=[2,0,0,0,0,0,0,0,1,0,0,0,0,3,0,0,0,0,0,0,0,0,0,0,0,0,0,0,3,0,3,3,1,3,1,0,0,0,3,0,0,0,0,0,0,0,0,1,0,0,0,0,1,0]
def Hn (O:Alg) (x:Ags O):O.M:=let u3:=(lq9 O 0);(O.c (O.f 133 [] (xr x kI 14)) fun c0=>(O.b (O.q c0 0) (O.a [.int (lq9 O 6)]) (O.b (O.e (x.I 29) u3) (O.a [.int (lq9 O 7)]) (O.c (O.f 163 [] (xr x [2,0,0,0,0,0,0,0,1,0,0,0,0,3,0,0,0,0,0,0,0,0,0,0,0,0,0,0,3,0,3,3,1,3,1,0,0,0,3,0,0,0] 0)) fun c1=>(O.c (O.f 54 [] (xr x [0,0,0,0,0,1,0,0,0,0,1,0] 42)) fun c2=>(O.c (O.f 164 [] (ap O (xr x [0,0,0,0,0,1,0,0,0,0,1,0] 42) [.bool (x.B 34)])) fun c3=>(O.c (O.f 165 [] (xr x [0,0,0,0,0,0,0,0,0,0,0,0,0,0,3,0,3,3,1,3,1,0,0,0,3,0,0,0,0,0,0,0,0,1,0,0,0,0,1,0] 14)) fun c4=>let u2:=(O.ab [[.int (O.d c1 0)],[.int (O.d c2 0)],[.int (O.d c3 0)],[.int (O.d c4 0)]]);let u1:=(O.l u2);(O.c (O.w (fun s5 c5=>let u4:=(O.d c5 0);let u0:=(O.n u2 u4 0);(O.b (O.o u4 u1) (O.j (O.r u4 u1) (O.b (O.h (O.e u0 u3)) (O.a [.int u3,.int u0]) (s5 [.int (O.p .i64 u4 (lq9 O 1))]))) (O.a [.int (lq9 O 1)]))) [.int u3]) fun c5=>(O.b (O.ac c5 0) (O.a [.int (O.d c5 1)]) (O.a [.int u3]))))))))))
def Ct:Nat→Env:=eL [(54,C7),(133,Bn),(163,Jd),(164,Dz),(165,JR)]
theorem NK {N ls}:Ct N 54 [] ls=C7 N ls:=id rfl
theorem Nt {N ls}:Ct N 133 [] ls=Bn N ls:=id rfl
theorem PG {N ls}:Ct N 163 [] ls=Jd N ls:=id rfl
theorem Kk {N ls}:Ct N 164 [] ls=Dz N ls:=id rfl
theorem O8 {N ls}:Ct N 165 [] ls=JR N ls:=id rfl
def FD:=oS Ru Hn Ct
def Zn:List Nat:=[0,0,0,0,0,0,0,0,0,0,0,0,0,0,3,0,3,3,1,3,1,0,0,0,3,0,0,0,0,0,0,0,0,1,0,0,0,0,1,0]
def O0 (O:Alg) (x:Ags O):O.M:=let u5:=(lq9 O 2);let u4:=(lq9 O 1);let u3:=(lq9 O 0);let u1:=(O.h (O.e (O.ap .i64 (x.I 30) u5) u3));(O.c (O.f 140 [] (xr x kI 0)) fun c0=>(O.c (O.b (O.h (O.e (x.I 34) (O.lit .u8 0))) (O.b (O.i (O.e (x.I 35) u4) (O.h (O.e (x.I 12) u3)) O.g) (O.a [.int u4,.int (x.I 12)]) (O.b (O.i (O.e (x.I 35) u5) (O.h (O.e (x.I 13) u3)) O.g) (O.a [.int u5,.int (x.I 13)]) (O.a [.int u3,.int u3]))) (O.a [.int u3,.int u3])) fun c1=>let u7:=(O.d c1 1);let u2:=(O.u .i64 u7 u4);(O.c (O.b (x.B 33) (O.a [.bool (O.h u1)]) (O.a [.bool u1])) fun c2=>(O.c (O.b (O.q c2 0) (O.a (ap O (cr O c0 [0,0,0,0,0,0,0,0,0,0,0,0] 0) (ap O [.int (O.d c0 13),.int (O.d c0 12)] (cr O c0 [3,0,3,3,1,3,1,0,0,0,3,0,0,0] 14)))) (O.a (cr O c0 kI 0))) fun c3=>let u6:=(O.k c3 14);let u0:=(O.r u2 (O.l u6));(O.b (O.e (O.d c1 0) u3) (O.a (cr O c3 kI 0)) (O.b (O.h (O.an (O.e (O.d c1 0) u4) (O.q c2 0))) (O.c (O.f 142 [] (ap O (cr O c3 [0,0,0,0,0,0,0,0,0,0,0,0] 0) (ap O [.int u3] (ap O (cr O c3 [0,3,0,3,3,1,3,1,0,0,0,3,0,0,0] 13) [.int u7])))) fun c4=>(O.c (O.b (O.q c4 0) (O.j u0 (O.a (ap O (cr O c3 [0,0,0,0,0,0,0,0,0,0,0,0] 0) (ap O [.int u3,.int (O.d c3 13),.rows (O.v u6 u2 0 [.int (O.lit .u8 2)])] (cr O c3 [0,3,3,1,3,1,0,0,0,3,0,0,0] 15))))) (O.a (ap O (cr O c3 [0,0,0,0,0,0,0,0,0,0,0,0] 0) (ap O [.int u3] (cr O c3 [0,3,0,3,3,1,3,1,0,0,0,3,0,0,0] 13))))) fun c5=>(O.a (ap O (cr O c5 [0,0,0,0] 0) (ap O [.int (O.p .i64 (O.d c5 4) u4)] (cr O c5 [0,0,0,0,0,0,0,0,0,3,0,3,3,1,3,1,0,0,0,3,0,0,0] 5)))))) (O.c (O.f 142 [] (ap O (cr O c3 [0,0,0,0,0,0,0,0,0,0,0,0,0] 0) (ap O [.int u3] (ap O (cr O c3 [3,0,3,3,1,3,1,0,0,0,3,0,0,0] 14) [.int u7])))) fun c4=>(O.c (O.b (O.q c4 0) (O.j u0 (O.a (ap O (cr O c3 [0,0,0,0,0,0,0,0,0,0,0,0,0] 0) (ap O [.int u3,.rows (O.v u6 u2 0 [.int (O.lit .u8 2)])] (cr O c3 [0,3,3,1,3,1,0,0,0,3,0,0,0] 15))))) (O.a (ap O (cr O c3 [0,0,0,0,0,0,0,0,0,0,0,0,0] 0) (ap O [.int u3] (cr O c3 [3,0,3,3,1,3,1,0,0,0,3,0,0,0] 14))))) fun c5=>(O.a (ap O (cr O c5 [0,0,0,0] 0) (ap O [.int (O.p .i64 (O.d c5 4) u4)] (cr O c5 [0,0,0,0,0,0,0,0,0,3,0,3,3,1,3,1,0,0,0,3,0,0,0] 5))))))))))))
def Lw:Nat→Env:=eL [(140,BA),(142,BC)]
theorem UZ {N ls}:Lw N 140 [] ls=BA N ls:=id rfl
theorem Sp {N ls}:Lw N 142 [] ls=BC N ls:=id rfl
def Ki:=oS Zn O0 Lw
def ZL:List Nat:=[2,0,0,0,0,0,0,0,1,0,0,0,0,3,0,0,0,0,0,0,0,0,0,0,0,0,0,0,3,0,3,3,1,3,1,0,0,0,3,0,0,0,1]
def OO (O:Alg) (x:Ags O):O.M:=let u5:=(lq9 O 0);let u4:=(lq9 O 1);let u2:=(O.u .i64 (x.I 29) u4);(O.c (O.f 143 [] (xr x kI 14)) fun c0=>let u1:=(O.ae (O.k c0 16) (O.ab [[.int (x.I 29)]]));(O.c (O.f 161 [] (ap O (xr x kI 14) [.int (x.I 29)])) fun c1=>let u3:=(O.h (O.q c1 0));(O.c (O.b (O.h u3) (O.f 32 [] (xr x kR 0)) (O.a [.int u5])) fun c2=>(O.b (O.i u3 O.m (O.h (O.e (O.d c2 0) u5))) (O.a (ap O (cr O c0 kI 0) [.bool O.g])) (O.c (O.f 105 [] [.rows (O.k c0 16),.int (x.I 29)]) fun c3=>(O.c (O.b (O.h (O.q c3 0)) (O.j (O.t (O.l u1) 8) (O.a (ap O (cr O c0 [0,0,0,0,0,0,0,0,0,0,0,0,0,0,3,0] 0) (ap O [.rows u1] (cr O c0 [3,1,3,1,0,0,0,3,0,0,0] 17))))) (O.a (cr O c0 kI 0))) fun c4=>let u6:=(O.k c4 19);let u0:=(O.r u2 (O.l u6));(O.c (O.b (x.B 42) (O.j u0 (O.j u0 (O.a (ap O (cr O c4 [0,0,0,0,0,0,0,0,0,0,0] 0) (ap O [.int (O.p .i64 (O.d c4 11) u4)] (ap O (cr O c4 [0,0,3,0,3,3,1] 12) (ap O [.rows (O.v u6 u2 0 [.int (O.p .i64 (O.n u6 u2 0) u4)]),.bool (O.q c4 20),.int (O.p .i64 (O.d c4 21) u4)] (cr O c4 [0,0,3,0,0,0] 22)))))))) (O.a (cr O c4 kI 0))) fun c5=>(O.b (O.o (O.d c5 11) (x.I 4)) (O.a (ap O (cr O c5 kI 0) [.bool O.g])) (O.a (ap O (cr O c5 [0,0,0,0,0,0,0,0,0,0] 0) (ap O [.int (O.p .i64 (O.d c5 10) u4),.int u5] (ap O (cr O c5 [0,0,3] 12) (ap O [.int u5,.rows O.y,.rows (O.k c5 16)] (ap O (cr O c5 [1,3,1,0,0,0,3,0,0,0] 18) [.bool O.m]))))))))))))))
def Fh:Nat→Env:=eL [(32,Ab),(105,A4),(143,DT),(161,Cf)]
theorem UP {N ls}:Fh N 32 [] ls=Ab N ls:=id rfl
theorem NA {N ls}:Fh N 105 [] ls=A4 N ls:=id rfl
theorem V6 {N ls}:Fh N 143 [] ls=DT N ls:=id rfl
theorem Tt {N ls}:Fh N 161 [] ls=Cf N ls:=id rfl
def Kl:=oS ZL OO Fh
def Vh:List Nat:=[0,0,0,0,0,0,0,0,0,0,0,0,0,0,3,0,3,3,1,3,1,0,0,0,3,0,0,0]
def J3 (O:Alg) (x:Ags O):O.M:=(O.c (O.f 140 [] (xr x kI 0)) fun c0=>(O.a (ap O (cr O c0 [0,0,0,0,0,0,0,0,0,0,0,0] 0) (ap O [.int (x.I 13),.int (x.I 12)] (cr O c0 [3,0,3,3,1,3,1,0,0,0,3,0,0,0] 14)))))
def MA:Nat→Env:=eL [(140,BA)]
theorem RY {N ls}:MA N 140 [] ls=BA N ls:=id rfl
def HK:=oS Vh J3 MA
def WM:List Nat:=[2,0,0,0,0,0,0,0,1,0,0,0,0,3,0,0,0,0,0,0,0,0,0,0,0,0,0,0,3,0,3,3,1,3,1,0,0,0,3,0,0,0,0,0,0,0,0,1,0,0,0,0,1,0]
def LT (O:Alg) (x:Ags O):O.M:=let u0:=(lq9 O 0);(O.c (O.f 145 [] (xr x [2,0,0,0,0,0,0,0,1,0,0,0,0,3,0,0,0,0,0,0,0,0,0,0,0,0,0,0,3,0,3,3,1,3,1,0,0,0,3,0,0,0,0,0,0,0,0,1,0,0,0,0,1,0] 0)) fun c0=>(O.b (O.h (O.e (O.d c0 0) u0)) (O.c (O.f 78 [] (xr x kI 14)) fun c1=>(O.a (ap O (cr O c1 kI 0) [.int (O.d c0 0)]))) (O.c (O.f 40 [] (ap O (xr x kR 0) (xr x [0,0,0,0,0,1,0,0,0,0,1,0] 42))) fun c1=>(O.c (O.f 146 [] (xr x [0,0,0,0,0,0,0,0,0,0,0,0,0,0,3,0,3,3,1,3,1,0,0,0,3,0,0,0,0,0,0,0,0,1,0,0,0,0,1,0] 14)) fun c2=>(O.c (O.f 63 [] (cr O c1 [0,0,0,0,0,0,1,1,1,1] 0)) fun c3=>(O.c (O.f 147 [] (ap O (xr x kR 0) (ap O (cr O c2 [0,0,0] 0) (ap O [.int (O.p .i64 (O.d c2 3) (O.d c3 0)),.int (O.d c2 4),.int (O.p .i64 (O.d c2 5) (O.d c1 1)),.int (O.p .i64 (O.d c2 6) (O.d c1 2)),.int (O.p .i64 (O.d c2 7) (O.d c1 3)),.int (O.p .i64 (O.d c2 8) (O.d c1 4))] (ap O (cr O c2 [0,0,0,0,0,3,0,3,3,1,3,1,0,0,0,3,0,0,0] 9) [.bool (O.q c1 6)]))))) fun c4=>(O.c (O.b (O.q c4 28) (O.c (O.f 148 [] (cr O c4 kI 0)) fun c5=>(O.a (cr O c5 kI 0))) (O.a (cr O c4 kI 0))) fun c5=>(O.b (O.e (x.I 42) (O.lit .u8 1)) (O.a (ap O (cr O c5 [0,0,0,0,0,0,0,0,0,0,0,0,0,0,3,0,3,3,1,3] 0) (ap O [.bool O.g] (ap O (cr O c5 [0,0,0,3,0,0,0] 21) [.int u0])))) (O.b (O.i (O.e (x.I 42) (O.lit .u8 3)) (x.B 8) O.g) (O.a (ap O (cr O c5 [0,0,0,0,0,0,0,0,0,0,0,0,0,0,3,0,3,3,1,3] 0) (ap O [.bool O.m] (ap O (cr O c5 [0,0,0,3,0,0,0] 21) [.int u0])))) (O.a (ap O (cr O c5 kI 0) [.int u0])))))))))))
def Cb:Nat→Env:=eL [(40,A6),(63,C8),(78,Aa),(145,FD),(146,Ki),(147,Kl),(148,HK)]
theorem OB {N ls}:Cb N 40 [] ls=A6 N ls:=id rfl
theorem PB {N ls}:Cb N 63 [] ls=C8 N ls:=id rfl
theorem QK {N ls}:Cb N 78 [] ls=Aa N ls:=id rfl
theorem O2 {N ls}:Cb N 145 [] ls=FD N ls:=id rfl
theorem Si {N ls}:Cb N 146 [] ls=Ki N ls:=id rfl
theorem Sc {N ls}:Cb N 147 [] ls=Kl N ls:=id rfl
theorem Py {N ls}:Cb N 148 [] ls=HK N ls:=id rfl
def H9:=oS WM LT Cb
def aY:List Nat:=[0,0,0,0,0,0,0,0,0,0,0,0,0,0,3,0,3,3,1,3,1,0,0,0,3,0,0,0,0]
def OV (O:Alg) (x:Ags O):O.M:=let u2:=(O.u .i64 (x.I 28) (lq9 O 1));let u1:=(O.n (x.L 14) u2 0);let u0:=(O.r u2 (O.l (x.L 14)));(O.c (O.f 142 [] (xr x [0,0,0,0,0,0,0,0,0,0,0,0,0,0,3,0,3,3,1,3,1,0,0,0,3,0,0,0,0] 0)) fun c0=>(O.b (O.h (O.q c0 0)) (O.a [.int (lq9 O 3)]) (O.c (O.f 133 [] (xr x kI 0)) fun c1=>let u3:=(O.h (O.q c1 0));(O.j (O.h (O.af (O.h u3) (O.h u0))) (O.b (O.i u3 O.m (O.e u1 (O.lit .u8 1))) (O.a [.int (lq9 O 4)]) (O.j u0 (O.b (O.e u1 (O.lit .u8 2)) (O.a [.int (lq9 O 5)]) (O.a [.int (lq9 O 0)]))))))))
def Lz:Nat→Env:=eL [(133,Bn),(142,BC)]
theorem RQ {N ls}:Lz N 133 [] ls=Bn N ls:=id rfl
theorem Sd {N ls}:Lz N 142 [] ls=BC N ls:=id rfl
def Ek:=oS aY OV Lz
def S5:List Nat:=[0,0,0,0,0,0,0,0,0,0,0,0,0,0,3,0,3,3,1,3,1,0,0,0,3,0,0,0,0]
def I4 (O:Alg) (x:Ags O):O.M:=let u0:=(O.u .i64 (x.I 28) (lq9 O 1));(O.c (O.f 140 [] (xr x kI 0)) fun c0=>(O.c (O.f 149 [] (xr x [0,0,0,0,0,0,0,0,0,0,0,0,0,0,3,0,3,3,1,3,1,0,0,0,3,0,0,0,0] 0)) fun c1=>(O.b (O.h (O.e (O.d c1 0) (lq9 O 0))) (O.a (ap O (cr O c0 kI 0) [.int (O.d c1 0)])) (O.c (O.f 142 [] (ap O (cr O c0 kI 0) [.int (x.I 28)])) fun c2=>(O.c (O.b (O.q c2 0) (O.j (O.r u0 (O.l (O.k c0 14))) (O.a (ap O (cr O c0 [0,0,0,0,0,0,0,0,0,0,0,0,0,0] 0) (ap O [.rows (O.v (O.k c0 14) u0 0 [.int (O.lit .u8 2)])] (cr O c0 [0,3,3,1,3,1,0,0,0,3,0,0,0] 15))))) (O.a (cr O c0 kI 0))) fun c3=>(O.a (ap O (cr O c3 [0,0,0,0] 0) (ap O [.int (O.p .i64 (O.d c3 4) (lq9 O 1))] (ap O (cr O c3 [0,0,0,0,0,0,0,0,0,3,0,3,3,1,3,1,0,0,0,3,0,0,0] 5) [.int (lq9 O 0)])))))))))
def Eb:Nat→Env:=eL [(140,BA),(142,BC),(149,Ek)]
theorem Ql {N ls}:Eb N 140 [] ls=BA N ls:=id rfl
theorem PD {N ls}:Eb N 142 [] ls=BC N ls:=id rfl
theorem RE {N ls}:Eb N 149 [] ls=Ek N ls:=id rfl
def GA:=oS S5 I4 Eb
def WL:List Nat:=[0,0,0,0,0,0,0,0,0,0,0,0,0,0,3,0,3,3,1,3,1,0,0,0,3,0,0,0,0]
def LY (O:Alg) (x:Ags O):O.M:=let u1:=(lq9 O 0);let u0:=(O.u .i64 (x.I 28) (lq9 O 1));(O.c (O.f 140 [] (xr x kI 0)) fun c0=>let u2:=(O.k c0 14);(O.c (O.f 149 [] (xr x [0,0,0,0,0,0,0,0,0,0,0,0,0,0,3,0,3,3,1,3,1,0,0,0,3,0,0,0,0] 0)) fun c1=>(O.b (O.h (O.e (O.d c1 0) u1)) (O.a (ap O (cr O c0 kI 0) [.int (O.d c1 0)])) (O.j (O.r u0 (O.l u2)) (O.b (O.e (O.d c0 12) u1) (O.a (ap O (cr O c0 [0,0,0,0,0,0,0,0,0,0,0,0] 0) (ap O [.int (x.I 28),.int (O.d c0 13),.rows (O.v u2 u0 0 [.int (O.lit .u8 1)])] (ap O (cr O c0 [0,3,3,1,3,1,0,0,0,3,0,0,0] 15) [.int u1])))) (O.a (ap O (cr O c0 [0,0,0,0,0,0,0,0,0,0,0,0,0] 0) (ap O [.int (x.I 28),.rows (O.v u2 u0 0 [.int (O.lit .u8 1)])] (ap O (cr O c0 [0,3,3,1,3,1,0,0,0,3,0,0,0] 15) [.int u1])))))))))
def JD:Nat→Env:=eL [(140,BA),(149,Ek)]
theorem SZ {N ls}:JD N 140 [] ls=BA N ls:=id rfl
theorem Ss {N ls}:JD N 149 [] ls=Ek N ls:=id rfl
def ID:=oS WL LY JD
def Yl:List Nat:=[0,0,0,0,0,0,0,0,0,0,0,0,0,0,3,0,3,3,1,3,1,0,0,0,3,0,0,0]
def Ga (O:Alg) (x:Ags O):O.M:=(O.c (O.w (fun s0 c0=>let u4:=(O.k c0 0);let u3:=(O.d c0 1);let u2:=(O.n (x.L 14) u3 0);let u1:=(O.p .i64 u3 (lq9 O 1));let u0:=(O.ae u4 (O.ab [[.int u1]]));(O.b (O.o u3 (O.l (x.L 14))) (O.j (O.r u3 (O.l (x.L 14))) (O.b (O.i (O.e u2 (O.lit .u8 0)) O.m (O.e u2 (O.lit .u8 3))) (O.j (O.t (O.l u0) 8) (s0 [.rows u0,.int u1])) (s0 [.rows u4,.int u1]))) (O.a [.rows u4]))) [.rows O.y,.int (lq9 O 0)]) fun c0=>(O.a [.rows (O.k c0 0)]))
def Ob:Nat→Env:=eL []
def Dd:=oS Yl Ga Ob
def Vo:List Nat:=[0,0,0,0,0,0,0,0,0,0,0,0,0,0,3,0,3,3,1,3,1,0,0,0,3,0,0,0,0,1]
def J4 (O:Alg) (x:Ags O):O.M:=let u3:=(lq9 O 0);let u2:=(O.e (x.I 28) (x.I 12));let u1:=(O.u .i64 (x.I 28) (lq9 O 1));(O.c (O.f 140 [] (xr x kI 0)) fun c0=>(O.c (O.f 142 [] (xr x [0,0,0,0,0,0,0,0,0,0,0,0,0,0,3,0,3,3,1,3,1,0,0,0,3,0,0,0,0] 0)) fun c1=>(O.b (O.h (O.q c1 0)) (O.a (ap O (cr O c0 kI 0) [.int (lq9 O 3)])) (O.b (O.i (O.e (x.I 12) u3) O.m (O.e (x.I 13) u3)) (O.a (ap O (cr O c0 kI 0) [.int (lq9 O 6)])) (O.b (O.i (O.h u2) (O.h (O.e (x.I 28) (x.I 13))) O.g) (O.a (ap O (cr O c0 kI 0) [.int (lq9 O 4)])) (O.c (O.b (x.B 29) (O.f 134 [] (xr x kI 0)) (O.a [.rows O.y])) fun c2=>(O.b (O.i (x.B 29) (O.e (O.l (O.k c2 0)) u3) O.g) (O.a (ap O (cr O c0 kI 0) [.int (lq9 O 19)])) (O.c (O.b u2 (O.a (ap O (cr O c0 [0,0,0,0,0,0,0,0,0,0,0,0] 0) (ap O [.int u3] (cr O c0 [0,3,0,3,3,1,3,1,0,0,0,3,0,0,0] 13)))) (O.a (ap O (cr O c0 [0,0,0,0,0,0,0,0,0,0,0,0,0] 0) (ap O [.int u3] (cr O c0 [3,0,3,3,1,3,1,0,0,0,3,0,0,0] 14))))) fun c3=>let u4:=(O.k c3 14);let u0:=(O.r u1 (O.l u4));(O.b (x.B 29) (O.j u0 (O.a (ap O (cr O c3 [0,0,0,0,0,0,0,0,0,0,0,0,0,0] 0) (ap O [.rows (O.v u4 u1 0 [.int (O.lit .u8 3)])] (ap O (cr O c3 [0,3,3,1,3,1,0,0,0,3,0,0,0] 15) [.int u3]))))) (O.c (O.f 142 [] (ap O (cr O c3 kI 0) [.int (x.I 28)])) fun c4=>(O.c (O.b (O.q c4 0) (O.j u0 (O.a (ap O (cr O c3 [0,0,0,0,0,0,0,0,0,0,0,0,0,0] 0) (ap O [.rows (O.v u4 u1 0 [.int (O.lit .u8 2)])] (cr O c3 [0,3,3,1,3,1,0,0,0,3,0,0,0] 15))))) (O.a (cr O c3 kI 0))) fun c5=>(O.a (ap O (cr O c5 [0,0,0,0] 0) (ap O [.int (O.p .i64 (O.d c5 4) (lq9 O 1))] (ap O (cr O c5 [0,0,0,0,0,0,0,0,0,3,0,3,3,1,3,1,0,0,0,3,0,0,0] 5) [.int u3])))))))))))))))
def FQ:Nat→Env:=eL [(134,Dd),(140,BA),(142,BC)]
theorem Q9 {N ls}:FQ N 134 [] ls=Dd N ls:=id rfl
theorem Rd {N ls}:FQ N 140 [] ls=BA N ls:=id rfl
theorem Pc {N ls}:FQ N 142 [] ls=BC N ls:=id rfl
def Gl:=oS Vo J4 FQ
def cY:List Nat:=[0,0,0,0,0,0,0,0,0,0,0,0,0,0,3,0,3,3,1,3,1,0,0,0,3,0,0,0]
def Qc (O:Alg) (x:Ags O):O.M:=(O.c (O.f 96 [] [.rows (x.L 14)]) fun c0=>(O.c (O.f 97 [] [.rows (x.L 16)]) fun c1=>(O.c (O.f 97 [] [.rows (x.L 17)]) fun c2=>(O.c (O.f 97 [] [.rows (x.L 19)]) fun c3=>(O.c (O.f 98 [] [.rows (x.L 24)]) fun c4=>(O.a (ap O (xr x [0,0,0,0,0,0,0,0,0,0,0,0,0,0] 0) (ap O [.rows (O.k c0 0),.int (x.I 15),.rows (O.k c1 0),.rows (O.k c2 0),.bool (x.B 18),.rows (O.k c3 0)] (ap O (xr x [1,0,0,0] 20) (ap O [.rows (O.k c4 0)] (xr x [0,0,0] 25)))))))))))
def JV:Nat→Env:=eL [(96,Ae),(97,As),(98,Ai)]
theorem Nq {N ls}:JV N 96 [] ls=Ae N ls:=id rfl
theorem P1 {N ls}:JV N 97 [] ls=As N ls:=id rfl
theorem PE {N ls}:JV N 98 [] ls=Ai N ls:=id rfl
def DS:=oS cY Qc JV
def VF:List Nat:=[0,0,0,0,0,0,0,0,0,0,0,0,0,0,3,0,3,3,1,3,1,0,0,0,3,0,0,0,0]
def KL (O:Alg) (x:Ags O):O.M:=(O.c (O.f 151 [] (xr x kI 0)) fun c0=>(O.b (O.i (O.o (x.I 28) (lq9 O 0)) O.m (O.o (O.u .i64 (O.l (x.L 24)) (lq9 O 2)) (x.I 28))) (O.a (ap O (cr O c0 kI 0) [.int (lq9 O 16)])) (O.a (ap O (cr O c0 [0,0,0,0,0,0,0,0,0,0,0,0,0,0,3,0,3,3,1,3,1,0,0] 0) (ap O [.int (x.I 28)] (ap O (cr O c0 [3,0,0,0] 24) [.int (lq9 O 0)]))))))
def MB:Nat→Env:=eL [(151,DS)]
theorem Se {N ls}:MB N 151 [] ls=DS N ls:=id rfl
def HN:=oS VF KL MB
def WW:List Nat:=[0,0,0,0,0,0,0,0,0,0,0,0,0,0,3,0,3,3,1,3,1,0,0,0,3,0,0,0,0]
def Li (O:Alg) (x:Ags O):O.M:=(O.c (O.f 151 [] (xr x kI 0)) fun c0=>(O.c (O.f 152 [] (xr x [0,0,0,0,0,0,0,0,0,0,0,0,0,0,3,0,3,3,1,3,1,0,0,0,3,0,0,0,0] 0)) fun c1=>(O.b (O.h (O.q c1 0)) (O.a (ap O (cr O c0 kI 0) [.int (lq9 O 3)])) (O.c (O.f 153 [] (xr x [0,0,0,0,0,0,0,0,0,0,0,0,0,0,3,0,3,3,1,3,1,0,0,0,3,0,0,0,0] 0)) fun c2=>(O.b (O.q c2 0) (O.a (ap O (cr O c0 kI 0) [.int (lq9 O 18)])) (O.b (O.i (O.e (x.I 28) (x.I 15)) O.m (O.e (x.I 28) (x.I 22))) (O.a (ap O (cr O c0 kI 0) [.int (lq9 O 17)])) (O.a (ap O (cr O c0 [0,0,0,0,0,0,0,0,0,0,0,0,0,0,3,0,3,3,1,3,1,0] 0) (ap O [.int (x.I 28)] (ap O (cr O c0 [0,3,0,0,0] 23) [.int (lq9 O 0)]))))))))))
def F8:Nat→Env:=eL [(151,DS),(152,BM),(153,BE)]
theorem S4 {N ls}:F8 N 151 [] ls=DS N ls:=id rfl
theorem RV {N ls}:F8 N 152 [] ls=BM N ls:=id rfl
theorem PH {N ls}:F8 N 153 [] ls=BE N ls:=id rfl
def IB:=oS WW Li F8
def Q2:List Nat:=[0,0,0,0,0,0,0,0,0,0,0,0,0,0,3,0,3,3,1,3,1,0,0,0,3,0,0,0,0,1]
def G5 (O:Alg) (x:Ags O):O.M:=let u2:=(lq9 O 0);let u1:=(O.u .i64 (x.I 28) (lq9 O 1));(O.c (O.f 151 [] (xr x kI 0)) fun c0=>let u0:=(O.v (O.k c0 24) u1 0 [.bool (x.B 29)]);(O.c (O.f 152 [] (xr x [0,0,0,0,0,0,0,0,0,0,0,0,0,0,3,0,3,3,1,3,1,0,0,0,3,0,0,0,0] 0)) fun c1=>(O.b (O.h (O.q c1 0)) (O.a (ap O (cr O c0 kI 0) [.int (lq9 O 3)])) (O.c (O.f 153 [] (xr x [0,0,0,0,0,0,0,0,0,0,0,0,0,0,3,0,3,3,1,3,1,0,0,0,3,0,0,0,0] 0)) fun c2=>(O.b (O.an (O.q c2 0) (x.B 29)) (O.a (ap O (cr O c0 kI 0) [.int (lq9 O 18)])) (O.j (O.r u1 (O.l (O.k c0 24))) (O.c (O.b (O.i (x.B 29) (O.e (O.d c0 22) (x.I 28)) O.g) (O.a (ap O (cr O c0 [0,0,0,0,0,0,0,0,0,0,0,0,0,0,3,0,3,3,1,3,1,0] 0) (ap O [.int u2,.int (O.d c0 23),.rows u0] (cr O c0 [0,0,0] 25)))) (O.a (ap O (cr O c0 [0,0,0,0,0,0,0,0,0,0,0,0,0,0,3,0,3,3,1,3,1,0,0,0] 0) (ap O [.rows u0] (cr O c0 [0,0,0] 25))))) fun c3=>(O.b (O.i (x.B 29) (O.e (O.d c3 15) (x.I 28)) O.g) (O.a (ap O (cr O c3 [0,0,0,0,0,0,0,0,0,0,0,0,0,0,3] 0) (ap O [.int u2] (ap O (cr O c3 [3,3,1,3,1,0,0,0,3,0,0,0] 16) [.int u2])))) (O.a (ap O (cr O c3 kI 0) [.int u2]))))))))))
def Dx:Nat→Env:=eL [(151,DS),(152,BM),(153,BE)]
theorem P7 {N ls}:Dx N 151 [] ls=DS N ls:=id rfl
theorem OK {N ls}:Dx N 152 [] ls=BM N ls:=id rfl
theorem Ma {N ls}:Dx N 153 [] ls=BE N ls:=id rfl
def En:=oS Q2 G5 Dx
def VS:List Nat:=[2,0,0,0,0,0,0,0,1,0,0,0,0,3,0,0,0,0,0,0,0,0,0,0,0,0,0,0,3,0,3,3,1,3,1,0,0,0,3,0,0,0]
def KK (O:Alg) (x:Ags O):O.M:=let u0:=(lq9 O 0);(O.c (O.f 143 [] (xr x kI 14)) fun c0=>(O.c (O.f 32 [] (xr x kR 0)) fun c1=>(O.b (O.i (O.i (O.h (O.e (O.d c1 0) u0)) O.m (O.e (x.I 9) u0)) O.m (O.o (x.I 35) (O.al .i64 (x.I 9) (x.I 4)))) (O.a (ap O (cr O c0 kI 0) [.int (lq9 O 22)])) (O.a (ap O (cr O c0 [0,0,0,0,0,0,0,0,0,0,0,0,0,0,3,0,3,3,1,3,1] 0) (ap O [.int u0] (ap O (cr O c0 [0,0,3,0,0,0] 22) [.int u0])))))))
def Ho:Nat→Env:=eL [(32,Ab),(143,DT)]
theorem RC {N ls}:Ho N 32 [] ls=Ab N ls:=id rfl
theorem Sk {N ls}:Ho N 143 [] ls=DT N ls:=id rfl
def G1:=oS VS KK Ho
def SE:List Nat:=[2,0,0,0,0,0,0,0,1,0,0,0,0,3,0,0,0,0,0,0,0,0,0,0,0,0,0,0,3,0,3,3,1,3,1,0,0,0,3,0,0,0,0,0,0,0,1,0,0,0,0,0,0,0,1,0,0,0,0,1,0]
def Hq (O:Alg) (x:Ags O):O.M:=(O.c (O.f 78 [] (xr x kI 14)) fun c0=>(O.b (O.h (O.e (x.I 43) (x.I 14))) (O.a (ap O (cr O c0 kI 0) [.int (lq9 O 2)])) (O.b (O.h (O.e (x.I 3) (lq9 O 0))) (O.a (ap O (cr O c0 kI 0) [.int (lq9 O 20)])) (O.a (ap O (cr O c0 [0,0,0,0,0,0,0,0,0,0,0,0,0,0,3,0,3,3,1,3,1,0,0,0,3,0,0] 0) [.int (O.lit .u8 4),.int (lq9 O 0)])))))
def Jy:Nat→Env:=eL [(78,Aa)]
theorem Nu {N ls}:Jy N 78 [] ls=Aa N ls:=id rfl
def FR:=oS SE Hq Jy
def Rp:List Nat:=[0,0,0,0,0,0,0,0,0,0,0,0,0,0,3,0,3,3,1,3,1,0,0,0,3,0,0,0]
def Hs (O:Alg) (x:Ags O):O.M:=(O.c (O.f 78 [] (xr x kI 0)) fun c0=>(O.a (ap O (cr O c0 [0,0,0] 0) (ap O [.int (O.p .i64 (O.d c0 3) (lq9 O 5))] (ap O (cr O c0 [0,0,0,0,0] 4) (ap O [.int (O.p .i64 (O.d c0 9) (lq9 O 5))] (cr O c0 [0,0,0,0,3,0,3,3,1,3,1,0,0,0,3,0,0,0] 10)))))))
def Jv:Nat→Env:=eL [(78,Aa)]
theorem Ns {N ls}:Jv N 78 [] ls=Aa N ls:=id rfl
def Cs:=oS Rp Hs Jv
def R6:List Nat:=[0,0,0,0,0,0,0,0,0,0,0,0,0,0,3,0,3,3,1,3,1,0,0,0,3,0,0,0,0,0,0,0,1,0,0,0,0,0,0,0,1,0,0,0,0,1,0]
def Hr (O:Alg) (x:Ags O):O.M:=let u0:=(lq9 O 0);(O.c (O.f 78 [] (xr x kI 0)) fun c0=>(O.b (O.h (O.e (x.I 33) (lq9 O 5))) (O.a (ap O (cr O c0 kI 0) [.int (lq9 O 23)])) (O.b (O.e (x.I 29) (x.I 0)) (O.c (O.f 112 [] (xr x kI 0)) fun c1=>(O.a (ap O (cr O c1 kI 0) [.int u0]))) (O.b (O.o u0 (O.d c0 1)) (O.a (ap O [.int (O.d c0 0),.int (O.p .i64 (O.d c0 1) (lq9 O 5))] (ap O (cr O c0 [0,0,0,0,0,0,0,0,0,0,0,0,3,0,3,3,1,3,1,0,0,0,3,0,0,0] 2) [.int u0]))) (O.a (ap O (cr O c0 kI 0) [.int u0]))))))
def GM:Nat→Env:=eL [(78,Aa),(112,Cs)]
theorem Np {N ls}:GM N 78 [] ls=Aa N ls:=id rfl
theorem MM {N ls}:GM N 112 [] ls=Cs N ls:=id rfl
def FO:=oS R6 Hr GM
def S9:List Nat:=[2,0,0,0,0,0,0,0,1,0,0,0,0,3,0,0,0,0,0,0,0,0,0,0,0,0,0,0,3,0,3,3,1,3,1,0,0,0,3,0,0,0,0,0,0,0,1,0,0,0,0,0,0,0,1,0,0,0,0,1,0]
def F9 (O:Alg) (x:Ags O):O.M:=let u5:=(lq9 O 0);let u4:=(lq9 O 1);let u3:=(O.u .i64 (x.I 43) u4);let u2:=(O.r u3 (lq9 O 2));let u1:=(O.e u3 u4);(O.c (O.f 78 [] (xr x kI 14)) fun c0=>let u0:=(O.p .i64 (O.ai u1 (O.d c0 26) (O.d c0 25)) u4);(O.j (O.h (O.af (O.h (O.h (x.B 32))) (O.h u2))) (O.b (O.i (O.h (x.B 32)) O.m (O.z (x.I 11) (O.ai u1 (x.I 40) (x.I 39)))) (O.a (ap O (cr O c0 kI 0) [.int (lq9 O 24)])) (O.b (O.h (x.B 46)) (O.j u2 (O.j u2 (O.a (ap O (cr O c0 [0,0,0,0,0,0,0,0,0,0,0,0,0,0,3,0,3,3,1,3,1,0,0,0,3] 0) [.int (O.ai (O.e u3 u5) u0 (O.d c0 25)),.int (O.ai u1 u0 (O.d c0 26)),.int (O.d c0 27),.int u5])))) (O.a (ap O (cr O c0 kI 0) [.int u5]))))))
def Ks:Nat→Env:=eL [(78,Aa)]
theorem Gx {N ls}:Ks N 78 [] ls=Aa N ls:=id rfl
def F3:=oS S9 F9 Ks
def Uz:List Nat:=[2,0,0,0,0,0,0,0,1,0,0,0,0,3,0,0,0,0,0,0,0,0,0,0,0,0,0,0,3,0,3,3,1,3,1,0,0,0,3,0,0,0]
def U6 (O:Alg) (x:Ags O):O.M:=(O.a [.int (O.p .i64 (O.al .i64 (x.I 24) (x.I 4)) (x.I 25))])
def cA:Nat→Env:=eL []
def HU:=oS Uz U6 cA
def UG:List Nat:=[2,0,0,0,0,0,0,0,1,0,0,0,0,3,0,0,0,0,0,0,0,0,0,0,0,0,0,0,3,0,3,3,1,3,1,0,0,0,3,0,0,0,0,0,0,0,1,0,0,0,0,0,0,0,1,0,0,0,0,1,0]
def Is (O:Alg) (x:Ags O):O.M:=let u4:=(lq9 O 0);let u3:=(lq9 O 25);let u2:=(O.o (x.I 3) (x.I 48));let u1:=(O.o u4 (x.I 47));let u0:=(O.o u4 (x.I 48));(O.c (O.f 78 [] (xr x kI 14)) fun c0=>(O.b (O.i (O.e (x.I 3) u4) O.m (O.i (O.e (x.I 47) u4) (O.e (x.I 48) u4) O.g)) (O.a (ap O (cr O c0 kI 0) [.int u3])) (O.b (O.i u1 (O.i (O.e (x.I 15) u4) O.m (O.z (x.I 47) (x.I 17))) O.g) (O.a (ap O (cr O c0 kI 0) [.int u3])) (O.c (O.b (O.af u0 (O.h u2)) (O.f 154 [] (xr x [2,0,0,0,0,0,0,0,1,0,0,0,0,3,0,0,0,0,0,0,0,0,0,0,0,0,0,0,3,0,3,3,1,3,1,0,0,0,3,0,0,0] 0)) (O.a [.int u4])) fun c1=>(O.b (O.i u0 (O.i u2 O.m (O.o (O.al .i64 (x.I 48) (x.I 4)) (O.d c1 0))) O.g) (O.a (ap O (cr O c0 kI 0) [.int u3])) (O.c (O.b u1 (O.a (ap O [.int (O.d c0 0),.int (x.I 47)] (cr O c0 [0,0,0,0,0,0,0,0,0,0,0,0,3,0,3,3,1,3,1,0,0,0,3,0,0,0] 2))) (O.a (cr O c0 kI 0))) fun c2=>(O.b u0 (O.a (ap O [.int (O.d c2 0),.int (O.d c2 1),.int (x.I 48)] (ap O (cr O c2 [0,0,0,0,0,0,0,0,0,0,0,3,0,3,3,1,3,1,0,0,0,3,0,0,0] 3) [.int u4]))) (O.a (ap O (cr O c2 kI 0) [.int u4])))))))))
def HD:Nat→Env:=eL [(78,Aa),(154,HU)]
theorem Om {N ls}:HD N 78 [] ls=Aa N ls:=id rfl
theorem N9 {N ls}:HD N 154 [] ls=HU N ls:=id rfl
def Fn:=oS UG Is HD
def R7:List Nat:=[2,0,0,0,0,0,0,0,1,0,0,0,0,3,0,0,0,0,0,0,0,0,0,0,0,0,0,0,3,0,3,3,1,3,1,0,0,0,3,0,0,0,0,0,0,0,1,0,0,0,0,0,0,0,1,0,0,0,0,1,0]
def FT (O:Alg) (x:Ags O):O.M:=(O.b (O.e (x.I 42) (O.lit .u8 2)) (O.c (O.f 119 [] (ap O (xr x kI 14) [.int (x.I 44),.int (x.I 45)])) fun c0=>(O.a (cr O c0 [0,0,0,0,0,0,0,0,0,0,0,0,0,0,3,0,3,3,1,3,1,0,0,0,3,0,0,0,0] 0))) (O.b (O.e (x.I 42) (O.lit .u8 3)) (O.c (O.f 120 [] (ap O (xr x [2,0,0,0,0,0,0,0,1,0,0,0,0,3,0,0,0,0,0,0,0,0,0,0,0,0,0,0,3,0,3,3,1,3,1,0,0,0,3,0,0,0] 0) [.int (x.I 44)])) fun c0=>(O.a (cr O c0 [0,0,0,0,0,0,0,0,0,0,0,0,0,0,3,0,3,3,1,3,1,0,0,0,3,0,0,0,0] 0))) (O.b (O.e (x.I 42) (O.lit .u8 4)) (O.c (O.f 121 [] (ap O (xr x [2,0,0,0,0,0,0,0,1,0,0,0,0,3,0,0,0,0,0,0,0,0,0,0,0,0,0,0,3,0,3,3,1,3,1,0,0,0,3,0,0,0] 0) (xr x [0,0,0,0,0,1,0,0,0,0,1,0] 49))) fun c0=>(O.a (cr O c0 [0,0,0,0,0,0,0,0,0,0,0,0,0,0,3,0,3,3,1,3,1,0,0,0,3,0,0,0,0] 0))) (O.b (O.e (x.I 42) (O.lit .u8 5)) (O.b (x.B 46) (O.c (O.f 122 [] (ap O (xr x kI 14) [.int (x.I 44)])) fun c0=>(O.a (cr O c0 [0,0,0,0,0,0,0,0,0,0,0,0,0,0,3,0,3,3,1,3,1,0,0,0,3,0,0,0,0] 0))) (O.c (O.f 123 [] (ap O (xr x kI 14) [.int (x.I 44)])) fun c0=>(O.a (cr O c0 [0,0,0,0,0,0,0,0,0,0,0,0,0,0,3,0,3,3,1,3,1,0,0,0,3,0,0,0,0] 0)))) (O.b (O.e (x.I 42) (O.lit .u8 6)) (O.c (O.f 124 [] (ap O (xr x kI 14) [.int (x.I 44),.bool (x.B 46)])) fun c0=>(O.a (cr O c0 [0,0,0,0,0,0,0,0,0,0,0,0,0,0,3,0,3,3,1,3,1,0,0,0,3,0,0,0,0] 0))) (O.b (O.e (x.I 42) (O.lit .u8 7)) (O.c (O.f 125 [] (ap O (xr x kI 14) [.int (x.I 47)])) fun c0=>(O.a (cr O c0 [0,0,0,0,0,0,0,0,0,0,0,0,0,0,3,0,3,3,1,3,1,0,0,0,3,0,0,0,0] 0))) (O.b (O.e (x.I 42) (O.lit .u8 8)) (O.c (O.f 126 [] (ap O (xr x kI 14) [.int (x.I 44)])) fun c0=>(O.a (cr O c0 [0,0,0,0,0,0,0,0,0,0,0,0,0,0,3,0,3,3,1,3,1,0,0,0,3,0,0,0,0] 0))) (O.b (O.e (x.I 42) (O.lit .u8 9)) (O.c (O.f 127 [] (ap O (xr x kI 14) [.int (x.I 44),.bool (x.B 46)])) fun c0=>(O.a (cr O c0 [0,0,0,0,0,0,0,0,0,0,0,0,0,0,3,0,3,3,1,3,1,0,0,0,3,0,0,0,0] 0))) (O.b (O.e (x.I 42) (O.lit .u8 10)) (O.c (O.f 128 [] (xr x [2,0,0,0,0,0,0,0,1,0,0,0,0,3,0,0,0,0,0,0,0,0,0,0,0,0,0,0,3,0,3,3,1,3,1,0,0,0,3,0,0,0] 0)) fun c0=>(O.a (cr O c0 [0,0,0,0,0,0,0,0,0,0,0,0,0,0,3,0,3,3,1,3,1,0,0,0,3,0,0,0,0] 0))) (O.b (O.e (x.I 42) (O.lit .u8 11)) (O.c (O.f 129 [] (xr x [2,0,0,0,0,0,0,0,1,0,0,0,0,3,0,0,0,0,0,0,0,0,0,0,0,0,0,0,3,0,3,3,1,3,1,0,0,0,3,0,0,0,0,0,0,0,1,0,0,0,0,0,0,0,1,0,0,0,0,1,0] 0)) fun c0=>(O.a (cr O c0 [0,0,0,0,0,0,0,0,0,0,0,0,0,0,3,0,3,3,1,3,1,0,0,0,3,0,0,0,0] 0))) (O.b (O.e (x.I 42) (O.lit .u8 13)) (O.c (O.f 130 [] (xr x [0,0,0,0,0,0,0,0,0,0,0,0,0,0,3,0,3,3,1,3,1,0,0,0,3,0,0,0,0,0,0,0,1,0,0,0,0,0,0,0,1,0,0,0,0,1,0] 14)) fun c0=>(O.a (cr O c0 [0,0,0,0,0,0,0,0,0,0,0,0,0,0,3,0,3,3,1,3,1,0,0,0,3,0,0,0,0] 0))) (O.b (O.e (x.I 42) (O.lit .u8 14)) (O.c (O.f 131 [] (xr x [2,0,0,0,0,0,0,0,1,0,0,0,0,3,0,0,0,0,0,0,0,0,0,0,0,0,0,0,3,0,3,3,1,3,1,0,0,0,3,0,0,0,0,0,0,0,1,0,0,0,0,0,0,0,1,0,0,0,0,1,0] 0)) fun c0=>(O.a (cr O c0 [0,0,0,0,0,0,0,0,0,0,0,0,0,0,3,0,3,3,1,3,1,0,0,0,3,0,0,0,0] 0))) (O.c (O.f 132 [] (xr x [2,0,0,0,0,0,0,0,1,0,0,0,0,3,0,0,0,0,0,0,0,0,0,0,0,0,0,0,3,0,3,3,1,3,1,0,0,0,3,0,0,0,0,0,0,0,1,0,0,0,0,0,0,0,1,0,0,0,0,1,0] 0)) fun c0=>(O.a (cr O c0 [0,0,0,0,0,0,0,0,0,0,0,0,0,0,3,0,3,3,1,3,1,0,0,0,3,0,0,0,0] 0)))))))))))))))
def Au:Nat→Env:=eL [(119,Jn),(120,Kp),(121,H9),(122,GA),(123,ID),(124,Gl),(125,HN),(126,IB),(127,En),(128,G1),(129,FR),(130,FO),(131,F3),(132,Fn)]
theorem Hg {N ls}:Au N 119 [] ls=Jn N ls:=id rfl
theorem H0 {N ls}:Au N 120 [] ls=Kp N ls:=id rfl
theorem HQ {N ls}:Au N 121 [] ls=H9 N ls:=id rfl
theorem Ft {N ls}:Au N 122 [] ls=GA N ls:=id rfl
theorem G9 {N ls}:Au N 123 [] ls=ID N ls:=id rfl
theorem GR {N ls}:Au N 124 [] ls=Gl N ls:=id rfl
theorem GU {N ls}:Au N 125 [] ls=HN N ls:=id rfl
theorem HO {N ls}:Au N 126 [] ls=IB N ls:=id rfl
theorem FJ {N ls}:Au N 127 [] ls=En N ls:=id rfl
theorem GT {N ls}:Au N 128 [] ls=G1 N ls:=id rfl
theorem Fd {N ls}:Au N 129 [] ls=FR N ls:=id rfl
theorem Fg {N ls}:Au N 130 [] ls=FO N ls:=id rfl
theorem Fq {N ls}:Au N 131 [] ls=F3 N ls:=id rfl
theorem GD {N ls}:Au N 132 [] ls=Fn N ls:=id rfl
def FL:=oS R7 FT Au
def TU:List Nat:=[2,0,0,0,0,0,0,0,1,0,0,0,0,3,0,0,0,0,0,0,0,0,0,0,0,0,0,0,3,0,3,3,1,3,1,0,0,0,3,0,0,0]
def I2 (O:Alg) (x:Ags O):O.M:=let u0:=(lq9 O 0);(O.c (O.f 72 [] (xr x [2,0,0,0,0,0,0,0,1,0,0,0,0,3,0,0,0,0,0,0,0,0,0,0,0,0,0,0,3,0,3,3,1,3,1,0,0,0,3,0,0,0] 0)) fun c0=>(O.b (O.h (O.q c0 0)) (O.a [.int (O.lit .u8 0)]) (O.b (O.i (O.o u0 (x.I 15)) (O.z (x.I 15) (x.I 17)) O.g) (O.a [.int (O.lit .u8 3)]) (O.c (O.f 133 [] (xr x kI 14)) fun c1=>(O.c (O.b (O.q c1 0) (O.f 134 [] (xr x kI 14)) (O.a [.rows O.y])) fun c2=>(O.b (O.i (O.q c1 0) (O.e (O.l (O.k c2 0)) u0) O.g) (O.a [.int (O.lit .u8 1)]) (O.b (O.i (O.o u0 (x.I 16)) (O.z (x.I 16) (x.I 24)) O.g) (O.a [.int (O.lit .u8 2)]) (O.a [.int (O.lit .u8 0)]))))))))
def Eh:Nat→Env:=eL [(72,Bm),(133,Bn),(134,Dd)]
def EN:=oS TU I2 Eh
def We:List Nat:=[2,0,0,0,0,0,0,0,1,0,0,0,0,3,0,0,0,0,0,0,0,0,0,0,0,0,0,0,3,0,3,3,1,3,1,0,0,0,3,0,0,0,0,0,0,0,1,0,0,0,0,0,0,0,1,0,0,0,0,1,0]
def Lh (O:Alg) (x:Ags O):O.M:=let u1:=(lq9 O 0);(O.c (O.f 72 [] (xr x [2,0,0,0,0,0,0,0,1,0,0,0,0,3,0,0,0,0,0,0,0,0,0,0,0,0,0,0,3,0,3,3,1,3,1,0,0,0,3,0,0,0] 0)) fun c0=>let u0:=(O.h (O.q c0 0));(O.c (O.b (O.h u0) (O.f 50 [] (xr x [0,0,0,0,1,0,0,0,0,0,0,0,1,0,0,0,0,1,0] 42)) (O.a [.int u1])) fun c1=>(O.b (O.i u0 O.m (O.h (O.e (O.d c1 0) u1))) (O.c (O.f 78 [] (xr x kI 14)) fun c2=>(O.a (ap O (cr O c2 kI 0) [.int (lq9 O 1)]))) (O.b (O.h (O.e (x.I 41) (O.lit .u8 0))) (O.c (O.f 78 [] (xr x kI 14)) fun c2=>(O.a (ap O (cr O c2 kI 0) [.int (lq9 O 26)]))) (O.c (O.b (O.h (O.i (O.i (O.e (x.I 42) (O.lit .u8 1)) O.m (O.e (x.I 42) (O.lit .u8 12))) O.m (O.e (x.I 42) (O.lit .u8 16)))) (O.f 109 [] (xr x kI 14)) (O.a [.bool O.g])) fun c2=>(O.b (O.i (O.i (O.i (O.e (x.I 42) (O.lit .u8 1)) O.m (O.e (x.I 42) (O.lit .u8 12))) O.m (O.e (x.I 42) (O.lit .u8 16))) O.m (O.i (O.h (O.q c2 0)) (O.h (O.e (x.I 42) (O.lit .u8 2))) O.g)) (O.c (O.f 78 [] (xr x kI 14)) fun c3=>(O.a (ap O (cr O c3 kI 0) [.int (lq9 O 1)]))) (O.c (O.f 110 [] (xr x [2,0,0,0,0,0,0,0,1,0,0,0,0,3,0,0,0,0,0,0,0,0,0,0,0,0,0,0,3,0,3,3,1,3,1,0,0,0,3,0,0,0,0,0,0,0,1,0,0,0,0,0,0,0,1,0,0,0,0,1,0] 0)) fun c3=>(O.b (O.h (O.e (O.d c3 28) u1)) (O.c (O.f 78 [] (xr x kI 14)) fun c4=>(O.a (ap O (cr O c4 kI 0) [.int (O.d c3 28)]))) (O.b (O.e (O.d c3 27) (O.lit .u8 0)) (O.c (O.f 111 [] (ap O (xr x kR 0) (ap O (cr O c3 [0,0,0,0,0,0,0,0,0,0,0,0,0,0,3,0,3,3] 0) (ap O [.bool (O.e (x.I 42) (O.lit .u8 4))] (cr O c3 [3,1,0,0,0,3,0,0,0] 19))))) fun c4=>(O.a (ap O (cr O c3 [0,0,0,0,0,0,0,0,0,0,0,0,0,0,3,0,3,3] 0) (ap O [.bool (O.e (x.I 42) (O.lit .u8 4))] (ap O (cr O c3 [3,1,0,0,0,3,0,0] 19) [.int (O.d c4 0),.int u1]))))) (O.a (ap O (cr O c3 [0,0,0,0,0,0,0,0,0,0,0,0,0,0,3,0,3,3] 0) (ap O [.bool (O.e (x.I 42) (O.lit .u8 4))] (ap O (cr O c3 [3,1,0,0,0,3,0,0,0] 19) [.int u1])))))))))))))
def C6:Nat→Env:=eL [(50,D6),(72,Bm),(78,Aa),(109,HJ),(110,FL),(111,EN)]
theorem RL {N ls}:C6 N 50 [] ls=D6 N ls:=id rfl
theorem QC {N ls}:C6 N 72 [] ls=Bm N ls:=id rfl
theorem QH {N ls}:C6 N 78 [] ls=Aa N ls:=id rfl
theorem PY {N ls}:C6 N 109 [] ls=HJ N ls:=id rfl
theorem HI {N ls}:C6 N 110 [] ls=FL N ls:=id rfl
theorem Hh {N ls}:C6 N 111 [] ls=EN N ls:=id rfl
def IC:=oS We Lh C6
def ZS:List Nat:=[2,0,0,0,0,0,0,0,1,0,0,0,0,3,0,0,1,3,0,0,0,0,0,0,0,0,0,1,0,0,0,0,0,0,0,1,0,0,0,0,1,0]
def Oe (O:Alg) (x:Ags O):O.M:=let u23:=(lq9 O 2);let u22:=(lq9 O 1);let u21:=(lq9 O 0);let u17:=(O.u .i64 (x.I 24) u22);let u11:=(O.r u17 u23);let u10:=(O.e u17 u22);(O.c (O.f 49 [] (xr x kM 0)) fun c0=>let u20:=(O.h (O.q c0 0));(O.c (O.b (O.h u20) (O.f 50 [] (xr x [0,0,0,0,1,0,0,0,0,0,0,0,1,0,0,0,0,1,0] 23)) (O.a [.int u21])) fun c1=>(O.b (O.i u20 O.m (O.h (O.e (O.d c1 0) u21))) (O.c (O.f 51 [] (xr x kM 0)) fun c2=>(O.a (ap O (cr O c2 kM 0) [.int u22]))) (O.b (O.e (x.I 14) (O.lit .u8 5)) (O.c (O.f 51 [] (xr x kM 0)) fun c2=>(O.a (ap O (cr O c2 kM 0) [.int (lq9 O 26)]))) (O.c (O.f 51 [] (xr x kM 0)) fun c2=>let u28:=(O.d c2 15);let u27:=(O.d c2 18);let u26:=(O.d c2 19);let u25:=(O.d c2 14);let u24:=(O.k c2 17);let u19:=(O.l u24);let u12:=(O.u .i64 u19 u22);let u4:=(O.r u12 u19);let u0:=(O.p .i64 (O.ai u10 u26 u27) (lq9 O 5));(O.c (O.b (O.e (x.I 23) (O.lit .u8 1)) (O.b (O.h (O.e u25 (O.lit .u8 1))) (O.a (ap O [.int u22] (cr O c2 kM 0))) (O.c (O.f 79 [] [.int (x.I 24)]) fun c3=>(O.b (x.B 27) (O.a (ap O [.int u21] (ap O (cr O c2 kR 0) (ap O [.int (O.lit .u8 2),.int (x.I 24)] (cr O c2 [1,3,0,0,0,0,0] 16))))) (O.a (ap O [.int u21] (ap O (cr O c2 kR 0) (ap O [.int (O.lit .u8 2),.int (O.d c3 0)] (cr O c2 [1,3,0,0,0,0,0] 16)))))))) (O.b (O.e (x.I 23) (O.lit .u8 2)) (O.c (O.b (O.h (O.e u25 (O.lit .u8 2))) (O.a (ap O [.int u22] (cr O c2 kM 0))) (O.c (O.f 73 [] (ap O (cr O c2 kM 0) [.int u19])) fun c3=>let u16:=(O.u .i64 (O.d c3 0) u22);let u9:=(O.e u16 u22);let u8:=(O.r u16 u23);(O.c (O.f 100 [] (ap O (cr O c2 kM 0) [.int (O.d c3 0)])) fun c4=>(O.j u8 (O.c (O.f 99 [] (ap O (cr O c2 kR 0) [.int (O.d c3 0),.int (O.d c4 0),.int (O.ai u9 u26 u27)])) fun c5=>(O.b (O.h (O.e (O.d c5 28) u21)) (O.a (ap O [.int u22] (cr O c2 kM 0))) (O.c (O.f 101 [] (ap O (cr O c2 kR 0) (ap O (cr O c5 kI 0) (xr x [0,0,0,0,1,0,0,0,0,0,0,0,1,0,0,0,0,1,0] 23)))) fun c6=>let u14:=(O.ae u24 (O.ab [(cr O c6 kI 0)]));(O.b (O.h (O.e (O.d c6 28) u21)) (O.a (ap O [.int (O.d c6 28)] (cr O c2 kM 0))) (O.j u8 (O.j (O.t (O.l u14) 304) (O.a (ap O [.int u21] (ap O (cr O c2 kR 0) (ap O [.int (O.lit .u8 3),.int u28,.bool (O.q c2 16),.rows u14,.int (O.ai (O.e u16 u21) u21 u27),.int (O.ai u9 u21 u26)] (cr O c2 [0,0,0] 20))))))))))))))) fun c3=>(O.a (cr O c3 [0,2,0,0,0,0,0,0,0,1,0,0,0,0,3,0,0,1,3,0,0,0,0,0] 0))) (O.b (O.e (x.I 23) (O.lit .u8 12)) (O.b (O.h (O.e u25 (O.lit .u8 4))) (O.a (ap O [.int u22] (cr O c2 kM 0))) (O.b (O.h (O.e (x.I 24) u28)) (O.a (ap O [.int u23] (cr O c2 kM 0))) (O.a (ap O [.int u21] (ap O (cr O c2 kR 0) (ap O [.int (O.lit .u8 2),.int u28,.bool (x.B 27)] (cr O c2 [3,0,0,0,0,0] 17))))))) (O.b (O.e (x.I 23) (O.lit .u8 16)) (O.c (O.b (O.e u25 (O.lit .u8 3)) (O.j u4 (O.a (ap O (cr O c2 [2,0,0,0,0,0,0,0,1,0,0,0,0,3,0,0,1] 0) (ap O [.rows (O.v u24 u12 27 [.int (O.lit .u8 5)])] (cr O c2 [0,0,0,0,0] 18))))) (O.a (cr O c2 kM 0))) fun c3=>(O.c (O.f 102 [] (cr O c3 kR 0)) fun c4=>(O.a (ap O [.int u21] (ap O (cr O c3 kR 0) (ap O [.int (O.lit .u8 5)] (ap O (cr O c3 [0,1,3,0,0] 15) [.int (O.d c4 0),.int u21,.int u21]))))))) (O.c (O.b (O.h (O.e u25 (O.lit .u8 3))) (O.a (ap O [.int u22] (cr O c2 kM 0))) (O.j u4 (O.c (O.f 101 [] (ap O (cr O c2 kR 0) (ap O (rr O u24 u12 kI 0) (xr x [0,0,0,0,1,0,0,0,0,0,0,0,1,0,0,0,0,1,0] 23)))) fun c3=>let u3:=(O.v u24 u12 0 (cr O c3 kI 0));let u2:=(O.l u3);(O.b (O.h (O.e (O.d c3 28) u21)) (O.a (ap O [.int (O.d c3 28)] (cr O c2 kM 0))) (O.j u4 (O.b (O.i (O.e (x.I 23) (O.lit .u8 13)) (O.h (O.e (x.I 24) (O.d c3 0))) O.g) (O.c (O.c (O.w (fun s4 c4=>let u30:=(O.d c4 0);let u1:=(O.r u30 u2);(O.b (O.z u21 u30) (O.j u1 (O.b (O.e (O.n u3 u30 0) (x.I 24)) (O.j u1 (O.c (O.f 112 [] (rr O u3 u30 kI 0)) fun c5=>(O.j u1 (O.a (ap O [.int u21] (ap O (cr O c2 [2,0,0,0,0,0,0,0,1,0,0,0,0,3,0,0,1] 0) (ap O [.rows (O.v u3 u30 0 (cr O c5 kI 0))] (cr O c2 [0,0,0,0,0] 18)))))))) (s4 [.int (O.u .i64 u30 u22)]))) (O.a [.int u22]))) [.int (O.u .i64 u2 u22)]) fun c4=>(O.b (O.ac c4 0) (O.a (cr O c4 kM 1)) (O.j u11 (O.j u11 (O.a (ap O (cr O c2 [2,0,0,0,0,0,0,0,1,0,0,0,0,3,0,0,1] 0) (ap O [.rows u3,.int (O.ai (O.e u17 u21) u0 u27),.int (O.ai u10 u0 u26)] (cr O c2 [0,0,0] 20)))))))) fun c4=>(O.a (ap O [.int u21] (cr O c4 kM 0)))) (O.a (ap O [.int u21] (ap O (cr O c2 [2,0,0,0,0,0,0,0,1,0,0,0,0,3,0,0,1] 0) (ap O [.rows u3] (cr O c2 [0,0,0,0,0] 18))))))))))) fun c3=>(O.a (cr O c3 [0,2,0,0,0,0,0,0,0,1,0,0,0,0,3,0,0,1,3,0,0,0,0,0] 0))))))) fun c3=>let u29:=(O.k c3 18);let u18:=(O.l u29);let u15:=(O.e u18 (lq9 O 3));let u13:=(O.u .i64 u18 u22);let u7:=(O.e u18 (O.al .i64 u23 (O.d c3 3)));let u6:=(O.n u29 u13 0);let u5:=(O.r u13 u18);(O.b (O.h (O.e (O.d c3 0) u21)) (O.c (O.f 51 [] (xr x kM 0)) fun c4=>(O.a (ap O (cr O c4 kM 0) [.int (O.d c3 0)]))) (O.c (O.j (O.h (O.af (O.h (O.h (O.e (O.d c3 15) (O.lit .u8 3)))) (O.h u5))) (O.b (O.i (O.h (O.e (O.d c3 15) (O.lit .u8 3))) O.m (O.e (O.n u29 u13 27) (O.lit .u8 0))) (O.a (cr O c3 kM 1)) (O.j u5 (O.c (O.f 83 [] (ap O (cr O c3 kM 1) [.int (O.d c3 16)])) fun c4=>(O.c (O.f 79 [] [.int (O.d c3 16)]) fun c5=>(O.c (O.f 83 [] (ap O (cr O c3 kM 1) [.int (O.d c5 0)])) fun c6=>(O.c (O.b u7 (O.a [.bool u7]) (O.c (O.b u15 (O.f 83 [] (ap O (cr O c3 kR 1) (ap O [.int (O.lit .u8 2)] (ap O (cr O c3 [0,1,3,0,0,0,0,0] 16) [.int u6])))) (O.a [.int u21])) fun c7=>(O.c (O.b u15 (O.f 79 [] [.int u6]) (O.a [.int u21])) fun c8=>(O.c (O.b u15 (O.f 83 [] (ap O (cr O c3 kR 1) (ap O [.int (O.lit .u8 2)] (ap O (cr O c3 [0,1,3,0,0,0,0,0] 16) [.int (O.d c8 0)])))) (O.a [.int u21])) fun c9=>(O.a [.bool (O.i u15 (O.o (O.d c7 0) (O.d c9 0)) O.g)]))))) fun c7=>(O.b (O.q c7 0) (O.c (O.f 84 [] (ap O (cr O c3 kR 1) (ap O [.int (O.lit .u8 5)] (cr O c3 [0,1,3,0,0,0,0,0] 16)))) fun c8=>(O.a (ap O (cr O c3 kR 1) (ap O [.int (O.lit .u8 5)] (ap O (cr O c3 [0,1,3,0,0] 16) (cr O c8 [0,0,0] 0)))))) (O.b (O.i (O.i (O.e u18 u23) (O.o u21 (O.d c3 11)) O.g) (O.z (O.d c3 11) (O.u .i64 (O.d c4 0) (O.d c6 0))) O.g) (O.a (ap O (cr O c3 kR 1) (ap O [.int (O.lit .u8 4)] (cr O c3 [0,1,3,0,0,0,0,0] 16)))) (O.a (ap O (cr O c3 kR 1) (ap O [.int (O.lit .u8 2)] (cr O c3 [0,1,3,0,0,0,0,0] 16))))))))))))) fun c4=>(O.a (ap O (cr O c4 kM 0) [.int u21]))))))))))
def BX:Nat→Env:=eL [(49,D5),(50,D6),(51,Jk),(73,D8),(79,Bl),(83,Cd),(84,Gq),(99,Gw),(100,IW),(101,IC),(102,CU),(112,Cs)]
theorem UA {N ls}:BX N 49 [] ls=D5 N ls:=id rfl
theorem Tg {N ls}:BX N 50 [] ls=D6 N ls:=id rfl
theorem To {N ls}:BX N 51 [] ls=Jk N ls:=id rfl
theorem GF {N ls}:BX N 73 [] ls=D8 N ls:=id rfl
theorem F5 {N ls}:BX N 79 [] ls=Bl N ls:=id rfl
theorem Kx {N ls}:BX N 83 [] ls=Cd N ls:=id rfl
theorem JP {N ls}:BX N 84 [] ls=Gq N ls:=id rfl
theorem FC {N ls}:BX N 99 [] ls=Gw N ls:=id rfl
theorem FV {N ls}:BX N 100 [] ls=IW N ls:=id rfl
theorem Dq {N ls}:BX N 101 [] ls=IC N ls:=id rfl
theorem D9 {N ls}:BX N 102 [] ls=CU N ls:=id rfl
theorem IZ {N ls}:BX N 112 [] ls=Cs N ls:=id rfl
def OI:=oS ZS Oe BX
def XT:List Nat:=[2,0,0,0,0,0,0,0,1,0,0,0,0,3,0,0,1,3,0,0,0,0,0,0,0,0,0,0,1,0,0,0,0,0,0,0,1,0,0,0,0,1,0]
def Ox (O:Alg) (x:Ags O):O.M:=(O.b (O.z (lq9 O 4000) (x.I 23)) (O.a (ap O (xr x kM 0) [.int (lq9 O 26)])) (O.c (O.f 39 [] (ap O (xr x kM 0) (xr x [0,0,0,0,1,0,0,0,0,0,0,0,1,0,0,0,0,1,0] 24))) fun c0=>(O.a (cr O c0 [2,0,0,0,0,0,0,0,1,0,0,0,0,3,0,0,1,3,0,0,0,0,0,0] 0))))
def H8 (N:Nat):Env:=fun f fns ls=>(cond (Nat.beq f 39&&AQ fns []) (OI N ls) none)
theorem WH {N ls}:H8 N 39 [] ls=OI N ls:=id rfl
def Oc:=oS XT Ox H8
def U5:List Nat:=[0,2,0,0,0,0,0,0,0,1,0,0,0,0,3,0,0,1,3,0,0,0,0,0,2,0,0,0,0,0,0,0,1,0,0,0,0,3,0,0,1,3,0,0,0,0,0,0,0,0,0,0,1,0,0,0,0,1,0]
def KI (O:Alg) (x:Ags O):O.M:=let u0:=(O.u .i64 (O.l (x.L 18)) (lq9 O 1));(O.j (O.r u0 (O.l (x.L 18))) (O.j (O.r u0 (O.l (x.L 41))) (O.c (O.f 40 [] (ap O (xr x kR 1) (xr x [0,0,0,0,0,1,0,0,0,0,1,0] 47))) fun c0=>(O.a (ap O [.int (x.I 0),.int u0,.int (O.n (x.L 18) u0 10),.int (O.n (x.L 18) u0 11),.int (O.n (x.L 18) u0 15),.int (O.n (x.L 18) u0 12),.int (O.n (x.L 18) u0 13),.bool (O.rB (x.L 18) u0 20)] (ap O (xr x [0,0,0,0,0,1,0,0,0,0,1,0] 47) (ap O (cr O c0 [0,0,0,0,0,0,1,1,1,1] 0) [.int (O.n (x.L 41) u0 3),.int (O.n (x.L 41) u0 4)])))))))
def L8:Nat→Env:=eL [(40,A6)]
theorem Nv {N ls}:L8 N 40 [] ls=A6 N ls:=id rfl
def KP:=oS U5 KI L8
def YK:List Nat:=[2,0,0,0,0,0,0,0,1,0,0,0,0,3,3]
def OL (O:Alg) (x:Ags O):O.M:=let u3:=(lq9 O 1);let u2:=(lq9 O 0);(O.c (O.f 29 [] (xr x kR 0)) fun c0=>(O.b (O.h (O.e (O.d c0 23) u2)) (O.a [.rows O.y,.str (O.s ⟨#[]⟩),.int u2,.int u2,.int u2,.int u2,.int u2,.int u2,.int u2,.bool O.g,.int u2,.int u2,.int u2,.int u2,.rows O.y,.int (O.lit .u8 0),.int u2,.bool O.g,.rows O.y,.int u2,.int u2,.int (O.lit .u8 0),.int u2,.int u2,.int u2,.int u3]) (O.c (O.w (fun s1 c1=>let u5:=(O.k c1 0);let u4:=(O.d c1 1);let u1:=(O.p .i64 u4 u3);(O.b (O.o u4 (O.l (x.L 14))) (O.j (O.r u4 (O.l (x.L 14))) (O.c (O.f 30 [] (ap O (cr O c1 kM 2) (ap O [.int u4] (rr O (x.L 14) u4 [0,0,0,0,1,0,0,0,0,0,0,0,1,0,0,0,0,1,0] 0)))) fun c2=>(O.b (O.h (O.e (O.d c2 23) u2)) (O.a (ap O [.int u2,.rows u5,.int u4,.int (O.d c2 23)] (cr O c1 kM 2))) (O.b (O.e (O.n (x.L 14) u4 0) (O.lit .u8 4)) (O.c (O.f 31 [] (ap O (cr O c1 [0,2,0,0,0,0,0,0,0,1,0,0,0,0,3,0,0,1,3,0,0,0,0,0] 1) (ap O (cr O c2 kM 0) (rr O (x.L 14) u4 [0,0,0,0,0,1,0,0,0,0,1,0] 7)))) fun c3=>let u0:=(O.ae u5 (O.ab [(cr O c3 [0,0,0,0,0,0,0,1,0,0,0,0,0,1,0,0,0,0,1,0,0,0,0,0,0,0,1,1,1,1,0,0] 0)]));(O.j (O.t (O.l u0) 216) (s1 (ap O [.rows u0,.int u1] (cr O c2 kM 0))))) (s1 (ap O [.rows u5,.int u1] (cr O c2 kM 0))))))) (O.a (ap O [.int u3,.rows u5] (cr O c1 kM 2))))) (ap O [.rows O.y,.int u2] (cr O c0 kM 0))) fun c1=>(O.b (O.ac c1 0) (O.a (ap O [.rows (O.k c1 1)] (ap O (cr O c1 kM 4) [.int (O.d c1 2),.int (O.d c1 3)]))) (O.a (ap O (cr O c1 [3,2,0,0,0,0,0,0,0,1,0,0,0,0,3,0,0,1,3,0,0,0,0,0] 1) [.int (lq9 O (-1)),.int u2]))))))
def Em (N:Nat):Env:=fun f fns ls=>(cond (Nat.beq f 29&&AQ fns []) (QV N ls) (cond (Nat.beq f 30&&AQ fns []) (Oc N ls) (cond (Nat.beq f 31&&AQ fns []) (KP N ls) none)))
theorem Xb {N ls}:Em N 29 [] ls=QV N ls:=id rfl
theorem PS {N ls}:Em N 30 [] ls=Oc N ls:=id rfl
theorem KZ {N ls}:Em N 31 [] ls=KP N ls:=id rfl
def CY:=oS YK OL Em
def T1:List Nat:=[2,0,0,0,0,0,0,0,1,0,0,0,0,3,3]
def Kr (O:Alg) (x:Ags O):O.M:=(O.c (O.f 14 [] (xr x [2,0,0,0,0,0,0,0,1,0,0,0,0,3,3] 0)) fun c0=>(O.a (cr O c0 [2,0,0,0,0,0,0,0,1,0,0,0,0,3,0,0,1,3,0,0,0,0,0,0,0] 1)))
def Fl (N:Nat):Env:=fun f fns ls=>(cond (Nat.beq f 14&&AQ fns []) (CY N ls) none)
theorem Wk {N ls}:Fl N 14 [] ls=CY N ls:=id rfl
def DU:=oS T1 Kr Fl
def Vu:List Nat:=[2,0,0,0,0,0,0,0,1,0,0,0,0,3,3]
def MN (O:Alg) (x:Ags O):O.M:=let u0:=(lq9 O 0);(O.c (O.f 32 [] (xr x kR 0)) fun c0=>(O.b (O.h (O.e (O.d c0 0) u0)) (O.a [.int (O.d c0 0)]) (O.b (O.o (lq9 O 4000) (O.l (x.L 14))) (O.a [.int (lq9 O 9)]) (O.c (O.f 6 [] (xr x [2,0,0,0,0,0,0,0,1,0,0,0,0,3,3] 0)) fun c1=>(O.b (O.h (O.e (O.d c1 24) u0)) (O.a [.int (lq9 O 10)]) (O.a [.int u0]))))))
def E4 (N:Nat):Env:=fun f fns ls=>(cond (Nat.beq f 6&&AQ fns []) (DU N ls) (cond (Nat.beq f 32&&AQ fns []) (Ab N ls) none))
theorem WG {N ls}:E4 N 6 [] ls=DU N ls:=id rfl
theorem Ug {N ls}:E4 N 32 [] ls=Ab N ls:=id rfl
def Cm:=oS Vu MN E4
def WK:List Nat:=[3]
def LJ (O:Alg) (x:Ags O):O.M:=let u4:=(O.l (x.L 0));(O.c (O.w (fun s0 c0=>let u6:=(O.k c0 0);let u5:=(O.d c0 1);let u3:=(O.l u6);let u2:=(O.p .i64 u5 (lq9 O 1));let u1:=(O.u .i64 u3 (lq9 O 1));(O.b (O.o u5 u4) (O.j (O.r u5 u4) (O.b (O.h (O.e (O.n (x.L 0) u5 0) (O.lit .u8 2))) (s0 [.rows u6,.int u2]) (O.c (O.b (O.o (lq9 O 0) u3) (O.j (O.r u1 u3) (O.a [.rows (O.v u6 u1 1 [.int u5])])) (O.a [.rows u6])) fun c1=>let u0:=(O.ae (O.k c1 0) (O.ab [[.int u5,.int u4]]));(O.j (O.t (O.l u0) 16) (s0 [.rows u0,.int u2]))))) (O.a [.rows u6]))) [.rows O.y,.int (lq9 O 0)]) fun c0=>(O.a [.rows (O.k c0 0)]))
def Ti:Nat→Env:=eL []
def BT:=oS WK LJ Ti
def Um:List Nat:=[2,0,0,0,0,0,0,0,1,0,0,0,0,3,3]
def KE (O:Alg) (x:Ags O):O.M:=let u19:=(lq9 O 1);let u18:=(lq9 O 0);let u17:=(lq9 O (-1));(O.c (O.w (fun s0 c0=>let u22:=(O.d c0 0);let u21:=(O.k c0 1);let u15:=(O.l u21);let u8:=(O.n (x.L 14) u22 2);let u20:=(O.lit .u8 0);let u7:=(O.n (x.L 14) u22 0);let u6:=(O.p .i64 u22 u19);(O.b (O.o u22 (O.l (x.L 14))) (O.j (O.r u22 (O.l (x.L 14))) (O.b (O.e u7 (O.lit .u8 2)) (O.c (O.c (O.w (fun s1 c1=>let u28:=(O.d c1 1);let u24:=(O.d c1 0);(O.b (O.o u24 u15) (O.j (O.r u24 u15) (O.b (O.e (O.n u21 u24 0) u28) (O.a [.int u18,.int u24,.int u28]) (s1 [.int (O.p .i64 u24 u19),.int u28]))) (O.a [.int u19,.int u28]))) [.int u18,.int u8]) fun c1=>(O.b (O.ac c1 0) (O.a [.int (O.d c1 1),.int (O.d c1 2)]) (O.a [.int u17,.int (O.d c1 1)]))) fun c1=>let u11:=(O.ae u21 (O.ab [[.int (O.d c1 1),.int u18,.int u18,.int u18,.int u18,.bool O.g,.int u20,.int u18,.int u18,.bool O.g]]));let u9:=(O.l u11);(O.c (O.b (O.o (O.d c1 0) u18) (O.j (O.t u9 72) (O.a [.int (O.u .i64 u9 u19),.rows u11])) (O.a [.int (O.d c1 0),.rows u21])) fun c2=>let u2:=(O.r (O.d c2 0) (O.l (O.k c2 1)));let u1:=(O.v (O.k c2 1) (O.d c2 0) 9 [.bool (O.i (O.rB (O.k c2 1) (O.d c2 0) 9) O.m O.m)]);let u0:=(O.l u1);(O.j u2 (O.j u2 (O.c (O.c (O.w (fun s3 c3=>let u29:=(O.d c3 1);let u25:=(O.d c3 0);(O.b (O.o u25 u0) (O.j (O.r u25 u0) (O.b (O.e (O.n u1 u25 0) u29) (O.a [.int u18,.int u25,.int u29]) (s3 [.int (O.p .i64 u25 u19),.int u29]))) (O.a [.int u19,.int u29]))) [.int u18,.int (O.n (x.L 14) u22 3)]) fun c3=>(O.b (O.ac c3 0) (O.a [.int (O.d c3 1),.int (O.d c3 2)]) (O.a [.int u17,.int (O.d c3 1)]))) fun c3=>let u14:=(O.ae u1 (O.ab [[.int (O.d c3 1),.int u18,.int u18,.int u18,.int u18,.bool O.g,.int u20,.int u18,.int u18,.bool O.g]]));let u12:=(O.l u14);(O.c (O.b (O.o (O.d c3 0) u18) (O.j (O.t u12 72) (O.a [.int (O.u .i64 u12 u19),.rows u14])) (O.a [.int (O.d c3 0),.rows u1])) fun c4=>let u3:=(O.r (O.d c4 0) (O.l (O.k c4 1)));(O.j u3 (O.j u3 (s0 [.int u6,.rows (O.v (O.k c4 1) (O.d c4 0) 9 [.bool (O.i (O.rB (O.k c4 1) (O.d c4 0) 9) O.m O.m)])]))))))))) (O.b (O.e u7 (O.lit .u8 5)) (O.c (O.c (O.w (fun s1 c1=>let u30:=(O.d c1 1);let u26:=(O.d c1 0);(O.b (O.o u26 u15) (O.j (O.r u26 u15) (O.b (O.e (O.n u21 u26 0) u30) (O.a [.int u18,.int u26,.int u30]) (s1 [.int (O.p .i64 u26 u19),.int u30]))) (O.a [.int u19,.int u30]))) [.int u18,.int u8]) fun c1=>(O.b (O.ac c1 0) (O.a [.int (O.d c1 1),.int (O.d c1 2)]) (O.a [.int u17,.int (O.d c1 1)]))) fun c1=>let u13:=(O.ae u21 (O.ab [[.int (O.d c1 1),.int u18,.int u18,.int u18,.int u18,.bool O.g,.int u20,.int u18,.int u18,.bool O.g]]));let u10:=(O.l u13);(O.c (O.b (O.o (O.d c1 0) u18) (O.j (O.t u10 72) (O.a [.int (O.u .i64 u10 u19),.rows u13])) (O.a [.int (O.d c1 0),.rows u21])) fun c2=>let u4:=(O.r (O.d c2 0) (O.l (O.k c2 1)));(O.j u4 (O.j u4 (s0 [.int u6,.rows (O.v (O.k c2 1) (O.d c2 0) 9 [.bool (O.i (O.rB (O.k c2 1) (O.d c2 0) 9) O.m (O.h (O.rB (x.L 14) u22 4)))])]))))) (s0 [.int u6,.rows u21])))) (O.a [.rows u21]))) [.int u18,.rows O.y]) fun c0=>(O.c (O.w (fun s1 c1=>let u23:=(O.k c1 1);let u16:=(O.l u23);(O.b (O.z (O.d c1 0) (x.I 1)) (O.c (O.c (O.w (fun s2 c2=>let u31:=(O.d c2 1);let u27:=(O.d c2 0);(O.b (O.o u27 u16) (O.j (O.r u27 u16) (O.b (O.e (O.n u23 u27 0) u31) (O.a [.int u18,.int u27,.int u31]) (s2 [.int (O.p .i64 u27 u19),.int u31]))) (O.a [.int u19,.int u31]))) [.int u18,.int (O.d c1 0)]) fun c2=>(O.b (O.ac c2 0) (O.a [.int (O.d c2 1),.int (O.d c2 2)]) (O.a [.int u17,.int (O.d c2 1)]))) fun c2=>(O.c (O.b (O.o (O.d c2 0) u18) (O.j (O.t (O.l (O.ae u23 (O.ab [[.int (O.d c2 1),.int u18,.int u18,.int u18,.int u18,.bool O.g,.int (O.lit .u8 0),.int u18,.int u18,.bool O.g]]))) 72) (O.a [.int (O.u .i64 (O.l (O.ae u23 (O.ab [[.int (O.d c2 1),.int u18,.int u18,.int u18,.int u18,.bool O.g,.int (O.lit .u8 0),.int u18,.int u18,.bool O.g]]))) u19),.rows (O.ae u23 (O.ab [[.int (O.d c2 1),.int u18,.int u18,.int u18,.int u18,.bool O.g,.int (O.lit .u8 0),.int u18,.int u18,.bool O.g]]))])) (O.a [.int (O.d c2 0),.rows u23])) fun c3=>let u5:=(O.r (O.d c3 0) (O.l (O.k c3 1)));(O.j u5 (O.j u5 (s1 [.int (O.p .i64 (O.d c1 0) u19),.rows (O.v (O.k c3 1) (O.d c3 0) 9 [.bool (O.i (O.rB (O.k c3 1) (O.d c3 0) 9) O.m O.g)])]))))) (O.a [.rows u23]))) [.int u19,.rows (O.k c0 0)]) fun c1=>(O.a [.rows (O.k c1 0)])))
def R0:Nat→Env:=eL []
def KC:=oS Um KE R0
def FB:List Nat:=[3,3]
def Cg (O:Alg) (x:Ags O):O.M:=let u0:=(lq9 O 0);(O.c (O.w (fun s0 c0=>let u1:=(O.d c0 0);(O.b (O.o u1 (O.l (x.L 0))) (O.j (O.r u1 (O.l (x.L 0))) (O.b (O.e (O.n (x.L 0) u1 0) (O.n (x.L 1) u0 0)) (O.a [.int u0,.int u1]) (s0 [.int (O.p .i64 u1 (lq9 O 1))]))) (O.a [.int (lq9 O 1)]))) [.int u0]) fun c0=>(O.b (O.ac c0 0) (O.a [.int (O.d c0 1)]) (O.a [.int (lq9 O (-1))])))
def CM (N:Nat):Env:=fun f fns ls=>none
def Ch:=oS FB Cg CM
def Qu:List Nat:=[0,0,0,0,0,1,0,0,0,0,1,0,0,0]
def HH (O:Alg) (x:Ags O):O.M:=(O.b (O.e (x.I 6) (O.lit .u8 0)) (O.a [.int (lq9 O 0)]) (O.b (O.e (x.I 7) (lq9 O 1)) (O.a [.int (x.I 12)]) (O.b (O.e (x.I 7) (lq9 O 2)) (O.a [.int (x.I 13)]) (O.a [.int (lq9 O 0)]))))
def N3:Nat→Env:=eL []
def Ed:=oS Qu HH N3
def Pl:List Nat:=[2,0,0,0,0,0,0,0,1,0,0,0,0,3,3,0]
def IA (O:Alg) (x:Ags O):O.M:=let u18:=(lq9 O 1);let u17:=(lq9 O 0);(O.c (O.f 15 [] (xr x [2,0,0,0,0,0,0,0,1,0,0,0,0,3,3] 0)) fun c0=>(O.b (O.h (O.e (O.d c0 0) u17)) (O.a [.rows O.y,.int (O.d c0 0)]) (O.c (O.f 16 [] [.rows (x.L 14)]) fun c1=>let u14:=(O.l (O.k c1 0));let u13:=(O.n (O.k c1 0) (x.I 15) 1);let u12:=(O.n (O.k c1 0) (x.I 15) 0);let u9:=(O.r (x.I 15) u14);let u6:=(O.aj (x.L 14) u12 u13);let u5:=(O.l u6);(O.b (O.i (O.o (x.I 15) u17) O.m (O.z u14 (x.I 15))) (O.a [.rows O.y,.int (lq9 O 2)]) (O.j u9 (O.j u9 (O.j (O.ak u12 u13 (O.l (x.L 14))) (O.c (O.f 17 [] (ap O (xr x kR 0) [.rows u6])) fun c2=>(O.c (O.f 14 [] (xr x [2,0,0,0,0,0,0,0,1,0,0,0,0,3,3] 0)) fun c3=>let u20:=(O.k c3 0);let u15:=(O.l u20);(O.c (O.w (fun s4 c4=>let u23:=(O.k c4 1);let u19:=(O.d c4 0);let u11:=(O.n u20 u19 5);let u10:=(O.n u20 u19 12);let u7:=(O.p .i64 u19 u18);(O.b (O.o u19 u15) (O.j (O.r u19 u15) (O.b (O.h (O.e (O.n u20 u19 1) (x.I 15))) (s4 [.int u7,.rows u23]) (O.c (O.f 19 [20] [.rows u23,.rows (O.ab [[.int u11]])]) fun c5=>let u21:=(O.d c5 0);let u1:=(O.v u23 u21 1 [.int (O.p .i64 (O.n u23 u21 1) (O.n u20 u19 20))]);(O.j (O.r u21 (O.l u23)) (O.c (O.b (O.rB u20 u19 27) (O.a [.rows (O.v u1 u21 2 [.int (O.p .i64 (O.n u1 u21 2) u18)])]) (O.a [.rows u1])) fun c6=>let u24:=(O.k c6 0);(O.c (O.b (O.i (O.e (O.n u20 u19 9) (O.lit .u8 1)) (O.e (O.n u20 u19 10) u17) O.g) (O.b (O.e u10 (lq9 O 4)) (O.a [.rows (O.v u24 u21 3 [.int (O.p .i64 (O.n u24 u21 3) u18)])]) (O.b (O.e u10 (lq9 O 6)) (O.a [.rows (O.v u24 u21 4 [.int (O.p .i64 (O.n u24 u21 4) u18)])]) (O.a [.rows u24]))) (O.a [.rows u24])) fun c7=>let u27:=(O.k c7 0);(O.c (O.f 21 [] (ap O (rr O u20 u19 [0,0,0,0,0,1,0,0,0,0,1,0] 8) [.int u11,.int (O.n u20 u19 6)])) fun c8=>(O.b (O.o u17 (O.d c8 0)) (O.c (O.f 19 [20] [.rows u27,.rows (O.ab [[.int (O.d c8 0)]])]) fun c9=>let u26:=(O.d c9 0);let u0:=(O.v (O.v (O.v u27 u26 5 [.bool O.m]) u26 6 [.int (O.n u20 u19 14)]) u26 8 [.int (O.n u20 u19 16)]);(O.j (O.r u26 (O.l u27)) (O.b (O.rB u20 u19 28) (s4 [.int u7,.rows (O.v u0 u26 7 [.int (O.n u20 u19 4)])]) (s4 [.int u7,.rows u0])))) (s4 [.int u7,.rows u27]))))))))) (O.a [.rows u23]))) [.int u17,.rows (O.k c2 0)]) fun c4=>(O.c (O.w (fun s5 c5=>let u25:=(O.d c5 0);let u22:=(O.k c5 1);let u16:=(O.l u22);let u8:=(O.p .i64 u25 u18);let u4:=(O.rB u6 u25 4);let u3:=(O.n u6 u25 0);let u2:=(O.ab [[.int (O.n u6 u25 2)]]);(O.b (O.o u25 u5) (O.j (O.r u25 u5) (O.b (O.i (O.e u3 (O.lit .u8 5)) u4 O.g) (O.c (O.f 19 [20] [.rows u22,.rows u2]) fun c6=>(O.j (O.r (O.d c6 0) u16) (s5 [.int u8,.rows (O.v (O.v u22 (O.d c6 0) 5 [.bool O.m]) (O.d c6 0) 6 [.int (O.lit .u8 9)])]))) (O.b (O.i (O.e u3 (O.lit .u8 6)) (O.h u4) O.g) (O.c (O.f 19 [20] [.rows u22,.rows u2]) fun c6=>(O.j (O.r (O.d c6 0) u16) (s5 [.int u8,.rows (O.v (O.v u22 (O.d c6 0) 5 [.bool O.m]) (O.d c6 0) 6 [.int (O.lit .u8 10)])]))) (s5 [.int u8,.rows u22])))) (O.a [.rows u22]))) [.int u17,.rows (O.k c4 0)]) fun c5=>(O.a [.rows (O.k c5 0),.int u17]))))))))))))
def Bs (N:Nat):Env:=fun f fns ls=>(cond (Nat.beq f 14&&AQ fns []) (CY N ls) (cond (Nat.beq f 15&&AQ fns []) (Cm N ls) (cond (Nat.beq f 16&&AQ fns []) (BT N ls) (cond (Nat.beq f 17&&AQ fns []) (KC N ls) (cond (Nat.beq f 19&&AQ fns [20]) (Ch N ls) (cond (Nat.beq f 21&&AQ fns []) (Ed N ls) none))))))
theorem Ui {N ls}:Bs N 14 [] ls=CY N ls:=id rfl
theorem Tk {N ls}:Bs N 15 [] ls=Cm N ls:=id rfl
theorem Qn {N ls}:Bs N 16 [] ls=BT N ls:=id rfl
theorem Pz {N ls}:Bs N 17 [] ls=KC N ls:=id rfl
theorem JX {N ls}:Bs N 19 [20] ls=Ch N ls:=id rfl
theorem Nr {N ls}:Bs N 21 [] ls=Ed N ls:=id rfl
def DF:=oS Pl IA Bs
def UL:List Nat:=[2,0,0,0,0,0,0,0,1,0,0,0,0,3,3,0,0]
def Ix (O:Alg) (x:Ags O):O.M:=let u2:=(lq9 O 1);let u1:=(lq9 O 0);(O.c (O.w (fun s0 c0=>let u4:=(O.d c0 0);let u3:=(O.d c0 1);let u0:=(O.p .i64 u3 u2);(O.b (O.o u3 (O.l (x.L 14))) (O.j (O.r u3 (O.l (x.L 14))) (O.b (O.h (O.e (O.n (x.L 14) u3 2) (x.I 15))) (s0 [.int u4,.int u0]) (O.b (O.i (O.h (O.e (O.n (x.L 14) u3 4) (x.I 16))) O.m (O.h (O.e (O.n (x.L 14) u3 25) u1))) (O.a [.int u1,.bool O.g]) (O.b (O.rB (x.L 14) u3 26) (s0 [.int (O.p .i64 u4 u2),.int u0]) (s0 [.int u4,.int u0]))))) (O.a [.int u2,.int u4]))) [.int u1,.int u1]) fun c0=>(O.b (O.ac c0 0) (O.a [.bool (O.q c0 1)]) (O.a [.bool (O.e (O.d c0 1) (x.I 4))])))
def RG:Nat→Env:=eL []
def JN:=oS UL Ix RG
def L3:List Nat:=[2,0,0,0,0,0,0,0,1,0,0,0,0,3,3,0]
def FH (O:Alg) (x:Ags O):O.M:=let u18:=(lq9 O 1);let u17:=(lq9 O 0);let u16:=(lq9 O (-1));let u10:=(O.o (x.I 15) u17);(O.c (O.f 15 [] (xr x [2,0,0,0,0,0,0,0,1,0,0,0,0,3,3] 0)) fun c0=>(O.b (O.h (O.e (O.d c0 0) u17)) (O.a [.rows O.y,.int (O.d c0 0)]) (O.c (O.b (O.h u10) (O.f 16 [] [.rows (x.L 14)]) (O.a [.rows O.y])) fun c1=>(O.b (O.i u10 O.m (O.z (O.l (O.k c1 0)) (x.I 15))) (O.a [.rows O.y,.int (lq9 O 2)]) (O.c (O.f 14 [] (xr x [2,0,0,0,0,0,0,0,1,0,0,0,0,3,3] 0)) fun c2=>let u28:=(O.k c2 0);let u14:=(O.l u28);(O.c (O.c (O.c (O.w (fun s3 c3=>let u29:=(O.d c3 1);let u22:=(O.d c3 0);(O.b (O.o u22 u14) (O.j (O.r u22 u14) (O.b (O.h (O.e (O.n u28 u22 1) u29)) (O.a [.int u17,.int u22,.int u29]) (s3 [.int (O.p .i64 u22 u18),.int u29]))) (O.a [.int u18,.int u29]))) [.int u17,.int (x.I 15)]) fun c3=>(O.b (O.ac c3 0) (O.a [.int (O.d c3 1),.int (O.d c3 2)]) (O.a [.int u16,.int (O.d c3 1)]))) fun c3=>(O.b (O.e (O.d c3 0) u16) (O.a [.rows u28,.int (O.d c3 1)]) (O.c (O.w (fun s4 c4=>let u30:=(O.d c4 3);let u24:=(O.d c4 1);let u23:=(O.d c4 2);let u20:=(O.k c4 0);let u11:=(O.l u20);let u6:=(O.p .i64 u23 u18);(O.b (O.o u23 u11) (O.j (O.r u23 u11) (O.b (O.h (O.h (O.e (O.n u20 u23 1) u30))) (O.j (O.r u24 u11) (s4 [.rows (O.v u20 u24 0 (rr O u20 u23 [0,0,0,0,0,0,0,1,0,0,0,0,0,1,0,0,0,0,1,0,0,0,0,0,0,0,1,1,1,1,0,0] 0)),.int (O.p .i64 u24 u18),.int u6,.int u30])) (s4 [.rows u20,.int u24,.int u6,.int u30]))) (O.a [.rows u20,.int u24,.int u30]))) [.rows u28,.int (O.d c3 0),.int (O.p .i64 (O.d c3 0) u18),.int (O.d c3 1)]) fun c4=>let u25:=(O.d c4 1);let u12:=(O.l (O.k c4 0));let u5:=(O.aj (O.k c4 0) u17 u25);let u4:=(O.l (O.aj (O.k c4 0) u25 u12));(O.j (O.ak u25 u12 u12) (O.j (O.ak u17 u25 (O.l (O.ae u5 (O.am u4 [.int u17,.int u17,.int u17,.int u17,.int u17,.int u17,.int u17,.bool O.g,.int (O.lit .u8 0),.int (O.lit .u8 0),.int u17,.int u17,.int u17,.bool O.g,.int (O.lit .u8 0),.int u17,.int u17,.int u17,.bool O.g,.int u17,.int u17,.int u17,.int u17,.int u17,.int u17,.int u17,.bool O.g,.bool O.g,.bool O.g,.bool O.g,.int u17,.int u17])))) (O.a [.rows (O.aj (O.ae u5 (O.am u4 [.int u17,.int u17,.int u17,.int u17,.int u17,.int u17,.int u17,.bool O.g,.int (O.lit .u8 0),.int (O.lit .u8 0),.int u17,.int u17,.int u17,.bool O.g,.int (O.lit .u8 0),.int u17,.int u17,.int u17,.bool O.g,.int u17,.int u17,.int u17,.int u17,.int u17,.int u17,.int u17,.bool O.g,.bool O.g,.bool O.g,.bool O.g,.int u17,.int u17])) u17 u25),.int (O.d c4 2)])))))) fun c3=>let u31:=(O.k c3 0);let u13:=(O.l u31);(O.c (O.w (fun s4 c4=>let u26:=(O.k c4 0);let u21:=(O.d c4 1);let u15:=(O.l u26);let u9:=(O.e u21 u17);let u8:=(O.p .i64 u21 u18);let u7:=(O.u .i64 u21 u18);(O.b (O.o u21 u13) (O.j (O.r u21 u13) (O.c (O.c (O.w (fun s5 c5=>let u32:=(O.d c5 0);(O.b (O.o u32 u15) (O.j (O.r u32 u15) (O.b (O.e (O.n u26 u32 0) (O.d c5 5)) (O.a (ap O [.int u17] (cr O c5 [0,0,0,0,0,0,0,0,1,0,0,0,0,0,1,0,0,0,0,1,0,0,0,0,0,0,0,1,1,1,1,0,0] 0))) (s5 (ap O [.int (O.p .i64 u32 u18)] (cr O c5 [0,0,0,0,0,0,0,1,0,0,0,0,0,1,0,0,0,0,1,0,0,0,0,0,0,0,1,1,1,1,0,0] 1))))) (O.a (ap O [.int u18] (cr O c5 [0,0,0,0,0,0,0,1,0,0,0,0,0,1,0,0,0,0,1,0,0,0,0,0,0,0,1,1,1,1,0,0] 1))))) (ap O [.int u17] (rr O u31 u21 [0,0,0,0,0,0,0,1,0,0,0,0,0,1,0,0,0,0,1,0,0,0,0,0,0,0,1,1,1,1,0,0] 0))) fun c5=>(O.b (O.ac c5 0) (O.a (cr O c5 [0,0,0,0,0,0,0,0,1,0,0,0,0,0,1,0,0,0,0,1,0,0,0,0,0,0,0,1,1,1,1,0,0] 1)) (O.a (ap O [.int u16] (cr O c5 [0,0,0,0,0,0,0,1,0,0,0,0,0,1,0,0,0,0,1,0,0,0,0,0,0,0,1,1,1,1,0,0] 1))))) fun c5=>let u2:=(O.i u9 O.m (O.h (O.e (O.n u31 u7 2) (O.d c5 3))));let u1:=(O.ae u26 (O.ab [[.int (O.d c5 5),.int u17,.int u17,.int u17,.int u17,.int u17,.int u17]]));let u0:=(O.l u1);(O.c (O.b (O.o (O.d c5 0) u17) (O.j (O.t u0 56) (O.a [.rows u1,.int (O.u .i64 u0 u18)])) (O.a [.rows u26,.int (O.d c5 0)])) fun c6=>let u19:=(O.d c6 1);let u3:=(O.v (O.k c6 0) u19 3 [.int (O.p .i64 (O.n (O.k c6 0) u19 3) (O.d c5 26))]);(O.j (O.r u19 (O.l (O.k c6 0))) (O.c (O.b (O.q c5 27) (O.a [.rows (O.v u3 u19 1 [.int (O.p .i64 (O.n u3 u19 1) u18)])]) (O.a [.rows u3])) fun c7=>(O.c (O.b (O.q c5 29) (O.a [.rows (O.v (O.k c7 0) u19 4 [.int (O.p .i64 (O.n (O.k c7 0) u19 4) u18)])]) (O.a [.rows (O.k c7 0)])) fun c8=>let u27:=(O.k c8 0);(O.c (O.b (O.e (O.d c5 9) (O.lit .u8 2)) (O.a [.rows (O.v u27 u19 5 [.int (O.p .i64 (O.n u27 u19 5) u18)])]) (O.b (O.e (O.d c5 9) (O.lit .u8 3)) (O.a [.rows (O.v u27 u19 6 [.int (O.p .i64 (O.n u27 u19 6) u18)])]) (O.a [.rows u27]))) fun c9=>(O.j (O.h (O.af (O.h u9) (O.h (O.r u7 u13)))) (O.c (O.b u2 (O.f 26 [] (ap O (xr x kR 0) [.rows u31,.int (O.d c5 3),.int (O.d c5 5)])) (O.a [.bool O.g])) fun c10=>(O.b (O.i u2 (O.q c10 0) O.g) (s4 [.rows (O.v (O.k c9 0) u19 2 [.int (O.p .i64 (O.n (O.k c9 0) u19 2) u18)]),.int u8]) (s4 [.rows (O.k c9 0),.int u8]))))))))))) (O.a [.rows u26]))) [.rows O.y,.int u17]) fun c4=>(O.a [.rows (O.k c4 0),.int u17]))))))))
def Bw (N:Nat):Env:=fun f fns ls=>(cond (Nat.beq f 14&&AQ fns []) (CY N ls) (cond (Nat.beq f 15&&AQ fns []) (Cm N ls) (cond (Nat.beq f 16&&AQ fns []) (BT N ls) (cond (Nat.beq f 26&&AQ fns []) (JN N ls) none))))
theorem RW {N ls}:Bw N 14 [] ls=CY N ls:=id rfl
theorem Qp {N ls}:Bw N 15 [] ls=Cm N ls:=id rfl
theorem OQ {N ls}:Bw N 16 [] ls=BT N ls:=id rfl
theorem NF {N ls}:Bw N 26 [] ls=JN N ls:=id rfl
def CG:=oS L3 FH Bw
def cN:List Nat:=[]
def dD (O:Alg) (x:Ags O):O.M:=let u1:=(lq9 O 0);let u0:=(lq9 O 1);(O.a [.str (O.s ⟨#[84,69,83,84]⟩),.int (lq9 O 2),.int u0,.int u0,.int (lq9 O 4),.int u1,.int u0,.int u0,.bool O.g,.int u1,.int u1,.int u1,.int (lq9 O 11),.rows O.y])
def lV:Nat→Env:=eL []
def HV:=oS cN dD lV
def cV:List Nat:=[0,0,0,0,0,1,0,0,0,0,1,0]
def cz (O:Alg) (x:Ags O):O.M:=let u0:=(lq9 O 0);(O.a (ap O [.int (O.lit .u8 4),.int u0,.int u0,.int u0,.bool O.g,.int u0,.int u0] (xr x [0,0,0,0,0,1,0,0,0,0,1,0] 0)))
def lj:Nat→Env:=eL []
def V1:=oS cV cz lj
def kJ:List Nat:=[]
def lD (O:Alg) (x:Ags O):O.M:=let u2:=(lq9 O 2);let u1:=(lq9 O 1);let u0:=(lq9 O 0);(O.c (O.f 27 [] [.int (O.lit .u8 1),.int (O.lit .u8 1),.int u1,.int u0,.int u0,.bool O.g,.int (O.lit .u8 0),.int u0,.int u0,.int u0,.bool O.g,.int u0]) fun c0=>(O.c (O.f 27 [] [.int (O.lit .u8 1),.int (O.lit .u8 0),.int u0,.int u0,.int u0,.bool O.g,.int (O.lit .u8 1),.int u1,.int u0,.int u0,.bool O.g,.int u0]) fun c1=>(O.c (O.f 27 [] [.int (O.lit .u8 2),.int (O.lit .u8 0),.int u0,.int u0,.int u0,.bool O.g,.int (O.lit .u8 0),.int u0,.int u0,.int u0,.bool O.g,.int u0]) fun c2=>(O.c (O.f 27 [] [.int (O.lit .u8 1),.int (O.lit .u8 1),.int u0,.int u0,.int (lq9 O 4),.bool O.g,.int (O.lit .u8 0),.int u0,.int u0,.int u0,.bool O.g,.int u0]) fun c3=>(O.a [.rows (O.ab [[.int (O.lit .u8 1),.int u1,.int u0,.int u0,.bool O.m,.int u0,.int u0,.int (O.lit .u8 0),.int (O.lit .u8 0),.int u0,.int u0,.int u0,.bool O.g,.int (O.lit .u8 0),.int u0,.int u0,.int u0,.bool O.g,.int u0],[.int (O.lit .u8 2),.int u0,.int u1,.int u2,.bool O.g,.int u0,.int u0,.int (O.lit .u8 0),.int (O.lit .u8 0),.int u0,.int u0,.int u0,.bool O.g,.int (O.lit .u8 0),.int u0,.int u0,.int u0,.bool O.g,.int u0],[.int (O.lit .u8 8),.int u0,.int u2,.int u0,.bool O.g,.int u0,.int u0,.int (O.lit .u8 0),.int (O.lit .u8 0),.int u0,.int u0,.int u0,.bool O.g,.int (O.lit .u8 0),.int u0,.int u0,.int u0,.bool O.g,.int u0],[.int (O.lit .u8 3),.int u0,.int u1,.int u0,.bool O.g,.int u0,.int u0,.int (O.lit .u8 0),.int (O.lit .u8 0),.int u0,.int u0,.int u0,.bool O.g,.int (O.lit .u8 0),.int u0,.int u0,.int u0,.bool O.g,.int u0],(cr O c0 [0,0,0,0,1,0,0,0,0,0,0,0,1,0,0,0,0,1,0] 0),(cr O c1 [0,0,0,0,1,0,0,0,0,0,0,0,1,0,0,0,0,1,0] 0),[.int (O.lit .u8 2),.int u0,.int u2,.int u1,.bool O.g,.int u0,.int u0,.int (O.lit .u8 0),.int (O.lit .u8 0),.int u0,.int u0,.int u0,.bool O.g,.int (O.lit .u8 0),.int u0,.int u0,.int u0,.bool O.g,.int u0],[.int (O.lit .u8 8),.int u0,.int u1,.int u0,.bool O.g,.int u0,.int u0,.int (O.lit .u8 0),.int (O.lit .u8 0),.int u0,.int u0,.int u0,.bool O.g,.int (O.lit .u8 0),.int u0,.int u0,.int u0,.bool O.g,.int u0],[.int (O.lit .u8 3),.int u0,.int u2,.int u0,.bool O.g,.int u0,.int u0,.int (O.lit .u8 0),.int (O.lit .u8 0),.int u0,.int u0,.int u0,.bool O.g,.int (O.lit .u8 0),.int u0,.int u0,.int u0,.bool O.g,.int u0],(cr O c2 [0,0,0,0,1,0,0,0,0,0,0,0,1,0,0,0,0,1,0] 0),(cr O c3 [0,0,0,0,1,0,0,0,0,0,0,0,1,0,0,0,0,1,0] 0)])])))))
def qE:Nat→Env:=eL [(27,V1)]
def Kc:=oS kJ lD qE
def R5:List Nat:=[0,0,0,0,0,1,0,0,0,0,1,0]
def R9 (O:Alg) (x:Ags O):O.M:=let u0:=(O.s ⟨#[]⟩);(O.b (O.e (x.I 1) (O.lit .u8 0)) (O.b (O.h (O.e (x.I 0) (O.lit .u8 2))) (O.a [.str (O.s ⟨#[46]⟩)]) (O.a [.str u0])) (O.b (O.e (x.I 1) (O.lit .u8 1)) (O.b (O.e (x.I 0) (O.lit .u8 2)) (O.a [.str (O.s ⟨#[111]⟩)]) (O.a [.str u0])) (O.b (O.e (x.I 1) (O.lit .u8 2)) (O.a [.str (O.s ⟨#[98]⟩)]) (O.b (O.e (x.I 1) (O.lit .u8 3)) (O.a [.str (O.s ⟨#[108]⟩)]) (O.a [.str u0])))))
def Y2:Nat→Env:=eL []
def MF:=oS R5 R9 Y2
def TO:List Nat:=[0]
def UY (O:Alg) (x:Ags O):O.M:=(O.a [.str (O.ao (O.ar .i32 (O.p .i64 (lq9 O 48) (x.I 0))))])
def Zs:Nat→Env:=eL []
def Fx:=oS TO UY Zs
def JK (N:Nat) (ls:List PV):Option (List PV):=xK ls
def PP:List Nat:=[0,0]
def PM (O:Alg) (x:Ags O):O.M:=(O.c (O.f 113 [] [.int (x.I 0),.int (x.I 1)]) fun c0=>(O.a [.str (O.cS c0 0)]))
def Ws:Nat→Env:=eL [(113,JK)]
def Ju:=oS PP PM Ws
def XB:List Nat:=[0]
def Wb (O:Alg) (x:Ags O):O.M:=(O.c (O.f 104 [] [.int (x.I 0),.int (lq9 O 10)]) fun c0=>(O.a [.str (O.cS c0 0)]))
def dW:Nat→Env:=eL [(104,Ju)]
def IV:=oS XB Wb dW
def Rt:List Nat:=[0,0,0,0,0,1,0,0,0,0,1,0]
def SB (O:Alg) (x:Ags O):O.M:=let u15:=(lq9 O 0);let u14:=(O.s ⟨#[41]⟩);let u8:=(O.s ⟨#[47]⟩);let u13:=(O.p .u8 (x.I 6) (O.lit .u8 1));let u6:=(O.t (O.x u14) 1);let u2:=(O.h (O.e (x.I 9) u15));let u1:=(O.s ⟨#[78,66,67,76,83,72,82,84,79,77,81]⟩);let u12:=(O.ay u1 (x.I 6) u13);let u11:=(O.ag u8 u12);let u0:=(O.h (O.i (O.i (O.h (O.e (x.I 8) u15)) O.m u2) O.m (x.B 10)));(O.b (O.i (O.i (O.e (x.I 6) (O.lit .u8 0)) (O.e (x.I 7) u15) O.g) u0 O.g) (O.a [.str (O.s ⟨#[]⟩)]) (O.j (O.ak (x.I 6) u13 (O.x u1)) (O.j (O.t (O.x u8) 1) (O.j (O.t (O.x u12) 1) (O.c (O.f 59 [] [.int (x.I 7)]) fun c0=>let u10:=(O.ag u11 (O.cS c0 0));(O.j (O.t (O.x u11) 1) (O.j (O.t (O.x (O.cS c0 0)) 1) (O.b u0 (O.a [.str u10]) (O.c (O.f 87 [] [.int (x.I 8)]) fun c1=>let u4:=(O.ag (O.s ⟨#[40]⟩) (O.cS c1 0));let u9:=(O.ag u10 u4);(O.j (O.t (O.x (O.s ⟨#[40]⟩)) 1) (O.j (O.t (O.x (O.cS c1 0)) 1) (O.j (O.t (O.x u10) 1) (O.j (O.t (O.x u4) 1) (O.c (O.b u2 (O.c (O.f 87 [] [.int (x.I 9)]) fun c2=>let u5:=(O.ag (O.s ⟨#[44]⟩) (O.cS c2 0));(O.j (O.t (O.x (O.s ⟨#[44]⟩)) 1) (O.j (O.t (O.x (O.cS c2 0)) 1) (O.j (O.t (O.x u9) 1) (O.j (O.t (O.x u5) 1) (O.a [.str (O.ag u9 u5)])))))) (O.a [.str u9])) fun c2=>let u7:=(O.t (O.x (O.cS c2 0)) 1);let u3:=(O.ag (O.cS c2 0) (O.s ⟨#[115]⟩));(O.b (x.B 10) (O.j u7 (O.j (O.t (O.x (O.s ⟨#[115]⟩)) 1) (O.j (O.t (O.x u3) 1) (O.j u6 (O.a [.str (O.ag u3 u14)]))))) (O.j u7 (O.j u6 (O.a [.str (O.ag (O.cS c2 0) u14)]))))))))))))))))))
def ZE:Nat→Env:=eL [(59,Fx),(87,IV)]
def L4:=oS Rt SB ZE
def T8:List Nat:=[0,0,0,0,0,1,0,0,0,0,1,0]
def TC (O:Alg) (x:Ags O):O.M:=let u8:=(lq9 O 2);let u11:=(O.u .u8 (x.I 0) (O.lit .u8 1));let u7:=(O.s ⟨#[]⟩);let u6:=(lq9 O 0);let u5:=(O.s ⟨#[119]⟩);let u4:=(O.s ⟨#[110]⟩);let u10:=(O.av (O.e u11 u8) u4 (O.av (O.e u11 (lq9 O 1)) u5 u7));(O.c (O.f 57 [] (xr x [0,0,0,0,0,1,0,0,0,0,1,0] 0)) fun c0=>(O.b (O.h (O.e (O.d c0 0) u6)) (O.a [.str u7,.int (O.d c0 0)]) (O.j (O.r u11 (lq9 O 3)) (O.c (O.f 58 [] (xr x [0,0,0,0,0,1,0,0,0,0,1,0] 0)) fun c1=>let u9:=(O.ag u10 (O.cS c1 0));(O.j (O.t (O.x u10) 1) (O.j (O.t (O.x (O.cS c1 0)) 1) (O.c (O.b (O.i (O.o u6 (x.I 2)) O.m (O.i (O.i (O.aq (O.cS c1 0) u7) (O.e (x.I 4) u6) O.g) (O.h (O.e (x.I 0) (O.lit .u8 2))) O.g)) (O.c (O.f 59 [] [.int (x.I 2)]) fun c2=>(O.j (O.t (O.x u9) 1) (O.j (O.t (O.x (O.cS c2 0)) 1) (O.a [.str (O.ag u9 (O.cS c2 0))])))) (O.a [.str u9])) fun c2=>let u12:=(O.cS c2 0);let u3:=(O.t (O.x u12) 1);(O.c (O.b (O.e (x.I 4) (lq9 O 4)) (O.j u3 (O.j (O.t (O.x (O.s ⟨#[70]⟩)) 1) (O.a [.str (O.ag u12 (O.s ⟨#[70]⟩))]))) (O.b (O.e (x.I 4) (lq9 O 6)) (O.j u3 (O.j (O.t (O.x (O.s ⟨#[83]⟩)) 1) (O.a [.str (O.ag u12 (O.s ⟨#[83]⟩))]))) (O.a [.str u12]))) fun c3=>(O.c (O.b (O.o u6 (x.I 3)) (O.c (O.f 59 [] [.int (x.I 3)]) fun c4=>let u0:=(O.ag (O.s ⟨#[45]⟩) (O.cS c4 0));(O.j (O.t (O.x (O.s ⟨#[45]⟩)) 1) (O.j (O.t (O.x (O.cS c4 0)) 1) (O.j (O.t (O.x (O.cS c3 0)) 1) (O.j (O.t (O.x u0) 1) (O.a [.str (O.ag (O.cS c3 0) u0)])))))) (O.a [.str (O.cS c3 0)])) fun c4=>(O.c (O.b (x.B 5) (O.j (O.t (O.x (O.cS c4 0)) 1) (O.j (O.t (O.x (O.s ⟨#[120]⟩)) 1) (O.a [.str (O.ag (O.cS c4 0) (O.s ⟨#[120]⟩))]))) (O.a [.str (O.cS c4 0)])) fun c5=>(O.c (O.f 60 [] (xr x [0,0,0,0,0,1,0,0,0,0,1,0] 0)) fun c6=>let u2:=(O.ag (O.cS c5 0) (O.cS c6 0));(O.j (O.t (O.x (O.cS c5 0)) 1) (O.j (O.t (O.x (O.cS c6 0)) 1) (O.b (O.o u6 (x.I 11)) (O.c (O.f 59 [] [.int (x.I 11)]) fun c7=>let u1:=(O.ag (O.s ⟨#[64]⟩) (O.cS c7 0));(O.j (O.t (O.x (O.s ⟨#[64]⟩)) 1) (O.j (O.t (O.x (O.cS c7 0)) 1) (O.j (O.t (O.x u2) 1) (O.j (O.t (O.x u1) 1) (O.a [.str (O.ag u2 u1),.int u6])))))) (O.a [.str u2,.int u6])))))))))))))))
def Ze:Nat→Env:=eL [(57,Dg),(58,MF),(59,Fx),(60,L4)]
def NO:=oS T8 TC Ze
def Ps:List Nat:=[2,0,0,0,0,0,0,0,1,0,0,0,0,3,3]
def Hv (O:Alg) (x:Ags O):O.M:=let u2:=(lq9 O 0);(O.c (O.f 15 [] (xr x [2,0,0,0,0,0,0,0,1,0,0,0,0,3,3] 0)) fun c0=>(O.b (O.h (O.e (O.d c0 0) u2)) (O.a [.rows O.y,.int (O.d c0 0)]) (O.c (O.f 14 [] (xr x [2,0,0,0,0,0,0,0,1,0,0,0,0,3,3] 0)) fun c1=>let u4:=(O.k c1 0);let u1:=(O.l u4);(O.c (O.w (fun s2 c2=>let u3:=(O.d c2 1);(O.b (O.o u3 u1) (O.j (O.r u3 u1) (O.c (O.f 44 [] (rr O u4 u3 [0,0,0,0,0,1,0,0,0,0,1,0] 8)) fun c3=>let u0:=(O.ae (O.k c2 0) (O.ab [(ap O (rr O u4 u3 [0,0,0,0,0,0] 1) [.str (O.cS c3 0),.int (O.n u4 u3 30),.int (O.n u4 u3 31)])]));(O.b (O.h (O.e (O.d c3 1) u2)) (O.a [.int u2,.rows O.y,.int (O.d c3 1)]) (O.j (O.t (O.l u0) 80) (s2 [.rows u0,.int (O.p .i64 u3 (lq9 O 1))]))))) (O.a [.int (lq9 O 1),.rows (O.k c2 0)]))) [.rows O.y,.int u2]) fun c2=>(O.b (O.ac c2 0) (O.a [.rows (O.k c2 1),.int (O.d c2 2)]) (O.a [.rows (O.k c2 1),.int u2]))))))
def C4 (N:Nat):Env:=fun f fns ls=>(cond (Nat.beq f 14&&AQ fns []) (CY N ls) (cond (Nat.beq f 15&&AQ fns []) (Cm N ls) (cond (Nat.beq f 44&&AQ fns []) (NO N ls) none)))
theorem Ub {N ls}:C4 N 14 [] ls=CY N ls:=id rfl
theorem TY {N ls}:C4 N 15 [] ls=Cm N ls:=id rfl
theorem PF {N ls}:C4 N 44 [] ls=NO N ls:=id rfl
def ET:=oS Ps Hv C4
def Yz:List Nat:=[3]
def Mo (O:Alg) (x:Ags O):O.M:=let u2:=(lq9 O 1);let u1:=(lq9 O 0);(O.c (O.w (fun s0 c0=>let u3:=(O.d c0 0);let u0:=(O.n (x.L 0) u3 1);(O.b (O.o u3 (O.l (x.L 0))) (O.j (O.r u3 (O.l (x.L 0))) (O.b (O.e (O.n (x.L 0) u3 0) (O.lit .u8 1)) (O.b (O.rB (x.L 0) u3 4) (O.a [.int u1,.int u0]) (O.a [.int u1,.int (O.u .i64 (lq9 O 3) u0)])) (s0 [.int (O.p .i64 u3 u2)]))) (O.a [.int u2]))) [.int u1]) fun c0=>(O.b (O.ac c0 0) (O.a [.int (O.d c0 1)]) (O.a [.int u2])))
def Vj:Nat→Env:=eL []
def JZ:=oS Yz Mo Vj
def Y1:List Nat:=[3]
def Mu (O:Alg) (x:Ags O):O.M:=let u4:=(lq9 O 3);let u3:=(lq9 O 1);(O.c (O.f 88 [] [.rows (x.L 0)]) fun c0=>(O.c (O.w (fun s1 c1=>let u5:=(O.d c1 1);(O.b (O.o u5 (O.l (x.L 0))) (O.j (O.r u5 (O.l (x.L 0))) (s1 [.bool (O.i (O.q c1 0) O.m (O.i (O.e (O.n (x.L 0) u5 0) (O.lit .u8 12)) (O.rB (x.L 0) u5 4) O.g)),.int (O.p .i64 u5 u3)])) (O.a [.bool (O.q c1 0)]))) [.bool O.g,.int (lq9 O 0)]) fun c1=>(O.c (O.f 16 [] [.rows (x.L 0)]) fun c2=>(O.c (O.w (fun s3 c3=>let u7:=(O.k c3 0);let u6:=(O.d c3 1);let u2:=(O.p .i64 u6 u3);(O.b (O.o u6 (O.l (O.k c2 0))) (O.c (O.b (O.e (O.ap .i64 u6 (lq9 O 2)) u3) (O.a [.int (O.u .i64 u4 (O.d c0 0))]) (O.a [.int (O.d c0 0)])) fun c4=>let u1:=(O.ae u7 (O.ab [[.int (O.d c4 0)]]));let u0:=(O.ae u7 (O.ab [[.int (O.u .i64 u4 (O.d c4 0))]]));(O.b (O.i (O.q c1 0) (O.i (O.e u6 (lq9 O 2)) O.m (O.e u6 u4)) O.g) (O.j (O.t (O.l u0) 8) (s3 [.rows u0,.int u2])) (O.j (O.t (O.l u1) 8) (s3 [.rows u1,.int u2])))) (O.a [.rows u7]))) [.rows O.y,.int (lq9 O 0)]) fun c3=>(O.a [.rows (O.k c3 0)])))))
def J9:Nat→Env:=eL [(16,BT),(88,JZ)]
theorem Rf {N ls}:J9 N 16 [] ls=BT N ls:=id rfl
theorem SW {N ls}:J9 N 88 [] ls=JZ N ls:=id rfl
def Ja:=oS Y1 Mu J9
def dB:List Nat:=[0,0,0,0,1,0,0,0,0,0,0,0,1,0,0,0,0,1,0]
def Qd (O:Alg) (x:Ags O):O.M:=(O.b (O.e (x.I 0) (O.lit .u8 4)) (O.a [.bool (O.h (O.e (x.I 13) (O.lit .u8 0)))]) (O.b (O.e (x.I 0) (O.lit .u8 5)) (O.a [.bool (x.B 4)]) (O.b (O.e (x.I 0) (O.lit .u8 6)) (O.a [.bool (O.h (x.B 4))]) (O.a [.bool O.g]))))
def Yb:Nat→Env:=eL []
def MZ:=oS dB Qd Yb
def cG:List Nat:=[3,0,0]
def QX (O:Alg) (x:Ags O):O.M:=let u2:=(lq9 O 0);let u1:=(lq9 O 1);let u0:=(O.l (x.L 0));(O.c (O.w (fun s0 c0=>let u3:=(O.d c0 0);(O.b (O.z u2 u3) (O.j (O.r u3 u0) (O.b (O.e (O.n (x.L 0) u3 0) (x.I 2)) (O.a [.int u2,.int u3]) (s0 [.int (O.u .i64 u3 u1)]))) (O.a [.int u1]))) [.int (x.I 1)]) fun c0=>(O.b (O.ac c0 0) (O.a [.int (O.d c0 1)]) (O.c (O.w (fun s1 c1=>let u4:=(O.d c1 0);(O.b (O.o u4 u0) (O.j (O.r u4 u0) (O.b (O.e (O.n (x.L 0) u4 0) (x.I 2)) (O.a [.int u2,.int u4]) (s1 [.int (O.p .i64 u4 u1)]))) (O.a [.int u1]))) [.int (O.p .i64 (x.I 1) u1)]) fun c1=>(O.b (O.ac c1 0) (O.a [.int (O.d c1 1)]) (O.a [.int (lq9 O (-1))])))))
def YT:Nat→Env:=eL []
def Jr:=oS cG QX YT
end Go.Px
