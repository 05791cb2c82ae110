/- Part 10. -/
import Derived.Test.YtokmalmdcihogabGreatPart09
set_option linter.unusedVariables false
set_option linter.unusedSimpArgs false
namespace Go.Px
set_option maxRecDepth 100000
def J9:List Nat:=[0,1]
def lq9 (O:Alg) (n:Int):O.I:=O.lit .i64 n
def Jz (O : Alg) (x : Ags O) : O.M := let u16 := (lq9 O 0); let u15 := (lq9 O 2); let u14 := (lq9 O 1); let u11 := (O.p .i64 (x.I 0) (O.ah .i64 (x.I 0) u15)); let u10 := (O.u .i64 u11 u14); let u8 := (O.f (O.d u10 u16)); (O.b (O.i (O.m (x.I 0) u15) O.j (O.m (lq9 O 20) (x.I 0))) (O.a [.rows O.y, .int u15]) (O.c (O.aa (fun s0 c0 => let u19 := (O.q c0 2); let u18 := (O.e c0 1); let u17 := (O.e c0 0); let u13 := (O.m u17 u18); let u9 := (O.m u10 u18); let u5 := (O.ae u19 (O.ad [[.int u17, .int u17, .int u10]])); let u4 := (O.ae u19 (O.ad [[.int u17, .int u10, .int u17]])); (O.b (O.m u17 u10) (O.c (O.b (O.d (O.ah .i64 u17 u15) u14) (O.c (O.b (O.i u9 u13 O.h) (O.n (O.ac (O.o u4) 24) (O.a [.rows u4])) (O.a [.rows u19])) fun c1 => (O.a [.int u18, .rows (O.q c1 0)])) (O.c (O.b (O.i u13 u9 O.h) (O.n (O.ac (O.o u5) 24) (O.a [.rows u5])) (O.a [.rows u19])) fun c1 => (O.a [.int u18, .rows (O.q c1 0)]))) fun c1 => (O.c (O.aa (fun s2 c2 => let u22 := (O.q c2 2); let u21 := (O.e c2 1); let u20 := (O.e c2 0); let u12 := (O.p .i64 u20 u14); let u7 := (O.ah .i64 (O.p .i64 u17 u20) u10); let u6 := (O.m u7 u21); let u3 := (O.ah .i64 (O.u .i64 (O.p .i64 (O.u .i64 u17 u20) u11) u14) u10); let u2 := (O.m u3 u21); let u1 := (O.ae u22 (O.ad [[.int u17, .int u3, .int u7]])); let u0 := (O.ae u22 (O.ad [[.int u17, .int u7, .int u3]])); (O.b (O.m u20 (O.ax .i64 u11 u15)) (O.n u8 (O.n u8 (O.b (O.d (O.ah .i64 u20 u15) u14) (O.c (O.b (O.i u6 u2 O.h) (O.n (O.ac (O.o u0) 24) (O.a [.rows u0])) (O.a [.rows u22])) fun c3 => (s2 [.int u12, .int u21, .rows (O.q c3 0)])) (O.c (O.b (O.i u2 u6 O.h) (O.n (O.ac (O.o u1) 24) (O.a [.rows u1])) (O.a [.rows u22])) fun c3 => (s2 [.int u12, .int u21, .rows (O.q c3 0)]))))) (O.a (cr O c2 [0,0,3] 0)))) [.int u14, .int (O.e c1 0), .rows (O.q c1 1)]) fun c2 => (s0 [.int (O.p .i64 u17 u14), .int (O.e c2 1), .rows (O.q c2 2)]))) (O.a [.int u18, .rows u19]))) [.int u16, .int (x.I 0), .rows O.y]) fun c0 => (O.b (x.B 1) (O.z "slice with three bounds") (O.a [.rows (O.q c0 1), .int u16]))))
def E0 (N:Nat):Env:=fun f fns ls=>none
def GG:=oS J9 Jz E0
def Sz:List Nat:=[0]
def Si (O:Alg) (x:Ags O):O.M:=let u0:=(lq9 O 0);(O.a [.bool (O.i (O.d (O.ah .i64 (x.I 0) (lq9 O 4)) u0) (O.i (O.f (O.d (O.ah .i64 (x.I 0) (lq9 O 100)) u0)) O.j (O.d (O.ah .i64 (x.I 0) (lq9 O 400)) u0)) O.h)])
def YE:Nat→Env:=eL []
def Fu:=oS Sz Si YE
def Pf:List Nat:=[0,0]
def PX (O:Alg) (x:Ags O):O.M:=let u2:=(O.d (x.I 1) (lq9 O 9));let u1:=(O.d (x.I 1) (lq9 O 6));let u0:=(O.d (x.I 1) (lq9 O 4));(O.c (O.b u0 (O.a [.bool u0]) (O.b u1 (O.a [.bool u1]) (O.b u2 (O.a [.bool u2]) (O.a [.bool (O.d (x.I 1) (lq9 O 11))])))) fun c0=>(O.b (O.l c0 0) (O.a [.int (lq9 O 30)]) (O.b (O.d (x.I 1) (lq9 O 2)) (O.c (O.g 36 [] [.int (x.I 0)]) fun c1=>(O.b (O.l c1 0) (O.a [.int (lq9 O 29)]) (O.a [.int (lq9 O 28)]))) (O.a [.int (lq9 O 31)]))))
def WD:Nat→Env:=eL [(36,Fu)]
def Jx:=oS Pf PX WD
def Sl:List Nat:=[0]
def R0 (O:Alg) (x:Ags O):O.M:=(O.c (O.g 36 [] [.int (x.I 0)]) fun c0=>(O.b (O.l c0 0) (O.a [.int (lq9 O 366)]) (O.a [.int (lq9 O 365)])))
def YO:Nat→Env:=eL [(36,Fu)]
def Ml:=oS Sl R0 YO
def TU:List Nat:=[0,0,0]
def Te (O:Alg) (x:Ags O):O.M:=let u2:=(lq9 O 0);let u1:=(lq9 O 1);let u0:=(O.i (O.i (O.i (O.i (O.m (x.I 0) (lq9 O 1900)) O.j (O.m (lq9 O 2199) (x.I 0))) O.j (O.m (x.I 1) u1)) O.j (O.m (lq9 O 12) (x.I 1))) O.j (O.m (x.I 2) u1));(O.c (O.b (O.f u0) (O.g 25 [] [.int (x.I 0),.int (x.I 1)]) (O.a [.int u2])) fun c0=>(O.b (O.i u0 O.j (O.m (O.e c0 0) (x.I 2))) (O.a [.int u2,.int (lq9 O 2)]) (O.c (O.aa (fun s1 c1=>let u3:=(O.e c1 1);(O.b (O.m u3 (x.I 0)) (O.c (O.g 26 [] [.int u3]) fun c2=>(s1 [.int (O.p .i64 (O.e c1 0) (O.e c2 0)),.int (O.p .i64 u3 u1)])) (O.a [.int (O.e c1 0)]))) [.int (O.u .i64 (x.I 2) u1),.int (lq9 O 1900)]) fun c1=>(O.c (O.aa (fun s2 c2=>let u4:=(O.e c2 1);(O.b (O.m u4 (x.I 1)) (O.c (O.g 25 [] [.int (x.I 0),.int u4]) fun c3=>(s2 [.int (O.p .i64 (O.e c2 0) (O.e c3 0)),.int (O.p .i64 u4 u1)])) (O.a [.int (O.e c2 0)]))) [.int (O.e c1 0),.int u1]) fun c2=>(O.a [.int (O.e c2 0),.int u2])))))
def ZA:Nat→Env:=eL [(25,Jx),(26,Ml)]
def NZ:=oS TU Te ZA
def Pw:List Nat:=[]
def Pe (O:Alg) (x:Ags O):O.M:=(O.c (O.g 12 [] [.int (lq9 O 2),.bool O.h]) fun c0=>(O.c (O.g 13 [] [.int (lq9 O 1900),.int (lq9 O 3),.int (lq9 O 1)]) fun c1=>(O.a [.bool (O.i (O.i (O.i (O.d (O.e c0 1) (lq9 O 0)) (O.d (O.o (O.q c0 0)) (lq9 O 1)) O.h) (O.d (O.e c1 1) (lq9 O 0)) O.h) (O.d (O.e c1 0) (lq9 O 59)) O.h)])))
def WC:Nat→Env:=eL [(12,GG),(13,NZ)]
def D1:=oS Pw Pe WC
def PH:List Nat:=[2,0,0,0,0,0,0,0,1,0,0,0,0,3]
def He (O:Alg) (x:Ags O):O.M:=let u4:=(lq9 O 0);let u3:=(O.ak (x.S 0));let u2:=(O.o (x.L 13));let u1:=(O.w (O.m (lq9 O 20) u3) (lq9 O 20) u3);let u0:=(O.w (O.m (lq9 O 10) u2) (lq9 O 10) u2);(O.n (O.am u4 u1 u3) (O.n (O.am u4 u0 u2) (O.a (ap O [.str (O.ay (x.S 0) u4 u1)] (ap O (xr x [0,0,0,0,0,0,0,1,0,0,0,0] 1) [.rows (O.ai (x.L 13) u4 u0)])))))
def FR (N:Nat):Env:=fun f fns ls=>none
def Hk:=oS PH He FR
def Yn:List Nat:=[2]
def OO (O:Alg) (x:Ags O):O.M:=let u4:=(lq9 O 1);let u3:=(lq9 O 0);let u2:=(O.aw (x.S 0));let u1:=(O.o u2);(O.c (O.aa (fun s0 c0=>let u5:=(O.e c0 0);let u0:=(O.k u2 u5 0);(O.b (O.m u5 u1) (O.n (O.r u5 u1) (O.b (O.i (O.f (O.i (O.v (O.lit .u8 65) u0) (O.v u0 (O.lit .u8 90)) O.h)) (O.i (O.d u5 u3) O.j (O.i (O.i (O.f (O.d u0 (O.lit .u8 95))) (O.f (O.d u0 (O.lit .u8 45))) O.h) (O.i (O.m u0 (O.lit .u8 48)) O.j (O.m (O.lit .u8 57) u0)) O.h)) O.h) (O.a [.int u3,.bool O.h]) (s0 [.int (O.p .i64 u5 u4)]))) (O.a [.int u4]))) [.int u3]) fun c0=>(O.b (O.ab c0 0) (O.a [.bool (O.l c0 1)]) (O.a [.bool (O.i (O.v u4 (O.ak (x.S 0))) (O.v (O.ak (x.S 0)) (lq9 O 16)) O.h)])))
def Vz:Nat→Env:=eL []
def KP:=oS Yn OO Vz
def R3:List Nat:=[0,0,0]
def S4 (O:Alg) (x:Ags O):O.M:=(O.a [.bool (O.i (O.v (x.I 1) (x.I 0)) (O.v (x.I 0) (x.I 2)) O.h)])
def YK:Nat→Env:=eL []
def CX:=oS R3 S4 YK
def SH:List Nat:=[2,0,0,0,0,0,0,0,1,0,0,0,0,3]
def IX (O:Alg) (x:Ags O):O.M:=let u10:=(lq9 O 1);let u9:=(lq9 O 0);(O.c (O.g 27 [] [.int (x.I 1),.int (lq9 O 2),.int (lq9 O 11)]) fun c0=>(O.c (O.b (O.l c0 0) (O.g 27 [] [.int (x.I 2),.int u10,.int (lq9 O 2)]) (O.a [.bool O.h])) fun c1=>let u8:=(O.i (O.l c0 0) (O.l c1 0) O.h);(O.c (O.b u8 (O.g 27 [] [.int (x.I 3),.int u9,.int (lq9 O 90)]) (O.a [.bool O.h])) fun c2=>let u7:=(O.i u8 (O.l c2 0) O.h);(O.c (O.b u7 (O.g 27 [] [.int (x.I 4),.int (lq9 O 4),.int (lq9 O 8)]) (O.a [.bool O.h])) fun c3=>let u6:=(O.i u7 (O.l c3 0) O.h);(O.c (O.b u6 (O.g 27 [] [.int (x.I 5),.int u9,.int (lq9 O 90)]) (O.a [.bool O.h])) fun c4=>let u5:=(O.i u6 (O.l c4 0) O.h);(O.c (O.b u5 (O.g 27 [] [.int (x.I 6),.int u10,.int (lq9 O 5)]) (O.a [.bool O.h])) fun c5=>let u4:=(O.i u5 (O.l c5 0) O.h);(O.c (O.b u4 (O.g 27 [] [.int (x.I 7),.int u10,.int (lq9 O 5)]) (O.a [.bool O.h])) fun c6=>let u3:=(O.i u4 (O.l c6 0) O.h);(O.c (O.b u3 (O.g 27 [] [.int (x.I 9),.int u9,.int (lq9 O 200)]) (O.a [.bool O.h])) fun c7=>let u2:=(O.i u3 (O.l c7 0) O.h);(O.c (O.b u2 (O.g 27 [] [.int (x.I 10),.int u9,.int (lq9 O 1000)]) (O.a [.bool O.h])) fun c8=>let u1:=(O.i u2 (O.l c8 0) O.h);(O.c (O.b u1 (O.g 27 [] [.int (x.I 11),.int u9,.int (lq9 O 9)]) (O.a [.bool O.h])) fun c9=>let u0:=(O.i u1 (O.l c9 0) O.h);(O.c (O.b u0 (O.g 27 [] [.int (x.I 12),.int u9,.int (lq9 O 11)]) (O.a [.bool O.h])) fun c10=>(O.a [.bool (O.i u0 (O.l c10 0) O.h)]))))))))))))
def Jv:Nat→Env:=eL [(27,CX)]
def F2:=oS SH IX Jv
def Tb:List Nat:=[2,0,0,0,0,0,0,0,1,0,0,0,0,3]
def JQ (O:Alg) (x:Ags O):O.M:=let u7:=(lq9 O 1);let u6:=(lq9 O 0);let u5:=(O.o (x.L 13));(O.b (O.m (lq9 O 8) u5) (O.a [.int (lq9 O 9)]) (O.c (O.aa (fun s0 c0=>let u8:=(O.e c0 0);let u4:=(O.k (x.L 13) u8 1);let u3:=(O.k (x.L 13) u8 0);let u2:=(O.m u6 u8);let u1:=(O.u .i64 u8 u7);let u0:=(O.i (O.i (O.m u3 u7) O.j (O.m u4 u3)) O.j (O.m (x.I 3) u4));(O.b (O.m u8 u5) (O.n (O.r u8 u5) (O.c (O.b (O.f u0) (O.g 27 [] [.int (O.k (x.L 13) u8 2),.int u6,.int (lq9 O 11)]) (O.a [.bool O.h])) fun c1=>(O.b (O.i u0 O.j (O.f (O.l c1 0))) (O.a [.int u6,.int (lq9 O 2)]) (O.n (O.f (O.s u2 (O.f (O.r u1 u5)))) (O.b (O.i u2 (O.v u3 (O.k (x.L 13) u1 1)) O.h) (O.a [.int u6,.int (lq9 O 8)]) (s0 [.int (O.p .i64 u8 u7)])))))) (O.a [.int u7]))) [.int u6]) fun c0=>(O.b (O.ab c0 0) (O.a [.int (O.e c0 1)]) (O.a [.int u6]))))
def LM:Nat→Env:=eL [(27,CX)]
def Gj:=oS Tb JQ LM
def Vy:List Nat:=[2,0,0,0,0,0,0,0,1,0,0,0,0,3]
def Kq (O:Alg) (x:Ags O):O.M:=let u2:=(lq9 O 0);let u1:=(O.f (O.d (x.I 5) u2));let u0:=(O.i (O.f (O.d (x.I 10) u2)) (O.d (x.I 2) (lq9 O 1)) O.h);(O.c (O.g 14 [] [.str (x.S 0)]) fun c0=>(O.b (O.f (O.l c0 0)) (O.a [.int (lq9 O 5)]) (O.c (O.g 15 [] (xr x kR 0)) fun c1=>(O.b (O.f (O.l c1 0)) (O.a [.int (lq9 O 2)]) (O.c (O.b u0 (O.a [.bool u0]) (O.a [.bool (O.i (O.i u1 O.j (O.m u2 (O.o (x.L 13)))) (O.d (x.I 3) u2) O.h)])) fun c2=>(O.b (O.l c2 0) (O.a [.int (lq9 O 1)]) (O.b (O.i u1 (O.m (O.af .i64 (x.I 5) (x.I 1)) (x.I 3)) O.h) (O.a [.int (lq9 O 13)]) (O.c (O.g 16 [] (xr x kR 0)) fun c3=>(O.a [.int (O.e c3 0)])))))))))
def Fm:Nat→Env:=eL [(14,KP),(15,F2),(16,Gj)]
def AN:=oS Vy Kq Fm
def WN:List Nat:=[2,0,0,0,0,0,0,0,1,0,0,0,0,3]
def MR (O:Alg) (x:Ags O):O.M:=(O.c (O.g 6 [] (xr x kR 0)) fun c0=>(O.b (O.f (O.d (O.e c0 0) (lq9 O 0))) (O.a [.int (lq9 O 0)]) (O.a [.int (O.af .i64 (x.I 3) (x.I 4))])))
def Nr:Nat→Env:=eL [(6,AN)]
theorem RL {N ls}:Nr N 6 [] ls=AN N ls:=id rfl
def Ga:=oS WN MR Nr
def Cz (N:Nat) (ls:List PV):Option (List PV):=Oy 24 ls
def Vm:List Nat:=[2,0,0,0,0,0,0,0,1,0,0,0,0,3]
def Ko (O:Alg) (x:Ags O):O.M:=(O.c (O.g 62 [] [.rows (x.L 13)]) fun c0=>(O.a (ap O (xr x [2,0,0,0,0,0,0,0,1,0,0,0,0] 0) [.rows (O.q c0 0)])))
def L6:Nat→Env:=eL [(62,Cz)]
theorem K0 {N ls}:L6 N 62 [] ls=Cz N ls:=id rfl
def DA:=oS Vm Ko L6
def Yl:List Nat:=[2,0,0,0,0,0,0,0,1,0,0,0,0,3]
def OM (O:Alg) (x:Ags O):O.M:=let u0:=(lq9 O 0);(O.c (O.g 6 [] (xr x kR 0)) fun c0=>(O.b (O.f (O.d (O.e c0 0) u0)) (O.a [.str (O.t ⟨#[]⟩),.int u0,.int u0,.int u0,.int u0,.int u0,.int u0,.int u0,.bool O.h,.int u0,.int u0,.int u0,.int u0,.rows O.y,.int (O.lit .u8 0),.int u0,.bool O.h,.rows O.y,.int u0,.int u0,.int (O.lit .u8 0),.int u0,.int u0,.int (O.e c0 0)]) (O.c (O.g 53 [] (xr x kR 0)) fun c1=>(O.a (ap O (cr O c1 kR 0) [.int (O.lit .u8 1),.int u0,.bool O.h,.rows O.y,.int u0,.int u0,.int (O.lit .u8 0),.int u0,.int u0,.int u0])))))
def Kv:Nat→Env:=eL [(6,AN),(53,DA)]
theorem Rs {N ls}:Kv N 6 [] ls=AN N ls:=id rfl
theorem Rt {N ls}:Kv N 53 [] ls=DA N ls:=id rfl
def OE:=oS Yl OM Kv
def Py:List Nat:=[0,0,0]
def PT (O:Alg) (x:Ags O):O.M:=(O.a [.bool (O.i (O.v (x.I 1) (x.I 0)) (O.v (x.I 0) (x.I 2)) O.h)])
def V9:Nat→Env:=eL []
def Ag:=oS Py PT V9
def PQ:List Nat:=[0,0,0,0,0,0,0,0,0,0,0,0,0,0,3,0,3,3,1,3,1,0,0,0,3,0,0,0,0]
def GL (O:Alg) (x:Ags O):O.M:=let u5:=(lq9 O 1);let u4:=(lq9 O 0);let u0:=(O.f (O.d (x.I 12) u4));(O.c (O.aa (fun s0 c0=>let u8:=(O.e c0 1);let u7:=(O.e c0 0);let u6:=(O.e c0 3);let u2:=(O.k (x.L 14) u6 0);let u9:=(O.i (O.l c0 2) O.j (O.f (O.d u2 (O.lit .u8 0))));let u1:=(O.p .i64 u6 u5);(O.b (O.m u6 (O.o (x.L 14))) (O.n (O.r u6 (O.o (x.L 14))) (O.b (O.m (O.lit .u8 3) u2) (O.a [.int u4,.bool O.h]) (O.b (O.d u2 (O.lit .u8 1)) (O.b (O.i (O.f (O.d (x.I 12) u1)) (O.f (O.d (x.I 13) u1)) O.h) (O.a [.int u4,.bool O.h]) (s0 [.int u7,.int (O.p .i64 u8 u5),.bool u9,.int u1])) (O.b (O.d u2 (O.lit .u8 2)) (s0 [.int (O.p .i64 u7 u5),.int u8,.bool u9,.int u1]) (s0 [.int u7,.int u8,.bool u9,.int u1]))))) (O.a (ap O [.int u5] (cr O c0 [0,0,1] 0))))) [.int u4,.int u4,.bool O.h,.int u4]) fun c0=>(O.b (O.ab c0 0) (O.a [.bool (O.l c0 1)]) (O.c (O.g 86 [] [.int (x.I 12),.int u4,.int (x.I 28)]) fun c1=>let u3:=(O.f (O.l c1 0));(O.c (O.b (O.f u3) (O.g 86 [] [.int (x.I 13),.int u4,.int (x.I 28)]) (O.a [.bool O.h])) fun c2=>(O.b (O.i (O.i u3 O.j (O.f (O.l c2 0))) O.j (O.i (O.d (x.I 12) (x.I 13)) u0 O.h)) (O.a [.bool O.h]) (O.c (O.b u0 (O.a [.int (O.p .i64 u4 u5)]) (O.a [.int u4])) fun c3=>(O.c (O.b (O.f (O.d (x.I 13) u4)) (O.a [.int (O.p .i64 (O.e c3 0) u5)]) (O.a [.int (O.e c3 0)])) fun c4=>(O.a [.bool (O.i (O.i (O.d (O.e c4 0) (O.e c0 2)) (O.i (O.f (O.l c0 3)) O.j (O.m u4 (O.e c4 0))) O.h) (O.d (O.e c0 1) (x.I 4)) O.h)]))))))))
def H2:Nat→Env:=eL [(86,Ag)]
def D3:=oS PQ GL H2
def OV:List Nat:=[3,0]
def Fi (O:Alg) (x:Ags O):O.M:=(O.c (O.aa (fun s0 c0=>let u0:=(O.e c0 0);(O.b (O.m u0 (O.o (x.L 0))) (O.n (O.r u0 (O.o (x.L 0))) (O.b (O.d (x.I 1) (O.k (x.L 0) u0 0)) (O.a [.int (lq9 O 0),.int u0]) (s0 [.int (O.p .i64 u0 (lq9 O 1))]))) (O.a [.int (lq9 O 1)]))) [.int (lq9 O 0)]) fun c0=>(O.b (O.ab c0 0) (O.a [.int (O.e c0 1)]) (O.a [.int (lq9 O (-1))])))
def Mh:Nat→Env:=eL []
def De:=oS OV Fi Mh
def LW:List Nat:=[3,0]
def Dn (O:Alg) (x:Ags O):O.M:=(O.c (O.g 109 [] [.rows (x.L 0),.int (x.I 1)]) fun c0=>(O.a [.bool (O.v (lq9 O 0) (O.e c0 0))]))
def FF:Nat→Env:=eL [(109,De)]
def Ap:=oS LW Dn FF
def NL:List Nat:=[3,0]
def E2 (O:Alg) (x:Ags O):O.M:=let u5:=(lq9 O 1);let u4:=(lq9 O 0);let u3:=(O.o (x.L 0));(O.c (O.aa (fun s0 c0=>let u6:=(O.e c0 0);let u1:=(O.k (x.L 0) u6 0);(O.b (O.m u6 u3) (O.n (O.r u6 u3) (O.c (O.g 86 [] [.int u1,.int u5,.int (x.I 1)]) fun c1=>let u2:=(O.f (O.l c1 0));let u0:=(O.f u2);(O.n (O.f (O.s u0 (O.f (O.am u4 u6 u3)))) (O.c (O.b u0 (O.g 101 [] [.rows (O.ai (x.L 0) u4 u6),.int u1]) (O.a [.bool O.h])) fun c2=>(O.b (O.i u2 O.j (O.l c2 0)) (O.a [.int u4,.bool O.h]) (s0 [.int (O.p .i64 u6 u5)])))))) (O.a [.int u5]))) [.int u4]) fun c0=>(O.b (O.ab c0 0) (O.a [.bool (O.l c0 1)]) (O.a [.bool O.j])))
def Dq:Nat→Env:=eL [(86,Ag),(101,Ap)]
def DH:=oS NL E2 Dq
def NI:List Nat:=[0]
def E9 (O:Alg) (x:Ags O):O.M:=(O.c (O.g 86 [] [.int (x.I 0),.int (lq9 O 0),.int (lq9 O 1000000000)]) fun c0=>(O.a [.bool (O.f (O.l c0 0))]))
def Gz:Nat→Env:=eL [(86,Ag)]
def DN:=oS NI E9 Gz
def PU:List Nat:=[0,0,0,0,0,0,0,0,0,0,0,0,0,0,3,0,3,3,1,3,1,0,0,0,3,0,0,0]
def GK (O:Alg) (x:Ags O):O.M:=let u2:=(lq9 O 0);let u1:=(O.ae (O.ad [[.int (x.I 1)],[.int (x.I 3)],[.int (x.I 5)],[.int (x.I 6)],[.int (x.I 7)],[.int (x.I 8)],[.int (x.I 9)],[.int (x.I 10)],[.int (x.I 21)],[.int (x.I 23)],[.int (x.I 25)],[.int (x.I 26)]]) (x.L 19));let u0:=(O.o u1);(O.n (O.ac u0 8) (O.c (O.c (O.aa (fun s0 c0=>let u3:=(O.e c0 0);(O.b (O.m u3 u0) (O.n (O.r u3 u0) (O.c (O.g 103 [] [.int (O.k u1 u3 0)]) fun c1=>(O.b (O.l c1 0) (O.a [.int u2,.int u3]) (s0 [.int (O.p .i64 u3 (lq9 O 1))])))) (O.a [.int (lq9 O 1)]))) [.int u2]) fun c0=>(O.b (O.ab c0 0) (O.a [.int (O.e c0 1)]) (O.a [.int (lq9 O (-1))]))) fun c0=>(O.a [.bool (O.f (O.v u2 (O.e c0 0)))])))
def H3:Nat→Env:=eL [(103,DN)]
def D8:=oS PU GK H3
def SE:List Nat:=[2,0,0,0,0,0,0,0,1,0,0,0,0,3,0,0,0,0,0,0,0,0,0,0,0,0,0,0,3,0,3,3,1,3,1,0,0,0,3,0,0,0]
def H7 (O:Alg) (x:Ags O):O.M:=let u11:=(lq9 O 1);let u10:=(lq9 O 0);let u8:=(O.d (x.I 3) u10);let u7:=(O.f u8);let u4:=(O.i u8 (O.d (x.I 16) u10) O.h);(O.c (O.g 6 [] (xr x kR 0)) fun c0=>let u6:=(O.f (O.d (O.e c0 0) u10));(O.c (O.b (O.f u6) (O.g 86 [] [.int (x.I 14),.int u11,.int (lq9 O 2)]) (O.a [.bool O.h])) fun c1=>(O.b (O.i u6 O.j (O.f (O.l c1 0))) (O.a [.bool O.h]) (O.b (O.i (O.i (O.i (O.f (O.d (O.o (x.L 28)) (x.I 1))) O.j (O.f (O.d (O.o (x.L 33)) (x.I 1)))) O.j (O.f (O.d (O.o (x.L 38)) (x.I 1)))) O.j (O.m (O.lit .u8 5) (x.I 41))) (O.a [.bool O.h]) (O.c (O.g 87 [] (ap O (xr x kI 14) [.int (x.I 1)])) fun c2=>let u9:=(O.f (O.l c2 0));(O.c (O.b (O.f u9) (O.g 86 [] [.int (x.I 29),.int u10,.int (x.I 1)]) (O.a [.bool O.h])) fun c3=>let u5:=(O.i u9 O.j (O.f (O.l c3 0)));(O.c (O.b (O.f u5) (O.g 86 [] [.int (x.I 36),.int u10,.int (x.I 1)]) (O.a [.bool O.h])) fun c4=>let u3:=(O.i u5 O.j (O.f (O.l c4 0)));(O.c (O.b (O.f u3) (O.g 88 [] [.rows (x.L 30),.int (x.I 1)]) (O.a [.bool O.h])) fun c5=>let u2:=(O.i u3 O.j (O.f (O.l c5 0)));(O.c (O.b (O.f u2) (O.g 88 [] [.rows (x.L 31),.int (x.I 1)]) (O.a [.bool O.h])) fun c6=>(O.b (O.i u2 O.j (O.f (O.l c6 0))) (O.a [.bool O.h]) (O.c (O.b (O.s (O.f u4) u7) (O.g 86 [] [.int (x.I 16),.int u11,.int (x.I 3)]) (O.a [.bool O.h])) fun c7=>let u1:=(O.i u4 O.j (O.i u7 (O.l c7 0) O.h));(O.c (O.b u1 (O.g 86 [] [.int (x.I 25),.int u10,.int (O.u .i64 (x.I 4) u11)]) (O.a [.bool O.h])) fun c8=>let u0:=(O.i u1 (O.l c8 0) O.h);(O.c (O.b u0 (O.g 89 [] (xr x kI 14)) (O.a [.bool O.h])) fun c9=>(O.a [.bool (O.i u0 (O.l c9 0) O.h)]))))))))))))))
def CU:Nat→Env:=eL [(6,AN),(86,Ag),(87,D3),(88,DH),(89,D8)]
def BJ:=oS SE H7 CU
def VW:List Nat:=[0]
def Kd (O:Alg) (x:Ags O):O.M:=(O.a [.int (O.u .i64 (lq9 O 3) (x.I 0))])
def SI:Nat→Env:=eL []
def BK:=oS VW Kd SI
def V2:List Nat:=[2,0,0,0,0,0,0,0,1,0,0,0,0,3,0,0,1,3,0,0,0,0,0,0]
def Km (O:Alg) (x:Ags O):O.M:=let u0:=(lq9 O 2);(O.c (O.b (O.i (x.B 16) (O.v u0 (x.I 23)) O.h) (O.a [.bool (O.d (x.I 23) u0)]) (O.a [.bool (O.d (O.ah .i64 (x.I 23) u0) (lq9 O 1))])) fun c0=>(O.b (O.l c0 0) (O.c (O.g 79 [] [.int (x.I 15)]) fun c1=>(O.a [.int (O.e c1 0)])) (O.a [.int (x.I 15)])))
def ML:Nat→Env:=eL [(79,BK)]
theorem QQ {N ls}:ML N 79 [] ls=BK N ls:=id rfl
def C9:=oS V2 Km ML
def VY:List Nat:=[2,0,0,0,0,0,0,0,1,0,0,0,0,3,0,0,1,3,0,0,0,0,0]
def Kk (O:Alg) (x:Ags O):O.M:=let u2:=(lq9 O 0);let u1:=(lq9 O 1);let u0:=(O.o (x.L 17));(O.c (O.aa (fun s0 c0=>let u3:=(O.e c0 0);(O.b (O.m u3 u0) (O.n (O.r u3 u0) (O.b (O.f (O.an (O.d (O.k (x.L 17) u3 27) (O.lit .u8 0)) (O.i (O.d (x.I 14) (O.lit .u8 3)) (O.d u3 (O.u .i64 u0 u1)) O.h))) (O.a [.int u2,.bool O.h]) (s0 [.int (O.p .i64 u3 u1)]))) (O.a [.int u1]))) [.int u2]) fun c0=>(O.b (O.ab c0 0) (O.a [.bool (O.l c0 1)]) (O.a [.bool (O.i (O.f (O.d (x.I 14) (O.lit .u8 3))) O.j (O.m u2 u0))])))
def Sj:Nat→Env:=eL []
def Hp:=oS VY Kk Sj
def Vt:List Nat:=[2,0,0,0,0,0,0,0,1,0,0,0,0,3,0,0,1,3,0,0,0,0,0]
def Kr (O:Alg) (x:Ags O):O.M:=let u8:=(lq9 O 1);let u9:=(O.d (x.I 14) (O.lit .u8 1));let u7:=(lq9 O 2);let u6:=(lq9 O 0);let u5:=(O.o (x.L 17));let u3:=(O.d (x.I 15) u6);let u2:=(O.af .i64 u7 (x.I 2));let u1:=(O.f (O.d (x.I 2) u7));(O.c (O.g 6 [] (xr x kR 0)) fun c0=>(O.b (O.i (O.i (O.f (O.d (O.e c0 0) u6)) O.j (O.m (x.I 14) (O.lit .u8 1))) O.j (O.m (O.lit .u8 5) (x.I 14))) (O.a [.bool O.h]) (O.c (O.aa (fun s1 c1=>let u11:=(O.e c1 0);let u0:=(O.w (O.d u11 u8) (x.I 19) (x.I 18));(O.b (O.m u11 u7) (O.n (O.r u11 u7) (O.b (O.i (O.m u0 u6) O.j (O.m (lq9 O 1000000) u0)) (O.a [.int u6,.bool O.h]) (s1 [.int (O.p .i64 u11 u8)]))) (O.a [.int u8]))) [.int u6]) fun c1=>(O.b (O.ab c1 0) (O.a [.bool (O.l c1 1)]) (O.b (O.i (O.i (O.m (x.I 15) u6) O.j (O.m u7 (x.I 15))) O.j (O.m u2 u5)) (O.a [.bool O.h]) (O.b (O.i u3 (O.i (O.m u6 u5) O.j (O.i (O.f u9) (O.f (O.d (x.I 14) (O.lit .u8 5))) O.h)) O.h) (O.a [.bool O.h]) (O.b (O.i u9 (O.f u3) O.h) (O.a [.bool O.h]) (O.b (O.i (O.d (x.I 14) (O.lit .u8 2)) (O.d u5 u2) O.h) (O.a [.bool O.h]) (O.b (O.i (O.d (x.I 14) (O.lit .u8 4)) (O.i u1 O.j (O.f (O.d u5 u7))) O.h) (O.a [.bool O.h]) (O.b (O.i (x.B 16) (O.i u1 O.j (O.m u5 u7)) O.h) (O.a [.bool O.h]) (O.c (O.aa (fun s2 c2=>let u10:=(O.e c2 0);(O.b (O.m u10 u5) (O.n (O.r u10 u5) (O.c (O.g 71 [] (ap O (xr x kR 0) (rr O (x.L 17) u10 kI 0))) fun c3=>let u4:=(O.f (O.l c3 0));(O.c (O.b (O.f u4) (O.g 72 [] (ap O (xr x kM 0) [.int u10])) (O.a [.int u6])) fun c4=>(O.b (O.i u4 O.j (O.f (O.d (O.k (x.L 17) u10 0) (O.e c4 0)))) (O.a [.int u6,.bool O.h]) (s2 [.int (O.p .i64 u10 u8)]))))) (O.a [.int u8]))) [.int u6]) fun c2=>(O.b (O.ab c2 0) (O.a [.bool (O.l c2 1)]) (O.c (O.g 73 [] (xr x kM 0)) fun c3=>(O.a [.bool (O.l c3 0)]))))))))))))))
def Dp:Nat→Env:=eL [(6,AN),(71,BJ),(72,C9),(73,Hp)]
theorem QS {N ls}:Dp N 6 [] ls=AN N ls:=id rfl
theorem HA {N ls}:Dp N 71 [] ls=BJ N ls:=id rfl
theorem IC {N ls}:Dp N 72 [] ls=C9 N ls:=id rfl
theorem H9 {N ls}:Dp N 73 [] ls=Hp N ls:=id rfl
def C7:=oS Vt Kr Dp
def UN:List Nat:=[0]
def Ji (O:Alg) (x:Ags O):O.M:=(O.b (O.d (x.I 0) (O.lit .u8 7)) (O.a [.int (lq9 O 0),.int (lq9 O 11)]) (O.b (O.d (x.I 0) (O.lit .u8 13)) (O.a [.int (lq9 O 1),.int (lq9 O 99)]) (O.a [.int (lq9 O 0),.int (lq9 O 100000)])))
def Re:Nat→Env:=eL []
def GW:=oS UN Ji Re
def Ru:List Nat:=[0,0,0]
def MN (O:Alg) (x:Ags O):O.M:=(O.a [.bool (O.i (O.v (x.I 1) (x.I 0)) (O.v (x.I 0) (x.I 2)) O.h)])
def Pk:Nat→Env:=eL []
def Fz:=oS Ru MN Pk
def CT (N:Nat) (ls:List PV):Option (List PV):=aE ls
def NO:List Nat:=[2,0]
def E7 (O:Alg) (x:Ags O):O.M:=(O.c (O.g 104 [] [.str (x.S 0),.int (x.I 1)]) fun c0=>(O.a [.int (O.e c0 0)]))
def Gw:Nat→Env:=eL [(104,CT)]
theorem G4 {N ls}:Gw N 104 [] ls=CT N ls:=id rfl
def DK:=oS NO E7 Gw
def Vv:List Nat:=[]
def V1 (O:Alg) (x:Ags O):O.M:=let u4:=(O.t ⟨#[]⟩);let u3:=(O.t ⟨#[112]⟩);let u2:=(O.t ⟨#[112,121]⟩);let u1:=(O.t ⟨#[115,121]⟩);let u0:=(O.t ⟨#[70,73,69,76,68]⟩);(O.a [.rows (O.ad [[.str (O.t ⟨#[84,79,83,83]⟩),.str u1,.str (O.t ⟨#[66,65,84]⟩),.str u0],[.str (O.t ⟨#[79,80,69,78]⟩),.str (O.t ⟨#[112,111]⟩),.str u4,.str u4],[.str (O.t ⟨#[66,79,87,76]⟩),.str u3,.str u4,.str u4],[.str (O.t ⟨#[66,65,76,76]⟩),.str (O.t ⟨#[98]⟩),.str u4,.str u4],[.str (O.t ⟨#[69,78,84,69,82]⟩),.str u3,.str u4,.str u4],[.str (O.t ⟨#[82,69,84,73,82,69]⟩),.str u2,.str (O.t ⟨#[72,85,82,84]⟩),.str (O.t ⟨#[79,85,84]⟩)],[.str u0,.str (O.t ⟨#[114]⟩),.str u4,.str u4],[.str (O.t ⟨#[75,69,69,80,69,82]⟩),.str u3,.str u4,.str u4],[.str (O.t ⟨#[83,85,66]⟩),.str u2,.str (O.t ⟨#[79,78]⟩),.str (O.t ⟨#[79,70,70]⟩)],[.str (O.t ⟨#[78,69,87,66,65,76,76]⟩),.str u4,.str u4,.str u4],[.str (O.t ⟨#[68,69,67,76,65,82,69]⟩),.str (O.t ⟨#[115]⟩),.str u4,.str u4],[.str (O.t ⟨#[70,79,76,76,79,87]⟩),.str u1,.str (O.t ⟨#[89,69,83]⟩),.str (O.t ⟨#[78,79]⟩)],[.str (O.t ⟨#[80,69,78,65,76,84,89]⟩),.str (O.t ⟨#[115,114]⟩),.str u4,.str u4],[.str (O.t ⟨#[82,69,86,73,69,87]⟩),.str u1,.str (O.t ⟨#[75,69,80,84]⟩),.str (O.t ⟨#[76,79,83,84]⟩)],[.str (O.t ⟨#[82,69,86,73,83,69]⟩),.str (O.t ⟨#[114,118]⟩),.str u4,.str u4],[.str (O.t ⟨#[83,84,79,80]⟩),.str u4,.str u4,.str u4]])])
def cK:Nat→Env:=eL []
def FJ:=oS Vv V1 cK
def XG:List Nat:=[0,0]
def Mm (O:Alg) (x:Ags O):O.M:=(O.c (O.g 91 [] []) fun c0=>(O.n (O.r (O.u .u8 (x.I 0) (O.lit .u8 1)) (O.o (O.q c0 0))) (O.c (O.g 90 [] [.str (O.rS (O.q c0 0) (O.u .u8 (x.I 0) (O.lit .u8 1)) 1),.int (x.I 1)]) fun c1=>(O.a [.bool (O.i (O.v (lq9 O 0) (O.e c1 0)) O.j (O.i (O.d (x.I 0) (O.lit .u8 5)) (O.d (x.I 1) (O.lit .u8 121)) O.h))]))))
def JX:Nat→Env:=eL [(90,DK),(91,FJ)]
theorem M1 {N ls}:JX N 90 [] ls=DK N ls:=id rfl
theorem Rk {N ls}:JX N 91 [] ls=FJ N ls:=id rfl
def Ia:=oS XG Mm JX
def Oq:List Nat:=[0,0,0]
def Ic (O:Alg) (x:Ags O):O.M:=(O.a [.bool (O.i (O.v (x.I 1) (x.I 0)) (O.v (x.I 0) (x.I 2)) O.h)])
def Ma:Nat→Env:=eL []
def Dd:=oS Oq Ic Ma
def Rd:List Nat:=[0,0,0,0,0,1,0,0,0,0,1,0]
def HV (O:Alg) (x:Ags O):O.M:=let u5:=(lq9 O 0);(O.b (O.i (O.i (O.i (O.m (x.I 0) (O.lit .u8 1)) O.j (O.m (O.lit .u8 3) (x.I 0))) O.j (O.m (O.lit .u8 3) (x.I 1))) O.j (O.m (O.lit .u8 10) (x.I 6))) (O.a [.int (lq9 O 3)]) (O.c (O.g 92 [] [.int (x.I 2),.int u5,.int (lq9 O 7)]) fun c0=>let u4:=(O.f (O.l c0 0));(O.c (O.b (O.f u4) (O.g 92 [] [.int (x.I 3),.int u5,.int (x.I 2)]) (O.a [.bool O.h])) fun c1=>let u3:=(O.i (O.i u4 O.j (O.f (O.l c1 0))) O.j (O.i (O.i (O.f (O.d (x.I 4) u5)) (O.f (O.d (x.I 4) (lq9 O 4))) O.h) (O.f (O.d (x.I 4) (lq9 O 6))) O.h));(O.c (O.b (O.f u3) (O.g 92 [] [.int (x.I 7),.int u5,.int (lq9 O 2)]) (O.a [.bool O.h])) fun c2=>let u2:=(O.i u3 O.j (O.f (O.l c2 0)));(O.c (O.b (O.f u2) (O.g 92 [] [.int (x.I 8),.int u5,.int (lq9 O 11)]) (O.a [.bool O.h])) fun c3=>let u1:=(O.i u2 O.j (O.f (O.l c3 0)));(O.c (O.b (O.f u1) (O.g 92 [] [.int (x.I 9),.int u5,.int (lq9 O 11)]) (O.a [.bool O.h])) fun c4=>let u0:=(O.i u1 O.j (O.f (O.l c4 0)));(O.c (O.b (O.f u0) (O.g 92 [] [.int (x.I 11),.int u5,.int (lq9 O 8)]) (O.a [.bool O.h])) fun c5=>(O.b (O.i u0 O.j (O.f (O.l c5 0))) (O.a [.int (lq9 O 2)]) (O.a [.int u5])))))))))
def I4:Nat→Env:=eL [(92,Dd)]
theorem KH {N ls}:I4 N 92 [] ls=Dd N ls:=id rfl
def Ee:=oS Rd HV I4
def Vr:List Nat:=[0,0,0,0,1,0,0,0,0,0,0,0,1,0,0,0,0,1,0]
def Hc (O:Alg) (x:Ags O):O.M:=let u14:=(lq9 O 1);let u13:=(lq9 O 0);let u8:=(O.d (x.I 9) u13);let u15:=(O.lit .u8 0);let u7:=(O.d (x.I 6) u13);let u6:=(O.d (x.I 5) u13);let u5:=(O.d (x.I 3) u13);let u4:=(O.d (x.I 2) u13);let u3:=(O.d (x.I 1) u13);let u2:=(O.d (x.I 11) u13);let u1:=(O.d (x.I 10) u13);let u0:=(O.s (O.d (x.I 14) u13) (O.s (O.d (x.I 15) u13) (O.s (O.d (x.I 16) u13) (O.s (O.an (x.B 17) O.h) (O.d (x.I 18) u13)))));(O.b (O.i (O.m (x.I 0) (O.lit .u8 1)) O.j (O.m (O.lit .u8 16) (x.I 0))) (O.a [.int (lq9 O 3)]) (O.c (O.g 74 [] [.int (x.I 0)]) fun c0=>(O.c (O.g 75 [] [.int (x.I 1),.int u14,.int (lq9 O 2)]) fun c1=>(O.c (O.g 75 [] [.int (x.I 2),.int u14,.int (lq9 O 11)]) fun c2=>(O.c (O.g 75 [] [.int (x.I 3),.int u14,.int (lq9 O 11)]) fun c3=>(O.c (O.g 75 [] [.int (x.I 5),.int (O.e c0 0),.int (O.e c0 1)]) fun c4=>(O.c (O.g 75 [] [.int (x.I 6),.int u13,.int (lq9 O 90)]) fun c5=>let u12:=(O.ad [[.int (O.lit .u8 115),.bool u3,.bool (O.l c1 0)],[.int (O.lit .u8 112),.bool u4,.bool (O.l c2 0)],[.int (O.lit .u8 111),.bool u5,.bool (O.l c3 0)],[.int (O.lit .u8 121),.bool (O.f (x.B 4)),.bool O.j],[.int (O.lit .u8 114),.bool u6,.bool (O.l c4 0)],[.int (O.lit .u8 118),.bool u7,.bool (O.l c5 0)],[.int (O.lit .u8 98),.bool (O.s (O.d (x.I 7) u15) (O.s (O.d (x.I 8) u15) (O.s u8 (O.s u1 (O.s u2 (O.s (O.an (x.B 12) O.h) (O.s (O.d (x.I 13) u15) u0))))))),.bool O.j]]);let u11:=(O.o u12);(O.c (O.aa (fun s6 c6=>let u16:=(O.e c6 0);let u9:=(O.f (O.rB u12 u16 1));(O.b (O.m u16 u11) (O.n (O.r u16 u11) (O.c (O.b u9 (O.g 76 [] [.int (x.I 0),.int (O.k u12 u16 0)]) (O.a [.bool O.h])) fun c7=>(O.b (O.i u9 (O.f (O.l c7 0)) O.h) (O.a [.int u13,.int u14]) (s6 [.int (O.p .i64 u16 u14)])))) (O.a [.int u14]))) [.int u13]) fun c6=>(O.b (O.ab c6 0) (O.a [.int (O.e c6 1)]) (O.c (O.aa (fun s7 c7=>let u17:=(O.e c7 0);let u10:=(O.f (O.rB u12 u17 2));(O.b (O.m u17 u11) (O.n (O.r u17 u11) (O.c (O.b u10 (O.g 76 [] [.int (x.I 0),.int (O.k u12 u17 0)]) (O.a [.bool O.h])) fun c8=>(O.b (O.i u10 (O.l c8 0) O.h) (O.a [.int u13,.int (lq9 O 2)]) (s7 [.int (O.p .i64 u17 u14)])))) (O.a [.int u14]))) [.int u13]) fun c7=>(O.b (O.ab c7 0) (O.a [.int (O.e c7 1)]) (O.b (O.d (x.I 0) (O.lit .u8 4)) (O.c (O.g 77 [] (xr x [0,0,0,0,0,1,0,0,0,0,1,0] 7)) fun c8=>(O.a [.int (O.e c8 0)])) (O.a [.int u13])))))))))))))
def Dm:Nat→Env:=eL [(74,GW),(75,Fz),(76,Ia),(77,Ee)]
theorem Hb {N ls}:Dm N 74 [] ls=GW N ls:=id rfl
theorem G8 {N ls}:Dm N 75 [] ls=Fz N ls:=id rfl
theorem Iv {N ls}:Dm N 76 [] ls=Ia N ls:=id rfl
theorem DP {N ls}:Dm N 77 [] ls=Ee N ls:=id rfl
def C8:=oS Vr Hc Dm
def AS (N:Nat) (ls:List PV):Option (List PV):=Oy 1 ls
def Aa (N:Nat) (ls:List PV):Option (List PV):=Oy 8 ls
def AX (N:Nat) (ls:List PV):Option (List PV):=Oy 1 ls
def SN:List Nat:=[0,0,0,0,0,0,0,0,0,0,0,0,0,0,3,0,3,3,1,3,1,0,0,0,3,0,0,0]
def IV (O:Alg) (x:Ags O):O.M:=(O.c (O.g 93 [] [.rows (x.L 14)]) fun c0=>(O.c (O.g 94 [] [.rows (x.L 16)]) fun c1=>(O.c (O.g 94 [] [.rows (x.L 17)]) fun c2=>(O.c (O.g 94 [] [.rows (x.L 19)]) fun c3=>(O.c (O.g 95 [] [.rows (x.L 24)]) fun c4=>(O.a (ap O (xr x [0,0,0,0,0,0,0,0,0,0,0,0,0,0] 0) (ap O [.rows (O.q c0 0),.int (x.I 15),.rows (O.q c1 0),.rows (O.q c2 0),.bool (x.B 18),.rows (O.q c3 0)] (ap O (xr x [1,0,0,0] 20) (ap O [.rows (O.q c4 0)] (xr x [0,0,0] 25)))))))))))
def EF:Nat→Env:=eL [(93,AS),(94,Aa),(95,AX)]
theorem Jd {N ls}:EF N 93 [] ls=AS N ls:=id rfl
theorem K4 {N ls}:EF N 94 [] ls=Aa N ls:=id rfl
theorem KS {N ls}:EF N 95 [] ls=AX N ls:=id rfl
def AQ:=oS SN IV EF
def V5:List Nat:=[2,0,0,0,0,0,0,0,1,0,0,0,0,3,0,0,1,3,0,0,0,0,0]
def Ke (O:Alg) (x:Ags O):O.M:=(O.c (O.g 53 [] (xr x kR 0)) fun c0=>(O.c (O.aa (fun s1 c1=>let u1:=(O.e c1 1);(O.b (O.m u1 (O.o (x.L 17))) (O.n (O.r u1 (O.o (x.L 17))) (O.c (O.g 78 [] (rr O (x.L 17) u1 kI 0)) fun c2=>let u0:=(O.ae (O.q c1 0) (O.ad [(cr O c2 kI 0)]));(O.n (O.ac (O.o u0) 304) (s1 [.rows u0,.int (O.p .i64 u1 (lq9 O 1))])))) (O.a [.rows (O.q c1 0)]))) [.rows O.y,.int (lq9 O 0)]) fun c1=>(O.a (ap O (cr O c0 kR 0) (ap O (xr x [0,0,1] 14) (ap O [.rows (O.q c1 0)] (xr x [0,0,0,0,0] 18)))))))
def IQ:Nat→Env:=eL [(53,DA),(78,AQ)]
theorem QI {N ls}:IQ N 53 [] ls=DA N ls:=id rfl
theorem G5 {N ls}:IQ N 78 [] ls=AQ N ls:=id rfl
def Hr:=oS V5 Ke IQ
def VX:List Nat:=[2,0,0,0,0,0,0,0,1,0,0,0,0,3,0,0,1,3,0,0,0,0,0,0]
def KY (O:Alg) (x:Ags O):O.M:=(O.c (O.aa (fun s0 c0=>let u2:=(O.e c0 0);let u1:=(O.e c0 1);let u0:=(O.p .i64 u1 (lq9 O 1));(O.b (O.m u1 (O.o (x.L 17))) (O.n (O.r u1 (O.o (x.L 17))) (O.b (O.d (O.k (x.L 17) u1 0) (x.I 23)) (s0 [.int (O.p .i64 u2 (O.k (x.L 17) u1 3)),.int u0]) (s0 [.int u2,.int u0]))) (O.a [.int u2]))) [.int (lq9 O 0),.int (lq9 O 0)]) fun c0=>(O.a [.int (O.e c0 0)]))
def Sx:Nat→Env:=eL []
def Bu:=oS VX KY Sx
def Oj:List Nat:=[2,0,0,0,0,0,0,0,1,0,0,0,0,3]
def Fk (O:Alg) (x:Ags O):O.M:=(O.b (O.d (x.I 3) (lq9 O 0)) (O.a [.int (O.lit .u8 5)]) (O.a [.int (O.lit .u8 6)]))
def Mp:Nat→Env:=eL []
def Bk:=oS Oj Fk Mp
def Rz:List Nat:=[2,0,0,0,0,0,0,0,1,0,0,0,0,3,0,0,1,3,0,0,0,0,0]
def IW (O:Alg) (x:Ags O):O.M:=let u10:=(lq9 O 1);let u9:=(lq9 O 0);let u8:=(O.o (x.L 17));let u11:=(O.lit .u8 0);let u7:=(O.d u8 (lq9 O 3));let u6:=(O.u .i64 u8 u10);let u5:=(O.d u8 (O.af .i64 (lq9 O 2) (x.I 2)));let u4:=(O.k (x.L 17) u6 1);let u3:=(O.k (x.L 17) u6 3);let u2:=(O.k (x.L 17) u6 0);let u1:=(O.k (x.L 17) u6 27);let u0:=(O.u .i64 u4 u10);(O.c (O.g 63 [] (xr x kM 0)) fun c0=>(O.b (O.i (O.f (O.l c0 0)) O.j (O.d u8 u9)) (O.a [.int u11,.int u9,.int u9]) (O.n (O.r u6 u8) (O.c (O.g 79 [] [.int u2]) fun c1=>let u12:=(O.e c1 0);(O.b (O.d u1 (O.lit .u8 5)) (O.c (O.g 99 [] (xr x kR 0)) fun c2=>(O.a [.int (O.e c2 0),.int u9,.int u9])) (O.b (O.d u1 u11) (O.a [.int u11,.int u9,.int u9]) (O.b (O.i u5 (O.v u4 u3) O.h) (O.a [.int (O.lit .u8 2),.int u2,.int (O.u .i64 (O.u .i64 (x.I 1) u10) (O.k (x.L 17) u6 4))]) (O.b (O.i u5 (O.d u3 u0) O.h) (O.a [.int (O.lit .u8 4),.int u9,.int u9]) (O.b u5 (O.a [.int (O.lit .u8 1),.int u12,.int (O.u .i64 u0 u3)]) (O.c (O.b u7 (O.g 83 [] (ap O (xr x kM 0) [.int u2])) (O.a [.int u9])) fun c2=>(O.c (O.b u7 (O.g 83 [] (ap O (xr x kM 0) [.int u12])) (O.a [.int u9])) fun c3=>(O.b (O.i u7 (O.m (O.e c2 0) (O.e c3 0)) O.h) (O.c (O.g 83 [] (ap O (xr x kM 0) [.int u12])) fun c4=>(O.c (O.g 83 [] (ap O (xr x kM 0) [.int u2])) fun c5=>(O.a [.int (O.lit .u8 3),.int u12,.int (O.u .i64 (O.e c4 0) (O.e c5 0))]))) (O.a [.int u11,.int u9,.int u9])))))))))))))
def C5:Nat→Env:=eL [(63,C7),(79,BK),(83,Bu),(99,Bk)]
theorem OY {N ls}:C5 N 63 [] ls=C7 N ls:=id rfl
theorem OZ {N ls}:C5 N 79 [] ls=BK N ls:=id rfl
theorem OW {N ls}:C5 N 83 [] ls=Bu N ls:=id rfl
theorem LB {N ls}:C5 N 99 [] ls=Bk N ls:=id rfl
def Fa:=oS Rz IW C5
def Sq:List Nat:=[2,0,0,0,0,0,0,0,1,0,0,0,0,3,0,0,0]
def IJ (O:Alg) (x:Ags O):O.M:=let u4:=(lq9 O 0);let u3:=(O.ac (x.I 1) 1);let u2:=(lq9 O 1000000);(O.c (O.g 6 [] (xr x kR 0)) fun c0=>(O.b (O.f (O.d (O.e c0 0) u4)) (O.a [.int u4,.int u4,.int u4,.int u4,.int u4,.int u4,.int u4,.int u4,.int u4,.int u4,.int u4,.int u4,.int u4,.int u4,.rows O.y,.int u4,.rows O.y,.rows O.y,.bool O.h,.rows O.y,.bool O.h,.int u4,.int u4,.int u4,.rows O.y,.int u4,.int u4,.int (O.lit .u8 0),.int (O.e c0 0)]) (O.c (O.g 86 [] [.int (x.I 14),.int (lq9 O 1),.int (lq9 O 2)]) fun c1=>let u1:=(O.f (O.l c1 0));(O.c (O.b (O.f u1) (O.g 86 [] [.int (x.I 15),.int u4,.int u2]) (O.a [.bool O.h])) fun c2=>let u0:=(O.i u1 O.j (O.f (O.l c2 0)));(O.c (O.b (O.f u0) (O.g 86 [] [.int (x.I 16),.int u4,.int u2]) (O.a [.bool O.h])) fun c3=>(O.b (O.i u0 O.j (O.f (O.l c3 0))) (O.a [.int u4,.int u4,.int u4,.int u4,.int u4,.int u4,.int u4,.int u4,.int u4,.int u4,.int u4,.int u4,.int u4,.int u4,.rows O.y,.int u4,.rows O.y,.rows O.y,.bool O.h,.rows O.y,.bool O.h,.int u4,.int u4,.int u4,.rows O.y,.int u4,.int u4,.int (O.lit .u8 0),.int (lq9 O 2)]) (O.n u3 (O.n (O.ac (x.I 1) 8) (O.n u3 (O.a [.int (x.I 14),.int (x.I 15),.int (x.I 3),.int (x.I 16),.int u4,.int u4,.int u4,.int u4,.int u4,.int (x.I 16),.int u4,.int u4,.int u4,.int u4,.rows (O.ap (x.I 1) [.int (O.lit .u8 0)]),.int u4,.rows O.y,.rows O.y,.bool O.h,.rows (O.ap (x.I 1) [.int u4]),.bool O.h,.int u4,.int u4,.int u4,.rows (O.ap (x.I 1) [.bool O.h]),.int u4,.int u4,.int (O.lit .u8 0),.int u4]))))))))))
def GF:Nat→Env:=eL [(6,AN),(86,Ag)]
theorem Oe {N ls}:GF N 6 [] ls=AN N ls:=id rfl
theorem Ls {N ls}:GF N 86 [] ls=Ag N ls:=id rfl
def Fx:=oS Sq IJ GF
def UB:List Nat:=[2,0,0,0,0,0,0,0,1,0,0,0,0,3,0,0,1,3,0,0,0,0,0,0]
def Jc (O:Alg) (x:Ags O):O.M:=(O.b (O.m (O.p .i64 (O.o (x.L 17)) (lq9 O 1)) (O.af .i64 (lq9 O 2) (x.I 2))) (O.a [.int (lq9 O 0)]) (O.c (O.g 79 [] [.int (x.I 23)]) fun c0=>(O.c (O.g 83 [] (ap O (xr x kM 0) [.int (O.e c0 0)])) fun c1=>(O.c (O.g 83 [] (xr x [2,0,0,0,0,0,0,0,1,0,0,0,0,3,0,0,1,3,0,0,0,0,0,0] 0)) fun c2=>(O.a [.int (O.p .i64 (O.u .i64 (O.e c1 0) (O.e c2 0)) (lq9 O 1))])))))
def HZ:Nat→Env:=eL [(79,BK),(83,Bu)]
theorem PL {N ls}:HZ N 79 [] ls=BK N ls:=id rfl
theorem PF {N ls}:HZ N 83 [] ls=Bu N ls:=id rfl
def GZ:=oS UB Jc HZ
def Pp:List Nat:=[0]
def Ju (O:Alg) (x:Ags O):O.M:=(O.a [.bool (O.f (O.d (x.I 0) (O.lit .u8 0)))])
def NK:Nat→Env:=eL []
def EB:=oS Pp Ju NK
def SV:List Nat:=[0,0,0,0,0,0,0,0,0,0,0,0,0,0,3,0,3,3,1,3,1,0,0,0,3,0,0,0]
def IY (O:Alg) (x:Ags O):O.M:=let u0:=(lq9 O 0);(O.c (O.c (O.aa (fun s0 c0=>let u1:=(O.e c0 0);(O.b (O.m u1 (O.o (x.L 14))) (O.n (O.r u1 (O.o (x.L 14))) (O.c (O.g 113 [] [.int (O.k (x.L 14) u1 0)]) fun c1=>(O.b (O.l c1 0) (O.a [.int u0,.int u1]) (s0 [.int (O.p .i64 u1 (lq9 O 1))])))) (O.a [.int (lq9 O 1)]))) [.int u0]) fun c0=>(O.b (O.ab c0 0) (O.a [.int (O.e c0 1)]) (O.a [.int (lq9 O (-1))]))) fun c0=>(O.a [.bool (O.v u0 (O.e c0 0))]))
def J1:Nat→Env:=eL [(113,EB)]
theorem FB {N ls}:J1 N 113 [] ls=EB N ls:=id rfl
def FQ:=oS SV IY J1
def WU:List Nat:=[0,0,0,0,0,0,0,0,0,0,0,0,0,0,3,0,3,3,1,3,1,0,0,0,3,0,0,0]
def Mf (O:Alg) (x:Ags O):O.M:=(O.c (O.g 93 [] [.rows (x.L 14)]) fun c0=>(O.c (O.g 94 [] [.rows (x.L 16)]) fun c1=>(O.c (O.g 94 [] [.rows (x.L 17)]) fun c2=>(O.c (O.g 94 [] [.rows (x.L 19)]) fun c3=>(O.c (O.g 95 [] [.rows (x.L 24)]) fun c4=>(O.a (ap O (xr x [0,0,0,0,0,0,0,0,0,0,0,0,0,0] 0) (ap O [.rows (O.q c0 0),.int (x.I 15),.rows (O.q c1 0),.rows (O.q c2 0),.bool (x.B 18),.rows (O.q c3 0)] (ap O (xr x [1,0,0,0] 20) (ap O [.rows (O.q c4 0)] (xr x [0,0,0] 25)))))))))))
def Gx:Nat→Env:=eL [(93,AS),(94,Aa),(95,AX)]
theorem K8 {N ls}:Gx N 93 [] ls=AS N ls:=id rfl
theorem M7 {N ls}:Gx N 94 [] ls=Aa N ls:=id rfl
theorem Mx {N ls}:Gx N 95 [] ls=AX N ls:=id rfl
def Au:=oS WU Mf Gx
def Qn:List Nat:=[0]
def LA (O:Alg) (x:Ags O):O.M:=(O.a [.bool (O.f (O.d (x.I 0) (O.lit .u8 0)))])
def O0:Nat→Env:=eL []
def Cr:=oS Qn LA O0
def Ti:List Nat:=[0,0,0,0,0,0,0,0,0,0,0,0,0,0,3,0,3,3,1,3,1,0,0,0,3,0,0,0]
def Eb (O:Alg) (x:Ags O):O.M:=let u0:=(lq9 O 0);(O.c (O.c (O.aa (fun s0 c0=>let u1:=(O.e c0 0);(O.b (O.m u1 (O.o (x.L 14))) (O.n (O.r u1 (O.o (x.L 14))) (O.c (O.g 146 [] [.int (O.k (x.L 14) u1 0)]) fun c1=>(O.b (O.l c1 0) (O.a [.int u0,.int u1]) (s0 [.int (O.p .i64 u1 (lq9 O 1))])))) (O.a [.int (lq9 O 1)]))) [.int u0]) fun c0=>(O.b (O.ab c0 0) (O.a [.int (O.e c0 1)]) (O.a [.int (lq9 O (-1))]))) fun c0=>(O.a [.bool (O.v u0 (O.e c0 0))]))
def Ej:Nat→Env:=eL [(146,Cr)]
theorem GB {N ls}:Ej N 146 [] ls=Cr N ls:=id rfl
def Bz:=oS Ti Eb Ej
def UE:List Nat:=[0,0,0,0,0,0,0,0,0,0,0,0,0,0,3,0,3,3,1,3,1,0,0,0,3,0,0,0,0]
def Jp (O:Alg) (x:Ags O):O.M:=(O.a [.bool (O.i (O.v (lq9 O 1) (x.I 28)) (O.v (x.I 28) (O.o (x.L 14))) O.h)])
def RU:Nat→Env:=eL []
def Av:=oS UE Jp RU
def Vp:List Nat:=[0,0,0,0,0,0,0,0,0,0,0,0,0,0,3,0,3,3,1,3,1,0,0,0,3,0,0,0,0,0]
def Ku (O:Alg) (x:Ags O):O.M:=let u3:=(lq9 O 1);let u1:=(O.u .i64 (x.I 29) u3);let u0:=(O.u .i64 (x.I 28) u3);(O.c (O.g 131 [] (xr x kI 0)) fun c0=>let u4:=(O.q c0 14);(O.c (O.g 132 [] (xr x kI 0)) fun c1=>(O.b (O.l c1 0) (O.a (ap O (cr O c0 kI 0) [.int u3])) (O.c (O.g 133 [] (xr x [0,0,0,0,0,0,0,0,0,0,0,0,0,0,3,0,3,3,1,3,1,0,0,0,3,0,0,0,0] 0)) fun c2=>let u2:=(O.f (O.l c2 0));(O.c (O.b (O.f u2) (O.g 133 [] (ap O (xr x kI 0) [.int (x.I 29)])) (O.a [.bool O.h])) fun c3=>(O.b (O.i u2 O.j (O.f (O.l c3 0))) (O.a (ap O (cr O c0 kI 0) [.int (lq9 O 3)])) (O.b (O.d (x.I 28) (x.I 29)) (O.a (ap O (cr O c0 kI 0) [.int (lq9 O 4)])) (O.n (O.r u0 (O.o u4)) (O.n (O.r u1 (O.o (O.x u4 u0 0 [.int (O.lit .u8 1)]))) (O.a (ap O (cr O c0 [0,0,0,0,0,0,0,0,0,0,0,0] 0) (ap O [.int (x.I 28),.int (x.I 29),.rows (O.x (O.x u4 u0 0 [.int (O.lit .u8 1)]) u1 0 [.int (O.lit .u8 1)])] (ap O (cr O c0 [0,3,3,1,3,1,0,0,0,3,0,0,0] 15) [.int (lq9 O 0)])))))))))))))
def Fp:Nat→Env:=eL [(131,Au),(132,Bz),(133,Av)]
theorem RX {N ls}:Fp N 131 [] ls=Au N ls:=id rfl
theorem PG {N ls}:Fp N 132 [] ls=Bz N ls:=id rfl
theorem PO {N ls}:Fp N 133 [] ls=Av N ls:=id rfl
def Hl:=oS Vp Ku Fp
def Y3:List Nat:=[0,0,0,0,0,0,0,0,0,0,0,0,0,0,3,0,3,3,1,3,1,0,0,0,3,0,0,0]
def OL (O:Alg) (x:Ags O):O.M:=(O.c (O.g 93 [] [.rows (x.L 14)]) fun c0=>(O.c (O.g 94 [] [.rows (x.L 16)]) fun c1=>(O.c (O.g 94 [] [.rows (x.L 17)]) fun c2=>(O.c (O.g 94 [] [.rows (x.L 19)]) fun c3=>(O.c (O.g 95 [] [.rows (x.L 24)]) fun c4=>(O.a (ap O (xr x [0,0,0,0,0,0,0,0,0,0,0,0,0,0] 0) (ap O [.rows (O.q c0 0),.int (x.I 15),.rows (O.q c1 0),.rows (O.q c2 0),.bool (x.B 18),.rows (O.q c3 0)] (ap O (xr x [1,0,0,0] 20) (ap O [.rows (O.q c4 0)] (xr x [0,0,0] 25)))))))))))
def Hj:Nat→Env:=eL [(93,AS),(94,Aa),(95,AX)]
theorem Lm {N ls}:Hj N 93 [] ls=AS N ls:=id rfl
theorem Ng {N ls}:Hj N 94 [] ls=Aa N ls:=id rfl
theorem M8 {N ls}:Hj N 95 [] ls=AX N ls:=id rfl
def Cd:=oS Y3 OL Hj
def Vo:List Nat:=[0,0,0,0,0,0,0,0,0,0,0,0,0,0,3,0,3,3,1,3,1,0,0,0,3,0,0,0,0]
def Kg (O:Alg) (x:Ags O):O.M:=(O.a [.bool (O.i (O.v (lq9 O 1) (x.I 28)) (O.v (x.I 28) (O.o (x.L 19))) O.h)])
def Sn:Nat→Env:=eL []
def Bx:=oS Vo Kg Sn
def WT:List Nat:=[2,0,0,0,0,0,0,0,1,0,0,0,0,3,0,0,0,0,0,0,0,0,0,0,0,0,0,0,3,0,3,3,1,3,1,0,0,0,3,0,0,0,0]
def MT (O:Alg) (x:Ags O):O.M:=let u4:=(lq9 O 0);let u2:=(O.u .i64 (x.I 42) (lq9 O 1));let u1:=(O.k (x.L 33) u2 0);let u0:=(O.u .i64 (O.af .i64 (x.I 5) (x.I 4)) (O.w (O.m u1 u4) u4 u1));(O.c (O.g 147 [] (xr x [0,0,0,0,0,0,0,0,0,0,0,0,0,0,3,0,3,3,1,3,1,0,0,0,3,0,0,0,0] 14)) fun c0=>let u3:=(O.f (O.l c0 0));(O.c (O.b (O.f u3) (O.g 6 [] (xr x kR 0)) (O.a [.int u4])) fun c1=>(O.b (O.i u3 O.j (O.f (O.d (O.e c1 0) u4))) (O.a [.int u4]) (O.b (O.d (x.I 5) u4) (O.a [.int (lq9 O (-1))]) (O.n (O.r u2 (O.o (x.L 33))) (O.a [.int (O.w (O.m u0 u4) u4 u0)]))))))
def JN:Nat→Env:=eL [(6,AN),(147,Bx)]
theorem RS {N ls}:JN N 6 [] ls=AN N ls:=id rfl
theorem Qm {N ls}:JN N 147 [] ls=Bx N ls:=id rfl
def Ip:=oS WT MT JN
def Ys:List Nat:=[2,0,0,0,0,0,0,0,1,0,0,0,0,3,0,0,0,0,0,0,0,0,0,0,0,0,0,0,3,0,3,3,1,3,1,0,0,0,3,0,0,0,0]
def OJ (O:Alg) (x:Ags O):O.M:=let u3:=(lq9 O 0);let u1:=(O.v (x.I 42) (O.o (x.L 38)));let u0:=(O.u .i64 (x.I 42) (lq9 O 1));(O.c (O.g 147 [] (xr x [0,0,0,0,0,0,0,0,0,0,0,0,0,0,3,0,3,3,1,3,1,0,0,0,3,0,0,0,0] 14)) fun c0=>let u2:=(O.f (O.l c0 0));(O.c (O.b (O.f u2) (O.g 6 [] (xr x kR 0)) (O.a [.int u3])) fun c1=>(O.b (O.i u2 O.j (O.f (O.d (O.e c1 0) u3))) (O.a [.int (lq9 O 3)]) (O.n (O.f (O.s u1 (O.f (O.r u0 (O.o (x.L 38)))))) (O.c (O.g 148 [] (xr x [2,0,0,0,0,0,0,0,1,0,0,0,0,3,0,0,0,0,0,0,0,0,0,0,0,0,0,0,3,0,3,3,1,3,1,0,0,0,3,0,0,0,0] 0)) fun c2=>(O.b (O.i (O.i (O.d (x.I 42) (x.I 36)) O.j (O.d (x.I 42) (x.I 29))) O.j (O.i u1 (O.rB (x.L 38) u0 0) O.h)) (O.a [.int (lq9 O 7)]) (O.c (O.g 101 [] [.rows (x.L 31),.int (x.I 42)]) fun c3=>(O.b (O.l c3 0) (O.a [.int (lq9 O 8)]) (O.b (O.i (O.f (O.d (O.e c2 0) (lq9 O (-1)))) (O.m (x.I 25) (O.u .i64 (x.I 4) (O.e c2 0))) O.h) (O.a [.int (lq9 O 9)]) (O.a [.int u3]))))))))))
def FK:Nat→Env:=eL [(6,AN),(101,Ap),(147,Bx),(148,Ip)]
theorem Rq {N ls}:FK N 6 [] ls=AN N ls:=id rfl
theorem Ll {N ls}:FK N 101 [] ls=Ap N ls:=id rfl
theorem Rn {N ls}:FK N 147 [] ls=Bx N ls:=id rfl
theorem TK {N ls}:FK N 148 [] ls=Ip N ls:=id rfl
def KF:=oS Ys OJ FK
def Wm:List Nat:=[2,0,0,0,0,0,0,0,1,0,0,0,0,3,0,0,0,0,0,0,0,0,0,0,0,0,0,0,3,0,3,3,1,3,1,0,0,0,3,0,0,0,0]
def Mz (O:Alg) (x:Ags O):O.M:=(O.c (O.g 134 [] (xr x kI 14)) fun c0=>(O.c (O.g 135 [] (xr x [2,0,0,0,0,0,0,0,1,0,0,0,0,3,0,0,0,0,0,0,0,0,0,0,0,0,0,0,3,0,3,3,1,3,1,0,0,0,3,0,0,0,0] 0)) fun c1=>let u0:=(O.e c1 0);(O.b (O.d u0 (lq9 O 0)) (O.a (ap O (cr O c0 [0,0,0,0,0,0,0,0,0,0,0,0,0,0,3] 0) (ap O [.int (x.I 42)] (ap O (cr O c0 [3,3,1,3,1,0,0,0,3,0,0,0] 16) [.int u0])))) (O.a (ap O (cr O c0 kI 0) [.int u0])))))
def JW:Nat→Env:=eL [(134,Cd),(135,KF)]
theorem S9 {N ls}:JW N 134 [] ls=Cd N ls:=id rfl
theorem S8 {N ls}:JW N 135 [] ls=KF N ls:=id rfl
def JB:=oS Wm Mz JW
def NJ:List Nat:=[0,0,0,0,0,1,0,0,0,0,1,0]
def Ez (O:Alg) (x:Ags O):O.M:=let u3:=(lq9 O 0);let u2:=(O.d (x.I 4) u3);let u1:=(O.d (x.I 2) u3);let u0:=(O.f (O.d (x.I 4) (lq9 O 6)));(O.b (O.d (x.I 0) (O.lit .u8 2)) (O.a [.bool (O.i (O.d (x.I 1) (O.lit .u8 0)) u0 O.h)]) (O.b (O.d (x.I 1) (O.lit .u8 0)) (O.a [.bool (O.i u1 u2 O.h)]) (O.b (O.d (x.I 1) (O.lit .u8 1)) (O.a [.bool (O.i u0 O.j u1)]) (O.a [.bool (O.i u0 (O.i (O.m u3 (x.I 2)) O.j (O.f u2)) O.h)]))))
def Lg:Nat→Env:=eL []
def DJ:=oS NJ Ez Lg
def Qk:List Nat:=[0,0,0,0,0,1,0,0,0,0,1,0]
def HG (O:Alg) (x:Ags O):O.M:=let u3:=(lq9 O 0);let u2:=(lq9 O 11);let u1:=(O.d (x.I 4) u3);let u0:=(O.f u1);(O.b (O.i (O.i (O.i (O.i (O.i (O.m (x.I 0) (O.lit .u8 1)) O.j (O.m (O.lit .u8 3) (x.I 0))) O.j (O.m (O.lit .u8 3) (x.I 1))) O.j (O.m (O.lit .u8 10) (x.I 6))) O.j (O.m (x.I 11) u3)) O.j (O.m (lq9 O 8) (x.I 11))) (O.a [.int u2]) (O.b (O.i (O.i (O.i (O.i (O.m (x.I 2) u3) O.j (O.m (lq9 O 7) (x.I 2))) O.j (O.m (x.I 3) u3)) O.j (O.m (x.I 2) (x.I 3))) O.j (O.i (O.i u0 (O.f (O.d (x.I 4) (lq9 O 4))) O.h) (O.f (O.d (x.I 4) (lq9 O 6))) O.h)) (O.a [.int (lq9 O 12)]) (O.c (O.g 85 [] (xr x [0,0,0,0,0,1,0,0,0,0,1,0] 0)) fun c0=>(O.b (O.i (O.f (O.l c0 0)) O.j (O.i (O.i (O.i (O.f (O.d (x.I 0) (O.lit .u8 2))) (O.d (x.I 1) (O.lit .u8 1)) O.h) (O.d (x.I 2) u3) O.h) u1 O.h)) (O.a [.int u2]) (O.b (O.i (O.i (O.f (O.d (x.I 11) u3)) (O.f (O.d (x.I 1) (O.lit .u8 1))) O.h) (O.f (O.d (x.I 6) (O.lit .u8 2))) O.h) (O.a [.int u2]) (O.b (O.i u0 (O.f (O.d (x.I 6) (O.lit .u8 0))) O.h) (O.a [.int u2]) (O.b (O.i (O.i (x.B 5) (O.f (O.d (x.I 6) (O.lit .u8 6))) O.h) (O.f (O.d (x.I 6) (O.lit .u8 8))) O.h) (O.a [.int u2]) (O.a [.int u3]))))))))
def JH:Nat→Env:=eL [(85,DJ)]
theorem Jy {N ls}:JH N 85 [] ls=DJ N ls:=id rfl
def CF:=oS Qk HG JH
def NN:List Nat:=[0]
def E5 (O:Alg) (x:Ags O):O.M:=(O.a [.bool (O.i (O.v (O.lit .u8 1) (x.I 0)) (O.v (x.I 0) (O.lit .u8 5)) O.h)])
def LV:Nat→Env:=eL []
def DL:=oS NN E5 LV
def PR:List Nat:=[2,0,0,0,0,0,0,0,1,0,0,0,0,3,0,0,0,0,0,1,0,0,0,0,1,0]
def GH (O:Alg) (x:Ags O):O.M:=let u2:=(lq9 O 0);let u1:=(O.p .i64 (O.u .i64 (x.I 16) (x.I 17)) (x.I 18));(O.c (O.g 68 [] (xr x [0,0,0,0,0,1,0,0,0,0,1,0] 14)) fun c0=>(O.b (O.f (O.d (O.e c0 0) u2)) (O.a [.int u2,.int u2,.int u2,.int u2,.int u2,.int u2,.bool O.h,.bool O.h,.bool O.h,.bool O.h]) (O.c (O.g 69 [] [.int (x.I 20)]) fun c1=>let u3:=(O.l c1 0);(O.c (O.b (x.B 19) (O.a [.int (O.p .i64 (x.I 16) (lq9 O 1))]) (O.a [.int (x.I 16)])) fun c2=>let u0:=(O.d (O.ah .i64 (O.e c2 0) (lq9 O 2)) (lq9 O 1));(O.c (O.b (O.d (x.I 14) (O.lit .u8 2)) (O.a [.int u2,.int (O.p .i64 (x.I 6) u1),.int u2,.int u2,.int u2,.int u2,.bool (O.d (x.I 14) (O.lit .u8 1)),.bool (O.f (O.d (x.I 14) (O.lit .u8 2))),.bool u3,.bool u0]) (O.b (O.d (x.I 14) (O.lit .u8 3)) (O.a [.int u2,.int u2,.int (x.I 7),.int u2,.int u2,.int u2,.bool (O.d (x.I 14) (O.lit .u8 1)),.bool (O.f (O.d (x.I 14) (O.lit .u8 2))),.bool u3,.bool u0]) (O.a [.int u2,.int u2,.int u2,.int u2,.int u2,.int u2,.bool (O.d (x.I 14) (O.lit .u8 1)),.bool (O.f (O.d (x.I 14) (O.lit .u8 2))),.bool u3,.bool u0]))) fun c3=>(O.c (O.b (O.f (O.d (x.I 14) (O.lit .u8 2))) (O.b (O.d (x.I 15) (O.lit .u8 1)) (O.a (ap O [.int u1] (cr O c3 [0,0,0,0,0,1,1,1,1] 1))) (O.b (O.d (x.I 15) (O.lit .u8 2)) (O.a (ap O (cr O c3 [0,0,0] 0) (ap O [.int u1] (cr O c3 [0,0,1,1,1,1] 4)))) (O.b (O.d (x.I 15) (O.lit .u8 3)) (O.a (ap O (cr O c3 [0,0,0,0] 0) (ap O [.int u1] (cr O c3 [0,1,1,1,1] 5)))) (O.a (cr O c3 [0,0,0,0,0,0,1,1,1,1] 0))))) (O.a (cr O c3 [0,0,0,0,0,0,1,1,1,1] 0))) fun c4=>(O.a (ap O (cr O c4 [0,0,0,0,0] 0) (ap O [.int (O.p .i64 (O.p .i64 (O.e c4 0) (O.e c4 1)) (O.e c4 2))] (cr O c4 [1,1,1,1] 6))))))))))
def E6:Nat→Env:=eL [(68,CF),(69,DL)]
theorem LN {N ls}:E6 N 68 [] ls=CF N ls:=id rfl
theorem Jf {N ls}:E6 N 69 [] ls=DL N ls:=id rfl
def B4:=oS PR GH E6
def SF:List Nat:=[0,0,0,0,0,0,0,0,0,0,0,0,0,0,3,0,3,3,1,3,1,0,0,0,3,0,0,0]
def Du (O:Alg) (x:Ags O):O.M:=(O.c (O.g 132 [] (xr x kI 0)) fun c0=>(O.a [.bool (O.i (O.l c0 0) (O.i (O.d (x.I 12) (lq9 O 0)) O.j (O.d (x.I 13) (lq9 O 0))) O.h)]))
def D7:Nat→Env:=eL [(132,Bz)]
theorem NS {N ls}:D7 N 132 [] ls=Bz N ls:=id rfl
def BI:=oS SF Du D7
def Vl:List Nat:=[0,0,0,0,0,0,0,0,0,0,0,0,0,0,3,0,3,3,1,3,1,0,0,0,3,0,0,0,0]
def Kc (O:Alg) (x:Ags O):O.M:=(O.a [.bool (O.i (O.v (lq9 O 1) (x.I 28)) (O.v (x.I 28) (O.o (x.L 24))) O.h)])
def S0:Nat→Env:=eL []
def A2:=oS Vl Kc S0
def Rf:List Nat:=[0,0,0,0,0,0,0,0,0,0,0,0,0,0,3,0,3,3,1,3,1,0,0,0,3,0,0,0,0]
def HX (O:Alg) (x:Ags O):O.M:=let u0:=(O.u .i64 (x.I 28) (lq9 O 1));(O.c (O.g 144 [] (xr x [0,0,0,0,0,0,0,0,0,0,0,0,0,0,3,0,3,3,1,3,1,0,0,0,3,0,0,0,0] 0)) fun c0=>(O.n (O.f (O.s (O.l c0 0) (O.f (O.r u0 (O.o (x.L 24)))))) (O.a [.bool (O.i (O.l c0 0) (O.rB (x.L 24) u0 0) O.h)])))
def Ig:Nat→Env:=eL [(144,A2)]
theorem NU {N ls}:Ig N 144 [] ls=A2 N ls:=id rfl
def Az:=oS Rf HX Ig
def SB:List Nat:=[2,0,0,0,0,0,0,0,1,0,0,0,0,3,0]
def IM (O:Alg) (x:Ags O):O.M:=let u1:=(lq9 O 1);let u0:=(O.p .i64 (x.I 14) u1);(O.c (O.aa (fun s0 c0=>let u2:=(O.e c0 0);(O.b (O.m u2 (O.o (x.L 13))) (O.n (O.r u2 (O.o (x.L 13))) (O.b (O.i (O.v (O.k (x.L 13) u2 0) u0) (O.v u0 (O.k (x.L 13) u2 1)) O.h) (O.a [.int (lq9 O 0),.int (O.k (x.L 13) u2 2)]) (s0 [.int (O.p .i64 u2 u1)]))) (O.a [.int u1]))) [.int (lq9 O 0)]) fun c0=>(O.b (O.ab c0 0) (O.a [.int (O.e c0 1)]) (O.a [.int (x.I 12)])))
def Pr:Nat→Env:=eL []
def FU:=oS SB IM Pr
def Vh:List Nat:=[2,0,0,0,0,0,0,0,1,0,0,0,0,3,0,0,0,0,0,0,0,0,0,0,0,0,0,0,3,0,3,3,1,3,1,0,0,0,3,0,0,0]
def Kh (O:Alg) (x:Ags O):O.M:=(O.c (O.g 144 [] (ap O (xr x kI 14) [.int (x.I 36)])) fun c0=>let u0:=(O.f (O.l c0 0));(O.c (O.b (O.f u0) (O.g 145 [] (ap O (xr x kI 14) [.int (x.I 36)])) (O.a [.bool O.h])) fun c1=>(O.b (O.i (O.i u0 O.j (O.l c1 0)) O.j (O.d (x.I 36) (x.I 29))) (O.a [.int (lq9 O 17)]) (O.c (O.g 152 [] (ap O (xr x kR 0) [.int (x.I 24)])) fun c2=>(O.b (O.m (O.e c2 0) (x.I 37)) (O.a [.int (lq9 O 16)]) (O.a [.int (lq9 O 0)]))))))
def Fl:Nat→Env:=eL [(144,A2),(145,Az),(152,FU)]
theorem QB {N ls}:Fl N 144 [] ls=A2 N ls:=id rfl
theorem Nj {N ls}:Fl N 145 [] ls=Az N ls:=id rfl
theorem Of {N ls}:Fl N 152 [] ls=FU N ls:=id rfl
def Hs:=oS Vh Kh Fl
def PS:List Nat:=[]
def Pt (O:Alg) (x:Ags O):O.M:=(O.a [.rows (O.ad [[.int (O.lit .u8 0),.str (O.t ⟨#[78,79,84,79,85,84]⟩),.bool O.h,.bool O.h,.bool O.h,.bool O.h,.bool O.h],[.int (O.lit .u8 1),.str (O.t ⟨#[66,79,87,76,69,68]⟩),.bool O.j,.bool O.h,.bool O.h,.bool O.h,.bool O.h],[.int (O.lit .u8 2),.str (O.t ⟨#[67,65,85,71,72,84]⟩),.bool O.j,.bool O.h,.bool O.h,.bool O.j,.bool O.h],[.int (O.lit .u8 3),.str (O.t ⟨#[76,66,87]⟩),.bool O.j,.bool O.h,.bool O.h,.bool O.h,.bool O.h],[.int (O.lit .u8 4),.str (O.t ⟨#[83,84,85,77,80,69,68]⟩),.bool O.j,.bool O.j,.bool O.h,.bool O.j,.bool O.h],[.int (O.lit .u8 5),.str (O.t ⟨#[72,73,84,87,73,67,75,69,84]⟩),.bool O.j,.bool O.j,.bool O.h,.bool O.h,.bool O.h],[.int (O.lit .u8 6),.str (O.t ⟨#[82,85,78,79,85,84]⟩),.bool O.j,.bool O.j,.bool O.j,.bool O.j,.bool O.j],[.int (O.lit .u8 7),.str (O.t ⟨#[72,73,84,84,87,73,67,69]⟩),.bool O.j,.bool O.h,.bool O.j,.bool O.h,.bool O.h],[.int (O.lit .u8 8),.str (O.t ⟨#[79,66,83,84,82,85,67,84,73,78,71]⟩),.bool O.j,.bool O.j,.bool O.j,.bool O.h,.bool O.j],[.int (O.lit .u8 9),.str (O.t ⟨#[84,73,77,69,68,79,85,84]⟩),.bool O.h,.bool O.h,.bool O.h,.bool O.h,.bool O.h],[.int (O.lit .u8 10),.str (O.t ⟨#[82,69,84,73,82,69,68]⟩),.bool O.h,.bool O.h,.bool O.h,.bool O.h,.bool O.h]])])
def V8:Nat→Env:=eL []
def Be:=oS PS Pt V8
def Tt:List Nat:=[0]
def JM (O:Alg) (x:Ags O):O.M:=(O.c (O.g 157 [] []) fun c0=>let u2:=(O.q c0 0);let u0:=(O.o u2);(O.c (O.aa (fun s1 c1=>let u1:=(O.e c1 0);(O.b (O.m u1 u0) (O.n (O.r u1 u0) (O.b (O.d (O.k u2 u1 0) (x.I 0)) (O.a (ap O [.int (lq9 O 0)] (rr O u2 u1 [0,2,1,1,1,1,1] 0))) (s1 [.int (O.p .i64 u1 (lq9 O 1))]))) (O.a [.int (lq9 O 1)]))) [.int (lq9 O 0)]) fun c1=>(O.b (O.ab c1 0) (O.a (cr O c1 [0,2,1,1,1,1,1] 1)) (O.a [.int (O.lit .u8 0),.str (O.t ⟨#[]⟩),.bool O.h,.bool O.h,.bool O.h,.bool O.h,.bool O.h]))))
def K7:Nat→Env:=eL [(157,Be)]
theorem Lu {N ls}:K7 N 157 [] ls=Be N ls:=id rfl
def G2:=oS Tt JM K7
def Ox:List Nat:=[3,0]
def FP (O:Alg) (x:Ags O):O.M:=(O.c (O.aa (fun s0 c0=>let u0:=(O.e c0 0);(O.b (O.m u0 (O.o (x.L 0))) (O.n (O.r u0 (O.o (x.L 0))) (O.b (O.d (x.I 1) (O.k (x.L 0) u0 0)) (O.a [.int (lq9 O 0),.int u0]) (s0 [.int (O.p .i64 u0 (lq9 O 1))]))) (O.a [.int (lq9 O 1)]))) [.int (lq9 O 0)]) fun c0=>(O.b (O.ab c0 0) (O.a [.int (O.e c0 1)]) (O.a [.int (lq9 O (-1))])))
def L4:Nat→Env:=eL []
def DZ:=oS Ox FP L4
def Le:List Nat:=[3,0]
def Ds (O:Alg) (x:Ags O):O.M:=(O.c (O.g 158 [] [.rows (x.L 0),.int (x.I 1)]) fun c0=>(O.a [.bool (O.v (lq9 O 0) (O.e c0 0))]))
def FE:Nat→Env:=eL [(158,DZ)]
theorem H4 {N ls}:FE N 158 [] ls=DZ N ls:=id rfl
def Ct:=oS Le Ds FE
def OU:List Nat:=[0,2,1,1,1,1,1,0]
def FY (O:Alg) (x:Ags O):O.M:=(O.a [.bool (O.i (O.i (O.i (O.d (x.I 7) (O.lit .u8 1)) (x.B 2) O.h) O.j (O.i (O.d (x.I 7) (O.lit .u8 2)) (x.B 3) O.h)) O.j (O.i (O.d (x.I 7) (O.lit .u8 3)) (x.B 4) O.h))])
def L7:Nat→Env:=eL []
def DW:=oS OU FY L7
def Qt:List Nat:=[0,1]
def HR (O:Alg) (x:Ags O):O.M:=(O.c (O.g 157 [] []) fun c0=>let u5:=(O.q c0 0);let u3:=(O.o u5);(O.c (O.aa (fun s1 c1=>let u6:=(O.q c1 0);let u4:=(O.e c1 1);let u2:=(O.k u5 u4 0);let u1:=(O.p .i64 u4 (lq9 O 1));let u0:=(O.ae u6 (O.ad [[.int u2]]));(O.b (O.m u4 u3) (O.n (O.r u4 u3) (O.c (O.g 159 [] (ap O (rr O u5 u4 [0,2,1,1,1,1,1] 0) [.int (x.I 0)])) fun c2=>(O.b (O.i (O.l c2 0) (O.i (O.i (O.i (O.f (x.B 1)) O.j (O.d u2 (O.lit .u8 6))) O.j (O.d u2 (O.lit .u8 7))) O.j (O.d u2 (O.lit .u8 8))) O.h) (O.n (O.ac (O.o u0) 1) (s1 [.rows u0,.int u1])) (s1 [.rows u6,.int u1])))) (O.a [.rows u6]))) [.rows O.y,.int (lq9 O 0)]) fun c1=>(O.a [.rows (O.q c1 0)])))
def F1:Nat→Env:=eL [(157,Be),(159,DW)]
theorem LJ {N ls}:F1 N 157 [] ls=Be N ls:=id rfl
theorem KQ {N ls}:F1 N 159 [] ls=DW N ls:=id rfl
def Eo:=oS Qt HR F1
def KO:List Nat:=[0]
def DS (O:Alg) (x:Ags O):O.M:=(O.a [.bool (O.i (O.v (lq9 O 1) (x.I 0)) (O.v (x.I 0) (lq9 O 11)) O.h)])
def I8:Nat→Env:=eL []
def Ce:=oS KO DS I8
def Mu:List Nat:=[0,0,0,0,0,1,0,0,0,0,1,0,0,2,1,1,1,1,1]
def EL (O:Alg) (x:Ags O):O.M:=let u0:=(O.d (x.I 9) (lq9 O 0));(O.c (O.g 160 [] [.int (x.I 8)]) fun c0=>(O.b (O.i (O.f (O.an (x.B 17) (O.l c0 0))) O.j (O.i (O.f (x.B 17)) (O.f (O.d (x.I 8) (lq9 O 0))) O.h)) (O.a [.bool O.h]) (O.c (O.b (O.s (O.f u0) (O.d (x.I 6) (O.lit .u8 6))) (O.g 160 [] [.int (x.I 9)]) (O.a [.bool O.h])) fun c1=>(O.a [.bool (O.i u0 O.j (O.i (O.i (O.d (x.I 6) (O.lit .u8 6)) (O.l c1 0) O.h) (O.f (O.d (x.I 9) (x.I 8))) O.h))]))))
def F7:Nat→Env:=eL [(160,Ce)]
theorem G3 {N ls}:F7 N 160 [] ls=Ce N ls:=id rfl
def Cy:=oS Mu EL F7
def Mq:List Nat:=[0,0,0,0,0,1,0,0,0,0,1,0,1]
def EK (O:Alg) (x:Ags O):O.M:=let u0:=(lq9 O 0);(O.b (O.d (x.I 6) (O.lit .u8 0)) (O.b (O.f (O.d (x.I 7) u0)) (O.a [.int (lq9 O 14)]) (O.b (O.i (O.i (O.f (O.d (x.I 8) u0)) O.j (O.f (O.d (x.I 9) u0))) O.j (x.B 10)) (O.a [.int (lq9 O 15)]) (O.a [.int u0]))) (O.c (O.g 153 [] [.int (x.I 6)]) fun c0=>(O.c (O.g 155 [] [.int (x.I 0),.bool (x.B 12)]) fun c1=>(O.c (O.g 154 [] [.rows (O.q c1 0),.int (x.I 6)]) fun c2=>(O.b (O.f (O.l c2 0)) (O.a [.int (lq9 O 13)]) (O.b (O.i (O.f (O.i (O.d (x.I 6) (O.lit .u8 6)) O.j (O.d (x.I 6) (O.lit .u8 8)))) (O.i (O.f (O.d (x.I 1) (O.lit .u8 0))) O.j (O.f (O.d (x.I 2) u0))) O.h) (O.a [.int (lq9 O 12)]) (O.b (O.i (O.f (O.d (x.I 7) (lq9 O 1))) (O.i (O.f (O.d (x.I 7) (lq9 O 2))) O.j (O.f (O.l c0 6))) O.h) (O.a [.int (lq9 O 14)]) (O.c (O.g 156 [] (ap O (xr x [0,0,0,0,0,1,0,0,0,0,1,0] 0) (cr O c0 [0,2,1,1,1,1,1] 0))) fun c3=>(O.b (O.f (O.l c3 0)) (O.a [.int (lq9 O 15)]) (O.b (O.i (O.i (x.B 10) (O.f (O.d (x.I 6) (O.lit .u8 2))) O.h) (O.f (O.d (x.I 6) (O.lit .u8 6))) O.h) (O.a [.int (lq9 O 18)]) (O.a [.int u0])))))))))))
def B0:Nat→Env:=eL [(153,G2),(154,Ct),(155,Eo),(156,Cy)]
theorem KI {N ls}:B0 N 153 [] ls=G2 N ls:=id rfl
theorem HT {N ls}:B0 N 154 [] ls=Ct N ls:=id rfl
theorem JR {N ls}:B0 N 155 [] ls=Eo N ls:=id rfl
theorem Hi {N ls}:B0 N 156 [] ls=Cy N ls:=id rfl
def Cw:=oS Mq EK B0
def V3:List Nat:=[0,0,0,0,0,0,0,0,0,0,0,0,0,0,3,0,3,3,1,3,1,0,0,0,3,0,0,0,0,0,0,0,0,1,0,0,0,0,1,0]
def Ks (O:Alg) (x:Ags O):O.M:=let u1:=(lq9 O 1);let u0:=(lq9 O 0);(O.c (O.b (O.m u0 (x.I 36)) (O.c (O.g 144 [] (ap O (xr x kI 0) [.int (x.I 36)])) fun c0=>(O.b (O.f (O.l c0 0)) (O.a [.int u1,.int (lq9 O 3)]) (O.c (O.g 145 [] (ap O (xr x kI 0) [.int (x.I 36)])) fun c1=>(O.b (O.f (O.an (x.B 38) (O.l c1 0))) (O.a [.int u1,.int (lq9 O 18)]) (O.a [.int u0]))))) (O.a [.int u0])) fun c0=>(O.b (O.ab c0 0) (O.c (O.b (O.m u0 (x.I 37)) (O.c (O.g 144 [] (ap O (xr x kI 0) [.int (x.I 37)])) fun c1=>(O.b (O.f (O.l c1 0)) (O.a [.int u1,.int (lq9 O 3)]) (O.c (O.g 145 [] (ap O (xr x kI 0) [.int (x.I 37)])) fun c2=>(O.b (O.l c2 0) (O.a [.int u1,.int (lq9 O 18)]) (O.a [.int u0]))))) (O.a [.int u0])) fun c1=>(O.b (O.ab c1 0) (O.b (O.i (O.d (x.I 34) (O.lit .u8 4)) (O.f (O.d (O.w (O.m (x.I 36) u0) u0 (x.I 36)) (x.I 22))) O.h) (O.a [.int (lq9 O 17)]) (O.a [.int u0])) (O.a [.int (O.e c1 1)]))) (O.a [.int (O.e c0 1)])))
def H8:Nat→Env:=eL [(144,A2),(145,Az)]
theorem QU {N ls}:H8 N 144 [] ls=A2 N ls:=id rfl
theorem Nc {N ls}:H8 N 145 [] ls=Az N ls:=id rfl
def Hm:=oS V3 Ks H8
def Pa:List Nat:=[2,0,0,0,0,0,0,0,1,0,0,0,0,3,0,0,0,0,0,0,0,0,0,0,0,0,0,0,3,0,3,3,1,3,1,0,0,0,3,0,0,0,0,0,0,0,0,1,0,0,0,0,1,0]
def GQ (O:Alg) (x:Ags O):O.M:=let u3:=(lq9 O 0);(O.c (O.g 128 [] (xr x kI 14)) fun c0=>(O.b (O.l c0 0) (O.a [.int (lq9 O 6)]) (O.b (O.d (x.I 29) u3) (O.a [.int (lq9 O 7)]) (O.c (O.g 149 [] (xr x [2,0,0,0,0,0,0,0,1,0,0,0,0,3,0,0,0,0,0,0,0,0,0,0,0,0,0,0,3,0,3,3,1,3,1,0,0,0,3,0,0,0] 0)) fun c1=>(O.c (O.g 68 [] (xr x [0,0,0,0,0,1,0,0,0,0,1,0] 42)) fun c2=>(O.c (O.g 150 [] (ap O (xr x [0,0,0,0,0,1,0,0,0,0,1,0] 42) [.bool (x.B 34)])) fun c3=>(O.c (O.g 151 [] (xr x [0,0,0,0,0,0,0,0,0,0,0,0,0,0,3,0,3,3,1,3,1,0,0,0,3,0,0,0,0,0,0,0,0,1,0,0,0,0,1,0] 14)) fun c4=>let u2:=(O.ad [[.int (O.e c1 0)],[.int (O.e c2 0)],[.int (O.e c3 0)],[.int (O.e c4 0)]]);let u1:=(O.o u2);(O.c (O.aa (fun s5 c5=>let u4:=(O.e c5 0);let u0:=(O.k u2 u4 0);(O.b (O.m u4 u1) (O.n (O.r u4 u1) (O.b (O.f (O.d u0 u3)) (O.a [.int u3,.int u0]) (s5 [.int (O.p .i64 u4 (lq9 O 1))]))) (O.a [.int (lq9 O 1)]))) [.int u3]) fun c5=>(O.b (O.ab c5 0) (O.a [.int (O.e c5 1)]) (O.a [.int u3]))))))))))
def B6:Nat→Env:=eL [(68,CF),(128,BI),(149,Hs),(150,Cw),(151,Hm)]
theorem K3 {N ls}:B6 N 68 [] ls=CF N ls:=id rfl
theorem Lj {N ls}:B6 N 128 [] ls=BI N ls:=id rfl
theorem NE {N ls}:B6 N 149 [] ls=Hs N ls:=id rfl
theorem Iq {N ls}:B6 N 150 [] ls=Cw N ls:=id rfl
theorem NG {N ls}:B6 N 151 [] ls=Hm N ls:=id rfl
def D6:=oS Pa GQ B6
def WV:List Nat:=[0,0,0,0,0,0,0,0,0,0,0,0,0,0,3,0,3,3,1,3,1,0,0,0,3,0,0,0,0,0,0,0,0,1,0,0,0,0,1,0]
def MH (O:Alg) (x:Ags O):O.M:=let u5:=(lq9 O 2);let u4:=(lq9 O 1);let u3:=(lq9 O 0);let u1:=(O.f (O.d (O.ah .i64 (x.I 30) u5) u3));(O.c (O.g 131 [] (xr x kI 0)) fun c0=>(O.c (O.b (O.f (O.d (x.I 34) (O.lit .u8 0))) (O.b (O.i (O.d (x.I 35) u4) (O.f (O.d (x.I 12) u3)) O.h) (O.a [.int u4,.int (x.I 12)]) (O.b (O.i (O.d (x.I 35) u5) (O.f (O.d (x.I 13) u3)) O.h) (O.a [.int u5,.int (x.I 13)]) (O.a [.int u3,.int u3]))) (O.a [.int u3,.int u3])) fun c1=>let u7:=(O.e c1 1);let u2:=(O.u .i64 u7 u4);(O.c (O.b (x.B 33) (O.a [.bool (O.f u1)]) (O.a [.bool u1])) fun c2=>(O.c (O.b (O.l c2 0) (O.a (ap O (cr O c0 [0,0,0,0,0,0,0,0,0,0,0,0] 0) (ap O [.int (O.e c0 13),.int (O.e c0 12)] (cr O c0 [3,0,3,3,1,3,1,0,0,0,3,0,0,0] 14)))) (O.a (cr O c0 kI 0))) fun c3=>let u6:=(O.q c3 14);let u0:=(O.r u2 (O.o u6));(O.b (O.d (O.e c1 0) u3) (O.a (cr O c3 kI 0)) (O.b (O.f (O.an (O.d (O.e c1 0) u4) (O.l c2 0))) (O.c (O.g 133 [] (ap O (cr O c3 [0,0,0,0,0,0,0,0,0,0,0,0] 0) (ap O [.int u3] (ap O (cr O c3 [0,3,0,3,3,1,3,1,0,0,0,3,0,0,0] 13) [.int u7])))) fun c4=>(O.c (O.b (O.l c4 0) (O.n u0 (O.a (ap O (cr O c3 [0,0,0,0,0,0,0,0,0,0,0,0] 0) (ap O [.int u3,.int (O.e c3 13),.rows (O.x u6 u2 0 [.int (O.lit .u8 2)])] (cr O c3 [0,3,3,1,3,1,0,0,0,3,0,0,0] 15))))) (O.a (ap O (cr O c3 [0,0,0,0,0,0,0,0,0,0,0,0] 0) (ap O [.int u3] (cr O c3 [0,3,0,3,3,1,3,1,0,0,0,3,0,0,0] 13))))) fun c5=>(O.a (ap O (cr O c5 [0,0,0,0] 0) (ap O [.int (O.p .i64 (O.e c5 4) u4)] (cr O c5 [0,0,0,0,0,0,0,0,0,3,0,3,3,1,3,1,0,0,0,3,0,0,0] 5)))))) (O.c (O.g 133 [] (ap O (cr O c3 [0,0,0,0,0,0,0,0,0,0,0,0,0] 0) (ap O [.int u3] (ap O (cr O c3 [3,0,3,3,1,3,1,0,0,0,3,0,0,0] 14) [.int u7])))) fun c4=>(O.c (O.b (O.l c4 0) (O.n u0 (O.a (ap O (cr O c3 [0,0,0,0,0,0,0,0,0,0,0,0,0] 0) (ap O [.int u3,.rows (O.x u6 u2 0 [.int (O.lit .u8 2)])] (cr O c3 [0,3,3,1,3,1,0,0,0,3,0,0,0] 15))))) (O.a (ap O (cr O c3 [0,0,0,0,0,0,0,0,0,0,0,0,0] 0) (ap O [.int u3] (cr O c3 [3,0,3,3,1,3,1,0,0,0,3,0,0,0] 14))))) fun c5=>(O.a (ap O (cr O c5 [0,0,0,0] 0) (ap O [.int (O.p .i64 (O.e c5 4) u4)] (cr O c5 [0,0,0,0,0,0,0,0,0,3,0,3,3,1,3,1,0,0,0,3,0,0,0] 5))))))))))))
def JK:Nat→Env:=eL [(131,Au),(133,Av)]
theorem Ro {N ls}:JK N 131 [] ls=Au N ls:=id rfl
theorem QW {N ls}:JK N 133 [] ls=Av N ls:=id rfl
def JE:=oS WV MH JK
def RJ:List Nat:=[0,0,0,0,0,0,1,1,1,1]
def Q8 (O:Alg) (x:Ags O):O.M:=(O.a [.int (O.p .i64 (O.p .i64 (O.p .i64 (O.p .i64 (x.I 0) (x.I 1)) (x.I 2)) (x.I 3)) (x.I 4))])
def XD:Nat→Env:=eL []
def Ed:=oS RJ Q8 XD
def Ww:List Nat:=[2,0,0,0,0,0,0,0,1,0,0,0,0,3,0,0,0,0,0,0,0,0,0,0,0,0,0,0,3,0,3,3,1,3,1,0,0,0,3,0,0,0,1]
def MY (O:Alg) (x:Ags O):O.M:=let u5:=(lq9 O 0);let u4:=(lq9 O 1);let u2:=(O.u .i64 (x.I 29) u4);(O.c (O.g 134 [] (xr x kI 14)) fun c0=>let u1:=(O.ae (O.q c0 16) (O.ad [[.int (x.I 29)]]));(O.c (O.g 147 [] (ap O (xr x kI 14) [.int (x.I 29)])) fun c1=>let u3:=(O.f (O.l c1 0));(O.c (O.b (O.f u3) (O.g 6 [] (xr x kR 0)) (O.a [.int u5])) fun c2=>(O.b (O.i u3 O.j (O.f (O.d (O.e c2 0) u5))) (O.a (ap O (cr O c0 kI 0) [.bool O.h])) (O.c (O.g 101 [] [.rows (O.q c0 16),.int (x.I 29)]) fun c3=>(O.c (O.b (O.f (O.l c3 0)) (O.n (O.ac (O.o u1) 8) (O.a (ap O (cr O c0 [0,0,0,0,0,0,0,0,0,0,0,0,0,0,3,0] 0) (ap O [.rows u1] (cr O c0 [3,1,3,1,0,0,0,3,0,0,0] 17))))) (O.a (cr O c0 kI 0))) fun c4=>let u6:=(O.q c4 19);let u0:=(O.r u2 (O.o u6));(O.c (O.b (x.B 42) (O.n u0 (O.n u0 (O.a (ap O (cr O c4 [0,0,0,0,0,0,0,0,0,0,0] 0) (ap O [.int (O.p .i64 (O.e c4 11) u4)] (ap O (cr O c4 [0,0,3,0,3,3,1] 12) (ap O [.rows (O.x u6 u2 0 [.int (O.p .i64 (O.k u6 u2 0) u4)]),.bool (O.l c4 20),.int (O.p .i64 (O.e c4 21) u4)] (cr O c4 [0,0,3,0,0,0] 22)))))))) (O.a (cr O c4 kI 0))) fun c5=>(O.b (O.m (O.e c5 11) (x.I 4)) (O.a (ap O (cr O c5 kI 0) [.bool O.h])) (O.a (ap O (cr O c5 [0,0,0,0,0,0,0,0,0,0] 0) (ap O [.int (O.p .i64 (O.e c5 10) u4),.int u5] (ap O (cr O c5 [0,0,3] 12) (ap O [.int u5,.rows O.y,.rows (O.q c5 16)] (ap O (cr O c5 [1,3,1,0,0,0,3,0,0,0] 18) [.bool O.j]))))))))))))))
def Ea:Nat→Env:=eL [(6,AN),(101,Ap),(134,Cd),(147,Bx)]
theorem Ri {N ls}:Ea N 6 [] ls=AN N ls:=id rfl
theorem LO {N ls}:Ea N 101 [] ls=Ap N ls:=id rfl
theorem TF {N ls}:Ea N 134 [] ls=Cd N ls:=id rfl
theorem RV {N ls}:Ea N 147 [] ls=Bx N ls:=id rfl
def Ih:=oS Ww MY Ea
def R9:List Nat:=[0,0,0,0,0,0,0,0,0,0,0,0,0,0,3,0,3,3,1,3,1,0,0,0,3,0,0,0]
def IA (O:Alg) (x:Ags O):O.M:=(O.c (O.g 131 [] (xr x kI 0)) fun c0=>(O.a (ap O (cr O c0 [0,0,0,0,0,0,0,0,0,0,0,0] 0) (ap O [.int (x.I 13),.int (x.I 12)] (cr O c0 [3,0,3,3,1,3,1,0,0,0,3,0,0,0] 14)))))
def J8:Nat→Env:=eL [(131,Au)]
theorem PJ {N ls}:J8 N 131 [] ls=Au N ls:=id rfl
def Fq:=oS R9 IA J8
def Tu:List Nat:=[2,0,0,0,0,0,0,0,1,0,0,0,0,3,0,0,0,0,0,0,0,0,0,0,0,0,0,0,3,0,3,3,1,3,1,0,0,0,3,0,0,0,0,0,0,0,0,1,0,0,0,0,1,0]
def Jg (O:Alg) (x:Ags O):O.M:=let u0:=(lq9 O 0);(O.c (O.g 136 [] (xr x [2,0,0,0,0,0,0,0,1,0,0,0,0,3,0,0,0,0,0,0,0,0,0,0,0,0,0,0,3,0,3,3,1,3,1,0,0,0,3,0,0,0,0,0,0,0,0,1,0,0,0,0,1,0] 0)) fun c0=>(O.b (O.f (O.d (O.e c0 0) u0)) (O.c (O.g 78 [] (xr x kI 14)) fun c1=>(O.a (ap O (cr O c1 kI 0) [.int (O.e c0 0)]))) (O.c (O.g 55 [] (ap O (xr x kR 0) (xr x [0,0,0,0,0,1,0,0,0,0,1,0] 42))) fun c1=>(O.c (O.g 137 [] (xr x [0,0,0,0,0,0,0,0,0,0,0,0,0,0,3,0,3,3,1,3,1,0,0,0,3,0,0,0,0,0,0,0,0,1,0,0,0,0,1,0] 14)) fun c2=>(O.c (O.g 138 [] (cr O c1 [0,0,0,0,0,0,1,1,1,1] 0)) fun c3=>(O.c (O.g 139 [] (ap O (xr x kR 0) (ap O (cr O c2 [0,0,0] 0) (ap O [.int (O.p .i64 (O.e c2 3) (O.e c3 0)),.int (O.e c2 4),.int (O.p .i64 (O.e c2 5) (O.e c1 1)),.int (O.p .i64 (O.e c2 6) (O.e c1 2)),.int (O.p .i64 (O.e c2 7) (O.e c1 3)),.int (O.p .i64 (O.e c2 8) (O.e c1 4))] (ap O (cr O c2 [0,0,0,0,0,3,0,3,3,1,3,1,0,0,0,3,0,0,0] 9) [.bool (O.l c1 6)]))))) fun c4=>(O.c (O.b (O.l c4 28) (O.c (O.g 140 [] (cr O c4 kI 0)) fun c5=>(O.a (cr O c5 kI 0))) (O.a (cr O c4 kI 0))) fun c5=>(O.b (O.d (x.I 42) (O.lit .u8 1)) (O.a (ap O (cr O c5 [0,0,0,0,0,0,0,0,0,0,0,0,0,0,3,0,3,3,1,3] 0) (ap O [.bool O.h] (ap O (cr O c5 [0,0,0,3,0,0,0] 21) [.int u0])))) (O.b (O.i (O.d (x.I 42) (O.lit .u8 3)) (x.B 8) O.h) (O.a (ap O (cr O c5 [0,0,0,0,0,0,0,0,0,0,0,0,0,0,3,0,3,3,1,3] 0) (ap O [.bool O.j] (ap O (cr O c5 [0,0,0,3,0,0,0] 21) [.int u0])))) (O.a (ap O (cr O c5 kI 0) [.int u0])))))))))))
def Bq:Nat→Env:=eL [(55,B4),(78,AQ),(136,D6),(137,JE),(138,Ed),(139,Ih),(140,Fq)]
theorem Lx {N ls}:Bq N 55 [] ls=B4 N ls:=id rfl
theorem Nx {N ls}:Bq N 78 [] ls=AQ N ls:=id rfl
theorem Mt {N ls}:Bq N 136 [] ls=D6 N ls:=id rfl
theorem QZ {N ls}:Bq N 137 [] ls=JE N ls:=id rfl
theorem M9 {N ls}:Bq N 138 [] ls=Ed N ls:=id rfl
theorem QG {N ls}:Bq N 139 [] ls=Ih N ls:=id rfl
theorem N9 {N ls}:Bq N 140 [] ls=Fq N ls:=id rfl
def GU:=oS Tu Jg Bq
def W6:List Nat:=[0,0,0,0,0,0,0,0,0,0,0,0,0,0,3,0,3,3,1,3,1,0,0,0,3,0,0,0,0]
def MF (O:Alg) (x:Ags O):O.M:=let u2:=(O.u .i64 (x.I 28) (lq9 O 1));let u1:=(O.k (x.L 14) u2 0);let u0:=(O.r u2 (O.o (x.L 14)));(O.c (O.g 133 [] (xr x [0,0,0,0,0,0,0,0,0,0,0,0,0,0,3,0,3,3,1,3,1,0,0,0,3,0,0,0,0] 0)) fun c0=>(O.b (O.f (O.l c0 0)) (O.a [.int (lq9 O 3)]) (O.c (O.g 128 [] (xr x kI 0)) fun c1=>let u3:=(O.f (O.l c1 0));(O.n (O.f (O.s (O.f u3) (O.f u0))) (O.b (O.i u3 O.j (O.d u1 (O.lit .u8 1))) (O.a [.int (lq9 O 4)]) (O.n u0 (O.b (O.d u1 (O.lit .u8 2)) (O.a [.int (lq9 O 5)]) (O.a [.int (lq9 O 0)]))))))))
def Je:Nat→Env:=eL [(128,BI),(133,Av)]
theorem O9 {N ls}:Je N 128 [] ls=BI N ls:=id rfl
theorem Qa {N ls}:Je N 133 [] ls=Av N ls:=id rfl
def Dh:=oS W6 MF Je
def Q2:List Nat:=[0,0,0,0,0,0,0,0,0,0,0,0,0,0,3,0,3,3,1,3,1,0,0,0,3,0,0,0,0]
def HF (O:Alg) (x:Ags O):O.M:=let u0:=(O.u .i64 (x.I 28) (lq9 O 1));(O.c (O.g 131 [] (xr x kI 0)) fun c0=>(O.c (O.g 141 [] (xr x [0,0,0,0,0,0,0,0,0,0,0,0,0,0,3,0,3,3,1,3,1,0,0,0,3,0,0,0,0] 0)) fun c1=>(O.b (O.f (O.d (O.e c1 0) (lq9 O 0))) (O.a (ap O (cr O c0 kI 0) [.int (O.e c1 0)])) (O.c (O.g 133 [] (ap O (cr O c0 kI 0) [.int (x.I 28)])) fun c2=>(O.c (O.b (O.l c2 0) (O.n (O.r u0 (O.o (O.q c0 14))) (O.a (ap O (cr O c0 [0,0,0,0,0,0,0,0,0,0,0,0,0,0] 0) (ap O [.rows (O.x (O.q c0 14) u0 0 [.int (O.lit .u8 2)])] (cr O c0 [0,3,3,1,3,1,0,0,0,3,0,0,0] 15))))) (O.a (cr O c0 kI 0))) fun c3=>(O.a (ap O (cr O c3 [0,0,0,0] 0) (ap O [.int (O.p .i64 (O.e c3 4) (lq9 O 1))] (ap O (cr O c3 [0,0,0,0,0,0,0,0,0,3,0,3,3,1,3,1,0,0,0,3,0,0,0] 5) [.int (lq9 O 0)])))))))))
def Da:Nat→Env:=eL [(131,Au),(133,Av),(141,Dh)]
theorem Ov {N ls}:Da N 131 [] ls=Au N ls:=id rfl
theorem ND {N ls}:Da N 133 [] ls=Av N ls:=id rfl
theorem Ow {N ls}:Da N 141 [] ls=Dh N ls:=id rfl
def Ey:=oS Q2 HF Da
def TT:List Nat:=[0,0,0,0,0,0,0,0,0,0,0,0,0,0,3,0,3,3,1,3,1,0,0,0,3,0,0,0,0]
def Jl (O:Alg) (x:Ags O):O.M:=let u1:=(lq9 O 0);let u0:=(O.u .i64 (x.I 28) (lq9 O 1));(O.c (O.g 131 [] (xr x kI 0)) fun c0=>let u2:=(O.q c0 14);(O.c (O.g 141 [] (xr x [0,0,0,0,0,0,0,0,0,0,0,0,0,0,3,0,3,3,1,3,1,0,0,0,3,0,0,0,0] 0)) fun c1=>(O.b (O.f (O.d (O.e c1 0) u1)) (O.a (ap O (cr O c0 kI 0) [.int (O.e c1 0)])) (O.n (O.r u0 (O.o u2)) (O.b (O.d (O.e c0 12) u1) (O.a (ap O (cr O c0 [0,0,0,0,0,0,0,0,0,0,0,0] 0) (ap O [.int (x.I 28),.int (O.e c0 13),.rows (O.x u2 u0 0 [.int (O.lit .u8 1)])] (ap O (cr O c0 [0,3,3,1,3,1,0,0,0,3,0,0,0] 15) [.int u1])))) (O.a (ap O (cr O c0 [0,0,0,0,0,0,0,0,0,0,0,0,0] 0) (ap O [.int (x.I 28),.rows (O.x u2 u0 0 [.int (O.lit .u8 1)])] (ap O (cr O c0 [0,3,3,1,3,1,0,0,0,3,0,0,0] 15) [.int u1])))))))))
def HM:Nat→Env:=eL [(131,Au),(141,Dh)]
theorem Qd {N ls}:HM N 131 [] ls=Au N ls:=id rfl
theorem P1 {N ls}:HM N 141 [] ls=Dh N ls:=id rfl
def Gt:=oS TT Jl HM
def Ve:List Nat:=[0,0,0,0,0,0,0,0,0,0,0,0,0,0,3,0,3,3,1,3,1,0,0,0,3,0,0,0]
def FL (O:Alg) (x:Ags O):O.M:=(O.c (O.aa (fun s0 c0=>let u4:=(O.q c0 0);let u3:=(O.e c0 1);let u2:=(O.k (x.L 14) u3 0);let u1:=(O.p .i64 u3 (lq9 O 1));let u0:=(O.ae u4 (O.ad [[.int u1]]));(O.b (O.m u3 (O.o (x.L 14))) (O.n (O.r u3 (O.o (x.L 14))) (O.b (O.i (O.d u2 (O.lit .u8 0)) O.j (O.d u2 (O.lit .u8 3))) (O.n (O.ac (O.o u0) 8) (s0 [.rows u0,.int u1])) (s0 [.rows u4,.int u1]))) (O.a [.rows u4]))) [.rows O.y,.int (lq9 O 0)]) fun c0=>(O.a [.rows (O.q c0 0)]))
def MX:Nat→Env:=eL []
def Ck:=oS Ve FL MX
def Sa:List Nat:=[0,0,0,0,0,0,0,0,0,0,0,0,0,0,3,0,3,3,1,3,1,0,0,0,3,0,0,0,0,1]
def IH (O:Alg) (x:Ags O):O.M:=let u3:=(lq9 O 0);let u2:=(O.d (x.I 28) (x.I 12));let u1:=(O.u .i64 (x.I 28) (lq9 O 1));(O.c (O.g 131 [] (xr x kI 0)) fun c0=>(O.c (O.g 133 [] (xr x [0,0,0,0,0,0,0,0,0,0,0,0,0,0,3,0,3,3,1,3,1,0,0,0,3,0,0,0,0] 0)) fun c1=>(O.b (O.f (O.l c1 0)) (O.a (ap O (cr O c0 kI 0) [.int (lq9 O 3)])) (O.b (O.i (O.d (x.I 12) u3) O.j (O.d (x.I 13) u3)) (O.a (ap O (cr O c0 kI 0) [.int (lq9 O 6)])) (O.b (O.i (O.f u2) (O.f (O.d (x.I 28) (x.I 13))) O.h) (O.a (ap O (cr O c0 kI 0) [.int (lq9 O 4)])) (O.c (O.b (x.B 29) (O.g 129 [] (xr x kI 0)) (O.a [.rows O.y])) fun c2=>(O.b (O.i (x.B 29) (O.d (O.o (O.q c2 0)) u3) O.h) (O.a (ap O (cr O c0 kI 0) [.int (lq9 O 19)])) (O.c (O.b u2 (O.a (ap O (cr O c0 [0,0,0,0,0,0,0,0,0,0,0,0] 0) (ap O [.int u3] (cr O c0 [0,3,0,3,3,1,3,1,0,0,0,3,0,0,0] 13)))) (O.a (ap O (cr O c0 [0,0,0,0,0,0,0,0,0,0,0,0,0] 0) (ap O [.int u3] (cr O c0 [3,0,3,3,1,3,1,0,0,0,3,0,0,0] 14))))) fun c3=>let u4:=(O.q c3 14);let u0:=(O.r u1 (O.o u4));(O.b (x.B 29) (O.n u0 (O.a (ap O (cr O c3 [0,0,0,0,0,0,0,0,0,0,0,0,0,0] 0) (ap O [.rows (O.x u4 u1 0 [.int (O.lit .u8 3)])] (ap O (cr O c3 [0,3,3,1,3,1,0,0,0,3,0,0,0] 15) [.int u3]))))) (O.c (O.g 133 [] (ap O (cr O c3 kI 0) [.int (x.I 28)])) fun c4=>(O.c (O.b (O.l c4 0) (O.n u0 (O.a (ap O (cr O c3 [0,0,0,0,0,0,0,0,0,0,0,0,0,0] 0) (ap O [.rows (O.x u4 u1 0 [.int (O.lit .u8 2)])] (cr O c3 [0,3,3,1,3,1,0,0,0,3,0,0,0] 15))))) (O.a (cr O c3 kI 0))) fun c5=>(O.a (ap O (cr O c5 [0,0,0,0] 0) (ap O [.int (O.p .i64 (O.e c5 4) (lq9 O 1))] (ap O (cr O c5 [0,0,0,0,0,0,0,0,0,3,0,3,3,1,3,1,0,0,0,3,0,0,0] 5) [.int u3])))))))))))))))
def EG:Nat→Env:=eL [(129,Ck),(131,Au),(133,Av)]
theorem Og {N ls}:EG N 129 [] ls=Ck N ls:=id rfl
theorem O7 {N ls}:EG N 131 [] ls=Au N ls:=id rfl
theorem Nw {N ls}:EG N 133 [] ls=Av N ls:=id rfl
def Ft:=oS Sa IH EG
def Yt:List Nat:=[0,0,0,0,0,0,0,0,0,0,0,0,0,0,3,0,3,3,1,3,1,0,0,0,3,0,0,0]
def ON (O:Alg) (x:Ags O):O.M:=(O.c (O.g 93 [] [.rows (x.L 14)]) fun c0=>(O.c (O.g 94 [] [.rows (x.L 16)]) fun c1=>(O.c (O.g 94 [] [.rows (x.L 17)]) fun c2=>(O.c (O.g 94 [] [.rows (x.L 19)]) fun c3=>(O.c (O.g 95 [] [.rows (x.L 24)]) fun c4=>(O.a (ap O (xr x [0,0,0,0,0,0,0,0,0,0,0,0,0,0] 0) (ap O [.rows (O.q c0 0),.int (x.I 15),.rows (O.q c1 0),.rows (O.q c2 0),.bool (x.B 18),.rows (O.q c3 0)] (ap O (xr x [1,0,0,0] 20) (ap O [.rows (O.q c4 0)] (xr x [0,0,0] 25)))))))))))
def Hf:Nat→Env:=eL [(93,AS),(94,Aa),(95,AX)]
theorem Lo {N ls}:Hf N 93 [] ls=AS N ls:=id rfl
theorem NR {N ls}:Hf N 94 [] ls=Aa N ls:=id rfl
theorem NA {N ls}:Hf N 95 [] ls=AX N ls:=id rfl
def Cg:=oS Yt ON Hf
def SZ:List Nat:=[0,0,0,0,0,0,0,0,0,0,0,0,0,0,3,0,3,3,1,3,1,0,0,0,3,0,0,0,0]
def H6 (O:Alg) (x:Ags O):O.M:=(O.c (O.g 143 [] (xr x kI 0)) fun c0=>(O.b (O.i (O.m (x.I 28) (lq9 O 0)) O.j (O.m (O.u .i64 (O.o (x.L 24)) (lq9 O 2)) (x.I 28))) (O.a (ap O (cr O c0 kI 0) [.int (lq9 O 16)])) (O.a (ap O (cr O c0 [0,0,0,0,0,0,0,0,0,0,0,0,0,0,3,0,3,3,1,3,1,0,0] 0) (ap O [.int (x.I 28)] (ap O (cr O c0 [3,0,0,0] 24) [.int (lq9 O 0)]))))))
def Jt:Nat→Env:=eL [(143,Cg)]
theorem QK {N ls}:Jt N 143 [] ls=Cg N ls:=id rfl
def Fh:=oS SZ H6 Jt
def Tl:List Nat:=[0,0,0,0,0,0,0,0,0,0,0,0,0,0,3,0,3,3,1,3,1,0,0,0,3,0,0,0,0]
def JU (O:Alg) (x:Ags O):O.M:=(O.c (O.g 143 [] (xr x kI 0)) fun c0=>(O.c (O.g 144 [] (xr x [0,0,0,0,0,0,0,0,0,0,0,0,0,0,3,0,3,3,1,3,1,0,0,0,3,0,0,0,0] 0)) fun c1=>(O.b (O.f (O.l c1 0)) (O.a (ap O (cr O c0 kI 0) [.int (lq9 O 3)])) (O.c (O.g 145 [] (xr x [0,0,0,0,0,0,0,0,0,0,0,0,0,0,3,0,3,3,1,3,1,0,0,0,3,0,0,0,0] 0)) fun c2=>(O.b (O.l c2 0) (O.a (ap O (cr O c0 kI 0) [.int (lq9 O 18)])) (O.b (O.i (O.d (x.I 28) (x.I 15)) O.j (O.d (x.I 28) (x.I 22))) (O.a (ap O (cr O c0 kI 0) [.int (lq9 O 17)])) (O.a (ap O (cr O c0 [0,0,0,0,0,0,0,0,0,0,0,0,0,0,3,0,3,3,1,3,1,0] 0) (ap O [.int (x.I 28)] (ap O (cr O c0 [0,3,0,0,0] 23) [.int (lq9 O 0)]))))))))))
def El:Nat→Env:=eL [(143,Cg),(144,A2),(145,Az)]
theorem RF {N ls}:El N 143 [] ls=Cg N ls:=id rfl
theorem PC {N ls}:El N 144 [] ls=A2 N ls:=id rfl
theorem M5 {N ls}:El N 145 [] ls=Az N ls:=id rfl
def Gn:=oS Tl JU El
def OX:List Nat:=[0,0,0,0,0,0,0,0,0,0,0,0,0,0,3,0,3,3,1,3,1,0,0,0,3,0,0,0,0,1]
def Fv (O:Alg) (x:Ags O):O.M:=let u2:=(lq9 O 0);let u1:=(O.u .i64 (x.I 28) (lq9 O 1));(O.c (O.g 143 [] (xr x kI 0)) fun c0=>let u0:=(O.x (O.q c0 24) u1 0 [.bool (x.B 29)]);(O.c (O.g 144 [] (xr x [0,0,0,0,0,0,0,0,0,0,0,0,0,0,3,0,3,3,1,3,1,0,0,0,3,0,0,0,0] 0)) fun c1=>(O.b (O.f (O.l c1 0)) (O.a (ap O (cr O c0 kI 0) [.int (lq9 O 3)])) (O.c (O.g 145 [] (xr x [0,0,0,0,0,0,0,0,0,0,0,0,0,0,3,0,3,3,1,3,1,0,0,0,3,0,0,0,0] 0)) fun c2=>(O.b (O.an (O.l c2 0) (x.B 29)) (O.a (ap O (cr O c0 kI 0) [.int (lq9 O 18)])) (O.n (O.r u1 (O.o (O.q c0 24))) (O.c (O.b (O.i (x.B 29) (O.d (O.e c0 22) (x.I 28)) O.h) (O.a (ap O (cr O c0 [0,0,0,0,0,0,0,0,0,0,0,0,0,0,3,0,3,3,1,3,1,0] 0) (ap O [.int u2,.int (O.e c0 23),.rows u0] (cr O c0 [0,0,0] 25)))) (O.a (ap O (cr O c0 [0,0,0,0,0,0,0,0,0,0,0,0,0,0,3,0,3,3,1,3,1,0,0,0] 0) (ap O [.rows u0] (cr O c0 [0,0,0] 25))))) fun c3=>(O.b (O.i (x.B 29) (O.d (O.e c3 15) (x.I 28)) O.h) (O.a (ap O (cr O c3 [0,0,0,0,0,0,0,0,0,0,0,0,0,0,3] 0) (ap O [.int u2] (ap O (cr O c3 [3,3,1,3,1,0,0,0,3,0,0,0] 16) [.int u2])))) (O.a (ap O (cr O c3 kI 0) [.int u2]))))))))))
def C1:Nat→Env:=eL [(143,Cg),(144,A2),(145,Az)]
theorem Nq {N ls}:C1 N 143 [] ls=Cg N ls:=id rfl
theorem MQ {N ls}:C1 N 144 [] ls=A2 N ls:=id rfl
theorem KJ {N ls}:C1 N 145 [] ls=Az N ls:=id rfl
def Dc:=oS OX Fv C1
def ST:List Nat:=[2,0,0,0,0,0,0,0,1,0,0,0,0,3,0,0,0,0,0,0,0,0,0,0,0,0,0,0,3,0,3,3,1,3,1,0,0,0,3,0,0,0]
def IB (O:Alg) (x:Ags O):O.M:=let u0:=(lq9 O 0);(O.c (O.g 134 [] (xr x kI 14)) fun c0=>(O.c (O.g 6 [] (xr x kR 0)) fun c1=>(O.b (O.i (O.i (O.f (O.d (O.e c1 0) u0)) O.j (O.d (x.I 9) u0)) O.j (O.m (x.I 35) (O.af .i64 (x.I 9) (x.I 4)))) (O.a (ap O (cr O c0 kI 0) [.int (lq9 O 22)])) (O.a (ap O (cr O c0 [0,0,0,0,0,0,0,0,0,0,0,0,0,0,3,0,3,3,1,3,1] 0) (ap O [.int u0] (ap O (cr O c0 [0,0,3,0,0,0] 22) [.int u0])))))))
def GM:Nat→Env:=eL [(6,AN),(134,Cd)]
theorem OT {N ls}:GM N 6 [] ls=AN N ls:=id rfl
theorem P5 {N ls}:GM N 134 [] ls=Cd N ls:=id rfl
def Fc:=oS ST IB GM
def PZ:List Nat:=[2,0,0,0,0,0,0,0,1,0,0,0,0,3,0,0,0,0,0,0,0,0,0,0,0,0,0,0,3,0,3,3,1,3,1,0,0,0,3,0,0,0,0,0,0,0,1,0,0,0,0,0,0,0,1,0,0,0,0,1,0]
def GE (O:Alg) (x:Ags O):O.M:=(O.c (O.g 78 [] (xr x kI 14)) fun c0=>(O.b (O.f (O.d (x.I 43) (x.I 14))) (O.a (ap O (cr O c0 kI 0) [.int (lq9 O 2)])) (O.b (O.f (O.d (x.I 3) (lq9 O 0))) (O.a (ap O (cr O c0 kI 0) [.int (lq9 O 20)])) (O.a (ap O (cr O c0 [0,0,0,0,0,0,0,0,0,0,0,0,0,0,3,0,3,3,1,3,1,0,0,0,3,0,0] 0) [.int (O.lit .u8 4),.int (lq9 O 0)])))))
def H5:Nat→Env:=eL [(78,AQ)]
theorem Lq {N ls}:H5 N 78 [] ls=AQ N ls:=id rfl
def D5:=oS PZ GE H5
def Pc:List Nat:=[0,0,0,0,0,0,0,0,0,0,0,0,0,0,3,0,3,3,1,3,1,0,0,0,3,0,0,0]
def GD (O:Alg) (x:Ags O):O.M:=(O.c (O.g 78 [] (xr x kI 0)) fun c0=>(O.a (ap O (cr O c0 [0,0,0] 0) (ap O [.int (O.p .i64 (O.e c0 3) (lq9 O 5))] (ap O (cr O c0 [0,0,0,0,0] 4) (ap O [.int (O.p .i64 (O.e c0 9) (lq9 O 5))] (cr O c0 [0,0,0,0,3,0,3,3,1,3,1,0,0,0,3,0,0,0] 10)))))))
def H1:Nat→Env:=eL [(78,AQ)]
theorem Lk {N ls}:H1 N 78 [] ls=AQ N ls:=id rfl
def B3:=oS Pc GD H1
def Pj:List Nat:=[0,0,0,0,0,0,0,0,0,0,0,0,0,0,3,0,3,3,1,3,1,0,0,0,3,0,0,0,0,0,0,0,1,0,0,0,0,0,0,0,1,0,0,0,0,1,0]
def GJ (O:Alg) (x:Ags O):O.M:=let u0:=(lq9 O 0);(O.c (O.g 78 [] (xr x kI 0)) fun c0=>(O.b (O.f (O.d (x.I 33) (lq9 O 5))) (O.a (ap O (cr O c0 kI 0) [.int (lq9 O 23)])) (O.b (O.d (x.I 29) (x.I 0)) (O.c (O.g 108 [] (xr x kI 0)) fun c1=>(O.a (ap O (cr O c1 kI 0) [.int u0]))) (O.b (O.m u0 (O.e c0 1)) (O.a (ap O [.int (O.e c0 0),.int (O.p .i64 (O.e c0 1) (lq9 O 5))] (ap O (cr O c0 [0,0,0,0,0,0,0,0,0,0,0,0,3,0,3,3,1,3,1,0,0,0,3,0,0,0] 2) [.int u0]))) (O.a (ap O (cr O c0 kI 0) [.int u0]))))))
def E3:Nat→Env:=eL [(78,AQ),(108,B3)]
theorem Lt {N ls}:E3 N 78 [] ls=AQ N ls:=id rfl
theorem KE {N ls}:E3 N 108 [] ls=B3 N ls:=id rfl
def EE:=oS Pj GJ E3
def Q7:List Nat:=[2,0,0,0,0,0,0,0,1,0,0,0,0,3,0,0,0,0,0,0,0,0,0,0,0,0,0,0,3,0,3,3,1,3,1,0,0,0,3,0,0,0,0,0,0,0,1,0,0,0,0,0,0,0,1,0,0,0,0,1,0]
def Ei (O:Alg) (x:Ags O):O.M:=let u5:=(lq9 O 0);let u4:=(lq9 O 1);let u3:=(O.u .i64 (x.I 43) u4);let u2:=(O.r u3 (lq9 O 2));let u1:=(O.d u3 u4);(O.c (O.g 78 [] (xr x kI 14)) fun c0=>let u0:=(O.p .i64 (O.w u1 (O.e c0 26) (O.e c0 25)) u4);(O.n (O.f (O.s (O.f (O.f (x.B 32))) (O.f u2))) (O.b (O.i (O.f (x.B 32)) O.j (O.v (x.I 11) (O.w u1 (x.I 40) (x.I 39)))) (O.a (ap O (cr O c0 kI 0) [.int (lq9 O 24)])) (O.b (O.f (x.B 46)) (O.n u2 (O.n u2 (O.a (ap O (cr O c0 [0,0,0,0,0,0,0,0,0,0,0,0,0,0,3,0,3,3,1,3,1,0,0,0,3] 0) [.int (O.w (O.d u3 u5) u0 (O.e c0 25)),.int (O.w u1 u0 (O.e c0 26)),.int (O.e c0 27),.int u5])))) (O.a (ap O (cr O c0 kI 0) [.int u5]))))))
def Iy:Nat→Env:=eL [(78,AQ)]
theorem Fd {N ls}:Iy N 78 [] ls=AQ N ls:=id rfl
def Ek:=oS Q7 Ei Iy
def So:List Nat:=[2,0,0,0,0,0,0,0,1,0,0,0,0,3,0,0,0,0,0,0,0,0,0,0,0,0,0,0,3,0,3,3,1,3,1,0,0,0,3,0,0,0]
def R5 (O:Alg) (x:Ags O):O.M:=(O.a [.int (O.p .i64 (O.af .i64 (x.I 24) (x.I 4)) (x.I 25))])
def X8:Nat→Env:=eL []
def CZ:=oS So R5 X8
def Q0:List Nat:=[2,0,0,0,0,0,0,0,1,0,0,0,0,3,0,0,0,0,0,0,0,0,0,0,0,0,0,0,3,0,3,3,1,3,1,0,0,0,3,0,0,0,0,0,0,0,1,0,0,0,0,0,0,0,1,0,0,0,0,1,0]
def HI (O:Alg) (x:Ags O):O.M:=let u4:=(lq9 O 0);let u3:=(lq9 O 25);let u2:=(O.m (x.I 3) (x.I 48));let u1:=(O.m u4 (x.I 47));let u0:=(O.m u4 (x.I 48));(O.c (O.g 78 [] (xr x kI 14)) fun c0=>(O.b (O.i (O.d (x.I 3) u4) O.j (O.i (O.d (x.I 47) u4) (O.d (x.I 48) u4) O.h)) (O.a (ap O (cr O c0 kI 0) [.int u3])) (O.b (O.i u1 (O.i (O.d (x.I 15) u4) O.j (O.v (x.I 47) (x.I 17))) O.h) (O.a (ap O (cr O c0 kI 0) [.int u3])) (O.c (O.b (O.s u0 (O.f u2)) (O.g 29 [] (xr x [2,0,0,0,0,0,0,0,1,0,0,0,0,3,0,0,0,0,0,0,0,0,0,0,0,0,0,0,3,0,3,3,1,3,1,0,0,0,3,0,0,0] 0)) (O.a [.int u4])) fun c1=>(O.b (O.i u0 (O.i u2 O.j (O.m (O.af .i64 (x.I 48) (x.I 4)) (O.e c1 0))) O.h) (O.a (ap O (cr O c0 kI 0) [.int u3])) (O.c (O.b u1 (O.a (ap O [.int (O.e c0 0),.int (x.I 47)] (cr O c0 [0,0,0,0,0,0,0,0,0,0,0,0,3,0,3,3,1,3,1,0,0,0,3,0,0,0] 2))) (O.a (cr O c0 kI 0))) fun c2=>(O.b u0 (O.a (ap O [.int (O.e c2 0),.int (O.e c2 1),.int (x.I 48)] (ap O (cr O c2 [0,0,0,0,0,0,0,0,0,0,0,3,0,3,3,1,3,1,0,0,0,3,0,0,0] 3) [.int u4]))) (O.a (ap O (cr O c2 kI 0) [.int u4])))))))))
def Fr:Nat→Env:=eL [(29,CZ),(78,AQ)]
theorem L9 {N ls}:Fr N 29 [] ls=CZ N ls:=id rfl
theorem L1 {N ls}:Fr N 78 [] ls=AQ N ls:=id rfl
def Ep:=oS Q0 HI Fr
def Pz:List Nat:=[2,0,0,0,0,0,0,0,1,0,0,0,0,3,0,0,0,0,0,0,0,0,0,0,0,0,0,0,3,0,3,3,1,3,1,0,0,0,3,0,0,0,0,0,0,0,1,0,0,0,0,0,0,0,1,0,0,0,0,1,0]
def EA (O:Alg) (x:Ags O):O.M:=(O.b (O.d (x.I 42) (O.lit .u8 2)) (O.c (O.g 114 [] (ap O (xr x kI 14) [.int (x.I 44),.int (x.I 45)])) fun c0=>(O.a (cr O c0 [0,0,0,0,0,0,0,0,0,0,0,0,0,0,3,0,3,3,1,3,1,0,0,0,3,0,0,0,0] 0))) (O.b (O.d (x.I 42) (O.lit .u8 3)) (O.c (O.g 115 [] (ap O (xr x [2,0,0,0,0,0,0,0,1,0,0,0,0,3,0,0,0,0,0,0,0,0,0,0,0,0,0,0,3,0,3,3,1,3,1,0,0,0,3,0,0,0] 0) [.int (x.I 44)])) fun c0=>(O.a (cr O c0 [0,0,0,0,0,0,0,0,0,0,0,0,0,0,3,0,3,3,1,3,1,0,0,0,3,0,0,0,0] 0))) (O.b (O.d (x.I 42) (O.lit .u8 4)) (O.c (O.g 116 [] (ap O (xr x [2,0,0,0,0,0,0,0,1,0,0,0,0,3,0,0,0,0,0,0,0,0,0,0,0,0,0,0,3,0,3,3,1,3,1,0,0,0,3,0,0,0] 0) (xr x [0,0,0,0,0,1,0,0,0,0,1,0] 49))) fun c0=>(O.a (cr O c0 [0,0,0,0,0,0,0,0,0,0,0,0,0,0,3,0,3,3,1,3,1,0,0,0,3,0,0,0,0] 0))) (O.b (O.d (x.I 42) (O.lit .u8 5)) (O.b (x.B 46) (O.c (O.g 117 [] (ap O (xr x kI 14) [.int (x.I 44)])) fun c0=>(O.a (cr O c0 [0,0,0,0,0,0,0,0,0,0,0,0,0,0,3,0,3,3,1,3,1,0,0,0,3,0,0,0,0] 0))) (O.c (O.g 118 [] (ap O (xr x kI 14) [.int (x.I 44)])) fun c0=>(O.a (cr O c0 [0,0,0,0,0,0,0,0,0,0,0,0,0,0,3,0,3,3,1,3,1,0,0,0,3,0,0,0,0] 0)))) (O.b (O.d (x.I 42) (O.lit .u8 6)) (O.c (O.g 119 [] (ap O (xr x kI 14) [.int (x.I 44),.bool (x.B 46)])) fun c0=>(O.a (cr O c0 [0,0,0,0,0,0,0,0,0,0,0,0,0,0,3,0,3,3,1,3,1,0,0,0,3,0,0,0,0] 0))) (O.b (O.d (x.I 42) (O.lit .u8 7)) (O.c (O.g 120 [] (ap O (xr x kI 14) [.int (x.I 47)])) fun c0=>(O.a (cr O c0 [0,0,0,0,0,0,0,0,0,0,0,0,0,0,3,0,3,3,1,3,1,0,0,0,3,0,0,0,0] 0))) (O.b (O.d (x.I 42) (O.lit .u8 8)) (O.c (O.g 121 [] (ap O (xr x kI 14) [.int (x.I 44)])) fun c0=>(O.a (cr O c0 [0,0,0,0,0,0,0,0,0,0,0,0,0,0,3,0,3,3,1,3,1,0,0,0,3,0,0,0,0] 0))) (O.b (O.d (x.I 42) (O.lit .u8 9)) (O.c (O.g 122 [] (ap O (xr x kI 14) [.int (x.I 44),.bool (x.B 46)])) fun c0=>(O.a (cr O c0 [0,0,0,0,0,0,0,0,0,0,0,0,0,0,3,0,3,3,1,3,1,0,0,0,3,0,0,0,0] 0))) (O.b (O.d (x.I 42) (O.lit .u8 10)) (O.c (O.g 123 [] (xr x [2,0,0,0,0,0,0,0,1,0,0,0,0,3,0,0,0,0,0,0,0,0,0,0,0,0,0,0,3,0,3,3,1,3,1,0,0,0,3,0,0,0] 0)) fun c0=>(O.a (cr O c0 [0,0,0,0,0,0,0,0,0,0,0,0,0,0,3,0,3,3,1,3,1,0,0,0,3,0,0,0,0] 0))) (O.b (O.d (x.I 42) (O.lit .u8 11)) (O.c (O.g 124 [] (xr x [2,0,0,0,0,0,0,0,1,0,0,0,0,3,0,0,0,0,0,0,0,0,0,0,0,0,0,0,3,0,3,3,1,3,1,0,0,0,3,0,0,0,0,0,0,0,1,0,0,0,0,0,0,0,1,0,0,0,0,1,0] 0)) fun c0=>(O.a (cr O c0 [0,0,0,0,0,0,0,0,0,0,0,0,0,0,3,0,3,3,1,3,1,0,0,0,3,0,0,0,0] 0))) (O.b (O.d (x.I 42) (O.lit .u8 13)) (O.c (O.g 125 [] (xr x [0,0,0,0,0,0,0,0,0,0,0,0,0,0,3,0,3,3,1,3,1,0,0,0,3,0,0,0,0,0,0,0,1,0,0,0,0,0,0,0,1,0,0,0,0,1,0] 14)) fun c0=>(O.a (cr O c0 [0,0,0,0,0,0,0,0,0,0,0,0,0,0,3,0,3,3,1,3,1,0,0,0,3,0,0,0,0] 0))) (O.b (O.d (x.I 42) (O.lit .u8 14)) (O.c (O.g 126 [] (xr x [2,0,0,0,0,0,0,0,1,0,0,0,0,3,0,0,0,0,0,0,0,0,0,0,0,0,0,0,3,0,3,3,1,3,1,0,0,0,3,0,0,0,0,0,0,0,1,0,0,0,0,0,0,0,1,0,0,0,0,1,0] 0)) fun c0=>(O.a (cr O c0 [0,0,0,0,0,0,0,0,0,0,0,0,0,0,3,0,3,3,1,3,1,0,0,0,3,0,0,0,0] 0))) (O.c (O.g 127 [] (xr x [2,0,0,0,0,0,0,0,1,0,0,0,0,3,0,0,0,0,0,0,0,0,0,0,0,0,0,0,3,0,3,3,1,3,1,0,0,0,3,0,0,0,0,0,0,0,1,0,0,0,0,0,0,0,1,0,0,0,0,1,0] 0)) fun c0=>(O.a (cr O c0 [0,0,0,0,0,0,0,0,0,0,0,0,0,0,3,0,3,3,1,3,1,0,0,0,3,0,0,0,0] 0)))))))))))))))
def Ab:Nat→Env:=eL [(114,Hl),(115,JB),(116,GU),(117,Ey),(118,Gt),(119,Ft),(120,Fh),(121,Gn),(122,Dc),(123,Fc),(124,D5),(125,EE),(126,Ek),(127,Ep)]
theorem GA {N ls}:Ab N 114 [] ls=Hl N ls:=id rfl
theorem Gr {N ls}:Ab N 115 [] ls=JB N ls:=id rfl
theorem FV {N ls}:Ab N 116 [] ls=GU N ls:=id rfl
theorem Et {N ls}:Ab N 117 [] ls=Ey N ls:=id rfl
theorem FZ {N ls}:Ab N 118 [] ls=Gt N ls:=id rfl
theorem FD {N ls}:Ab N 119 [] ls=Ft N ls:=id rfl
theorem FA {N ls}:Ab N 120 [] ls=Fh N ls:=id rfl
theorem Fy {N ls}:Ab N 121 [] ls=Gn N ls:=id rfl
theorem D4 {N ls}:Ab N 122 [] ls=Dc N ls:=id rfl
theorem FC {N ls}:Ab N 123 [] ls=Fc N ls:=id rfl
theorem EW {N ls}:Ab N 124 [] ls=D5 N ls:=id rfl
theorem EU {N ls}:Ab N 125 [] ls=EE N ls:=id rfl
theorem Ef {N ls}:Ab N 126 [] ls=Ek N ls:=id rfl
theorem Ew {N ls}:Ab N 127 [] ls=Ep N ls:=id rfl
def EC:=oS Pz EA Ab
def RW:List Nat:=[2,0,0,0,0,0,0,0,1,0,0,0,0,3,0,0,0,0,0,0,0,0,0,0,0,0,0,0,3,0,3,3,1,3,1,0,0,0,3,0,0,0]
def HQ (O:Alg) (x:Ags O):O.M:=let u0:=(lq9 O 0);(O.c (O.g 71 [] (xr x [2,0,0,0,0,0,0,0,1,0,0,0,0,3,0,0,0,0,0,0,0,0,0,0,0,0,0,0,3,0,3,3,1,3,1,0,0,0,3,0,0,0] 0)) fun c0=>(O.b (O.f (O.l c0 0)) (O.a [.int (O.lit .u8 0)]) (O.b (O.i (O.m u0 (x.I 15)) (O.v (x.I 15) (x.I 17)) O.h) (O.a [.int (O.lit .u8 3)]) (O.c (O.g 128 [] (xr x kI 14)) fun c1=>(O.c (O.b (O.l c1 0) (O.g 129 [] (xr x kI 14)) (O.a [.rows O.y])) fun c2=>(O.b (O.i (O.l c1 0) (O.d (O.o (O.q c2 0)) u0) O.h) (O.a [.int (O.lit .u8 1)]) (O.b (O.i (O.m u0 (x.I 16)) (O.v (x.I 16) (x.I 24)) O.h) (O.a [.int (O.lit .u8 2)]) (O.a [.int (O.lit .u8 0)]))))))))
def Dj:Nat→Env:=eL [(71,BJ),(128,BI),(129,Ck)]
def DR:=oS RW HQ Dj
def UM:List Nat:=[2,0,0,0,0,0,0,0,1,0,0,0,0,3,0,0,0,0,0,0,0,0,0,0,0,0,0,0,3,0,3,3,1,3,1,0,0,0,3,0,0,0,0,0,0,0,1,0,0,0,0,0,0,0,1,0,0,0,0,1,0]
def Jm (O:Alg) (x:Ags O):O.M:=let u1:=(lq9 O 0);(O.c (O.g 71 [] (xr x [2,0,0,0,0,0,0,0,1,0,0,0,0,3,0,0,0,0,0,0,0,0,0,0,0,0,0,0,3,0,3,3,1,3,1,0,0,0,3,0,0,0] 0)) fun c0=>let u0:=(O.f (O.l c0 0));(O.c (O.b (O.f u0) (O.g 64 [] (xr x [0,0,0,0,1,0,0,0,0,0,0,0,1,0,0,0,0,1,0] 42)) (O.a [.int u1])) fun c1=>(O.b (O.i u0 O.j (O.f (O.d (O.e c1 0) u1))) (O.c (O.g 78 [] (xr x kI 14)) fun c2=>(O.a (ap O (cr O c2 kI 0) [.int (lq9 O 1)]))) (O.b (O.f (O.d (x.I 41) (O.lit .u8 0))) (O.c (O.g 78 [] (xr x kI 14)) fun c2=>(O.a (ap O (cr O c2 kI 0) [.int (lq9 O 26)]))) (O.c (O.b (O.f (O.i (O.i (O.d (x.I 42) (O.lit .u8 1)) O.j (O.d (x.I 42) (O.lit .u8 12))) O.j (O.d (x.I 42) (O.lit .u8 16)))) (O.g 105 [] (xr x kI 14)) (O.a [.bool O.h])) fun c2=>(O.b (O.i (O.i (O.i (O.d (x.I 42) (O.lit .u8 1)) O.j (O.d (x.I 42) (O.lit .u8 12))) O.j (O.d (x.I 42) (O.lit .u8 16))) O.j (O.i (O.f (O.l c2 0)) (O.f (O.d (x.I 42) (O.lit .u8 2))) O.h)) (O.c (O.g 78 [] (xr x kI 14)) fun c3=>(O.a (ap O (cr O c3 kI 0) [.int (lq9 O 1)]))) (O.c (O.g 106 [] (xr x [2,0,0,0,0,0,0,0,1,0,0,0,0,3,0,0,0,0,0,0,0,0,0,0,0,0,0,0,3,0,3,3,1,3,1,0,0,0,3,0,0,0,0,0,0,0,1,0,0,0,0,0,0,0,1,0,0,0,0,1,0] 0)) fun c3=>(O.b (O.f (O.d (O.e c3 28) u1)) (O.c (O.g 78 [] (xr x kI 14)) fun c4=>(O.a (ap O (cr O c4 kI 0) [.int (O.e c3 28)]))) (O.b (O.d (O.e c3 27) (O.lit .u8 0)) (O.c (O.g 107 [] (ap O (xr x kR 0) (ap O (cr O c3 [0,0,0,0,0,0,0,0,0,0,0,0,0,0,3,0,3,3] 0) (ap O [.bool (O.d (x.I 42) (O.lit .u8 4))] (cr O c3 [3,1,0,0,0,3,0,0,0] 19))))) fun c4=>(O.a (ap O (cr O c3 [0,0,0,0,0,0,0,0,0,0,0,0,0,0,3,0,3,3] 0) (ap O [.bool (O.d (x.I 42) (O.lit .u8 4))] (ap O (cr O c3 [3,1,0,0,0,3,0,0] 19) [.int (O.e c4 0),.int u1]))))) (O.a (ap O (cr O c3 [0,0,0,0,0,0,0,0,0,0,0,0,0,0,3,0,3,3] 0) (ap O [.bool (O.d (x.I 42) (O.lit .u8 4))] (ap O (cr O c3 [3,1,0,0,0,3,0,0,0] 19) [.int u1])))))))))))))
def CM:Nat→Env:=eL [(64,C8),(71,BJ),(78,AQ),(105,FQ),(106,EC),(107,DR)]
theorem O3 {N ls}:CM N 64 [] ls=C8 N ls:=id rfl
theorem OA {N ls}:CM N 71 [] ls=BJ N ls:=id rfl
theorem N5 {N ls}:CM N 78 [] ls=AQ N ls:=id rfl
theorem Nu {N ls}:CM N 105 [] ls=FQ N ls:=id rfl
theorem FW {N ls}:CM N 106 [] ls=EC N ls:=id rfl
theorem GC {N ls}:CM N 107 [] ls=DR N ls:=id rfl
def Gc:=oS UM Jm CM
def XV:List Nat:=[2,0,0,0,0,0,0,0,1,0,0,0,0,3,0,0,1,3,0,0,0,0,0,0,0,0,0,1,0,0,0,0,0,0,0,1,0,0,0,0,1,0]
def L3 (O:Alg) (x:Ags O):O.M:=let u23:=(lq9 O 2);let u22:=(lq9 O 1);let u21:=(lq9 O 0);let u17:=(O.u .i64 (x.I 24) u22);let u11:=(O.r u17 u23);let u10:=(O.d u17 u22);(O.c (O.g 63 [] (xr x kM 0)) fun c0=>let u20:=(O.f (O.l c0 0));(O.c (O.b (O.f u20) (O.g 64 [] (xr x [0,0,0,0,1,0,0,0,0,0,0,0,1,0,0,0,0,1,0] 23)) (O.a [.int u21])) fun c1=>(O.b (O.i u20 O.j (O.f (O.d (O.e c1 0) u21))) (O.c (O.g 65 [] (xr x kM 0)) fun c2=>(O.a (ap O (cr O c2 kM 0) [.int u22]))) (O.b (O.d (x.I 14) (O.lit .u8 5)) (O.c (O.g 65 [] (xr x kM 0)) fun c2=>(O.a (ap O (cr O c2 kM 0) [.int (lq9 O 26)]))) (O.c (O.g 65 [] (xr x kM 0)) fun c2=>let u28:=(O.e c2 15);let u27:=(O.e c2 18);let u26:=(O.e c2 19);let u25:=(O.e c2 14);let u24:=(O.q c2 17);let u19:=(O.o u24);let u12:=(O.u .i64 u19 u22);let u4:=(O.r u12 u19);let u0:=(O.p .i64 (O.w u10 u26 u27) (lq9 O 5));(O.c (O.b (O.d (x.I 23) (O.lit .u8 1)) (O.b (O.f (O.d u25 (O.lit .u8 1))) (O.a (ap O [.int u22] (cr O c2 kM 0))) (O.c (O.g 79 [] [.int (x.I 24)]) fun c3=>(O.b (x.B 27) (O.a (ap O [.int u21] (ap O (cr O c2 kR 0) (ap O [.int (O.lit .u8 2),.int (x.I 24)] (cr O c2 [1,3,0,0,0,0,0] 16))))) (O.a (ap O [.int u21] (ap O (cr O c2 kR 0) (ap O [.int (O.lit .u8 2),.int (O.e c3 0)] (cr O c2 [1,3,0,0,0,0,0] 16)))))))) (O.b (O.d (x.I 23) (O.lit .u8 2)) (O.c (O.b (O.f (O.d u25 (O.lit .u8 2))) (O.a (ap O [.int u22] (cr O c2 kM 0))) (O.c (O.g 72 [] (ap O (cr O c2 kM 0) [.int u19])) fun c3=>let u16:=(O.u .i64 (O.e c3 0) u22);let u9:=(O.d u16 u22);let u8:=(O.r u16 u23);(O.c (O.g 97 [] (ap O (cr O c2 kM 0) [.int (O.e c3 0)])) fun c4=>(O.n u8 (O.c (O.g 96 [] (ap O (cr O c2 kR 0) [.int (O.e c3 0),.int (O.e c4 0),.int (O.w u9 u26 u27)])) fun c5=>(O.b (O.f (O.d (O.e c5 28) u21)) (O.a (ap O [.int u22] (cr O c2 kM 0))) (O.c (O.g 98 [] (ap O (cr O c2 kR 0) (ap O (cr O c5 kI 0) (xr x [0,0,0,0,1,0,0,0,0,0,0,0,1,0,0,0,0,1,0] 23)))) fun c6=>let u14:=(O.ae u24 (O.ad [(cr O c6 kI 0)]));(O.b (O.f (O.d (O.e c6 28) u21)) (O.a (ap O [.int (O.e c6 28)] (cr O c2 kM 0))) (O.n u8 (O.n (O.ac (O.o u14) 304) (O.a (ap O [.int u21] (ap O (cr O c2 kR 0) (ap O [.int (O.lit .u8 3),.int u28,.bool (O.l c2 16),.rows u14,.int (O.w (O.d u16 u21) u21 u27),.int (O.w u9 u21 u26)] (cr O c2 [0,0,0] 20))))))))))))))) fun c3=>(O.a (cr O c3 [0,2,0,0,0,0,0,0,0,1,0,0,0,0,3,0,0,1,3,0,0,0,0,0] 0))) (O.b (O.d (x.I 23) (O.lit .u8 12)) (O.b (O.f (O.d u25 (O.lit .u8 4))) (O.a (ap O [.int u22] (cr O c2 kM 0))) (O.b (O.f (O.d (x.I 24) u28)) (O.a (ap O [.int u23] (cr O c2 kM 0))) (O.a (ap O [.int u21] (ap O (cr O c2 kR 0) (ap O [.int (O.lit .u8 2),.int u28,.bool (x.B 27)] (cr O c2 [3,0,0,0,0,0] 17))))))) (O.b (O.d (x.I 23) (O.lit .u8 16)) (O.c (O.b (O.d u25 (O.lit .u8 3)) (O.n u4 (O.a (ap O (cr O c2 [2,0,0,0,0,0,0,0,1,0,0,0,0,3,0,0,1] 0) (ap O [.rows (O.x u24 u12 27 [.int (O.lit .u8 5)])] (cr O c2 [0,0,0,0,0] 18))))) (O.a (cr O c2 kM 0))) fun c3=>(O.c (O.g 99 [] (cr O c3 kR 0)) fun c4=>(O.a (ap O [.int u21] (ap O (cr O c3 kR 0) (ap O [.int (O.lit .u8 5)] (ap O (cr O c3 [0,1,3,0,0] 15) [.int (O.e c4 0),.int u21,.int u21]))))))) (O.c (O.b (O.f (O.d u25 (O.lit .u8 3))) (O.a (ap O [.int u22] (cr O c2 kM 0))) (O.n u4 (O.c (O.g 98 [] (ap O (cr O c2 kR 0) (ap O (rr O u24 u12 kI 0) (xr x [0,0,0,0,1,0,0,0,0,0,0,0,1,0,0,0,0,1,0] 23)))) fun c3=>let u3:=(O.x u24 u12 0 (cr O c3 kI 0));let u2:=(O.o u3);(O.b (O.f (O.d (O.e c3 28) u21)) (O.a (ap O [.int (O.e c3 28)] (cr O c2 kM 0))) (O.n u4 (O.b (O.i (O.d (x.I 23) (O.lit .u8 13)) (O.f (O.d (x.I 24) (O.e c3 0))) O.h) (O.c (O.c (O.aa (fun s4 c4=>let u30:=(O.e c4 0);let u1:=(O.r u30 u2);(O.b (O.v u21 u30) (O.n u1 (O.b (O.d (O.k u3 u30 0) (x.I 24)) (O.n u1 (O.c (O.g 108 [] (rr O u3 u30 kI 0)) fun c5=>(O.n u1 (O.a (ap O [.int u21] (ap O (cr O c2 [2,0,0,0,0,0,0,0,1,0,0,0,0,3,0,0,1] 0) (ap O [.rows (O.x u3 u30 0 (cr O c5 kI 0))] (cr O c2 [0,0,0,0,0] 18)))))))) (s4 [.int (O.u .i64 u30 u22)]))) (O.a [.int u22]))) [.int (O.u .i64 u2 u22)]) fun c4=>(O.b (O.ab c4 0) (O.a (cr O c4 kM 1)) (O.n u11 (O.n u11 (O.a (ap O (cr O c2 [2,0,0,0,0,0,0,0,1,0,0,0,0,3,0,0,1] 0) (ap O [.rows u3,.int (O.w (O.d u17 u21) u0 u27),.int (O.w u10 u0 u26)] (cr O c2 [0,0,0] 20)))))))) fun c4=>(O.a (ap O [.int u21] (cr O c4 kM 0)))) (O.a (ap O [.int u21] (ap O (cr O c2 [2,0,0,0,0,0,0,0,1,0,0,0,0,3,0,0,1] 0) (ap O [.rows u3] (cr O c2 [0,0,0,0,0] 18))))))))))) fun c3=>(O.a (cr O c3 [0,2,0,0,0,0,0,0,0,1,0,0,0,0,3,0,0,1,3,0,0,0,0,0] 0))))))) fun c3=>let u29:=(O.q c3 18);let u18:=(O.o u29);let u15:=(O.d u18 (lq9 O 3));let u13:=(O.u .i64 u18 u22);let u7:=(O.d u18 (O.af .i64 u23 (O.e c3 3)));let u6:=(O.k u29 u13 0);let u5:=(O.r u13 u18);(O.b (O.f (O.d (O.e c3 0) u21)) (O.c (O.g 65 [] (xr x kM 0)) fun c4=>(O.a (ap O (cr O c4 kM 0) [.int (O.e c3 0)]))) (O.c (O.n (O.f (O.s (O.f (O.f (O.d (O.e c3 15) (O.lit .u8 3)))) (O.f u5))) (O.b (O.i (O.f (O.d (O.e c3 15) (O.lit .u8 3))) O.j (O.d (O.k u29 u13 27) (O.lit .u8 0))) (O.a (cr O c3 kM 1)) (O.n u5 (O.c (O.g 83 [] (ap O (cr O c3 kM 1) [.int (O.e c3 16)])) fun c4=>(O.c (O.g 79 [] [.int (O.e c3 16)]) fun c5=>(O.c (O.g 83 [] (ap O (cr O c3 kM 1) [.int (O.e c5 0)])) fun c6=>(O.c (O.b u7 (O.a [.bool u7]) (O.c (O.b u15 (O.g 83 [] (ap O (cr O c3 kR 1) (ap O [.int (O.lit .u8 2)] (ap O (cr O c3 [0,1,3,0,0,0,0,0] 16) [.int u6])))) (O.a [.int u21])) fun c7=>(O.c (O.b u15 (O.g 79 [] [.int u6]) (O.a [.int u21])) fun c8=>(O.c (O.b u15 (O.g 83 [] (ap O (cr O c3 kR 1) (ap O [.int (O.lit .u8 2)] (ap O (cr O c3 [0,1,3,0,0,0,0,0] 16) [.int (O.e c8 0)])))) (O.a [.int u21])) fun c9=>(O.a [.bool (O.i u15 (O.m (O.e c7 0) (O.e c9 0)) O.h)]))))) fun c7=>(O.b (O.l c7 0) (O.c (O.g 84 [] (ap O (cr O c3 kR 1) (ap O [.int (O.lit .u8 5)] (cr O c3 [0,1,3,0,0,0,0,0] 16)))) fun c8=>(O.a (ap O (cr O c3 kR 1) (ap O [.int (O.lit .u8 5)] (ap O (cr O c3 [0,1,3,0,0] 16) (cr O c8 [0,0,0] 0)))))) (O.b (O.i (O.i (O.d u18 u23) (O.m u21 (O.e c3 11)) O.h) (O.v (O.e c3 11) (O.u .i64 (O.e c4 0) (O.e c6 0))) O.h) (O.a (ap O (cr O c3 kR 1) (ap O [.int (O.lit .u8 4)] (cr O c3 [0,1,3,0,0,0,0,0] 16)))) (O.a (ap O (cr O c3 kR 1) (ap O [.int (O.lit .u8 2)] (cr O c3 [0,1,3,0,0,0,0,0] 16))))))))))))) fun c4=>(O.a (ap O (cr O c4 kM 0) [.int u21]))))))))))
def BA:Nat→Env:=eL [(63,C7),(64,C8),(65,Hr),(72,C9),(79,BK),(83,Bu),(84,Fa),(96,Fx),(97,GZ),(98,Gc),(99,Bk),(108,B3)]
theorem Qq {N ls}:BA N 63 [] ls=C7 N ls:=id rfl
theorem Qx {N ls}:BA N 64 [] ls=C8 N ls:=id rfl
theorem Qu {N ls}:BA N 65 [] ls=Hr N ls:=id rfl
theorem Es {N ls}:BA N 72 [] ls=C9 N ls:=id rfl
theorem Eu {N ls}:BA N 79 [] ls=BK N ls:=id rfl
theorem I6 {N ls}:BA N 83 [] ls=Bu N ls:=id rfl
theorem Ht {N ls}:BA N 84 [] ls=Fa N ls:=id rfl
theorem D0 {N ls}:BA N 96 [] ls=Fx N ls:=id rfl
theorem EJ {N ls}:BA N 97 [] ls=GZ N ls:=id rfl
theorem Cu {N ls}:BA N 98 [] ls=Gc N ls:=id rfl
theorem DE {N ls}:BA N 99 [] ls=Bk N ls:=id rfl
theorem G1 {N ls}:BA N 108 [] ls=B3 N ls:=id rfl
def Lw:=oS XV L3 BA
def Un:List Nat:=[2,0,0,0,0,0,0,0,1,0,0,0,0,3,0,0,1,3,0,0,0,0,0,0,0,0,0,0,1,0,0,0,0,0,0,0,1,0,0,0,0,1,0]
def MK (O:Alg) (x:Ags O):O.M:=(O.b (O.v (lq9 O 4000) (x.I 23)) (O.a (ap O (xr x kM 0) [.int (lq9 O 26)])) (O.c (O.g 54 [] (ap O (xr x kM 0) (xr x [0,0,0,0,1,0,0,0,0,0,0,0,1,0,0,0,0,1,0] 24))) fun c0=>(O.a (cr O c0 [2,0,0,0,0,0,0,0,1,0,0,0,0,3,0,0,1,3,0,0,0,0,0,0] 0))))
def Gu (N:Nat):Env:=fun f fns ls=>(cond (Nat.beq f 54&&Al fns []) (Lw N ls) none)
theorem TX {N ls}:Gu N 54 [] ls=Lw N ls:=id rfl
def M2:=oS Un MK Gu
def Ss:List Nat:=[0,2,0,0,0,0,0,0,0,1,0,0,0,0,3,0,0,1,3,0,0,0,0,0,2,0,0,0,0,0,0,0,1,0,0,0,0,3,0,0,1,3,0,0,0,0,0,0,0,0,0,0,1,0,0,0,0,1,0]
def IP (O:Alg) (x:Ags O):O.M:=let u0:=(O.u .i64 (O.o (x.L 18)) (lq9 O 1));(O.n (O.r u0 (O.o (x.L 18))) (O.n (O.r u0 (O.o (x.L 41))) (O.c (O.g 55 [] (ap O (xr x kR 1) (xr x [0,0,0,0,0,1,0,0,0,0,1,0] 47))) fun c0=>(O.a (ap O [.int (x.I 0),.int u0,.int (O.k (x.L 18) u0 10),.int (O.k (x.L 18) u0 11),.int (O.k (x.L 18) u0 15),.int (O.k (x.L 18) u0 12),.int (O.k (x.L 18) u0 13),.bool (O.rB (x.L 18) u0 20)] (ap O (xr x [0,0,0,0,0,1,0,0,0,0,1,0] 47) (ap O (cr O c0 [0,0,0,0,0,0,1,1,1,1] 0) [.int (O.k (x.L 41) u0 3),.int (O.k (x.L 41) u0 4)])))))))
def J5:Nat→Env:=eL [(55,B4)]
theorem Ln {N ls}:J5 N 55 [] ls=B4 N ls:=id rfl
def IL:=oS Ss IP J5
def VO:List Nat:=[2,0,0,0,0,0,0,0,1,0,0,0,0,3,3]
def MS (O:Alg) (x:Ags O):O.M:=let u3:=(lq9 O 1);let u2:=(lq9 O 0);(O.c (O.g 37 [] (xr x kR 0)) fun c0=>(O.b (O.f (O.d (O.e c0 23) u2)) (O.a [.rows O.y,.str (O.t ⟨#[]⟩),.int u2,.int u2,.int u2,.int u2,.int u2,.int u2,.int u2,.bool O.h,.int u2,.int u2,.int u2,.int u2,.rows O.y,.int (O.lit .u8 0),.int u2,.bool O.h,.rows O.y,.int u2,.int u2,.int (O.lit .u8 0),.int u2,.int u2,.int u2,.int u3]) (O.c (O.aa (fun s1 c1=>let u5:=(O.q c1 0);let u4:=(O.e c1 1);let u1:=(O.p .i64 u4 u3);(O.b (O.m u4 (O.o (x.L 14))) (O.n (O.r u4 (O.o (x.L 14))) (O.c (O.g 38 [] (ap O (cr O c1 kM 2) (ap O [.int u4] (rr O (x.L 14) u4 [0,0,0,0,1,0,0,0,0,0,0,0,1,0,0,0,0,1,0] 0)))) fun c2=>(O.b (O.f (O.d (O.e c2 23) u2)) (O.a (ap O [.int u2,.rows u5,.int u4,.int (O.e c2 23)] (cr O c1 kM 2))) (O.b (O.d (O.k (x.L 14) u4 0) (O.lit .u8 4)) (O.c (O.g 39 [] (ap O (cr O c1 [0,2,0,0,0,0,0,0,0,1,0,0,0,0,3,0,0,1,3,0,0,0,0,0] 1) (ap O (cr O c2 kM 0) (rr O (x.L 14) u4 [0,0,0,0,0,1,0,0,0,0,1,0] 7)))) fun c3=>let u0:=(O.ae u5 (O.ad [(cr O c3 [0,0,0,0,0,0,0,1,0,0,0,0,0,1,0,0,0,0,1,0,0,0,0,0,0,0,1,1,1,1,0,0] 0)]));(O.n (O.ac (O.o u0) 216) (s1 (ap O [.rows u0,.int u1] (cr O c2 kM 0))))) (s1 (ap O [.rows u5,.int u1] (cr O c2 kM 0))))))) (O.a (ap O [.int u3,.rows u5] (cr O c1 kM 2))))) (ap O [.rows O.y,.int u2] (cr O c0 kM 0))) fun c1=>(O.b (O.ab c1 0) (O.a (ap O [.rows (O.q c1 1)] (ap O (cr O c1 kM 4) [.int (O.e c1 2),.int (O.e c1 3)]))) (O.a (ap O (cr O c1 [3,2,0,0,0,0,0,0,0,1,0,0,0,0,3,0,0,1,3,0,0,0,0,0] 1) [.int (lq9 O (-1)),.int u2]))))))
def DV (N:Nat):Env:=fun f fns ls=>(cond (Nat.beq f 37&&Al fns []) (OE N ls) (cond (Nat.beq f 38&&Al fns []) (M2 N ls) (cond (Nat.beq f 39&&Al fns []) (IL N ls) none)))
theorem Uy {N ls}:DV N 37 [] ls=OE N ls:=id rfl
theorem NP {N ls}:DV N 38 [] ls=M2 N ls:=id rfl
theorem I9 {N ls}:DV N 39 [] ls=IL N ls:=id rfl
def Mw:=oS VO MS DV
def Q9:List Nat:=[2,0,0,0,0,0,0,0,1,0,0,0,0,3,3]
def I1 (O:Alg) (x:Ags O):O.M:=(O.c (O.g 28 [] (xr x [2,0,0,0,0,0,0,0,1,0,0,0,0,3,3] 0)) fun c0=>(O.a (cr O c0 [2,0,0,0,0,0,0,0,1,0,0,0,0,3,0,0,1,3,0,0,0,0,0,0,0] 1)))
def EZ (N:Nat):Env:=fun f fns ls=>(cond (Nat.beq f 28&&Al fns []) (Mw N ls) none)
theorem Tj {N ls}:EZ N 28 [] ls=Mw N ls:=id rfl
def Iz:=oS Q9 I1 EZ
def Tk:List Nat:=[2,0,0,0,0,0,0,0,1,0,0,0,0,3,0,0,1,3,0,0,0,0,0]
def Jj (O:Alg) (x:Ags O):O.M:=(O.c (O.aa (fun s0 c0=>let u1:=(O.e c0 1);(O.b (O.m u1 (O.o (x.L 17))) (O.n (O.r u1 (O.o (x.L 17))) (O.c (O.g 29 [] (ap O (xr x kR 0) (rr O (x.L 17) u1 kI 0))) fun c1=>let u0:=(O.ae (O.q c0 0) (O.ad [(ap O [.int (O.k (x.L 17) u1 0),.int (O.k (x.L 17) u1 3),.int (O.k (x.L 17) u1 4),.int (O.e c1 0)] (ap O (rr O (x.L 17) u1 [0,0,0,0,0] 5) [.int (O.k (x.L 17) u1 27)]))]));(O.n (O.ac (O.o u0) 80) (s0 [.rows u0,.int (O.p .i64 u1 (lq9 O 1))])))) (O.a [.rows (O.q c0 0)]))) [.rows O.y,.int (lq9 O 0)]) fun c0=>(O.a [.rows (O.q c0 0)]))
def LH:Nat→Env:=eL [(29,CZ)]
theorem Gp {N ls}:LH N 29 [] ls=CZ N ls:=id rfl
def Js:=oS Tk Jj LH
def I3:List Nat:=[2,0,0,0,0,0,0,0,1,0,0,0,0,3,0,0,3]
def Dg (O:Alg) (x:Ags O):O.M:=let u3:=(lq9 O 0);(O.c (O.g 17 [] (ap O (xr x kR 0) [.rows (x.L 16)])) fun c0=>let u4:=(O.e c0 20);(O.b (O.i (O.f (O.d (O.e c0 14) (O.lit .u8 5))) O.j (O.i (O.i (O.f (O.d u4 (O.lit .u8 1))) (O.f (O.d u4 (O.lit .u8 2))) O.h) (O.f (O.d u4 (O.lit .u8 4))) O.h)) (O.a [.int (x.I 14),.int (x.I 15),.int u3,.int u3,.int u3,.int u3,.int u3,.bool O.j,.int u3]) (O.c (O.g 18 [] (cr O c0 kM 0)) fun c1=>let u6:=(O.q c1 0);let u2:=(O.o u6);(O.c (O.aa (fun s2 c2=>let u5:=(O.e c2 0);let u1:=(O.k u6 u5 1);let u0:=(O.p .i64 u5 (lq9 O 1));(O.b (O.m u5 u2) (O.n (O.r u5 u2) (O.c (O.b (O.d (O.k u6 u5 9) (O.lit .u8 1)) (O.c (O.g 7 [] (xr x kR 0)) fun c3=>(O.a [.int (O.e c3 0)])) (O.a [.int (O.k u6 u5 3)])) fun c3=>(O.b (O.d (O.k u6 u5 0) (lq9 O 1)) (s2 (ap O [.int u0,.int (O.e c2 1),.int (O.e c2 2),.int u1,.int (O.e c3 0)] (cr O c2 [0,0,0,1] 5))) (s2 (ap O [.int u0] (ap O (cr O c2 [0,0,0,0] 1) [.int u1,.int (O.e c3 0),.int (O.e c2 7),.bool (O.l c2 8)])))))) (O.a (cr O c2 [0,0,0,0,0,0,0,1] 1)))) [.int u3,.int (x.I 14),.int (x.I 15),.int u3,.int u3,.int u3,.int u3,.int u3,.bool O.h]) fun c2=>(O.a (ap O (cr O c2 [0,0,0,0,0,0] 0) [.int (O.e c0 21),.bool (O.l c2 7),.int (O.e c0 21)]))))))
def BW (N:Nat):Env:=fun f fns ls=>(cond (Nat.beq f 7&&Al fns []) (Ga N ls) (cond (Nat.beq f 17&&Al fns []) (Iz N ls) (cond (Nat.beq f 18&&Al fns []) (Js N ls) none)))
theorem M6 {N ls}:BW N 7 [] ls=Ga N ls:=id rfl
theorem NC {N ls}:BW N 17 [] ls=Iz N ls:=id rfl
theorem Lp {N ls}:BW N 18 [] ls=Js N ls:=id rfl
def CL:=oS I3 Dg BW
def Wk:List Nat:=[3]
def Oi (O:Alg) (x:Ags O):O.M:=let u1:=(O.o (x.L 0));let u0:=(O.w (O.m (lq9 O 70) u1) (lq9 O 70) u1);(O.n (O.am (lq9 O 0) u0 u1) (O.a [.rows (O.ai (x.L 0) (lq9 O 0) u0)]))
def KN (N:Nat):Env:=fun f fns ls=>none
def LR:=oS Wk Oi KN
def Rv:List Nat:=[1]
def II (O:Alg) (x:Ags O):O.M:=(O.b (x.B 0) (O.a [.int (lq9 O (-1))]) (O.a [.int (lq9 O 1)]))
def Pq:Nat→Env:=eL []
def Fn:=oS Rv II Pq
def SG:List Nat:=[0,0]
def IG (O:Alg) (x:Ags O):O.M:=(O.a [.bool (O.i (O.v (lq9 O 0) (x.I 0)) (O.v (x.I 0) (x.I 1)) O.h)])
def Pg:Nat→Env:=eL []
def Ca:=oS SG IG Pg
def V0:List Nat:=[0,0,0,0,0,0,0,0,0,0]
def Kp (O:Alg) (x:Ags O):O.M:=let u1:=(lq9 O 1);let u0:=(lq9 O 0);(O.c (O.aa (fun s0 c0=>let u2:=(O.e c0 0);(O.b (O.m u2 (lq9 O 4)) (O.n (O.r u2 (lq9 O 4)) (O.c (O.g 30 [] [.int (O.w (O.d u2 (lq9 O 3)) (x.I 9) (O.w (O.d u2 (lq9 O 2)) (x.I 8) (O.w (O.d u2 u1) (x.I 7) (x.I 6)))),.int (lq9 O 1048576)]) fun c1=>(O.b (O.f (O.l c1 0)) (O.a [.int u0,.int u0,.int u1,.bool O.h]) (s0 [.int (O.p .i64 u2 u1)])))) (O.a [.int u1]))) [.int u0]) fun c0=>(O.b (O.ab c0 0) (O.a (cr O c0 [0,0,1] 1)) (O.c (O.b (O.d (x.I 7) u0) (O.a [.int u0,.int u1]) (O.a [.int (x.I 6),.int (x.I 7)])) fun c1=>(O.c (O.b (O.d (x.I 9) u0) (O.a [.int u0,.int u1]) (O.a [.int (x.I 8),.int (x.I 9)])) fun c2=>(O.a [.int (O.u .i64 (O.af .i64 (O.e c1 0) (O.e c2 1)) (O.af .i64 (O.e c2 0) (O.e c1 1))),.int (O.af .i64 (O.e c1 1) (O.e c2 1)),.bool O.j])))))
def MO:Nat→Env:=eL [(30,Ca)]
theorem Bj {N ls}:MO N 30 [] ls=Ca N ls:=id rfl
def Dy:=oS V0 Kp MO
def bX:List Nat:=[0,0,0,0]
def QF (O:Alg) (x:Ags O):O.M:=let u0:=(O.d (x.I 0) (x.I 2));(O.b (O.i (O.m (x.I 0) (x.I 2)) O.j (O.i u0 (O.m (x.I 1) (x.I 3)) O.h)) (O.a [.int (lq9 O (-1))]) (O.b (O.s u0 (O.d (x.I 1) (x.I 3))) (O.a [.int (lq9 O 0)]) (O.a [.int (lq9 O 1)])))
def XT:Nat→Env:=eL []
def HH:=oS bX QF XT
def Yg:List Nat:=[0]
def OP (O:Alg) (x:Ags O):O.M:=(O.b (O.m (x.I 0) (lq9 O 0)) (O.a [.int (O.u .u64 (O.lit .u64 0) (O.aj .u64 (x.I 0))),.bool O.j]) (O.a [.int (O.aj .u64 (x.I 0)),.bool O.h]))
def Vi:Nat→Env:=eL []
def KM:=oS Yg OP Vi
def Ph:List Nat:=[0,0]
def GO (O:Alg) (x:Ags O):O.M:=(O.a [.int (O.p .u64 (O.p .u64 (O.af .u64 (O.ag false .u64 (x.I 0) (O.lit .u64 32)) (O.ag false .u64 (x.I 1) (O.lit .u64 32))) (O.ag false .u64 (O.p .u64 (O.af .u64 (O.ag false .u64 (x.I 0) (O.lit .u64 32)) (O.al 0 .u64 (x.I 1) (O.lit .u64 4294967295))) (O.ag false .u64 (O.af .u64 (O.al 0 .u64 (x.I 0) (O.lit .u64 4294967295)) (O.al 0 .u64 (x.I 1) (O.lit .u64 4294967295))) (O.lit .u64 32))) (O.lit .u64 32))) (O.ag false .u64 (O.p .u64 (O.al 0 .u64 (O.p .u64 (O.af .u64 (O.ag false .u64 (x.I 0) (O.lit .u64 32)) (O.al 0 .u64 (x.I 1) (O.lit .u64 4294967295))) (O.ag false .u64 (O.af .u64 (O.al 0 .u64 (x.I 0) (O.lit .u64 4294967295)) (O.al 0 .u64 (x.I 1) (O.lit .u64 4294967295))) (O.lit .u64 32))) (O.lit .u64 4294967295)) (O.af .u64 (O.al 0 .u64 (x.I 0) (O.lit .u64 4294967295)) (O.ag false .u64 (x.I 1) (O.lit .u64 32)))) (O.lit .u64 32))),.int (O.af .u64 (x.I 0) (x.I 1))])
def NM:Nat→Env:=eL []
def D9:=oS Ph GO NM
def KL (N:Nat) (ls:List PV):Option (List PV):=bU ls
def cC:List Nat:=[0,0]
def P8 (O:Alg) (x:Ags O):O.M:=(O.c (O.g 50 [] [.int (x.I 0)]) fun c0=>(O.c (O.g 50 [] [.int (x.I 1)]) fun c1=>(O.c (O.g 51 [] [.int (O.e c0 0),.int (O.e c1 0)]) fun c2=>(O.c (O.g 52 [] [.int (O.e c2 0),.int (O.e c2 1),.bool (O.f (O.an (O.l c0 1) (O.l c1 1)))]) fun c3=>(O.a [.int (O.e c3 0),.int (O.e c3 1)])))))
def Ix:Nat→Env:=eL [(50,KM),(51,D9),(52,KL)]
theorem Ut {N ls}:Ix N 50 [] ls=KM N ls:=id rfl
theorem O4 {N ls}:Ix N 51 [] ls=D9 N ls:=id rfl
theorem UX {N ls}:Ix N 52 [] ls=KL N ls:=id rfl
def MD:=oS cC P8 Ix
def Mk:List Nat:=[0,0,0,0,0,0,0,0,0,0,0,0,0,0,0,0,0,0,0,0]
def ER (O:Alg) (x:Ags O):O.M:=(O.c (O.g 33 [] (xr x [0,0,0,0,0,0,0,0,0,0] 0)) fun c0=>(O.c (O.g 33 [] (xr x [0,0,0,0,0,0,0,0,0,0] 10)) fun c1=>(O.b (O.i (O.f (O.l c0 2)) O.j (O.f (O.l c1 2))) (O.a [.int (lq9 O 0)]) (O.c (O.g 35 [] [.int (O.e c0 0),.int (O.e c1 1)]) fun c2=>(O.c (O.g 35 [] [.int (O.e c1 0),.int (O.e c0 1)]) fun c3=>(O.c (O.g 34 [] [.int (O.e c2 0),.int (O.e c2 1),.int (O.e c3 0),.int (O.e c3 1)]) fun c4=>(O.a [.int (O.e c4 0)])))))))
def Cj:Nat→Env:=eL [(33,Dy),(34,HH),(35,MD)]
theorem Ky {N ls}:Cj N 33 [] ls=Dy N ls:=id rfl
theorem M4 {N ls}:Cj N 34 [] ls=HH N ls:=id rfl
theorem NF {N ls}:Cj N 35 [] ls=MD N ls:=id rfl
def CO:=oS Mk ER Cj
def Rj:List Nat:=[0,0,0,0,0,0,0,0,0,0,0,0,0,0,0,0,0,0,0,0]
def HO (O:Alg) (x:Ags O):O.M:=let u0:=(lq9 O 0);(O.b (O.f (O.d (x.I 5) (x.I 15))) (O.c (O.g 22 [] [.bool (O.m (x.I 15) (x.I 5))]) fun c0=>(O.a [.int (O.e c0 0)])) (O.b (O.f (O.d (x.I 2) (x.I 12))) (O.c (O.g 22 [] [.bool (O.m (x.I 12) (x.I 2))]) fun c0=>(O.a [.int (O.e c0 0)])) (O.c (O.g 23 [] (xr x [0,0,0,0,0,0,0,0,0,0,0,0,0,0,0,0,0,0,0,0] 0)) fun c0=>(O.b (O.f (O.d (O.e c0 0) u0)) (O.a [.int (O.u .i64 u0 (O.e c0 0))]) (O.b (O.f (O.d (x.I 0) (x.I 10))) (O.c (O.g 22 [] [.bool (O.m (x.I 0) (x.I 10))]) fun c1=>(O.a [.int (O.e c1 0)])) (O.a [.int u0]))))))
def Fo:Nat→Env:=eL [(22,Fn),(23,CO)]
theorem MU {N ls}:Fo N 22 [] ls=Fn N ls:=id rfl
theorem JP {N ls}:Fo N 23 [] ls=CO N ls:=id rfl
def CJ:=oS Rj HO Fo
def Tq:List Nat:=[0,3]
def Jo (O:Alg) (x:Ags O):O.M:=let u15:=(lq9 O 2);let u14:=(lq9 O 1);let u13:=(lq9 O 0);let u12:=(O.o (x.L 1));let u2:=(O.u .i64 (x.I 0) u14);(O.b (O.i (O.m (x.I 0) u15) O.j (O.m (lq9 O 20) (x.I 0))) (O.a [.int u15]) (O.b (O.m (lq9 O 400) u12) (O.a [.int (lq9 O 9)]) (O.c (O.aa (fun s0 c0=>let u16:=(O.e c0 0);let u9:=(O.k (x.L 1) u16 6);let u8:=(O.k (x.L 1) u16 5);let u7:=(O.k (x.L 1) u16 3);let u6:=(O.k (x.L 1) u16 4);let u5:=(O.k (x.L 1) u16 2);let u4:=(O.k (x.L 1) u16 1);let u3:=(O.k (x.L 1) u16 0);(O.b (O.m u16 u12) (O.n (O.r u16 u12) (O.c (O.g 30 [] [.int u3,.int u2]) fun c1=>let u10:=(O.f (O.l c1 0));(O.c (O.b (O.f u10) (O.g 30 [] [.int u4,.int u2]) (O.a [.bool O.h])) fun c2=>(O.b (O.i (O.i u10 O.j (O.f (O.l c2 0))) O.j (O.d u3 u4)) (O.a [.int u13,.int u14]) (O.c (O.g 30 [] [.int u5,.int (lq9 O 2000)]) fun c3=>let u11:=(O.f (O.l c3 0));(O.c (O.b (O.f u11) (O.g 30 [] [.int u6,.int (lq9 O 2000)]) (O.a [.bool O.h])) fun c4=>let u1:=(O.i u11 O.j (O.f (O.l c4 0)));(O.c (O.b (O.f u1) (O.g 30 [] [.int u7,.int (lq9 O 1000)]) (O.a [.bool O.h])) fun c5=>let u0:=(O.i u1 O.j (O.f (O.l c5 0)));(O.c (O.b (O.f u0) (O.g 30 [] [.int u8,.int (lq9 O 1000)]) (O.a [.bool O.h])) fun c6=>(O.b (O.i u0 O.j (O.f (O.l c6 0))) (O.a [.int u13,.int u15]) (O.c (O.g 30 [] [.int u9,.int u15]) fun c7=>(O.b (O.f (O.l c7 0)) (O.a [.int u13,.int (lq9 O 3)]) (O.b (O.i (O.rB (x.L 1) u16 7) (O.i (O.i (O.i (O.i (O.f (O.d u9 u13)) O.j (O.f (O.d u5 u13))) O.j (O.f (O.d u7 u13))) O.j (O.f (O.d u6 u13))) O.j (O.f (O.d u8 u13))) O.h) (O.a [.int u13,.int (lq9 O 11)]) (s0 [.int (O.p .i64 u16 u14)]))))))))))))) (O.a [.int u14]))) [.int u13]) fun c0=>(O.b (O.ab c0 0) (O.a [.int (O.e c0 1)]) (O.a [.int u13])))))
def LE:Nat→Env:=eL [(30,Ca)]
theorem Ge {N ls}:LE N 30 [] ls=Ca N ls:=id rfl
def Jh:=oS Tq Jo LE
def PW:List Nat:=[0]
def PP (O:Alg) (x:Ags O):O.M:=let u0:=(O.t ⟨#[0,1,2,2,3,3,3,3,4,4,4,4,4,4,4,4,5,5,5,5,5,5,5,5,5,5,5,5,5,5,5,5,6,6,6,6,6,6,6,6,6,6,6,6,6,6,6,6,6,6,6,6,6,6,6,6,6,6,6,6,6,6,6,6,7,7,7,7,7,7,7,7,7,7,7,7,7,7,7,7,7,7,7,7,7,7,7,7,7,7,7,7,7,7,7,7,7,7,7,7,7,7,7,7,7,7,7,7,7,7,7,7,7,7,7,7,7,7,7,7,7,7,7,7,7,7,7,7,8,8,8,8,8,8,8,8,8,8,8,8,8,8,8,8,8,8,8,8,8,8,8,8,8,8,8,8,8,8,8,8,8,8,8,8,8,8,8,8,8,8,8,8,8,8,8,8,8,8,8,8,8,8,8,8,8,8,8,8,8,8,8,8,8,8,8,8,8,8,8,8,8,8,8,8,8,8,8,8,8,8,8,8,8,8,8,8,8,8,8,8,8,8,8,8,8,8,8,8,8,8,8,8,8,8,8,8,8,8,8,8,8,8,8,8,8,8,8,8,8,8,8,8,8,8,8,8]⟩);(O.c (O.b (O.v (O.lit .u32 65536) (x.I 0)) (O.a [.int (O.ag false .u32 (x.I 0) (O.lit .u64 16)),.int (lq9 O 16)]) (O.a [.int (x.I 0),.int (lq9 O 0)])) fun c0=>let u1:=(O.e c0 0);(O.c (O.b (O.v (O.lit .u32 256) u1) (O.a [.int (O.ag false .u32 u1 (O.lit .u64 8)),.int (O.p .i64 (O.e c0 1) (lq9 O 8))]) (O.a [.int u1,.int (O.e c0 1)])) fun c1=>(O.n (O.r (O.aj .u8 (O.e c1 0)) (O.ak u0)) (O.a [.int (O.p .i64 (O.e c1 1) (O.aj .i64 (O.av u0 (O.aj .u8 (O.e c1 0)))))]))))
def WA:Nat→Env:=eL []
def J4:=oS PW PP WA
def Pv:List Nat:=[0]
def Po (O:Alg) (x:Ags O):O.M:=let u0:=(O.t ⟨#[0,1,2,2,3,3,3,3,4,4,4,4,4,4,4,4,5,5,5,5,5,5,5,5,5,5,5,5,5,5,5,5,6,6,6,6,6,6,6,6,6,6,6,6,6,6,6,6,6,6,6,6,6,6,6,6,6,6,6,6,6,6,6,6,7,7,7,7,7,7,7,7,7,7,7,7,7,7,7,7,7,7,7,7,7,7,7,7,7,7,7,7,7,7,7,7,7,7,7,7,7,7,7,7,7,7,7,7,7,7,7,7,7,7,7,7,7,7,7,7,7,7,7,7,7,7,7,7,8,8,8,8,8,8,8,8,8,8,8,8,8,8,8,8,8,8,8,8,8,8,8,8,8,8,8,8,8,8,8,8,8,8,8,8,8,8,8,8,8,8,8,8,8,8,8,8,8,8,8,8,8,8,8,8,8,8,8,8,8,8,8,8,8,8,8,8,8,8,8,8,8,8,8,8,8,8,8,8,8,8,8,8,8,8,8,8,8,8,8,8,8,8,8,8,8,8,8,8,8,8,8,8,8,8,8,8,8,8,8,8,8,8,8,8,8,8,8,8,8,8,8,8,8,8,8,8]⟩);(O.c (O.b (O.v (O.lit .u64 4294967296) (x.I 0)) (O.a [.int (O.ag false .u64 (x.I 0) (O.lit .u64 32)),.int (lq9 O 32)]) (O.a [.int (x.I 0),.int (lq9 O 0)])) fun c0=>let u1:=(O.e c0 0);(O.c (O.b (O.v (O.lit .u64 65536) u1) (O.a [.int (O.ag false .u64 u1 (O.lit .u64 16)),.int (O.p .i64 (O.e c0 1) (lq9 O 16))]) (O.a [.int u1,.int (O.e c0 1)])) fun c1=>let u2:=(O.e c1 0);(O.c (O.b (O.v (O.lit .u64 256) u2) (O.a [.int (O.ag false .u64 u2 (O.lit .u64 8)),.int (O.p .i64 (O.e c1 1) (lq9 O 8))]) (O.a [.int u2,.int (O.e c1 1)])) fun c2=>(O.n (O.r (O.aj .u8 (O.e c2 0)) (O.ak u0)) (O.a [.int (O.p .i64 (O.e c2 1) (O.aj .i64 (O.av u0 (O.aj .u8 (O.e c2 0)))))])))))
def WL:Nat→Env:=eL []
def J3:=oS Pv Po WL
def R1:List Nat:=[0]
def SD (O:Alg) (x:Ags O):O.M:=(O.b O.h (O.c (O.g 48 [] [.int (O.aj .u32 (x.I 0))]) fun c0=>(O.a [.int (O.e c0 0)])) (O.c (O.g 49 [] [.int (x.I 0)]) fun c0=>(O.a [.int (O.e c0 0)])))
def X6:Nat→Env:=eL [(48,J4),(49,J3)]
def Fj:=oS R1 SD X6
end Go.Px
