/- Part 9. -/
import Derived.Test.YtejjoflbpnjohaaGreatDoorPart07
set_option linter.unusedVariables false
set_option linter.unusedSimpArgs false
namespace Go.Px
set_option maxRecDepth 100000
def UE:List Nat:=[3]
def lq9 (O:Alg) (n:Int):O.I:=O.lit .i64 n
def Jo (O:Alg) (x:Ags O):O.M:=let u4:=(O.m (x.L 0));(O.c (O.y (fun s0 c0=>let u6:=(O.p c0 0);let u5:=(O.g c0 1);let u3:=(O.m u6);let u2:=(O.s .i64 u5 (lq9 O 1));let u1:=(O.x .i64 u3 (lq9 O 1));(O.b (O.l u5 u4) (O.j (O.t u5 u4) (O.b (O.h (O.d (O.q (x.L 0) u5 0) (O.lit .u8 2))) (s0 [.rows u6,.int u2]) (O.c (O.b (O.l (lq9 O 0) u3) (O.j (O.t u1 u3) (O.a [.rows (O.ae u6 u1 1 [.int u5])])) (O.a [.rows u6])) fun c1=>let u0:=(O.ag (O.p c1 0) (O.ac [[.int u5,.int u4]]));(O.j (O.r (O.m u0) 16) (s0 [.rows u0,.int u2]))))) (O.a [.rows u6]))) [.rows O.z,.int (lq9 O 0)]) fun c0=>(O.a [.rows (O.p c0 0)]))
def Q9:Nat→Env:=eL []
def Js:=oS UE Jo Q9
def Yk:List Nat:=[2]
def Oh (O:Alg) (x:Ags O):O.M:=let u4:=(lq9 O 1);let u3:=(lq9 O 0);let u2:=(O.ap (x.S 0));let u1:=(O.m u2);(O.c (O.y (fun s0 c0=>let u5:=(O.g c0 0);let u0:=(O.q u2 u5 0);(O.b (O.l u5 u1) (O.j (O.t u5 u1) (O.b (O.i (O.h (O.i (O.v (O.lit .u8 65) u0) (O.v u0 (O.lit .u8 90)) O.f)) (O.i (O.d u5 u3) O.k (O.i (O.i (O.h (O.d u0 (O.lit .u8 95))) (O.h (O.d u0 (O.lit .u8 45))) O.f) (O.i (O.l u0 (O.lit .u8 48)) O.k (O.l (O.lit .u8 57) u0)) O.f)) O.f) (O.a [.int u3,.bool O.f]) (s0 [.int (O.s .i64 u5 u4)]))) (O.a [.int u4]))) [.int u3]) fun c0=>(O.b (O.aa c0 0) (O.a [.bool (O.n c0 1)]) (O.a [.bool (O.i (O.v u4 (O.u (x.S 0))) (O.v (O.u (x.S 0)) (lq9 O 16)) O.f)])))
def Vp:Nat→Env:=eL []
def Eh:=oS Yk Oh Vp
def TB:List Nat:=[0,0,0]
def SP (O:Alg) (x:Ags O):O.M:=(O.a [.bool (O.i (O.v (x.I 1) (x.I 0)) (O.v (x.I 0) (x.I 2)) O.f)])
def YV:Nat→Env:=eL []
def CU:=oS TB SP YV
def TE:List Nat:=[2,0,0,0,0,0,0,0,1,0,0,0,0,3]
def Ii (O:Alg) (x:Ags O):O.M:=let u10:=(lq9 O 1);let u9:=(lq9 O 0);(O.c (O.e 104 [] [.int (x.I 1),.int (lq9 O 2),.int (lq9 O 11)]) fun c0=>(O.c (O.b (O.n c0 0) (O.e 104 [] [.int (x.I 2),.int u10,.int (lq9 O 2)]) (O.a [.bool O.f])) fun c1=>let u8:=(O.i (O.n c0 0) (O.n c1 0) O.f);(O.c (O.b u8 (O.e 104 [] [.int (x.I 3),.int u9,.int (lq9 O 90)]) (O.a [.bool O.f])) fun c2=>let u7:=(O.i u8 (O.n c2 0) O.f);(O.c (O.b u7 (O.e 104 [] [.int (x.I 4),.int (lq9 O 4),.int (lq9 O 8)]) (O.a [.bool O.f])) fun c3=>let u6:=(O.i u7 (O.n c3 0) O.f);(O.c (O.b u6 (O.e 104 [] [.int (x.I 5),.int u9,.int (lq9 O 90)]) (O.a [.bool O.f])) fun c4=>let u5:=(O.i u6 (O.n c4 0) O.f);(O.c (O.b u5 (O.e 104 [] [.int (x.I 6),.int u10,.int (lq9 O 5)]) (O.a [.bool O.f])) fun c5=>let u4:=(O.i u5 (O.n c5 0) O.f);(O.c (O.b u4 (O.e 104 [] [.int (x.I 7),.int u10,.int (lq9 O 5)]) (O.a [.bool O.f])) fun c6=>let u3:=(O.i u4 (O.n c6 0) O.f);(O.c (O.b u3 (O.e 104 [] [.int (x.I 9),.int u9,.int (lq9 O 200)]) (O.a [.bool O.f])) fun c7=>let u2:=(O.i u3 (O.n c7 0) O.f);(O.c (O.b u2 (O.e 104 [] [.int (x.I 10),.int u9,.int (lq9 O 1000)]) (O.a [.bool O.f])) fun c8=>let u1:=(O.i u2 (O.n c8 0) O.f);(O.c (O.b u1 (O.e 104 [] [.int (x.I 11),.int u9,.int (lq9 O 9)]) (O.a [.bool O.f])) fun c9=>let u0:=(O.i u1 (O.n c9 0) O.f);(O.c (O.b u0 (O.e 104 [] [.int (x.I 12),.int u9,.int (lq9 O 11)]) (O.a [.bool O.f])) fun c10=>(O.a [.bool (O.i u0 (O.n c10 0) O.f)]))))))))))))
def KO:Nat→Env:=eL [(104,CU)]
def F2:=oS TE Ii KO
def T7:List Nat:=[2,0,0,0,0,0,0,0,1,0,0,0,0,3]
def Jw (O:Alg) (x:Ags O):O.M:=let u7:=(lq9 O 1);let u6:=(lq9 O 0);let u5:=(O.m (x.L 13));(O.b (O.l (lq9 O 8) u5) (O.a [.int (lq9 O 9)]) (O.c (O.y (fun s0 c0=>let u8:=(O.g c0 0);let u4:=(O.q (x.L 13) u8 1);let u3:=(O.q (x.L 13) u8 0);let u2:=(O.l u6 u8);let u1:=(O.x .i64 u8 u7);let u0:=(O.i (O.i (O.l u3 u7) O.k (O.l u4 u3)) O.k (O.l (x.I 3) u4));(O.b (O.l u8 u5) (O.j (O.t u8 u5) (O.c (O.b (O.h u0) (O.e 104 [] [.int (O.q (x.L 13) u8 2),.int u6,.int (lq9 O 11)]) (O.a [.bool O.f])) fun c1=>(O.b (O.i u0 O.k (O.h (O.n c1 0))) (O.a [.int u6,.int (lq9 O 2)]) (O.j (O.h (O.ad u2 (O.h (O.t u1 u5)))) (O.b (O.i u2 (O.v u3 (O.q (x.L 13) u1 1)) O.f) (O.a [.int u6,.int (lq9 O 8)]) (s0 [.int (O.s .i64 u8 u7)])))))) (O.a [.int u7]))) [.int u6]) fun c0=>(O.b (O.aa c0 0) (O.a [.int (O.g c0 1)]) (O.a [.int u6]))))
def Lh:Nat→Env:=eL [(104,CU)]
def Gg:=oS T7 Jw Lh
def Vw:List Nat:=[2,0,0,0,0,0,0,0,1,0,0,0,0,3]
def LC (O:Alg) (x:Ags O):O.M:=let u2:=(lq9 O 0);let u1:=(O.h (O.d (x.I 5) u2));let u0:=(O.i (O.h (O.d (x.I 10) u2)) (O.d (x.I 2) (lq9 O 1)) O.f);(O.c (O.e 73 [] [.str (x.S 0)]) fun c0=>(O.b (O.h (O.n c0 0)) (O.a [.int (lq9 O 5)]) (O.c (O.e 89 [] (xr x kR 0)) fun c1=>(O.b (O.h (O.n c1 0)) (O.a [.int (lq9 O 2)]) (O.c (O.b u0 (O.a [.bool u0]) (O.a [.bool (O.i (O.i u1 O.k (O.l u2 (O.m (x.L 13)))) (O.d (x.I 3) u2) O.f)])) fun c2=>(O.b (O.n c2 0) (O.a [.int (lq9 O 1)]) (O.b (O.i u1 (O.l (O.am .i64 (x.I 5) (x.I 1)) (x.I 3)) O.f) (O.a [.int (lq9 O 13)]) (O.c (O.e 90 [] (xr x kR 0)) fun c3=>(O.a [.int (O.g c3 0)])))))))))
def Fe:Nat→Env:=eL [(73,Eh),(89,F2),(90,Gg)]
def AQ:=oS Vw LC Fe
def Cy (N:Nat) (ls:List PV):Option (List PV):=Oy 24 ls
def V7:List Nat:=[2,0,0,0,0,0,0,0,1,0,0,0,0,3]
def LM (O:Alg) (x:Ags O):O.M:=(O.c (O.e 105 [] [.rows (x.L 13)]) fun c0=>(O.a (ap O (xr x [2,0,0,0,0,0,0,0,1,0,0,0,0] 0) [.rows (O.p c0 0)])))
def NK:Nat→Env:=eL [(105,Cy)]
theorem Lo {N ls}:NK N 105 [] ls=Cy N ls:=id rfl
def C8:=oS V7 LM NK
def Yi:List Nat:=[2,0,0,0,0,0,0,0,1,0,0,0,0,3]
def Of (O:Alg) (x:Ags O):O.M:=let u0:=(lq9 O 0);(O.c (O.e 61 [] (xr x kR 0)) fun c0=>(O.b (O.h (O.d (O.g c0 0) u0)) (O.a [.str (O.o ⟨#[]⟩),.int u0,.int u0,.int u0,.int u0,.int u0,.int u0,.int u0,.bool O.f,.int u0,.int u0,.int u0,.int u0,.rows O.z,.int (O.lit .u8 0),.int u0,.bool O.f,.rows O.z,.int u0,.int u0,.int (O.lit .u8 0),.int u0,.int u0,.int (O.g c0 0)]) (O.c (O.e 91 [] (xr x kR 0)) fun c1=>(O.a (ap O (cr O c1 kR 0) [.int (O.lit .u8 1),.int u0,.bool O.f,.rows O.z,.int u0,.int u0,.int (O.lit .u8 0),.int u0,.int u0,.int u0])))))
def LN:Nat→Env:=eL [(61,AQ),(91,C8)]
theorem SF {N ls}:LN N 61 [] ls=AQ N ls:=id rfl
theorem SI {N ls}:LN N 91 [] ls=C8 N ls:=id rfl
def Oj:=oS Yi Of LN
def QB:List Nat:=[0,0,0]
def P5 (O:Alg) (x:Ags O):O.M:=(O.a [.bool (O.i (O.v (x.I 1) (x.I 0)) (O.v (x.I 0) (x.I 2)) O.f)])
def WY:Nat→Env:=eL []
def Ak:=oS QB P5 WY
def QI:List Nat:=[0,0,0,0,0,0,0,0,0,0,0,0,0,0,3,0,3,3,1,3,1,0,0,0,3,0,0,0,0]
def Ga (O:Alg) (x:Ags O):O.M:=let u5:=(lq9 O 1);let u4:=(lq9 O 0);let u0:=(O.h (O.d (x.I 12) u4));(O.c (O.y (fun s0 c0=>let u8:=(O.g c0 1);let u7:=(O.g c0 0);let u6:=(O.g c0 3);let u2:=(O.q (x.L 14) u6 0);let u9:=(O.i (O.n c0 2) O.k (O.h (O.d u2 (O.lit .u8 0))));let u1:=(O.s .i64 u6 u5);(O.b (O.l u6 (O.m (x.L 14))) (O.j (O.t u6 (O.m (x.L 14))) (O.b (O.l (O.lit .u8 3) u2) (O.a [.int u4,.bool O.f]) (O.b (O.d u2 (O.lit .u8 1)) (O.b (O.i (O.h (O.d (x.I 12) u1)) (O.h (O.d (x.I 13) u1)) O.f) (O.a [.int u4,.bool O.f]) (s0 [.int u7,.int (O.s .i64 u8 u5),.bool u9,.int u1])) (O.b (O.d u2 (O.lit .u8 2)) (s0 [.int (O.s .i64 u7 u5),.int u8,.bool u9,.int u1]) (s0 [.int u7,.int u8,.bool u9,.int u1]))))) (O.a (ap O [.int u5] (cr O c0 [0,0,1] 0))))) [.int u4,.int u4,.bool O.f,.int u4]) fun c0=>(O.b (O.aa c0 0) (O.a [.bool (O.n c0 1)]) (O.c (O.e 159 [] [.int (x.I 12),.int u4,.int (x.I 28)]) fun c1=>let u3:=(O.h (O.n c1 0));(O.c (O.b (O.h u3) (O.e 159 [] [.int (x.I 13),.int u4,.int (x.I 28)]) (O.a [.bool O.f])) fun c2=>(O.b (O.i (O.i u3 O.k (O.h (O.n c2 0))) O.k (O.i (O.d (x.I 12) (x.I 13)) u0 O.f)) (O.a [.bool O.f]) (O.c (O.b u0 (O.a [.int (O.s .i64 u4 u5)]) (O.a [.int u4])) fun c3=>(O.c (O.b (O.h (O.d (x.I 13) u4)) (O.a [.int (O.s .i64 (O.g c3 0) u5)]) (O.a [.int (O.g c3 0)])) fun c4=>(O.a [.bool (O.i (O.i (O.d (O.g c4 0) (O.g c0 2)) (O.i (O.h (O.n c0 3)) O.k (O.l u4 (O.g c4 0))) O.f) (O.d (O.g c0 1) (x.I 4)) O.f)]))))))))
def IZ:Nat→Env:=eL [(159,Ak)]
def EM:=oS QI Ga IZ
def PB:List Nat:=[3,0]
def Fg (O:Alg) (x:Ags O):O.M:=(O.c (O.y (fun s0 c0=>let u0:=(O.g c0 0);(O.b (O.l u0 (O.m (x.L 0))) (O.j (O.t u0 (O.m (x.L 0))) (O.b (O.d (x.I 1) (O.q (x.L 0) u0 0)) (O.a [.int (lq9 O 0),.int u0]) (s0 [.int (O.s .i64 u0 (lq9 O 1))]))) (O.a [.int (lq9 O 1)]))) [.int (lq9 O 0)]) fun c0=>(O.b (O.aa c0 0) (O.a [.int (O.g c0 1)]) (O.a [.int (lq9 O (-1))])))
def NC:Nat→Env:=eL []
def Dj:=oS PB Fg NC
def MA:List Nat:=[3,0]
def Dy (O:Alg) (x:Ags O):O.M:=(O.c (O.e 198 [] [.rows (x.L 0),.int (x.I 1)]) fun c0=>(O.a [.bool (O.v (lq9 O 0) (O.g c0 0))]))
def FQ:Nat→Env:=eL [(198,Dj)]
def Aq:=oS MA Dy FQ
def Nk:List Nat:=[3,0]
def FG (O:Alg) (x:Ags O):O.M:=let u5:=(lq9 O 1);let u4:=(lq9 O 0);let u3:=(O.m (x.L 0));(O.c (O.y (fun s0 c0=>let u6:=(O.g c0 0);let u1:=(O.q (x.L 0) u6 0);(O.b (O.l u6 u3) (O.j (O.t u6 u3) (O.c (O.e 159 [] [.int u1,.int u5,.int (x.I 1)]) fun c1=>let u2:=(O.h (O.n c1 0));let u0:=(O.h u2);(O.j (O.h (O.ad u0 (O.h (O.al u4 u6 u3)))) (O.c (O.b u0 (O.e 184 [] [.rows (O.aq (x.L 0) u4 u6),.int u1]) (O.a [.bool O.f])) fun c2=>(O.b (O.i u2 O.k (O.n c2 0)) (O.a [.int u4,.bool O.f]) (s0 [.int (O.s .i64 u6 u5)])))))) (O.a [.int u5]))) [.int u4]) fun c0=>(O.b (O.aa c0 0) (O.a [.bool (O.n c0 1)]) (O.a [.bool O.k])))
def D6:Nat→Env:=eL [(159,Ak),(184,Aq)]
def DK:=oS Nk FG D6
def Nb:List Nat:=[0]
def FK (O:Alg) (x:Ags O):O.M:=(O.c (O.e 159 [] [.int (x.I 0),.int (lq9 O 0),.int (lq9 O 1000000000)]) fun c0=>(O.a [.bool (O.h (O.n c0 0))]))
def Gc:Nat→Env:=eL [(159,Ak)]
def DQ:=oS Nb FK Gc
def P8:List Nat:=[0,0,0,0,0,0,0,0,0,0,0,0,0,0,3,0,3,3,1,3,1,0,0,0,3,0,0,0]
def GY (O:Alg) (x:Ags O):O.M:=let u2:=(lq9 O 0);let u1:=(O.ag (O.ac [[.int (x.I 1)],[.int (x.I 3)],[.int (x.I 5)],[.int (x.I 6)],[.int (x.I 7)],[.int (x.I 8)],[.int (x.I 9)],[.int (x.I 10)],[.int (x.I 21)],[.int (x.I 23)],[.int (x.I 25)],[.int (x.I 26)]]) (x.L 19));let u0:=(O.m u1);(O.j (O.r u0 8) (O.c (O.c (O.y (fun s0 c0=>let u3:=(O.g c0 0);(O.b (O.l u3 u0) (O.j (O.t u3 u0) (O.c (O.e 186 [] [.int (O.q u1 u3 0)]) fun c1=>(O.b (O.n c1 0) (O.a [.int u2,.int u3]) (s0 [.int (O.s .i64 u3 (lq9 O 1))])))) (O.a [.int (lq9 O 1)]))) [.int u2]) fun c0=>(O.b (O.aa c0 0) (O.a [.int (O.g c0 1)]) (O.a [.int (lq9 O (-1))]))) fun c0=>(O.a [.bool (O.h (O.v u2 (O.g c0 0)))])))
def IW:Nat→Env:=eL [(186,DQ)]
def EP:=oS P8 GY IW
def S9:List Nat:=[2,0,0,0,0,0,0,0,1,0,0,0,0,3,0,0,0,0,0,0,0,0,0,0,0,0,0,0,3,0,3,3,1,3,1,0,0,0,3,0,0,0]
def Ij (O:Alg) (x:Ags O):O.M:=let u11:=(lq9 O 1);let u10:=(lq9 O 0);let u8:=(O.d (x.I 3) u10);let u7:=(O.h u8);let u4:=(O.i u8 (O.d (x.I 16) u10) O.f);(O.c (O.e 61 [] (xr x kR 0)) fun c0=>let u6:=(O.h (O.d (O.g c0 0) u10));(O.c (O.b (O.h u6) (O.e 159 [] [.int (x.I 14),.int u11,.int (lq9 O 2)]) (O.a [.bool O.f])) fun c1=>(O.b (O.i u6 O.k (O.h (O.n c1 0))) (O.a [.bool O.f]) (O.b (O.i (O.i (O.i (O.h (O.d (O.m (x.L 28)) (x.I 1))) O.k (O.h (O.d (O.m (x.L 33)) (x.I 1)))) O.k (O.h (O.d (O.m (x.L 38)) (x.I 1)))) O.k (O.l (O.lit .u8 5) (x.I 41))) (O.a [.bool O.f]) (O.c (O.e 160 [] (ap O (xr x kI 14) [.int (x.I 1)])) fun c2=>let u9:=(O.h (O.n c2 0));(O.c (O.b (O.h u9) (O.e 159 [] [.int (x.I 29),.int u10,.int (x.I 1)]) (O.a [.bool O.f])) fun c3=>let u5:=(O.i u9 O.k (O.h (O.n c3 0)));(O.c (O.b (O.h u5) (O.e 159 [] [.int (x.I 36),.int u10,.int (x.I 1)]) (O.a [.bool O.f])) fun c4=>let u3:=(O.i u5 O.k (O.h (O.n c4 0)));(O.c (O.b (O.h u3) (O.e 161 [] [.rows (x.L 30),.int (x.I 1)]) (O.a [.bool O.f])) fun c5=>let u2:=(O.i u3 O.k (O.h (O.n c5 0)));(O.c (O.b (O.h u2) (O.e 161 [] [.rows (x.L 31),.int (x.I 1)]) (O.a [.bool O.f])) fun c6=>(O.b (O.i u2 O.k (O.h (O.n c6 0))) (O.a [.bool O.f]) (O.c (O.b (O.ad (O.h u4) u7) (O.e 159 [] [.int (x.I 16),.int u11,.int (x.I 3)]) (O.a [.bool O.f])) fun c7=>let u1:=(O.i u4 O.k (O.i u7 (O.n c7 0) O.f));(O.c (O.b u1 (O.e 159 [] [.int (x.I 25),.int u10,.int (O.x .i64 (x.I 4) u11)]) (O.a [.bool O.f])) fun c8=>let u0:=(O.i u1 (O.n c8 0) O.f);(O.c (O.b u0 (O.e 162 [] (xr x kI 14)) (O.a [.bool O.f])) fun c9=>(O.a [.bool (O.i u0 (O.n c9 0) O.f)]))))))))))))))
def CS:Nat→Env:=eL [(61,AQ),(159,Ak),(160,EM),(161,DK),(162,EP)]
def BL:=oS S9 Ij CS
def WA:List Nat:=[0]
def LQ (O:Alg) (x:Ags O):O.M:=(O.a [.int (O.x .i64 (lq9 O 3) (x.I 0))])
def Sk:Nat→Env:=eL []
def BN:=oS WA LQ Sk
def Vj:List Nat:=[2,0,0,0,0,0,0,0,1,0,0,0,0,3,0,0,1,3,0,0,0,0,0,0]
def LV (O:Alg) (x:Ags O):O.M:=let u0:=(lq9 O 2);(O.c (O.b (O.i (x.B 16) (O.v u0 (x.I 23)) O.f) (O.a [.bool (O.d (x.I 23) u0)]) (O.a [.bool (O.d (O.an .i64 (x.I 23) u0) (lq9 O 1))])) fun c0=>(O.b (O.n c0 0) (O.c (O.e 135 [] [.int (x.I 15)]) fun c1=>(O.a [.int (O.g c1 0)])) (O.a [.int (x.I 15)])))
def ND:Nat→Env:=eL [(135,BN)]
theorem Qp {N ls}:ND N 135 [] ls=BN N ls:=id rfl
def DA:=oS Vj LV ND
def WE:List Nat:=[2,0,0,0,0,0,0,0,1,0,0,0,0,3,0,0,1,3,0,0,0,0,0]
def LS (O:Alg) (x:Ags O):O.M:=let u2:=(lq9 O 0);let u1:=(lq9 O 1);let u0:=(O.m (x.L 17));(O.c (O.y (fun s0 c0=>let u3:=(O.g c0 0);(O.b (O.l u3 u0) (O.j (O.t u3 u0) (O.b (O.h (O.ao (O.d (O.q (x.L 17) u3 27) (O.lit .u8 0)) (O.i (O.d (x.I 14) (O.lit .u8 3)) (O.d u3 (O.x .i64 u0 u1)) O.f))) (O.a [.int u2,.bool O.f]) (s0 [.int (O.s .i64 u3 u1)]))) (O.a [.int u1]))) [.int u2]) fun c0=>(O.b (O.aa c0 0) (O.a [.bool (O.n c0 1)]) (O.a [.bool (O.i (O.h (O.d (x.I 14) (O.lit .u8 3))) O.k (O.l u2 u0))])))
def Sh:Nat→Env:=eL []
def IA:=oS WE LS Sh
def Vy:List Nat:=[2,0,0,0,0,0,0,0,1,0,0,0,0,3,0,0,1,3,0,0,0,0,0]
def K7 (O:Alg) (x:Ags O):O.M:=let u8:=(lq9 O 1);let u9:=(O.d (x.I 14) (O.lit .u8 1));let u7:=(lq9 O 2);let u6:=(lq9 O 0);let u5:=(O.m (x.L 17));let u3:=(O.d (x.I 15) u6);let u2:=(O.am .i64 u7 (x.I 2));let u1:=(O.h (O.d (x.I 2) u7));(O.c (O.e 61 [] (xr x kR 0)) fun c0=>(O.b (O.i (O.i (O.h (O.d (O.g c0 0) u6)) O.k (O.l (x.I 14) (O.lit .u8 1))) O.k (O.l (O.lit .u8 5) (x.I 14))) (O.a [.bool O.f]) (O.c (O.y (fun s1 c1=>let u11:=(O.g c1 0);let u0:=(O.ai (O.d u11 u8) (x.I 19) (x.I 18));(O.b (O.l u11 u7) (O.j (O.t u11 u7) (O.b (O.i (O.l u0 u6) O.k (O.l (lq9 O 1000000) u0)) (O.a [.int u6,.bool O.f]) (s1 [.int (O.s .i64 u11 u8)]))) (O.a [.int u8]))) [.int u6]) fun c1=>(O.b (O.aa c1 0) (O.a [.bool (O.n c1 1)]) (O.b (O.i (O.i (O.l (x.I 15) u6) O.k (O.l u7 (x.I 15))) O.k (O.l u2 u5)) (O.a [.bool O.f]) (O.b (O.i u3 (O.i (O.l u6 u5) O.k (O.i (O.h u9) (O.h (O.d (x.I 14) (O.lit .u8 5))) O.f)) O.f) (O.a [.bool O.f]) (O.b (O.i u9 (O.h u3) O.f) (O.a [.bool O.f]) (O.b (O.i (O.d (x.I 14) (O.lit .u8 2)) (O.d u5 u2) O.f) (O.a [.bool O.f]) (O.b (O.i (O.d (x.I 14) (O.lit .u8 4)) (O.i u1 O.k (O.h (O.d u5 u7))) O.f) (O.a [.bool O.f]) (O.b (O.i (x.B 16) (O.i u1 O.k (O.l u5 u7)) O.f) (O.a [.bool O.f]) (O.c (O.y (fun s2 c2=>let u10:=(O.g c2 0);(O.b (O.l u10 u5) (O.j (O.t u10 u5) (O.c (O.e 127 [] (ap O (xr x kR 0) (rr O (x.L 17) u10 kI 0))) fun c3=>let u4:=(O.h (O.n c3 0));(O.c (O.b (O.h u4) (O.e 128 [] (ap O (xr x kM 0) [.int u10])) (O.a [.int u6])) fun c4=>(O.b (O.i u4 O.k (O.h (O.d (O.q (x.L 17) u10 0) (O.g c4 0)))) (O.a [.int u6,.bool O.f]) (s2 [.int (O.s .i64 u10 u8)]))))) (O.a [.int u8]))) [.int u6]) fun c2=>(O.b (O.aa c2 0) (O.a [.bool (O.n c2 1)]) (O.c (O.e 129 [] (xr x kM 0)) fun c3=>(O.a [.bool (O.n c3 0)]))))))))))))))
def D7:Nat→Env:=eL [(61,AQ),(127,BL),(128,DA),(129,IA)]
theorem QM {N ls}:D7 N 61 [] ls=AQ N ls:=id rfl
theorem HH {N ls}:D7 N 127 [] ls=BL N ls:=id rfl
theorem Ip {N ls}:D7 N 128 [] ls=DA N ls:=id rfl
theorem Ih {N ls}:D7 N 129 [] ls=IA N ls:=id rfl
def DC:=oS Vy K7 D7
def T6:List Nat:=[0]
def J7 (O:Alg) (x:Ags O):O.M:=(O.b (O.d (x.I 0) (O.lit .u8 7)) (O.a [.int (lq9 O 0),.int (lq9 O 11)]) (O.b (O.d (x.I 0) (O.lit .u8 13)) (O.a [.int (lq9 O 1),.int (lq9 O 99)]) (O.a [.int (lq9 O 0),.int (lq9 O 100000)])))
def Q2:Nat→Env:=eL []
def Gz:=oS T6 J7 Q2
def S0:List Nat:=[0,0,0]
def Mk (O:Alg) (x:Ags O):O.M:=(O.a [.bool (O.i (O.v (x.I 1) (x.I 0)) (O.v (x.I 0) (x.I 2)) O.f)])
def QE:Nat→Env:=eL []
def Fv:=oS S0 Mk QE
def CP (N:Nat) (ls:List PV):Option (List PV):=aG ls
def Nc:List Nat:=[2,0]
def FI (O:Alg) (x:Ags O):O.M:=(O.c (O.e 187 [] [.str (x.S 0),.int (x.I 1)]) fun c0=>(O.a [.int (O.g c0 0)]))
def Gf:Nat→Env:=eL [(187,CP)]
theorem HF {N ls}:Gf N 187 [] ls=CP N ls:=id rfl
def DP:=oS Nc FI Gf
def Vq:List Nat:=[]
def V9 (O:Alg) (x:Ags O):O.M:=let u4:=(O.o ⟨#[]⟩);let u3:=(O.o ⟨#[112]⟩);let u2:=(O.o ⟨#[112,121]⟩);let u1:=(O.o ⟨#[115,121]⟩);let u0:=(O.o ⟨#[70,73,69,76,68]⟩);(O.a [.rows (O.ac [[.str (O.o ⟨#[84,79,83,83]⟩),.str u1,.str (O.o ⟨#[66,65,84]⟩),.str u0],[.str (O.o ⟨#[79,80,69,78]⟩),.str (O.o ⟨#[112,111]⟩),.str u4,.str u4],[.str (O.o ⟨#[66,79,87,76]⟩),.str u3,.str u4,.str u4],[.str (O.o ⟨#[66,65,76,76]⟩),.str (O.o ⟨#[98]⟩),.str u4,.str u4],[.str (O.o ⟨#[69,78,84,69,82]⟩),.str u3,.str u4,.str u4],[.str (O.o ⟨#[82,69,84,73,82,69]⟩),.str u2,.str (O.o ⟨#[72,85,82,84]⟩),.str (O.o ⟨#[79,85,84]⟩)],[.str u0,.str (O.o ⟨#[114]⟩),.str u4,.str u4],[.str (O.o ⟨#[75,69,69,80,69,82]⟩),.str u3,.str u4,.str u4],[.str (O.o ⟨#[83,85,66]⟩),.str u2,.str (O.o ⟨#[79,78]⟩),.str (O.o ⟨#[79,70,70]⟩)],[.str (O.o ⟨#[78,69,87,66,65,76,76]⟩),.str u4,.str u4,.str u4],[.str (O.o ⟨#[68,69,67,76,65,82,69]⟩),.str (O.o ⟨#[115]⟩),.str u4,.str u4],[.str (O.o ⟨#[70,79,76,76,79,87]⟩),.str u1,.str (O.o ⟨#[89,69,83]⟩),.str (O.o ⟨#[78,79]⟩)],[.str (O.o ⟨#[80,69,78,65,76,84,89]⟩),.str (O.o ⟨#[115,114]⟩),.str u4,.str u4],[.str (O.o ⟨#[82,69,86,73,69,87]⟩),.str u1,.str (O.o ⟨#[75,69,80,84]⟩),.str (O.o ⟨#[76,79,83,84]⟩)],[.str (O.o ⟨#[82,69,86,73,83,69]⟩),.str (O.o ⟨#[114,118]⟩),.str u4,.str u4],[.str (O.o ⟨#[83,84,79,80]⟩),.str u4,.str u4,.str u4]])])
def bX:Nat→Env:=eL []
def FW:=oS Vq V9 bX
def Xk:List Nat:=[0,0]
def Ma (O:Alg) (x:Ags O):O.M:=(O.c (O.e 164 [] []) fun c0=>(O.j (O.t (O.x .u8 (x.I 0) (O.lit .u8 1)) (O.m (O.p c0 0))) (O.c (O.e 163 [] [.str (O.rS (O.p c0 0) (O.x .u8 (x.I 0) (O.lit .u8 1)) 1),.int (x.I 1)]) fun c1=>(O.a [.bool (O.i (O.v (lq9 O 0) (O.g c1 0)) O.k (O.i (O.d (x.I 0) (O.lit .u8 5)) (O.d (x.I 1) (O.lit .u8 121)) O.f))]))))
def J2:Nat→Env:=eL [(163,DP),(164,FW)]
theorem Mh {N ls}:J2 N 163 [] ls=DP N ls:=id rfl
theorem Ro {N ls}:J2 N 164 [] ls=FW N ls:=id rfl
def JK:=oS Xk Ma J2
def O6:List Nat:=[0,0,0]
def JH (O:Alg) (x:Ags O):O.M:=(O.a [.bool (O.i (O.v (x.I 1) (x.I 0)) (O.v (x.I 0) (x.I 2)) O.f)])
def M6:Nat→Env:=eL []
def Dv:=oS O6 JH M6
def RK:List Nat:=[0,0,0,0,0,1,0,0,0,0,1,0]
def HR (O:Alg) (x:Ags O):O.M:=let u5:=(lq9 O 0);(O.b (O.i (O.i (O.i (O.l (x.I 0) (O.lit .u8 1)) O.k (O.l (O.lit .u8 3) (x.I 0))) O.k (O.l (O.lit .u8 3) (x.I 1))) O.k (O.l (O.lit .u8 10) (x.I 6))) (O.a [.int (lq9 O 3)]) (O.c (O.e 165 [] [.int (x.I 2),.int u5,.int (lq9 O 7)]) fun c0=>let u4:=(O.h (O.n c0 0));(O.c (O.b (O.h u4) (O.e 165 [] [.int (x.I 3),.int u5,.int (x.I 2)]) (O.a [.bool O.f])) fun c1=>let u3:=(O.i (O.i u4 O.k (O.h (O.n c1 0))) O.k (O.i (O.i (O.h (O.d (x.I 4) u5)) (O.h (O.d (x.I 4) (lq9 O 4))) O.f) (O.h (O.d (x.I 4) (lq9 O 6))) O.f));(O.c (O.b (O.h u3) (O.e 165 [] [.int (x.I 7),.int u5,.int (lq9 O 2)]) (O.a [.bool O.f])) fun c2=>let u2:=(O.i u3 O.k (O.h (O.n c2 0)));(O.c (O.b (O.h u2) (O.e 165 [] [.int (x.I 8),.int u5,.int (lq9 O 11)]) (O.a [.bool O.f])) fun c3=>let u1:=(O.i u2 O.k (O.h (O.n c3 0)));(O.c (O.b (O.h u1) (O.e 165 [] [.int (x.I 9),.int u5,.int (lq9 O 11)]) (O.a [.bool O.f])) fun c4=>let u0:=(O.i u1 O.k (O.h (O.n c4 0)));(O.c (O.b (O.h u0) (O.e 165 [] [.int (x.I 11),.int u5,.int (lq9 O 8)]) (O.a [.bool O.f])) fun c5=>(O.b (O.i u0 O.k (O.h (O.n c5 0))) (O.a [.int (lq9 O 2)]) (O.a [.int u5])))))))))
def JS:Nat→Env:=eL [(165,Dv)]
theorem KZ {N ls}:JS N 165 [] ls=Dv N ls:=id rfl
def Es:=oS RK HR JS
def V5:List Nat:=[0,0,0,0,1,0,0,0,0,0,0,0,1,0,0,0,0,1,0]
def H1 (O:Alg) (x:Ags O):O.M:=let u14:=(lq9 O 1);let u13:=(lq9 O 0);let u8:=(O.d (x.I 9) u13);let u15:=(O.lit .u8 0);let u7:=(O.d (x.I 6) u13);let u6:=(O.d (x.I 5) u13);let u5:=(O.d (x.I 3) u13);let u4:=(O.d (x.I 2) u13);let u3:=(O.d (x.I 1) u13);let u2:=(O.d (x.I 11) u13);let u1:=(O.d (x.I 10) u13);let u0:=(O.ad (O.d (x.I 14) u13) (O.ad (O.d (x.I 15) u13) (O.ad (O.d (x.I 16) u13) (O.ad (O.ao (x.B 17) O.f) (O.d (x.I 18) u13)))));(O.b (O.i (O.l (x.I 0) (O.lit .u8 1)) O.k (O.l (O.lit .u8 16) (x.I 0))) (O.a [.int (lq9 O 3)]) (O.c (O.e 130 [] [.int (x.I 0)]) fun c0=>(O.c (O.e 131 [] [.int (x.I 1),.int u14,.int (lq9 O 2)]) fun c1=>(O.c (O.e 131 [] [.int (x.I 2),.int u14,.int (lq9 O 11)]) fun c2=>(O.c (O.e 131 [] [.int (x.I 3),.int u14,.int (lq9 O 11)]) fun c3=>(O.c (O.e 131 [] [.int (x.I 5),.int (O.g c0 0),.int (O.g c0 1)]) fun c4=>(O.c (O.e 131 [] [.int (x.I 6),.int u13,.int (lq9 O 90)]) fun c5=>let u12:=(O.ac [[.int (O.lit .u8 115),.bool u3,.bool (O.n c1 0)],[.int (O.lit .u8 112),.bool u4,.bool (O.n c2 0)],[.int (O.lit .u8 111),.bool u5,.bool (O.n c3 0)],[.int (O.lit .u8 121),.bool (O.h (x.B 4)),.bool O.k],[.int (O.lit .u8 114),.bool u6,.bool (O.n c4 0)],[.int (O.lit .u8 118),.bool u7,.bool (O.n c5 0)],[.int (O.lit .u8 98),.bool (O.ad (O.d (x.I 7) u15) (O.ad (O.d (x.I 8) u15) (O.ad u8 (O.ad u1 (O.ad u2 (O.ad (O.ao (x.B 12) O.f) (O.ad (O.d (x.I 13) u15) u0))))))),.bool O.k]]);let u11:=(O.m u12);(O.c (O.y (fun s6 c6=>let u16:=(O.g c6 0);let u9:=(O.h (O.rB u12 u16 1));(O.b (O.l u16 u11) (O.j (O.t u16 u11) (O.c (O.b u9 (O.e 132 [] [.int (x.I 0),.int (O.q u12 u16 0)]) (O.a [.bool O.f])) fun c7=>(O.b (O.i u9 (O.h (O.n c7 0)) O.f) (O.a [.int u13,.int u14]) (s6 [.int (O.s .i64 u16 u14)])))) (O.a [.int u14]))) [.int u13]) fun c6=>(O.b (O.aa c6 0) (O.a [.int (O.g c6 1)]) (O.c (O.y (fun s7 c7=>let u17:=(O.g c7 0);let u10:=(O.h (O.rB u12 u17 2));(O.b (O.l u17 u11) (O.j (O.t u17 u11) (O.c (O.b u10 (O.e 132 [] [.int (x.I 0),.int (O.q u12 u17 0)]) (O.a [.bool O.f])) fun c8=>(O.b (O.i u10 (O.n c8 0) O.f) (O.a [.int u13,.int (lq9 O 2)]) (s7 [.int (O.s .i64 u17 u14)])))) (O.a [.int u14]))) [.int u13]) fun c7=>(O.b (O.aa c7 0) (O.a [.int (O.g c7 1)]) (O.b (O.d (x.I 0) (O.lit .u8 4)) (O.c (O.e 133 [] (xr x [0,0,0,0,0,1,0,0,0,0,1,0] 7)) fun c8=>(O.a [.int (O.g c8 0)])) (O.a [.int u13])))))))))))))
def D1:Nat→Env:=eL [(130,Gz),(131,Fv),(132,JK),(133,Es)]
theorem IB {N ls}:D1 N 130 [] ls=Gz N ls:=id rfl
theorem HO {N ls}:D1 N 131 [] ls=Fv N ls:=id rfl
theorem JZ {N ls}:D1 N 132 [] ls=JK N ls:=id rfl
theorem DS {N ls}:D1 N 133 [] ls=Es N ls:=id rfl
def DB:=oS V5 H1 D1
def AZ (N:Nat) (ls:List PV):Option (List PV):=Oy 1 ls
def Ag (N:Nat) (ls:List PV):Option (List PV):=Oy 8 ls
def Ac (N:Nat) (ls:List PV):Option (List PV):=Oy 1 ls
def SM:List Nat:=[0,0,0,0,0,0,0,0,0,0,0,0,0,0,3,0,3,3,1,3,1,0,0,0,3,0,0,0]
def It (O:Alg) (x:Ags O):O.M:=(O.c (O.e 166 [] [.rows (x.L 14)]) fun c0=>(O.c (O.e 167 [] [.rows (x.L 16)]) fun c1=>(O.c (O.e 167 [] [.rows (x.L 17)]) fun c2=>(O.c (O.e 167 [] [.rows (x.L 19)]) fun c3=>(O.c (O.e 168 [] [.rows (x.L 24)]) fun c4=>(O.a (ap O (xr x [0,0,0,0,0,0,0,0,0,0,0,0,0,0] 0) (ap O [.rows (O.p c0 0),.int (x.I 15),.rows (O.p c1 0),.rows (O.p c2 0),.bool (x.B 18),.rows (O.p c3 0)] (ap O (xr x [1,0,0,0] 20) (ap O [.rows (O.p c4 0)] (xr x [0,0,0] 25)))))))))))
def EZ:Nat→Env:=eL [(166,AZ),(167,Ag),(168,Ac)]
theorem Jx {N ls}:EZ N 166 [] ls=AZ N ls:=id rfl
theorem Ls {N ls}:EZ N 167 [] ls=Ag N ls:=id rfl
theorem Kx {N ls}:EZ N 168 [] ls=Ac N ls:=id rfl
def AP:=oS SM It EZ
def WI:List Nat:=[2,0,0,0,0,0,0,0,1,0,0,0,0,3,0,0,1,3,0,0,0,0,0]
def K4 (O:Alg) (x:Ags O):O.M:=(O.c (O.e 91 [] (xr x kR 0)) fun c0=>(O.c (O.y (fun s1 c1=>let u1:=(O.g c1 1);(O.b (O.l u1 (O.m (x.L 17))) (O.j (O.t u1 (O.m (x.L 17))) (O.c (O.e 134 [] (rr O (x.L 17) u1 kI 0)) fun c2=>let u0:=(O.ag (O.p c1 0) (O.ac [(cr O c2 kI 0)]));(O.j (O.r (O.m u0) 304) (s1 [.rows u0,.int (O.s .i64 u1 (lq9 O 1))])))) (O.a [.rows (O.p c1 0)]))) [.rows O.z,.int (lq9 O 0)]) fun c1=>(O.a (ap O (cr O c0 kR 0) (ap O (xr x [0,0,1] 14) (ap O [.rows (O.p c1 0)] (xr x [0,0,0,0,0] 18)))))))
def Iq:Nat→Env:=eL [(91,C8),(134,AP)]
theorem Qk {N ls}:Iq N 91 [] ls=C8 N ls:=id rfl
theorem HP {N ls}:Iq N 134 [] ls=AP N ls:=id rfl
def H2:=oS WI K4 Iq
def Vu:List Nat:=[2,0,0,0,0,0,0,0,1,0,0,0,0,3,0,0,1,3,0,0,0,0,0,0]
def LP (O:Alg) (x:Ags O):O.M:=(O.c (O.y (fun s0 c0=>let u2:=(O.g c0 0);let u1:=(O.g c0 1);let u0:=(O.s .i64 u1 (lq9 O 1));(O.b (O.l u1 (O.m (x.L 17))) (O.j (O.t u1 (O.m (x.L 17))) (O.b (O.d (O.q (x.L 17) u1 0) (x.I 23)) (s0 [.int (O.s .i64 u2 (O.q (x.L 17) u1 3)),.int u0]) (s0 [.int u2,.int u0]))) (O.a [.int u2]))) [.int (lq9 O 0),.int (lq9 O 0)]) fun c0=>(O.a [.int (O.g c0 0)]))
def TD:Nat→Env:=eL []
def Bw:=oS Vu LP TD
def PI:List Nat:=[2,0,0,0,0,0,0,0,1,0,0,0,0,3]
def Fr (O:Alg) (x:Ags O):O.M:=(O.b (O.d (x.I 3) (lq9 O 0)) (O.a [.int (O.lit .u8 5)]) (O.a [.int (O.lit .u8 6)]))
def MN:Nat→Env:=eL []
def Bo:=oS PI Fr MN
def TC:List Nat:=[2,0,0,0,0,0,0,0,1,0,0,0,0,3,0,0,1,3,0,0,0,0,0]
def Il (O:Alg) (x:Ags O):O.M:=let u10:=(lq9 O 1);let u9:=(lq9 O 0);let u8:=(O.m (x.L 17));let u11:=(O.lit .u8 0);let u7:=(O.d u8 (lq9 O 3));let u6:=(O.x .i64 u8 u10);let u5:=(O.d u8 (O.am .i64 (lq9 O 2) (x.I 2)));let u4:=(O.q (x.L 17) u6 1);let u3:=(O.q (x.L 17) u6 3);let u2:=(O.q (x.L 17) u6 0);let u1:=(O.q (x.L 17) u6 27);let u0:=(O.x .i64 u4 u10);(O.c (O.e 106 [] (xr x kM 0)) fun c0=>(O.b (O.i (O.h (O.n c0 0)) O.k (O.d u8 u9)) (O.a [.int u11,.int u9,.int u9]) (O.j (O.t u6 u8) (O.c (O.e 135 [] [.int u2]) fun c1=>let u12:=(O.g c1 0);(O.b (O.d u1 (O.lit .u8 5)) (O.c (O.e 172 [] (xr x kR 0)) fun c2=>(O.a [.int (O.g c2 0),.int u9,.int u9])) (O.b (O.d u1 u11) (O.a [.int u11,.int u9,.int u9]) (O.b (O.i u5 (O.v u4 u3) O.f) (O.a [.int (O.lit .u8 2),.int u2,.int (O.x .i64 (O.x .i64 (x.I 1) u10) (O.q (x.L 17) u6 4))]) (O.b (O.i u5 (O.d u3 u0) O.f) (O.a [.int (O.lit .u8 4),.int u9,.int u9]) (O.b u5 (O.a [.int (O.lit .u8 1),.int u12,.int (O.x .i64 u0 u3)]) (O.c (O.b u7 (O.e 139 [] (ap O (xr x kM 0) [.int u2])) (O.a [.int u9])) fun c2=>(O.c (O.b u7 (O.e 139 [] (ap O (xr x kM 0) [.int u12])) (O.a [.int u9])) fun c3=>(O.b (O.i u7 (O.l (O.g c2 0) (O.g c3 0)) O.f) (O.c (O.e 139 [] (ap O (xr x kM 0) [.int u12])) fun c4=>(O.c (O.e 139 [] (ap O (xr x kM 0) [.int u2])) fun c5=>(O.a [.int (O.lit .u8 3),.int u12,.int (O.x .i64 (O.g c4 0) (O.g c5 0))]))) (O.a [.int u11,.int u9,.int u9])))))))))))))
def C7:Nat→Env:=eL [(106,DC),(135,BN),(139,Bw),(172,Bo)]
theorem PP {N ls}:C7 N 106 [] ls=DC N ls:=id rfl
theorem PD {N ls}:C7 N 135 [] ls=BN N ls:=id rfl
theorem PA {N ls}:C7 N 139 [] ls=Bw N ls:=id rfl
theorem Lu {N ls}:C7 N 172 [] ls=Bo N ls:=id rfl
def Fl:=oS TC Il C7
def SU:List Nat:=[2,0,0,0,0,0,0,0,1,0,0,0,0,3,0,0,0]
def Iy (O:Alg) (x:Ags O):O.M:=let u4:=(lq9 O 0);let u3:=(O.r (x.I 1) 1);let u2:=(lq9 O 1000000);(O.c (O.e 61 [] (xr x kR 0)) fun c0=>(O.b (O.h (O.d (O.g c0 0) u4)) (O.a [.int u4,.int u4,.int u4,.int u4,.int u4,.int u4,.int u4,.int u4,.int u4,.int u4,.int u4,.int u4,.int u4,.int u4,.rows O.z,.int u4,.rows O.z,.rows O.z,.bool O.f,.rows O.z,.bool O.f,.int u4,.int u4,.int u4,.rows O.z,.int u4,.int u4,.int (O.lit .u8 0),.int (O.g c0 0)]) (O.c (O.e 159 [] [.int (x.I 14),.int (lq9 O 1),.int (lq9 O 2)]) fun c1=>let u1:=(O.h (O.n c1 0));(O.c (O.b (O.h u1) (O.e 159 [] [.int (x.I 15),.int u4,.int u2]) (O.a [.bool O.f])) fun c2=>let u0:=(O.i u1 O.k (O.h (O.n c2 0)));(O.c (O.b (O.h u0) (O.e 159 [] [.int (x.I 16),.int u4,.int u2]) (O.a [.bool O.f])) fun c3=>(O.b (O.i u0 O.k (O.h (O.n c3 0))) (O.a [.int u4,.int u4,.int u4,.int u4,.int u4,.int u4,.int u4,.int u4,.int u4,.int u4,.int u4,.int u4,.int u4,.int u4,.rows O.z,.int u4,.rows O.z,.rows O.z,.bool O.f,.rows O.z,.bool O.f,.int u4,.int u4,.int u4,.rows O.z,.int u4,.int u4,.int (O.lit .u8 0),.int (lq9 O 2)]) (O.j u3 (O.j (O.r (x.I 1) 8) (O.j u3 (O.a [.int (x.I 14),.int (x.I 15),.int (x.I 3),.int (x.I 16),.int u4,.int u4,.int u4,.int u4,.int u4,.int (x.I 16),.int u4,.int u4,.int u4,.int u4,.rows (O.as (x.I 1) [.int (O.lit .u8 0)]),.int u4,.rows O.z,.rows O.z,.bool O.f,.rows (O.as (x.I 1) [.int u4]),.bool O.f,.int u4,.int u4,.int u4,.rows (O.as (x.I 1) [.bool O.f]),.int u4,.int u4,.int (O.lit .u8 0),.int u4]))))))))))
def Gb:Nat→Env:=eL [(61,AQ),(159,Ak)]
theorem PN {N ls}:Gb N 61 [] ls=AQ N ls:=id rfl
theorem MI {N ls}:Gb N 159 [] ls=Ak N ls:=id rfl
def F4:=oS SU Iy Gb
def Tj:List Nat:=[2,0,0,0,0,0,0,0,1,0,0,0,0,3,0,0,1,3,0,0,0,0,0,0]
def KB (O:Alg) (x:Ags O):O.M:=(O.b (O.l (O.s .i64 (O.m (x.L 17)) (lq9 O 1)) (O.am .i64 (lq9 O 2) (x.I 2))) (O.a [.int (lq9 O 0)]) (O.c (O.e 135 [] [.int (x.I 23)]) fun c0=>(O.c (O.e 139 [] (ap O (xr x kM 0) [.int (O.g c0 0)])) fun c1=>(O.c (O.e 139 [] (xr x [2,0,0,0,0,0,0,0,1,0,0,0,0,3,0,0,1,3,0,0,0,0,0,0] 0)) fun c2=>(O.a [.int (O.s .i64 (O.x .i64 (O.g c1 0) (O.g c2 0)) (lq9 O 1))])))))
def Hc:Nat→Env:=eL [(135,BN),(139,Bw)]
theorem Po {N ls}:Hc N 135 [] ls=BN N ls:=id rfl
theorem Pn {N ls}:Hc N 139 [] ls=Bw N ls:=id rfl
def G9:=oS Tj KB Hc
def Pw:List Nat:=[0]
def KQ (O:Alg) (x:Ags O):O.M:=(O.a [.bool (O.h (O.d (x.I 0) (O.lit .u8 0)))])
def Nh:Nat→Env:=eL []
def EV:=oS Pw KQ Nh
def S7:List Nat:=[0,0,0,0,0,0,0,0,0,0,0,0,0,0,3,0,3,3,1,3,1,0,0,0,3,0,0,0]
def Ig (O:Alg) (x:Ags O):O.M:=let u0:=(lq9 O 0);(O.c (O.c (O.y (fun s0 c0=>let u1:=(O.g c0 0);(O.b (O.l u1 (O.m (x.L 14))) (O.j (O.t u1 (O.m (x.L 14))) (O.c (O.e 202 [] [.int (O.q (x.L 14) u1 0)]) fun c1=>(O.b (O.n c1 0) (O.a [.int u0,.int u1]) (s0 [.int (O.s .i64 u1 (lq9 O 1))])))) (O.a [.int (lq9 O 1)]))) [.int u0]) fun c0=>(O.b (O.aa c0 0) (O.a [.int (O.g c0 1)]) (O.a [.int (lq9 O (-1))]))) fun c0=>(O.a [.bool (O.v u0 (O.g c0 0))]))
def KS:Nat→Env:=eL [(202,EV)]
theorem FL {N ls}:KS N 202 [] ls=EV N ls:=id rfl
def Fi:=oS S7 Ig KS
def Xc:List Nat:=[0,0,0,0,0,0,0,0,0,0,0,0,0,0,3,0,3,3,1,3,1,0,0,0,3,0,0,0]
def M5 (O:Alg) (x:Ags O):O.M:=(O.c (O.e 166 [] [.rows (x.L 14)]) fun c0=>(O.c (O.e 167 [] [.rows (x.L 16)]) fun c1=>(O.c (O.e 167 [] [.rows (x.L 17)]) fun c2=>(O.c (O.e 167 [] [.rows (x.L 19)]) fun c3=>(O.c (O.e 168 [] [.rows (x.L 24)]) fun c4=>(O.a (ap O (xr x [0,0,0,0,0,0,0,0,0,0,0,0,0,0] 0) (ap O [.rows (O.p c0 0),.int (x.I 15),.rows (O.p c1 0),.rows (O.p c2 0),.bool (x.B 18),.rows (O.p c3 0)] (ap O (xr x [1,0,0,0] 20) (ap O [.rows (O.p c4 0)] (xr x [0,0,0] 25)))))))))))
def G5:Nat→Env:=eL [(166,AZ),(167,Ag),(168,Ac)]
theorem Lm {N ls}:G5 N 166 [] ls=AZ N ls:=id rfl
theorem NR {N ls}:G5 N 167 [] ls=Ag N ls:=id rfl
theorem NL {N ls}:G5 N 168 [] ls=Ac N ls:=id rfl
def Ay:=oS Xc M5 G5
def RW:List Nat:=[0]
def Lt (O:Alg) (x:Ags O):O.M:=(O.a [.bool (O.h (O.d (x.I 0) (O.lit .u8 0)))])
def O0:Nat→Env:=eL []
def Cp:=oS RW Lt O0
def Tq:List Nat:=[0,0,0,0,0,0,0,0,0,0,0,0,0,0,3,0,3,3,1,3,1,0,0,0,3,0,0,0]
def En (O:Alg) (x:Ags O):O.M:=let u0:=(lq9 O 0);(O.c (O.c (O.y (fun s0 c0=>let u1:=(O.g c0 0);(O.b (O.l u1 (O.m (x.L 14))) (O.j (O.t u1 (O.m (x.L 14))) (O.c (O.e 262 [] [.int (O.q (x.L 14) u1 0)]) fun c1=>(O.b (O.n c1 0) (O.a [.int u0,.int u1]) (s0 [.int (O.s .i64 u1 (lq9 O 1))])))) (O.a [.int (lq9 O 1)]))) [.int u0]) fun c0=>(O.b (O.aa c0 0) (O.a [.int (O.g c0 1)]) (O.a [.int (lq9 O (-1))]))) fun c0=>(O.a [.bool (O.v u0 (O.g c0 0))]))
def E5:Nat→Env:=eL [(262,Cp)]
theorem GN {N ls}:E5 N 262 [] ls=Cp N ls:=id rfl
def B2:=oS Tq En E5
def UX:List Nat:=[0,0,0,0,0,0,0,0,0,0,0,0,0,0,3,0,3,3,1,3,1,0,0,0,3,0,0,0,0]
def Jt (O:Alg) (x:Ags O):O.M:=(O.a [.bool (O.i (O.v (lq9 O 1) (x.I 28)) (O.v (x.I 28) (O.m (x.L 14))) O.f)])
def Rm:Nat→Env:=eL []
def A0:=oS UX Jt Rm
def WH:List Nat:=[0,0,0,0,0,0,0,0,0,0,0,0,0,0,3,0,3,3,1,3,1,0,0,0,3,0,0,0,0,0]
def LI (O:Alg) (x:Ags O):O.M:=let u3:=(lq9 O 1);let u1:=(O.x .i64 (x.I 29) u3);let u0:=(O.x .i64 (x.I 28) u3);(O.c (O.e 234 [] (xr x kI 0)) fun c0=>let u4:=(O.p c0 14);(O.c (O.e 235 [] (xr x kI 0)) fun c1=>(O.b (O.n c1 0) (O.a (ap O (cr O c0 kI 0) [.int u3])) (O.c (O.e 236 [] (xr x [0,0,0,0,0,0,0,0,0,0,0,0,0,0,3,0,3,3,1,3,1,0,0,0,3,0,0,0,0] 0)) fun c2=>let u2:=(O.h (O.n c2 0));(O.c (O.b (O.h u2) (O.e 236 [] (ap O (xr x kI 0) [.int (x.I 29)])) (O.a [.bool O.f])) fun c3=>(O.b (O.i u2 O.k (O.h (O.n c3 0))) (O.a (ap O (cr O c0 kI 0) [.int (lq9 O 3)])) (O.b (O.d (x.I 28) (x.I 29)) (O.a (ap O (cr O c0 kI 0) [.int (lq9 O 4)])) (O.j (O.t u0 (O.m u4)) (O.j (O.t u1 (O.m (O.ae u4 u0 0 [.int (O.lit .u8 1)]))) (O.a (ap O (cr O c0 [0,0,0,0,0,0,0,0,0,0,0,0] 0) (ap O [.int (x.I 28),.int (x.I 29),.rows (O.ae (O.ae u4 u0 0 [.int (O.lit .u8 1)]) u1 0 [.int (O.lit .u8 1)])] (ap O (cr O c0 [0,3,3,1,3,1,0,0,0,3,0,0,0] 15) [.int (lq9 O 0)])))))))))))))
def F5:Nat→Env:=eL [(234,Ay),(235,B2),(236,A0)]
theorem Rj {N ls}:F5 N 234 [] ls=Ay N ls:=id rfl
theorem Pm {N ls}:F5 N 235 [] ls=B2 N ls:=id rfl
theorem Pj {N ls}:F5 N 236 [] ls=A0 N ls:=id rfl
def H5:=oS WH LI F5
def Yj:List Nat:=[0,0,0,0,0,0,0,0,0,0,0,0,0,0,3,0,3,3,1,3,1,0,0,0,3,0,0,0]
def Om (O:Alg) (x:Ags O):O.M:=(O.c (O.e 166 [] [.rows (x.L 14)]) fun c0=>(O.c (O.e 167 [] [.rows (x.L 16)]) fun c1=>(O.c (O.e 167 [] [.rows (x.L 17)]) fun c2=>(O.c (O.e 167 [] [.rows (x.L 19)]) fun c3=>(O.c (O.e 168 [] [.rows (x.L 24)]) fun c4=>(O.a (ap O (xr x [0,0,0,0,0,0,0,0,0,0,0,0,0,0] 0) (ap O [.rows (O.p c0 0),.int (x.I 15),.rows (O.p c1 0),.rows (O.p c2 0),.bool (x.B 18),.rows (O.p c3 0)] (ap O (xr x [1,0,0,0] 20) (ap O [.rows (O.p c4 0)] (xr x [0,0,0] 25)))))))))))
def H4:Nat→Env:=eL [(166,AZ),(167,Ag),(168,Ac)]
theorem MJ {N ls}:H4 N 166 [] ls=AZ N ls:=id rfl
theorem Ny {N ls}:H4 N 167 [] ls=Ag N ls:=id rfl
theorem NZ {N ls}:H4 N 168 [] ls=Ac N ls:=id rfl
def Cd:=oS Yj Om H4
def Vn:List Nat:=[0,0,0,0,0,0,0,0,0,0,0,0,0,0,3,0,3,3,1,3,1,0,0,0,3,0,0,0,0]
def LA (O:Alg) (x:Ags O):O.M:=(O.a [.bool (O.i (O.v (lq9 O 1) (x.I 28)) (O.v (x.I 28) (O.m (x.L 19))) O.f)])
def Ss:Nat→Env:=eL []
def Bx:=oS Vn LA Ss
def Ww:List Nat:=[2,0,0,0,0,0,0,0,1,0,0,0,0,3,0,0,0,0,0,0,0,0,0,0,0,0,0,0,3,0,3,3,1,3,1,0,0,0,3,0,0,0,0]
def NJ (O:Alg) (x:Ags O):O.M:=let u4:=(lq9 O 0);let u2:=(O.x .i64 (x.I 42) (lq9 O 1));let u1:=(O.q (x.L 33) u2 0);let u0:=(O.x .i64 (O.am .i64 (x.I 5) (x.I 4)) (O.ai (O.l u1 u4) u4 u1));(O.c (O.e 263 [] (xr x [0,0,0,0,0,0,0,0,0,0,0,0,0,0,3,0,3,3,1,3,1,0,0,0,3,0,0,0,0] 14)) fun c0=>let u3:=(O.h (O.n c0 0));(O.c (O.b (O.h u3) (O.e 61 [] (xr x kR 0)) (O.a [.int u4])) fun c1=>(O.b (O.i u3 O.k (O.h (O.d (O.g c1 0) u4))) (O.a [.int u4]) (O.b (O.d (x.I 5) u4) (O.a [.int (lq9 O (-1))]) (O.j (O.t u2 (O.m (x.L 33))) (O.a [.int (O.ai (O.l u0 u4) u4 u0)]))))))
def J0:Nat→Env:=eL [(61,AQ),(263,Bx)]
theorem RH {N ls}:J0 N 61 [] ls=AQ N ls:=id rfl
theorem R1 {N ls}:J0 N 263 [] ls=Bx N ls:=id rfl
def Jf:=oS Ww NJ J0
def Y0:List Nat:=[2,0,0,0,0,0,0,0,1,0,0,0,0,3,0,0,0,0,0,0,0,0,0,0,0,0,0,0,3,0,3,3,1,3,1,0,0,0,3,0,0,0,0]
def Oq (O:Alg) (x:Ags O):O.M:=let u3:=(lq9 O 0);let u1:=(O.v (x.I 42) (O.m (x.L 38)));let u0:=(O.x .i64 (x.I 42) (lq9 O 1));(O.c (O.e 263 [] (xr x [0,0,0,0,0,0,0,0,0,0,0,0,0,0,3,0,3,3,1,3,1,0,0,0,3,0,0,0,0] 14)) fun c0=>let u2:=(O.h (O.n c0 0));(O.c (O.b (O.h u2) (O.e 61 [] (xr x kR 0)) (O.a [.int u3])) fun c1=>(O.b (O.i u2 O.k (O.h (O.d (O.g c1 0) u3))) (O.a [.int (lq9 O 3)]) (O.j (O.h (O.ad u1 (O.h (O.t u0 (O.m (x.L 38)))))) (O.c (O.e 264 [] (xr x [2,0,0,0,0,0,0,0,1,0,0,0,0,3,0,0,0,0,0,0,0,0,0,0,0,0,0,0,3,0,3,3,1,3,1,0,0,0,3,0,0,0,0] 0)) fun c2=>(O.b (O.i (O.i (O.d (x.I 42) (x.I 36)) O.k (O.d (x.I 42) (x.I 29))) O.k (O.i u1 (O.rB (x.L 38) u0 0) O.f)) (O.a [.int (lq9 O 7)]) (O.c (O.e 184 [] [.rows (x.L 31),.int (x.I 42)]) fun c3=>(O.b (O.n c3 0) (O.a [.int (lq9 O 8)]) (O.b (O.i (O.h (O.d (O.g c2 0) (lq9 O (-1)))) (O.l (x.I 25) (O.x .i64 (x.I 4) (O.g c2 0))) O.f) (O.a [.int (lq9 O 9)]) (O.a [.int u3]))))))))))
def FT:Nat→Env:=eL [(61,AQ),(184,Aq),(263,Bx),(264,Jf)]
theorem SE {N ls}:FT N 61 [] ls=AQ N ls:=id rfl
theorem MB {N ls}:FT N 184 [] ls=Aq N ls:=id rfl
theorem SH {N ls}:FT N 263 [] ls=Bx N ls:=id rfl
theorem TP {N ls}:FT N 264 [] ls=Jf N ls:=id rfl
def Kk:=oS Y0 Oq FT
def W7:List Nat:=[2,0,0,0,0,0,0,0,1,0,0,0,0,3,0,0,0,0,0,0,0,0,0,0,0,0,0,0,3,0,3,3,1,3,1,0,0,0,3,0,0,0,0]
def Mv (O:Alg) (x:Ags O):O.M:=(O.c (O.e 237 [] (xr x kI 14)) fun c0=>(O.c (O.e 238 [] (xr x [2,0,0,0,0,0,0,0,1,0,0,0,0,3,0,0,0,0,0,0,0,0,0,0,0,0,0,0,3,0,3,3,1,3,1,0,0,0,3,0,0,0,0] 0)) fun c1=>let u0:=(O.g c1 0);(O.b (O.d u0 (lq9 O 0)) (O.a (ap O (cr O c0 [0,0,0,0,0,0,0,0,0,0,0,0,0,0,3] 0) (ap O [.int (x.I 42)] (ap O (cr O c0 [3,3,1,3,1,0,0,0,3,0,0,0] 16) [.int u0])))) (O.a (ap O (cr O c0 kI 0) [.int u0])))))
def KE:Nat→Env:=eL [(237,Cd),(238,Kk)]
theorem TT {N ls}:KE N 237 [] ls=Cd N ls:=id rfl
theorem TN {N ls}:KE N 238 [] ls=Kk N ls:=id rfl
def Jj:=oS W7 Mv KE
def Ng:List Nat:=[0,0,0,0,0,1,0,0,0,0,1,0]
def FC (O:Alg) (x:Ags O):O.M:=let u3:=(lq9 O 0);let u2:=(O.d (x.I 4) u3);let u1:=(O.d (x.I 2) u3);let u0:=(O.h (O.d (x.I 4) (lq9 O 6)));(O.b (O.d (x.I 0) (O.lit .u8 2)) (O.a [.bool (O.i (O.d (x.I 1) (O.lit .u8 0)) u0 O.f)]) (O.b (O.d (x.I 1) (O.lit .u8 0)) (O.a [.bool (O.i u1 u2 O.f)]) (O.b (O.d (x.I 1) (O.lit .u8 1)) (O.a [.bool (O.i u0 O.k u1)]) (O.a [.bool (O.i u0 (O.i (O.l u3 (x.I 2)) O.k (O.h u2)) O.f)]))))
def Ly:Nat→Env:=eL []
def DN:=oS Ng FC Ly
def Q8:List Nat:=[0,0,0,0,0,1,0,0,0,0,1,0]
def Hk (O:Alg) (x:Ags O):O.M:=let u3:=(lq9 O 0);let u2:=(lq9 O 11);let u1:=(O.d (x.I 4) u3);let u0:=(O.h u1);(O.b (O.i (O.i (O.i (O.i (O.i (O.l (x.I 0) (O.lit .u8 1)) O.k (O.l (O.lit .u8 3) (x.I 0))) O.k (O.l (O.lit .u8 3) (x.I 1))) O.k (O.l (O.lit .u8 10) (x.I 6))) O.k (O.l (x.I 11) u3)) O.k (O.l (lq9 O 8) (x.I 11))) (O.a [.int u2]) (O.b (O.i (O.i (O.i (O.i (O.l (x.I 2) u3) O.k (O.l (lq9 O 7) (x.I 2))) O.k (O.l (x.I 3) u3)) O.k (O.l (x.I 2) (x.I 3))) O.k (O.i (O.i u0 (O.h (O.d (x.I 4) (lq9 O 4))) O.f) (O.h (O.d (x.I 4) (lq9 O 6))) O.f)) (O.a [.int (lq9 O 12)]) (O.c (O.e 103 [] (xr x [0,0,0,0,0,1,0,0,0,0,1,0] 0)) fun c0=>(O.b (O.i (O.h (O.n c0 0)) O.k (O.i (O.i (O.i (O.h (O.d (x.I 0) (O.lit .u8 2))) (O.d (x.I 1) (O.lit .u8 1)) O.f) (O.d (x.I 2) u3) O.f) u1 O.f)) (O.a [.int u2]) (O.b (O.i (O.i (O.h (O.d (x.I 11) u3)) (O.h (O.d (x.I 1) (O.lit .u8 1))) O.f) (O.h (O.d (x.I 6) (O.lit .u8 2))) O.f) (O.a [.int u2]) (O.b (O.i u0 (O.h (O.d (x.I 6) (O.lit .u8 0))) O.f) (O.a [.int u2]) (O.b (O.i (O.i (x.B 5) (O.h (O.d (x.I 6) (O.lit .u8 6))) O.f) (O.h (O.d (x.I 6) (O.lit .u8 8))) O.f) (O.a [.int u2]) (O.a [.int u3]))))))))
def Jc:Nat→Env:=eL [(103,DN)]
theorem KK {N ls}:Jc N 103 [] ls=DN N ls:=id rfl
def CE:=oS Q8 Hk Jc
def Nf:List Nat:=[0]
def FJ (O:Alg) (x:Ags O):O.M:=(O.a [.bool (O.i (O.v (O.lit .u8 1) (x.I 0)) (O.v (x.I 0) (O.lit .u8 5)) O.f)])
def L1:Nat→Env:=eL []
def DI:=oS Nf FJ L1
def P7:List Nat:=[2,0,0,0,0,0,0,0,1,0,0,0,0,3,0,0,0,0,0,1,0,0,0,0,1,0]
def GS (O:Alg) (x:Ags O):O.M:=let u2:=(lq9 O 0);let u1:=(O.s .i64 (O.x .i64 (x.I 16) (x.I 17)) (x.I 18));(O.c (O.e 87 [] (xr x [0,0,0,0,0,1,0,0,0,0,1,0] 14)) fun c0=>(O.b (O.h (O.d (O.g c0 0) u2)) (O.a [.int u2,.int u2,.int u2,.int u2,.int u2,.int u2,.bool O.f,.bool O.f,.bool O.f,.bool O.f]) (O.c (O.e 88 [] [.int (x.I 20)]) fun c1=>let u3:=(O.n c1 0);(O.c (O.b (x.B 19) (O.a [.int (O.s .i64 (x.I 16) (lq9 O 1))]) (O.a [.int (x.I 16)])) fun c2=>let u0:=(O.d (O.an .i64 (O.g c2 0) (lq9 O 2)) (lq9 O 1));(O.c (O.b (O.d (x.I 14) (O.lit .u8 2)) (O.a [.int u2,.int (O.s .i64 (x.I 6) u1),.int u2,.int u2,.int u2,.int u2,.bool (O.d (x.I 14) (O.lit .u8 1)),.bool (O.h (O.d (x.I 14) (O.lit .u8 2))),.bool u3,.bool u0]) (O.b (O.d (x.I 14) (O.lit .u8 3)) (O.a [.int u2,.int u2,.int (x.I 7),.int u2,.int u2,.int u2,.bool (O.d (x.I 14) (O.lit .u8 1)),.bool (O.h (O.d (x.I 14) (O.lit .u8 2))),.bool u3,.bool u0]) (O.a [.int u2,.int u2,.int u2,.int u2,.int u2,.int u2,.bool (O.d (x.I 14) (O.lit .u8 1)),.bool (O.h (O.d (x.I 14) (O.lit .u8 2))),.bool u3,.bool u0]))) fun c3=>(O.c (O.b (O.h (O.d (x.I 14) (O.lit .u8 2))) (O.b (O.d (x.I 15) (O.lit .u8 1)) (O.a (ap O [.int u1] (cr O c3 [0,0,0,0,0,1,1,1,1] 1))) (O.b (O.d (x.I 15) (O.lit .u8 2)) (O.a (ap O (cr O c3 [0,0,0] 0) (ap O [.int u1] (cr O c3 [0,0,1,1,1,1] 4)))) (O.b (O.d (x.I 15) (O.lit .u8 3)) (O.a (ap O (cr O c3 [0,0,0,0] 0) (ap O [.int u1] (cr O c3 [0,1,1,1,1] 5)))) (O.a (cr O c3 [0,0,0,0,0,0,1,1,1,1] 0))))) (O.a (cr O c3 [0,0,0,0,0,0,1,1,1,1] 0))) fun c4=>(O.a (ap O (cr O c4 [0,0,0,0,0] 0) (ap O [.int (O.s .i64 (O.s .i64 (O.g c4 0) (O.g c4 1)) (O.g c4 2))] (cr O c4 [1,1,1,1] 6))))))))))
def FF:Nat→Env:=eL [(87,CE),(88,DI)]
theorem Ll {N ls}:FF N 87 [] ls=CE N ls:=id rfl
theorem J1 {N ls}:FF N 88 [] ls=DI N ls:=id rfl
def B6:=oS P7 GS FF
def R0:List Nat:=[0,0,0,0,0,0,1,1,1,1]
def Rk (O:Alg) (x:Ags O):O.M:=(O.a [.int (O.s .i64 (O.s .i64 (O.s .i64 (O.s .i64 (x.I 0) (x.I 1)) (x.I 2)) (x.I 3)) (x.I 4))])
def XD:Nat→Env:=eL []
def E1:=oS R0 Rk XD
def Si:List Nat:=[0,0,0,0,0,0,0,0,0,0,0,0,0,0,3,0,3,3,1,3,1,0,0,0,3,0,0,0]
def D3 (O:Alg) (x:Ags O):O.M:=(O.c (O.e 235 [] (xr x kI 0)) fun c0=>(O.a [.bool (O.i (O.n c0 0) (O.i (O.d (x.I 12) (lq9 O 0)) O.k (O.d (x.I 13) (lq9 O 0))) O.f)]))
def ES:Nat→Env:=eL [(235,B2)]
theorem OT {N ls}:ES N 235 [] ls=B2 N ls:=id rfl
def BO:=oS Si D3 ES
def Vs:List Nat:=[0,0,0,0,0,0,0,0,0,0,0,0,0,0,3,0,3,3,1,3,1,0,0,0,3,0,0,0,0]
def LT (O:Alg) (x:Ags O):O.M:=(O.a [.bool (O.i (O.v (lq9 O 1) (x.I 28)) (O.v (x.I 28) (O.m (x.L 24))) O.f)])
def Sf:Nat→Env:=eL []
def A6:=oS Vs LT Sf
def Rd:List Nat:=[0,0,0,0,0,0,0,0,0,0,0,0,0,0,3,0,3,3,1,3,1,0,0,0,3,0,0,0,0]
def Ho (O:Alg) (x:Ags O):O.M:=let u0:=(O.x .i64 (x.I 28) (lq9 O 1));(O.c (O.e 246 [] (xr x [0,0,0,0,0,0,0,0,0,0,0,0,0,0,3,0,3,3,1,3,1,0,0,0,3,0,0,0,0] 0)) fun c0=>(O.j (O.h (O.ad (O.n c0 0) (O.h (O.t u0 (O.m (x.L 24)))))) (O.a [.bool (O.i (O.n c0 0) (O.rB (x.L 24) u0 0) O.f)])))
def Jh:Nat→Env:=eL [(246,A6)]
theorem OX {N ls}:Jh N 246 [] ls=A6 N ls:=id rfl
def A4:=oS Rd Ho Jh
def Sn:List Nat:=[2,0,0,0,0,0,0,0,1,0,0,0,0,3,0]
def Im (O:Alg) (x:Ags O):O.M:=let u1:=(lq9 O 1);let u0:=(O.s .i64 (x.I 14) u1);(O.c (O.y (fun s0 c0=>let u2:=(O.g c0 0);(O.b (O.l u2 (O.m (x.L 13))) (O.j (O.t u2 (O.m (x.L 13))) (O.b (O.i (O.v (O.q (x.L 13) u2 0) u0) (O.v u0 (O.q (x.L 13) u2 1)) O.f) (O.a [.int (lq9 O 0),.int (O.q (x.L 13) u2 2)]) (s0 [.int (O.s .i64 u2 u1)]))) (O.a [.int u1]))) [.int (lq9 O 0)]) fun c0=>(O.b (O.aa c0 0) (O.a [.int (O.g c0 1)]) (O.a [.int (x.I 12)])))
def P6:Nat→Env:=eL []
def Ft:=oS Sn Im P6
def V0:List Nat:=[2,0,0,0,0,0,0,0,1,0,0,0,0,3,0,0,0,0,0,0,0,0,0,0,0,0,0,0,3,0,3,3,1,3,1,0,0,0,3,0,0,0]
def LF (O:Alg) (x:Ags O):O.M:=(O.c (O.e 246 [] (ap O (xr x kI 14) [.int (x.I 36)])) fun c0=>let u0:=(O.h (O.n c0 0));(O.c (O.b (O.h u0) (O.e 247 [] (ap O (xr x kI 14) [.int (x.I 36)])) (O.a [.bool O.f])) fun c1=>(O.b (O.i (O.i u0 O.k (O.n c1 0)) O.k (O.d (x.I 36) (x.I 29))) (O.a [.int (lq9 O 17)]) (O.c (O.e 275 [] (ap O (xr x kR 0) [.int (x.I 24)])) fun c2=>(O.b (O.l (O.g c2 0) (x.I 37)) (O.a [.int (lq9 O 16)]) (O.a [.int (lq9 O 0)]))))))
def Fq:Nat→Env:=eL [(246,A6),(247,A4),(275,Ft)]
theorem Qb {N ls}:Fq N 246 [] ls=A6 N ls:=id rfl
theorem Nn {N ls}:Fq N 247 [] ls=A4 N ls:=id rfl
theorem Ov {N ls}:Fq N 275 [] ls=Ft N ls:=id rfl
def IC:=oS V0 LF Fq
def Pv:List Nat:=[]
def Py (O:Alg) (x:Ags O):O.M:=(O.a [.rows (O.ac [[.int (O.lit .u8 0),.str (O.o ⟨#[78,79,84,79,85,84]⟩),.bool O.f,.bool O.f,.bool O.f,.bool O.f,.bool O.f],[.int (O.lit .u8 1),.str (O.o ⟨#[66,79,87,76,69,68]⟩),.bool O.k,.bool O.f,.bool O.f,.bool O.f,.bool O.f],[.int (O.lit .u8 2),.str (O.o ⟨#[67,65,85,71,72,84]⟩),.bool O.k,.bool O.f,.bool O.f,.bool O.k,.bool O.f],[.int (O.lit .u8 3),.str (O.o ⟨#[76,66,87]⟩),.bool O.k,.bool O.f,.bool O.f,.bool O.f,.bool O.f],[.int (O.lit .u8 4),.str (O.o ⟨#[83,84,85,77,80,69,68]⟩),.bool O.k,.bool O.k,.bool O.f,.bool O.k,.bool O.f],[.int (O.lit .u8 5),.str (O.o ⟨#[72,73,84,87,73,67,75,69,84]⟩),.bool O.k,.bool O.k,.bool O.f,.bool O.f,.bool O.f],[.int (O.lit .u8 6),.str (O.o ⟨#[82,85,78,79,85,84]⟩),.bool O.k,.bool O.k,.bool O.k,.bool O.k,.bool O.k],[.int (O.lit .u8 7),.str (O.o ⟨#[72,73,84,84,87,73,67,69]⟩),.bool O.k,.bool O.f,.bool O.k,.bool O.f,.bool O.f],[.int (O.lit .u8 8),.str (O.o ⟨#[79,66,83,84,82,85,67,84,73,78,71]⟩),.bool O.k,.bool O.k,.bool O.k,.bool O.f,.bool O.k],[.int (O.lit .u8 9),.str (O.o ⟨#[84,73,77,69,68,79,85,84]⟩),.bool O.f,.bool O.f,.bool O.f,.bool O.f,.bool O.f],[.int (O.lit .u8 10),.str (O.o ⟨#[82,69,84,73,82,69,68]⟩),.bool O.f,.bool O.f,.bool O.f,.bool O.f,.bool O.f]])])
def WL:Nat→Env:=eL []
def Bi:=oS Pv Py WL
def UC:List Nat:=[0]
def J8 (O:Alg) (x:Ags O):O.M:=(O.c (O.e 99 [] []) fun c0=>let u2:=(O.p c0 0);let u0:=(O.m u2);(O.c (O.y (fun s1 c1=>let u1:=(O.g c1 0);(O.b (O.l u1 u0) (O.j (O.t u1 u0) (O.b (O.d (O.q u2 u1 0) (x.I 0)) (O.a (ap O [.int (lq9 O 0)] (rr O u2 u1 [0,2,1,1,1,1,1] 0))) (s1 [.int (O.s .i64 u1 (lq9 O 1))]))) (O.a [.int (lq9 O 1)]))) [.int (lq9 O 0)]) fun c1=>(O.b (O.aa c1 0) (O.a (cr O c1 [0,2,1,1,1,1,1] 1)) (O.a [.int (O.lit .u8 0),.str (O.o ⟨#[]⟩),.bool O.f,.bool O.f,.bool O.f,.bool O.f,.bool O.f]))))
def LY:Nat→Env:=eL [(99,Bi)]
theorem MW {N ls}:LY N 99 [] ls=Bi N ls:=id rfl
def Cr:=oS UC J8 LY
def PQ:List Nat:=[3,0]
def F6 (O:Alg) (x:Ags O):O.M:=(O.c (O.y (fun s0 c0=>let u0:=(O.g c0 0);(O.b (O.l u0 (O.m (x.L 0))) (O.j (O.t u0 (O.m (x.L 0))) (O.b (O.d (x.I 1) (O.q (x.L 0) u0 0)) (O.a [.int (lq9 O 0),.int u0]) (s0 [.int (O.s .i64 u0 (lq9 O 1))]))) (O.a [.int (lq9 O 1)]))) [.int (lq9 O 0)]) fun c0=>(O.b (O.aa c0 0) (O.a [.int (O.g c0 1)]) (O.a [.int (lq9 O (-1))])))
def NE:Nat→Env:=eL []
def Df:=oS PQ F6 NE
def L7:List Nat:=[3,0]
def Dz (O:Alg) (x:Ags O):O.M:=(O.c (O.e 279 [] [.rows (x.L 0),.int (x.I 1)]) fun c0=>(O.a [.bool (O.v (lq9 O 0) (O.g c0 0))]))
def FR:Nat→Env:=eL [(279,Df)]
theorem Ib {N ls}:FR N 279 [] ls=Df N ls:=id rfl
def Cs:=oS L7 Dz FR
def Oz:List Nat:=[0,2,1,1,1,1,1,0]
def Fm (O:Alg) (x:Ags O):O.M:=(O.a [.bool (O.i (O.i (O.i (O.d (x.I 7) (O.lit .u8 1)) (x.B 2) O.f) O.k (O.i (O.d (x.I 7) (O.lit .u8 2)) (x.B 3) O.f)) O.k (O.i (O.d (x.I 7) (O.lit .u8 3)) (x.B 4) O.f))])
def Mo:Nat→Env:=eL []
def Dp:=oS Oz Fm Mo
def RS:List Nat:=[0,1]
def HW (O:Alg) (x:Ags O):O.M:=(O.c (O.e 99 [] []) fun c0=>let u5:=(O.p c0 0);let u3:=(O.m u5);(O.c (O.y (fun s1 c1=>let u6:=(O.p c1 0);let u4:=(O.g c1 1);let u2:=(O.q u5 u4 0);let u1:=(O.s .i64 u4 (lq9 O 1));let u0:=(O.ag u6 (O.ac [[.int u2]]));(O.b (O.l u4 u3) (O.j (O.t u4 u3) (O.c (O.e 280 [] (ap O (rr O u5 u4 [0,2,1,1,1,1,1] 0) [.int (x.I 0)])) fun c2=>(O.b (O.i (O.n c2 0) (O.i (O.i (O.i (O.h (x.B 1)) O.k (O.d u2 (O.lit .u8 6))) O.k (O.d u2 (O.lit .u8 7))) O.k (O.d u2 (O.lit .u8 8))) O.f) (O.j (O.r (O.m u0) 1) (s1 [.rows u0,.int u1])) (s1 [.rows u6,.int u1])))) (O.a [.rows u6]))) [.rows O.z,.int (lq9 O 0)]) fun c1=>(O.a [.rows (O.p c1 0)])))
def GA:Nat→Env:=eL [(99,Bi),(280,Dp)]
theorem Le {N ls}:GA N 99 [] ls=Bi N ls:=id rfl
theorem Kg {N ls}:GA N 280 [] ls=Dp N ls:=id rfl
def E7:=oS RS HW GA
def Kt:List Nat:=[0]
def DZ (O:Alg) (x:Ags O):O.M:=(O.a [.bool (O.i (O.v (lq9 O 1) (x.I 0)) (O.v (x.I 0) (lq9 O 11)) O.f)])
def Jk:Nat→Env:=eL []
def Cg:=oS Kt DZ Jk
def MT:List Nat:=[0,0,0,0,0,1,0,0,0,0,1,0,0,2,1,1,1,1,1]
def Ee (O:Alg) (x:Ags O):O.M:=let u0:=(O.d (x.I 9) (lq9 O 0));(O.c (O.e 281 [] [.int (x.I 8)]) fun c0=>(O.b (O.i (O.h (O.ao (x.B 17) (O.n c0 0))) O.k (O.i (O.h (x.B 17)) (O.h (O.d (x.I 8) (lq9 O 0))) O.f)) (O.a [.bool O.f]) (O.c (O.b (O.ad (O.h u0) (O.d (x.I 6) (O.lit .u8 6))) (O.e 281 [] [.int (x.I 9)]) (O.a [.bool O.f])) fun c1=>(O.a [.bool (O.i u0 O.k (O.i (O.i (O.d (x.I 6) (O.lit .u8 6)) (O.n c1 0) O.f) (O.h (O.d (x.I 9) (x.I 8))) O.f))]))))
def GH:Nat→Env:=eL [(281,Cg)]
theorem HG {N ls}:GH N 281 [] ls=Cg N ls:=id rfl
def Cz:=oS MT Ee GH
def Mu:List Nat:=[0,0,0,0,0,1,0,0,0,0,1,0,1]
def Ed (O:Alg) (x:Ags O):O.M:=let u0:=(lq9 O 0);(O.b (O.d (x.I 6) (O.lit .u8 0)) (O.b (O.h (O.d (x.I 7) u0)) (O.a [.int (lq9 O 14)]) (O.b (O.i (O.i (O.h (O.d (x.I 8) u0)) O.k (O.h (O.d (x.I 9) u0))) O.k (x.B 10)) (O.a [.int (lq9 O 15)]) (O.a [.int u0]))) (O.c (O.e 75 [] [.int (x.I 6)]) fun c0=>(O.c (O.e 277 [] [.int (x.I 0),.bool (x.B 12)]) fun c1=>(O.c (O.e 276 [] [.rows (O.p c1 0),.int (x.I 6)]) fun c2=>(O.b (O.h (O.n c2 0)) (O.a [.int (lq9 O 13)]) (O.b (O.i (O.h (O.i (O.d (x.I 6) (O.lit .u8 6)) O.k (O.d (x.I 6) (O.lit .u8 8)))) (O.i (O.h (O.d (x.I 1) (O.lit .u8 0))) O.k (O.h (O.d (x.I 2) u0))) O.f) (O.a [.int (lq9 O 12)]) (O.b (O.i (O.h (O.d (x.I 7) (lq9 O 1))) (O.i (O.h (O.d (x.I 7) (lq9 O 2))) O.k (O.h (O.n c0 6))) O.f) (O.a [.int (lq9 O 14)]) (O.c (O.e 278 [] (ap O (xr x [0,0,0,0,0,1,0,0,0,0,1,0] 0) (cr O c0 [0,2,1,1,1,1,1] 0))) fun c3=>(O.b (O.h (O.n c3 0)) (O.a [.int (lq9 O 15)]) (O.b (O.i (O.i (x.B 10) (O.h (O.d (x.I 6) (O.lit .u8 2))) O.f) (O.h (O.d (x.I 6) (O.lit .u8 6))) O.f) (O.a [.int (lq9 O 18)]) (O.a [.int u0])))))))))))
def B5:Nat→Env:=eL [(75,Cr),(276,Cs),(277,E7),(278,Cz)]
theorem Kp {N ls}:B5 N 75 [] ls=Cr N ls:=id rfl
theorem Hj {N ls}:B5 N 276 [] ls=Cs N ls:=id rfl
theorem KF {N ls}:B5 N 277 [] ls=E7 N ls:=id rfl
theorem Hy {N ls}:B5 N 278 [] ls=Cz N ls:=id rfl
def C1:=oS Mu Ed B5
def V3:List Nat:=[0,0,0,0,0,0,0,0,0,0,0,0,0,0,3,0,3,3,1,3,1,0,0,0,3,0,0,0,0,0,0,0,0,1,0,0,0,0,1,0]
def K9 (O:Alg) (x:Ags O):O.M:=let u1:=(lq9 O 1);let u0:=(lq9 O 0);(O.c (O.b (O.l u0 (x.I 36)) (O.c (O.e 246 [] (ap O (xr x kI 0) [.int (x.I 36)])) fun c0=>(O.b (O.h (O.n c0 0)) (O.a [.int u1,.int (lq9 O 3)]) (O.c (O.e 247 [] (ap O (xr x kI 0) [.int (x.I 36)])) fun c1=>(O.b (O.h (O.ao (x.B 38) (O.n c1 0))) (O.a [.int u1,.int (lq9 O 18)]) (O.a [.int u0]))))) (O.a [.int u0])) fun c0=>(O.b (O.aa c0 0) (O.c (O.b (O.l u0 (x.I 37)) (O.c (O.e 246 [] (ap O (xr x kI 0) [.int (x.I 37)])) fun c1=>(O.b (O.h (O.n c1 0)) (O.a [.int u1,.int (lq9 O 3)]) (O.c (O.e 247 [] (ap O (xr x kI 0) [.int (x.I 37)])) fun c2=>(O.b (O.n c2 0) (O.a [.int u1,.int (lq9 O 18)]) (O.a [.int u0]))))) (O.a [.int u0])) fun c1=>(O.b (O.aa c1 0) (O.b (O.i (O.d (x.I 34) (O.lit .u8 4)) (O.h (O.d (O.ai (O.l (x.I 36) u0) u0 (x.I 36)) (x.I 22))) O.f) (O.a [.int (lq9 O 17)]) (O.a [.int u0])) (O.a [.int (O.g c1 1)]))) (O.a [.int (O.g c0 1)])))
def Ie:Nat→Env:=eL [(246,A6),(247,A4)]
theorem QT {N ls}:Ie N 246 [] ls=A6 N ls:=id rfl
theorem OK {N ls}:Ie N 247 [] ls=A4 N ls:=id rfl
def Hx:=oS V3 K9 Ie
def QF:List Nat:=[2,0,0,0,0,0,0,0,1,0,0,0,0,3,0,0,0,0,0,0,0,0,0,0,0,0,0,0,3,0,3,3,1,3,1,0,0,0,3,0,0,0,0,0,0,0,0,1,0,0,0,0,1,0]
def GV (O:Alg) (x:Ags O):O.M:=let u3:=(lq9 O 0);(O.c (O.e 217 [] (xr x kI 14)) fun c0=>(O.b (O.n c0 0) (O.a [.int (lq9 O 6)]) (O.b (O.d (x.I 29) u3) (O.a [.int (lq9 O 7)]) (O.c (O.e 265 [] (xr x [2,0,0,0,0,0,0,0,1,0,0,0,0,3,0,0,0,0,0,0,0,0,0,0,0,0,0,0,3,0,3,3,1,3,1,0,0,0,3,0,0,0] 0)) fun c1=>(O.c (O.e 87 [] (xr x [0,0,0,0,0,1,0,0,0,0,1,0] 42)) fun c2=>(O.c (O.e 266 [] (ap O (xr x [0,0,0,0,0,1,0,0,0,0,1,0] 42) [.bool (x.B 34)])) fun c3=>(O.c (O.e 267 [] (xr x [0,0,0,0,0,0,0,0,0,0,0,0,0,0,3,0,3,3,1,3,1,0,0,0,3,0,0,0,0,0,0,0,0,1,0,0,0,0,1,0] 14)) fun c4=>let u2:=(O.ac [[.int (O.g c1 0)],[.int (O.g c2 0)],[.int (O.g c3 0)],[.int (O.g c4 0)]]);let u1:=(O.m u2);(O.c (O.y (fun s5 c5=>let u4:=(O.g c5 0);let u0:=(O.q u2 u4 0);(O.b (O.l u4 u1) (O.j (O.t u4 u1) (O.b (O.h (O.d u0 u3)) (O.a [.int u3,.int u0]) (s5 [.int (O.s .i64 u4 (lq9 O 1))]))) (O.a [.int (lq9 O 1)]))) [.int u3]) fun c5=>(O.b (O.aa c5 0) (O.a [.int (O.g c5 1)]) (O.a [.int u3]))))))))))
def B8:Nat→Env:=eL [(87,CE),(217,BO),(265,IC),(266,C1),(267,Hx)]
theorem Lr {N ls}:B8 N 87 [] ls=CE N ls:=id rfl
theorem MF {N ls}:B8 N 217 [] ls=BO N ls:=id rfl
theorem NQ {N ls}:B8 N 265 [] ls=IC N ls:=id rfl
theorem JX {N ls}:B8 N 266 [] ls=C1 N ls:=id rfl
theorem NV {N ls}:B8 N 267 [] ls=Hx N ls:=id rfl
def EN:=oS QF GV B8
def Wn:List Nat:=[0,0,0,0,0,0,0,0,0,0,0,0,0,0,3,0,3,3,1,3,1,0,0,0,3,0,0,0,0,0,0,0,0,1,0,0,0,0,1,0]
def M8 (O:Alg) (x:Ags O):O.M:=let u5:=(lq9 O 2);let u4:=(lq9 O 1);let u3:=(lq9 O 0);let u1:=(O.h (O.d (O.an .i64 (x.I 30) u5) u3));(O.c (O.e 234 [] (xr x kI 0)) fun c0=>(O.c (O.b (O.h (O.d (x.I 34) (O.lit .u8 0))) (O.b (O.i (O.d (x.I 35) u4) (O.h (O.d (x.I 12) u3)) O.f) (O.a [.int u4,.int (x.I 12)]) (O.b (O.i (O.d (x.I 35) u5) (O.h (O.d (x.I 13) u3)) O.f) (O.a [.int u5,.int (x.I 13)]) (O.a [.int u3,.int u3]))) (O.a [.int u3,.int u3])) fun c1=>let u7:=(O.g c1 1);let u2:=(O.x .i64 u7 u4);(O.c (O.b (x.B 33) (O.a [.bool (O.h u1)]) (O.a [.bool u1])) fun c2=>(O.c (O.b (O.n c2 0) (O.a (ap O (cr O c0 [0,0,0,0,0,0,0,0,0,0,0,0] 0) (ap O [.int (O.g c0 13),.int (O.g c0 12)] (cr O c0 [3,0,3,3,1,3,1,0,0,0,3,0,0,0] 14)))) (O.a (cr O c0 kI 0))) fun c3=>let u6:=(O.p c3 14);let u0:=(O.t u2 (O.m u6));(O.b (O.d (O.g c1 0) u3) (O.a (cr O c3 kI 0)) (O.b (O.h (O.ao (O.d (O.g c1 0) u4) (O.n c2 0))) (O.c (O.e 236 [] (ap O (cr O c3 [0,0,0,0,0,0,0,0,0,0,0,0] 0) (ap O [.int u3] (ap O (cr O c3 [0,3,0,3,3,1,3,1,0,0,0,3,0,0,0] 13) [.int u7])))) fun c4=>(O.c (O.b (O.n c4 0) (O.j u0 (O.a (ap O (cr O c3 [0,0,0,0,0,0,0,0,0,0,0,0] 0) (ap O [.int u3,.int (O.g c3 13),.rows (O.ae u6 u2 0 [.int (O.lit .u8 2)])] (cr O c3 [0,3,3,1,3,1,0,0,0,3,0,0,0] 15))))) (O.a (ap O (cr O c3 [0,0,0,0,0,0,0,0,0,0,0,0] 0) (ap O [.int u3] (cr O c3 [0,3,0,3,3,1,3,1,0,0,0,3,0,0,0] 13))))) fun c5=>(O.a (ap O (cr O c5 [0,0,0,0] 0) (ap O [.int (O.s .i64 (O.g c5 4) u4)] (cr O c5 [0,0,0,0,0,0,0,0,0,3,0,3,3,1,3,1,0,0,0,3,0,0,0] 5)))))) (O.c (O.e 236 [] (ap O (cr O c3 [0,0,0,0,0,0,0,0,0,0,0,0,0] 0) (ap O [.int u3] (ap O (cr O c3 [3,0,3,3,1,3,1,0,0,0,3,0,0,0] 14) [.int u7])))) fun c4=>(O.c (O.b (O.n c4 0) (O.j u0 (O.a (ap O (cr O c3 [0,0,0,0,0,0,0,0,0,0,0,0,0] 0) (ap O [.int u3,.rows (O.ae u6 u2 0 [.int (O.lit .u8 2)])] (cr O c3 [0,3,3,1,3,1,0,0,0,3,0,0,0] 15))))) (O.a (ap O (cr O c3 [0,0,0,0,0,0,0,0,0,0,0,0,0] 0) (ap O [.int u3] (cr O c3 [3,0,3,3,1,3,1,0,0,0,3,0,0,0] 14))))) fun c5=>(O.a (ap O (cr O c5 [0,0,0,0] 0) (ap O [.int (O.s .i64 (O.g c5 4) u4)] (cr O c5 [0,0,0,0,0,0,0,0,0,3,0,3,3,1,3,1,0,0,0,3,0,0,0] 5))))))))))))
def Jr:Nat→Env:=eL [(234,Ay),(236,A0)]
theorem SJ {N ls}:Jr N 234 [] ls=Ay N ls:=id rfl
theorem QQ {N ls}:Jr N 236 [] ls=A0 N ls:=id rfl
def Jm:=oS Wn M8 Jr
def XX:List Nat:=[2,0,0,0,0,0,0,0,1,0,0,0,0,3,0,0,0,0,0,0,0,0,0,0,0,0,0,0,3,0,3,3,1,3,1,0,0,0,3,0,0,0,1]
def Mr (O:Alg) (x:Ags O):O.M:=let u5:=(lq9 O 0);let u4:=(lq9 O 1);let u2:=(O.x .i64 (x.I 29) u4);(O.c (O.e 237 [] (xr x kI 14)) fun c0=>let u1:=(O.ag (O.p c0 16) (O.ac [[.int (x.I 29)]]));(O.c (O.e 263 [] (ap O (xr x kI 14) [.int (x.I 29)])) fun c1=>let u3:=(O.h (O.n c1 0));(O.c (O.b (O.h u3) (O.e 61 [] (xr x kR 0)) (O.a [.int u5])) fun c2=>(O.b (O.i u3 O.k (O.h (O.d (O.g c2 0) u5))) (O.a (ap O (cr O c0 kI 0) [.bool O.f])) (O.c (O.e 184 [] [.rows (O.p c0 16),.int (x.I 29)]) fun c3=>(O.c (O.b (O.h (O.n c3 0)) (O.j (O.r (O.m u1) 8) (O.a (ap O (cr O c0 [0,0,0,0,0,0,0,0,0,0,0,0,0,0,3,0] 0) (ap O [.rows u1] (cr O c0 [3,1,3,1,0,0,0,3,0,0,0] 17))))) (O.a (cr O c0 kI 0))) fun c4=>let u6:=(O.p c4 19);let u0:=(O.t u2 (O.m u6));(O.c (O.b (x.B 42) (O.j u0 (O.j u0 (O.a (ap O (cr O c4 [0,0,0,0,0,0,0,0,0,0,0] 0) (ap O [.int (O.s .i64 (O.g c4 11) u4)] (ap O (cr O c4 [0,0,3,0,3,3,1] 12) (ap O [.rows (O.ae u6 u2 0 [.int (O.s .i64 (O.q u6 u2 0) u4)]),.bool (O.n c4 20),.int (O.s .i64 (O.g c4 21) u4)] (cr O c4 [0,0,3,0,0,0] 22)))))))) (O.a (cr O c4 kI 0))) fun c5=>(O.b (O.l (O.g c5 11) (x.I 4)) (O.a (ap O (cr O c5 kI 0) [.bool O.f])) (O.a (ap O (cr O c5 [0,0,0,0,0,0,0,0,0,0] 0) (ap O [.int (O.s .i64 (O.g c5 10) u4),.int u5] (ap O (cr O c5 [0,0,3] 12) (ap O [.int u5,.rows O.z,.rows (O.p c5 16)] (ap O (cr O c5 [1,3,1,0,0,0,3,0,0,0] 18) [.bool O.k]))))))))))))))
def Em:Nat→Env:=eL [(61,AQ),(184,Aq),(237,Cd),(263,Bx)]
theorem Rh {N ls}:Em N 61 [] ls=AQ N ls:=id rfl
theorem Lq {N ls}:Em N 184 [] ls=Aq N ls:=id rfl
theorem TF {N ls}:Em N 237 [] ls=Cd N ls:=id rfl
theorem Re {N ls}:Em N 263 [] ls=Bx N ls:=id rfl
def JN:=oS XX Mr Em
def Sl:List Nat:=[0,0,0,0,0,0,0,0,0,0,0,0,0,0,3,0,3,3,1,3,1,0,0,0,3,0,0,0]
def I5 (O:Alg) (x:Ags O):O.M:=(O.c (O.e 234 [] (xr x kI 0)) fun c0=>(O.a (ap O (cr O c0 [0,0,0,0,0,0,0,0,0,0,0,0] 0) (ap O [.int (x.I 13),.int (x.I 12)] (cr O c0 [3,0,3,3,1,3,1,0,0,0,3,0,0,0] 14)))))
def KU:Nat→Env:=eL [(234,Ay)]
theorem Pa {N ls}:KU N 234 [] ls=Ay N ls:=id rfl
def Fx:=oS Sl I5 KU
def UN:List Nat:=[2,0,0,0,0,0,0,0,1,0,0,0,0,3,0,0,0,0,0,0,0,0,0,0,0,0,0,0,3,0,3,3,1,3,1,0,0,0,3,0,0,0,0,0,0,0,0,1,0,0,0,0,1,0]
def J4 (O:Alg) (x:Ags O):O.M:=let u0:=(lq9 O 0);(O.c (O.e 239 [] (xr x [2,0,0,0,0,0,0,0,1,0,0,0,0,3,0,0,0,0,0,0,0,0,0,0,0,0,0,0,3,0,3,3,1,3,1,0,0,0,3,0,0,0,0,0,0,0,0,1,0,0,0,0,1,0] 0)) fun c0=>(O.b (O.h (O.d (O.g c0 0) u0)) (O.c (O.e 134 [] (xr x kI 14)) fun c1=>(O.a (ap O (cr O c1 kI 0) [.int (O.g c0 0)]))) (O.c (O.e 57 [] (ap O (xr x kR 0) (xr x [0,0,0,0,0,1,0,0,0,0,1,0] 42))) fun c1=>(O.c (O.e 240 [] (xr x [0,0,0,0,0,0,0,0,0,0,0,0,0,0,3,0,3,3,1,3,1,0,0,0,3,0,0,0,0,0,0,0,0,1,0,0,0,0,1,0] 14)) fun c2=>(O.c (O.e 58 [] (cr O c1 [0,0,0,0,0,0,1,1,1,1] 0)) fun c3=>(O.c (O.e 241 [] (ap O (xr x kR 0) (ap O (cr O c2 [0,0,0] 0) (ap O [.int (O.s .i64 (O.g c2 3) (O.g c3 0)),.int (O.g c2 4),.int (O.s .i64 (O.g c2 5) (O.g c1 1)),.int (O.s .i64 (O.g c2 6) (O.g c1 2)),.int (O.s .i64 (O.g c2 7) (O.g c1 3)),.int (O.s .i64 (O.g c2 8) (O.g c1 4))] (ap O (cr O c2 [0,0,0,0,0,3,0,3,3,1,3,1,0,0,0,3,0,0,0] 9) [.bool (O.n c1 6)]))))) fun c4=>(O.c (O.b (O.n c4 28) (O.c (O.e 242 [] (cr O c4 kI 0)) fun c5=>(O.a (cr O c5 kI 0))) (O.a (cr O c4 kI 0))) fun c5=>(O.b (O.d (x.I 42) (O.lit .u8 1)) (O.a (ap O (cr O c5 [0,0,0,0,0,0,0,0,0,0,0,0,0,0,3,0,3,3,1,3] 0) (ap O [.bool O.f] (ap O (cr O c5 [0,0,0,3,0,0,0] 21) [.int u0])))) (O.b (O.i (O.d (x.I 42) (O.lit .u8 3)) (x.B 8) O.f) (O.a (ap O (cr O c5 [0,0,0,0,0,0,0,0,0,0,0,0,0,0,3,0,3,3,1,3] 0) (ap O [.bool O.k] (ap O (cr O c5 [0,0,0,3,0,0,0] 21) [.int u0])))) (O.a (ap O (cr O c5 kI 0) [.int u0])))))))))))
def Bt:Nat→Env:=eL [(57,B6),(58,E1),(134,AP),(239,EN),(240,Jm),(241,JN),(242,Fx)]
theorem M7 {N ls}:Bt N 57 [] ls=B6 N ls:=id rfl
theorem NS {N ls}:Bt N 58 [] ls=E1 N ls:=id rfl
theorem OE {N ls}:Bt N 134 [] ls=AP N ls:=id rfl
theorem M2 {N ls}:Bt N 239 [] ls=EN N ls:=id rfl
theorem QL {N ls}:Bt N 240 [] ls=Jm N ls:=id rfl
theorem Qd {N ls}:Bt N 241 [] ls=JN N ls:=id rfl
theorem N7 {N ls}:Bt N 242 [] ls=Fx N ls:=id rfl
def Gx:=oS UN J4 Bt
def XW:List Nat:=[0,0,0,0,0,0,0,0,0,0,0,0,0,0,3,0,3,3,1,3,1,0,0,0,3,0,0,0,0]
def Mt (O:Alg) (x:Ags O):O.M:=let u2:=(O.x .i64 (x.I 28) (lq9 O 1));let u1:=(O.q (x.L 14) u2 0);let u0:=(O.t u2 (O.m (x.L 14)));(O.c (O.e 236 [] (xr x [0,0,0,0,0,0,0,0,0,0,0,0,0,0,3,0,3,3,1,3,1,0,0,0,3,0,0,0,0] 0)) fun c0=>(O.b (O.h (O.n c0 0)) (O.a [.int (lq9 O 3)]) (O.c (O.e 217 [] (xr x kI 0)) fun c1=>let u3:=(O.h (O.n c1 0));(O.j (O.h (O.ad (O.h u3) (O.h u0))) (O.b (O.i u3 O.k (O.d u1 (O.lit .u8 1))) (O.a [.int (lq9 O 4)]) (O.j u0 (O.b (O.d u1 (O.lit .u8 2)) (O.a [.int (lq9 O 5)]) (O.a [.int (lq9 O 0)]))))))))
def Jv:Nat→Env:=eL [(217,BO),(236,A0)]
theorem Pl {N ls}:Jv N 217 [] ls=BO N ls:=id rfl
theorem QN {N ls}:Jv N 236 [] ls=A0 N ls:=id rfl
def Dh:=oS XW Mt Jv
def R9:List Nat:=[0,0,0,0,0,0,0,0,0,0,0,0,0,0,3,0,3,3,1,3,1,0,0,0,3,0,0,0,0]
def He (O:Alg) (x:Ags O):O.M:=let u0:=(O.x .i64 (x.I 28) (lq9 O 1));(O.c (O.e 234 [] (xr x kI 0)) fun c0=>(O.c (O.e 243 [] (xr x [0,0,0,0,0,0,0,0,0,0,0,0,0,0,3,0,3,3,1,3,1,0,0,0,3,0,0,0,0] 0)) fun c1=>(O.b (O.h (O.d (O.g c1 0) (lq9 O 0))) (O.a (ap O (cr O c0 kI 0) [.int (O.g c1 0)])) (O.c (O.e 236 [] (ap O (cr O c0 kI 0) [.int (x.I 28)])) fun c2=>(O.c (O.b (O.n c2 0) (O.j (O.t u0 (O.m (O.p c0 14))) (O.a (ap O (cr O c0 [0,0,0,0,0,0,0,0,0,0,0,0,0,0] 0) (ap O [.rows (O.ae (O.p c0 14) u0 0 [.int (O.lit .u8 2)])] (cr O c0 [0,3,3,1,3,1,0,0,0,3,0,0,0] 15))))) (O.a (cr O c0 kI 0))) fun c3=>(O.a (ap O (cr O c3 [0,0,0,0] 0) (ap O [.int (O.s .i64 (O.g c3 4) (lq9 O 1))] (ap O (cr O c3 [0,0,0,0,0,0,0,0,0,3,0,3,3,1,3,1,0,0,0,3,0,0,0] 5) [.int (lq9 O 0)])))))))))
def Ds:Nat→Env:=eL [(234,Ay),(236,A0),(243,Dh)]
theorem PH {N ls}:Ds N 234 [] ls=Ay N ls:=id rfl
theorem NX {N ls}:Ds N 236 [] ls=A0 N ls:=id rfl
theorem PJ {N ls}:Ds N 243 [] ls=Dh N ls:=id rfl
def E9:=oS R9 He Ds
def Tl:List Nat:=[0,0,0,0,0,0,0,0,0,0,0,0,0,0,3,0,3,3,1,3,1,0,0,0,3,0,0,0,0]
def Jp (O:Alg) (x:Ags O):O.M:=let u1:=(lq9 O 0);let u0:=(O.x .i64 (x.I 28) (lq9 O 1));(O.c (O.e 234 [] (xr x kI 0)) fun c0=>let u2:=(O.p c0 14);(O.c (O.e 243 [] (xr x [0,0,0,0,0,0,0,0,0,0,0,0,0,0,3,0,3,3,1,3,1,0,0,0,3,0,0,0,0] 0)) fun c1=>(O.b (O.h (O.d (O.g c1 0) u1)) (O.a (ap O (cr O c0 kI 0) [.int (O.g c1 0)])) (O.j (O.t u0 (O.m u2)) (O.b (O.d (O.g c0 12) u1) (O.a (ap O (cr O c0 [0,0,0,0,0,0,0,0,0,0,0,0] 0) (ap O [.int (x.I 28),.int (O.g c0 13),.rows (O.ae u2 u0 0 [.int (O.lit .u8 1)])] (ap O (cr O c0 [0,3,3,1,3,1,0,0,0,3,0,0,0] 15) [.int u1])))) (O.a (ap O (cr O c0 [0,0,0,0,0,0,0,0,0,0,0,0,0] 0) (ap O [.int (x.I 28),.rows (O.ae u2 u0 0 [.int (O.lit .u8 1)])] (ap O (cr O c0 [0,3,3,1,3,1,0,0,0,3,0,0,0] 15) [.int u1])))))))))
def Ht:Nat→Env:=eL [(234,Ay),(243,Dh)]
theorem Qq {N ls}:Ht N 234 [] ls=Ay N ls:=id rfl
theorem Qa {N ls}:Ht N 243 [] ls=Dh N ls:=id rfl
def Gu:=oS Tl Jp Ht
def Vh:List Nat:=[0,0,0,0,0,0,0,0,0,0,0,0,0,0,3,0,3,3,1,3,1,0,0,0,3,0,0,0]
def Fa (O:Alg) (x:Ags O):O.M:=(O.c (O.y (fun s0 c0=>let u4:=(O.p c0 0);let u3:=(O.g c0 1);let u2:=(O.q (x.L 14) u3 0);let u1:=(O.s .i64 u3 (lq9 O 1));let u0:=(O.ag u4 (O.ac [[.int u1]]));(O.b (O.l u3 (O.m (x.L 14))) (O.j (O.t u3 (O.m (x.L 14))) (O.b (O.i (O.d u2 (O.lit .u8 0)) O.k (O.d u2 (O.lit .u8 3))) (O.j (O.r (O.m u0) 8) (s0 [.rows u0,.int u1])) (s0 [.rows u4,.int u1]))) (O.a [.rows u4]))) [.rows O.z,.int (lq9 O 0)]) fun c0=>(O.a [.rows (O.p c0 0)]))
def Mz:Nat→Env:=eL []
def Ck:=oS Vh Fa Mz
def Sz:List Nat:=[0,0,0,0,0,0,0,0,0,0,0,0,0,0,3,0,3,3,1,3,1,0,0,0,3,0,0,0,0,1]
def Ix (O:Alg) (x:Ags O):O.M:=let u3:=(lq9 O 0);let u2:=(O.d (x.I 28) (x.I 12));let u1:=(O.x .i64 (x.I 28) (lq9 O 1));(O.c (O.e 234 [] (xr x kI 0)) fun c0=>(O.c (O.e 236 [] (xr x [0,0,0,0,0,0,0,0,0,0,0,0,0,0,3,0,3,3,1,3,1,0,0,0,3,0,0,0,0] 0)) fun c1=>(O.b (O.h (O.n c1 0)) (O.a (ap O (cr O c0 kI 0) [.int (lq9 O 3)])) (O.b (O.i (O.d (x.I 12) u3) O.k (O.d (x.I 13) u3)) (O.a (ap O (cr O c0 kI 0) [.int (lq9 O 6)])) (O.b (O.i (O.h u2) (O.h (O.d (x.I 28) (x.I 13))) O.f) (O.a (ap O (cr O c0 kI 0) [.int (lq9 O 4)])) (O.c (O.b (x.B 29) (O.e 218 [] (xr x kI 0)) (O.a [.rows O.z])) fun c2=>(O.b (O.i (x.B 29) (O.d (O.m (O.p c2 0)) u3) O.f) (O.a (ap O (cr O c0 kI 0) [.int (lq9 O 19)])) (O.c (O.b u2 (O.a (ap O (cr O c0 [0,0,0,0,0,0,0,0,0,0,0,0] 0) (ap O [.int u3] (cr O c0 [0,3,0,3,3,1,3,1,0,0,0,3,0,0,0] 13)))) (O.a (ap O (cr O c0 [0,0,0,0,0,0,0,0,0,0,0,0,0] 0) (ap O [.int u3] (cr O c0 [3,0,3,3,1,3,1,0,0,0,3,0,0,0] 14))))) fun c3=>let u4:=(O.p c3 14);let u0:=(O.t u1 (O.m u4));(O.b (x.B 29) (O.j u0 (O.a (ap O (cr O c3 [0,0,0,0,0,0,0,0,0,0,0,0,0,0] 0) (ap O [.rows (O.ae u4 u1 0 [.int (O.lit .u8 3)])] (ap O (cr O c3 [0,3,3,1,3,1,0,0,0,3,0,0,0] 15) [.int u3]))))) (O.c (O.e 236 [] (ap O (cr O c3 kI 0) [.int (x.I 28)])) fun c4=>(O.c (O.b (O.n c4 0) (O.j u0 (O.a (ap O (cr O c3 [0,0,0,0,0,0,0,0,0,0,0,0,0,0] 0) (ap O [.rows (O.ae u4 u1 0 [.int (O.lit .u8 2)])] (cr O c3 [0,3,3,1,3,1,0,0,0,3,0,0,0] 15))))) (O.a (cr O c3 kI 0))) fun c5=>(O.a (ap O (cr O c5 [0,0,0,0] 0) (ap O [.int (O.s .i64 (O.g c5 4) (lq9 O 1))] (ap O (cr O c5 [0,0,0,0,0,0,0,0,0,3,0,3,3,1,3,1,0,0,0,3,0,0,0] 5) [.int u3])))))))))))))))
def ER:Nat→Env:=eL [(218,Ck),(234,Ay),(236,A0)]
theorem PM {N ls}:ER N 218 [] ls=Ck N ls:=id rfl
theorem Pr {N ls}:ER N 234 [] ls=Ay N ls:=id rfl
theorem OP {N ls}:ER N 236 [] ls=A0 N ls:=id rfl
def Fo:=oS Sz Ix ER
def Yx:List Nat:=[0,0,0,0,0,0,0,0,0,0,0,0,0,0,3,0,3,3,1,3,1,0,0,0,3,0,0,0]
def Ok (O:Alg) (x:Ags O):O.M:=(O.c (O.e 166 [] [.rows (x.L 14)]) fun c0=>(O.c (O.e 167 [] [.rows (x.L 16)]) fun c1=>(O.c (O.e 167 [] [.rows (x.L 17)]) fun c2=>(O.c (O.e 167 [] [.rows (x.L 19)]) fun c3=>(O.c (O.e 168 [] [.rows (x.L 24)]) fun c4=>(O.a (ap O (xr x [0,0,0,0,0,0,0,0,0,0,0,0,0,0] 0) (ap O [.rows (O.p c0 0),.int (x.I 15),.rows (O.p c1 0),.rows (O.p c2 0),.bool (x.B 18),.rows (O.p c3 0)] (ap O (xr x [1,0,0,0] 20) (ap O [.rows (O.p c4 0)] (xr x [0,0,0] 25)))))))))))
def H0:Nat→Env:=eL [(166,AZ),(167,Ag),(168,Ac)]
theorem ML {N ls}:H0 N 166 [] ls=AZ N ls:=id rfl
theorem OG {N ls}:H0 N 167 [] ls=Ag N ls:=id rfl
theorem NW {N ls}:H0 N 168 [] ls=Ac N ls:=id rfl
def CX:=oS Yx Ok H0
def S5:List Nat:=[0,0,0,0,0,0,0,0,0,0,0,0,0,0,3,0,3,3,1,3,1,0,0,0,3,0,0,0,0]
def I1 (O:Alg) (x:Ags O):O.M:=(O.c (O.e 245 [] (xr x kI 0)) fun c0=>(O.b (O.i (O.l (x.I 28) (lq9 O 0)) O.k (O.l (O.x .i64 (O.m (x.L 24)) (lq9 O 2)) (x.I 28))) (O.a (ap O (cr O c0 kI 0) [.int (lq9 O 16)])) (O.a (ap O (cr O c0 [0,0,0,0,0,0,0,0,0,0,0,0,0,0,3,0,3,3,1,3,1,0,0] 0) (ap O [.int (x.I 28)] (ap O (cr O c0 [3,0,0,0] 24) [.int (lq9 O 0)]))))))
def KL:Nat→Env:=eL [(245,CX)]
theorem Qc {N ls}:KL N 245 [] ls=CX N ls:=id rfl
def Fy:=oS S5 I1 KL
def UP:List Nat:=[0,0,0,0,0,0,0,0,0,0,0,0,0,0,3,0,3,3,1,3,1,0,0,0,3,0,0,0,0]
def KH (O:Alg) (x:Ags O):O.M:=(O.c (O.e 245 [] (xr x kI 0)) fun c0=>(O.c (O.e 246 [] (xr x [0,0,0,0,0,0,0,0,0,0,0,0,0,0,3,0,3,3,1,3,1,0,0,0,3,0,0,0,0] 0)) fun c1=>(O.b (O.h (O.n c1 0)) (O.a (ap O (cr O c0 kI 0) [.int (lq9 O 3)])) (O.c (O.e 247 [] (xr x [0,0,0,0,0,0,0,0,0,0,0,0,0,0,3,0,3,3,1,3,1,0,0,0,3,0,0,0,0] 0)) fun c2=>(O.b (O.n c2 0) (O.a (ap O (cr O c0 kI 0) [.int (lq9 O 18)])) (O.b (O.i (O.d (x.I 28) (x.I 15)) O.k (O.d (x.I 28) (x.I 22))) (O.a (ap O (cr O c0 kI 0) [.int (lq9 O 17)])) (O.a (ap O (cr O c0 [0,0,0,0,0,0,0,0,0,0,0,0,0,0,3,0,3,3,1,3,1,0] 0) (ap O [.int (x.I 28)] (ap O (cr O c0 [0,3,0,0,0] 23) [.int (lq9 O 0)]))))))))))
def E8:Nat→Env:=eL [(245,CX),(246,A6),(247,A4)]
theorem RO {N ls}:E8 N 245 [] ls=CX N ls:=id rfl
theorem Pq {N ls}:E8 N 246 [] ls=A6 N ls:=id rfl
theorem NU {N ls}:E8 N 247 [] ls=A4 N ls:=id rfl
def Gw:=oS UP KH E8
def PE:List Nat:=[0,0,0,0,0,0,0,0,0,0,0,0,0,0,3,0,3,3,1,3,1,0,0,0,3,0,0,0,0,1]
def Fh (O:Alg) (x:Ags O):O.M:=let u2:=(lq9 O 0);let u1:=(O.x .i64 (x.I 28) (lq9 O 1));(O.c (O.e 245 [] (xr x kI 0)) fun c0=>let u0:=(O.ae (O.p c0 24) u1 0 [.bool (x.B 29)]);(O.c (O.e 246 [] (xr x [0,0,0,0,0,0,0,0,0,0,0,0,0,0,3,0,3,3,1,3,1,0,0,0,3,0,0,0,0] 0)) fun c1=>(O.b (O.h (O.n c1 0)) (O.a (ap O (cr O c0 kI 0) [.int (lq9 O 3)])) (O.c (O.e 247 [] (xr x [0,0,0,0,0,0,0,0,0,0,0,0,0,0,3,0,3,3,1,3,1,0,0,0,3,0,0,0,0] 0)) fun c2=>(O.b (O.ao (O.n c2 0) (x.B 29)) (O.a (ap O (cr O c0 kI 0) [.int (lq9 O 18)])) (O.j (O.t u1 (O.m (O.p c0 24))) (O.c (O.b (O.i (x.B 29) (O.d (O.g c0 22) (x.I 28)) O.f) (O.a (ap O (cr O c0 [0,0,0,0,0,0,0,0,0,0,0,0,0,0,3,0,3,3,1,3,1,0] 0) (ap O [.int u2,.int (O.g c0 23),.rows u0] (cr O c0 [0,0,0] 25)))) (O.a (ap O (cr O c0 [0,0,0,0,0,0,0,0,0,0,0,0,0,0,3,0,3,3,1,3,1,0,0,0] 0) (ap O [.rows u0] (cr O c0 [0,0,0] 25))))) fun c3=>(O.b (O.i (x.B 29) (O.d (O.g c3 15) (x.I 28)) O.f) (O.a (ap O (cr O c3 [0,0,0,0,0,0,0,0,0,0,0,0,0,0,3] 0) (ap O [.int u2] (ap O (cr O c3 [3,3,1,3,1,0,0,0,3,0,0,0] 16) [.int u2])))) (O.a (ap O (cr O c3 kI 0) [.int u2]))))))))))
def C3:Nat→Env:=eL [(245,CX),(246,A6),(247,A4)]
theorem Nq {N ls}:C3 N 245 [] ls=CX N ls:=id rfl
theorem Mp {N ls}:C3 N 246 [] ls=A6 N ls:=id rfl
theorem Kc {N ls}:C3 N 247 [] ls=A4 N ls:=id rfl
def De:=oS PE Fh C3
def Sa:List Nat:=[2,0,0,0,0,0,0,0,1,0,0,0,0,3,0,0,0,0,0,0,0,0,0,0,0,0,0,0,3,0,3,3,1,3,1,0,0,0,3,0,0,0]
def Ik (O:Alg) (x:Ags O):O.M:=let u0:=(lq9 O 0);(O.c (O.e 237 [] (xr x kI 14)) fun c0=>(O.c (O.e 61 [] (xr x kR 0)) fun c1=>(O.b (O.i (O.i (O.h (O.d (O.g c1 0) u0)) O.k (O.d (x.I 9) u0)) O.k (O.l (x.I 35) (O.am .i64 (x.I 9) (x.I 4)))) (O.a (ap O (cr O c0 kI 0) [.int (lq9 O 22)])) (O.a (ap O (cr O c0 [0,0,0,0,0,0,0,0,0,0,0,0,0,0,3,0,3,3,1,3,1] 0) (ap O [.int u0] (ap O (cr O c0 [0,0,3,0,0,0] 22) [.int u0])))))))
def GO:Nat→Env:=eL [(61,AQ),(237,Cd)]
theorem PG {N ls}:GO N 61 [] ls=AQ N ls:=id rfl
theorem QR {N ls}:GO N 237 [] ls=Cd N ls:=id rfl
def Fk:=oS Sa Ik GO
def P1:List Nat:=[2,0,0,0,0,0,0,0,1,0,0,0,0,3,0,0,0,0,0,0,0,0,0,0,0,0,0,0,3,0,3,3,1,3,1,0,0,0,3,0,0,0,0,0,0,0,1,0,0,0,0,0,0,0,1,0,0,0,0,1,0]
def GR (O:Alg) (x:Ags O):O.M:=(O.c (O.e 134 [] (xr x kI 14)) fun c0=>(O.b (O.h (O.d (x.I 43) (x.I 14))) (O.a (ap O (cr O c0 kI 0) [.int (lq9 O 2)])) (O.b (O.h (O.d (x.I 3) (lq9 O 0))) (O.a (ap O (cr O c0 kI 0) [.int (lq9 O 20)])) (O.a (ap O (cr O c0 [0,0,0,0,0,0,0,0,0,0,0,0,0,0,3,0,3,3,1,3,1,0,0,0,3,0,0] 0) [.int (O.lit .u8 4),.int (lq9 O 0)])))))
def IY:Nat→Env:=eL [(134,AP)]
theorem MD {N ls}:IY N 134 [] ls=AP N ls:=id rfl
def EW:=oS P1 GR IY
def P3:List Nat:=[0,0,0,0,0,0,0,0,0,0,0,0,0,0,3,0,3,3,1,3,1,0,0,0,3,0,0,0]
def GZ (O:Alg) (x:Ags O):O.M:=(O.c (O.e 134 [] (xr x kI 0)) fun c0=>(O.a (ap O (cr O c0 [0,0,0] 0) (ap O [.int (O.s .i64 (O.g c0 3) (lq9 O 5))] (ap O (cr O c0 [0,0,0,0,0] 4) (ap O [.int (O.s .i64 (O.g c0 9) (lq9 O 5))] (cr O c0 [0,0,0,0,3,0,3,3,1,3,1,0,0,0,3,0,0,0] 10)))))))
def Id:Nat→Env:=eL [(134,AP)]
theorem MH {N ls}:Id N 134 [] ls=AP N ls:=id rfl
def B7:=oS P3 GZ Id
def QA:List Nat:=[0,0,0,0,0,0,0,0,0,0,0,0,0,0,3,0,3,3,1,3,1,0,0,0,3,0,0,0,0,0,0,0,1,0,0,0,0,0,0,0,1,0,0,0,0,1,0]
def GP (O:Alg) (x:Ags O):O.M:=let u0:=(lq9 O 0);(O.c (O.e 134 [] (xr x kI 0)) fun c0=>(O.b (O.h (O.d (x.I 33) (lq9 O 5))) (O.a (ap O (cr O c0 kI 0) [.int (lq9 O 23)])) (O.b (O.d (x.I 29) (x.I 0)) (O.c (O.e 191 [] (xr x kI 0)) fun c1=>(O.a (ap O (cr O c1 kI 0) [.int u0]))) (O.b (O.l u0 (O.g c0 1)) (O.a (ap O [.int (O.g c0 0),.int (O.s .i64 (O.g c0 1) (lq9 O 5))] (ap O (cr O c0 [0,0,0,0,0,0,0,0,0,0,0,0,3,0,3,3,1,3,1,0,0,0,3,0,0,0] 2) [.int u0]))) (O.a (ap O (cr O c0 kI 0) [.int u0]))))))
def FH:Nat→Env:=eL [(134,AP),(191,B7)]
theorem ME {N ls}:FH N 134 [] ls=AP N ls:=id rfl
theorem Kf {N ls}:FH N 191 [] ls=B7 N ls:=id rfl
def EU:=oS QA GP FH
def RU:List Nat:=[2,0,0,0,0,0,0,0,1,0,0,0,0,3,0,0,0,0,0,0,0,0,0,0,0,0,0,0,3,0,3,3,1,3,1,0,0,0,3,0,0,0,0,0,0,0,1,0,0,0,0,0,0,0,1,0,0,0,0,1,0]
def Er (O:Alg) (x:Ags O):O.M:=let u5:=(lq9 O 0);let u4:=(lq9 O 1);let u3:=(O.x .i64 (x.I 43) u4);let u2:=(O.t u3 (lq9 O 2));let u1:=(O.d u3 u4);(O.c (O.e 134 [] (xr x kI 14)) fun c0=>let u0:=(O.s .i64 (O.ai u1 (O.g c0 26) (O.g c0 25)) u4);(O.j (O.h (O.ad (O.h (O.h (x.B 32))) (O.h u2))) (O.b (O.i (O.h (x.B 32)) O.k (O.v (x.I 11) (O.ai u1 (x.I 40) (x.I 39)))) (O.a (ap O (cr O c0 kI 0) [.int (lq9 O 24)])) (O.b (O.h (x.B 46)) (O.j u2 (O.j u2 (O.a (ap O (cr O c0 [0,0,0,0,0,0,0,0,0,0,0,0,0,0,3,0,3,3,1,3,1,0,0,0,3] 0) [.int (O.ai (O.d u3 u5) u0 (O.g c0 25)),.int (O.ai u1 u0 (O.g c0 26)),.int (O.g c0 27),.int u5])))) (O.a (ap O (cr O c0 kI 0) [.int u5]))))))
def Jb:Nat→Env:=eL [(134,AP)]
theorem Fu {N ls}:Jb N 134 [] ls=AP N ls:=id rfl
def E2:=oS RU Er Jb
def S4:List Nat:=[2,0,0,0,0,0,0,0,1,0,0,0,0,3,0,0,0,0,0,0,0,0,0,0,0,0,0,0,3,0,3,3,1,3,1,0,0,0,3,0,0,0]
def SX (O:Alg) (x:Ags O):O.M:=(O.a [.int (O.s .i64 (O.am .i64 (x.I 24) (x.I 4)) (x.I 25))])
def YU:Nat→Env:=eL []
def F7:=oS S4 SX YU
def RV:List Nat:=[2,0,0,0,0,0,0,0,1,0,0,0,0,3,0,0,0,0,0,0,0,0,0,0,0,0,0,0,3,0,3,3,1,3,1,0,0,0,3,0,0,0,0,0,0,0,1,0,0,0,0,0,0,0,1,0,0,0,0,1,0]
def HZ (O:Alg) (x:Ags O):O.M:=let u4:=(lq9 O 0);let u3:=(lq9 O 25);let u2:=(O.l (x.I 3) (x.I 48));let u1:=(O.l u4 (x.I 47));let u0:=(O.l u4 (x.I 48));(O.c (O.e 134 [] (xr x kI 14)) fun c0=>(O.b (O.i (O.d (x.I 3) u4) O.k (O.i (O.d (x.I 47) u4) (O.d (x.I 48) u4) O.f)) (O.a (ap O (cr O c0 kI 0) [.int u3])) (O.b (O.i u1 (O.i (O.d (x.I 15) u4) O.k (O.v (x.I 47) (x.I 17))) O.f) (O.a (ap O (cr O c0 kI 0) [.int u3])) (O.c (O.b (O.ad u0 (O.h u2)) (O.e 248 [] (xr x [2,0,0,0,0,0,0,0,1,0,0,0,0,3,0,0,0,0,0,0,0,0,0,0,0,0,0,0,3,0,3,3,1,3,1,0,0,0,3,0,0,0] 0)) (O.a [.int u4])) fun c1=>(O.b (O.i u0 (O.i u2 O.k (O.l (O.am .i64 (x.I 48) (x.I 4)) (O.g c1 0))) O.f) (O.a (ap O (cr O c0 kI 0) [.int u3])) (O.c (O.b u1 (O.a (ap O [.int (O.g c0 0),.int (x.I 47)] (cr O c0 [0,0,0,0,0,0,0,0,0,0,0,0,3,0,3,3,1,3,1,0,0,0,3,0,0,0] 2))) (O.a (cr O c0 kI 0))) fun c2=>(O.b u0 (O.a (ap O [.int (O.g c2 0),.int (O.g c2 1),.int (x.I 48)] (ap O (cr O c2 [0,0,0,0,0,0,0,0,0,0,0,3,0,3,3,1,3,1,0,0,0,3,0,0,0] 3) [.int u4]))) (O.a (ap O (cr O c2 kI 0) [.int u4])))))))))
def F8:Nat→Env:=eL [(134,AP),(248,F7)]
theorem NA {N ls}:F8 N 134 [] ls=AP N ls:=id rfl
theorem MX {N ls}:F8 N 248 [] ls=F7 N ls:=id rfl
def E4:=oS RV HZ F8
def P0:List Nat:=[2,0,0,0,0,0,0,0,1,0,0,0,0,3,0,0,0,0,0,0,0,0,0,0,0,0,0,0,3,0,3,3,1,3,1,0,0,0,3,0,0,0,0,0,0,0,1,0,0,0,0,0,0,0,1,0,0,0,0,1,0]
def EL (O:Alg) (x:Ags O):O.M:=(O.b (O.d (x.I 42) (O.lit .u8 2)) (O.c (O.e 203 [] (ap O (xr x kI 14) [.int (x.I 44),.int (x.I 45)])) fun c0=>(O.a (cr O c0 [0,0,0,0,0,0,0,0,0,0,0,0,0,0,3,0,3,3,1,3,1,0,0,0,3,0,0,0,0] 0))) (O.b (O.d (x.I 42) (O.lit .u8 3)) (O.c (O.e 204 [] (ap O (xr x [2,0,0,0,0,0,0,0,1,0,0,0,0,3,0,0,0,0,0,0,0,0,0,0,0,0,0,0,3,0,3,3,1,3,1,0,0,0,3,0,0,0] 0) [.int (x.I 44)])) fun c0=>(O.a (cr O c0 [0,0,0,0,0,0,0,0,0,0,0,0,0,0,3,0,3,3,1,3,1,0,0,0,3,0,0,0,0] 0))) (O.b (O.d (x.I 42) (O.lit .u8 4)) (O.c (O.e 205 [] (ap O (xr x [2,0,0,0,0,0,0,0,1,0,0,0,0,3,0,0,0,0,0,0,0,0,0,0,0,0,0,0,3,0,3,3,1,3,1,0,0,0,3,0,0,0] 0) (xr x [0,0,0,0,0,1,0,0,0,0,1,0] 49))) fun c0=>(O.a (cr O c0 [0,0,0,0,0,0,0,0,0,0,0,0,0,0,3,0,3,3,1,3,1,0,0,0,3,0,0,0,0] 0))) (O.b (O.d (x.I 42) (O.lit .u8 5)) (O.b (x.B 46) (O.c (O.e 206 [] (ap O (xr x kI 14) [.int (x.I 44)])) fun c0=>(O.a (cr O c0 [0,0,0,0,0,0,0,0,0,0,0,0,0,0,3,0,3,3,1,3,1,0,0,0,3,0,0,0,0] 0))) (O.c (O.e 207 [] (ap O (xr x kI 14) [.int (x.I 44)])) fun c0=>(O.a (cr O c0 [0,0,0,0,0,0,0,0,0,0,0,0,0,0,3,0,3,3,1,3,1,0,0,0,3,0,0,0,0] 0)))) (O.b (O.d (x.I 42) (O.lit .u8 6)) (O.c (O.e 208 [] (ap O (xr x kI 14) [.int (x.I 44),.bool (x.B 46)])) fun c0=>(O.a (cr O c0 [0,0,0,0,0,0,0,0,0,0,0,0,0,0,3,0,3,3,1,3,1,0,0,0,3,0,0,0,0] 0))) (O.b (O.d (x.I 42) (O.lit .u8 7)) (O.c (O.e 209 [] (ap O (xr x kI 14) [.int (x.I 47)])) fun c0=>(O.a (cr O c0 [0,0,0,0,0,0,0,0,0,0,0,0,0,0,3,0,3,3,1,3,1,0,0,0,3,0,0,0,0] 0))) (O.b (O.d (x.I 42) (O.lit .u8 8)) (O.c (O.e 210 [] (ap O (xr x kI 14) [.int (x.I 44)])) fun c0=>(O.a (cr O c0 [0,0,0,0,0,0,0,0,0,0,0,0,0,0,3,0,3,3,1,3,1,0,0,0,3,0,0,0,0] 0))) (O.b (O.d (x.I 42) (O.lit .u8 9)) (O.c (O.e 211 [] (ap O (xr x kI 14) [.int (x.I 44),.bool (x.B 46)])) fun c0=>(O.a (cr O c0 [0,0,0,0,0,0,0,0,0,0,0,0,0,0,3,0,3,3,1,3,1,0,0,0,3,0,0,0,0] 0))) (O.b (O.d (x.I 42) (O.lit .u8 10)) (O.c (O.e 212 [] (xr x [2,0,0,0,0,0,0,0,1,0,0,0,0,3,0,0,0,0,0,0,0,0,0,0,0,0,0,0,3,0,3,3,1,3,1,0,0,0,3,0,0,0] 0)) fun c0=>(O.a (cr O c0 [0,0,0,0,0,0,0,0,0,0,0,0,0,0,3,0,3,3,1,3,1,0,0,0,3,0,0,0,0] 0))) (O.b (O.d (x.I 42) (O.lit .u8 11)) (O.c (O.e 213 [] (xr x [2,0,0,0,0,0,0,0,1,0,0,0,0,3,0,0,0,0,0,0,0,0,0,0,0,0,0,0,3,0,3,3,1,3,1,0,0,0,3,0,0,0,0,0,0,0,1,0,0,0,0,0,0,0,1,0,0,0,0,1,0] 0)) fun c0=>(O.a (cr O c0 [0,0,0,0,0,0,0,0,0,0,0,0,0,0,3,0,3,3,1,3,1,0,0,0,3,0,0,0,0] 0))) (O.b (O.d (x.I 42) (O.lit .u8 13)) (O.c (O.e 214 [] (xr x [0,0,0,0,0,0,0,0,0,0,0,0,0,0,3,0,3,3,1,3,1,0,0,0,3,0,0,0,0,0,0,0,1,0,0,0,0,0,0,0,1,0,0,0,0,1,0] 14)) fun c0=>(O.a (cr O c0 [0,0,0,0,0,0,0,0,0,0,0,0,0,0,3,0,3,3,1,3,1,0,0,0,3,0,0,0,0] 0))) (O.b (O.d (x.I 42) (O.lit .u8 14)) (O.c (O.e 215 [] (xr x [2,0,0,0,0,0,0,0,1,0,0,0,0,3,0,0,0,0,0,0,0,0,0,0,0,0,0,0,3,0,3,3,1,3,1,0,0,0,3,0,0,0,0,0,0,0,1,0,0,0,0,0,0,0,1,0,0,0,0,1,0] 0)) fun c0=>(O.a (cr O c0 [0,0,0,0,0,0,0,0,0,0,0,0,0,0,3,0,3,3,1,3,1,0,0,0,3,0,0,0,0] 0))) (O.c (O.e 216 [] (xr x [2,0,0,0,0,0,0,0,1,0,0,0,0,3,0,0,0,0,0,0,0,0,0,0,0,0,0,0,3,0,3,3,1,3,1,0,0,0,3,0,0,0,0,0,0,0,1,0,0,0,0,0,0,0,1,0,0,0,0,1,0] 0)) fun c0=>(O.a (cr O c0 [0,0,0,0,0,0,0,0,0,0,0,0,0,0,3,0,3,3,1,3,1,0,0,0,3,0,0,0,0] 0)))))))))))))))
def Ah:Nat→Env:=eL [(203,H5),(204,Jj),(205,Gx),(206,E9),(207,Gu),(208,Fo),(209,Fy),(210,Gw),(211,De),(212,Fk),(213,EW),(214,EU),(215,E2),(216,E4)]
theorem GM {N ls}:Ah N 203 [] ls=H5 N ls:=id rfl
theorem G8 {N ls}:Ah N 204 [] ls=Jj N ls:=id rfl
theorem Fw {N ls}:Ah N 205 [] ls=Gx N ls:=id rfl
theorem Ez {N ls}:Ah N 206 [] ls=E9 N ls:=id rfl
theorem Fp {N ls}:Ah N 207 [] ls=Gu N ls:=id rfl
theorem FN {N ls}:Ah N 208 [] ls=Fo N ls:=id rfl
theorem FO {N ls}:Ah N 209 [] ls=Fy N ls:=id rfl
theorem GD {N ls}:Ah N 210 [] ls=Gw N ls:=id rfl
theorem ET {N ls}:Ah N 211 [] ls=De N ls:=id rfl
theorem FM {N ls}:Ah N 212 [] ls=Fk N ls:=id rfl
theorem Ej {N ls}:Ah N 213 [] ls=EW N ls:=id rfl
theorem Ei {N ls}:Ah N 214 [] ls=EU N ls:=id rfl
theorem E0 {N ls}:Ah N 215 [] ls=E2 N ls:=id rfl
theorem FA {N ls}:Ah N 216 [] ls=E4 N ls:=id rfl
def EX:=oS P0 EL Ah
def R5:List Nat:=[2,0,0,0,0,0,0,0,1,0,0,0,0,3,0,0,0,0,0,0,0,0,0,0,0,0,0,0,3,0,3,3,1,3,1,0,0,0,3,0,0,0]
def Hn (O:Alg) (x:Ags O):O.M:=let u0:=(lq9 O 0);(O.c (O.e 127 [] (xr x [2,0,0,0,0,0,0,0,1,0,0,0,0,3,0,0,0,0,0,0,0,0,0,0,0,0,0,0,3,0,3,3,1,3,1,0,0,0,3,0,0,0] 0)) fun c0=>(O.b (O.h (O.n c0 0)) (O.a [.int (O.lit .u8 0)]) (O.b (O.i (O.l u0 (x.I 15)) (O.v (x.I 15) (x.I 17)) O.f) (O.a [.int (O.lit .u8 3)]) (O.c (O.e 217 [] (xr x kI 14)) fun c1=>(O.c (O.b (O.n c1 0) (O.e 218 [] (xr x kI 14)) (O.a [.rows O.z])) fun c2=>(O.b (O.i (O.n c1 0) (O.d (O.m (O.p c2 0)) u0) O.f) (O.a [.int (O.lit .u8 1)]) (O.b (O.i (O.l u0 (x.I 16)) (O.v (x.I 16) (x.I 24)) O.f) (O.a [.int (O.lit .u8 2)]) (O.a [.int (O.lit .u8 0)]))))))))
def Dn:Nat→Env:=eL [(127,BL),(217,BO),(218,Ck)]
def DR:=oS R5 Hn Dn
def Uc:List Nat:=[2,0,0,0,0,0,0,0,1,0,0,0,0,3,0,0,0,0,0,0,0,0,0,0,0,0,0,0,3,0,3,3,1,3,1,0,0,0,3,0,0,0,0,0,0,0,1,0,0,0,0,0,0,0,1,0,0,0,0,1,0]
def KA (O:Alg) (x:Ags O):O.M:=let u1:=(lq9 O 0);(O.c (O.e 127 [] (xr x [2,0,0,0,0,0,0,0,1,0,0,0,0,3,0,0,0,0,0,0,0,0,0,0,0,0,0,0,3,0,3,3,1,3,1,0,0,0,3,0,0,0] 0)) fun c0=>let u0:=(O.h (O.n c0 0));(O.c (O.b (O.h u0) (O.e 107 [] (xr x [0,0,0,0,1,0,0,0,0,0,0,0,1,0,0,0,0,1,0] 42)) (O.a [.int u1])) fun c1=>(O.b (O.i u0 O.k (O.h (O.d (O.g c1 0) u1))) (O.c (O.e 134 [] (xr x kI 14)) fun c2=>(O.a (ap O (cr O c2 kI 0) [.int (lq9 O 1)]))) (O.b (O.h (O.d (x.I 41) (O.lit .u8 0))) (O.c (O.e 134 [] (xr x kI 14)) fun c2=>(O.a (ap O (cr O c2 kI 0) [.int (lq9 O 26)]))) (O.c (O.b (O.h (O.i (O.i (O.d (x.I 42) (O.lit .u8 1)) O.k (O.d (x.I 42) (O.lit .u8 12))) O.k (O.d (x.I 42) (O.lit .u8 16)))) (O.e 188 [] (xr x kI 14)) (O.a [.bool O.f])) fun c2=>(O.b (O.i (O.i (O.i (O.d (x.I 42) (O.lit .u8 1)) O.k (O.d (x.I 42) (O.lit .u8 12))) O.k (O.d (x.I 42) (O.lit .u8 16))) O.k (O.i (O.h (O.n c2 0)) (O.h (O.d (x.I 42) (O.lit .u8 2))) O.f)) (O.c (O.e 134 [] (xr x kI 14)) fun c3=>(O.a (ap O (cr O c3 kI 0) [.int (lq9 O 1)]))) (O.c (O.e 189 [] (xr x [2,0,0,0,0,0,0,0,1,0,0,0,0,3,0,0,0,0,0,0,0,0,0,0,0,0,0,0,3,0,3,3,1,3,1,0,0,0,3,0,0,0,0,0,0,0,1,0,0,0,0,0,0,0,1,0,0,0,0,1,0] 0)) fun c3=>(O.b (O.h (O.d (O.g c3 28) u1)) (O.c (O.e 134 [] (xr x kI 14)) fun c4=>(O.a (ap O (cr O c4 kI 0) [.int (O.g c3 28)]))) (O.b (O.d (O.g c3 27) (O.lit .u8 0)) (O.c (O.e 190 [] (ap O (xr x kR 0) (ap O (cr O c3 [0,0,0,0,0,0,0,0,0,0,0,0,0,0,3,0,3,3] 0) (ap O [.bool (O.d (x.I 42) (O.lit .u8 4))] (cr O c3 [3,1,0,0,0,3,0,0,0] 19))))) fun c4=>(O.a (ap O (cr O c3 [0,0,0,0,0,0,0,0,0,0,0,0,0,0,3,0,3,3] 0) (ap O [.bool (O.d (x.I 42) (O.lit .u8 4))] (ap O (cr O c3 [3,1,0,0,0,3,0,0] 19) [.int (O.g c4 0),.int u1]))))) (O.a (ap O (cr O c3 [0,0,0,0,0,0,0,0,0,0,0,0,0,0,3,0,3,3] 0) (ap O [.bool (O.d (x.I 42) (O.lit .u8 4))] (ap O (cr O c3 [3,1,0,0,0,3,0,0,0] 19) [.int u1])))))))))))))
def CF:Nat→Env:=eL [(107,DB),(127,BL),(134,AP),(188,Fi),(189,EX),(190,DR)]
theorem PU {N ls}:CF N 107 [] ls=DB N ls:=id rfl
theorem OM {N ls}:CF N 127 [] ls=BL N ls:=id rfl
theorem Nr {N ls}:CF N 134 [] ls=AP N ls:=id rfl
theorem Nu {N ls}:CF N 188 [] ls=Fi N ls:=id rfl
theorem Fj {N ls}:CF N 189 [] ls=EX N ls:=id rfl
theorem GL {N ls}:CF N 190 [] ls=DR N ls:=id rfl
def Gk:=oS Uc KA CF
def Xt:List Nat:=[2,0,0,0,0,0,0,0,1,0,0,0,0,3,0,0,1,3,0,0,0,0,0,0,0,0,0,1,0,0,0,0,0,0,0,1,0,0,0,0,1,0]
def Mg (O:Alg) (x:Ags O):O.M:=let u23:=(lq9 O 2);let u22:=(lq9 O 1);let u21:=(lq9 O 0);let u17:=(O.x .i64 (x.I 24) u22);let u11:=(O.t u17 u23);let u10:=(O.d u17 u22);(O.c (O.e 106 [] (xr x kM 0)) fun c0=>let u20:=(O.h (O.n c0 0));(O.c (O.b (O.h u20) (O.e 107 [] (xr x [0,0,0,0,1,0,0,0,0,0,0,0,1,0,0,0,0,1,0] 23)) (O.a [.int u21])) fun c1=>(O.b (O.i u20 O.k (O.h (O.d (O.g c1 0) u21))) (O.c (O.e 108 [] (xr x kM 0)) fun c2=>(O.a (ap O (cr O c2 kM 0) [.int u22]))) (O.b (O.d (x.I 14) (O.lit .u8 5)) (O.c (O.e 108 [] (xr x kM 0)) fun c2=>(O.a (ap O (cr O c2 kM 0) [.int (lq9 O 26)]))) (O.c (O.e 108 [] (xr x kM 0)) fun c2=>let u28:=(O.g c2 15);let u27:=(O.g c2 18);let u26:=(O.g c2 19);let u25:=(O.g c2 14);let u24:=(O.p c2 17);let u19:=(O.m u24);let u12:=(O.x .i64 u19 u22);let u4:=(O.t u12 u19);let u0:=(O.s .i64 (O.ai u10 u26 u27) (lq9 O 5));(O.c (O.b (O.d (x.I 23) (O.lit .u8 1)) (O.b (O.h (O.d u25 (O.lit .u8 1))) (O.a (ap O [.int u22] (cr O c2 kM 0))) (O.c (O.e 135 [] [.int (x.I 24)]) fun c3=>(O.b (x.B 27) (O.a (ap O [.int u21] (ap O (cr O c2 kR 0) (ap O [.int (O.lit .u8 2),.int (x.I 24)] (cr O c2 [1,3,0,0,0,0,0] 16))))) (O.a (ap O [.int u21] (ap O (cr O c2 kR 0) (ap O [.int (O.lit .u8 2),.int (O.g c3 0)] (cr O c2 [1,3,0,0,0,0,0] 16)))))))) (O.b (O.d (x.I 23) (O.lit .u8 2)) (O.c (O.b (O.h (O.d u25 (O.lit .u8 2))) (O.a (ap O [.int u22] (cr O c2 kM 0))) (O.c (O.e 128 [] (ap O (cr O c2 kM 0) [.int u19])) fun c3=>let u16:=(O.x .i64 (O.g c3 0) u22);let u9:=(O.d u16 u22);let u8:=(O.t u16 u23);(O.c (O.e 170 [] (ap O (cr O c2 kM 0) [.int (O.g c3 0)])) fun c4=>(O.j u8 (O.c (O.e 169 [] (ap O (cr O c2 kR 0) [.int (O.g c3 0),.int (O.g c4 0),.int (O.ai u9 u26 u27)])) fun c5=>(O.b (O.h (O.d (O.g c5 28) u21)) (O.a (ap O [.int u22] (cr O c2 kM 0))) (O.c (O.e 171 [] (ap O (cr O c2 kR 0) (ap O (cr O c5 kI 0) (xr x [0,0,0,0,1,0,0,0,0,0,0,0,1,0,0,0,0,1,0] 23)))) fun c6=>let u14:=(O.ag u24 (O.ac [(cr O c6 kI 0)]));(O.b (O.h (O.d (O.g c6 28) u21)) (O.a (ap O [.int (O.g c6 28)] (cr O c2 kM 0))) (O.j u8 (O.j (O.r (O.m u14) 304) (O.a (ap O [.int u21] (ap O (cr O c2 kR 0) (ap O [.int (O.lit .u8 3),.int u28,.bool (O.n c2 16),.rows u14,.int (O.ai (O.d u16 u21) u21 u27),.int (O.ai u9 u21 u26)] (cr O c2 [0,0,0] 20))))))))))))))) fun c3=>(O.a (cr O c3 [0,2,0,0,0,0,0,0,0,1,0,0,0,0,3,0,0,1,3,0,0,0,0,0] 0))) (O.b (O.d (x.I 23) (O.lit .u8 12)) (O.b (O.h (O.d u25 (O.lit .u8 4))) (O.a (ap O [.int u22] (cr O c2 kM 0))) (O.b (O.h (O.d (x.I 24) u28)) (O.a (ap O [.int u23] (cr O c2 kM 0))) (O.a (ap O [.int u21] (ap O (cr O c2 kR 0) (ap O [.int (O.lit .u8 2),.int u28,.bool (x.B 27)] (cr O c2 [3,0,0,0,0,0] 17))))))) (O.b (O.d (x.I 23) (O.lit .u8 16)) (O.c (O.b (O.d u25 (O.lit .u8 3)) (O.j u4 (O.a (ap O (cr O c2 [2,0,0,0,0,0,0,0,1,0,0,0,0,3,0,0,1] 0) (ap O [.rows (O.ae u24 u12 27 [.int (O.lit .u8 5)])] (cr O c2 [0,0,0,0,0] 18))))) (O.a (cr O c2 kM 0))) fun c3=>(O.c (O.e 172 [] (cr O c3 kR 0)) fun c4=>(O.a (ap O [.int u21] (ap O (cr O c3 kR 0) (ap O [.int (O.lit .u8 5)] (ap O (cr O c3 [0,1,3,0,0] 15) [.int (O.g c4 0),.int u21,.int u21]))))))) (O.c (O.b (O.h (O.d u25 (O.lit .u8 3))) (O.a (ap O [.int u22] (cr O c2 kM 0))) (O.j u4 (O.c (O.e 171 [] (ap O (cr O c2 kR 0) (ap O (rr O u24 u12 kI 0) (xr x [0,0,0,0,1,0,0,0,0,0,0,0,1,0,0,0,0,1,0] 23)))) fun c3=>let u3:=(O.ae u24 u12 0 (cr O c3 kI 0));let u2:=(O.m u3);(O.b (O.h (O.d (O.g c3 28) u21)) (O.a (ap O [.int (O.g c3 28)] (cr O c2 kM 0))) (O.j u4 (O.b (O.i (O.d (x.I 23) (O.lit .u8 13)) (O.h (O.d (x.I 24) (O.g c3 0))) O.f) (O.c (O.c (O.y (fun s4 c4=>let u30:=(O.g c4 0);let u1:=(O.t u30 u2);(O.b (O.v u21 u30) (O.j u1 (O.b (O.d (O.q u3 u30 0) (x.I 24)) (O.j u1 (O.c (O.e 191 [] (rr O u3 u30 kI 0)) fun c5=>(O.j u1 (O.a (ap O [.int u21] (ap O (cr O c2 [2,0,0,0,0,0,0,0,1,0,0,0,0,3,0,0,1] 0) (ap O [.rows (O.ae u3 u30 0 (cr O c5 kI 0))] (cr O c2 [0,0,0,0,0] 18)))))))) (s4 [.int (O.x .i64 u30 u22)]))) (O.a [.int u22]))) [.int (O.x .i64 u2 u22)]) fun c4=>(O.b (O.aa c4 0) (O.a (cr O c4 kM 1)) (O.j u11 (O.j u11 (O.a (ap O (cr O c2 [2,0,0,0,0,0,0,0,1,0,0,0,0,3,0,0,1] 0) (ap O [.rows u3,.int (O.ai (O.d u17 u21) u0 u27),.int (O.ai u10 u0 u26)] (cr O c2 [0,0,0] 20)))))))) fun c4=>(O.a (ap O [.int u21] (cr O c4 kM 0)))) (O.a (ap O [.int u21] (ap O (cr O c2 [2,0,0,0,0,0,0,0,1,0,0,0,0,3,0,0,1] 0) (ap O [.rows u3] (cr O c2 [0,0,0,0,0] 18))))))))))) fun c3=>(O.a (cr O c3 [0,2,0,0,0,0,0,0,0,1,0,0,0,0,3,0,0,1,3,0,0,0,0,0] 0))))))) fun c3=>let u29:=(O.p c3 18);let u18:=(O.m u29);let u15:=(O.d u18 (lq9 O 3));let u13:=(O.x .i64 u18 u22);let u7:=(O.d u18 (O.am .i64 u23 (O.g c3 3)));let u6:=(O.q u29 u13 0);let u5:=(O.t u13 u18);(O.b (O.h (O.d (O.g c3 0) u21)) (O.c (O.e 108 [] (xr x kM 0)) fun c4=>(O.a (ap O (cr O c4 kM 0) [.int (O.g c3 0)]))) (O.c (O.j (O.h (O.ad (O.h (O.h (O.d (O.g c3 15) (O.lit .u8 3)))) (O.h u5))) (O.b (O.i (O.h (O.d (O.g c3 15) (O.lit .u8 3))) O.k (O.d (O.q u29 u13 27) (O.lit .u8 0))) (O.a (cr O c3 kM 1)) (O.j u5 (O.c (O.e 139 [] (ap O (cr O c3 kM 1) [.int (O.g c3 16)])) fun c4=>(O.c (O.e 135 [] [.int (O.g c3 16)]) fun c5=>(O.c (O.e 139 [] (ap O (cr O c3 kM 1) [.int (O.g c5 0)])) fun c6=>(O.c (O.b u7 (O.a [.bool u7]) (O.c (O.b u15 (O.e 139 [] (ap O (cr O c3 kR 1) (ap O [.int (O.lit .u8 2)] (ap O (cr O c3 [0,1,3,0,0,0,0,0] 16) [.int u6])))) (O.a [.int u21])) fun c7=>(O.c (O.b u15 (O.e 135 [] [.int u6]) (O.a [.int u21])) fun c8=>(O.c (O.b u15 (O.e 139 [] (ap O (cr O c3 kR 1) (ap O [.int (O.lit .u8 2)] (ap O (cr O c3 [0,1,3,0,0,0,0,0] 16) [.int (O.g c8 0)])))) (O.a [.int u21])) fun c9=>(O.a [.bool (O.i u15 (O.l (O.g c7 0) (O.g c9 0)) O.f)]))))) fun c7=>(O.b (O.n c7 0) (O.c (O.e 140 [] (ap O (cr O c3 kR 1) (ap O [.int (O.lit .u8 5)] (cr O c3 [0,1,3,0,0,0,0,0] 16)))) fun c8=>(O.a (ap O (cr O c3 kR 1) (ap O [.int (O.lit .u8 5)] (ap O (cr O c3 [0,1,3,0,0] 16) (cr O c8 [0,0,0] 0)))))) (O.b (O.i (O.i (O.d u18 u23) (O.l u21 (O.g c3 11)) O.f) (O.v (O.g c3 11) (O.x .i64 (O.g c4 0) (O.g c6 0))) O.f) (O.a (ap O (cr O c3 kR 1) (ap O [.int (O.lit .u8 4)] (cr O c3 [0,1,3,0,0,0,0,0] 16)))) (O.a (ap O (cr O c3 kR 1) (ap O [.int (O.lit .u8 2)] (cr O c3 [0,1,3,0,0,0,0,0] 16))))))))))))) fun c4=>(O.a (ap O (cr O c4 kM 0) [.int u21]))))))))))
def BF:Nat→Env:=eL [(106,DC),(107,DB),(108,H2),(128,DA),(135,BN),(139,Bw),(140,Fl),(169,F4),(170,G9),(171,Gk),(172,Bo),(191,B7)]
theorem RY {N ls}:BF N 106 [] ls=DC N ls:=id rfl
theorem Q0 {N ls}:BF N 107 [] ls=DB N ls:=id rfl
theorem Ry {N ls}:BF N 108 [] ls=H2 N ls:=id rfl
theorem Ey {N ls}:BF N 128 [] ls=DA N ls:=id rfl
theorem Et {N ls}:BF N 135 [] ls=BN N ls:=id rfl
theorem JV {N ls}:BF N 139 [] ls=Bw N ls:=id rfl
theorem IG {N ls}:BF N 140 [] ls=Fl N ls:=id rfl
theorem EE {N ls}:BF N 169 [] ls=F4 N ls:=id rfl
theorem Ec {N ls}:BF N 170 [] ls=G9 N ls:=id rfl
theorem Cx {N ls}:BF N 171 [] ls=Gk N ls:=id rfl
theorem DE {N ls}:BF N 172 [] ls=Bo N ls:=id rfl
theorem Gh {N ls}:BF N 191 [] ls=B7 N ls:=id rfl
def MO:=oS Xt Mg BF
def Vc:List Nat:=[2,0,0,0,0,0,0,0,1,0,0,0,0,3,0,0,1,3,0,0,0,0,0,0,0,0,0,0,1,0,0,0,0,0,0,0,1,0,0,0,0,1,0]
def NN (O:Alg) (x:Ags O):O.M:=(O.b (O.v (lq9 O 4000) (x.I 23)) (O.a (ap O (xr x kM 0) [.int (lq9 O 26)])) (O.c (O.e 92 [] (ap O (xr x kM 0) (xr x [0,0,0,0,1,0,0,0,0,0,0,0,1,0,0,0,0,1,0] 24))) fun c0=>(O.a (cr O c0 [2,0,0,0,0,0,0,0,1,0,0,0,0,3,0,0,1,3,0,0,0,0,0,0] 0))))
def G0 (N:Nat):Env:=fun f fns ls=>(cond (Nat.beq f 92&&Af fns []) (MO N ls) none)
theorem UJ {N ls}:G0 N 92 [] ls=MO N ls:=id rfl
def NI:=oS Vc NN G0
def S1:List Nat:=[0,2,0,0,0,0,0,0,0,1,0,0,0,0,3,0,0,1,3,0,0,0,0,0,2,0,0,0,0,0,0,0,1,0,0,0,0,3,0,0,1,3,0,0,0,0,0,0,0,0,0,0,1,0,0,0,0,1,0]
def I0 (O:Alg) (x:Ags O):O.M:=let u0:=(O.x .i64 (O.m (x.L 18)) (lq9 O 1));(O.j (O.t u0 (O.m (x.L 18))) (O.j (O.t u0 (O.m (x.L 41))) (O.c (O.e 57 [] (ap O (xr x kR 1) (xr x [0,0,0,0,0,1,0,0,0,0,1,0] 47))) fun c0=>(O.a (ap O [.int (x.I 0),.int u0,.int (O.q (x.L 18) u0 10),.int (O.q (x.L 18) u0 11),.int (O.q (x.L 18) u0 15),.int (O.q (x.L 18) u0 12),.int (O.q (x.L 18) u0 13),.bool (O.rB (x.L 18) u0 20)] (ap O (xr x [0,0,0,0,0,1,0,0,0,0,1,0] 47) (ap O (cr O c0 [0,0,0,0,0,0,1,1,1,1] 0) [.int (O.q (x.L 41) u0 3),.int (O.q (x.L 41) u0 4)])))))))
def KV:Nat→Env:=eL [(57,B6)]
theorem MC {N ls}:KV N 57 [] ls=B6 N ls:=id rfl
def Iu:=oS S1 I0 KV
def VS:List Nat:=[2,0,0,0,0,0,0,0,1,0,0,0,0,3,3]
def NM (O:Alg) (x:Ags O):O.M:=let u3:=(lq9 O 1);let u2:=(lq9 O 0);(O.c (O.e 65 [] (xr x kR 0)) fun c0=>(O.b (O.h (O.d (O.g c0 23) u2)) (O.a [.rows O.z,.str (O.o ⟨#[]⟩),.int u2,.int u2,.int u2,.int u2,.int u2,.int u2,.int u2,.bool O.f,.int u2,.int u2,.int u2,.int u2,.rows O.z,.int (O.lit .u8 0),.int u2,.bool O.f,.rows O.z,.int u2,.int u2,.int (O.lit .u8 0),.int u2,.int u2,.int u2,.int u3]) (O.c (O.y (fun s1 c1=>let u5:=(O.p c1 0);let u4:=(O.g c1 1);let u1:=(O.s .i64 u4 u3);(O.b (O.l u4 (O.m (x.L 14))) (O.j (O.t u4 (O.m (x.L 14))) (O.c (O.e 66 [] (ap O (cr O c1 kM 2) (ap O [.int u4] (rr O (x.L 14) u4 [0,0,0,0,1,0,0,0,0,0,0,0,1,0,0,0,0,1,0] 0)))) fun c2=>(O.b (O.h (O.d (O.g c2 23) u2)) (O.a (ap O [.int u2,.rows u5,.int u4,.int (O.g c2 23)] (cr O c1 kM 2))) (O.b (O.d (O.q (x.L 14) u4 0) (O.lit .u8 4)) (O.c (O.e 67 [] (ap O (cr O c1 [0,2,0,0,0,0,0,0,0,1,0,0,0,0,3,0,0,1,3,0,0,0,0,0] 1) (ap O (cr O c2 kM 0) (rr O (x.L 14) u4 [0,0,0,0,0,1,0,0,0,0,1,0] 7)))) fun c3=>let u0:=(O.ag u5 (O.ac [(cr O c3 [0,0,0,0,0,0,0,1,0,0,0,0,0,1,0,0,0,0,1,0,0,0,0,0,0,0,1,1,1,1,0,0] 0)]));(O.j (O.r (O.m u0) 216) (s1 (ap O [.rows u0,.int u1] (cr O c2 kM 0))))) (s1 (ap O [.rows u5,.int u1] (cr O c2 kM 0))))))) (O.a (ap O [.int u3,.rows u5] (cr O c1 kM 2))))) (ap O [.rows O.z,.int u2] (cr O c0 kM 0))) fun c1=>(O.b (O.aa c1 0) (O.a (ap O [.rows (O.p c1 1)] (ap O (cr O c1 kM 4) [.int (O.g c1 2),.int (O.g c1 3)]))) (O.a (ap O (cr O c1 [3,2,0,0,0,0,0,0,0,1,0,0,0,0,3,0,0,1,3,0,0,0,0,0] 1) [.int (lq9 O (-1)),.int u2]))))))
def Du (N:Nat):Env:=fun f fns ls=>(cond (Nat.beq f 65&&Af fns []) (Oj N ls) (cond (Nat.beq f 66&&Af fns []) (NI N ls) (cond (Nat.beq f 67&&Af fns []) (Iu N ls) none)))
theorem VK {N ls}:Du N 65 [] ls=Oj N ls:=id rfl
theorem Nd {N ls}:Du N 66 [] ls=NI N ls:=id rfl
theorem JG {N ls}:Du N 67 [] ls=Iu N ls:=id rfl
def Hq:=oS VS NM Du
def R7:List Nat:=[2,0,0,0,0,0,0,0,1,0,0,0,0,3,3]
def I9 (O:Alg) (x:Ags O):O.M:=(O.c (O.e 32 [] (xr x [2,0,0,0,0,0,0,0,1,0,0,0,0,3,3] 0)) fun c0=>(O.a (cr O c0 [2,0,0,0,0,0,0,0,1,0,0,0,0,3,0,0,1,3,0,0,0,0,0,0,0] 1)))
def Eo (N:Nat):Env:=fun f fns ls=>(cond (Nat.beq f 32&&Af fns []) (Hq N ls) none)
theorem US {N ls}:Eo N 32 [] ls=Hq N ls:=id rfl
def JD:=oS R7 I9 Eo
def Te:List Nat:=[2,0,0,0,0,0,0,0,1,0,0,0,0,3,3]
def Kd (O:Alg) (x:Ags O):O.M:=let u0:=(lq9 O 0);(O.c (O.e 61 [] (xr x kR 0)) fun c0=>(O.b (O.h (O.d (O.g c0 0) u0)) (O.a [.int (O.g c0 0)]) (O.b (O.l (lq9 O 4000) (O.m (x.L 14))) (O.a [.int (lq9 O 9)]) (O.c (O.e 62 [] (xr x [2,0,0,0,0,0,0,0,1,0,0,0,0,3,3] 0)) fun c1=>(O.b (O.h (O.d (O.g c1 24) u0)) (O.a [.int (lq9 O 10)]) (O.a [.int u0]))))))
def EJ (N:Nat):Env:=fun f fns ls=>(cond (Nat.beq f 61&&Af fns []) (AQ N ls) (cond (Nat.beq f 62&&Af fns []) (JD N ls) none))
theorem SB {N ls}:EJ N 61 [] ls=AQ N ls:=id rfl
theorem TG {N ls}:EJ N 62 [] ls=JD N ls:=id rfl
def Kb:=oS Te Kd EJ
def Sg:List Nat:=[2,0,0,0,0,0,0,0,1,0,0,0,0,3,3]
def Ir (O:Alg) (x:Ags O):O.M:=let u19:=(lq9 O 1);let u18:=(lq9 O 0);let u17:=(lq9 O (-1));(O.c (O.y (fun s0 c0=>let u22:=(O.g c0 0);let u21:=(O.p c0 1);let u15:=(O.m u21);let u8:=(O.q (x.L 14) u22 2);let u20:=(O.lit .u8 0);let u7:=(O.q (x.L 14) u22 0);let u6:=(O.s .i64 u22 u19);(O.b (O.l u22 (O.m (x.L 14))) (O.j (O.t u22 (O.m (x.L 14))) (O.b (O.d u7 (O.lit .u8 2)) (O.c (O.c (O.y (fun s1 c1=>let u28:=(O.g c1 1);let u24:=(O.g c1 0);(O.b (O.l u24 u15) (O.j (O.t u24 u15) (O.b (O.d (O.q u21 u24 0) u28) (O.a [.int u18,.int u24,.int u28]) (s1 [.int (O.s .i64 u24 u19),.int u28]))) (O.a [.int u19,.int u28]))) [.int u18,.int u8]) fun c1=>(O.b (O.aa c1 0) (O.a [.int (O.g c1 1),.int (O.g c1 2)]) (O.a [.int u17,.int (O.g c1 1)]))) fun c1=>let u11:=(O.ag u21 (O.ac [[.int (O.g c1 1),.int u18,.int u18,.int u18,.int u18,.bool O.f,.int u20,.int u18,.int u18,.bool O.f]]));let u9:=(O.m u11);(O.c (O.b (O.l (O.g c1 0) u18) (O.j (O.r u9 72) (O.a [.int (O.x .i64 u9 u19),.rows u11])) (O.a [.int (O.g c1 0),.rows u21])) fun c2=>let u2:=(O.t (O.g c2 0) (O.m (O.p c2 1)));let u1:=(O.ae (O.p c2 1) (O.g c2 0) 9 [.bool (O.i (O.rB (O.p c2 1) (O.g c2 0) 9) O.k O.k)]);let u0:=(O.m u1);(O.j u2 (O.j u2 (O.c (O.c (O.y (fun s3 c3=>let u29:=(O.g c3 1);let u25:=(O.g c3 0);(O.b (O.l u25 u0) (O.j (O.t u25 u0) (O.b (O.d (O.q u1 u25 0) u29) (O.a [.int u18,.int u25,.int u29]) (s3 [.int (O.s .i64 u25 u19),.int u29]))) (O.a [.int u19,.int u29]))) [.int u18,.int (O.q (x.L 14) u22 3)]) fun c3=>(O.b (O.aa c3 0) (O.a [.int (O.g c3 1),.int (O.g c3 2)]) (O.a [.int u17,.int (O.g c3 1)]))) fun c3=>let u14:=(O.ag u1 (O.ac [[.int (O.g c3 1),.int u18,.int u18,.int u18,.int u18,.bool O.f,.int u20,.int u18,.int u18,.bool O.f]]));let u12:=(O.m u14);(O.c (O.b (O.l (O.g c3 0) u18) (O.j (O.r u12 72) (O.a [.int (O.x .i64 u12 u19),.rows u14])) (O.a [.int (O.g c3 0),.rows u1])) fun c4=>let u3:=(O.t (O.g c4 0) (O.m (O.p c4 1)));(O.j u3 (O.j u3 (s0 [.int u6,.rows (O.ae (O.p c4 1) (O.g c4 0) 9 [.bool (O.i (O.rB (O.p c4 1) (O.g c4 0) 9) O.k O.k)])]))))))))) (O.b (O.d u7 (O.lit .u8 5)) (O.c (O.c (O.y (fun s1 c1=>let u30:=(O.g c1 1);let u26:=(O.g c1 0);(O.b (O.l u26 u15) (O.j (O.t u26 u15) (O.b (O.d (O.q u21 u26 0) u30) (O.a [.int u18,.int u26,.int u30]) (s1 [.int (O.s .i64 u26 u19),.int u30]))) (O.a [.int u19,.int u30]))) [.int u18,.int u8]) fun c1=>(O.b (O.aa c1 0) (O.a [.int (O.g c1 1),.int (O.g c1 2)]) (O.a [.int u17,.int (O.g c1 1)]))) fun c1=>let u13:=(O.ag u21 (O.ac [[.int (O.g c1 1),.int u18,.int u18,.int u18,.int u18,.bool O.f,.int u20,.int u18,.int u18,.bool O.f]]));let u10:=(O.m u13);(O.c (O.b (O.l (O.g c1 0) u18) (O.j (O.r u10 72) (O.a [.int (O.x .i64 u10 u19),.rows u13])) (O.a [.int (O.g c1 0),.rows u21])) fun c2=>let u4:=(O.t (O.g c2 0) (O.m (O.p c2 1)));(O.j u4 (O.j u4 (s0 [.int u6,.rows (O.ae (O.p c2 1) (O.g c2 0) 9 [.bool (O.i (O.rB (O.p c2 1) (O.g c2 0) 9) O.k (O.h (O.rB (x.L 14) u22 4)))])]))))) (s0 [.int u6,.rows u21])))) (O.a [.rows u21]))) [.int u18,.rows O.z]) fun c0=>(O.c (O.y (fun s1 c1=>let u23:=(O.p c1 1);let u16:=(O.m u23);(O.b (O.v (O.g c1 0) (x.I 1)) (O.c (O.c (O.y (fun s2 c2=>let u31:=(O.g c2 1);let u27:=(O.g c2 0);(O.b (O.l u27 u16) (O.j (O.t u27 u16) (O.b (O.d (O.q u23 u27 0) u31) (O.a [.int u18,.int u27,.int u31]) (s2 [.int (O.s .i64 u27 u19),.int u31]))) (O.a [.int u19,.int u31]))) [.int u18,.int (O.g c1 0)]) fun c2=>(O.b (O.aa c2 0) (O.a [.int (O.g c2 1),.int (O.g c2 2)]) (O.a [.int u17,.int (O.g c2 1)]))) fun c2=>(O.c (O.b (O.l (O.g c2 0) u18) (O.j (O.r (O.m (O.ag u23 (O.ac [[.int (O.g c2 1),.int u18,.int u18,.int u18,.int u18,.bool O.f,.int (O.lit .u8 0),.int u18,.int u18,.bool O.f]]))) 72) (O.a [.int (O.x .i64 (O.m (O.ag u23 (O.ac [[.int (O.g c2 1),.int u18,.int u18,.int u18,.int u18,.bool O.f,.int (O.lit .u8 0),.int u18,.int u18,.bool O.f]]))) u19),.rows (O.ag u23 (O.ac [[.int (O.g c2 1),.int u18,.int u18,.int u18,.int u18,.bool O.f,.int (O.lit .u8 0),.int u18,.int u18,.bool O.f]]))])) (O.a [.int (O.g c2 0),.rows u23])) fun c3=>let u5:=(O.t (O.g c3 0) (O.m (O.p c3 1)));(O.j u5 (O.j u5 (s1 [.int (O.s .i64 (O.g c1 0) u19),.rows (O.ae (O.p c3 1) (O.g c3 0) 9 [.bool (O.i (O.rB (O.p c3 1) (O.g c3 0) 9) O.k O.f)])]))))) (O.a [.rows u23]))) [.int u19,.rows (O.p c0 0)]) fun c1=>(O.a [.rows (O.p c1 0)])))
def QD:Nat→Env:=eL []
def Is:=oS Sg Ir QD
def EC:List Nat:=[3,3]
def Bv (O:Alg) (x:Ags O):O.M:=let u0:=(lq9 O 0);(O.c (O.y (fun s0 c0=>let u1:=(O.g c0 0);(O.b (O.l u1 (O.m (x.L 0))) (O.j (O.t u1 (O.m (x.L 0))) (O.b (O.d (O.q (x.L 0) u1 0) (O.q (x.L 1) u0 0)) (O.a [.int u0,.int u1]) (s0 [.int (O.s .i64 u1 (lq9 O 1))]))) (O.a [.int (lq9 O 1)]))) [.int u0]) fun c0=>(O.b (O.aa c0 0) (O.a [.int (O.g c0 1)]) (O.a [.int (lq9 O (-1))])))
def Bm (N:Nat):Env:=fun f fns ls=>none
def Bz:=oS EC Bv Bm
def Ox:List Nat:=[0,0,0,0,0,1,0,0,0,0,1,0,0,0]
def Ff (O:Alg) (x:Ags O):O.M:=(O.b (O.d (x.I 6) (O.lit .u8 0)) (O.a [.int (lq9 O 0)]) (O.b (O.d (x.I 7) (lq9 O 1)) (O.a [.int (x.I 12)]) (O.b (O.d (x.I 7) (lq9 O 2)) (O.a [.int (x.I 13)]) (O.a [.int (lq9 O 0)]))))
def NG:Nat→Env:=eL []
def GC:=oS Ox Ff NG
def Ns:List Nat:=[2,0,0,0,0,0,0,0,1,0,0,0,0,3,3,0]
def G7 (O:Alg) (x:Ags O):O.M:=let u18:=(lq9 O 1);let u17:=(lq9 O 0);(O.c (O.e 27 [] (xr x [2,0,0,0,0,0,0,0,1,0,0,0,0,3,3] 0)) fun c0=>(O.b (O.h (O.d (O.g c0 0) u17)) (O.a [.rows O.z,.int (O.g c0 0)]) (O.c (O.e 17 [] [.rows (x.L 14)]) fun c1=>let u14:=(O.m (O.p c1 0));let u13:=(O.q (O.p c1 0) (x.I 15) 1);let u12:=(O.q (O.p c1 0) (x.I 15) 0);let u9:=(O.t (x.I 15) u14);let u6:=(O.aq (x.L 14) u12 u13);let u5:=(O.m u6);(O.b (O.i (O.l (x.I 15) u17) O.k (O.v u14 (x.I 15))) (O.a [.rows O.z,.int (lq9 O 2)]) (O.j u9 (O.j u9 (O.j (O.al u12 u13 (O.m (x.L 14))) (O.c (O.e 28 [] (ap O (xr x kR 0) [.rows u6])) fun c2=>(O.c (O.e 32 [] (xr x [2,0,0,0,0,0,0,0,1,0,0,0,0,3,3] 0)) fun c3=>let u20:=(O.p c3 0);let u15:=(O.m u20);(O.c (O.y (fun s4 c4=>let u23:=(O.p c4 1);let u19:=(O.g c4 0);let u11:=(O.q u20 u19 5);let u10:=(O.q u20 u19 12);let u7:=(O.s .i64 u19 u18);(O.b (O.l u19 u15) (O.j (O.t u19 u15) (O.b (O.h (O.d (O.q u20 u19 1) (x.I 15))) (s4 [.int u7,.rows u23]) (O.c (O.e 30 [31] [.rows u23,.rows (O.ac [[.int u11]])]) fun c5=>let u21:=(O.g c5 0);let u1:=(O.ae u23 u21 1 [.int (O.s .i64 (O.q u23 u21 1) (O.q u20 u19 20))]);(O.j (O.t u21 (O.m u23)) (O.c (O.b (O.rB u20 u19 27) (O.a [.rows (O.ae u1 u21 2 [.int (O.s .i64 (O.q u1 u21 2) u18)])]) (O.a [.rows u1])) fun c6=>let u24:=(O.p c6 0);(O.c (O.b (O.i (O.d (O.q u20 u19 9) (O.lit .u8 1)) (O.d (O.q u20 u19 10) u17) O.f) (O.b (O.d u10 (lq9 O 4)) (O.a [.rows (O.ae u24 u21 3 [.int (O.s .i64 (O.q u24 u21 3) u18)])]) (O.b (O.d u10 (lq9 O 6)) (O.a [.rows (O.ae u24 u21 4 [.int (O.s .i64 (O.q u24 u21 4) u18)])]) (O.a [.rows u24]))) (O.a [.rows u24])) fun c7=>let u27:=(O.p c7 0);(O.c (O.e 33 [] (ap O (rr O u20 u19 [0,0,0,0,0,1,0,0,0,0,1,0] 8) [.int u11,.int (O.q u20 u19 6)])) fun c8=>(O.b (O.l u17 (O.g c8 0)) (O.c (O.e 30 [31] [.rows u27,.rows (O.ac [[.int (O.g c8 0)]])]) fun c9=>let u26:=(O.g c9 0);let u0:=(O.ae (O.ae (O.ae u27 u26 5 [.bool O.k]) u26 6 [.int (O.q u20 u19 14)]) u26 8 [.int (O.q u20 u19 16)]);(O.j (O.t u26 (O.m u27)) (O.b (O.rB u20 u19 28) (s4 [.int u7,.rows (O.ae u0 u26 7 [.int (O.q u20 u19 4)])]) (s4 [.int u7,.rows u0])))) (s4 [.int u7,.rows u27]))))))))) (O.a [.rows u23]))) [.int u17,.rows (O.p c2 0)]) fun c4=>(O.c (O.y (fun s5 c5=>let u25:=(O.g c5 0);let u22:=(O.p c5 1);let u16:=(O.m u22);let u8:=(O.s .i64 u25 u18);let u4:=(O.rB u6 u25 4);let u3:=(O.q u6 u25 0);let u2:=(O.ac [[.int (O.q u6 u25 2)]]);(O.b (O.l u25 u5) (O.j (O.t u25 u5) (O.b (O.i (O.d u3 (O.lit .u8 5)) u4 O.f) (O.c (O.e 30 [31] [.rows u22,.rows u2]) fun c6=>(O.j (O.t (O.g c6 0) u16) (s5 [.int u8,.rows (O.ae (O.ae u22 (O.g c6 0) 5 [.bool O.k]) (O.g c6 0) 6 [.int (O.lit .u8 9)])]))) (O.b (O.i (O.d u3 (O.lit .u8 6)) (O.h u4) O.f) (O.c (O.e 30 [31] [.rows u22,.rows u2]) fun c6=>(O.j (O.t (O.g c6 0) u16) (s5 [.int u8,.rows (O.ae (O.ae u22 (O.g c6 0) 5 [.bool O.k]) (O.g c6 0) 6 [.int (O.lit .u8 10)])]))) (s5 [.int u8,.rows u22])))) (O.a [.rows u22]))) [.int u17,.rows (O.p c4 0)]) fun c5=>(O.a [.rows (O.p c5 0),.int u17]))))))))))))
def BQ (N:Nat):Env:=fun f fns ls=>(cond (Nat.beq f 17&&Af fns []) (Js N ls) (cond (Nat.beq f 27&&Af fns []) (Kb N ls) (cond (Nat.beq f 28&&Af fns []) (Is N ls) (cond (Nat.beq f 30&&Af fns [31]) (Bz N ls) (cond (Nat.beq f 32&&Af fns []) (Hq N ls) (cond (Nat.beq f 33&&Af fns []) (GC N ls) none))))))
theorem PL {N ls}:BQ N 17 [] ls=Js N ls:=id rfl
theorem Rg {N ls}:BQ N 27 [] ls=Kb N ls:=id rfl
theorem OJ {N ls}:BQ N 28 [] ls=Is N ls:=id rfl
theorem H7 {N ls}:BQ N 30 [31] ls=Bz N ls:=id rfl
theorem SG {N ls}:BQ N 32 [] ls=Hq N ls:=id rfl
theorem MG {N ls}:BQ N 33 [] ls=GC N ls:=id rfl
def DT:=oS Ns G7 BQ
def Kv:List Nat:=[3,3]
def Da (O:Alg) (x:Ags O):O.M:=let u0:=(O.m (x.L 0));(O.b (O.h (O.d u0 (O.m (x.L 1)))) (O.a [.bool O.f]) (O.c (O.y (fun s0 c0=>let u1:=(O.g c0 0);(O.b (O.l u1 u0) (O.j (O.t u1 u0) (O.j (O.t u1 (O.m (x.L 1))) (O.b (O.h (O.ad (O.d (O.q (x.L 0) u1 0) (O.q (x.L 1) u1 0)) (O.ad (O.d (O.q (x.L 0) u1 1) (O.q (x.L 1) u1 1)) (O.ad (O.d (O.q (x.L 0) u1 2) (O.q (x.L 1) u1 2)) (O.ad (O.d (O.q (x.L 0) u1 3) (O.q (x.L 1) u1 3)) (O.ad (O.d (O.q (x.L 0) u1 4) (O.q (x.L 1) u1 4)) (O.ad (O.ao (O.rB (x.L 0) u1 5) (O.rB (x.L 1) u1 5)) (O.ad (O.d (O.q (x.L 0) u1 6) (O.q (x.L 1) u1 6)) (O.ad (O.d (O.q (x.L 0) u1 7) (O.q (x.L 1) u1 7)) (O.ad (O.d (O.q (x.L 0) u1 8) (O.q (x.L 1) u1 8)) (O.ao (O.rB (x.L 0) u1 9) (O.rB (x.L 1) u1 9)))))))))))) (O.a [.int (lq9 O 0),.bool O.f]) (s0 [.int (O.s .i64 u1 (lq9 O 1))])))) (O.a [.int (lq9 O 1)]))) [.int (lq9 O 0)]) fun c0=>(O.b (O.aa c0 0) (O.a [.bool (O.n c0 1)]) (O.a [.bool O.k]))))
def Jl:Nat→Env:=eL []
def Ce:=oS Kv Da Jl
def Vt:List Nat:=[2,3,0,0,0]
def LD (O:Alg) (x:Ags O):O.M:=let u3:=(O.o ⟨#[32,40,99,41]⟩);let u2:=(O.o ⟨#[32,40,107,41]⟩);let u1:=(O.x .i64 (x.I 4) (lq9 O 1));let u0:=(O.rS (x.L 1) u1 0);(O.b (O.i (O.l (x.I 4) (lq9 O 1)) O.k (O.l (O.m (x.L 1)) (x.I 4))) (O.a [.str (O.o ⟨#[]⟩)]) (O.j (O.t u1 (O.m (x.L 1))) (O.c (O.b (O.d (x.I 4) (x.I 2)) (O.j (O.r (O.u u0) 1) (O.j (O.r (O.u u3) 1) (O.a [.str (O.af u0 u3)]))) (O.a [.str u0])) fun c0=>let u4:=(O.w c0 0);(O.b (O.d (x.I 4) (x.I 3)) (O.j (O.r (O.u u4) 1) (O.j (O.r (O.u u2) 1) (O.a [.str (O.af u4 u2)]))) (O.a [.str u4])))))
def S6:Nat→Env:=eL []
def EG:=oS Vt LD S6
def Lz:List Nat:=[3,2]
def D2 (O:Alg) (x:Ags O):O.M:=(O.c (O.y (fun s0 c0=>let u0:=(O.g c0 0);(O.b (O.l u0 (O.m (x.L 0))) (O.j (O.t u0 (O.m (x.L 0))) (O.b (O.aj (x.S 1) (O.rS (x.L 0) u0 0)) (O.a [.int (lq9 O 0),.int u0]) (s0 [.int (O.s .i64 u0 (lq9 O 1))]))) (O.a [.int (lq9 O 1)]))) [.int (lq9 O 0)]) fun c0=>(O.b (O.aa c0 0) (O.a [.int (O.g c0 1)]) (O.a [.int (lq9 O (-1))])))
def KI:Nat→Env:=eL []
def Cw:=oS Lz D2 KI
def JA:List Nat:=[3,2]
def C2 (O:Alg) (x:Ags O):O.M:=(O.c (O.e 98 [] [.rows (x.L 0),.str (x.S 1)]) fun c0=>(O.a [.bool (O.v (lq9 O 0) (O.g c0 0))]))
def EF:Nat→Env:=eL [(98,Cw)]
theorem GF {N ls}:EF N 98 [] ls=Cw N ls:=id rfl
def Bl:=oS JA C2 EF
def V4:List Nat:=[2,3,0,0]
def K1 (O:Alg) (x:Ags O):O.M:=let u4:=(O.o ⟨#[]⟩);let u3:=(lq9 O 0);let u2:=(O.m (x.L 1));(O.c (O.e 73 [] [.str (x.S 0)]) fun c0=>(O.b (O.h (O.n c0 0)) (O.a [.int (lq9 O 5)]) (O.b (O.i (O.l u2 (lq9 O 2)) O.k (O.l (lq9 O 11) u2)) (O.a [.int (lq9 O 9)]) (O.c (O.y (fun s1 c1=>let u5:=(O.g c1 0);let u1:=(O.rS (x.L 1) u5 0);(O.b (O.l u5 u2) (O.j (O.t u5 u2) (O.c (O.e 73 [] [.str u1]) fun c2=>(O.b (O.h (O.n c2 0)) (O.a [.int u3,.int (lq9 O 5)]) (O.j (O.al u3 u5 u2) (O.c (O.e 74 [] [.rows (O.aq (x.L 1) u3 u5),.str u1]) fun c3=>(O.b (O.n c3 0) (O.a [.int u3,.int (lq9 O 7)]) (s1 [.int (O.s .i64 u5 (lq9 O 1))]))))))) (O.a [.int (lq9 O 1)]))) [.int u3]) fun c1=>(O.b (O.aa c1 0) (O.a [.int (O.g c1 1)]) (O.c (O.e 42 [] (ap O (xr x [2,3,0,0] 0) [.int (x.I 2)])) fun c2=>let u0:=(O.aj (O.w c2 0) u4);(O.c (O.b (O.h u0) (O.e 42 [] (ap O (xr x [2,3,0,0] 0) [.int (x.I 3)])) (O.a [.str u4])) fun c3=>(O.b (O.i u0 O.k (O.aj (O.w c3 0) u4)) (O.a [.int (lq9 O 6)]) (O.a [.int u3])))))))))
def F1:Nat→Env:=eL [(42,EG),(73,Eh),(74,Bl)]
theorem I2 {N ls}:F1 N 42 [] ls=EG N ls:=id rfl
theorem SC {N ls}:F1 N 73 [] ls=Eh N ls:=id rfl
theorem JL {N ls}:F1 N 74 [] ls=Bl N ls:=id rfl
def LG:=oS V4 K1 F1
def Qz:List Nat:=[0,0,2,3,0,0]
def Hb (O:Alg) (x:Ags O):O.M:=(O.a [.bool (O.i (O.v (x.I 1) (x.I 0)) (O.v (x.I 0) (O.m (x.L 3))) O.f)])
def O2:Nat→Env:=eL []
def Hg:=oS Qz Hb O2
def Pz:List Nat:=[0,0,0,0,0,1,0,0,0,1]
def GW (O:Alg) (x:Ags O):O.M:=let u0:=(lq9 O 1000000);(O.a [.bool (O.i (O.i (O.i (O.v (lq9 O 0) (x.I 1)) (O.v (x.I 1) u0) O.f) (O.v (lq9 O 0) (x.I 2)) O.f) (O.v (x.I 2) u0) O.f)])
def Nj:Nat→Env:=eL []
def GT:=oS Pz GW Nj
def RP:List Nat:=[0]
def HX (O:Alg) (x:Ags O):O.M:=(O.c (O.e 75 [] [.int (x.I 0)]) fun c0=>(O.a [.str (O.w c0 1)]))
def JP:Nat→Env:=eL [(75,Cr)]
theorem NT {N ls}:JP N 75 [] ls=Cr N ls:=id rfl
def Hh:=oS RP HX JP
def C4 (N:Nat) (ls:List PV):Option (List PV):=rb ls
def Ni:List Nat:=[0,0]
def FE (O:Alg) (x:Ags O):O.M:=(O.c (O.e 101 [] [.int (x.I 0),.int (x.I 1)]) fun c0=>(O.a [.str (O.w c0 0)]))
def HE:Nat→Env:=eL [(101,C4)]
theorem IX {N ls}:HE N 101 [] ls=C4 N ls:=id rfl
def DJ:=oS Ni FE HE
def Uf:List Nat:=[0]
def Jy (O:Alg) (x:Ags O):O.M:=(O.c (O.e 77 [] [.int (x.I 0),.int (lq9 O 10)]) fun c0=>(O.a [.str (O.w c0 0)]))
def Lg:Nat→Env:=eL [(77,DJ)]
theorem Lk {N ls}:Lg N 77 [] ls=DJ N ls:=id rfl
def G6:=oS Uf Jy Lg
def N4:List Nat:=[3,2,3,0,0,2,3,0,0]
def HC (O:Alg) (x:Ags O):O.M:=let u30:=(lq9 O 1);let u29:=(O.o ⟨#[]⟩);let u28:=(lq9 O 0);let u27:=(O.o ⟨#[32,40]⟩);let u26:=(O.o ⟨#[58,32]⟩);let u24:=(O.o ⟨#[32,98,32]⟩);let u23:=(O.o ⟨#[32,99,32]⟩);let u12:=(O.ac [(xr x [2,3,0,0] 1),(xr x [2,3,0,0] 5)]);let u9:=(O.m u12);(O.c (O.y (fun s0 c0=>let u32:=(O.g c0 0);(O.b (O.l u32 u9) (O.j (O.t u32 u9) (O.c (O.e 37 [] (rr O u12 u32 [2,3,0,0] 0)) fun c1=>(O.b (O.h (O.d (O.g c1 0) u28)) (O.a [.int u28,.str u29,.int (O.g c1 0)]) (s0 [.int (O.s .i64 u32 u30)])))) (O.a [.int u30]))) [.int u28]) fun c0=>(O.b (O.aa c0 0) (O.a [.str (O.w c0 1),.int (O.g c0 2)]) (O.c (O.y (fun s1 c1=>let u31:=(O.g c1 0);let u22:=(O.q (x.L 0) u31 6);let u21:=(O.q (x.L 0) u31 0);let u20:=(O.q (x.L 0) u31 8);let u19:=(O.q (x.L 0) u31 7);let u18:=(O.rB (x.L 0) u31 5);let u16:=(O.h u18);let u15:=(O.s .i64 u31 u30);(O.b (O.l u31 (O.m (x.L 0))) (O.j (O.t u31 (O.m (x.L 0))) (O.c (O.e 38 [] (ap O [.int u21,.int u30] (xr x [2,3,0,0] 1))) fun c2=>let u25:=(O.h (O.n c2 0));(O.c (O.b (O.h u25) (O.e 38 [] (ap O [.int u19,.int u28] (xr x [2,3,0,0] 5))) (O.a [.bool O.f])) fun c3=>let u10:=(O.i u25 O.k (O.h (O.n c3 0)));(O.c (O.b (O.h u10) (O.e 38 [] (ap O [.int u20,.int u28] (xr x [2,3,0,0] 5))) (O.a [.bool O.f])) fun c4=>let u5:=(O.i u10 O.k (O.h (O.n c4 0)));(O.c (O.b (O.h u5) (O.e 39 [] (rr O (x.L 0) u31 [0,0,0,0,0,1,0,0,0,1] 0)) (O.a [.bool O.f])) fun c5=>(O.b (O.i u5 O.k (O.h (O.n c5 0))) (O.a [.int u28,.str u29,.int (lq9 O 2)]) (O.c (O.b u18 (O.e 40 [] [.int u22]) (O.a [.str u29])) fun c6=>(O.b (O.i u18 (O.aj (O.w c6 0) u29) O.f) (O.a [.int u28,.str u29,.int (lq9 O 3)]) (O.c (O.e 42 [] (ap O (xr x [2,3,0,0] 1) [.int u21])) fun c7=>let u7:=(O.ag (O.p c1 2) (O.ap (O.af (O.w c7 0) u26)));let u4:=(O.ag u7 (O.ap (O.o ⟨#[68,73,68,32,78,79,84,32,66,65,84,10]⟩)));(O.j (O.r (O.u (O.w c7 0)) 1) (O.j (O.r (O.u u26) 1) (O.j (O.r (O.m u7) 1) (O.b (O.i (O.h (O.rB (x.L 0) u31 9)) u16 O.f) (O.j (O.r (O.m u4) 1) (s1 [.int u15,.bool O.k,.rows u4])) (O.c (O.e 43 [] [.int (O.q (x.L 0) u31 1)]) fun c8=>let u14:=(O.af (O.w c8 0) u27);(O.j (O.r (O.u (O.w c8 0)) 1) (O.j (O.r (O.u u27) 1) (O.c (O.e 43 [] [.int (O.q (x.L 0) u31 2)]) fun c9=>let u8:=(O.af u14 (O.w c9 0));let u17:=(O.ac [[.int (O.lit .u8 10)]]);let u3:=(O.ag u7 (O.ap (O.af u8 (O.o ⟨#[41]⟩))));let u1:=(O.ag u3 (O.ap (O.o ⟨#[32,78,79,84,32,79,85,84,10]⟩)));(O.j (O.r (O.u u14) 1) (O.j (O.r (O.u (O.w c9 0)) 1) (O.j (O.r (O.u u8) 1) (O.j (O.r (O.u (O.o ⟨#[41]⟩)) 1) (O.j (O.r (O.m u3) 1) (O.b u16 (O.j (O.r (O.m u1) 1) (s1 [.int u15,.bool O.k,.rows u1])) (O.c (O.e 40 [] [.int u22]) fun c10=>let u2:=(O.ag u3 (O.ap (O.af (O.o ⟨#[32]⟩) (O.w c10 0))));(O.j (O.r (O.u (O.o ⟨#[32]⟩)) 1) (O.j (O.r (O.u (O.w c10 0)) 1) (O.j (O.r (O.m u2) 1) (O.c (O.b (O.l u28 u20) (O.c (O.e 42 [] (ap O (xr x [2,3,0,0] 5) [.int u20])) fun c11=>let u0:=(O.ag u2 (O.ap (O.af u23 (O.w c11 0))));(O.j (O.r (O.u u23) 1) (O.j (O.r (O.u (O.w c11 0)) 1) (O.j (O.r (O.m u0) 1) (O.a [.bool O.k,.rows u0]))))) (O.a [.bool O.k,.rows u2])) fun c11=>let u11:=(O.ag (O.p c11 1) u17);(O.b (O.l u28 u19) (O.c (O.e 42 [] (ap O (xr x [2,3,0,0] 5) [.int u19])) fun c12=>let u6:=(O.ag (O.p c11 1) (O.ap (O.af u24 (O.w c12 0))));let u13:=(O.ag u6 u17);(O.j (O.r (O.u u24) 1) (O.j (O.r (O.u (O.w c12 0)) 1) (O.j (O.r (O.m u6) 1) (O.j (O.r (O.m u13) 1) (s1 [.int u15,.bool O.k,.rows u13])))))) (O.j (O.r (O.m u11) 1) (s1 [.int u15,.bool O.k,.rows u11]))))))))))))))))))))))))))))))) (O.a [.int u30,.bool O.k,.rows (O.p c1 2)]))) [.int u28,.bool O.k,.rows O.z]) fun c1=>(O.b (O.aa c1 0) (O.a [.str (O.w c1 1),.int (O.g c1 2)]) (O.j (O.r (O.m (O.p c1 2)) 1) (O.j (O.az (O.p c1 2)) (O.a [.str (O.ay (O.p c1 2)),.int u28])))))))
def BR (N:Nat):Env:=fun f fns ls=>(cond (Nat.beq f 37&&Af fns []) (LG N ls) (cond (Nat.beq f 38&&Af fns []) (Hg N ls) (cond (Nat.beq f 39&&Af fns []) (GT N ls) (cond (Nat.beq f 40&&Af fns []) (Hh N ls) (cond (Nat.beq f 42&&Af fns []) (EG N ls) (cond (Nat.beq f 43&&Af fns []) (G6 N ls) none))))))
theorem Pi {N ls}:BR N 37 [] ls=LG N ls:=id rfl
theorem Na {N ls}:BR N 38 [] ls=Hg N ls:=id rfl
theorem Mi {N ls}:BR N 39 [] ls=GT N ls:=id rfl
theorem NY {N ls}:BR N 40 [] ls=Hh N ls:=id rfl
theorem Pt {N ls}:BR N 42 [] ls=EG N ls:=id rfl
theorem PO {N ls}:BR N 43 [] ls=G6 N ls:=id rfl
def CJ:=oS N4 HC BR
def Ye:List Nat:=[]
def Y7 (O:Alg) (x:Ags O):O.M:=let u1:=(lq9 O 0);let u0:=(lq9 O 1);(O.a [.str (O.o ⟨#[84,69,83,84]⟩),.int (lq9 O 2),.int u0,.int u0,.int (lq9 O 4),.int u1,.int u0,.int u0,.bool O.f,.int u1,.int u1,.int u1,.int (lq9 O 11),.rows O.z])
def f9:Nat→Env:=eL []
def Kl:=oS Ye Y7 f9
def ZH:List Nat:=[0,0,0,0,0,1,0,0,0,0,1,0]
def Y6 (O:Alg) (x:Ags O):O.M:=let u0:=(lq9 O 0);(O.a (ap O [.int (O.lit .u8 4),.int u0,.int u0,.int u0,.bool O.f,.int u0,.int u0] (xr x [0,0,0,0,0,1,0,0,0,0,1,0] 0)))
def gF:Nat→Env:=eL []
def TR:=oS ZH Y6 gF
def fX:List Nat:=[]
def eg (O:Alg) (x:Ags O):O.M:=let u2:=(lq9 O 2);let u1:=(lq9 O 1);let u0:=(lq9 O 0);(O.c (O.e 60 [] [.int (O.lit .u8 1),.int (O.lit .u8 1),.int u1,.int u0,.int u0,.bool O.f,.int (O.lit .u8 0),.int u0,.int u0,.int u0,.bool O.f,.int u0]) fun c0=>(O.c (O.e 60 [] [.int (O.lit .u8 1),.int (O.lit .u8 0),.int u0,.int u0,.int u0,.bool O.f,.int (O.lit .u8 1),.int u1,.int u0,.int u0,.bool O.f,.int u0]) fun c1=>(O.c (O.e 60 [] [.int (O.lit .u8 2),.int (O.lit .u8 0),.int u0,.int u0,.int u0,.bool O.f,.int (O.lit .u8 0),.int u0,.int u0,.int u0,.bool O.f,.int u0]) fun c2=>(O.c (O.e 60 [] [.int (O.lit .u8 1),.int (O.lit .u8 1),.int u0,.int u0,.int (lq9 O 4),.bool O.f,.int (O.lit .u8 0),.int u0,.int u0,.int u0,.bool O.f,.int u0]) fun c3=>(O.a [.rows (O.ac [[.int (O.lit .u8 1),.int u1,.int u0,.int u0,.bool O.k,.int u0,.int u0,.int (O.lit .u8 0),.int (O.lit .u8 0),.int u0,.int u0,.int u0,.bool O.f,.int (O.lit .u8 0),.int u0,.int u0,.int u0,.bool O.f,.int u0],[.int (O.lit .u8 2),.int u0,.int u1,.int u2,.bool O.f,.int u0,.int u0,.int (O.lit .u8 0),.int (O.lit .u8 0),.int u0,.int u0,.int u0,.bool O.f,.int (O.lit .u8 0),.int u0,.int u0,.int u0,.bool O.f,.int u0],[.int (O.lit .u8 8),.int u0,.int u2,.int u0,.bool O.f,.int u0,.int u0,.int (O.lit .u8 0),.int (O.lit .u8 0),.int u0,.int u0,.int u0,.bool O.f,.int (O.lit .u8 0),.int u0,.int u0,.int u0,.bool O.f,.int u0],[.int (O.lit .u8 3),.int u0,.int u1,.int u0,.bool O.f,.int u0,.int u0,.int (O.lit .u8 0),.int (O.lit .u8 0),.int u0,.int u0,.int u0,.bool O.f,.int (O.lit .u8 0),.int u0,.int u0,.int u0,.bool O.f,.int u0],(cr O c0 [0,0,0,0,1,0,0,0,0,0,0,0,1,0,0,0,0,1,0] 0),(cr O c1 [0,0,0,0,1,0,0,0,0,0,0,0,1,0,0,0,0,1,0] 0),[.int (O.lit .u8 2),.int u0,.int u2,.int u1,.bool O.f,.int u0,.int u0,.int (O.lit .u8 0),.int (O.lit .u8 0),.int u0,.int u0,.int u0,.bool O.f,.int (O.lit .u8 0),.int u0,.int u0,.int u0,.bool O.f,.int u0],[.int (O.lit .u8 8),.int u0,.int u1,.int u0,.bool O.f,.int u0,.int u0,.int (O.lit .u8 0),.int (O.lit .u8 0),.int u0,.int u0,.int u0,.bool O.f,.int (O.lit .u8 0),.int u0,.int u0,.int u0,.bool O.f,.int u0],[.int (O.lit .u8 3),.int u0,.int u2,.int u0,.bool O.f,.int u0,.int u0,.int (O.lit .u8 0),.int (O.lit .u8 0),.int u0,.int u0,.int u0,.bool O.f,.int (O.lit .u8 0),.int u0,.int u0,.int u0,.bool O.f,.int u0],(cr O c2 [0,0,0,0,1,0,0,0,0,0,0,0,1,0,0,0,0,1,0] 0),(cr O c3 [0,0,0,0,1,0,0,0,0,0,0,0,1,0,0,0,0,1,0] 0)])])))))
def lK:Nat→Env:=eL [(60,TR)]
def O4:=oS fX eg lK
def ZB:List Nat:=[]
def Oi (O:Alg) (x:Ags O):O.M:=let u3:=(lq9 O 2);let u2:=(lq9 O 1);let u1:=(lq9 O 0);(O.c (O.e 25 [] []) fun c0=>(O.c (O.e 26 [] []) fun c1=>(O.c (O.e 10 [] (ap O (cr O c0 kR 0) [.rows (O.p c1 0),.int u1])) fun c2=>(O.c (O.e 14 [] [.rows (O.p c2 0),.str (O.o ⟨#[79,65,75,83]⟩),.rows (O.ac [[.str (O.o ⟨#[65,78,78]⟩)],[.str (O.o ⟨#[66,79,66]⟩)]]),.int u2,.int u3,.str (O.o ⟨#[69,76,77,83]⟩),.rows (O.ac [[.str (O.o ⟨#[67,76,69,79]⟩)],[.str (O.o ⟨#[68,65,78]⟩)]]),.int u3,.int u3]) fun c3=>let u0:=(O.i (O.d (O.g c2 1) u1) (O.d (O.g c3 1) u1) O.f);(O.c (O.b u0 (O.e 12 [] [.rows (O.p c2 0),.rows (O.ac [[.int u2,.int u2,.int u2,.int u1,.int u1,.bool O.f,.int (O.lit .u8 0),.int u1,.int u1,.bool O.k],[.int u3,.int u1,.int u2,.int u1,.int u1,.bool O.k,.int (O.lit .u8 1),.int u2,.int u1,.bool O.k]])]) (O.a [.bool O.f])) fun c4=>(O.a [.bool (O.i (O.i u0 (O.n c4 0) O.f) (O.aj (O.w c3 0) (O.o ⟨#[65,78,78,32,40,99,41,58,32,49,32,40,49,41,32,78,79,84,32,79,85,84,10,66,79,66,32,40,107,41,58,32,48,32,40,49,41,32,66,79,87,76,69,68,32,98,32,67,76,69,79,10]⟩)) O.f)]))))))
def EH:Nat→Env:=eL [(10,DT),(12,Ce),(14,CJ),(25,Kl),(26,O4)]
theorem R6 {N ls}:EH N 10 [] ls=DT N ls:=id rfl
theorem Li {N ls}:EH N 12 [] ls=Ce N ls:=id rfl
theorem RL {N ls}:EH N 14 [] ls=CJ N ls:=id rfl
theorem UY {N ls}:EH N 25 [] ls=Kl N ls:=id rfl
theorem WS {N ls}:EH N 26 [] ls=O4 N ls:=id rfl
def Kh:=oS ZB Oi EH
def W8:List Nat:=[3]
def O5 (O:Alg) (x:Ags O):O.M:=let u1:=(O.m (x.L 0));let u0:=(O.ai (O.l (lq9 O 11) u1) (lq9 O 11) u1);(O.j (O.al (lq9 O 0) u0 u1) (O.a [.rows (O.aq (x.L 0) (lq9 O 0) u0)]))
def Ke (N:Nat):Env:=fun f fns ls=>none
def O1:=oS W8 O5 Ke
def Y5:List Nat:=[2,3,0,0]
def Oc (O:Alg) (x:Ags O):O.M:=let u11:=(lq9 O 0);let u10:=(lq9 O 20);let u9:=(O.m (x.L 1));let u8:=(O.u (x.S 0));let u7:=(O.ai (O.l u10 u8) u10 u8);let u6:=(O.ai (O.l (lq9 O 12) u9) (lq9 O 12) u9);let u5:=(O.aq (x.L 1) u11 u6);let u4:=(O.m u5);(O.j (O.al u11 u6 u9) (O.c (O.y (fun s0 c0=>let u12:=(O.g c0 1);let u3:=(O.rS u5 u12 0);let u2:=(O.u u3);let u1:=(O.ai (O.l u10 u2) u10 u2);let u0:=(O.ag (O.p c0 0) (O.ac [[.str (O.ar u3 u11 u1)]]));(O.b (O.l u12 u4) (O.j (O.t u12 u4) (O.j (O.al u11 u1 u2) (O.j (O.r (O.m u0) 16) (s0 [.rows u0,.int (O.s .i64 u12 (lq9 O 1))])))) (O.a [.rows (O.p c0 0)]))) [.rows O.z,.int u11]) fun c0=>(O.j (O.al u11 u7 u8) (O.a [.str (O.ar (x.S 0) u11 u7),.rows (O.p c0 0),.int (x.I 2),.int (x.I 3)]))))
def WD:Nat→Env:=eL []
def Od:=oS Y5 Oc WD
def bB:List Nat:=[2]
def Qf (O:Alg) (x:Ags O):O.M:=let u3:=(lq9 O 0);let u2:=(O.u (x.S 0));(O.b (O.i (O.aj (x.S 0) (O.o ⟨#[]⟩)) O.k (O.l (lq9 O 16) u2)) (O.a [.bool O.f]) (O.c (O.y (fun s0 c0=>let u4:=(O.g c0 0);let u1:=(O.ax (x.S 0) u4);let u0:=(O.s .i64 u4 (lq9 O 1));(O.b (O.l u4 u2) (O.j (O.t u4 u2) (O.b (O.i (O.v (O.lit .u8 65) u1) (O.v u1 (O.lit .u8 90)) O.f) (s0 [.int u0]) (O.b (O.i (O.d u4 u3) O.k (O.i (O.i (O.h (O.d u1 (O.lit .u8 95))) (O.h (O.d u1 (O.lit .u8 45))) O.f) (O.i (O.l u1 (O.lit .u8 48)) O.k (O.l (O.lit .u8 57) u1)) O.f)) (O.a [.int u3,.bool O.f]) (s0 [.int u0])))) (O.a [.int (lq9 O 1)]))) [.int u3]) fun c0=>(O.b (O.aa c0 0) (O.a [.bool (O.n c0 1)]) (O.a [.bool O.k]))))
def Wt:Nat→Env:=eL []
def Mf:=oS bB Qf Wt
def aM:List Nat:=[2,3,0,0,2]
def QS (O:Alg) (x:Ags O):O.M:=let u1:=(lq9 O 0);(O.c (O.y (fun s0 c0=>let u2:=(O.g c0 0);let u0:=(O.s .i64 u2 (lq9 O 1));(O.b (O.l u2 (O.m (x.L 1))) (O.j (O.t u2 (O.m (x.L 1))) (O.b (O.aj (O.rS (x.L 1) u2 0) (x.S 4)) (O.a [.int u1,.int u0]) (s0 [.int u0]))) (O.a [.int (lq9 O 1)]))) [.int u1]) fun c0=>(O.b (O.aa c0 0) (O.a [.int (O.g c0 1)]) (O.a [.int u1])))
def XK:Nat→Env:=eL []
def Mw:=oS aM QS XK
def Yo:List Nat:=[2,3,0,0]
def Ou (O:Alg) (x:Ags O):O.M:=let u4:=(lq9 O 0);let u3:=(lq9 O 1);let u2:=(O.m (x.L 1));(O.c (O.e 78 [] [.str (x.S 0)]) fun c0=>(O.b (O.h (O.n c0 0)) (O.a [.int (lq9 O 5)]) (O.b (O.i (O.l u2 (lq9 O 2)) O.k (O.l (lq9 O 11) u2)) (O.a [.int (lq9 O 9)]) (O.c (O.y (fun s1 c1=>let u5:=(O.g c1 0);let u1:=(O.rS (x.L 1) u5 0);let u0:=(O.s .i64 u5 u3);(O.b (O.l u5 u2) (O.j (O.t u5 u2) (O.c (O.e 78 [] [.str u1]) fun c2=>(O.b (O.h (O.n c2 0)) (O.a [.int u4,.int (lq9 O 5)]) (O.c (O.e 79 [] (ap O (xr x [2,3,0,0] 0) [.str u1])) fun c3=>(O.b (O.h (O.d (O.g c3 0) u0)) (O.a [.int u4,.int (lq9 O 7)]) (s1 [.int u0])))))) (O.a [.int u3]))) [.int u4]) fun c1=>(O.b (O.aa c1 0) (O.a [.int (O.g c1 1)]) (O.b (O.i (O.i (O.i (O.l (x.I 2) u3) O.k (O.l u2 (x.I 2))) O.k (O.l (x.I 3) u3)) O.k (O.l u2 (x.I 3))) (O.a [.int (lq9 O 6)]) (O.a [.int u4])))))))
def LR:Nat→Env:=eL [(78,Mf),(79,Mw)]
theorem VT {N ls}:LR N 78 [] ls=Mf N ls:=id rfl
theorem Un {N ls}:LR N 79 [] ls=Mw N ls:=id rfl
def KX:=oS Yo Ou LR
def Wz:List Nat:=[0,0,2,3,0,0]
def MM (O:Alg) (x:Ags O):O.M:=(O.a [.bool (O.i (O.v (x.I 1) (x.I 0)) (O.v (x.I 0) (O.m (x.L 3))) O.f)])
def Tw:Nat→Env:=eL []
def JC:=oS Wz MM Tw
def Y8:List Nat:=[0]
def On (O:Alg) (x:Ags O):O.M:=(O.a [.bool (O.i (O.v (lq9 O 0) (x.I 0)) (O.v (x.I 0) (lq9 O 1000000)) O.f)])
def Vm:Nat→Env:=eL []
def IP:=oS Y8 On Vm
def Yc:List Nat:=[]
def Yr (O:Alg) (x:Ags O):O.M:=(O.a [.rows (O.ac [[.str (O.o ⟨#[78,79,84,79,85,84]⟩)],[.str (O.o ⟨#[66,79,87,76,69,68]⟩)],[.str (O.o ⟨#[67,65,85,71,72,84]⟩)],[.str (O.o ⟨#[76,66,87]⟩)],[.str (O.o ⟨#[83,84,85,77,80,69,68]⟩)],[.str (O.o ⟨#[72,73,84,87,73,67,75,69,84]⟩)],[.str (O.o ⟨#[82,85,78,79,85,84]⟩)],[.str (O.o ⟨#[72,73,84,84,87,73,67,69]⟩)],[.str (O.o ⟨#[79,66,83,84,82,85,67,84,73,78,71]⟩)],[.str (O.o ⟨#[84,73,77,69,68,79,85,84]⟩)],[.str (O.o ⟨#[82,69,84,73,82,69,68]⟩)]])])
def fu:Nat→Env:=eL []
def IQ:=oS Yc Yr fu
def aK:List Nat:=[0]
def MZ (O:Alg) (x:Ags O):O.M:=(O.b (O.l (O.lit .u8 10) (x.I 0)) (O.a [.str (O.o ⟨#[]⟩)]) (O.c (O.e 80 [] []) fun c0=>(O.j (O.t (x.I 0) (O.m (O.p c0 0))) (O.a [.str (O.rS (O.p c0 0) (x.I 0) 0)]))))
def Q6:Nat→Env:=eL [(80,IQ)]
theorem M4 {N ls}:Q6 N 80 [] ls=IQ N ls:=id rfl
def Mq:=oS aK MZ Q6
end Go.Px
