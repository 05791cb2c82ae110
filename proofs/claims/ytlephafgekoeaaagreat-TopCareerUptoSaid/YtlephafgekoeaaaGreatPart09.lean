/- Part 9. -/
import Derived.Test.YtlephafgekoeaaaGreatPart08
set_option linter.unusedVariables false
set_option linter.unusedSimpArgs false
namespace Go.Px
set_option maxRecDepth 100000
def Ru:List Nat:=[3]
def lq9 (O:Alg) (n:Int):O.I:=O.lit .i64 n
def JO (O:Alg) (x:Ags O):O.M:=let u1:=(O.j (x.L 0));let u0:=(O.af (O.n (lq9 O 50) u1) (lq9 O 50) u1);(O.l (O.ai (lq9 O 0) u0 u1) (O.a [.rows (O.ag (x.L 0) (lq9 O 0) u0)]))
def HD (N:Nat):Env:=fun f fns ls=>none
def Gp:=oS Ru JO HD
def dv:List Nat:=[2]
def Qi (O:Alg) (x:Ags O):O.M:=let u4:=(lq9 O 1);let u3:=(lq9 O 0);let u2:=(O.bb (x.S 0));let u1:=(O.j u2);(O.d (O.t (fun s0 c0=>let u5:=(O.c c0 0);let u0:=(O.r u2 u5 0);(O.b (O.n u5 u1) (O.l (O.q u5 u1) (O.b (O.i (O.g (O.i (O.w (O.lit .u8 65) u0) (O.w u0 (O.lit .u8 90)) O.h)) (O.i (O.e u5 u3) O.m (O.i (O.i (O.g (O.e u0 (O.lit .u8 95))) (O.g (O.e u0 (O.lit .u8 45))) O.h) (O.i (O.n u0 (O.lit .u8 48)) O.m (O.n (O.lit .u8 57) u0)) O.h)) O.h) (O.a [.int u3,.bool O.h]) (s0 [.int (O.o .i64 u5 u4)]))) (O.a [.int u4]))) [.int u3]) fun c0=>(O.b (O.z c0 0) (O.a [.bool (O.p c0 1)]) (O.a [.bool (O.i (O.w u4 (O.aj (x.S 0))) (O.w (O.aj (x.S 0)) (lq9 O 16)) O.h)])))
def Yv:Nat→Env:=eL []
def Fm:=oS dv Qi Yv
def VD:List Nat:=[0,0,0]
def VJ (O:Alg) (x:Ags O):O.M:=(O.a [.bool (O.i (O.w (x.I 1) (x.I 0)) (O.w (x.I 0) (x.I 2)) O.h)])
def cx:Nat→Env:=eL []
def C5:=oS VD VJ cx
def U1:List Nat:=[2,0,0,0,0,0,0,0,1,0,0,0,0,3]
def J4 (O:Alg) (x:Ags O):O.M:=let u10:=(lq9 O 1);let u9:=(lq9 O 0);(O.d (O.f 88 [] [.int (x.I 1),.int (lq9 O 2),.int (lq9 O 11)]) fun c0=>(O.d (O.b (O.p c0 0) (O.f 88 [] [.int (x.I 2),.int u10,.int (lq9 O 2)]) (O.a [.bool O.h])) fun c1=>let u8:=(O.i (O.p c0 0) (O.p c1 0) O.h);(O.d (O.b u8 (O.f 88 [] [.int (x.I 3),.int u9,.int (lq9 O 90)]) (O.a [.bool O.h])) fun c2=>let u7:=(O.i u8 (O.p c2 0) O.h);(O.d (O.b u7 (O.f 88 [] [.int (x.I 4),.int (lq9 O 4),.int (lq9 O 8)]) (O.a [.bool O.h])) fun c3=>let u6:=(O.i u7 (O.p c3 0) O.h);(O.d (O.b u6 (O.f 88 [] [.int (x.I 5),.int u9,.int (lq9 O 90)]) (O.a [.bool O.h])) fun c4=>let u5:=(O.i u6 (O.p c4 0) O.h);(O.d (O.b u5 (O.f 88 [] [.int (x.I 6),.int u10,.int (lq9 O 5)]) (O.a [.bool O.h])) fun c5=>let u4:=(O.i u5 (O.p c5 0) O.h);(O.d (O.b u4 (O.f 88 [] [.int (x.I 7),.int u10,.int (lq9 O 5)]) (O.a [.bool O.h])) fun c6=>let u3:=(O.i u4 (O.p c6 0) O.h);(O.d (O.b u3 (O.f 88 [] [.int (x.I 9),.int u9,.int (lq9 O 200)]) (O.a [.bool O.h])) fun c7=>let u2:=(O.i u3 (O.p c7 0) O.h);(O.d (O.b u2 (O.f 88 [] [.int (x.I 10),.int u9,.int (lq9 O 1000)]) (O.a [.bool O.h])) fun c8=>let u1:=(O.i u2 (O.p c8 0) O.h);(O.d (O.b u1 (O.f 88 [] [.int (x.I 11),.int u9,.int (lq9 O 9)]) (O.a [.bool O.h])) fun c9=>let u0:=(O.i u1 (O.p c9 0) O.h);(O.d (O.b u0 (O.f 88 [] [.int (x.I 12),.int u9,.int (lq9 O 11)]) (O.a [.bool O.h])) fun c10=>(O.a [.bool (O.i u0 (O.p c10 0) O.h)]))))))))))))
def MA:Nat→Env:=eL [(88,C5)]
def HG:=oS U1 J4 MA
def W4:List Nat:=[2,0,0,0,0,0,0,0,1,0,0,0,0,3]
def Li (O:Alg) (x:Ags O):O.M:=let u7:=(lq9 O 1);let u6:=(lq9 O 0);let u5:=(O.j (x.L 13));(O.b (O.n (lq9 O 8) u5) (O.a [.int (lq9 O 9)]) (O.d (O.t (fun s0 c0=>let u8:=(O.c c0 0);let u4:=(O.r (x.L 13) u8 1);let u3:=(O.r (x.L 13) u8 0);let u2:=(O.n u6 u8);let u1:=(O.v .i64 u8 u7);let u0:=(O.i (O.i (O.n u3 u7) O.m (O.n u4 u3)) O.m (O.n (x.I 3) u4));(O.b (O.n u8 u5) (O.l (O.q u8 u5) (O.d (O.b (O.g u0) (O.f 88 [] [.int (O.r (x.L 13) u8 2),.int u6,.int (lq9 O 11)]) (O.a [.bool O.h])) fun c1=>(O.b (O.i u0 O.m (O.g (O.p c1 0))) (O.a [.int u6,.int (lq9 O 2)]) (O.l (O.g (O.aa u2 (O.g (O.q u1 u5)))) (O.b (O.i u2 (O.w u3 (O.r (x.L 13) u1 1)) O.h) (O.a [.int u6,.int (lq9 O 8)]) (s0 [.int (O.o .i64 u8 u7)])))))) (O.a [.int u7]))) [.int u6]) fun c0=>(O.b (O.z c0 0) (O.a [.int (O.c c0 1)]) (O.a [.int u6]))))
def NK:Nat→Env:=eL [(88,C5)]
def IU:=oS W4 Li NK
def Yj:List Nat:=[2,0,0,0,0,0,0,0,1,0,0,0,0,3]
def Mu (O:Alg) (x:Ags O):O.M:=let u2:=(lq9 O 0);let u1:=(O.g (O.e (x.I 5) u2));let u0:=(O.i (O.g (O.e (x.I 10) u2)) (O.e (x.I 2) (lq9 O 1)) O.h);(O.d (O.f 60 [] [.str (x.S 0)]) fun c0=>(O.b (O.g (O.p c0 0)) (O.a [.int (lq9 O 5)]) (O.d (O.f 61 [] (xr x kR 0)) fun c1=>(O.b (O.g (O.p c1 0)) (O.a [.int (lq9 O 2)]) (O.d (O.b u0 (O.a [.bool u0]) (O.a [.bool (O.i (O.i u1 O.m (O.n u2 (O.j (x.L 13)))) (O.e (x.I 3) u2) O.h)])) fun c2=>(O.b (O.p c2 0) (O.a [.int (lq9 O 1)]) (O.b (O.i u1 (O.n (O.al .i64 (x.I 5) (x.I 1)) (x.I 3)) O.h) (O.a [.int (lq9 O 13)]) (O.d (O.f 62 [] (xr x kR 0)) fun c3=>(O.a [.int (O.c c3 0)])))))))))
def HU:Nat→Env:=eL [(60,Fm),(61,HG),(62,IU)]
def AU:=oS Yj Mu HU
def Nq:List Nat:=[3,2]
def Es (O:Alg) (x:Ags O):O.M:=(O.d (O.t (fun s0 c0=>let u0:=(O.c c0 0);(O.b (O.n u0 (O.j (x.L 0))) (O.l (O.q u0 (O.j (x.L 0))) (O.b (O.ao (x.S 1) (O.rS (x.L 0) u0 0)) (O.a [.int (lq9 O 0),.int u0]) (s0 [.int (O.o .i64 u0 (lq9 O 1))]))) (O.a [.int (lq9 O 1)]))) [.int (lq9 O 0)]) fun c0=>(O.b (O.z c0 0) (O.a [.int (O.c c0 1)]) (O.a [.int (lq9 O (-1))])))
def L9:Nat→Env:=eL []
def Bh:=oS Nq Es L9
def Kr:List Nat:=[3,2]
def Dp (O:Alg) (x:Ags O):O.M:=(O.d (O.f 66 [] [.rows (x.L 0),.str (x.S 1)]) fun c0=>(O.a [.bool (O.w (lq9 O 0) (O.c c0 0))]))
def FE:Nat→Env:=eL [(66,Bh)]
theorem Hb {N ls}:FE N 66 [] ls=Bh N ls:=id rfl
def BF:=oS Kr Dp FE
def ZJ:List Nat:=[2,3,0,0,0]
def Mw (O:Alg) (x:Ags O):O.M:=let u3:=(O.u ⟨#[32,40,99,41]⟩);let u2:=(O.u ⟨#[32,40,107,41]⟩);let u1:=(O.v .i64 (x.I 4) (lq9 O 1));let u0:=(O.rS (x.L 1) u1 0);(O.b (O.i (O.n (x.I 4) (lq9 O 1)) O.m (O.n (O.j (x.L 1)) (x.I 4))) (O.a [.str (O.u ⟨#[]⟩)]) (O.l (O.q u1 (O.j (x.L 1))) (O.d (O.b (O.e (x.I 4) (x.I 2)) (O.l (O.ab (O.aj u0) 1) (O.l (O.ab (O.aj u3) 1) (O.a [.str (O.aw u0 u3)]))) (O.a [.str u0])) fun c0=>let u4:=(O.cS c0 0);(O.b (O.e (x.I 4) (x.I 3)) (O.l (O.ab (O.aj u4) 1) (O.l (O.ab (O.aj u2) 1) (O.a [.str (O.aw u4 u2)]))) (O.a [.str u4])))))
def VT:Nat→Env:=eL []
def Je:=oS ZJ Mw VT
def Y5:List Nat:=[2,3,0,0]
def M2 (O:Alg) (x:Ags O):O.M:=let u4:=(O.u ⟨#[]⟩);let u3:=(lq9 O 0);let u2:=(O.j (x.L 1));(O.d (O.f 60 [] [.str (x.S 0)]) fun c0=>(O.b (O.g (O.p c0 0)) (O.a [.int (lq9 O 5)]) (O.b (O.i (O.n u2 (lq9 O 2)) O.m (O.n (lq9 O 11) u2)) (O.a [.int (lq9 O 9)]) (O.d (O.t (fun s1 c1=>let u5:=(O.c c1 0);let u1:=(O.rS (x.L 1) u5 0);(O.b (O.n u5 u2) (O.l (O.q u5 u2) (O.d (O.f 60 [] [.str u1]) fun c2=>(O.b (O.g (O.p c2 0)) (O.a [.int u3,.int (lq9 O 5)]) (O.l (O.ai u3 u5 u2) (O.d (O.f 63 [] [.rows (O.ag (x.L 1) u3 u5),.str u1]) fun c3=>(O.b (O.p c3 0) (O.a [.int u3,.int (lq9 O 7)]) (s1 [.int (O.o .i64 u5 (lq9 O 1))]))))))) (O.a [.int (lq9 O 1)]))) [.int u3]) fun c1=>(O.b (O.z c1 0) (O.a [.int (O.c c1 1)]) (O.d (O.f 64 [] (ap O (xr x [2,3,0,0] 0) [.int (x.I 2)])) fun c2=>let u0:=(O.ao (O.cS c2 0) u4);(O.d (O.b (O.g u0) (O.f 64 [] (ap O (xr x [2,3,0,0] 0) [.int (x.I 3)])) (O.a [.str u4])) fun c3=>(O.b (O.i u0 O.m (O.ao (O.cS c3 0) u4)) (O.a [.int (lq9 O 6)]) (O.a [.int u3])))))))))
def Gz:Nat→Env:=eL [(60,Fm),(63,BF),(64,Je)]
theorem Ui {N ls}:Gz N 60 [] ls=Fm N ls:=id rfl
theorem KZ {N ls}:Gz N 63 [] ls=BF N ls:=id rfl
theorem KH {N ls}:Gz N 64 [] ls=Je N ls:=id rfl
def Cx:=oS Y5 M2 Gz
def bX:List Nat:=[2,3,0,0,2]
def OD (O:Alg) (x:Ags O):O.M:=(O.d (O.f 66 [] [.rows (x.L 1),.str (x.S 4)]) fun c0=>(O.a [.int (O.o .i64 (O.c c0 0) (lq9 O 1))]))
def QO:Nat→Env:=eL [(66,Bh)]
theorem NX {N ls}:QO N 66 [] ls=Bh N ls:=id rfl
def DA:=oS bX OD QO
def Zi:List Nat:=[2,0,0,0,0,0,0,0,1,0,0,0,0,3,2,3,0,0,2,3,0,0]
def Oc (O:Alg) (x:Ags O):O.M:=let u6:=(lq9 O 1);let u5:=(lq9 O 0);let u4:=(O.j (x.L 15));let u3:=(O.ao (x.S 14) (x.S 18));(O.d (O.f 27 [] (xr x kR 0)) fun c0=>(O.d (O.f 28 [] (xr x [2,3,0,0] 14)) fun c1=>(O.d (O.f 28 [] (xr x [2,3,0,0] 18)) fun c2=>let u2:=(O.y [[.int (O.c c0 0)],[.int (O.c c1 0)],[.int (O.c c2 0)]]);let u1:=(O.j u2);(O.d (O.t (fun s3 c3=>let u7:=(O.c c3 0);let u0:=(O.r u2 u7 0);(O.b (O.n u7 u1) (O.l (O.q u7 u1) (O.b (O.g (O.e u0 u5)) (O.a [.int u5,.int u0]) (s3 [.int (O.o .i64 u7 u6)]))) (O.a [.int u6]))) [.int u5]) fun c3=>(O.b (O.z c3 0) (O.a [.int (O.c c3 1)]) (O.b (O.i (O.g (O.e u4 (x.I 1))) O.m (O.g (O.e (O.j (x.L 19)) (x.I 1)))) (O.a [.int u6]) (O.b (O.g u3) (O.d (O.d (O.t (fun s4 c4=>let u8:=(O.c c4 0);(O.b (O.n u8 u4) (O.l (O.q u8 u4) (O.d (O.f 31 [] (ap O (cr O c4 [2,3,0,0] 1) [.str (O.rS (x.L 15) u8 0)])) fun c5=>(O.b (O.n u5 (O.c c5 0)) (O.a (ap O [.int u5] (cr O c4 [0,2,3,0,0] 0))) (s4 (ap O [.int (O.o .i64 u8 u6)] (cr O c4 [2,3,0,0] 1)))))) (O.a (ap O [.int u6] (cr O c4 [2,3,0,0] 1))))) (ap O [.int u5] (xr x [2,3,0,0] 18))) fun c4=>(O.b (O.z c4 0) (O.a (cr O c4 [0,2,3,0,0] 1)) (O.a (ap O [.int (lq9 O (-1))] (cr O c4 [2,3,0,0] 1))))) fun c4=>(O.b (O.i u3 O.m (O.w u5 (O.c c4 0))) (O.a [.int (lq9 O 7)]) (O.a [.int u5]))) (O.b (O.i u3 O.m O.h) (O.a [.int (lq9 O 7)]) (O.a [.int u5])))))))))
def IY:Nat→Env:=eL [(27,AU),(28,Cx),(31,DA)]
theorem To {N ls}:IY N 27 [] ls=AU N ls:=id rfl
theorem UT {N ls}:IY N 28 [] ls=Cx N ls:=id rfl
theorem Uj {N ls}:IY N 31 [] ls=DA N ls:=id rfl
def Ow:=oS Zi Oc IY
def Dv (N:Nat) (ls:List PV):Option (List PV):=GA 24 ls
def Y6:List Nat:=[2,0,0,0,0,0,0,0,1,0,0,0,0,3]
def M3 (O:Alg) (x:Ags O):O.M:=(O.d (O.f 100 [] [.rows (x.L 13)]) fun c0=>(O.a (ap O (xr x [2,0,0,0,0,0,0,0,1,0,0,0,0] 0) [.rows (O.k c0 0)])))
def OM:Nat→Env:=eL [(100,Dv)]
theorem Nb {N ls}:OM N 100 [] ls=Dv N ls:=id rfl
def D2:=oS Y6 M3 OM
def da:List Nat:=[2,0,0,0,0,0,0,0,1,0,0,0,0,3]
def Qs (O:Alg) (x:Ags O):O.M:=let u0:=(lq9 O 0);(O.d (O.f 27 [] (xr x kR 0)) fun c0=>(O.b (O.g (O.e (O.c c0 0) u0)) (O.a [.str (O.u ⟨#[]⟩),.int u0,.int u0,.int u0,.int u0,.int u0,.int u0,.int u0,.bool O.h,.int u0,.int u0,.int u0,.int u0,.rows O.s,.int (O.lit .u8 0),.int u0,.bool O.h,.rows O.s,.int u0,.int u0,.int (O.lit .u8 0),.int u0,.int u0,.int (O.c c0 0)]) (O.d (O.f 89 [] (xr x kR 0)) fun c1=>(O.a (ap O (cr O c1 kR 0) [.int (O.lit .u8 1),.int u0,.bool O.h,.rows O.s,.int u0,.int u0,.int (O.lit .u8 0),.int u0,.int u0,.int u0])))))
def ND:Nat→Env:=eL [(27,AU),(89,D2)]
theorem Uq {N ls}:ND N 27 [] ls=AU N ls:=id rfl
theorem Ul {N ls}:ND N 89 [] ls=D2 N ls:=id rfl
def Qr:=oS da Qs ND
def SM:List Nat:=[0,0,0]
def SQ (O:Alg) (x:Ags O):O.M:=(O.a [.bool (O.i (O.w (x.I 1) (x.I 0)) (O.w (x.I 0) (x.I 2)) O.h)])
def ZO:Nat→Env:=eL []
def Aw:=oS SM SQ ZO
def SJ:List Nat:=[0,0,0,0,0,0,0,0,0,0,0,0,0,0,3,0,3,3,1,3,1,0,0,0,3,0,0,0,0]
def Hu (O:Alg) (x:Ags O):O.M:=let u5:=(lq9 O 1);let u4:=(lq9 O 0);let u0:=(O.g (O.e (x.I 12) u4));(O.d (O.t (fun s0 c0=>let u8:=(O.c c0 1);let u7:=(O.c c0 0);let u6:=(O.c c0 3);let u2:=(O.r (x.L 14) u6 0);let u9:=(O.i (O.p c0 2) O.m (O.g (O.e u2 (O.lit .u8 0))));let u1:=(O.o .i64 u6 u5);(O.b (O.n u6 (O.j (x.L 14))) (O.l (O.q u6 (O.j (x.L 14))) (O.b (O.n (O.lit .u8 3) u2) (O.a [.int u4,.bool O.h]) (O.b (O.e u2 (O.lit .u8 1)) (O.b (O.i (O.g (O.e (x.I 12) u1)) (O.g (O.e (x.I 13) u1)) O.h) (O.a [.int u4,.bool O.h]) (s0 [.int u7,.int (O.o .i64 u8 u5),.bool u9,.int u1])) (O.b (O.e u2 (O.lit .u8 2)) (s0 [.int (O.o .i64 u7 u5),.int u8,.bool u9,.int u1]) (s0 [.int u7,.int u8,.bool u9,.int u1]))))) (O.a (ap O [.int u5] (cr O c0 [0,0,1] 0))))) [.int u4,.int u4,.bool O.h,.int u4]) fun c0=>(O.b (O.z c0 0) (O.a [.bool (O.p c0 1)]) (O.d (O.f 124 [] [.int (x.I 12),.int u4,.int (x.I 28)]) fun c1=>let u3:=(O.g (O.p c1 0));(O.d (O.b (O.g u3) (O.f 124 [] [.int (x.I 13),.int u4,.int (x.I 28)]) (O.a [.bool O.h])) fun c2=>(O.b (O.i (O.i u3 O.m (O.g (O.p c2 0))) O.m (O.i (O.e (x.I 12) (x.I 13)) u0 O.h)) (O.a [.bool O.h]) (O.d (O.b u0 (O.a [.int (O.o .i64 u4 u5)]) (O.a [.int u4])) fun c3=>(O.d (O.b (O.g (O.e (x.I 13) u4)) (O.a [.int (O.o .i64 (O.c c3 0) u5)]) (O.a [.int (O.c c3 0)])) fun c4=>(O.a [.bool (O.i (O.i (O.e (O.c c4 0) (O.c c0 2)) (O.i (O.g (O.p c0 3)) O.m (O.n u4 (O.c c4 0))) O.h) (O.e (O.c c0 1) (x.I 4)) O.h)]))))))))
def Jy:Nat→Env:=eL [(124,Aw)]
def FN:=oS SJ Hu Jy
def RJ:List Nat:=[3,0]
def G5 (O:Alg) (x:Ags O):O.M:=(O.d (O.t (fun s0 c0=>let u0:=(O.c c0 0);(O.b (O.n u0 (O.j (x.L 0))) (O.l (O.q u0 (O.j (x.L 0))) (O.b (O.e (x.I 1) (O.r (x.L 0) u0 0)) (O.a [.int (lq9 O 0),.int u0]) (s0 [.int (O.o .i64 u0 (lq9 O 1))]))) (O.a [.int (lq9 O 1)]))) [.int (lq9 O 0)]) fun c0=>(O.b (O.z c0 0) (O.a [.int (O.c c0 1)]) (O.a [.int (lq9 O (-1))])))
def OT:Nat→Env:=eL []
def Em:=oS RJ G5 OT
def Nu:List Nat:=[3,0]
def E6 (O:Alg) (x:Ags O):O.M:=(O.d (O.f 145 [] [.rows (x.L 0),.int (x.I 1)]) fun c0=>(O.a [.bool (O.w (lq9 O 0) (O.c c0 0))]))
def Gi:Nat→Env:=eL [(145,Em)]
def A2:=oS Nu E6 Gi
def Pi:List Nat:=[3,0]
def GU (O:Alg) (x:Ags O):O.M:=let u5:=(lq9 O 1);let u4:=(lq9 O 0);let u3:=(O.j (x.L 0));(O.d (O.t (fun s0 c0=>let u6:=(O.c c0 0);let u1:=(O.r (x.L 0) u6 0);(O.b (O.n u6 u3) (O.l (O.q u6 u3) (O.d (O.f 124 [] [.int u1,.int u5,.int (x.I 1)]) fun c1=>let u2:=(O.g (O.p c1 0));let u0:=(O.g u2);(O.l (O.g (O.aa u0 (O.g (O.ai u4 u6 u3)))) (O.d (O.b u0 (O.f 138 [] [.rows (O.ag (x.L 0) u4 u6),.int u1]) (O.a [.bool O.h])) fun c2=>(O.b (O.i u2 O.m (O.p c2 0)) (O.a [.int u4,.bool O.h]) (s0 [.int (O.o .i64 u6 u5)])))))) (O.a [.int u5]))) [.int u4]) fun c0=>(O.b (O.z c0 0) (O.a [.bool (O.p c0 1)]) (O.a [.bool O.m])))
def Ez:Nat→Env:=eL [(124,Aw),(138,A2)]
def EH:=oS Pi GU Ez
def Pl:List Nat:=[0]
def GX (O:Alg) (x:Ags O):O.M:=(O.d (O.f 124 [] [.int (x.I 0),.int (lq9 O 0),.int (lq9 O 1000000000)]) fun c0=>(O.a [.bool (O.g (O.p c0 0))]))
def IL:Nat→Env:=eL [(124,Aw)]
def EI:=oS Pl GX IL
def SK:List Nat:=[0,0,0,0,0,0,0,0,0,0,0,0,0,0,3,0,3,3,1,3,1,0,0,0,3,0,0,0]
def H5 (O:Alg) (x:Ags O):O.M:=let u2:=(lq9 O 0);let u1:=(O.ad (O.y [[.int (x.I 1)],[.int (x.I 3)],[.int (x.I 5)],[.int (x.I 6)],[.int (x.I 7)],[.int (x.I 8)],[.int (x.I 9)],[.int (x.I 10)],[.int (x.I 21)],[.int (x.I 23)],[.int (x.I 25)],[.int (x.I 26)]]) (x.L 19));let u0:=(O.j u1);(O.l (O.ab u0 8) (O.d (O.d (O.t (fun s0 c0=>let u3:=(O.c c0 0);(O.b (O.n u3 u0) (O.l (O.q u3 u0) (O.d (O.f 139 [] [.int (O.r u1 u3 0)]) fun c1=>(O.b (O.p c1 0) (O.a [.int u2,.int u3]) (s0 [.int (O.o .i64 u3 (lq9 O 1))])))) (O.a [.int (lq9 O 1)]))) [.int u2]) fun c0=>(O.b (O.z c0 0) (O.a [.int (O.c c0 1)]) (O.a [.int (lq9 O (-1))]))) fun c0=>(O.a [.bool (O.g (O.w u2 (O.c c0 0)))])))
def Ju:Nat→Env:=eL [(139,EI)]
def FT:=oS SK H5 Ju
def VN:List Nat:=[2,0,0,0,0,0,0,0,1,0,0,0,0,3,0,0,0,0,0,0,0,0,0,0,0,0,0,0,3,0,3,3,1,3,1,0,0,0,3,0,0,0]
def KN (O:Alg) (x:Ags O):O.M:=let u11:=(lq9 O 1);let u10:=(lq9 O 0);let u8:=(O.e (x.I 3) u10);let u7:=(O.g u8);let u4:=(O.i u8 (O.e (x.I 16) u10) O.h);(O.d (O.f 27 [] (xr x kR 0)) fun c0=>let u6:=(O.g (O.e (O.c c0 0) u10));(O.d (O.b (O.g u6) (O.f 124 [] [.int (x.I 14),.int u11,.int (lq9 O 2)]) (O.a [.bool O.h])) fun c1=>(O.b (O.i u6 O.m (O.g (O.p c1 0))) (O.a [.bool O.h]) (O.b (O.i (O.i (O.i (O.g (O.e (O.j (x.L 28)) (x.I 1))) O.m (O.g (O.e (O.j (x.L 33)) (x.I 1)))) O.m (O.g (O.e (O.j (x.L 38)) (x.I 1)))) O.m (O.n (O.lit .u8 5) (x.I 41))) (O.a [.bool O.h]) (O.d (O.f 125 [] (ap O (xr x kI 14) [.int (x.I 1)])) fun c2=>let u9:=(O.g (O.p c2 0));(O.d (O.b (O.g u9) (O.f 124 [] [.int (x.I 29),.int u10,.int (x.I 1)]) (O.a [.bool O.h])) fun c3=>let u5:=(O.i u9 O.m (O.g (O.p c3 0)));(O.d (O.b (O.g u5) (O.f 124 [] [.int (x.I 36),.int u10,.int (x.I 1)]) (O.a [.bool O.h])) fun c4=>let u3:=(O.i u5 O.m (O.g (O.p c4 0)));(O.d (O.b (O.g u3) (O.f 126 [] [.rows (x.L 30),.int (x.I 1)]) (O.a [.bool O.h])) fun c5=>let u2:=(O.i u3 O.m (O.g (O.p c5 0)));(O.d (O.b (O.g u2) (O.f 126 [] [.rows (x.L 31),.int (x.I 1)]) (O.a [.bool O.h])) fun c6=>(O.b (O.i u2 O.m (O.g (O.p c6 0))) (O.a [.bool O.h]) (O.d (O.b (O.aa (O.g u4) u7) (O.f 124 [] [.int (x.I 16),.int u11,.int (x.I 3)]) (O.a [.bool O.h])) fun c7=>let u1:=(O.i u4 O.m (O.i u7 (O.p c7 0) O.h));(O.d (O.b u1 (O.f 124 [] [.int (x.I 25),.int u10,.int (O.v .i64 (x.I 4) u11)]) (O.a [.bool O.h])) fun c8=>let u0:=(O.i u1 (O.p c8 0) O.h);(O.d (O.b u0 (O.f 127 [] (xr x kI 14)) (O.a [.bool O.h])) fun c9=>(O.a [.bool (O.i u0 (O.p c9 0) O.h)]))))))))))))))
def C2:Nat→Env:=eL [(27,AU),(124,Aw),(125,FN),(126,EH),(127,FT)]
def Bc:=oS VN KN C2
def ZL:List Nat:=[0]
def ZG (O:Alg) (x:Ags O):O.M:=(O.a [.int (O.v .i64 (lq9 O 3) (x.I 0))])
def gJ:Nat→Env:=eL []
def Ba:=oS ZL ZG gJ
def Y3:List Nat:=[2,0,0,0,0,0,0,0,1,0,0,0,0,3,0,0,1,3,0,0,0,0,0,0]
def Mo (O:Alg) (x:Ags O):O.M:=let u0:=(lq9 O 2);(O.d (O.b (O.i (x.B 16) (O.w u0 (x.I 23)) O.h) (O.a [.bool (O.e (x.I 23) u0)]) (O.a [.bool (O.e (O.as .i64 (x.I 23) u0) (lq9 O 1))])) fun c0=>(O.b (O.p c0 0) (O.d (O.f 117 [] [.int (x.I 15)]) fun c1=>(O.a [.int (O.c c1 0)])) (O.a [.int (x.I 15)])))
def Oj:Nat→Env:=eL [(117,Ba)]
theorem Sr {N ls}:Oj N 117 [] ls=Ba N ls:=id rfl
def D0:=oS Y3 Mo Oj
def ZE:List Nat:=[2,0,0,0,0,0,0,0,1,0,0,0,0,3,0,0,1,3,0,0,0,0,0]
def NC (O:Alg) (x:Ags O):O.M:=let u2:=(lq9 O 0);let u1:=(lq9 O 1);let u0:=(O.j (x.L 17));(O.d (O.t (fun s0 c0=>let u3:=(O.c c0 0);(O.b (O.n u3 u0) (O.l (O.q u3 u0) (O.b (O.g (O.aq (O.e (O.r (x.L 17) u3 27) (O.lit .u8 0)) (O.i (O.e (x.I 14) (O.lit .u8 3)) (O.e u3 (O.v .i64 u0 u1)) O.h))) (O.a [.int u2,.bool O.h]) (s0 [.int (O.o .i64 u3 u1)]))) (O.a [.int u1]))) [.int u2]) fun c0=>(O.b (O.z c0 0) (O.a [.bool (O.p c0 1)]) (O.a [.bool (O.i (O.g (O.e (x.I 14) (O.lit .u8 3))) O.m (O.n u2 u0))])))
def Vt:Nat→Env:=eL []
def Ji:=oS ZE NC Vt
def ZH:List Nat:=[2,0,0,0,0,0,0,0,1,0,0,0,0,3,0,0,1,3,0,0,0,0,0]
def Mt (O:Alg) (x:Ags O):O.M:=let u8:=(lq9 O 1);let u9:=(O.e (x.I 14) (O.lit .u8 1));let u7:=(lq9 O 2);let u6:=(lq9 O 0);let u5:=(O.j (x.L 17));let u3:=(O.e (x.I 15) u6);let u2:=(O.al .i64 u7 (x.I 2));let u1:=(O.g (O.e (x.I 2) u7));(O.d (O.f 27 [] (xr x kR 0)) fun c0=>(O.b (O.i (O.i (O.g (O.e (O.c c0 0) u6)) O.m (O.n (x.I 14) (O.lit .u8 1))) O.m (O.n (O.lit .u8 5) (x.I 14))) (O.a [.bool O.h]) (O.d (O.t (fun s1 c1=>let u11:=(O.c c1 0);let u0:=(O.af (O.e u11 u8) (x.I 19) (x.I 18));(O.b (O.n u11 u7) (O.l (O.q u11 u7) (O.b (O.i (O.n u0 u6) O.m (O.n (lq9 O 1000000) u0)) (O.a [.int u6,.bool O.h]) (s1 [.int (O.o .i64 u11 u8)]))) (O.a [.int u8]))) [.int u6]) fun c1=>(O.b (O.z c1 0) (O.a [.bool (O.p c1 1)]) (O.b (O.i (O.i (O.n (x.I 15) u6) O.m (O.n u7 (x.I 15))) O.m (O.n u2 u5)) (O.a [.bool O.h]) (O.b (O.i u3 (O.i (O.n u6 u5) O.m (O.i (O.g u9) (O.g (O.e (x.I 14) (O.lit .u8 5))) O.h)) O.h) (O.a [.bool O.h]) (O.b (O.i u9 (O.g u3) O.h) (O.a [.bool O.h]) (O.b (O.i (O.e (x.I 14) (O.lit .u8 2)) (O.e u5 u2) O.h) (O.a [.bool O.h]) (O.b (O.i (O.e (x.I 14) (O.lit .u8 4)) (O.i u1 O.m (O.g (O.e u5 u7))) O.h) (O.a [.bool O.h]) (O.b (O.i (x.B 16) (O.i u1 O.m (O.n u5 u7)) O.h) (O.a [.bool O.h]) (O.d (O.t (fun s2 c2=>let u10:=(O.c c2 0);(O.b (O.n u10 u5) (O.l (O.q u10 u5) (O.d (O.f 109 [] (ap O (xr x kR 0) (rr O (x.L 17) u10 kI 0))) fun c3=>let u4:=(O.g (O.p c3 0));(O.d (O.b (O.g u4) (O.f 110 [] (ap O (xr x kM 0) [.int u10])) (O.a [.int u6])) fun c4=>(O.b (O.i u4 O.m (O.g (O.e (O.r (x.L 17) u10 0) (O.c c4 0)))) (O.a [.int u6,.bool O.h]) (s2 [.int (O.o .i64 u10 u8)]))))) (O.a [.int u8]))) [.int u6]) fun c2=>(O.b (O.z c2 0) (O.a [.bool (O.p c2 1)]) (O.d (O.f 111 [] (xr x kM 0)) fun c3=>(O.a [.bool (O.p c3 0)]))))))))))))))
def E5:Nat→Env:=eL [(27,AU),(109,Bc),(110,D0),(111,Ji)]
theorem Sg {N ls}:E5 N 27 [] ls=AU N ls:=id rfl
theorem Is {N ls}:E5 N 109 [] ls=Bc N ls:=id rfl
theorem KJ {N ls}:E5 N 110 [] ls=D0 N ls:=id rfl
theorem KC {N ls}:E5 N 111 [] ls=Ji N ls:=id rfl
def D3:=oS ZH Mt E5
def XK:List Nat:=[0]
def LU (O:Alg) (x:Ags O):O.M:=(O.b (O.e (x.I 0) (O.lit .u8 7)) (O.a [.int (lq9 O 0),.int (lq9 O 11)]) (O.b (O.e (x.I 0) (O.lit .u8 13)) (O.a [.int (lq9 O 1),.int (lq9 O 99)]) (O.a [.int (lq9 O 0),.int (lq9 O 100000)])))
def UY:Nat→Env:=eL []
def H6:=oS XK LU UY
def Vi:List Nat:=[0,0,0]
def Oo (O:Alg) (x:Ags O):O.M:=(O.a [.bool (O.i (O.w (x.I 1) (x.I 0)) (O.w (x.I 0) (x.I 2)) O.h)])
def SS:Nat→Env:=eL []
def HW:=oS Vi Oo SS
def Gh (N:Nat) (ls:List PV):Option (List PV):=pW ls
def Pj:List Nat:=[2,0]
def Pn (O:Alg) (x:Ags O):O.M:=(O.d (O.f 140 [] [.str (x.S 0),.int (x.I 1)]) fun c0=>(O.a [.int (O.c c0 0)]))
def We:Nat→Env:=eL [(140,Gh)]
def ED:=oS Pj Pn We
def ZK:List Nat:=[]
def Y0 (O:Alg) (x:Ags O):O.M:=let u4:=(O.u ⟨#[]⟩);let u3:=(O.u ⟨#[112]⟩);let u2:=(O.u ⟨#[112,121]⟩);let u1:=(O.u ⟨#[115,121]⟩);let u0:=(O.u ⟨#[70,73,69,76,68]⟩);(O.a [.rows (O.y [[.str (O.u ⟨#[84,79,83,83]⟩),.str u1,.str (O.u ⟨#[66,65,84]⟩),.str u0],[.str (O.u ⟨#[79,80,69,78]⟩),.str (O.u ⟨#[112,111]⟩),.str u4,.str u4],[.str (O.u ⟨#[66,79,87,76]⟩),.str u3,.str u4,.str u4],[.str (O.u ⟨#[66,65,76,76]⟩),.str (O.u ⟨#[98]⟩),.str u4,.str u4],[.str (O.u ⟨#[69,78,84,69,82]⟩),.str u3,.str u4,.str u4],[.str (O.u ⟨#[82,69,84,73,82,69]⟩),.str u2,.str (O.u ⟨#[72,85,82,84]⟩),.str (O.u ⟨#[79,85,84]⟩)],[.str u0,.str (O.u ⟨#[114]⟩),.str u4,.str u4],[.str (O.u ⟨#[75,69,69,80,69,82]⟩),.str u3,.str u4,.str u4],[.str (O.u ⟨#[83,85,66]⟩),.str u2,.str (O.u ⟨#[79,78]⟩),.str (O.u ⟨#[79,70,70]⟩)],[.str (O.u ⟨#[78,69,87,66,65,76,76]⟩),.str u4,.str u4,.str u4],[.str (O.u ⟨#[68,69,67,76,65,82,69]⟩),.str (O.u ⟨#[115]⟩),.str u4,.str u4],[.str (O.u ⟨#[70,79,76,76,79,87]⟩),.str u1,.str (O.u ⟨#[89,69,83]⟩),.str (O.u ⟨#[78,79]⟩)],[.str (O.u ⟨#[80,69,78,65,76,84,89]⟩),.str (O.u ⟨#[115,114]⟩),.str u4,.str u4],[.str (O.u ⟨#[82,69,86,73,69,87]⟩),.str u1,.str (O.u ⟨#[75,69,80,84]⟩),.str (O.u ⟨#[76,79,83,84]⟩)],[.str (O.u ⟨#[82,69,86,73,83,69]⟩),.str (O.u ⟨#[114,118]⟩),.str u4,.str u4],[.str (O.u ⟨#[83,84,79,80]⟩),.str u4,.str u4,.str u4]])])
def iD:Nat→Env:=eL []
def Gl:=oS ZK Y0 iD
def aI:List Nat:=[0,0]
def Ok (O:Alg) (x:Ags O):O.M:=(O.d (O.f 129 [] []) fun c0=>(O.l (O.q (O.v .u8 (x.I 0) (O.lit .u8 1)) (O.j (O.k c0 0))) (O.d (O.f 128 [] [.str (O.rS (O.k c0 0) (O.v .u8 (x.I 0) (O.lit .u8 1)) 1),.int (x.I 1)]) fun c1=>(O.a [.bool (O.i (O.w (lq9 O 0) (O.c c1 0)) O.m (O.i (O.e (x.I 0) (O.lit .u8 5)) (O.e (x.I 1) (O.lit .u8 121)) O.h))]))))
def L5:Nat→Env:=eL [(128,ED),(129,Gl)]
theorem Oi {N ls}:L5 N 128 [] ls=ED N ls:=id rfl
theorem TR {N ls}:L5 N 129 [] ls=Gl N ls:=id rfl
def K6:=oS aI Ok L5
def RG:List Nat:=[0,0,0]
def Kx (O:Alg) (x:Ags O):O.M:=(O.a [.bool (O.i (O.w (x.I 1) (x.I 0)) (O.w (x.I 0) (x.I 2)) O.h)])
def OO:Nat→Env:=eL []
def Ef:=oS RG Kx OO
def TP:List Nat:=[0,0,0,0,0,1,0,0,0,0,1,0]
def JF (O:Alg) (x:Ags O):O.M:=let u5:=(lq9 O 0);(O.b (O.i (O.i (O.i (O.n (x.I 0) (O.lit .u8 1)) O.m (O.n (O.lit .u8 3) (x.I 0))) O.m (O.n (O.lit .u8 3) (x.I 1))) O.m (O.n (O.lit .u8 10) (x.I 6))) (O.a [.int (lq9 O 3)]) (O.d (O.f 130 [] [.int (x.I 2),.int u5,.int (lq9 O 7)]) fun c0=>let u4:=(O.g (O.p c0 0));(O.d (O.b (O.g u4) (O.f 130 [] [.int (x.I 3),.int u5,.int (x.I 2)]) (O.a [.bool O.h])) fun c1=>let u3:=(O.i (O.i u4 O.m (O.g (O.p c1 0))) O.m (O.i (O.i (O.g (O.e (x.I 4) u5)) (O.g (O.e (x.I 4) (lq9 O 4))) O.h) (O.g (O.e (x.I 4) (lq9 O 6))) O.h));(O.d (O.b (O.g u3) (O.f 130 [] [.int (x.I 7),.int u5,.int (lq9 O 2)]) (O.a [.bool O.h])) fun c2=>let u2:=(O.i u3 O.m (O.g (O.p c2 0)));(O.d (O.b (O.g u2) (O.f 130 [] [.int (x.I 8),.int u5,.int (lq9 O 11)]) (O.a [.bool O.h])) fun c3=>let u1:=(O.i u2 O.m (O.g (O.p c3 0)));(O.d (O.b (O.g u1) (O.f 130 [] [.int (x.I 9),.int u5,.int (lq9 O 11)]) (O.a [.bool O.h])) fun c4=>let u0:=(O.i u1 O.m (O.g (O.p c4 0)));(O.d (O.b (O.g u0) (O.f 130 [] [.int (x.I 11),.int u5,.int (lq9 O 8)]) (O.a [.bool O.h])) fun c5=>(O.b (O.i u0 O.m (O.g (O.p c5 0))) (O.a [.int (lq9 O 2)]) (O.a [.int u5])))))))))
def K9:Nat→Env:=eL [(130,Ef)]
theorem Mg {N ls}:K9 N 130 [] ls=Ef N ls:=id rfl
def GK:=oS TP JF K9
def Yt:List Nat:=[0,0,0,0,1,0,0,0,0,0,0,0,1,0,0,0,0,1,0]
def Jc (O:Alg) (x:Ags O):O.M:=let u14:=(lq9 O 1);let u13:=(lq9 O 0);let u8:=(O.e (x.I 9) u13);let u15:=(O.lit .u8 0);let u7:=(O.e (x.I 6) u13);let u6:=(O.e (x.I 5) u13);let u5:=(O.e (x.I 3) u13);let u4:=(O.e (x.I 2) u13);let u3:=(O.e (x.I 1) u13);let u2:=(O.e (x.I 11) u13);let u1:=(O.e (x.I 10) u13);let u0:=(O.aa (O.e (x.I 14) u13) (O.aa (O.e (x.I 15) u13) (O.aa (O.e (x.I 16) u13) (O.aa (O.aq (x.B 17) O.h) (O.e (x.I 18) u13)))));(O.b (O.i (O.n (x.I 0) (O.lit .u8 1)) O.m (O.n (O.lit .u8 16) (x.I 0))) (O.a [.int (lq9 O 3)]) (O.d (O.f 112 [] [.int (x.I 0)]) fun c0=>(O.d (O.f 113 [] [.int (x.I 1),.int u14,.int (lq9 O 2)]) fun c1=>(O.d (O.f 113 [] [.int (x.I 2),.int u14,.int (lq9 O 11)]) fun c2=>(O.d (O.f 113 [] [.int (x.I 3),.int u14,.int (lq9 O 11)]) fun c3=>(O.d (O.f 113 [] [.int (x.I 5),.int (O.c c0 0),.int (O.c c0 1)]) fun c4=>(O.d (O.f 113 [] [.int (x.I 6),.int u13,.int (lq9 O 90)]) fun c5=>let u12:=(O.y [[.int (O.lit .u8 115),.bool u3,.bool (O.p c1 0)],[.int (O.lit .u8 112),.bool u4,.bool (O.p c2 0)],[.int (O.lit .u8 111),.bool u5,.bool (O.p c3 0)],[.int (O.lit .u8 121),.bool (O.g (x.B 4)),.bool O.m],[.int (O.lit .u8 114),.bool u6,.bool (O.p c4 0)],[.int (O.lit .u8 118),.bool u7,.bool (O.p c5 0)],[.int (O.lit .u8 98),.bool (O.aa (O.e (x.I 7) u15) (O.aa (O.e (x.I 8) u15) (O.aa u8 (O.aa u1 (O.aa u2 (O.aa (O.aq (x.B 12) O.h) (O.aa (O.e (x.I 13) u15) u0))))))),.bool O.m]]);let u11:=(O.j u12);(O.d (O.t (fun s6 c6=>let u16:=(O.c c6 0);let u9:=(O.g (O.rB u12 u16 1));(O.b (O.n u16 u11) (O.l (O.q u16 u11) (O.d (O.b u9 (O.f 114 [] [.int (x.I 0),.int (O.r u12 u16 0)]) (O.a [.bool O.h])) fun c7=>(O.b (O.i u9 (O.g (O.p c7 0)) O.h) (O.a [.int u13,.int u14]) (s6 [.int (O.o .i64 u16 u14)])))) (O.a [.int u14]))) [.int u13]) fun c6=>(O.b (O.z c6 0) (O.a [.int (O.c c6 1)]) (O.d (O.t (fun s7 c7=>let u17:=(O.c c7 0);let u10:=(O.g (O.rB u12 u17 2));(O.b (O.n u17 u11) (O.l (O.q u17 u11) (O.d (O.b u10 (O.f 114 [] [.int (x.I 0),.int (O.r u12 u17 0)]) (O.a [.bool O.h])) fun c8=>(O.b (O.i u10 (O.p c8 0) O.h) (O.a [.int u13,.int (lq9 O 2)]) (s7 [.int (O.o .i64 u17 u14)])))) (O.a [.int u14]))) [.int u13]) fun c7=>(O.b (O.z c7 0) (O.a [.int (O.c c7 1)]) (O.b (O.e (x.I 0) (O.lit .u8 4)) (O.d (O.f 115 [] (xr x [0,0,0,0,0,1,0,0,0,0,1,0] 7)) fun c8=>(O.a [.int (O.c c8 0)])) (O.a [.int u13])))))))))))))
def Eu:Nat→Env:=eL [(112,H6),(113,HW),(114,K6),(115,GK)]
theorem JV {N ls}:Eu N 112 [] ls=H6 N ls:=id rfl
theorem Im {N ls}:Eu N 113 [] ls=HW N ls:=id rfl
theorem K5 {N ls}:Eu N 114 [] ls=K6 N ls:=id rfl
theorem EM {N ls}:Eu N 115 [] ls=GK N ls:=id rfl
def D4:=oS Yt Jc Eu
def Ad (N:Nat) (ls:List PV):Option (List PV):=GA 8 ls
def Ae (N:Nat) (ls:List PV):Option (List PV):=GA 1 ls
def Ah (N:Nat) (ls:List PV):Option (List PV):=GA 1 ls
def VU:List Nat:=[0,0,0,0,0,0,0,0,0,0,0,0,0,0,3,0,3,3,1,3,1,0,0,0,3,0,0,0]
def KK (O:Alg) (x:Ags O):O.M:=(O.d (O.f 131 [] [.rows (x.L 14)]) fun c0=>(O.d (O.f 47 [] [.rows (x.L 16)]) fun c1=>(O.d (O.f 47 [] [.rows (x.L 17)]) fun c2=>(O.d (O.f 47 [] [.rows (x.L 19)]) fun c3=>(O.d (O.f 132 [] [.rows (x.L 24)]) fun c4=>(O.a (ap O (xr x [0,0,0,0,0,0,0,0,0,0,0,0,0,0] 0) (ap O [.rows (O.k c0 0),.int (x.I 15),.rows (O.k c1 0),.rows (O.k c2 0),.bool (x.B 18),.rows (O.k c3 0)] (ap O (xr x [1,0,0,0] 20) (ap O [.rows (O.k c4 0)] (xr x [0,0,0] 25)))))))))))
def FK:Nat→Env:=eL [(47,Ad),(131,Ae),(132,Ah)]
theorem NM {N ls}:FK N 47 [] ls=Ad N ls:=id rfl
theorem Lp {N ls}:FK N 131 [] ls=Ae N ls:=id rfl
theorem MW {N ls}:FK N 132 [] ls=Ah N ls:=id rfl
def AZ:=oS VU KK FK
def ZM:List Nat:=[2,0,0,0,0,0,0,0,1,0,0,0,0,3,0,0,1,3,0,0,0,0,0]
def M5 (O:Alg) (x:Ags O):O.M:=(O.d (O.f 89 [] (xr x kR 0)) fun c0=>(O.d (O.t (fun s1 c1=>let u1:=(O.c c1 1);(O.b (O.n u1 (O.j (x.L 17))) (O.l (O.q u1 (O.j (x.L 17))) (O.d (O.f 116 [] (rr O (x.L 17) u1 kI 0)) fun c2=>let u0:=(O.ad (O.k c1 0) (O.y [(cr O c2 kI 0)]));(O.l (O.ab (O.j u0) 304) (s1 [.rows u0,.int (O.o .i64 u1 (lq9 O 1))])))) (O.a [.rows (O.k c1 0)]))) [.rows O.s,.int (lq9 O 0)]) fun c1=>(O.a (ap O (cr O c0 kR 0) (ap O (xr x [0,0,1] 14) (ap O [.rows (O.k c1 0)] (xr x [0,0,0,0,0] 18)))))))
def KP:Nat→Env:=eL [(89,D2),(116,AZ)]
theorem Se {N ls}:KP N 89 [] ls=D2 N ls:=id rfl
theorem Ik {N ls}:KP N 116 [] ls=AZ N ls:=id rfl
def Jh:=oS ZM M5 KP
def Yx:List Nat:=[2,0,0,0,0,0,0,0,1,0,0,0,0,3,0,0,1,3,0,0,0,0,0,0]
def M0 (O:Alg) (x:Ags O):O.M:=(O.d (O.t (fun s0 c0=>let u2:=(O.c c0 0);let u1:=(O.c c0 1);let u0:=(O.o .i64 u1 (lq9 O 1));(O.b (O.n u1 (O.j (x.L 17))) (O.l (O.q u1 (O.j (x.L 17))) (O.b (O.e (O.r (x.L 17) u1 0) (x.I 23)) (s0 [.int (O.o .i64 u2 (O.r (x.L 17) u1 3)),.int u0]) (s0 [.int u2,.int u0]))) (O.a [.int u2]))) [.int (lq9 O 0),.int (lq9 O 0)]) fun c0=>(O.a [.int (O.c c0 0)]))
def VK:Nat→Env:=eL []
def CP:=oS Yx M0 VK
def Q2:List Nat:=[2,0,0,0,0,0,0,0,1,0,0,0,0,3]
def G1 (O:Alg) (x:Ags O):O.M:=(O.b (O.e (x.I 3) (lq9 O 0)) (O.a [.int (O.lit .u8 5)]) (O.a [.int (O.lit .u8 6)]))
def PI:Nat→Env:=eL []
def CE:=oS Q2 G1 PI
def VE:List Nat:=[2,0,0,0,0,0,0,0,1,0,0,0,0,3,0,0,1,3,0,0,0,0,0]
def KE (O:Alg) (x:Ags O):O.M:=let u10:=(lq9 O 1);let u9:=(lq9 O 0);let u8:=(O.j (x.L 17));let u11:=(O.lit .u8 0);let u7:=(O.e u8 (lq9 O 3));let u6:=(O.v .i64 u8 u10);let u5:=(O.e u8 (O.al .i64 (lq9 O 2) (x.I 2)));let u4:=(O.r (x.L 17) u6 1);let u3:=(O.r (x.L 17) u6 3);let u2:=(O.r (x.L 17) u6 0);let u1:=(O.r (x.L 17) u6 27);let u0:=(O.v .i64 u4 u10);(O.d (O.f 101 [] (xr x kM 0)) fun c0=>(O.b (O.i (O.g (O.p c0 0)) O.m (O.e u8 u9)) (O.a [.int u11,.int u9,.int u9]) (O.l (O.q u6 u8) (O.d (O.f 117 [] [.int u2]) fun c1=>let u12:=(O.c c1 0);(O.b (O.e u1 (O.lit .u8 5)) (O.d (O.f 136 [] (xr x kR 0)) fun c2=>(O.a [.int (O.c c2 0),.int u9,.int u9])) (O.b (O.e u1 u11) (O.a [.int u11,.int u9,.int u9]) (O.b (O.i u5 (O.w u4 u3) O.h) (O.a [.int (O.lit .u8 2),.int u2,.int (O.v .i64 (O.v .i64 (x.I 1) u10) (O.r (x.L 17) u6 4))]) (O.b (O.i u5 (O.e u3 u0) O.h) (O.a [.int (O.lit .u8 4),.int u9,.int u9]) (O.b u5 (O.a [.int (O.lit .u8 1),.int u12,.int (O.v .i64 u0 u3)]) (O.d (O.b u7 (O.f 121 [] (ap O (xr x kM 0) [.int u2])) (O.a [.int u9])) fun c2=>(O.d (O.b u7 (O.f 121 [] (ap O (xr x kM 0) [.int u12])) (O.a [.int u9])) fun c3=>(O.b (O.i u7 (O.n (O.c c2 0) (O.c c3 0)) O.h) (O.d (O.f 121 [] (ap O (xr x kM 0) [.int u12])) fun c4=>(O.d (O.f 121 [] (ap O (xr x kM 0) [.int u2])) fun c5=>(O.a [.int (O.lit .u8 3),.int u12,.int (O.v .i64 (O.c c4 0) (O.c c5 0))]))) (O.a [.int u11,.int u9,.int u9])))))))))))))
def Dz:Nat→Env:=eL [(101,D3),(117,Ba),(121,CP),(136,CE)]
theorem RH {N ls}:Dz N 101 [] ls=D3 N ls:=id rfl
theorem Qx {N ls}:Dz N 117 [] ls=Ba N ls:=id rfl
theorem Q5 {N ls}:Dz N 121 [] ls=CP N ls:=id rfl
theorem NW {N ls}:Dz N 136 [] ls=CE N ls:=id rfl
def Gy:=oS VE KE Dz
def Vu:List Nat:=[2,0,0,0,0,0,0,0,1,0,0,0,0,3,0,0,0]
def J5 (O:Alg) (x:Ags O):O.M:=let u4:=(lq9 O 0);let u3:=(O.ab (x.I 1) 1);let u2:=(lq9 O 1000000);(O.d (O.f 27 [] (xr x kR 0)) fun c0=>(O.b (O.g (O.e (O.c c0 0) u4)) (O.a [.int u4,.int u4,.int u4,.int u4,.int u4,.int u4,.int u4,.int u4,.int u4,.int u4,.int u4,.int u4,.int u4,.int u4,.rows O.s,.int u4,.rows O.s,.rows O.s,.bool O.h,.rows O.s,.bool O.h,.int u4,.int u4,.int u4,.rows O.s,.int u4,.int u4,.int (O.lit .u8 0),.int (O.c c0 0)]) (O.d (O.f 124 [] [.int (x.I 14),.int (lq9 O 1),.int (lq9 O 2)]) fun c1=>let u1:=(O.g (O.p c1 0));(O.d (O.b (O.g u1) (O.f 124 [] [.int (x.I 15),.int u4,.int u2]) (O.a [.bool O.h])) fun c2=>let u0:=(O.i u1 O.m (O.g (O.p c2 0)));(O.d (O.b (O.g u0) (O.f 124 [] [.int (x.I 16),.int u4,.int u2]) (O.a [.bool O.h])) fun c3=>(O.b (O.i u0 O.m (O.g (O.p c3 0))) (O.a [.int u4,.int u4,.int u4,.int u4,.int u4,.int u4,.int u4,.int u4,.int u4,.int u4,.int u4,.int u4,.int u4,.int u4,.rows O.s,.int u4,.rows O.s,.rows O.s,.bool O.h,.rows O.s,.bool O.h,.int u4,.int u4,.int u4,.rows O.s,.int u4,.int u4,.int (O.lit .u8 0),.int (lq9 O 2)]) (O.l u3 (O.l (O.ab (x.I 1) 8) (O.l u3 (O.a [.int (x.I 14),.int (x.I 15),.int (x.I 3),.int (x.I 16),.int u4,.int u4,.int u4,.int u4,.int u4,.int (x.I 16),.int u4,.int u4,.int u4,.int u4,.rows (O.ap (x.I 1) [.int (O.lit .u8 0)]),.int u4,.rows O.s,.rows O.s,.bool O.h,.rows (O.ap (x.I 1) [.int u4]),.bool O.h,.int u4,.int u4,.int u4,.rows (O.ap (x.I 1) [.bool O.h]),.int u4,.int u4,.int (O.lit .u8 0),.int u4]))))))))))
def H2:Nat→Env:=eL [(27,AU),(124,Aw)]
theorem RO {N ls}:H2 N 27 [] ls=AU N ls:=id rfl
theorem N9 {N ls}:H2 N 124 [] ls=Aw N ls:=id rfl
def HY:=oS Vu J5 H2
def Wa:List Nat:=[2,0,0,0,0,0,0,0,1,0,0,0,0,3,0,0,1,3,0,0,0,0,0,0]
def L2 (O:Alg) (x:Ags O):O.M:=(O.b (O.n (O.o .i64 (O.j (x.L 17)) (lq9 O 1)) (O.al .i64 (lq9 O 2) (x.I 2))) (O.a [.int (lq9 O 0)]) (O.d (O.f 117 [] [.int (x.I 23)]) fun c0=>(O.d (O.f 121 [] (ap O (xr x kM 0) [.int (O.c c0 0)])) fun c1=>(O.d (O.f 121 [] (xr x [2,0,0,0,0,0,0,0,1,0,0,0,0,3,0,0,1,3,0,0,0,0,0,0] 0)) fun c2=>(O.a [.int (O.o .i64 (O.v .i64 (O.c c1 0) (O.c c2 0)) (lq9 O 1))])))))
def I2:Nat→Env:=eL [(117,Ba),(121,CP)]
theorem Rv {N ls}:I2 N 117 [] ls=Ba N ls:=id rfl
theorem R7 {N ls}:I2 N 121 [] ls=CP N ls:=id rfl
def IZ:=oS Wa L2 I2
def SH:List Nat:=[0]
def R9 (O:Alg) (x:Ags O):O.M:=(O.a [.bool (O.g (O.e (x.I 0) (O.lit .u8 0)))])
def ZU:Nat→Env:=eL []
def FP:=oS SH R9 ZU
def Vm:List Nat:=[0,0,0,0,0,0,0,0,0,0,0,0,0,0,3,0,3,3,1,3,1,0,0,0,3,0,0,0]
def KF (O:Alg) (x:Ags O):O.M:=let u0:=(lq9 O 0);(O.d (O.d (O.t (fun s0 c0=>let u1:=(O.c c0 0);(O.b (O.n u1 (O.j (x.L 14))) (O.l (O.q u1 (O.j (x.L 14))) (O.d (O.f 148 [] [.int (O.r (x.L 14) u1 0)]) fun c1=>(O.b (O.p c1 0) (O.a [.int u0,.int u1]) (s0 [.int (O.o .i64 u1 (lq9 O 1))])))) (O.a [.int (lq9 O 1)]))) [.int u0]) fun c0=>(O.b (O.z c0 0) (O.a [.int (O.c c0 1)]) (O.a [.int (lq9 O (-1))]))) fun c0=>(O.a [.bool (O.w u0 (O.c c0 0))]))
def MP:Nat→Env:=eL [(148,FP)]
theorem Gd {N ls}:MP N 148 [] ls=FP N ls:=id rfl
def Gv:=oS Vm KF MP
def Zk:List Nat:=[0,0,0,0,0,0,0,0,0,0,0,0,0,0,3,0,3,3,1,3,1,0,0,0,3,0,0,0]
def OH (O:Alg) (x:Ags O):O.M:=(O.d (O.f 131 [] [.rows (x.L 14)]) fun c0=>(O.d (O.f 47 [] [.rows (x.L 16)]) fun c1=>(O.d (O.f 47 [] [.rows (x.L 17)]) fun c2=>(O.d (O.f 47 [] [.rows (x.L 19)]) fun c3=>(O.d (O.f 132 [] [.rows (x.L 24)]) fun c4=>(O.a (ap O (xr x [0,0,0,0,0,0,0,0,0,0,0,0,0,0] 0) (ap O [.rows (O.k c0 0),.int (x.I 15),.rows (O.k c1 0),.rows (O.k c2 0),.bool (x.B 18),.rows (O.k c3 0)] (ap O (xr x [1,0,0,0] 20) (ap O [.rows (O.k c4 0)] (xr x [0,0,0] 25)))))))))))
def Ih:Nat→Env:=eL [(47,Ad),(131,Ae),(132,Ah)]
theorem Pa {N ls}:Ih N 47 [] ls=Ad N ls:=id rfl
theorem Nc {N ls}:Ih N 131 [] ls=Ae N ls:=id rfl
theorem PG {N ls}:Ih N 132 [] ls=Ah N ls:=id rfl
def BD:=oS Zk OH Ih
def TX:List Nat:=[0]
def Tr (O:Alg) (x:Ags O):O.M:=(O.a [.bool (O.g (O.e (x.I 0) (O.lit .u8 0)))])
def Z0:Nat→Env:=eL []
def DT:=oS TX Tr Z0
def WU:List Nat:=[0,0,0,0,0,0,0,0,0,0,0,0,0,0,3,0,3,3,1,3,1,0,0,0,3,0,0,0]
def Fq (O:Alg) (x:Ags O):O.M:=let u0:=(lq9 O 0);(O.d (O.d (O.t (fun s0 c0=>let u1:=(O.c c0 0);(O.b (O.n u1 (O.j (x.L 14))) (O.l (O.q u1 (O.j (x.L 14))) (O.d (O.f 182 [] [.int (O.r (x.L 14) u1 0)]) fun c1=>(O.b (O.p c1 0) (O.a [.int u0,.int u1]) (s0 [.int (O.o .i64 u1 (lq9 O 1))])))) (O.a [.int (lq9 O 1)]))) [.int u0]) fun c0=>(O.b (O.z c0 0) (O.a [.int (O.c c0 1)]) (O.a [.int (lq9 O (-1))]))) fun c0=>(O.a [.bool (O.w u0 (O.c c0 0))]))
def F4:Nat→Env:=eL [(182,DT)]
theorem Hp {N ls}:F4 N 182 [] ls=DT N ls:=id rfl
def CW:=oS WU Fq F4
def Wt:List Nat:=[0,0,0,0,0,0,0,0,0,0,0,0,0,0,3,0,3,3,1,3,1,0,0,0,3,0,0,0,0]
def Lx (O:Alg) (x:Ags O):O.M:=(O.a [.bool (O.i (O.w (lq9 O 1) (x.I 28)) (O.w (x.I 28) (O.j (x.L 14))) O.h)])
def UE:Nat→Env:=eL []
def BC:=oS Wt Lx UE
def Yr:List Nat:=[0,0,0,0,0,0,0,0,0,0,0,0,0,0,3,0,3,3,1,3,1,0,0,0,3,0,0,0,0,0]
def Mz (O:Alg) (x:Ags O):O.M:=let u3:=(lq9 O 1);let u1:=(O.v .i64 (x.I 29) u3);let u0:=(O.v .i64 (x.I 28) u3);(O.d (O.f 166 [] (xr x kI 0)) fun c0=>let u4:=(O.k c0 14);(O.d (O.f 167 [] (xr x kI 0)) fun c1=>(O.b (O.p c1 0) (O.a (ap O (cr O c0 kI 0) [.int u3])) (O.d (O.f 168 [] (xr x [0,0,0,0,0,0,0,0,0,0,0,0,0,0,3,0,3,3,1,3,1,0,0,0,3,0,0,0,0] 0)) fun c2=>let u2:=(O.g (O.p c2 0));(O.d (O.b (O.g u2) (O.f 168 [] (ap O (xr x kI 0) [.int (x.I 29)])) (O.a [.bool O.h])) fun c3=>(O.b (O.i u2 O.m (O.g (O.p c3 0))) (O.a (ap O (cr O c0 kI 0) [.int (lq9 O 3)])) (O.b (O.e (x.I 28) (x.I 29)) (O.a (ap O (cr O c0 kI 0) [.int (lq9 O 4)])) (O.l (O.q u0 (O.j u4)) (O.l (O.q u1 (O.j (O.x u4 u0 0 [.int (O.lit .u8 1)]))) (O.a (ap O (cr O c0 [0,0,0,0,0,0,0,0,0,0,0,0] 0) (ap O [.int (x.I 28),.int (x.I 29),.rows (O.x (O.x u4 u0 0 [.int (O.lit .u8 1)]) u1 0 [.int (O.lit .u8 1)])] (ap O (cr O c0 [0,3,3,1,3,1,0,0,0,3,0,0,0] 15) [.int (lq9 O 0)])))))))))))))
def G2:Nat→Env:=eL [(166,BD),(167,CW),(168,BC)]
theorem UW {N ls}:G2 N 166 [] ls=BD N ls:=id rfl
theorem Rw {N ls}:G2 N 167 [] ls=CW N ls:=id rfl
theorem Ro {N ls}:G2 N 168 [] ls=BC N ls:=id rfl
def JS:=oS Yr Mz G2
def dM:List Nat:=[0,0,0,0,0,0,0,0,0,0,0,0,0,0,3,0,3,3,1,3,1,0,0,0,3,0,0,0]
def Ql (O:Alg) (x:Ags O):O.M:=(O.d (O.f 131 [] [.rows (x.L 14)]) fun c0=>(O.d (O.f 47 [] [.rows (x.L 16)]) fun c1=>(O.d (O.f 47 [] [.rows (x.L 17)]) fun c2=>(O.d (O.f 47 [] [.rows (x.L 19)]) fun c3=>(O.d (O.f 132 [] [.rows (x.L 24)]) fun c4=>(O.a (ap O (xr x [0,0,0,0,0,0,0,0,0,0,0,0,0,0] 0) (ap O [.rows (O.k c0 0),.int (x.I 15),.rows (O.k c1 0),.rows (O.k c2 0),.bool (x.B 18),.rows (O.k c3 0)] (ap O (xr x [1,0,0,0] 20) (ap O [.rows (O.k c4 0)] (xr x [0,0,0] 25)))))))))))
def Jb:Nat→Env:=eL [(47,Ad),(131,Ae),(132,Ah)]
theorem Qc {N ls}:Jb N 47 [] ls=Ad N ls:=id rfl
theorem OA {N ls}:Jb N 131 [] ls=Ae N ls:=id rfl
theorem Pg {N ls}:Jb N 132 [] ls=Ah N ls:=id rfl
def DD:=oS dM Ql Jb
def ZB:List Nat:=[0,0,0,0,0,0,0,0,0,0,0,0,0,0,3,0,3,3,1,3,1,0,0,0,3,0,0,0,0]
def M7 (O:Alg) (x:Ags O):O.M:=(O.a [.bool (O.i (O.w (lq9 O 1) (x.I 28)) (O.w (x.I 28) (O.j (x.L 19))) O.h)])
def VH:Nat→Env:=eL []
def CO:=oS ZB M7 VH
def Zg:List Nat:=[2,0,0,0,0,0,0,0,1,0,0,0,0,3,0,0,0,0,0,0,0,0,0,0,0,0,0,0,3,0,3,3,1,3,1,0,0,0,3,0,0,0,0]
def OX (O:Alg) (x:Ags O):O.M:=let u4:=(lq9 O 0);let u2:=(O.v .i64 (x.I 42) (lq9 O 1));let u1:=(O.r (x.L 33) u2 0);let u0:=(O.v .i64 (O.al .i64 (x.I 5) (x.I 4)) (O.af (O.n u1 u4) u4 u1));(O.d (O.f 183 [] (xr x [0,0,0,0,0,0,0,0,0,0,0,0,0,0,3,0,3,3,1,3,1,0,0,0,3,0,0,0,0] 14)) fun c0=>let u3:=(O.g (O.p c0 0));(O.d (O.b (O.g u3) (O.f 27 [] (xr x kR 0)) (O.a [.int u4])) fun c1=>(O.b (O.i u3 O.m (O.g (O.e (O.c c1 0) u4))) (O.a [.int u4]) (O.b (O.e (x.I 5) u4) (O.a [.int (lq9 O (-1))]) (O.l (O.q u2 (O.j (x.L 33))) (O.a [.int (O.af (O.n u0 u4) u4 u0)]))))))
def Lm:Nat→Env:=eL [(27,AU),(183,CO)]
theorem TO {N ls}:Lm N 27 [] ls=AU N ls:=id rfl
theorem Ud {N ls}:Lm N 183 [] ls=CO N ls:=id rfl
def LG:=oS Zg OX Lm
def dX:List Nat:=[2,0,0,0,0,0,0,0,1,0,0,0,0,3,0,0,0,0,0,0,0,0,0,0,0,0,0,0,3,0,3,3,1,3,1,0,0,0,3,0,0,0,0]
def Qk (O:Alg) (x:Ags O):O.M:=let u3:=(lq9 O 0);let u1:=(O.w (x.I 42) (O.j (x.L 38)));let u0:=(O.v .i64 (x.I 42) (lq9 O 1));(O.d (O.f 183 [] (xr x [0,0,0,0,0,0,0,0,0,0,0,0,0,0,3,0,3,3,1,3,1,0,0,0,3,0,0,0,0] 14)) fun c0=>let u2:=(O.g (O.p c0 0));(O.d (O.b (O.g u2) (O.f 27 [] (xr x kR 0)) (O.a [.int u3])) fun c1=>(O.b (O.i u2 O.m (O.g (O.e (O.c c1 0) u3))) (O.a [.int (lq9 O 3)]) (O.l (O.g (O.aa u1 (O.g (O.q u0 (O.j (x.L 38)))))) (O.d (O.f 184 [] (xr x [2,0,0,0,0,0,0,0,1,0,0,0,0,3,0,0,0,0,0,0,0,0,0,0,0,0,0,0,3,0,3,3,1,3,1,0,0,0,3,0,0,0,0] 0)) fun c2=>(O.b (O.i (O.i (O.e (x.I 42) (x.I 36)) O.m (O.e (x.I 42) (x.I 29))) O.m (O.i u1 (O.rB (x.L 38) u0 0) O.h)) (O.a [.int (lq9 O 7)]) (O.d (O.f 138 [] [.rows (x.L 31),.int (x.I 42)]) fun c3=>(O.b (O.p c3 0) (O.a [.int (lq9 O 8)]) (O.b (O.i (O.g (O.e (O.c c2 0) (lq9 O (-1)))) (O.n (x.I 25) (O.v .i64 (x.I 4) (O.c c2 0))) O.h) (O.a [.int (lq9 O 9)]) (O.a [.int u3]))))))))))
def Gq:Nat→Env:=eL [(27,AU),(138,A2),(183,CO),(184,LG)]
theorem Ur {N ls}:Gq N 27 [] ls=AU N ls:=id rfl
theorem N8 {N ls}:Gq N 138 [] ls=A2 N ls:=id rfl
theorem Un {N ls}:Gq N 183 [] ls=CO N ls:=id rfl
theorem V4 {N ls}:Gq N 184 [] ls=LG N ls:=id rfl
def Ma:=oS dX Qk Gq
def Z6:List Nat:=[2,0,0,0,0,0,0,0,1,0,0,0,0,3,0,0,0,0,0,0,0,0,0,0,0,0,0,0,3,0,3,3,1,3,1,0,0,0,3,0,0,0,0]
def OU (O:Alg) (x:Ags O):O.M:=(O.d (O.f 169 [] (xr x kI 14)) fun c0=>(O.d (O.f 170 [] (xr x [2,0,0,0,0,0,0,0,1,0,0,0,0,3,0,0,0,0,0,0,0,0,0,0,0,0,0,0,3,0,3,3,1,3,1,0,0,0,3,0,0,0,0] 0)) fun c1=>let u0:=(O.c c1 0);(O.b (O.e u0 (lq9 O 0)) (O.a (ap O (cr O c0 [0,0,0,0,0,0,0,0,0,0,0,0,0,0,3] 0) (ap O [.int (x.I 42)] (ap O (cr O c0 [3,3,1,3,1,0,0,0,3,0,0,0] 16) [.int u0])))) (O.a (ap O (cr O c0 kI 0) [.int u0])))))
def Lr:Nat→Env:=eL [(169,DD),(170,Ma)]
theorem V2 {N ls}:Lr N 169 [] ls=DD N ls:=id rfl
theorem V5 {N ls}:Lr N 170 [] ls=Ma N ls:=id rfl
def LH:=oS Z6 OU Lr
def Pm:List Nat:=[0,0,0,0,0,1,0,0,0,0,1,0]
def GZ (O:Alg) (x:Ags O):O.M:=let u3:=(lq9 O 0);let u2:=(O.e (x.I 4) u3);let u1:=(O.e (x.I 2) u3);let u0:=(O.g (O.e (x.I 4) (lq9 O 6)));(O.b (O.e (x.I 0) (O.lit .u8 2)) (O.a [.bool (O.i (O.e (x.I 1) (O.lit .u8 0)) u0 O.h)]) (O.b (O.e (x.I 1) (O.lit .u8 0)) (O.a [.bool (O.i u1 u2 O.h)]) (O.b (O.e (x.I 1) (O.lit .u8 1)) (O.a [.bool (O.i u0 O.m u1)]) (O.a [.bool (O.i u0 (O.i (O.n u3 (x.I 2)) O.m (O.g u2)) O.h)]))))
def Nx:Nat→Env:=eL []
def EG:=oS Pm GZ Nx
def UX:List Nat:=[0,0,0,0,0,1,0,0,0,0,1,0]
def JC (O:Alg) (x:Ags O):O.M:=let u3:=(lq9 O 0);let u2:=(lq9 O 11);let u1:=(O.e (x.I 4) u3);let u0:=(O.g u1);(O.b (O.i (O.i (O.i (O.i (O.i (O.n (x.I 0) (O.lit .u8 1)) O.m (O.n (O.lit .u8 3) (x.I 0))) O.m (O.n (O.lit .u8 3) (x.I 1))) O.m (O.n (O.lit .u8 10) (x.I 6))) O.m (O.n (x.I 11) u3)) O.m (O.n (lq9 O 8) (x.I 11))) (O.a [.int u2]) (O.b (O.i (O.i (O.i (O.i (O.n (x.I 2) u3) O.m (O.n (lq9 O 7) (x.I 2))) O.m (O.n (x.I 3) u3)) O.m (O.n (x.I 2) (x.I 3))) O.m (O.i (O.i u0 (O.g (O.e (x.I 4) (lq9 O 4))) O.h) (O.g (O.e (x.I 4) (lq9 O 6))) O.h)) (O.a [.int (lq9 O 12)]) (O.d (O.f 123 [] (xr x [0,0,0,0,0,1,0,0,0,0,1,0] 0)) fun c0=>(O.b (O.i (O.g (O.p c0 0)) O.m (O.i (O.i (O.i (O.g (O.e (x.I 0) (O.lit .u8 2))) (O.e (x.I 1) (O.lit .u8 1)) O.h) (O.e (x.I 2) u3) O.h) u1 O.h)) (O.a [.int u2]) (O.b (O.i (O.i (O.g (O.e (x.I 11) u3)) (O.g (O.e (x.I 1) (O.lit .u8 1))) O.h) (O.g (O.e (x.I 6) (O.lit .u8 2))) O.h) (O.a [.int u2]) (O.b (O.i u0 (O.g (O.e (x.I 6) (O.lit .u8 0))) O.h) (O.a [.int u2]) (O.b (O.i (O.i (x.B 5) (O.g (O.e (x.I 6) (O.lit .u8 6))) O.h) (O.g (O.e (x.I 6) (O.lit .u8 8))) O.h) (O.a [.int u2]) (O.a [.int u3]))))))))
def LO:Nat→Env:=eL [(123,EG)]
theorem MD {N ls}:LO N 123 [] ls=EG N ls:=id rfl
def Cq:=oS UX JC LO
def Pk:List Nat:=[0]
def GW (O:Alg) (x:Ags O):O.M:=(O.a [.bool (O.i (O.w (O.lit .u8 1) (x.I 0)) (O.w (x.I 0) (O.lit .u8 5)) O.h)])
def Nf:Nat→Env:=eL []
def EF:=oS Pk GW Nf
def SE:List Nat:=[2,0,0,0,0,0,0,0,1,0,0,0,0,3,0,0,0,0,0,1,0,0,0,0,1,0]
def Hy (O:Alg) (x:Ags O):O.M:=let u2:=(lq9 O 0);let u1:=(O.o .i64 (O.v .i64 (x.I 16) (x.I 17)) (x.I 18));(O.d (O.f 106 [] (xr x [0,0,0,0,0,1,0,0,0,0,1,0] 14)) fun c0=>(O.b (O.g (O.e (O.c c0 0) u2)) (O.a [.int u2,.int u2,.int u2,.int u2,.int u2,.int u2,.bool O.h,.bool O.h,.bool O.h,.bool O.h]) (O.d (O.f 107 [] [.int (x.I 20)]) fun c1=>let u3:=(O.p c1 0);(O.d (O.b (x.B 19) (O.a [.int (O.o .i64 (x.I 16) (lq9 O 1))]) (O.a [.int (x.I 16)])) fun c2=>let u0:=(O.e (O.as .i64 (O.c c2 0) (lq9 O 2)) (lq9 O 1));(O.d (O.b (O.e (x.I 14) (O.lit .u8 2)) (O.a [.int u2,.int (O.o .i64 (x.I 6) u1),.int u2,.int u2,.int u2,.int u2,.bool (O.e (x.I 14) (O.lit .u8 1)),.bool (O.g (O.e (x.I 14) (O.lit .u8 2))),.bool u3,.bool u0]) (O.b (O.e (x.I 14) (O.lit .u8 3)) (O.a [.int u2,.int u2,.int (x.I 7),.int u2,.int u2,.int u2,.bool (O.e (x.I 14) (O.lit .u8 1)),.bool (O.g (O.e (x.I 14) (O.lit .u8 2))),.bool u3,.bool u0]) (O.a [.int u2,.int u2,.int u2,.int u2,.int u2,.int u2,.bool (O.e (x.I 14) (O.lit .u8 1)),.bool (O.g (O.e (x.I 14) (O.lit .u8 2))),.bool u3,.bool u0]))) fun c3=>(O.d (O.b (O.g (O.e (x.I 14) (O.lit .u8 2))) (O.b (O.e (x.I 15) (O.lit .u8 1)) (O.a (ap O [.int u1] (cr O c3 [0,0,0,0,0,1,1,1,1] 1))) (O.b (O.e (x.I 15) (O.lit .u8 2)) (O.a (ap O (cr O c3 [0,0,0] 0) (ap O [.int u1] (cr O c3 [0,0,1,1,1,1] 4)))) (O.b (O.e (x.I 15) (O.lit .u8 3)) (O.a (ap O (cr O c3 [0,0,0,0] 0) (ap O [.int u1] (cr O c3 [0,1,1,1,1] 5)))) (O.a (cr O c3 [0,0,0,0,0,0,1,1,1,1] 0))))) (O.a (cr O c3 [0,0,0,0,0,0,1,1,1,1] 0))) fun c4=>(O.a (ap O (cr O c4 [0,0,0,0,0] 0) (ap O [.int (O.o .i64 (O.o .i64 (O.c c4 0) (O.c c4 1)) (O.c c4 2))] (cr O c4 [1,1,1,1] 6))))))))))
def Ga:Nat→Env:=eL [(106,Cq),(107,EF)]
theorem NI {N ls}:Ga N 106 [] ls=Cq N ls:=id rfl
theorem Lo {N ls}:Ga N 107 [] ls=EF N ls:=id rfl
def Cb:=oS SE Hy Ga
def U7:List Nat:=[0,0,0,0,0,0,0,0,0,0,0,0,0,0,3,0,3,3,1,3,1,0,0,0,3,0,0,0]
def Ew (O:Alg) (x:Ags O):O.M:=(O.d (O.f 167 [] (xr x kI 0)) fun c0=>(O.a [.bool (O.i (O.p c0 0) (O.i (O.e (x.I 12) (lq9 O 0)) O.m (O.e (x.I 13) (lq9 O 0))) O.h)]))
def FJ:Nat→Env:=eL [(167,CW)]
theorem QM {N ls}:FJ N 167 [] ls=CW N ls:=id rfl
def Bb:=oS U7 Ew FJ
def Y9:List Nat:=[0,0,0,0,0,0,0,0,0,0,0,0,0,0,3,0,3,3,1,3,1,0,0,0,3,0,0,0,0]
def Mp (O:Alg) (x:Ags O):O.M:=(O.a [.bool (O.i (O.w (lq9 O 1) (x.I 28)) (O.w (x.I 28) (O.j (x.L 24))) O.h)])
def VI:Nat→Env:=eL []
def BM:=oS Y9 Mp VI
def T7:List Nat:=[0,0,0,0,0,0,0,0,0,0,0,0,0,0,3,0,3,3,1,3,1,0,0,0,3,0,0,0,0]
def JG (O:Alg) (x:Ags O):O.M:=let u0:=(O.v .i64 (x.I 28) (lq9 O 1));(O.d (O.f 179 [] (xr x [0,0,0,0,0,0,0,0,0,0,0,0,0,0,3,0,3,3,1,3,1,0,0,0,3,0,0,0,0] 0)) fun c0=>(O.l (O.g (O.aa (O.p c0 0) (O.g (O.q u0 (O.j (x.L 24)))))) (O.a [.bool (O.i (O.p c0 0) (O.rB (x.L 24) u0 0) O.h)])))
def Kt:Nat→Env:=eL [(179,BM)]
theorem QC {N ls}:Kt N 179 [] ls=BM N ls:=id rfl
def BG:=oS T7 JG Kt
def VX:List Nat:=[2,0,0,0,0,0,0,0,1,0,0,0,0,3,0]
def J1 (O:Alg) (x:Ags O):O.M:=let u1:=(lq9 O 1);let u0:=(O.o .i64 (x.I 14) u1);(O.d (O.t (fun s0 c0=>let u2:=(O.c c0 0);(O.b (O.n u2 (O.j (x.L 13))) (O.l (O.q u2 (O.j (x.L 13))) (O.b (O.i (O.w (O.r (x.L 13) u2 0) u0) (O.w u0 (O.r (x.L 13) u2 1)) O.h) (O.a [.int (lq9 O 0),.int (O.r (x.L 13) u2 2)]) (s0 [.int (O.o .i64 u2 u1)]))) (O.a [.int u1]))) [.int (lq9 O 0)]) fun c0=>(O.b (O.z c0 0) (O.a [.int (O.c c0 1)]) (O.a [.int (x.I 12)])))
def SL:Nat→Env:=eL []
def G3:=oS VX J1 SL
def Yl:List Nat:=[2,0,0,0,0,0,0,0,1,0,0,0,0,3,0,0,0,0,0,0,0,0,0,0,0,0,0,0,3,0,3,3,1,3,1,0,0,0,3,0,0,0]
def My (O:Alg) (x:Ags O):O.M:=(O.d (O.f 179 [] (ap O (xr x kI 14) [.int (x.I 36)])) fun c0=>let u0:=(O.g (O.p c0 0));(O.d (O.b (O.g u0) (O.f 180 [] (ap O (xr x kI 14) [.int (x.I 36)])) (O.a [.bool O.h])) fun c1=>(O.b (O.i (O.i u0 O.m (O.p c1 0)) O.m (O.e (x.I 36) (x.I 29))) (O.a [.int (lq9 O 17)]) (O.d (O.f 188 [] (ap O (xr x kR 0) [.int (x.I 24)])) fun c2=>(O.b (O.n (O.c c2 0) (x.I 37)) (O.a [.int (lq9 O 16)]) (O.a [.int (lq9 O 0)]))))))
def G0:Nat→Env:=eL [(179,BM),(180,BG),(188,G3)]
theorem Sl {N ls}:G0 N 179 [] ls=BM N ls:=id rfl
theorem P8 {N ls}:G0 N 180 [] ls=BG N ls:=id rfl
theorem RD {N ls}:G0 N 188 [] ls=G3 N ls:=id rfl
def JT:=oS Yl My G0
def SP:List Nat:=[]
def SV (O:Alg) (x:Ags O):O.M:=(O.a [.rows (O.y [[.int (O.lit .u8 0),.str (O.u ⟨#[78,79,84,79,85,84]⟩),.bool O.h,.bool O.h,.bool O.h,.bool O.h,.bool O.h],[.int (O.lit .u8 1),.str (O.u ⟨#[66,79,87,76,69,68]⟩),.bool O.m,.bool O.h,.bool O.h,.bool O.h,.bool O.h],[.int (O.lit .u8 2),.str (O.u ⟨#[67,65,85,71,72,84]⟩),.bool O.m,.bool O.h,.bool O.h,.bool O.m,.bool O.h],[.int (O.lit .u8 3),.str (O.u ⟨#[76,66,87]⟩),.bool O.m,.bool O.h,.bool O.h,.bool O.h,.bool O.h],[.int (O.lit .u8 4),.str (O.u ⟨#[83,84,85,77,80,69,68]⟩),.bool O.m,.bool O.m,.bool O.h,.bool O.m,.bool O.h],[.int (O.lit .u8 5),.str (O.u ⟨#[72,73,84,87,73,67,75,69,84]⟩),.bool O.m,.bool O.m,.bool O.h,.bool O.h,.bool O.h],[.int (O.lit .u8 6),.str (O.u ⟨#[82,85,78,79,85,84]⟩),.bool O.m,.bool O.m,.bool O.m,.bool O.m,.bool O.m],[.int (O.lit .u8 7),.str (O.u ⟨#[72,73,84,84,87,73,67,69]⟩),.bool O.m,.bool O.h,.bool O.m,.bool O.h,.bool O.h],[.int (O.lit .u8 8),.str (O.u ⟨#[79,66,83,84,82,85,67,84,73,78,71]⟩),.bool O.m,.bool O.m,.bool O.m,.bool O.h,.bool O.m],[.int (O.lit .u8 9),.str (O.u ⟨#[84,73,77,69,68,79,85,84]⟩),.bool O.h,.bool O.h,.bool O.h,.bool O.h,.bool O.h],[.int (O.lit .u8 10),.str (O.u ⟨#[82,69,84,73,82,69,68]⟩),.bool O.h,.bool O.h,.bool O.h,.bool O.h,.bool O.h]])])
def ZY:Nat→Env:=eL []
def B3:=oS SP SV ZY
def W0:List Nat:=[0]
def Lc (O:Alg) (x:Ags O):O.M:=(O.d (O.f 193 [] []) fun c0=>let u2:=(O.k c0 0);let u0:=(O.j u2);(O.d (O.t (fun s1 c1=>let u1:=(O.c c1 0);(O.b (O.n u1 u0) (O.l (O.q u1 u0) (O.b (O.e (O.r u2 u1 0) (x.I 0)) (O.a (ap O [.int (lq9 O 0)] (rr O u2 u1 [0,2,1,1,1,1,1] 0))) (s1 [.int (O.o .i64 u1 (lq9 O 1))]))) (O.a [.int (lq9 O 1)]))) [.int (lq9 O 0)]) fun c1=>(O.b (O.z c1 0) (O.a (cr O c1 [0,2,1,1,1,1,1] 1)) (O.a [.int (O.lit .u8 0),.str (O.u ⟨#[]⟩),.bool O.h,.bool O.h,.bool O.h,.bool O.h,.bool O.h]))))
def NJ:Nat→Env:=eL [(193,B3)]
theorem PP {N ls}:NJ N 193 [] ls=B3 N ls:=id rfl
def IE:=oS W0 Lc NJ
def RK:List Nat:=[3,0]
def HI (O:Alg) (x:Ags O):O.M:=(O.d (O.t (fun s0 c0=>let u0:=(O.c c0 0);(O.b (O.n u0 (O.j (x.L 0))) (O.l (O.q u0 (O.j (x.L 0))) (O.b (O.e (x.I 1) (O.r (x.L 0) u0 0)) (O.a [.int (lq9 O 0),.int u0]) (s0 [.int (O.o .i64 u0 (lq9 O 1))]))) (O.a [.int (lq9 O 1)]))) [.int (lq9 O 0)]) fun c0=>(O.b (O.z c0 0) (O.a [.int (O.c c0 1)]) (O.a [.int (lq9 O (-1))])))
def Oy:Nat→Env:=eL []
def Ep:=oS RK HI Oy
def Ni:List Nat:=[3,0]
def Ey (O:Alg) (x:Ags O):O.M:=(O.d (O.f 194 [] [.rows (x.L 0),.int (x.I 1)]) fun c0=>(O.a [.bool (O.w (lq9 O 0) (O.c c0 0))]))
def Gg:Nat→Env:=eL [(194,Ep)]
theorem Jq {N ls}:Gg N 194 [] ls=Ep N ls:=id rfl
def Db:=oS Ni Ey Gg
def RL:List Nat:=[0,2,1,1,1,1,1,0]
def HJ (O:Alg) (x:Ags O):O.M:=(O.a [.bool (O.i (O.i (O.i (O.e (x.I 7) (O.lit .u8 1)) (x.B 2) O.h) O.m (O.i (O.e (x.I 7) (O.lit .u8 2)) (x.B 3) O.h)) O.m (O.i (O.e (x.I 7) (O.lit .u8 3)) (x.B 4) O.h))])
def Oh:Nat→Env:=eL []
def Ed:=oS RL HJ Oh
def TW:List Nat:=[0,1]
def I5 (O:Alg) (x:Ags O):O.M:=(O.d (O.f 193 [] []) fun c0=>let u5:=(O.k c0 0);let u3:=(O.j u5);(O.d (O.t (fun s1 c1=>let u6:=(O.k c1 0);let u4:=(O.c c1 1);let u2:=(O.r u5 u4 0);let u1:=(O.o .i64 u4 (lq9 O 1));let u0:=(O.ad u6 (O.y [[.int u2]]));(O.b (O.n u4 u3) (O.l (O.q u4 u3) (O.d (O.f 195 [] (ap O (rr O u5 u4 [0,2,1,1,1,1,1] 0) [.int (x.I 0)])) fun c2=>(O.b (O.i (O.p c2 0) (O.i (O.i (O.i (O.g (x.B 1)) O.m (O.e u2 (O.lit .u8 6))) O.m (O.e u2 (O.lit .u8 7))) O.m (O.e u2 (O.lit .u8 8))) O.h) (O.l (O.ab (O.j u0) 1) (s1 [.rows u0,.int u1])) (s1 [.rows u6,.int u1])))) (O.a [.rows u6]))) [.rows O.s,.int (lq9 O 0)]) fun c1=>(O.a [.rows (O.k c1 0)])))
def HF:Nat→Env:=eL [(193,B3),(195,Ed)]
theorem NU {N ls}:HF N 193 [] ls=B3 N ls:=id rfl
theorem Mi {N ls}:HF N 195 [] ls=Ed N ls:=id rfl
def GF:=oS TW I5 HF
def MX:List Nat:=[0]
def EY (O:Alg) (x:Ags O):O.M:=(O.a [.bool (O.i (O.w (lq9 O 1) (x.I 0)) (O.w (x.I 0) (lq9 O 11)) O.h)])
def LT:Nat→Env:=eL []
def DJ:=oS MX EY LT
def ON:List Nat:=[0,0,0,0,0,1,0,0,0,0,1,0,0,2,1,1,1,1,1]
def Fe (O:Alg) (x:Ags O):O.M:=let u0:=(O.e (x.I 9) (lq9 O 0));(O.d (O.f 196 [] [.int (x.I 8)]) fun c0=>(O.b (O.i (O.g (O.aq (x.B 17) (O.p c0 0))) O.m (O.i (O.g (x.B 17)) (O.g (O.e (x.I 8) (lq9 O 0))) O.h)) (O.a [.bool O.h]) (O.d (O.b (O.aa (O.g u0) (O.e (x.I 6) (O.lit .u8 6))) (O.f 196 [] [.int (x.I 9)]) (O.a [.bool O.h])) fun c1=>(O.a [.bool (O.i u0 O.m (O.i (O.i (O.e (x.I 6) (O.lit .u8 6)) (O.p c1 0) O.h) (O.g (O.e (x.I 9) (x.I 8))) O.h))]))))
def Hj:Nat→Env:=eL [(196,DJ)]
theorem Ii {N ls}:Hj N 196 [] ls=DJ N ls:=id rfl
def Ds:=oS ON Fe Hj
def Ob:List Nat:=[0,0,0,0,0,1,0,0,0,0,1,0,1]
def FX (O:Alg) (x:Ags O):O.M:=let u0:=(lq9 O 0);(O.b (O.e (x.I 6) (O.lit .u8 0)) (O.b (O.g (O.e (x.I 7) u0)) (O.a [.int (lq9 O 14)]) (O.b (O.i (O.i (O.g (O.e (x.I 8) u0)) O.m (O.g (O.e (x.I 9) u0))) O.m (x.B 10)) (O.a [.int (lq9 O 15)]) (O.a [.int u0]))) (O.d (O.f 189 [] [.int (x.I 6)]) fun c0=>(O.d (O.f 191 [] [.int (x.I 0),.bool (x.B 12)]) fun c1=>(O.d (O.f 190 [] [.rows (O.k c1 0),.int (x.I 6)]) fun c2=>(O.b (O.g (O.p c2 0)) (O.a [.int (lq9 O 13)]) (O.b (O.i (O.g (O.i (O.e (x.I 6) (O.lit .u8 6)) O.m (O.e (x.I 6) (O.lit .u8 8)))) (O.i (O.g (O.e (x.I 1) (O.lit .u8 0))) O.m (O.g (O.e (x.I 2) u0))) O.h) (O.a [.int (lq9 O 12)]) (O.b (O.i (O.g (O.e (x.I 7) (lq9 O 1))) (O.i (O.g (O.e (x.I 7) (lq9 O 2))) O.m (O.g (O.p c0 6))) O.h) (O.a [.int (lq9 O 14)]) (O.d (O.f 192 [] (ap O (xr x [0,0,0,0,0,1,0,0,0,0,1,0] 0) (cr O c0 [0,2,1,1,1,1,1] 0))) fun c3=>(O.b (O.g (O.p c3 0)) (O.a [.int (lq9 O 15)]) (O.b (O.i (O.i (x.B 10) (O.g (O.e (x.I 6) (O.lit .u8 2))) O.h) (O.g (O.e (x.I 6) (O.lit .u8 6))) O.h) (O.a [.int (lq9 O 18)]) (O.a [.int u0])))))))))))
def CY:Nat→Env:=eL [(189,IE),(190,Db),(191,GF),(192,Ds)]
theorem MS {N ls}:CY N 189 [] ls=IE N ls:=id rfl
theorem I1 {N ls}:CY N 190 [] ls=Db N ls:=id rfl
theorem L1 {N ls}:CY N 191 [] ls=GF N ls:=id rfl
theorem JW {N ls}:CY N 192 [] ls=Ds N ls:=id rfl
def Dl:=oS Ob FX CY
def Yz:List Nat:=[0,0,0,0,0,0,0,0,0,0,0,0,0,0,3,0,3,3,1,3,1,0,0,0,3,0,0,0,0,0,0,0,0,1,0,0,0,0,1,0]
def M1 (O:Alg) (x:Ags O):O.M:=let u1:=(lq9 O 1);let u0:=(lq9 O 0);(O.d (O.b (O.n u0 (x.I 36)) (O.d (O.f 179 [] (ap O (xr x kI 0) [.int (x.I 36)])) fun c0=>(O.b (O.g (O.p c0 0)) (O.a [.int u1,.int (lq9 O 3)]) (O.d (O.f 180 [] (ap O (xr x kI 0) [.int (x.I 36)])) fun c1=>(O.b (O.g (O.aq (x.B 38) (O.p c1 0))) (O.a [.int u1,.int (lq9 O 18)]) (O.a [.int u0]))))) (O.a [.int u0])) fun c0=>(O.b (O.z c0 0) (O.d (O.b (O.n u0 (x.I 37)) (O.d (O.f 179 [] (ap O (xr x kI 0) [.int (x.I 37)])) fun c1=>(O.b (O.g (O.p c1 0)) (O.a [.int u1,.int (lq9 O 3)]) (O.d (O.f 180 [] (ap O (xr x kI 0) [.int (x.I 37)])) fun c2=>(O.b (O.p c2 0) (O.a [.int u1,.int (lq9 O 18)]) (O.a [.int u0]))))) (O.a [.int u0])) fun c1=>(O.b (O.z c1 0) (O.b (O.i (O.e (x.I 34) (O.lit .u8 4)) (O.g (O.e (O.af (O.n (x.I 36) u0) u0 (x.I 36)) (x.I 22))) O.h) (O.a [.int (lq9 O 17)]) (O.a [.int u0])) (O.a [.int (O.c c1 1)]))) (O.a [.int (O.c c0 1)])))
def KO:Nat→Env:=eL [(179,BM),(180,BG)]
theorem Sj {N ls}:KO N 179 [] ls=BM N ls:=id rfl
theorem Pz {N ls}:KO N 180 [] ls=BG N ls:=id rfl
def JM:=oS Yz M1 KO
def SU:List Nat:=[2,0,0,0,0,0,0,0,1,0,0,0,0,3,0,0,0,0,0,0,0,0,0,0,0,0,0,0,3,0,3,3,1,3,1,0,0,0,3,0,0,0,0,0,0,0,0,1,0,0,0,0,1,0]
def H0 (O:Alg) (x:Ags O):O.M:=let u3:=(lq9 O 0);(O.d (O.f 163 [] (xr x kI 14)) fun c0=>(O.b (O.p c0 0) (O.a [.int (lq9 O 6)]) (O.b (O.e (x.I 29) u3) (O.a [.int (lq9 O 7)]) (O.d (O.f 185 [] (xr x [2,0,0,0,0,0,0,0,1,0,0,0,0,3,0,0,0,0,0,0,0,0,0,0,0,0,0,0,3,0,3,3,1,3,1,0,0,0,3,0,0,0] 0)) fun c1=>(O.d (O.f 106 [] (xr x [0,0,0,0,0,1,0,0,0,0,1,0] 42)) fun c2=>(O.d (O.f 186 [] (ap O (xr x [0,0,0,0,0,1,0,0,0,0,1,0] 42) [.bool (x.B 34)])) fun c3=>(O.d (O.f 187 [] (xr x [0,0,0,0,0,0,0,0,0,0,0,0,0,0,3,0,3,3,1,3,1,0,0,0,3,0,0,0,0,0,0,0,0,1,0,0,0,0,1,0] 14)) fun c4=>let u2:=(O.y [[.int (O.c c1 0)],[.int (O.c c2 0)],[.int (O.c c3 0)],[.int (O.c c4 0)]]);let u1:=(O.j u2);(O.d (O.t (fun s5 c5=>let u4:=(O.c c5 0);let u0:=(O.r u2 u4 0);(O.b (O.n u4 u1) (O.l (O.q u4 u1) (O.b (O.g (O.e u0 u3)) (O.a [.int u3,.int u0]) (s5 [.int (O.o .i64 u4 (lq9 O 1))]))) (O.a [.int (lq9 O 1)]))) [.int u3]) fun c5=>(O.b (O.z c5 0) (O.a [.int (O.c c5 1)]) (O.a [.int u3]))))))))))
def Cf:Nat→Env:=eL [(106,Cq),(163,Bb),(185,JT),(186,Dl),(187,JM)]
theorem NN {N ls}:Cf N 106 [] ls=Cq N ls:=id rfl
theorem N6 {N ls}:Cf N 163 [] ls=Bb N ls:=id rfl
theorem Pb {N ls}:Cf N 185 [] ls=JT N ls:=id rfl
theorem KY {N ls}:Cf N 186 [] ls=Dl N ls:=id rfl
theorem Pd {N ls}:Cf N 187 [] ls=JM N ls:=id rfl
def FO:=oS SU H0 Cf
def aX:List Nat:=[0,0,0,0,0,0,0,0,0,0,0,0,0,0,3,0,3,3,1,3,1,0,0,0,3,0,0,0,0,0,0,0,0,1,0,0,0,0,1,0]
def Of (O:Alg) (x:Ags O):O.M:=let u5:=(lq9 O 2);let u4:=(lq9 O 1);let u3:=(lq9 O 0);let u1:=(O.g (O.e (O.as .i64 (x.I 30) u5) u3));(O.d (O.f 166 [] (xr x kI 0)) fun c0=>(O.d (O.b (O.g (O.e (x.I 34) (O.lit .u8 0))) (O.b (O.i (O.e (x.I 35) u4) (O.g (O.e (x.I 12) u3)) O.h) (O.a [.int u4,.int (x.I 12)]) (O.b (O.i (O.e (x.I 35) u5) (O.g (O.e (x.I 13) u3)) O.h) (O.a [.int u5,.int (x.I 13)]) (O.a [.int u3,.int u3]))) (O.a [.int u3,.int u3])) fun c1=>let u7:=(O.c c1 1);let u2:=(O.v .i64 u7 u4);(O.d (O.b (x.B 33) (O.a [.bool (O.g u1)]) (O.a [.bool u1])) fun c2=>(O.d (O.b (O.p c2 0) (O.a (ap O (cr O c0 [0,0,0,0,0,0,0,0,0,0,0,0] 0) (ap O [.int (O.c c0 13),.int (O.c c0 12)] (cr O c0 [3,0,3,3,1,3,1,0,0,0,3,0,0,0] 14)))) (O.a (cr O c0 kI 0))) fun c3=>let u6:=(O.k c3 14);let u0:=(O.q u2 (O.j u6));(O.b (O.e (O.c c1 0) u3) (O.a (cr O c3 kI 0)) (O.b (O.g (O.aq (O.e (O.c c1 0) u4) (O.p c2 0))) (O.d (O.f 168 [] (ap O (cr O c3 [0,0,0,0,0,0,0,0,0,0,0,0] 0) (ap O [.int u3] (ap O (cr O c3 [0,3,0,3,3,1,3,1,0,0,0,3,0,0,0] 13) [.int u7])))) fun c4=>(O.d (O.b (O.p c4 0) (O.l u0 (O.a (ap O (cr O c3 [0,0,0,0,0,0,0,0,0,0,0,0] 0) (ap O [.int u3,.int (O.c c3 13),.rows (O.x u6 u2 0 [.int (O.lit .u8 2)])] (cr O c3 [0,3,3,1,3,1,0,0,0,3,0,0,0] 15))))) (O.a (ap O (cr O c3 [0,0,0,0,0,0,0,0,0,0,0,0] 0) (ap O [.int u3] (cr O c3 [0,3,0,3,3,1,3,1,0,0,0,3,0,0,0] 13))))) fun c5=>(O.a (ap O (cr O c5 [0,0,0,0] 0) (ap O [.int (O.o .i64 (O.c c5 4) u4)] (cr O c5 [0,0,0,0,0,0,0,0,0,3,0,3,3,1,3,1,0,0,0,3,0,0,0] 5)))))) (O.d (O.f 168 [] (ap O (cr O c3 [0,0,0,0,0,0,0,0,0,0,0,0,0] 0) (ap O [.int u3] (ap O (cr O c3 [3,0,3,3,1,3,1,0,0,0,3,0,0,0] 14) [.int u7])))) fun c4=>(O.d (O.b (O.p c4 0) (O.l u0 (O.a (ap O (cr O c3 [0,0,0,0,0,0,0,0,0,0,0,0,0] 0) (ap O [.int u3,.rows (O.x u6 u2 0 [.int (O.lit .u8 2)])] (cr O c3 [0,3,3,1,3,1,0,0,0,3,0,0,0] 15))))) (O.a (ap O (cr O c3 [0,0,0,0,0,0,0,0,0,0,0,0,0] 0) (ap O [.int u3] (cr O c3 [3,0,3,3,1,3,1,0,0,0,3,0,0,0] 14))))) fun c5=>(O.a (ap O (cr O c5 [0,0,0,0] 0) (ap O [.int (O.o .i64 (O.c c5 4) u4)] (cr O c5 [0,0,0,0,0,0,0,0,0,3,0,3,3,1,3,1,0,0,0,3,0,0,0] 5))))))))))))
def Lt:Nat→Env:=eL [(166,BD),(168,BC)]
theorem Um {N ls}:Lt N 166 [] ls=BD N ls:=id rfl
theorem Sw {N ls}:Lt N 168 [] ls=BC N ls:=id rfl
def Kd:=oS aX Of Lt
def Ub:List Nat:=[0,0,0,0,0,0,1,1,1,1]
def UD (O:Alg) (x:Ags O):O.M:=(O.a [.int (O.o .i64 (O.o .i64 (O.o .i64 (O.o .i64 (x.I 0) (x.I 1)) (x.I 2)) (x.I 3)) (x.I 4))])
def Z1:Nat→Env:=eL []
def F1:=oS Ub UD Z1
def aS:List Nat:=[2,0,0,0,0,0,0,0,1,0,0,0,0,3,0,0,0,0,0,0,0,0,0,0,0,0,0,0,3,0,3,3,1,3,1,0,0,0,3,0,0,0,1]
def Oa (O:Alg) (x:Ags O):O.M:=let u5:=(lq9 O 0);let u4:=(lq9 O 1);let u2:=(O.v .i64 (x.I 29) u4);(O.d (O.f 169 [] (xr x kI 14)) fun c0=>let u1:=(O.ad (O.k c0 16) (O.y [[.int (x.I 29)]]));(O.d (O.f 183 [] (ap O (xr x kI 14) [.int (x.I 29)])) fun c1=>let u3:=(O.g (O.p c1 0));(O.d (O.b (O.g u3) (O.f 27 [] (xr x kR 0)) (O.a [.int u5])) fun c2=>(O.b (O.i u3 O.m (O.g (O.e (O.c c2 0) u5))) (O.a (ap O (cr O c0 kI 0) [.bool O.h])) (O.d (O.f 138 [] [.rows (O.k c0 16),.int (x.I 29)]) fun c3=>(O.d (O.b (O.g (O.p c3 0)) (O.l (O.ab (O.j u1) 8) (O.a (ap O (cr O c0 [0,0,0,0,0,0,0,0,0,0,0,0,0,0,3,0] 0) (ap O [.rows u1] (cr O c0 [3,1,3,1,0,0,0,3,0,0,0] 17))))) (O.a (cr O c0 kI 0))) fun c4=>let u6:=(O.k c4 19);let u0:=(O.q u2 (O.j u6));(O.d (O.b (x.B 42) (O.l u0 (O.l u0 (O.a (ap O (cr O c4 [0,0,0,0,0,0,0,0,0,0,0] 0) (ap O [.int (O.o .i64 (O.c c4 11) u4)] (ap O (cr O c4 [0,0,3,0,3,3,1] 12) (ap O [.rows (O.x u6 u2 0 [.int (O.o .i64 (O.r u6 u2 0) u4)]),.bool (O.p c4 20),.int (O.o .i64 (O.c c4 21) u4)] (cr O c4 [0,0,3,0,0,0] 22)))))))) (O.a (cr O c4 kI 0))) fun c5=>(O.b (O.n (O.c c5 11) (x.I 4)) (O.a (ap O (cr O c5 kI 0) [.bool O.h])) (O.a (ap O (cr O c5 [0,0,0,0,0,0,0,0,0,0] 0) (ap O [.int (O.o .i64 (O.c c5 10) u4),.int u5] (ap O (cr O c5 [0,0,3] 12) (ap O [.int u5,.rows O.s,.rows (O.k c5 16)] (ap O (cr O c5 [1,3,1,0,0,0,3,0,0,0] 18) [.bool O.m]))))))))))))))
def Fz:Nat→Env:=eL [(27,AU),(138,A2),(169,DD),(183,CO)]
theorem UB {N ls}:Fz N 27 [] ls=AU N ls:=id rfl
theorem NF {N ls}:Fz N 138 [] ls=A2 N ls:=id rfl
theorem V3 {N ls}:Fz N 169 [] ls=DD N ls:=id rfl
theorem UI {N ls}:Fz N 183 [] ls=CO N ls:=id rfl
def Kk:=oS aS Oa Fz
def VL:List Nat:=[0,0,0,0,0,0,0,0,0,0,0,0,0,0,3,0,3,3,1,3,1,0,0,0,3,0,0,0]
def J3 (O:Alg) (x:Ags O):O.M:=(O.d (O.f 166 [] (xr x kI 0)) fun c0=>(O.a (ap O (cr O c0 [0,0,0,0,0,0,0,0,0,0,0,0] 0) (ap O [.int (x.I 13),.int (x.I 12)] (cr O c0 [3,0,3,3,1,3,1,0,0,0,3,0,0,0] 14)))))
def MB:Nat→Env:=eL [(166,BD)]
theorem R2 {N ls}:MB N 166 [] ls=BD N ls:=id rfl
def G4:=oS VL J3 MB
def Wq:List Nat:=[2,0,0,0,0,0,0,0,1,0,0,0,0,3,0,0,0,0,0,0,0,0,0,0,0,0,0,0,3,0,3,3,1,3,1,0,0,0,3,0,0,0,0,0,0,0,0,1,0,0,0,0,1,0]
def Lg (O:Alg) (x:Ags O):O.M:=let u0:=(lq9 O 0);(O.d (O.f 171 [] (xr x [2,0,0,0,0,0,0,0,1,0,0,0,0,3,0,0,0,0,0,0,0,0,0,0,0,0,0,0,3,0,3,3,1,3,1,0,0,0,3,0,0,0,0,0,0,0,0,1,0,0,0,0,1,0] 0)) fun c0=>(O.b (O.g (O.e (O.c c0 0) u0)) (O.d (O.f 116 [] (xr x kI 14)) fun c1=>(O.a (ap O (cr O c1 kI 0) [.int (O.c c0 0)]))) (O.d (O.f 91 [] (ap O (xr x kR 0) (xr x [0,0,0,0,0,1,0,0,0,0,1,0] 42))) fun c1=>(O.d (O.f 172 [] (xr x [0,0,0,0,0,0,0,0,0,0,0,0,0,0,3,0,3,3,1,3,1,0,0,0,3,0,0,0,0,0,0,0,0,1,0,0,0,0,1,0] 14)) fun c2=>(O.d (O.f 173 [] (cr O c1 [0,0,0,0,0,0,1,1,1,1] 0)) fun c3=>(O.d (O.f 174 [] (ap O (xr x kR 0) (ap O (cr O c2 [0,0,0] 0) (ap O [.int (O.o .i64 (O.c c2 3) (O.c c3 0)),.int (O.c c2 4),.int (O.o .i64 (O.c c2 5) (O.c c1 1)),.int (O.o .i64 (O.c c2 6) (O.c c1 2)),.int (O.o .i64 (O.c c2 7) (O.c c1 3)),.int (O.o .i64 (O.c c2 8) (O.c c1 4))] (ap O (cr O c2 [0,0,0,0,0,3,0,3,3,1,3,1,0,0,0,3,0,0,0] 9) [.bool (O.p c1 6)]))))) fun c4=>(O.d (O.b (O.p c4 28) (O.d (O.f 175 [] (cr O c4 kI 0)) fun c5=>(O.a (cr O c5 kI 0))) (O.a (cr O c4 kI 0))) fun c5=>(O.b (O.e (x.I 42) (O.lit .u8 1)) (O.a (ap O (cr O c5 [0,0,0,0,0,0,0,0,0,0,0,0,0,0,3,0,3,3,1,3] 0) (ap O [.bool O.h] (ap O (cr O c5 [0,0,0,3,0,0,0] 21) [.int u0])))) (O.b (O.i (O.e (x.I 42) (O.lit .u8 3)) (x.B 8) O.h) (O.a (ap O (cr O c5 [0,0,0,0,0,0,0,0,0,0,0,0,0,0,3,0,3,3,1,3] 0) (ap O [.bool O.m] (ap O (cr O c5 [0,0,0,3,0,0,0] 21) [.int u0])))) (O.a (ap O (cr O c5 kI 0) [.int u0])))))))))))
def CM:Nat→Env:=eL [(91,Cb),(116,AZ),(171,FO),(172,Kd),(173,F1),(174,Kk),(175,G4)]
theorem OV {N ls}:CM N 91 [] ls=Cb N ls:=id rfl
theorem Pu {N ls}:CM N 116 [] ls=AZ N ls:=id rfl
theorem PS {N ls}:CM N 171 [] ls=FO N ls:=id rfl
theorem S0 {N ls}:CM N 172 [] ls=Kd N ls:=id rfl
theorem Pf {N ls}:CM N 173 [] ls=F1 N ls:=id rfl
theorem Sk {N ls}:CM N 174 [] ls=Kk N ls:=id rfl
theorem P4 {N ls}:CM N 175 [] ls=G4 N ls:=id rfl
def ID:=oS Wq Lg CM
def Zj:List Nat:=[0,0,0,0,0,0,0,0,0,0,0,0,0,0,3,0,3,3,1,3,1,0,0,0,3,0,0,0,0]
def PO (O:Alg) (x:Ags O):O.M:=let u2:=(O.v .i64 (x.I 28) (lq9 O 1));let u1:=(O.r (x.L 14) u2 0);let u0:=(O.q u2 (O.j (x.L 14)));(O.d (O.f 168 [] (xr x [0,0,0,0,0,0,0,0,0,0,0,0,0,0,3,0,3,3,1,3,1,0,0,0,3,0,0,0,0] 0)) fun c0=>(O.b (O.g (O.p c0 0)) (O.a [.int (lq9 O 3)]) (O.d (O.f 163 [] (xr x kI 0)) fun c1=>let u3:=(O.g (O.p c1 0));(O.l (O.g (O.aa (O.g u3) (O.g u0))) (O.b (O.i u3 O.m (O.e u1 (O.lit .u8 1))) (O.a [.int (lq9 O 4)]) (O.l u0 (O.b (O.e u1 (O.lit .u8 2)) (O.a [.int (lq9 O 5)]) (O.a [.int (lq9 O 0)]))))))))
def Lj:Nat→Env:=eL [(163,Bb),(168,BC)]
theorem Rz {N ls}:Lj N 163 [] ls=Bb N ls:=id rfl
theorem Ss {N ls}:Lj N 168 [] ls=BC N ls:=id rfl
def Ej:=oS Zj PO Lj
def TL:List Nat:=[0,0,0,0,0,0,0,0,0,0,0,0,0,0,3,0,3,3,1,3,1,0,0,0,3,0,0,0,0]
def JE (O:Alg) (x:Ags O):O.M:=let u0:=(O.v .i64 (x.I 28) (lq9 O 1));(O.d (O.f 166 [] (xr x kI 0)) fun c0=>(O.d (O.f 176 [] (xr x [0,0,0,0,0,0,0,0,0,0,0,0,0,0,3,0,3,3,1,3,1,0,0,0,3,0,0,0,0] 0)) fun c1=>(O.b (O.g (O.e (O.c c1 0) (lq9 O 0))) (O.a (ap O (cr O c0 kI 0) [.int (O.c c1 0)])) (O.d (O.f 168 [] (ap O (cr O c0 kI 0) [.int (x.I 28)])) fun c2=>(O.d (O.b (O.p c2 0) (O.l (O.q u0 (O.j (O.k c0 14))) (O.a (ap O (cr O c0 [0,0,0,0,0,0,0,0,0,0,0,0,0,0] 0) (ap O [.rows (O.x (O.k c0 14) u0 0 [.int (O.lit .u8 2)])] (cr O c0 [0,3,3,1,3,1,0,0,0,3,0,0,0] 15))))) (O.a (cr O c0 kI 0))) fun c3=>(O.a (ap O (cr O c3 [0,0,0,0] 0) (ap O [.int (O.o .i64 (O.c c3 4) (lq9 O 1))] (ap O (cr O c3 [0,0,0,0,0,0,0,0,0,3,0,3,3,1,3,1,0,0,0,3,0,0,0] 5) [.int (lq9 O 0)])))))))))
def Ea:Nat→Env:=eL [(166,BD),(168,BC),(176,Ej)]
theorem Re {N ls}:Ea N 166 [] ls=BD N ls:=id rfl
theorem PX {N ls}:Ea N 168 [] ls=BC N ls:=id rfl
theorem RS {N ls}:Ea N 176 [] ls=Ej N ls:=id rfl
def GM:=oS TL JE Ea
def Wp:List Nat:=[0,0,0,0,0,0,0,0,0,0,0,0,0,0,3,0,3,3,1,3,1,0,0,0,3,0,0,0,0]
def Lk (O:Alg) (x:Ags O):O.M:=let u1:=(lq9 O 0);let u0:=(O.v .i64 (x.I 28) (lq9 O 1));(O.d (O.f 166 [] (xr x kI 0)) fun c0=>let u2:=(O.k c0 14);(O.d (O.f 176 [] (xr x [0,0,0,0,0,0,0,0,0,0,0,0,0,0,3,0,3,3,1,3,1,0,0,0,3,0,0,0,0] 0)) fun c1=>(O.b (O.g (O.e (O.c c1 0) u1)) (O.a (ap O (cr O c0 kI 0) [.int (O.c c1 0)])) (O.l (O.q u0 (O.j u2)) (O.b (O.e (O.c c0 12) u1) (O.a (ap O (cr O c0 [0,0,0,0,0,0,0,0,0,0,0,0] 0) (ap O [.int (x.I 28),.int (O.c c0 13),.rows (O.x u2 u0 0 [.int (O.lit .u8 1)])] (ap O (cr O c0 [0,3,3,1,3,1,0,0,0,3,0,0,0] 15) [.int u1])))) (O.a (ap O (cr O c0 [0,0,0,0,0,0,0,0,0,0,0,0,0] 0) (ap O [.int (x.I 28),.rows (O.x u2 u0 0 [.int (O.lit .u8 1)])] (ap O (cr O c0 [0,3,3,1,3,1,0,0,0,3,0,0,0] 15) [.int u1])))))))))
def I0:Nat→Env:=eL [(166,BD),(176,Ej)]
theorem So {N ls}:I0 N 166 [] ls=BD N ls:=id rfl
theorem Su {N ls}:I0 N 176 [] ls=Ej N ls:=id rfl
def IW:=oS Wp Lk I0
def ZC:List Nat:=[0,0,0,0,0,0,0,0,0,0,0,0,0,0,3,0,3,3,1,3,1,0,0,0,3,0,0,0]
def Gm (O:Alg) (x:Ags O):O.M:=(O.d (O.t (fun s0 c0=>let u4:=(O.k c0 0);let u3:=(O.c c0 1);let u2:=(O.r (x.L 14) u3 0);let u1:=(O.o .i64 u3 (lq9 O 1));let u0:=(O.ad u4 (O.y [[.int u1]]));(O.b (O.n u3 (O.j (x.L 14))) (O.l (O.q u3 (O.j (x.L 14))) (O.b (O.i (O.e u2 (O.lit .u8 0)) O.m (O.e u2 (O.lit .u8 3))) (O.l (O.ab (O.j u0) 8) (s0 [.rows u0,.int u1])) (s0 [.rows u4,.int u1]))) (O.a [.rows u4]))) [.rows O.s,.int (lq9 O 0)]) fun c0=>(O.a [.rows (O.k c0 0)]))
def OW:Nat→Env:=eL []
def DQ:=oS ZC Gm OW
def VS:List Nat:=[0,0,0,0,0,0,0,0,0,0,0,0,0,0,3,0,3,3,1,3,1,0,0,0,3,0,0,0,0,1]
def KL (O:Alg) (x:Ags O):O.M:=let u3:=(lq9 O 0);let u2:=(O.e (x.I 28) (x.I 12));let u1:=(O.v .i64 (x.I 28) (lq9 O 1));(O.d (O.f 166 [] (xr x kI 0)) fun c0=>(O.d (O.f 168 [] (xr x [0,0,0,0,0,0,0,0,0,0,0,0,0,0,3,0,3,3,1,3,1,0,0,0,3,0,0,0,0] 0)) fun c1=>(O.b (O.g (O.p c1 0)) (O.a (ap O (cr O c0 kI 0) [.int (lq9 O 3)])) (O.b (O.i (O.e (x.I 12) u3) O.m (O.e (x.I 13) u3)) (O.a (ap O (cr O c0 kI 0) [.int (lq9 O 6)])) (O.b (O.i (O.g u2) (O.g (O.e (x.I 28) (x.I 13))) O.h) (O.a (ap O (cr O c0 kI 0) [.int (lq9 O 4)])) (O.d (O.b (x.B 29) (O.f 164 [] (xr x kI 0)) (O.a [.rows O.s])) fun c2=>(O.b (O.i (x.B 29) (O.e (O.j (O.k c2 0)) u3) O.h) (O.a (ap O (cr O c0 kI 0) [.int (lq9 O 19)])) (O.d (O.b u2 (O.a (ap O (cr O c0 [0,0,0,0,0,0,0,0,0,0,0,0] 0) (ap O [.int u3] (cr O c0 [0,3,0,3,3,1,3,1,0,0,0,3,0,0,0] 13)))) (O.a (ap O (cr O c0 [0,0,0,0,0,0,0,0,0,0,0,0,0] 0) (ap O [.int u3] (cr O c0 [3,0,3,3,1,3,1,0,0,0,3,0,0,0] 14))))) fun c3=>let u4:=(O.k c3 14);let u0:=(O.q u1 (O.j u4));(O.b (x.B 29) (O.l u0 (O.a (ap O (cr O c3 [0,0,0,0,0,0,0,0,0,0,0,0,0,0] 0) (ap O [.rows (O.x u4 u1 0 [.int (O.lit .u8 3)])] (ap O (cr O c3 [0,3,3,1,3,1,0,0,0,3,0,0,0] 15) [.int u3]))))) (O.d (O.f 168 [] (ap O (cr O c3 kI 0) [.int (x.I 28)])) fun c4=>(O.d (O.b (O.p c4 0) (O.l u0 (O.a (ap O (cr O c3 [0,0,0,0,0,0,0,0,0,0,0,0,0,0] 0) (ap O [.rows (O.x u4 u1 0 [.int (O.lit .u8 2)])] (cr O c3 [0,3,3,1,3,1,0,0,0,3,0,0,0] 15))))) (O.a (cr O c3 kI 0))) fun c5=>(O.a (ap O (cr O c5 [0,0,0,0] 0) (ap O [.int (O.o .i64 (O.c c5 4) (lq9 O 1))] (ap O (cr O c5 [0,0,0,0,0,0,0,0,0,3,0,3,3,1,3,1,0,0,0,3,0,0,0] 5) [.int u3])))))))))))))))
def FM:Nat→Env:=eL [(164,DQ),(166,BD),(168,BC)]
theorem Q4 {N ls}:FM N 164 [] ls=DQ N ls:=id rfl
theorem R6 {N ls}:FM N 166 [] ls=BD N ls:=id rfl
theorem QQ {N ls}:FM N 168 [] ls=BC N ls:=id rfl
def HR:=oS VS KL FM
def dZ:List Nat:=[0,0,0,0,0,0,0,0,0,0,0,0,0,0,3,0,3,3,1,3,1,0,0,0,3,0,0,0]
def Qn (O:Alg) (x:Ags O):O.M:=(O.d (O.f 131 [] [.rows (x.L 14)]) fun c0=>(O.d (O.f 47 [] [.rows (x.L 16)]) fun c1=>(O.d (O.f 47 [] [.rows (x.L 17)]) fun c2=>(O.d (O.f 47 [] [.rows (x.L 19)]) fun c3=>(O.d (O.f 132 [] [.rows (x.L 24)]) fun c4=>(O.a (ap O (xr x [0,0,0,0,0,0,0,0,0,0,0,0,0,0] 0) (ap O [.rows (O.k c0 0),.int (x.I 15),.rows (O.k c1 0),.rows (O.k c2 0),.bool (x.B 18),.rows (O.k c3 0)] (ap O (xr x [1,0,0,0] 20) (ap O [.rows (O.k c4 0)] (xr x [0,0,0] 25)))))))))))
def JQ:Nat→Env:=eL [(47,Ad),(131,Ae),(132,Ah)]
theorem QR {N ls}:JQ N 47 [] ls=Ad N ls:=id rfl
theorem N5 {N ls}:JQ N 131 [] ls=Ae N ls:=id rfl
theorem Pc {N ls}:JQ N 132 [] ls=Ah N ls:=id rfl
def DG:=oS dZ Qn JQ
def VF:List Nat:=[0,0,0,0,0,0,0,0,0,0,0,0,0,0,3,0,3,3,1,3,1,0,0,0,3,0,0,0,0]
def KI (O:Alg) (x:Ags O):O.M:=(O.d (O.f 178 [] (xr x kI 0)) fun c0=>(O.b (O.i (O.n (x.I 28) (lq9 O 0)) O.m (O.n (O.v .i64 (O.j (x.L 24)) (lq9 O 2)) (x.I 28))) (O.a (ap O (cr O c0 kI 0) [.int (lq9 O 16)])) (O.a (ap O (cr O c0 [0,0,0,0,0,0,0,0,0,0,0,0,0,0,3,0,3,3,1,3,1,0,0] 0) (ap O [.int (x.I 28)] (ap O (cr O c0 [3,0,0,0] 24) [.int (lq9 O 0)]))))))
def MH:Nat→Env:=eL [(178,DG)]
theorem Sn {N ls}:MH N 178 [] ls=DG N ls:=id rfl
def HQ:=oS VF KI MH
def XG:List Nat:=[0,0,0,0,0,0,0,0,0,0,0,0,0,0,3,0,3,3,1,3,1,0,0,0,3,0,0,0,0]
def LX (O:Alg) (x:Ags O):O.M:=(O.d (O.f 178 [] (xr x kI 0)) fun c0=>(O.d (O.f 179 [] (xr x [0,0,0,0,0,0,0,0,0,0,0,0,0,0,3,0,3,3,1,3,1,0,0,0,3,0,0,0,0] 0)) fun c1=>(O.b (O.g (O.p c1 0)) (O.a (ap O (cr O c0 kI 0) [.int (lq9 O 3)])) (O.d (O.f 180 [] (xr x [0,0,0,0,0,0,0,0,0,0,0,0,0,0,3,0,3,3,1,3,1,0,0,0,3,0,0,0,0] 0)) fun c2=>(O.b (O.p c2 0) (O.a (ap O (cr O c0 kI 0) [.int (lq9 O 18)])) (O.b (O.i (O.e (x.I 28) (x.I 15)) O.m (O.e (x.I 28) (x.I 22))) (O.a (ap O (cr O c0 kI 0) [.int (lq9 O 17)])) (O.a (ap O (cr O c0 [0,0,0,0,0,0,0,0,0,0,0,0,0,0,3,0,3,3,1,3,1,0] 0) (ap O [.int (x.I 28)] (ap O (cr O c0 [0,3,0,0,0] 23) [.int (lq9 O 0)]))))))))))
def GD:Nat→Env:=eL [(178,DG),(179,BM),(180,BG)]
theorem TZ {N ls}:GD N 178 [] ls=DG N ls:=id rfl
theorem Rp {N ls}:GD N 179 [] ls=BM N ls:=id rfl
theorem PZ {N ls}:GD N 180 [] ls=BG N ls:=id rfl
def IP:=oS XG LX GD
def RU:List Nat:=[0,0,0,0,0,0,0,0,0,0,0,0,0,0,3,0,3,3,1,3,1,0,0,0,3,0,0,0,0,1]
def HX (O:Alg) (x:Ags O):O.M:=let u2:=(lq9 O 0);let u1:=(O.v .i64 (x.I 28) (lq9 O 1));(O.d (O.f 178 [] (xr x kI 0)) fun c0=>let u0:=(O.x (O.k c0 24) u1 0 [.bool (x.B 29)]);(O.d (O.f 179 [] (xr x [0,0,0,0,0,0,0,0,0,0,0,0,0,0,3,0,3,3,1,3,1,0,0,0,3,0,0,0,0] 0)) fun c1=>(O.b (O.g (O.p c1 0)) (O.a (ap O (cr O c0 kI 0) [.int (lq9 O 3)])) (O.d (O.f 180 [] (xr x [0,0,0,0,0,0,0,0,0,0,0,0,0,0,3,0,3,3,1,3,1,0,0,0,3,0,0,0,0] 0)) fun c2=>(O.b (O.aq (O.p c2 0) (x.B 29)) (O.a (ap O (cr O c0 kI 0) [.int (lq9 O 18)])) (O.l (O.q u1 (O.j (O.k c0 24))) (O.d (O.b (O.i (x.B 29) (O.e (O.c c0 22) (x.I 28)) O.h) (O.a (ap O (cr O c0 [0,0,0,0,0,0,0,0,0,0,0,0,0,0,3,0,3,3,1,3,1,0] 0) (ap O [.int u2,.int (O.c c0 23),.rows u0] (cr O c0 [0,0,0] 25)))) (O.a (ap O (cr O c0 [0,0,0,0,0,0,0,0,0,0,0,0,0,0,3,0,3,3,1,3,1,0,0,0] 0) (ap O [.rows u0] (cr O c0 [0,0,0] 25))))) fun c3=>(O.b (O.i (x.B 29) (O.e (O.c c3 15) (x.I 28)) O.h) (O.a (ap O (cr O c3 [0,0,0,0,0,0,0,0,0,0,0,0,0,0,3] 0) (ap O [.int u2] (ap O (cr O c3 [3,3,1,3,1,0,0,0,3,0,0,0] 16) [.int u2])))) (O.a (ap O (cr O c3 kI 0) [.int u2]))))))))))
def Dg:Nat→Env:=eL [(178,DG),(179,BM),(180,BG)]
theorem QS {N ls}:Dg N 178 [] ls=DG N ls:=id rfl
theorem Ot {N ls}:Dg N 179 [] ls=BM N ls:=id rfl
theorem MY {N ls}:Dg N 180 [] ls=BG N ls:=id rfl
def Eg:=oS RU HX Dg
def VR:List Nat:=[2,0,0,0,0,0,0,0,1,0,0,0,0,3,0,0,0,0,0,0,0,0,0,0,0,0,0,0,3,0,3,3,1,3,1,0,0,0,3,0,0,0]
def J0 (O:Alg) (x:Ags O):O.M:=let u0:=(lq9 O 0);(O.d (O.f 169 [] (xr x kI 14)) fun c0=>(O.d (O.f 27 [] (xr x kR 0)) fun c1=>(O.b (O.i (O.i (O.g (O.e (O.c c1 0) u0)) O.m (O.e (x.I 9) u0)) O.m (O.n (x.I 35) (O.al .i64 (x.I 9) (x.I 4)))) (O.a (ap O (cr O c0 kI 0) [.int (lq9 O 22)])) (O.a (ap O (cr O c0 [0,0,0,0,0,0,0,0,0,0,0,0,0,0,3,0,3,3,1,3,1] 0) (ap O [.int u0] (ap O (cr O c0 [0,0,3,0,0,0] 22) [.int u0])))))))
def Hw:Nat→Env:=eL [(27,AU),(169,DD)]
theorem RA {N ls}:Hw N 27 [] ls=AU N ls:=id rfl
theorem Sz {N ls}:Hw N 169 [] ls=DD N ls:=id rfl
def G6:=oS VR J0 Hw
def R8:List Nat:=[2,0,0,0,0,0,0,0,1,0,0,0,0,3,0,0,0,0,0,0,0,0,0,0,0,0,0,0,3,0,3,3,1,3,1,0,0,0,3,0,0,0,0,0,0,0,1,0,0,0,0,0,0,0,1,0,0,0,0,1,0]
def Hx (O:Alg) (x:Ags O):O.M:=(O.d (O.f 116 [] (xr x kI 14)) fun c0=>(O.b (O.g (O.e (x.I 43) (x.I 14))) (O.a (ap O (cr O c0 kI 0) [.int (lq9 O 2)])) (O.b (O.g (O.e (x.I 3) (lq9 O 0))) (O.a (ap O (cr O c0 kI 0) [.int (lq9 O 20)])) (O.a (ap O (cr O c0 [0,0,0,0,0,0,0,0,0,0,0,0,0,0,3,0,3,3,1,3,1,0,0,0,3,0,0] 0) [.int (O.lit .u8 4),.int (lq9 O 0)])))))
def Js:Nat→Env:=eL [(116,AZ)]
theorem N4 {N ls}:Js N 116 [] ls=AZ N ls:=id rfl
def FI:=oS R8 Hx Js
def SG:List Nat:=[0,0,0,0,0,0,0,0,0,0,0,0,0,0,3,0,3,3,1,3,1,0,0,0,3,0,0,0]
def H3 (O:Alg) (x:Ags O):O.M:=(O.d (O.f 116 [] (xr x kI 0)) fun c0=>(O.a (ap O (cr O c0 [0,0,0] 0) (ap O [.int (O.o .i64 (O.c c0 3) (lq9 O 5))] (ap O (cr O c0 [0,0,0,0,0] 4) (ap O [.int (O.o .i64 (O.c c0 9) (lq9 O 5))] (cr O c0 [0,0,0,0,3,0,3,3,1,3,1,0,0,0,3,0,0,0] 10)))))))
def Jn:Nat→Env:=eL [(116,AZ)]
theorem N7 {N ls}:Jn N 116 [] ls=AZ N ls:=id rfl
def Ca:=oS SG H3 Jn
def SX:List Nat:=[0,0,0,0,0,0,0,0,0,0,0,0,0,0,3,0,3,3,1,3,1,0,0,0,3,0,0,0,0,0,0,0,1,0,0,0,0,0,0,0,1,0,0,0,0,1,0]
def Hz (O:Alg) (x:Ags O):O.M:=let u0:=(lq9 O 0);(O.d (O.f 116 [] (xr x kI 0)) fun c0=>(O.b (O.g (O.e (x.I 33) (lq9 O 5))) (O.a (ap O (cr O c0 kI 0) [.int (lq9 O 23)])) (O.b (O.e (x.I 29) (x.I 0)) (O.d (O.f 144 [] (xr x kI 0)) fun c1=>(O.a (ap O (cr O c1 kI 0) [.int u0]))) (O.b (O.n u0 (O.c c0 1)) (O.a (ap O [.int (O.c c0 0),.int (O.o .i64 (O.c c0 1) (lq9 O 5))] (ap O (cr O c0 [0,0,0,0,0,0,0,0,0,0,0,0,3,0,3,3,1,3,1,0,0,0,3,0,0,0] 2) [.int u0]))) (O.a (ap O (cr O c0 kI 0) [.int u0]))))))
def Gb:Nat→Env:=eL [(116,AZ),(144,Ca)]
theorem N2 {N ls}:Gb N 116 [] ls=AZ N ls:=id rfl
theorem MZ {N ls}:Gb N 144 [] ls=Ca N ls:=id rfl
def FR:=oS SX Hz Gb
def Ti:List Nat:=[2,0,0,0,0,0,0,0,1,0,0,0,0,3,0,0,0,0,0,0,0,0,0,0,0,0,0,0,3,0,3,3,1,3,1,0,0,0,3,0,0,0,0,0,0,0,1,0,0,0,0,0,0,0,1,0,0,0,0,1,0]
def F6 (O:Alg) (x:Ags O):O.M:=let u5:=(lq9 O 0);let u4:=(lq9 O 1);let u3:=(O.v .i64 (x.I 43) u4);let u2:=(O.q u3 (lq9 O 2));let u1:=(O.e u3 u4);(O.d (O.f 116 [] (xr x kI 14)) fun c0=>let u0:=(O.o .i64 (O.af u1 (O.c c0 26) (O.c c0 25)) u4);(O.l (O.g (O.aa (O.g (O.g (x.B 32))) (O.g u2))) (O.b (O.i (O.g (x.B 32)) O.m (O.w (x.I 11) (O.af u1 (x.I 40) (x.I 39)))) (O.a (ap O (cr O c0 kI 0) [.int (lq9 O 24)])) (O.b (O.g (x.B 46)) (O.l u2 (O.l u2 (O.a (ap O (cr O c0 [0,0,0,0,0,0,0,0,0,0,0,0,0,0,3,0,3,3,1,3,1,0,0,0,3] 0) [.int (O.af (O.e u3 u5) u0 (O.c c0 25)),.int (O.af u1 u0 (O.c c0 26)),.int (O.c c0 27),.int u5])))) (O.a (ap O (cr O c0 kI 0) [.int u5]))))))
def LR:Nat→Env:=eL [(116,AZ)]
theorem HZ {N ls}:LR N 116 [] ls=AZ N ls:=id rfl
def GR:=oS Ti F6 LR
def U4:List Nat:=[2,0,0,0,0,0,0,0,1,0,0,0,0,3,0,0,0,0,0,0,0,0,0,0,0,0,0,0,3,0,3,3,1,3,1,0,0,0,3,0,0,0]
def U0 (O:Alg) (x:Ags O):O.M:=(O.a [.int (O.o .i64 (O.al .i64 (x.I 24) (x.I 4)) (x.I 25))])
def cd:Nat→Env:=eL []
def HB:=oS U4 U0 cd
def UC:List Nat:=[2,0,0,0,0,0,0,0,1,0,0,0,0,3,0,0,0,0,0,0,0,0,0,0,0,0,0,0,3,0,3,3,1,3,1,0,0,0,3,0,0,0,0,0,0,0,1,0,0,0,0,0,0,0,1,0,0,0,0,1,0]
def JD (O:Alg) (x:Ags O):O.M:=let u4:=(lq9 O 0);let u3:=(lq9 O 25);let u2:=(O.n (x.I 3) (x.I 48));let u1:=(O.n u4 (x.I 47));let u0:=(O.n u4 (x.I 48));(O.d (O.f 116 [] (xr x kI 14)) fun c0=>(O.b (O.i (O.e (x.I 3) u4) O.m (O.i (O.e (x.I 47) u4) (O.e (x.I 48) u4) O.h)) (O.a (ap O (cr O c0 kI 0) [.int u3])) (O.b (O.i u1 (O.i (O.e (x.I 15) u4) O.m (O.w (x.I 47) (x.I 17))) O.h) (O.a (ap O (cr O c0 kI 0) [.int u3])) (O.d (O.b (O.aa u0 (O.g u2)) (O.f 181 [] (xr x [2,0,0,0,0,0,0,0,1,0,0,0,0,3,0,0,0,0,0,0,0,0,0,0,0,0,0,0,3,0,3,3,1,3,1,0,0,0,3,0,0,0] 0)) (O.a [.int u4])) fun c1=>(O.b (O.i u0 (O.i u2 O.m (O.n (O.al .i64 (x.I 48) (x.I 4)) (O.c c1 0))) O.h) (O.a (ap O (cr O c0 kI 0) [.int u3])) (O.d (O.b u1 (O.a (ap O [.int (O.c c0 0),.int (x.I 47)] (cr O c0 [0,0,0,0,0,0,0,0,0,0,0,0,3,0,3,3,1,3,1,0,0,0,3,0,0,0] 2))) (O.a (cr O c0 kI 0))) fun c2=>(O.b u0 (O.a (ap O [.int (O.c c2 0),.int (O.c c2 1),.int (x.I 48)] (ap O (cr O c2 [0,0,0,0,0,0,0,0,0,0,0,3,0,3,3,1,3,1,0,0,0,3,0,0,0] 3) [.int u4]))) (O.a (ap O (cr O c2 kI 0) [.int u4])))))))))
def G9:Nat→Env:=eL [(116,AZ),(181,HB)]
theorem PK {N ls}:G9 N 116 [] ls=AZ N ls:=id rfl
theorem PQ {N ls}:G9 N 181 [] ls=HB N ls:=id rfl
def F3:=oS UC JD G9
def SI:List Nat:=[2,0,0,0,0,0,0,0,1,0,0,0,0,3,0,0,0,0,0,0,0,0,0,0,0,0,0,0,3,0,3,3,1,3,1,0,0,0,3,0,0,0,0,0,0,0,1,0,0,0,0,0,0,0,1,0,0,0,0,1,0]
def FW (O:Alg) (x:Ags O):O.M:=(O.b (O.e (x.I 42) (O.lit .u8 2)) (O.d (O.f 149 [] (ap O (xr x kI 14) [.int (x.I 44),.int (x.I 45)])) fun c0=>(O.a (cr O c0 [0,0,0,0,0,0,0,0,0,0,0,0,0,0,3,0,3,3,1,3,1,0,0,0,3,0,0,0,0] 0))) (O.b (O.e (x.I 42) (O.lit .u8 3)) (O.d (O.f 150 [] (ap O (xr x [2,0,0,0,0,0,0,0,1,0,0,0,0,3,0,0,0,0,0,0,0,0,0,0,0,0,0,0,3,0,3,3,1,3,1,0,0,0,3,0,0,0] 0) [.int (x.I 44)])) fun c0=>(O.a (cr O c0 [0,0,0,0,0,0,0,0,0,0,0,0,0,0,3,0,3,3,1,3,1,0,0,0,3,0,0,0,0] 0))) (O.b (O.e (x.I 42) (O.lit .u8 4)) (O.d (O.f 151 [] (ap O (xr x [2,0,0,0,0,0,0,0,1,0,0,0,0,3,0,0,0,0,0,0,0,0,0,0,0,0,0,0,3,0,3,3,1,3,1,0,0,0,3,0,0,0] 0) (xr x [0,0,0,0,0,1,0,0,0,0,1,0] 49))) fun c0=>(O.a (cr O c0 [0,0,0,0,0,0,0,0,0,0,0,0,0,0,3,0,3,3,1,3,1,0,0,0,3,0,0,0,0] 0))) (O.b (O.e (x.I 42) (O.lit .u8 5)) (O.b (x.B 46) (O.d (O.f 152 [] (ap O (xr x kI 14) [.int (x.I 44)])) fun c0=>(O.a (cr O c0 [0,0,0,0,0,0,0,0,0,0,0,0,0,0,3,0,3,3,1,3,1,0,0,0,3,0,0,0,0] 0))) (O.d (O.f 153 [] (ap O (xr x kI 14) [.int (x.I 44)])) fun c0=>(O.a (cr O c0 [0,0,0,0,0,0,0,0,0,0,0,0,0,0,3,0,3,3,1,3,1,0,0,0,3,0,0,0,0] 0)))) (O.b (O.e (x.I 42) (O.lit .u8 6)) (O.d (O.f 154 [] (ap O (xr x kI 14) [.int (x.I 44),.bool (x.B 46)])) fun c0=>(O.a (cr O c0 [0,0,0,0,0,0,0,0,0,0,0,0,0,0,3,0,3,3,1,3,1,0,0,0,3,0,0,0,0] 0))) (O.b (O.e (x.I 42) (O.lit .u8 7)) (O.d (O.f 155 [] (ap O (xr x kI 14) [.int (x.I 47)])) fun c0=>(O.a (cr O c0 [0,0,0,0,0,0,0,0,0,0,0,0,0,0,3,0,3,3,1,3,1,0,0,0,3,0,0,0,0] 0))) (O.b (O.e (x.I 42) (O.lit .u8 8)) (O.d (O.f 156 [] (ap O (xr x kI 14) [.int (x.I 44)])) fun c0=>(O.a (cr O c0 [0,0,0,0,0,0,0,0,0,0,0,0,0,0,3,0,3,3,1,3,1,0,0,0,3,0,0,0,0] 0))) (O.b (O.e (x.I 42) (O.lit .u8 9)) (O.d (O.f 157 [] (ap O (xr x kI 14) [.int (x.I 44),.bool (x.B 46)])) fun c0=>(O.a (cr O c0 [0,0,0,0,0,0,0,0,0,0,0,0,0,0,3,0,3,3,1,3,1,0,0,0,3,0,0,0,0] 0))) (O.b (O.e (x.I 42) (O.lit .u8 10)) (O.d (O.f 158 [] (xr x [2,0,0,0,0,0,0,0,1,0,0,0,0,3,0,0,0,0,0,0,0,0,0,0,0,0,0,0,3,0,3,3,1,3,1,0,0,0,3,0,0,0] 0)) fun c0=>(O.a (cr O c0 [0,0,0,0,0,0,0,0,0,0,0,0,0,0,3,0,3,3,1,3,1,0,0,0,3,0,0,0,0] 0))) (O.b (O.e (x.I 42) (O.lit .u8 11)) (O.d (O.f 159 [] (xr x [2,0,0,0,0,0,0,0,1,0,0,0,0,3,0,0,0,0,0,0,0,0,0,0,0,0,0,0,3,0,3,3,1,3,1,0,0,0,3,0,0,0,0,0,0,0,1,0,0,0,0,0,0,0,1,0,0,0,0,1,0] 0)) fun c0=>(O.a (cr O c0 [0,0,0,0,0,0,0,0,0,0,0,0,0,0,3,0,3,3,1,3,1,0,0,0,3,0,0,0,0] 0))) (O.b (O.e (x.I 42) (O.lit .u8 13)) (O.d (O.f 160 [] (xr x [0,0,0,0,0,0,0,0,0,0,0,0,0,0,3,0,3,3,1,3,1,0,0,0,3,0,0,0,0,0,0,0,1,0,0,0,0,0,0,0,1,0,0,0,0,1,0] 14)) fun c0=>(O.a (cr O c0 [0,0,0,0,0,0,0,0,0,0,0,0,0,0,3,0,3,3,1,3,1,0,0,0,3,0,0,0,0] 0))) (O.b (O.e (x.I 42) (O.lit .u8 14)) (O.d (O.f 161 [] (xr x [2,0,0,0,0,0,0,0,1,0,0,0,0,3,0,0,0,0,0,0,0,0,0,0,0,0,0,0,3,0,3,3,1,3,1,0,0,0,3,0,0,0,0,0,0,0,1,0,0,0,0,0,0,0,1,0,0,0,0,1,0] 0)) fun c0=>(O.a (cr O c0 [0,0,0,0,0,0,0,0,0,0,0,0,0,0,3,0,3,3,1,3,1,0,0,0,3,0,0,0,0] 0))) (O.d (O.f 162 [] (xr x [2,0,0,0,0,0,0,0,1,0,0,0,0,3,0,0,0,0,0,0,0,0,0,0,0,0,0,0,3,0,3,3,1,3,1,0,0,0,3,0,0,0,0,0,0,0,1,0,0,0,0,0,0,0,1,0,0,0,0,1,0] 0)) fun c0=>(O.a (cr O c0 [0,0,0,0,0,0,0,0,0,0,0,0,0,0,3,0,3,3,1,3,1,0,0,0,3,0,0,0,0] 0)))))))))))))))
def Aq:Nat→Env:=eL [(149,JS),(150,LH),(151,ID),(152,GM),(153,IW),(154,HR),(155,HQ),(156,IP),(157,Eg),(158,G6),(159,FI),(160,FR),(161,GR),(162,F3)]
theorem Ho {N ls}:Aq N 149 [] ls=JS N ls:=id rfl
theorem IM {N ls}:Aq N 150 [] ls=LH N ls:=id rfl
theorem G8 {N ls}:Aq N 151 [] ls=ID N ls:=id rfl
theorem F5 {N ls}:Aq N 152 [] ls=GM N ls:=id rfl
theorem HA {N ls}:Aq N 153 [] ls=IW N ls:=id rfl
theorem Ge {N ls}:Aq N 154 [] ls=HR N ls:=id rfl
theorem Gf {N ls}:Aq N 155 [] ls=HQ N ls:=id rfl
theorem HN {N ls}:Aq N 156 [] ls=IP N ls:=id rfl
theorem FL {N ls}:Aq N 157 [] ls=Eg N ls:=id rfl
theorem Gc {N ls}:Aq N 158 [] ls=G6 N ls:=id rfl
theorem Fl {N ls}:Aq N 159 [] ls=FI N ls:=id rfl
theorem Fn {N ls}:Aq N 160 [] ls=FR N ls:=id rfl
theorem F9 {N ls}:Aq N 161 [] ls=GR N ls:=id rfl
theorem F7 {N ls}:Aq N 162 [] ls=F3 N ls:=id rfl
def FQ:=oS SI FW Aq
def TU:List Nat:=[2,0,0,0,0,0,0,0,1,0,0,0,0,3,0,0,0,0,0,0,0,0,0,0,0,0,0,0,3,0,3,3,1,3,1,0,0,0,3,0,0,0]
def JA (O:Alg) (x:Ags O):O.M:=let u0:=(lq9 O 0);(O.d (O.f 109 [] (xr x [2,0,0,0,0,0,0,0,1,0,0,0,0,3,0,0,0,0,0,0,0,0,0,0,0,0,0,0,3,0,3,3,1,3,1,0,0,0,3,0,0,0] 0)) fun c0=>(O.b (O.g (O.p c0 0)) (O.a [.int (O.lit .u8 0)]) (O.b (O.i (O.n u0 (x.I 15)) (O.w (x.I 15) (x.I 17)) O.h) (O.a [.int (O.lit .u8 3)]) (O.d (O.f 163 [] (xr x kI 14)) fun c1=>(O.d (O.b (O.p c1 0) (O.f 164 [] (xr x kI 14)) (O.a [.rows O.s])) fun c2=>(O.b (O.i (O.p c1 0) (O.e (O.j (O.k c2 0)) u0) O.h) (O.a [.int (O.lit .u8 1)]) (O.b (O.i (O.n u0 (x.I 16)) (O.w (x.I 16) (x.I 24)) O.h) (O.a [.int (O.lit .u8 2)]) (O.a [.int (O.lit .u8 0)]))))))))
def Eb:Nat→Env:=eL [(109,Bc),(163,Bb),(164,DQ)]
def EN:=oS TU JA Eb
def XQ:List Nat:=[2,0,0,0,0,0,0,0,1,0,0,0,0,3,0,0,0,0,0,0,0,0,0,0,0,0,0,0,3,0,3,3,1,3,1,0,0,0,3,0,0,0,0,0,0,0,1,0,0,0,0,0,0,0,1,0,0,0,0,1,0]
def L7 (O:Alg) (x:Ags O):O.M:=let u1:=(lq9 O 0);(O.d (O.f 109 [] (xr x [2,0,0,0,0,0,0,0,1,0,0,0,0,3,0,0,0,0,0,0,0,0,0,0,0,0,0,0,3,0,3,3,1,3,1,0,0,0,3,0,0,0] 0)) fun c0=>let u0:=(O.g (O.p c0 0));(O.d (O.b (O.g u0) (O.f 102 [] (xr x [0,0,0,0,1,0,0,0,0,0,0,0,1,0,0,0,0,1,0] 42)) (O.a [.int u1])) fun c1=>(O.b (O.i u0 O.m (O.g (O.e (O.c c1 0) u1))) (O.d (O.f 116 [] (xr x kI 14)) fun c2=>(O.a (ap O (cr O c2 kI 0) [.int (lq9 O 1)]))) (O.b (O.g (O.e (x.I 41) (O.lit .u8 0))) (O.d (O.f 116 [] (xr x kI 14)) fun c2=>(O.a (ap O (cr O c2 kI 0) [.int (lq9 O 26)]))) (O.d (O.b (O.g (O.i (O.i (O.e (x.I 42) (O.lit .u8 1)) O.m (O.e (x.I 42) (O.lit .u8 12))) O.m (O.e (x.I 42) (O.lit .u8 16)))) (O.f 141 [] (xr x kI 14)) (O.a [.bool O.h])) fun c2=>(O.b (O.i (O.i (O.i (O.e (x.I 42) (O.lit .u8 1)) O.m (O.e (x.I 42) (O.lit .u8 12))) O.m (O.e (x.I 42) (O.lit .u8 16))) O.m (O.i (O.g (O.p c2 0)) (O.g (O.e (x.I 42) (O.lit .u8 2))) O.h)) (O.d (O.f 116 [] (xr x kI 14)) fun c3=>(O.a (ap O (cr O c3 kI 0) [.int (lq9 O 1)]))) (O.d (O.f 142 [] (xr x [2,0,0,0,0,0,0,0,1,0,0,0,0,3,0,0,0,0,0,0,0,0,0,0,0,0,0,0,3,0,3,3,1,3,1,0,0,0,3,0,0,0,0,0,0,0,1,0,0,0,0,0,0,0,1,0,0,0,0,1,0] 0)) fun c3=>(O.b (O.g (O.e (O.c c3 28) u1)) (O.d (O.f 116 [] (xr x kI 14)) fun c4=>(O.a (ap O (cr O c4 kI 0) [.int (O.c c3 28)]))) (O.b (O.e (O.c c3 27) (O.lit .u8 0)) (O.d (O.f 143 [] (ap O (xr x kR 0) (ap O (cr O c3 [0,0,0,0,0,0,0,0,0,0,0,0,0,0,3,0,3,3] 0) (ap O [.bool (O.e (x.I 42) (O.lit .u8 4))] (cr O c3 [3,1,0,0,0,3,0,0,0] 19))))) fun c4=>(O.a (ap O (cr O c3 [0,0,0,0,0,0,0,0,0,0,0,0,0,0,3,0,3,3] 0) (ap O [.bool (O.e (x.I 42) (O.lit .u8 4))] (ap O (cr O c3 [3,1,0,0,0,3,0,0] 19) [.int (O.c c4 0),.int u1]))))) (O.a (ap O (cr O c3 [0,0,0,0,0,0,0,0,0,0,0,0,0,0,3,0,3,3] 0) (ap O [.bool (O.e (x.I 42) (O.lit .u8 4))] (ap O (cr O c3 [3,1,0,0,0,3,0,0,0] 19) [.int u1])))))))))))))
def Cs:Nat→Env:=eL [(102,D4),(109,Bc),(116,AZ),(141,Gv),(142,FQ),(143,EN)]
theorem Rk {N ls}:Cs N 102 [] ls=D4 N ls:=id rfl
theorem QK {N ls}:Cs N 109 [] ls=Bc N ls:=id rfl
theorem QN {N ls}:Cs N 116 [] ls=AZ N ls:=id rfl
theorem QV {N ls}:Cs N 141 [] ls=Gv N ls:=id rfl
theorem HL {N ls}:Cs N 142 [] ls=FQ N ls:=id rfl
theorem Hn {N ls}:Cs N 143 [] ls=EN N ls:=id rfl
def IQ:=oS XQ L7 Cs
def Zw:List Nat:=[2,0,0,0,0,0,0,0,1,0,0,0,0,3,0,0,1,3,0,0,0,0,0,0,0,0,0,1,0,0,0,0,0,0,0,1,0,0,0,0,1,0]
def OI (O:Alg) (x:Ags O):O.M:=let u23:=(lq9 O 2);let u22:=(lq9 O 1);let u21:=(lq9 O 0);let u17:=(O.v .i64 (x.I 24) u22);let u11:=(O.q u17 u23);let u10:=(O.e u17 u22);(O.d (O.f 101 [] (xr x kM 0)) fun c0=>let u20:=(O.g (O.p c0 0));(O.d (O.b (O.g u20) (O.f 102 [] (xr x [0,0,0,0,1,0,0,0,0,0,0,0,1,0,0,0,0,1,0] 23)) (O.a [.int u21])) fun c1=>(O.b (O.i u20 O.m (O.g (O.e (O.c c1 0) u21))) (O.d (O.f 103 [] (xr x kM 0)) fun c2=>(O.a (ap O (cr O c2 kM 0) [.int u22]))) (O.b (O.e (x.I 14) (O.lit .u8 5)) (O.d (O.f 103 [] (xr x kM 0)) fun c2=>(O.a (ap O (cr O c2 kM 0) [.int (lq9 O 26)]))) (O.d (O.f 103 [] (xr x kM 0)) fun c2=>let u28:=(O.c c2 15);let u27:=(O.c c2 18);let u26:=(O.c c2 19);let u25:=(O.c c2 14);let u24:=(O.k c2 17);let u19:=(O.j u24);let u12:=(O.v .i64 u19 u22);let u4:=(O.q u12 u19);let u0:=(O.o .i64 (O.af u10 u26 u27) (lq9 O 5));(O.d (O.b (O.e (x.I 23) (O.lit .u8 1)) (O.b (O.g (O.e u25 (O.lit .u8 1))) (O.a (ap O [.int u22] (cr O c2 kM 0))) (O.d (O.f 117 [] [.int (x.I 24)]) fun c3=>(O.b (x.B 27) (O.a (ap O [.int u21] (ap O (cr O c2 kR 0) (ap O [.int (O.lit .u8 2),.int (x.I 24)] (cr O c2 [1,3,0,0,0,0,0] 16))))) (O.a (ap O [.int u21] (ap O (cr O c2 kR 0) (ap O [.int (O.lit .u8 2),.int (O.c c3 0)] (cr O c2 [1,3,0,0,0,0,0] 16)))))))) (O.b (O.e (x.I 23) (O.lit .u8 2)) (O.d (O.b (O.g (O.e u25 (O.lit .u8 2))) (O.a (ap O [.int u22] (cr O c2 kM 0))) (O.d (O.f 110 [] (ap O (cr O c2 kM 0) [.int u19])) fun c3=>let u16:=(O.v .i64 (O.c c3 0) u22);let u9:=(O.e u16 u22);let u8:=(O.q u16 u23);(O.d (O.f 134 [] (ap O (cr O c2 kM 0) [.int (O.c c3 0)])) fun c4=>(O.l u8 (O.d (O.f 133 [] (ap O (cr O c2 kR 0) [.int (O.c c3 0),.int (O.c c4 0),.int (O.af u9 u26 u27)])) fun c5=>(O.b (O.g (O.e (O.c c5 28) u21)) (O.a (ap O [.int u22] (cr O c2 kM 0))) (O.d (O.f 135 [] (ap O (cr O c2 kR 0) (ap O (cr O c5 kI 0) (xr x [0,0,0,0,1,0,0,0,0,0,0,0,1,0,0,0,0,1,0] 23)))) fun c6=>let u14:=(O.ad u24 (O.y [(cr O c6 kI 0)]));(O.b (O.g (O.e (O.c c6 28) u21)) (O.a (ap O [.int (O.c c6 28)] (cr O c2 kM 0))) (O.l u8 (O.l (O.ab (O.j u14) 304) (O.a (ap O [.int u21] (ap O (cr O c2 kR 0) (ap O [.int (O.lit .u8 3),.int u28,.bool (O.p c2 16),.rows u14,.int (O.af (O.e u16 u21) u21 u27),.int (O.af u9 u21 u26)] (cr O c2 [0,0,0] 20))))))))))))))) fun c3=>(O.a (cr O c3 [0,2,0,0,0,0,0,0,0,1,0,0,0,0,3,0,0,1,3,0,0,0,0,0] 0))) (O.b (O.e (x.I 23) (O.lit .u8 12)) (O.b (O.g (O.e u25 (O.lit .u8 4))) (O.a (ap O [.int u22] (cr O c2 kM 0))) (O.b (O.g (O.e (x.I 24) u28)) (O.a (ap O [.int u23] (cr O c2 kM 0))) (O.a (ap O [.int u21] (ap O (cr O c2 kR 0) (ap O [.int (O.lit .u8 2),.int u28,.bool (x.B 27)] (cr O c2 [3,0,0,0,0,0] 17))))))) (O.b (O.e (x.I 23) (O.lit .u8 16)) (O.d (O.b (O.e u25 (O.lit .u8 3)) (O.l u4 (O.a (ap O (cr O c2 [2,0,0,0,0,0,0,0,1,0,0,0,0,3,0,0,1] 0) (ap O [.rows (O.x u24 u12 27 [.int (O.lit .u8 5)])] (cr O c2 [0,0,0,0,0] 18))))) (O.a (cr O c2 kM 0))) fun c3=>(O.d (O.f 136 [] (cr O c3 kR 0)) fun c4=>(O.a (ap O [.int u21] (ap O (cr O c3 kR 0) (ap O [.int (O.lit .u8 5)] (ap O (cr O c3 [0,1,3,0,0] 15) [.int (O.c c4 0),.int u21,.int u21]))))))) (O.d (O.b (O.g (O.e u25 (O.lit .u8 3))) (O.a (ap O [.int u22] (cr O c2 kM 0))) (O.l u4 (O.d (O.f 135 [] (ap O (cr O c2 kR 0) (ap O (rr O u24 u12 kI 0) (xr x [0,0,0,0,1,0,0,0,0,0,0,0,1,0,0,0,0,1,0] 23)))) fun c3=>let u3:=(O.x u24 u12 0 (cr O c3 kI 0));let u2:=(O.j u3);(O.b (O.g (O.e (O.c c3 28) u21)) (O.a (ap O [.int (O.c c3 28)] (cr O c2 kM 0))) (O.l u4 (O.b (O.i (O.e (x.I 23) (O.lit .u8 13)) (O.g (O.e (x.I 24) (O.c c3 0))) O.h) (O.d (O.d (O.t (fun s4 c4=>let u30:=(O.c c4 0);let u1:=(O.q u30 u2);(O.b (O.w u21 u30) (O.l u1 (O.b (O.e (O.r u3 u30 0) (x.I 24)) (O.l u1 (O.d (O.f 144 [] (rr O u3 u30 kI 0)) fun c5=>(O.l u1 (O.a (ap O [.int u21] (ap O (cr O c2 [2,0,0,0,0,0,0,0,1,0,0,0,0,3,0,0,1] 0) (ap O [.rows (O.x u3 u30 0 (cr O c5 kI 0))] (cr O c2 [0,0,0,0,0] 18)))))))) (s4 [.int (O.v .i64 u30 u22)]))) (O.a [.int u22]))) [.int (O.v .i64 u2 u22)]) fun c4=>(O.b (O.z c4 0) (O.a (cr O c4 kM 1)) (O.l u11 (O.l u11 (O.a (ap O (cr O c2 [2,0,0,0,0,0,0,0,1,0,0,0,0,3,0,0,1] 0) (ap O [.rows u3,.int (O.af (O.e u17 u21) u0 u27),.int (O.af u10 u0 u26)] (cr O c2 [0,0,0] 20)))))))) fun c4=>(O.a (ap O [.int u21] (cr O c4 kM 0)))) (O.a (ap O [.int u21] (ap O (cr O c2 [2,0,0,0,0,0,0,0,1,0,0,0,0,3,0,0,1] 0) (ap O [.rows u3] (cr O c2 [0,0,0,0,0] 18))))))))))) fun c3=>(O.a (cr O c3 [0,2,0,0,0,0,0,0,0,1,0,0,0,0,3,0,0,1,3,0,0,0,0,0] 0))))))) fun c3=>let u29:=(O.k c3 18);let u18:=(O.j u29);let u15:=(O.e u18 (lq9 O 3));let u13:=(O.v .i64 u18 u22);let u7:=(O.e u18 (O.al .i64 u23 (O.c c3 3)));let u6:=(O.r u29 u13 0);let u5:=(O.q u13 u18);(O.b (O.g (O.e (O.c c3 0) u21)) (O.d (O.f 103 [] (xr x kM 0)) fun c4=>(O.a (ap O (cr O c4 kM 0) [.int (O.c c3 0)]))) (O.d (O.l (O.g (O.aa (O.g (O.g (O.e (O.c c3 15) (O.lit .u8 3)))) (O.g u5))) (O.b (O.i (O.g (O.e (O.c c3 15) (O.lit .u8 3))) O.m (O.e (O.r u29 u13 27) (O.lit .u8 0))) (O.a (cr O c3 kM 1)) (O.l u5 (O.d (O.f 121 [] (ap O (cr O c3 kM 1) [.int (O.c c3 16)])) fun c4=>(O.d (O.f 117 [] [.int (O.c c3 16)]) fun c5=>(O.d (O.f 121 [] (ap O (cr O c3 kM 1) [.int (O.c c5 0)])) fun c6=>(O.d (O.b u7 (O.a [.bool u7]) (O.d (O.b u15 (O.f 121 [] (ap O (cr O c3 kR 1) (ap O [.int (O.lit .u8 2)] (ap O (cr O c3 [0,1,3,0,0,0,0,0] 16) [.int u6])))) (O.a [.int u21])) fun c7=>(O.d (O.b u15 (O.f 117 [] [.int u6]) (O.a [.int u21])) fun c8=>(O.d (O.b u15 (O.f 121 [] (ap O (cr O c3 kR 1) (ap O [.int (O.lit .u8 2)] (ap O (cr O c3 [0,1,3,0,0,0,0,0] 16) [.int (O.c c8 0)])))) (O.a [.int u21])) fun c9=>(O.a [.bool (O.i u15 (O.n (O.c c7 0) (O.c c9 0)) O.h)]))))) fun c7=>(O.b (O.p c7 0) (O.d (O.f 122 [] (ap O (cr O c3 kR 1) (ap O [.int (O.lit .u8 5)] (cr O c3 [0,1,3,0,0,0,0,0] 16)))) fun c8=>(O.a (ap O (cr O c3 kR 1) (ap O [.int (O.lit .u8 5)] (ap O (cr O c3 [0,1,3,0,0] 16) (cr O c8 [0,0,0] 0)))))) (O.b (O.i (O.i (O.e u18 u23) (O.n u21 (O.c c3 11)) O.h) (O.w (O.c c3 11) (O.v .i64 (O.c c4 0) (O.c c6 0))) O.h) (O.a (ap O (cr O c3 kR 1) (ap O [.int (O.lit .u8 4)] (cr O c3 [0,1,3,0,0,0,0,0] 16)))) (O.a (ap O (cr O c3 kR 1) (ap O [.int (O.lit .u8 2)] (cr O c3 [0,1,3,0,0,0,0,0] 16))))))))))))) fun c4=>(O.a (ap O (cr O c4 kM 0) [.int u21]))))))))))
def BT:Nat→Env:=eL [(101,D3),(102,D4),(103,Jh),(110,D0),(117,Ba),(121,CP),(122,Gy),(133,HY),(134,IZ),(135,IQ),(136,CE),(144,Ca)]
theorem T1 {N ls}:BT N 101 [] ls=D3 N ls:=id rfl
theorem TJ {N ls}:BT N 102 [] ls=D4 N ls:=id rfl
theorem UJ {N ls}:BT N 103 [] ls=Jh N ls:=id rfl
theorem GS {N ls}:BT N 110 [] ls=D0 N ls:=id rfl
theorem GQ {N ls}:BT N 117 [] ls=Ba N ls:=id rfl
theorem KW {N ls}:BT N 121 [] ls=CP N ls:=id rfl
theorem JU {N ls}:BT N 122 [] ls=Gy N ls:=id rfl
theorem FA {N ls}:BT N 133 [] ls=HY N ls:=id rfl
theorem Fj {N ls}:BT N 134 [] ls=IZ N ls:=id rfl
theorem Dd {N ls}:BT N 135 [] ls=IQ N ls:=id rfl
theorem D8 {N ls}:BT N 136 [] ls=CE N ls:=id rfl
theorem H8 {N ls}:BT N 144 [] ls=Ca N ls:=id rfl
def OZ:=oS Zw OI BT
def Yf:List Nat:=[2,0,0,0,0,0,0,0,1,0,0,0,0,3,0,0,1,3,0,0,0,0,0,0,0,0,0,0,1,0,0,0,0,0,0,0,1,0,0,0,0,1,0]
def O7 (O:Alg) (x:Ags O):O.M:=(O.b (O.w (lq9 O 4000) (x.I 23)) (O.a (ap O (xr x kM 0) [.int (lq9 O 26)])) (O.d (O.f 90 [] (ap O (xr x kM 0) (xr x [0,0,0,0,1,0,0,0,0,0,0,0,1,0,0,0,0,1,0] 24))) fun c0=>(O.a (cr O c0 [2,0,0,0,0,0,0,0,1,0,0,0,0,3,0,0,1,3,0,0,0,0,0,0] 0))))
def H9 (N:Nat):Env:=fun f fns ls=>(cond (Nat.beq f 90&&AR fns []) (OZ N ls) none)
theorem XP {N ls}:H9 N 90 [] ls=OZ N ls:=id rfl
def Oq:=oS Yf O7 H9
def VW:List Nat:=[0,2,0,0,0,0,0,0,0,1,0,0,0,0,3,0,0,1,3,0,0,0,0,0,2,0,0,0,0,0,0,0,1,0,0,0,0,3,0,0,1,3,0,0,0,0,0,0,0,0,0,0,1,0,0,0,0,1,0]
def J9 (O:Alg) (x:Ags O):O.M:=let u0:=(O.v .i64 (O.j (x.L 18)) (lq9 O 1));(O.l (O.q u0 (O.j (x.L 18))) (O.l (O.q u0 (O.j (x.L 41))) (O.d (O.f 91 [] (ap O (xr x kR 1) (xr x [0,0,0,0,0,1,0,0,0,0,1,0] 47))) fun c0=>(O.a (ap O [.int (x.I 0),.int u0,.int (O.r (x.L 18) u0 10),.int (O.r (x.L 18) u0 11),.int (O.r (x.L 18) u0 15),.int (O.r (x.L 18) u0 12),.int (O.r (x.L 18) u0 13),.bool (O.rB (x.L 18) u0 20)] (ap O (xr x [0,0,0,0,0,1,0,0,0,0,1,0] 47) (ap O (cr O c0 [0,0,0,0,0,0,1,1,1,1] 0) [.int (O.r (x.L 41) u0 3),.int (O.r (x.L 41) u0 4)])))))))
def MJ:Nat→Env:=eL [(91,Cb)]
theorem N3 {N ls}:MJ N 91 [] ls=Cb N ls:=id rfl
def J8:=oS VW J9 MJ
def YJ:List Nat:=[2,0,0,0,0,0,0,0,1,0,0,0,0,3,3]
def PN (O:Alg) (x:Ags O):O.M:=let u3:=(lq9 O 1);let u2:=(lq9 O 0);(O.d (O.f 69 [] (xr x kR 0)) fun c0=>(O.b (O.g (O.e (O.c c0 23) u2)) (O.a [.rows O.s,.str (O.u ⟨#[]⟩),.int u2,.int u2,.int u2,.int u2,.int u2,.int u2,.int u2,.bool O.h,.int u2,.int u2,.int u2,.int u2,.rows O.s,.int (O.lit .u8 0),.int u2,.bool O.h,.rows O.s,.int u2,.int u2,.int (O.lit .u8 0),.int u2,.int u2,.int u2,.int u3]) (O.d (O.t (fun s1 c1=>let u5:=(O.k c1 0);let u4:=(O.c c1 1);let u1:=(O.o .i64 u4 u3);(O.b (O.n u4 (O.j (x.L 14))) (O.l (O.q u4 (O.j (x.L 14))) (O.d (O.f 70 [] (ap O (cr O c1 kM 2) (ap O [.int u4] (rr O (x.L 14) u4 [0,0,0,0,1,0,0,0,0,0,0,0,1,0,0,0,0,1,0] 0)))) fun c2=>(O.b (O.g (O.e (O.c c2 23) u2)) (O.a (ap O [.int u2,.rows u5,.int u4,.int (O.c c2 23)] (cr O c1 kM 2))) (O.b (O.e (O.r (x.L 14) u4 0) (O.lit .u8 4)) (O.d (O.f 71 [] (ap O (cr O c1 [0,2,0,0,0,0,0,0,0,1,0,0,0,0,3,0,0,1,3,0,0,0,0,0] 1) (ap O (cr O c2 kM 0) (rr O (x.L 14) u4 [0,0,0,0,0,1,0,0,0,0,1,0] 7)))) fun c3=>let u0:=(O.ad u5 (O.y [(cr O c3 [0,0,0,0,0,0,0,1,0,0,0,0,0,1,0,0,0,0,1,0,0,0,0,0,0,0,1,1,1,1,0,0] 0)]));(O.l (O.ab (O.j u0) 216) (s1 (ap O [.rows u0,.int u1] (cr O c2 kM 0))))) (s1 (ap O [.rows u5,.int u1] (cr O c2 kM 0))))))) (O.a (ap O [.int u3,.rows u5] (cr O c1 kM 2))))) (ap O [.rows O.s,.int u2] (cr O c0 kM 0))) fun c1=>(O.b (O.z c1 0) (O.a (ap O [.rows (O.k c1 1)] (ap O (cr O c1 kM 4) [.int (O.c c1 2),.int (O.c c1 3)]))) (O.a (ap O (cr O c1 [3,2,0,0,0,0,0,0,0,1,0,0,0,0,3,0,0,1,3,0,0,0,0,0] 1) [.int (lq9 O (-1)),.int u2]))))))
def Ee (N:Nat):Env:=fun f fns ls=>(cond (Nat.beq f 69&&AR fns []) (Qr N ls) (cond (Nat.beq f 70&&AR fns []) (Oq N ls) (cond (Nat.beq f 71&&AR fns []) (J8 N ls) none)))
theorem X6 {N ls}:Ee N 69 [] ls=Qr N ls:=id rfl
theorem Po {N ls}:Ee N 70 [] ls=Oq N ls:=id rfl
theorem Kw {N ls}:Ee N 71 [] ls=J8 N ls:=id rfl
def Fh:=oS YJ PN Ee
def Tx:List Nat:=[2,0,0,0,0,0,0,0,1,0,0,0,0,3,3]
def Kc (O:Alg) (x:Ags O):O.M:=(O.d (O.f 39 [] (xr x [2,0,0,0,0,0,0,0,1,0,0,0,0,3,3] 0)) fun c0=>(O.a (cr O c0 [2,0,0,0,0,0,0,0,1,0,0,0,0,3,0,0,1,3,0,0,0,0,0,0,0] 1)))
def Fy (N:Nat):Env:=fun f fns ls=>(cond (Nat.beq f 39&&AR fns []) (Fh N ls) none)
theorem Wk {N ls}:Fy N 39 [] ls=Fh N ls:=id rfl
def Km:=oS Tx Kc Fy
def Vy:List Nat:=[2,0,0,0,0,0,0,0,1,0,0,0,0,3,3]
def Mf (O:Alg) (x:Ags O):O.M:=let u0:=(lq9 O 0);(O.d (O.f 27 [] (xr x kR 0)) fun c0=>(O.b (O.g (O.e (O.c c0 0) u0)) (O.a [.int (O.c c0 0)]) (O.b (O.n (lq9 O 4000) (O.j (x.L 14))) (O.a [.int (lq9 O 9)]) (O.d (O.f 32 [] (xr x [2,0,0,0,0,0,0,0,1,0,0,0,0,3,3] 0)) fun c1=>(O.b (O.g (O.e (O.c c1 24) u0)) (O.a [.int (lq9 O 10)]) (O.a [.int u0]))))))
def E8 (N:Nat):Env:=fun f fns ls=>(cond (Nat.beq f 27&&AR fns []) (AU N ls) (cond (Nat.beq f 32&&AR fns []) (Km N ls) none))
theorem Uf {N ls}:E8 N 27 [] ls=AU N ls:=id rfl
theorem WQ {N ls}:E8 N 32 [] ls=Km N ls:=id rfl
def EV:=oS Vy Mf E8
def Yy:List Nat:=[3]
def Mn (O:Alg) (x:Ags O):O.M:=let u2:=(lq9 O 1);let u1:=(lq9 O 0);(O.d (O.t (fun s0 c0=>let u3:=(O.c c0 0);let u0:=(O.r (x.L 0) u3 1);(O.b (O.n u3 (O.j (x.L 0))) (O.l (O.q u3 (O.j (x.L 0))) (O.b (O.e (O.r (x.L 0) u3 0) (O.lit .u8 1)) (O.b (O.rB (x.L 0) u3 4) (O.a [.int u1,.int u0]) (O.a [.int u1,.int (O.v .i64 (lq9 O 3) u0)])) (s0 [.int (O.o .i64 u3 u2)]))) (O.a [.int u2]))) [.int u1]) fun c0=>(O.b (O.z c0 0) (O.a [.int (O.c c0 1)]) (O.a [.int u2])))
def VZ:Nat→Env:=eL []
def JR:=oS Yy Mn VZ
def XV:List Nat:=[3]
def LV (O:Alg) (x:Ags O):O.M:=let u4:=(O.j (x.L 0));(O.d (O.t (fun s0 c0=>let u6:=(O.k c0 0);let u5:=(O.c c0 1);let u3:=(O.j u6);let u2:=(O.o .i64 u5 (lq9 O 1));let u1:=(O.v .i64 u3 (lq9 O 1));(O.b (O.n u5 u4) (O.l (O.q u5 u4) (O.b (O.g (O.e (O.r (x.L 0) u5 0) (O.lit .u8 2))) (s0 [.rows u6,.int u2]) (O.d (O.b (O.n (lq9 O 0) u3) (O.l (O.q u1 u3) (O.a [.rows (O.x u6 u1 1 [.int u5])])) (O.a [.rows u6])) fun c1=>let u0:=(O.ad (O.k c1 0) (O.y [[.int u5,.int u4]]));(O.l (O.ab (O.j u0) 16) (s0 [.rows u0,.int u2]))))) (O.a [.rows u6]))) [.rows O.s,.int (lq9 O 0)]) fun c0=>(O.a [.rows (O.k c0 0)]))
def Tg:Nat→Env:=eL []
def Cz:=oS XV LV Tg
def Yn:List Nat:=[3]
def M8 (O:Alg) (x:Ags O):O.M:=let u4:=(lq9 O 3);let u3:=(lq9 O 1);(O.d (O.f 33 [] [.rows (x.L 0)]) fun c0=>(O.d (O.t (fun s1 c1=>let u5:=(O.c c1 1);(O.b (O.n u5 (O.j (x.L 0))) (O.l (O.q u5 (O.j (x.L 0))) (s1 [.bool (O.i (O.p c1 0) O.m (O.i (O.e (O.r (x.L 0) u5 0) (O.lit .u8 12)) (O.rB (x.L 0) u5 4) O.h)),.int (O.o .i64 u5 u3)])) (O.a [.bool (O.p c1 0)]))) [.bool O.h,.int (lq9 O 0)]) fun c1=>(O.d (O.f 34 [] [.rows (x.L 0)]) fun c2=>(O.d (O.t (fun s3 c3=>let u7:=(O.k c3 0);let u6:=(O.c c3 1);let u2:=(O.o .i64 u6 u3);(O.b (O.n u6 (O.j (O.k c2 0))) (O.d (O.b (O.e (O.as .i64 u6 (lq9 O 2)) u3) (O.a [.int (O.v .i64 u4 (O.c c0 0))]) (O.a [.int (O.c c0 0)])) fun c4=>let u1:=(O.ad u7 (O.y [[.int (O.c c4 0)]]));let u0:=(O.ad u7 (O.y [[.int (O.v .i64 u4 (O.c c4 0))]]));(O.b (O.i (O.p c1 0) (O.i (O.e u6 (lq9 O 2)) O.m (O.e u6 u4)) O.h) (O.l (O.ab (O.j u0) 8) (s3 [.rows u0,.int u2])) (O.l (O.ab (O.j u1) 8) (s3 [.rows u1,.int u2])))) (O.a [.rows u7]))) [.rows O.s,.int (lq9 O 0)]) fun c3=>(O.a [.rows (O.k c3 0)])))))
def J2:Nat→Env:=eL [(33,JR),(34,Cz)]
theorem Sf {N ls}:J2 N 33 [] ls=JR N ls:=id rfl
theorem Ry {N ls}:J2 N 34 [] ls=Cz N ls:=id rfl
def Mq:=oS Yn M8 J2
def Vs:List Nat:=[2,0,0,0,0,0,0,0,1,0,0,0,0,3,3]
def KB (O:Alg) (x:Ags O):O.M:=let u19:=(lq9 O 1);let u18:=(lq9 O 0);let u17:=(lq9 O (-1));(O.d (O.t (fun s0 c0=>let u22:=(O.c c0 0);let u21:=(O.k c0 1);let u15:=(O.j u21);let u8:=(O.r (x.L 14) u22 2);let u20:=(O.lit .u8 0);let u7:=(O.r (x.L 14) u22 0);let u6:=(O.o .i64 u22 u19);(O.b (O.n u22 (O.j (x.L 14))) (O.l (O.q u22 (O.j (x.L 14))) (O.b (O.e u7 (O.lit .u8 2)) (O.d (O.d (O.t (fun s1 c1=>let u28:=(O.c c1 1);let u24:=(O.c c1 0);(O.b (O.n u24 u15) (O.l (O.q u24 u15) (O.b (O.e (O.r u21 u24 0) u28) (O.a [.int u18,.int u24,.int u28]) (s1 [.int (O.o .i64 u24 u19),.int u28]))) (O.a [.int u19,.int u28]))) [.int u18,.int u8]) fun c1=>(O.b (O.z c1 0) (O.a [.int (O.c c1 1),.int (O.c c1 2)]) (O.a [.int u17,.int (O.c c1 1)]))) fun c1=>let u11:=(O.ad u21 (O.y [[.int (O.c c1 1),.int u18,.int u18,.int u18,.int u18,.bool O.h,.int u20,.int u18,.int u18,.bool O.h]]));let u9:=(O.j u11);(O.d (O.b (O.n (O.c c1 0) u18) (O.l (O.ab u9 72) (O.a [.int (O.v .i64 u9 u19),.rows u11])) (O.a [.int (O.c c1 0),.rows u21])) fun c2=>let u2:=(O.q (O.c c2 0) (O.j (O.k c2 1)));let u1:=(O.x (O.k c2 1) (O.c c2 0) 9 [.bool (O.i (O.rB (O.k c2 1) (O.c c2 0) 9) O.m O.m)]);let u0:=(O.j u1);(O.l u2 (O.l u2 (O.d (O.d (O.t (fun s3 c3=>let u29:=(O.c c3 1);let u25:=(O.c c3 0);(O.b (O.n u25 u0) (O.l (O.q u25 u0) (O.b (O.e (O.r u1 u25 0) u29) (O.a [.int u18,.int u25,.int u29]) (s3 [.int (O.o .i64 u25 u19),.int u29]))) (O.a [.int u19,.int u29]))) [.int u18,.int (O.r (x.L 14) u22 3)]) fun c3=>(O.b (O.z c3 0) (O.a [.int (O.c c3 1),.int (O.c c3 2)]) (O.a [.int u17,.int (O.c c3 1)]))) fun c3=>let u14:=(O.ad u1 (O.y [[.int (O.c c3 1),.int u18,.int u18,.int u18,.int u18,.bool O.h,.int u20,.int u18,.int u18,.bool O.h]]));let u12:=(O.j u14);(O.d (O.b (O.n (O.c c3 0) u18) (O.l (O.ab u12 72) (O.a [.int (O.v .i64 u12 u19),.rows u14])) (O.a [.int (O.c c3 0),.rows u1])) fun c4=>let u3:=(O.q (O.c c4 0) (O.j (O.k c4 1)));(O.l u3 (O.l u3 (s0 [.int u6,.rows (O.x (O.k c4 1) (O.c c4 0) 9 [.bool (O.i (O.rB (O.k c4 1) (O.c c4 0) 9) O.m O.m)])]))))))))) (O.b (O.e u7 (O.lit .u8 5)) (O.d (O.d (O.t (fun s1 c1=>let u30:=(O.c c1 1);let u26:=(O.c c1 0);(O.b (O.n u26 u15) (O.l (O.q u26 u15) (O.b (O.e (O.r u21 u26 0) u30) (O.a [.int u18,.int u26,.int u30]) (s1 [.int (O.o .i64 u26 u19),.int u30]))) (O.a [.int u19,.int u30]))) [.int u18,.int u8]) fun c1=>(O.b (O.z c1 0) (O.a [.int (O.c c1 1),.int (O.c c1 2)]) (O.a [.int u17,.int (O.c c1 1)]))) fun c1=>let u13:=(O.ad u21 (O.y [[.int (O.c c1 1),.int u18,.int u18,.int u18,.int u18,.bool O.h,.int u20,.int u18,.int u18,.bool O.h]]));let u10:=(O.j u13);(O.d (O.b (O.n (O.c c1 0) u18) (O.l (O.ab u10 72) (O.a [.int (O.v .i64 u10 u19),.rows u13])) (O.a [.int (O.c c1 0),.rows u21])) fun c2=>let u4:=(O.q (O.c c2 0) (O.j (O.k c2 1)));(O.l u4 (O.l u4 (s0 [.int u6,.rows (O.x (O.k c2 1) (O.c c2 0) 9 [.bool (O.i (O.rB (O.k c2 1) (O.c c2 0) 9) O.m (O.g (O.rB (x.L 14) u22 4)))])]))))) (s0 [.int u6,.rows u21])))) (O.a [.rows u21]))) [.int u18,.rows O.s]) fun c0=>(O.d (O.t (fun s1 c1=>let u23:=(O.k c1 1);let u16:=(O.j u23);(O.b (O.w (O.c c1 0) (x.I 1)) (O.d (O.d (O.t (fun s2 c2=>let u31:=(O.c c2 1);let u27:=(O.c c2 0);(O.b (O.n u27 u16) (O.l (O.q u27 u16) (O.b (O.e (O.r u23 u27 0) u31) (O.a [.int u18,.int u27,.int u31]) (s2 [.int (O.o .i64 u27 u19),.int u31]))) (O.a [.int u19,.int u31]))) [.int u18,.int (O.c c1 0)]) fun c2=>(O.b (O.z c2 0) (O.a [.int (O.c c2 1),.int (O.c c2 2)]) (O.a [.int u17,.int (O.c c2 1)]))) fun c2=>(O.d (O.b (O.n (O.c c2 0) u18) (O.l (O.ab (O.j (O.ad u23 (O.y [[.int (O.c c2 1),.int u18,.int u18,.int u18,.int u18,.bool O.h,.int (O.lit .u8 0),.int u18,.int u18,.bool O.h]]))) 72) (O.a [.int (O.v .i64 (O.j (O.ad u23 (O.y [[.int (O.c c2 1),.int u18,.int u18,.int u18,.int u18,.bool O.h,.int (O.lit .u8 0),.int u18,.int u18,.bool O.h]]))) u19),.rows (O.ad u23 (O.y [[.int (O.c c2 1),.int u18,.int u18,.int u18,.int u18,.bool O.h,.int (O.lit .u8 0),.int u18,.int u18,.bool O.h]]))])) (O.a [.int (O.c c2 0),.rows u23])) fun c3=>let u5:=(O.q (O.c c3 0) (O.j (O.k c3 1)));(O.l u5 (O.l u5 (s1 [.int (O.o .i64 (O.c c1 0) u19),.rows (O.x (O.k c3 1) (O.c c3 0) 9 [.bool (O.i (O.rB (O.k c3 1) (O.c c3 0) 9) O.m O.h)])]))))) (O.a [.rows u23]))) [.int u19,.rows (O.k c0 0)]) fun c1=>(O.a [.rows (O.k c1 0)])))
def SA:Nat→Env:=eL []
def KM:=oS Vs KB SA
def E9:List Nat:=[3,3]
def CR (O:Alg) (x:Ags O):O.M:=let u0:=(lq9 O 0);(O.d (O.t (fun s0 c0=>let u1:=(O.c c0 0);(O.b (O.n u1 (O.j (x.L 0))) (O.l (O.q u1 (O.j (x.L 0))) (O.b (O.e (O.r (x.L 0) u1 0) (O.r (x.L 1) u0 0)) (O.a [.int u0,.int u1]) (s0 [.int (O.o .i64 u1 (lq9 O 1))]))) (O.a [.int (lq9 O 1)]))) [.int u0]) fun c0=>(O.b (O.z c0 0) (O.a [.int (O.c c0 1)]) (O.a [.int (lq9 O (-1))])))
def B7 (N:Nat):Env:=fun f fns ls=>none
def CS:=oS E9 CR B7
def RN:List Nat:=[0,0,0,0,0,1,0,0,0,0,1,0,0,0]
def HV (O:Alg) (x:Ags O):O.M:=(O.b (O.e (x.I 6) (O.lit .u8 0)) (O.a [.int (lq9 O 0)]) (O.b (O.e (x.I 7) (lq9 O 1)) (O.a [.int (x.I 12)]) (O.b (O.e (x.I 7) (lq9 O 2)) (O.a [.int (x.I 13)]) (O.a [.int (lq9 O 0)]))))
def PJ:Nat→Env:=eL []
def HK:=oS RN HV PJ
def P3:List Nat:=[2,0,0,0,0,0,0,0,1,0,0,0,0,3,3,0]
def Ig (O:Alg) (x:Ags O):O.M:=let u18:=(lq9 O 1);let u17:=(lq9 O 0);(O.d (O.f 13 [] (xr x [2,0,0,0,0,0,0,0,1,0,0,0,0,3,3] 0)) fun c0=>(O.b (O.g (O.e (O.c c0 0) u17)) (O.a [.rows O.s,.int (O.c c0 0)]) (O.d (O.f 34 [] [.rows (x.L 14)]) fun c1=>let u14:=(O.j (O.k c1 0));let u13:=(O.r (O.k c1 0) (x.I 15) 1);let u12:=(O.r (O.k c1 0) (x.I 15) 0);let u9:=(O.q (x.I 15) u14);let u6:=(O.ag (x.L 14) u12 u13);let u5:=(O.j u6);(O.b (O.i (O.n (x.I 15) u17) O.m (O.w u14 (x.I 15))) (O.a [.rows O.s,.int (lq9 O 2)]) (O.l u9 (O.l u9 (O.l (O.ai u12 u13 (O.j (x.L 14))) (O.d (O.f 35 [] (ap O (xr x kR 0) [.rows u6])) fun c2=>(O.d (O.f 39 [] (xr x [2,0,0,0,0,0,0,0,1,0,0,0,0,3,3] 0)) fun c3=>let u20:=(O.k c3 0);let u15:=(O.j u20);(O.d (O.t (fun s4 c4=>let u23:=(O.k c4 1);let u19:=(O.c c4 0);let u11:=(O.r u20 u19 5);let u10:=(O.r u20 u19 12);let u7:=(O.o .i64 u19 u18);(O.b (O.n u19 u15) (O.l (O.q u19 u15) (O.b (O.g (O.e (O.r u20 u19 1) (x.I 15))) (s4 [.int u7,.rows u23]) (O.d (O.f 37 [38] [.rows u23,.rows (O.y [[.int u11]])]) fun c5=>let u21:=(O.c c5 0);let u1:=(O.x u23 u21 1 [.int (O.o .i64 (O.r u23 u21 1) (O.r u20 u19 20))]);(O.l (O.q u21 (O.j u23)) (O.d (O.b (O.rB u20 u19 27) (O.a [.rows (O.x u1 u21 2 [.int (O.o .i64 (O.r u1 u21 2) u18)])]) (O.a [.rows u1])) fun c6=>let u24:=(O.k c6 0);(O.d (O.b (O.i (O.e (O.r u20 u19 9) (O.lit .u8 1)) (O.e (O.r u20 u19 10) u17) O.h) (O.b (O.e u10 (lq9 O 4)) (O.a [.rows (O.x u24 u21 3 [.int (O.o .i64 (O.r u24 u21 3) u18)])]) (O.b (O.e u10 (lq9 O 6)) (O.a [.rows (O.x u24 u21 4 [.int (O.o .i64 (O.r u24 u21 4) u18)])]) (O.a [.rows u24]))) (O.a [.rows u24])) fun c7=>let u27:=(O.k c7 0);(O.d (O.f 40 [] (ap O (rr O u20 u19 [0,0,0,0,0,1,0,0,0,0,1,0] 8) [.int u11,.int (O.r u20 u19 6)])) fun c8=>(O.b (O.n u17 (O.c c8 0)) (O.d (O.f 37 [38] [.rows u27,.rows (O.y [[.int (O.c c8 0)]])]) fun c9=>let u26:=(O.c c9 0);let u0:=(O.x (O.x (O.x u27 u26 5 [.bool O.m]) u26 6 [.int (O.r u20 u19 14)]) u26 8 [.int (O.r u20 u19 16)]);(O.l (O.q u26 (O.j u27)) (O.b (O.rB u20 u19 28) (s4 [.int u7,.rows (O.x u0 u26 7 [.int (O.r u20 u19 4)])]) (s4 [.int u7,.rows u0])))) (s4 [.int u7,.rows u27]))))))))) (O.a [.rows u23]))) [.int u17,.rows (O.k c2 0)]) fun c4=>(O.d (O.t (fun s5 c5=>let u25:=(O.c c5 0);let u22:=(O.k c5 1);let u16:=(O.j u22);let u8:=(O.o .i64 u25 u18);let u4:=(O.rB u6 u25 4);let u3:=(O.r u6 u25 0);let u2:=(O.y [[.int (O.r u6 u25 2)]]);(O.b (O.n u25 u5) (O.l (O.q u25 u5) (O.b (O.i (O.e u3 (O.lit .u8 5)) u4 O.h) (O.d (O.f 37 [38] [.rows u22,.rows u2]) fun c6=>(O.l (O.q (O.c c6 0) u16) (s5 [.int u8,.rows (O.x (O.x u22 (O.c c6 0) 5 [.bool O.m]) (O.c c6 0) 6 [.int (O.lit .u8 9)])]))) (O.b (O.i (O.e u3 (O.lit .u8 6)) (O.g u4) O.h) (O.d (O.f 37 [38] [.rows u22,.rows u2]) fun c6=>(O.l (O.q (O.c c6 0) u16) (s5 [.int u8,.rows (O.x (O.x u22 (O.c c6 0) 5 [.bool O.m]) (O.c c6 0) 6 [.int (O.lit .u8 10)])]))) (s5 [.int u8,.rows u22])))) (O.a [.rows u22]))) [.int u17,.rows (O.k c4 0)]) fun c5=>(O.a [.rows (O.k c5 0),.int u17]))))))))))))
def Bf (N:Nat):Env:=fun f fns ls=>(cond (Nat.beq f 13&&AR fns []) (EV N ls) (cond (Nat.beq f 34&&AR fns []) (Cz N ls) (cond (Nat.beq f 35&&AR fns []) (KM N ls) (cond (Nat.beq f 37&&AR fns [38]) (CS N ls) (cond (Nat.beq f 39&&AR fns []) (Fh N ls) (cond (Nat.beq f 40&&AR fns []) (HK N ls) none))))))
theorem Ta {N ls}:Bf N 13 [] ls=EV N ls:=id rfl
theorem Q3 {N ls}:Bf N 34 [] ls=Cz N ls:=id rfl
theorem QX {N ls}:Bf N 35 [] ls=KM N ls:=id rfl
theorem JZ {N ls}:Bf N 37 [38] ls=CS N ls:=id rfl
theorem Ut {N ls}:Bf N 39 [] ls=Fh N ls:=id rfl
theorem OB {N ls}:Bf N 40 [] ls=HK N ls:=id rfl
def H7:=oS P3 Ig Bf
def TH:List Nat:=[2,0,0,0,0,0,0,0,1,0,0,0,0,3,3,0,0]
def I7 (O:Alg) (x:Ags O):O.M:=let u2:=(lq9 O 1);let u1:=(lq9 O 0);(O.d (O.t (fun s0 c0=>let u4:=(O.c c0 0);let u3:=(O.c c0 1);let u0:=(O.o .i64 u3 u2);(O.b (O.n u3 (O.j (x.L 14))) (O.l (O.q u3 (O.j (x.L 14))) (O.b (O.g (O.e (O.r (x.L 14) u3 2) (x.I 15))) (s0 [.int u4,.int u0]) (O.b (O.i (O.g (O.e (O.r (x.L 14) u3 4) (x.I 16))) O.m (O.g (O.e (O.r (x.L 14) u3 25) u1))) (O.a [.int u1,.bool O.h]) (O.b (O.rB (x.L 14) u3 26) (s0 [.int (O.o .i64 u4 u2),.int u0]) (s0 [.int u4,.int u0]))))) (O.a [.int u2,.int u4]))) [.int u1,.int u1]) fun c0=>(O.b (O.z c0 0) (O.a [.bool (O.p c0 1)]) (O.a [.bool (O.e (O.c c0 1) (x.I 4))])))
def RZ:Nat→Env:=eL []
def JB:=oS TH I7 RZ
def MO:List Nat:=[2,0,0,0,0,0,0,0,1,0,0,0,0,3,3,0]
def FV (O:Alg) (x:Ags O):O.M:=let u18:=(lq9 O 1);let u17:=(lq9 O 0);let u16:=(lq9 O (-1));let u10:=(O.n (x.I 15) u17);(O.d (O.f 13 [] (xr x [2,0,0,0,0,0,0,0,1,0,0,0,0,3,3] 0)) fun c0=>(O.b (O.g (O.e (O.c c0 0) u17)) (O.a [.rows O.s,.int (O.c c0 0)]) (O.d (O.b (O.g u10) (O.f 34 [] [.rows (x.L 14)]) (O.a [.rows O.s])) fun c1=>(O.b (O.i u10 O.m (O.w (O.j (O.k c1 0)) (x.I 15))) (O.a [.rows O.s,.int (lq9 O 2)]) (O.d (O.f 39 [] (xr x [2,0,0,0,0,0,0,0,1,0,0,0,0,3,3] 0)) fun c2=>let u28:=(O.k c2 0);let u14:=(O.j u28);(O.d (O.d (O.d (O.t (fun s3 c3=>let u29:=(O.c c3 1);let u22:=(O.c c3 0);(O.b (O.n u22 u14) (O.l (O.q u22 u14) (O.b (O.g (O.e (O.r u28 u22 1) u29)) (O.a [.int u17,.int u22,.int u29]) (s3 [.int (O.o .i64 u22 u18),.int u29]))) (O.a [.int u18,.int u29]))) [.int u17,.int (x.I 15)]) fun c3=>(O.b (O.z c3 0) (O.a [.int (O.c c3 1),.int (O.c c3 2)]) (O.a [.int u16,.int (O.c c3 1)]))) fun c3=>(O.b (O.e (O.c c3 0) u16) (O.a [.rows u28,.int (O.c c3 1)]) (O.d (O.t (fun s4 c4=>let u30:=(O.c c4 3);let u24:=(O.c c4 1);let u23:=(O.c c4 2);let u20:=(O.k c4 0);let u11:=(O.j u20);let u6:=(O.o .i64 u23 u18);(O.b (O.n u23 u11) (O.l (O.q u23 u11) (O.b (O.g (O.g (O.e (O.r u20 u23 1) u30))) (O.l (O.q u24 u11) (s4 [.rows (O.x u20 u24 0 (rr O u20 u23 [0,0,0,0,0,0,0,1,0,0,0,0,0,1,0,0,0,0,1,0,0,0,0,0,0,0,1,1,1,1,0,0] 0)),.int (O.o .i64 u24 u18),.int u6,.int u30])) (s4 [.rows u20,.int u24,.int u6,.int u30]))) (O.a [.rows u20,.int u24,.int u30]))) [.rows u28,.int (O.c c3 0),.int (O.o .i64 (O.c c3 0) u18),.int (O.c c3 1)]) fun c4=>let u25:=(O.c c4 1);let u12:=(O.j (O.k c4 0));let u5:=(O.ag (O.k c4 0) u17 u25);let u4:=(O.j (O.ag (O.k c4 0) u25 u12));(O.l (O.ai u25 u12 u12) (O.l (O.ai u17 u25 (O.j (O.ad u5 (O.ap u4 [.int u17,.int u17,.int u17,.int u17,.int u17,.int u17,.int u17,.bool O.h,.int (O.lit .u8 0),.int (O.lit .u8 0),.int u17,.int u17,.int u17,.bool O.h,.int (O.lit .u8 0),.int u17,.int u17,.int u17,.bool O.h,.int u17,.int u17,.int u17,.int u17,.int u17,.int u17,.int u17,.bool O.h,.bool O.h,.bool O.h,.bool O.h,.int u17,.int u17])))) (O.a [.rows (O.ag (O.ad u5 (O.ap u4 [.int u17,.int u17,.int u17,.int u17,.int u17,.int u17,.int u17,.bool O.h,.int (O.lit .u8 0),.int (O.lit .u8 0),.int u17,.int u17,.int u17,.bool O.h,.int (O.lit .u8 0),.int u17,.int u17,.int u17,.bool O.h,.int u17,.int u17,.int u17,.int u17,.int u17,.int u17,.int u17,.bool O.h,.bool O.h,.bool O.h,.bool O.h,.int u17,.int u17])) u17 u25),.int (O.c c4 2)])))))) fun c3=>let u31:=(O.k c3 0);let u13:=(O.j u31);(O.d (O.t (fun s4 c4=>let u26:=(O.k c4 0);let u21:=(O.c c4 1);let u15:=(O.j u26);let u9:=(O.e u21 u17);let u8:=(O.o .i64 u21 u18);let u7:=(O.v .i64 u21 u18);(O.b (O.n u21 u13) (O.l (O.q u21 u13) (O.d (O.d (O.t (fun s5 c5=>let u32:=(O.c c5 0);(O.b (O.n u32 u15) (O.l (O.q u32 u15) (O.b (O.e (O.r u26 u32 0) (O.c c5 5)) (O.a (ap O [.int u17] (cr O c5 [0,0,0,0,0,0,0,0,1,0,0,0,0,0,1,0,0,0,0,1,0,0,0,0,0,0,0,1,1,1,1,0,0] 0))) (s5 (ap O [.int (O.o .i64 u32 u18)] (cr O c5 [0,0,0,0,0,0,0,1,0,0,0,0,0,1,0,0,0,0,1,0,0,0,0,0,0,0,1,1,1,1,0,0] 1))))) (O.a (ap O [.int u18] (cr O c5 [0,0,0,0,0,0,0,1,0,0,0,0,0,1,0,0,0,0,1,0,0,0,0,0,0,0,1,1,1,1,0,0] 1))))) (ap O [.int u17] (rr O u31 u21 [0,0,0,0,0,0,0,1,0,0,0,0,0,1,0,0,0,0,1,0,0,0,0,0,0,0,1,1,1,1,0,0] 0))) fun c5=>(O.b (O.z c5 0) (O.a (cr O c5 [0,0,0,0,0,0,0,0,1,0,0,0,0,0,1,0,0,0,0,1,0,0,0,0,0,0,0,1,1,1,1,0,0] 1)) (O.a (ap O [.int u16] (cr O c5 [0,0,0,0,0,0,0,1,0,0,0,0,0,1,0,0,0,0,1,0,0,0,0,0,0,0,1,1,1,1,0,0] 1))))) fun c5=>let u2:=(O.i u9 O.m (O.g (O.e (O.r u31 u7 2) (O.c c5 3))));let u1:=(O.ad u26 (O.y [[.int (O.c c5 5),.int u17,.int u17,.int u17,.int u17,.int u17,.int u17]]));let u0:=(O.j u1);(O.d (O.b (O.n (O.c c5 0) u17) (O.l (O.ab u0 56) (O.a [.rows u1,.int (O.v .i64 u0 u18)])) (O.a [.rows u26,.int (O.c c5 0)])) fun c6=>let u19:=(O.c c6 1);let u3:=(O.x (O.k c6 0) u19 3 [.int (O.o .i64 (O.r (O.k c6 0) u19 3) (O.c c5 26))]);(O.l (O.q u19 (O.j (O.k c6 0))) (O.d (O.b (O.p c5 27) (O.a [.rows (O.x u3 u19 1 [.int (O.o .i64 (O.r u3 u19 1) u18)])]) (O.a [.rows u3])) fun c7=>(O.d (O.b (O.p c5 29) (O.a [.rows (O.x (O.k c7 0) u19 4 [.int (O.o .i64 (O.r (O.k c7 0) u19 4) u18)])]) (O.a [.rows (O.k c7 0)])) fun c8=>let u27:=(O.k c8 0);(O.d (O.b (O.e (O.c c5 9) (O.lit .u8 2)) (O.a [.rows (O.x u27 u19 5 [.int (O.o .i64 (O.r u27 u19 5) u18)])]) (O.b (O.e (O.c c5 9) (O.lit .u8 3)) (O.a [.rows (O.x u27 u19 6 [.int (O.o .i64 (O.r u27 u19 6) u18)])]) (O.a [.rows u27]))) fun c9=>(O.l (O.g (O.aa (O.g u9) (O.g (O.q u7 u13)))) (O.d (O.b u2 (O.f 45 [] (ap O (xr x kR 0) [.rows u31,.int (O.c c5 3),.int (O.c c5 5)])) (O.a [.bool O.h])) fun c10=>(O.b (O.i u2 (O.p c10 0) O.h) (s4 [.rows (O.x (O.k c9 0) u19 2 [.int (O.o .i64 (O.r (O.k c9 0) u19 2) u18)]),.int u8]) (s4 [.rows (O.k c9 0),.int u8]))))))))))) (O.a [.rows u26]))) [.rows O.s,.int u17]) fun c4=>(O.a [.rows (O.k c4 0),.int u17]))))))))
def Bg (N:Nat):Env:=fun f fns ls=>(cond (Nat.beq f 13&&AR fns []) (EV N ls) (cond (Nat.beq f 34&&AR fns []) (Cz N ls) (cond (Nat.beq f 39&&AR fns []) (Fh N ls) (cond (Nat.beq f 45&&AR fns []) (JB N ls) none))))
theorem RP {N ls}:Bg N 13 [] ls=EV N ls:=id rfl
theorem PM {N ls}:Bg N 34 [] ls=Cz N ls:=id rfl
theorem Rg {N ls}:Bg N 39 [] ls=Fh N ls:=id rfl
theorem NQ {N ls}:Bg N 45 [] ls=JB N ls:=id rfl
def FH:=oS MO FV Bg
def DY (N:Nat) (ls:List PV):Option (List PV):=GA 16 ls
def EB (N:Nat) (ls:List PV):Option (List PV):=GA 24 ls
def Dn (N:Nat) (ls:List PV):Option (List PV):=GA 24 ls
def EU (N:Nat) (ls:List PV):Option (List PV):=GA 72 ls
def EA (N:Nat) (ls:List PV):Option (List PV):=GA 56 ls
def OG:List Nat:=[0,2,3,0,0,2,3,0,0,3,3,3]
def HT (O:Alg) (x:Ags O):O.M:=let u5:=(lq9 O 0);let u4:=(lq9 O 1);(O.d (O.t (fun s0 c0=>let u8:=(O.c c0 0);let u3:=(O.e u8 u4);let u2:=(O.q u8 (lq9 O 2));(O.b (O.n u8 (lq9 O 2)) (O.l u2 (O.d (O.f 46 [] [.rows (O.ar u3 (O.k c0 7) (O.k c0 3))]) fun c1=>(O.l u2 (s0 (ap O [.int (O.o .i64 u8 u4),.int (O.c c0 1),.str (O.cS c0 2),.rows (O.ar (O.e u8 u5) (O.k c1 0) (O.k c0 3))] (ap O (cr O c0 [0,0,2] 4) (ap O [.rows (O.ar u3 (O.k c1 0) (O.k c0 7))] (cr O c0 [0,0,3,3,3] 8)))))))) (O.a (cr O c0 [0,2,3,0,0,2,3,0,0,3,3,3] 1)))) (ap O [.int u5] (xr x [0,2,3,0,0,2,3,0,0,3,3,3] 0))) fun c0=>(O.d (O.f 47 [] [.rows (O.k c0 9)]) fun c1=>(O.d (O.f 48 [] [.rows (O.k c0 10)]) fun c2=>(O.d (O.f 49 [] [.rows (O.k c0 11)]) fun c3=>(O.d (O.t (fun s4 c4=>let u9:=(O.c c4 0);let u6:=(O.k c4 11);let u0:=(O.q u9 (O.j u6));(O.b (O.n u9 (O.j (O.k c2 0))) (O.l u0 (O.d (O.f 50 [] [.rows (O.rL u6 u9 0)]) fun c5=>(O.l u0 (s4 (ap O [.int (O.o .i64 u9 u4)] (ap O (cr O c4 [0,2,3,0,0,2,3,0,0,3] 1) [.rows (O.x u6 u9 0 [.rows (O.k c5 0)]),.rows (O.k c4 12)])))))) (O.a (cr O c4 [0,2,3,0,0,2,3,0,0,3,3,3] 1)))) (ap O [.int u5] (ap O (cr O c0 [0,2,3,0,0,2,3,0,0] 0) [.rows (O.k c1 0),.rows (O.k c2 0),.rows (O.k c3 0)]))) fun c4=>(O.d (O.t (fun s5 c5=>let u10:=(O.c c5 0);let u7:=(O.k c5 12);let u1:=(O.q u10 (O.j u7));(O.b (O.n u10 (O.j (O.k c4 11))) (O.l u1 (O.d (O.f 51 [] [.rows (O.rL u7 u10 0)]) fun c6=>(O.l u1 (s5 (ap O [.int (O.o .i64 u10 u4)] (ap O (cr O c5 [0,2,3,0,0,2,3,0,0,3,3] 1) [.rows (O.x u7 u10 0 [.rows (O.k c6 0)])])))))) (O.a (cr O c5 [0,2,3,0,0,2,3,0,0,3,3,3] 1)))) (ap O [.int u5] (cr O c4 [0,2,3,0,0,2,3,0,0,3,3,3] 0))) fun c5=>(O.a (cr O c5 [0,2,3,0,0,2,3,0,0,3,3,3] 0))))))))
def BV (N:Nat):Env:=fun f fns ls=>(cond (Nat.beq f 46&&AR fns []) (DY N ls) (cond (Nat.beq f 47&&AR fns []) (Ad N ls) (cond (Nat.beq f 48&&AR fns []) (EB N ls) (cond (Nat.beq f 49&&AR fns []) (Dn N ls) (cond (Nat.beq f 50&&AR fns []) (EU N ls) (cond (Nat.beq f 51&&AR fns []) (EA N ls) none))))))
theorem Lh {N ls}:BV N 46 [] ls=DY N ls:=id rfl
theorem NZ {N ls}:BV N 47 [] ls=Ad N ls:=id rfl
theorem KU {N ls}:BV N 48 [] ls=EB N ls:=id rfl
theorem Jw {N ls}:BV N 49 [] ls=Dn N ls:=id rfl
theorem KV {N ls}:BV N 50 [] ls=EU N ls:=id rfl
theorem KS {N ls}:BV N 51 [] ls=EA N ls:=id rfl
def CA:=oS OG HT BV
def QU:List Nat:=[0,2,0,0,0,0,0,0,0,1,0,0,0,0,3,2,3,0,0,2,3,0,0,3]
def Ia (O:Alg) (x:Ags O):O.M:=let u4:=(lq9 O 1);let u3:=(O.u ⟨#[]⟩);let u2:=(lq9 O 0);(O.b (O.i (O.n (x.I 0) u4) O.m (O.n (lq9 O 1000000) (x.I 0))) (O.a [.int u2,.str u3,.rows O.s,.int u2,.int u2,.str u3,.rows O.s,.int u2,.int u2,.rows O.s,.rows O.s,.rows O.s,.int (lq9 O 2)]) (O.d (O.f 12 [] (xr x [2,0,0,0,0,0,0,0,1,0,0,0,0,3,2,3,0,0,2,3,0,0] 1)) fun c0=>(O.b (O.g (O.e (O.c c0 0) u2)) (O.a [.int u2,.str u3,.rows O.s,.int u2,.int u2,.str u3,.rows O.s,.int u2,.int u2,.rows O.s,.rows O.s,.rows O.s,.int (O.c c0 0)]) (O.d (O.f 13 [] (ap O (xr x kR 1) [.rows (x.L 23)])) fun c1=>(O.b (O.g (O.e (O.c c1 0) u2)) (O.a [.int u2,.str u3,.rows O.s,.int u2,.int u2,.str u3,.rows O.s,.int u2,.int u2,.rows O.s,.rows O.s,.rows O.s,.int (O.c c1 0)]) (O.d (O.f 14 [] [.rows (x.L 23)]) fun c2=>(O.d (O.t (fun s3 c3=>let u5:=(O.c c3 0);(O.b (O.n u5 (O.j (O.k c2 0))) (O.d (O.f 15 [] (ap O (xr x kR 1) [.rows (x.L 23),.int u5])) fun c4=>let u0:=(O.ad (O.k c3 11) (O.y [[.rows (O.k c4 0)]]));(O.b (O.g (O.e (O.c c4 1) u2)) (O.a [.int u2,.int (O.c c4 1),.int u2,.str u3,.rows O.s,.int u2,.int u2,.str u3,.rows O.s,.int u2,.int u2,.rows O.s,.rows O.s,.rows O.s]) (O.d (O.f 16 [] (ap O (xr x kR 1) [.rows (x.L 23),.int u5])) fun c5=>let u1:=(O.ad (O.k c3 12) (O.y [[.rows (O.k c5 0)]]));(O.b (O.g (O.e (O.c c5 1) u2)) (O.a [.int u2,.int (O.c c5 1),.int u2,.str u3,.rows O.s,.int u2,.int u2,.str u3,.rows O.s,.int u2,.int u2,.rows O.s,.rows O.s,.rows O.s]) (O.l (O.ab (O.j u0) 24) (O.l (O.ab (O.j u1) 24) (s3 (ap O [.int (O.o .i64 u5 u4)] (ap O (cr O c3 [0,2,3,0,0,2,3,0,0,3] 1) [.rows u0,.rows u1]))))))))) (O.a (ap O [.int u4] (cr O c3 [0,2,3,0,0,2,3,0,0,3,3,3] 1))))) (ap O [.int u2,.int (x.I 0)] (ap O (xr x [2,3,0,0,2,3,0,0] 15) [.rows (O.k c2 0),.rows O.s,.rows O.s]))) fun c3=>(O.b (O.z c3 0) (O.a (ap O (cr O c3 [0,2,3,0,0,2,3,0,0,3,3,3] 2) [.int (O.c c3 1)])) (O.d (O.f 17 [] (cr O c3 [0,2,3,0,0,2,3,0,0,3,3,3] 1)) fun c4=>(O.a (ap O (cr O c4 [0,2,3,0,0,2,3,0,0,3,3,3] 0) [.int u2])))))))))))
def Be (N:Nat):Env:=fun f fns ls=>(cond (Nat.beq f 12&&AR fns []) (Ow N ls) (cond (Nat.beq f 13&&AR fns []) (EV N ls) (cond (Nat.beq f 14&&AR fns []) (Mq N ls) (cond (Nat.beq f 15&&AR fns []) (H7 N ls) (cond (Nat.beq f 16&&AR fns []) (FH N ls) (cond (Nat.beq f 17&&AR fns []) (CA N ls) none))))))
theorem SY {N ls}:Be N 12 [] ls=Ow N ls:=id rfl
theorem TY {N ls}:Be N 13 [] ls=EV N ls:=id rfl
theorem Rs {N ls}:Be N 14 [] ls=Mq N ls:=id rfl
theorem Q6 {N ls}:Be N 15 [] ls=H7 N ls:=id rfl
theorem OS {N ls}:Be N 16 [] ls=FH N ls:=id rfl
theorem P1 {N ls}:Be N 17 [] ls=CA N ls:=id rfl
def EK:=oS QU Ia Be
def Vl:List Nat:=[3]
def KR (O:Alg) (x:Ags O):O.M:=(O.d (O.t (fun s0 c0=>let u0:=(O.c c0 1);(O.b (O.n u0 (O.j (x.L 0))) (O.l (O.q u0 (O.j (x.L 0))) (s0 [.int (O.o .i64 (O.c c0 0) (O.r (x.L 0) u0 1)),.int (O.o .i64 u0 (lq9 O 1))])) (O.a [.int (O.c c0 0)]))) [.int (lq9 O 0),.int (lq9 O 0)]) fun c0=>(O.a [.int (O.c c0 0)]))
def SF:Nat→Env:=eL []
def KG:=oS Vl KR SF
def Hm:List Nat:=[3]
def DE (O:Alg) (x:Ags O):O.M:=let u3:=(lq9 O 0);(O.d (O.b (O.e (O.j (x.L 0)) u3) (O.a [.rows O.s]) (O.l (O.q u3 (O.j (x.L 0))) (O.a [.rows (O.rL (x.L 0) u3 0)]))) fun c0=>let u5:=(O.k c0 0);let u2:=(O.j u5);(O.d (O.t (fun s1 c1=>let u4:=(O.c c1 1);let u1:=(O.ad (O.k c1 0) (O.rL u5 u4 2));let u0:=(O.ad u1 (O.rL u5 u4 6));(O.b (O.n u4 u2) (O.l (O.q u4 u2) (O.l (O.ab (O.j u1) 16) (O.l (O.ab (O.j u0) 16) (s1 [.rows u0,.int (O.o .i64 u4 (lq9 O 1))])))) (O.a [.rows (O.k c1 0)]))) [.rows O.s,.int u3]) fun c1=>let u6:=(O.k c1 0);(O.l (O.ab (O.j u6) 16) (O.l (O.ab (O.j (O.az u6)) 16) (O.a [.rows (O.bc (O.az u6))])))))
def Cr (N:Nat):Env:=fun f fns ls=>none
def DF:=oS Hm DE Cr
def Tu:List Nat:=[0,2,3,0,0,2,3,0,0,3,3,3,2]
def I3 (O:Alg) (x:Ags O):O.M:=let u3:=(lq9 O 1);let u2:=(lq9 O 0);(O.d (O.t (fun s0 c0=>let u4:=(O.c c0 0);let u1:=(O.e u4 u3);let u0:=(O.o .i64 u4 u3);(O.b (O.n u4 (lq9 O 2)) (O.l (O.q u4 (lq9 O 2)) (O.d (O.f 31 [] [.str (O.av u1 (x.S 5) (x.S 1)),.rows (O.ar u1 (x.L 6) (x.L 2)),.int (O.af u1 (x.I 7) (x.I 3)),.int (O.af u1 (x.I 8) (x.I 4)),.str (x.S 12)]) fun c1=>(O.b (O.n u2 (O.c c1 0)) (O.a [.int u2,.int u0,.int (O.c c1 0)]) (s0 [.int u0])))) (O.a [.int u3]))) [.int u2]) fun c0=>(O.b (O.z c0 0) (O.a [.int (O.c c0 1),.int (O.c c0 2)]) (O.a [.int u2,.int u2])))
def Kj:Nat→Env:=eL [(31,DA)]
theorem RW {N ls}:Kj N 31 [] ls=DA N ls:=id rfl
def EL:=oS Tu I3 Kj
def Tv:List Nat:=[0,0,0,0,0,0,0,0,0,0,0,0,0,0]
def UU (O:Alg) (x:Ags O):O.M:=(O.a [.bool (O.i (O.n (x.I 11) (x.I 4)) O.m (O.i (O.e (x.I 4) (x.I 11)) (O.n (x.I 3) (x.I 10)) O.h))])
def aR:Nat→Env:=eL []
def GB:=oS Tv UU aR
end Go.Px
