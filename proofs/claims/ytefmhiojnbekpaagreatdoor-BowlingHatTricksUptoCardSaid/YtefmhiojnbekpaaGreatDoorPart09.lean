/- Part 9. -/
import Derived.Test.YtefmhiojnbekpaaGreatDoorPart08
set_option linter.unusedVariables false
set_option linter.unusedSimpArgs false
namespace Go.Px
set_option maxRecDepth 100000
def Y5:List Nat:=[0]
def lq9 (O:Alg) (n:Int):O.I:=O.lit .i64 n
def ZP (O:Alg) (x:Ags O):O.M:=(O.a [.bool (O.i (O.m (x.I 0) (lq9 O 0)) O.j (O.m (lq9 O 1000000) (x.I 0)))])
def mW:Nat→Env:=eL []
def Q3:=oS Y5 ZP mW
def fu:List Nat:=[3]
def hY (O:Alg) (x:Ags O):O.M:=let u0:=(lq9 O 0);(O.c (O.c (O.w (fun s0 c0=>let u1:=(O.h c0 0);(O.b (O.m u1 (O.l (x.L 0))) (O.n (O.r u1 (O.l (x.L 0))) (O.c (O.g 57 [] [.int (O.q (x.L 0) u1 0)]) fun c1=>(O.b (O.k c1 0) (O.a [.int u0,.int u1]) (s0 [.int (O.p .i64 u1 (lq9 O 1))])))) (O.a [.int (lq9 O 1)]))) [.int u0]) fun c0=>(O.b (O.aa c0 0) (O.a [.int (O.h c0 1)]) (O.a [.int (lq9 O (-1))]))) fun c0=>(O.a [.bool (O.f (O.t u0 (O.h c0 0)))]))
def ri:Nat→Env:=eL [(57,Q3)]
def KZ:=oS fu hY ri
def fx:List Nat:=[0]
def i7 (O:Alg) (x:Ags O):O.M:=let u0:=(O.s .i64 (lq9 O 0) (x.I 0));(O.a [.int (O.ae (O.m (x.I 0) u0) u0 (x.I 0))])
def sQ:Nat→Env:=eL []
def LT:=oS fx i7 sQ
def lg:List Nat:=[0,0]
def lA (O:Alg) (x:Ags O):O.M:=let u1:=(lq9 O (-9223372036854775808));(O.b (O.i (O.d (x.I 0) u1) O.j (O.d (x.I 1) u1)) (O.a [.int (lq9 O 0)]) (O.c (O.g 59 [] [.int (x.I 0)]) fun c0=>(O.c (O.g 59 [] [.int (x.I 1)]) fun c1=>(O.c (O.w (fun s2 c2=>let u2:=(O.h c2 1);let u0:=(O.f (O.d u2 (lq9 O 0)));(O.b u0 (O.n u0 (s2 [.int u2,.int (O.al .i64 (O.h c2 0) u2)])) (O.a [.int (O.h c2 0)]))) [.int (O.h c0 0),.int (O.h c1 0)]) fun c2=>(O.a [.int (O.h c2 0)])))))
def uW:Nat→Env:=eL [(59,LT)]
def Yv:=oS lg lA uW
def jK:List Nat:=[0,0]
def fQ (O:Alg) (x:Ags O):O.M:=let u6:=(lq9 O 0);let u5:=(lq9 O 2147483648);let u2:=(lq9 O (-9223372036854775808));(O.b (O.d (x.I 1) u6) (O.a [.int u6,.int u6,.int (lq9 O 1)]) (O.b (O.i (O.d (x.I 0) u2) O.j (O.d (x.I 1) u2)) (O.a [.int u6,.int u6,.int (lq9 O 2)]) (O.c (O.g 58 [] [.int (x.I 0),.int (x.I 1)]) fun c0=>let u7:=(O.h c0 0);let u4:=(O.aq .i64 (x.I 0) u7);let u3:=(O.aq .i64 (x.I 1) u7);let u0:=(O.f (O.d u7 u6));(O.n u0 (O.n u0 (O.c (O.b (O.m u3 u6) (O.a [.int (O.s .i64 u6 u4),.int (O.s .i64 u6 u3)]) (O.a [.int u4,.int u3])) fun c1=>let u1:=(O.m u5 (O.h c1 1));(O.c (O.b (O.f u1) (O.g 59 [] [.int (O.h c1 0)]) (O.a [.int u6])) fun c2=>(O.b (O.i u1 O.j (O.m u5 (O.h c2 0))) (O.a [.int u6,.int u6,.int (lq9 O 2)]) (O.a [.int (O.h c1 0),.int (O.h c1 1),.int u6])))))))))
def sA:Nat→Env:=eL [(58,Yv),(59,LT)]
def VU:=oS jK fQ sA
def Tw:List Nat:=[0,0,0,0,0,0,0,0]
def Tz (O:Alg) (x:Ags O):O.M:=let u0:=(lq9 O 0);(O.c (O.g 29 [] [.rows (O.ab [[.int (x.I 3)],[.int (x.I 1)]])]) fun c0=>(O.b (O.i (O.i (O.f (O.k c0 0)) O.j (O.m (x.I 7) (lq9 O 4))) O.j (O.m (lq9 O 8) (x.I 7))) (O.a [.int u0,.int u0,.int (lq9 O 2)]) (O.b (O.d (x.I 1) u0) (O.a [.int u0,.int u0,.int (lq9 O 1)]) (O.c (O.g 30 [] [.int (O.af .i64 (x.I 7) (x.I 3)),.int (x.I 1)]) fun c1=>(O.a (cr O c1 [0,0,0] 0))))))
def fC:Nat→Env:=eL [(29,KZ),(30,VU)]
def E3:=oS Tw Tz fC
def Xo:List Nat:=[0,0,0]
def W8 (O:Alg) (x:Ags O):O.M:=(O.a [.bool (O.i (O.t (x.I 1) (x.I 0)) (O.t (x.I 0) (x.I 2)) O.e)])
def jx:Nat→Env:=eL []
def DZ:=oS Xo W8 jx
def eP:List Nat:=[0]
def dU (O:Alg) (x:Ags O):O.M:=(O.c (O.g 63 [] [.int (x.I 0),.int (lq9 O 1),.int (lq9 O 8)]) fun c0=>(O.a [.bool (O.k c0 0)]))
def oB:Nat→Env:=eL [(63,DZ)]
def Jd:=oS eP dU oB
def oh:List Nat:=[0,0]
def oc (O:Alg) (x:Ags O):O.M:=let u2:=(lq9 O 0);let u0:=(O.f (O.d (x.I 1) u2));(O.c (O.g 62 [] [.int (x.I 1)]) fun c0=>let u1:=(O.f (O.k c0 0));(O.c (O.b (O.f u1) (O.g 63 [] [.int (x.I 0),.int u2,.int (lq9 O 1000000)]) (O.a [.bool O.e])) fun c1=>(O.b (O.i u1 O.j (O.f (O.k c1 0))) (O.a [.int u2,.int u2]) (O.n u0 (O.n u0 (O.a [.int (O.aq .i64 (x.I 0) (x.I 1)),.int (O.al .i64 (x.I 0) (x.I 1))]))))))
def xV:Nat→Env:=eL [(62,Jd),(63,DZ)]
def bJ:=oS oh oc xV
def PN (N:Nat) (ls:List PV):Option (List PV):=AAt ls
def ZJ:List Nat:=[0]
def Y3 (O:Alg) (x:Ags O):O.M:=(O.c (O.g 90 [] [.int (x.I 0)]) fun c0=>(O.a [.str (O.cS c0 0)]))
def mN:Nat→Env:=eL [(90,PN)]
def Re:=oS ZJ Y3 mN
def iR:List Nat:=[0,0]
def gA (O:Alg) (x:Ags O):O.M:=(O.c (O.g 62 [] [.int (x.I 1)]) fun c0=>let u1:=(O.f (O.k c0 0));(O.c (O.b (O.f u1) (O.g 63 [] [.int (x.I 0),.int (lq9 O 0),.int (lq9 O 1000000)]) (O.a [.bool O.e])) fun c1=>(O.b (O.i u1 O.j (O.f (O.k c1 0))) (O.a [.str (O.v ⟨#[]⟩),.int (lq9 O 2)]) (O.c (O.g 64 [] [.int (x.I 0),.int (x.I 1)]) fun c2=>(O.c (O.g 65 [] [.int (O.h c2 0)]) fun c3=>let u0:=(O.ap (O.cS c3 0) (O.v ⟨#[46]⟩));(O.n (O.z (O.ag (O.cS c3 0)) 1) (O.n (O.z (O.ag (O.v ⟨#[46]⟩)) 1) (O.c (O.g 65 [] [.int (O.h c2 1)]) fun c4=>(O.n (O.z (O.ag u0) 1) (O.n (O.z (O.ag (O.cS c4 0)) 1) (O.a [.str (O.ap u0 (O.cS c4 0)),.int (lq9 O 0)])))))))))))
def rX:Nat→Env:=eL [(62,Jd),(63,DZ),(64,bJ),(65,Re)]
def VX:=oS iR gA rX
def Ih (N:Nat) (ls:List PV):Option (List PV):=AEM ls
def Qz:List Nat:=[0,0]
def Qn (O:Alg) (x:Ags O):O.M:=(O.c (O.g 91 [] [.int (x.I 0),.int (x.I 1)]) fun c0=>(O.a [.str (O.cS c0 0)]))
def ZU:Nat→Env:=eL [(91,Ih)]
def Jz:=oS Qz Qn ZU
def Zm:List Nat:=[0]
def ZI (O:Alg) (x:Ags O):O.M:=(O.c (O.g 66 [] [.int (x.I 0),.int (lq9 O 10)]) fun c0=>(O.a [.str (O.cS c0 0)]))
def mc:Nat→Env:=eL [(66,Jz)]
def RJ:=oS Zm ZI mc
def Zn:List Nat:=[0,0,0,0,0,0,0,0]
def Y6 (O:Alg) (x:Ags O):O.M:=let u3:=(lq9 O 0);let u1:=(O.ab [[.int (x.I 2)],[.int (x.I 3)],[.int (x.I 4)]]);let u0:=(O.l u1);(O.c (O.g 29 [] [.rows (O.ab [[.int (x.I 1)],[.int (x.I 2)],[.int (x.I 3)],[.int (x.I 4)]])]) fun c0=>(O.b (O.f (O.k c0 0)) (O.a [.str (O.v ⟨#[]⟩),.int (lq9 O 2)]) (O.c (O.g 33 [] [.int (x.I 1),.int (x.I 7)]) fun c1=>(O.b (O.f (O.d (O.h c1 1) u3)) (O.a [.str (O.v ⟨#[]⟩),.int (O.h c1 1)]) (O.c (O.w (fun s2 c2=>let u5:=(O.cS c2 0);let u4:=(O.h c2 1);(O.b (O.m u4 u0) (O.n (O.r u4 u0) (O.c (O.g 34 [] [.int (O.q u1 u4 0)]) fun c3=>let u2:=(O.ap (O.v ⟨#[45]⟩) (O.cS c3 0));(O.n (O.z (O.ag (O.v ⟨#[45]⟩)) 1) (O.n (O.z (O.ag (O.cS c3 0)) 1) (O.n (O.z (O.ag u5) 1) (O.n (O.z (O.ag u2) 1) (s2 [.str (O.ap u5 u2),.int (O.p .i64 u4 (lq9 O 1))]))))))) (O.a [.str u5]))) [.str (O.cS c1 0),.int u3]) fun c2=>(O.a [.str (O.cS c2 0),.int u3]))))))
def mg:Nat→Env:=eL [(29,KZ),(33,VX),(34,RJ)]
def Hw:=oS Zn Y6 mg
def ko:List Nat:=[2]
def SG (O:Alg) (x:Ags O):O.M:=let u4:=(lq9 O 1);let u3:=(lq9 O 0);let u2:=(O.ay (x.S 0));let u1:=(O.l u2);(O.c (O.w (fun s0 c0=>let u5:=(O.h c0 0);let u0:=(O.q u2 u5 0);(O.b (O.m u5 u1) (O.n (O.r u5 u1) (O.b (O.i (O.f (O.i (O.t (O.lit .u8 65) u0) (O.t u0 (O.lit .u8 90)) O.e)) (O.i (O.d u5 u3) O.j (O.i (O.i (O.f (O.d u0 (O.lit .u8 95))) (O.f (O.d u0 (O.lit .u8 45))) O.e) (O.i (O.m u0 (O.lit .u8 48)) O.j (O.m (O.lit .u8 57) u0)) O.e)) O.e) (O.a [.int u3,.bool O.e]) (s0 [.int (O.p .i64 u5 u4)]))) (O.a [.int u4]))) [.int u3]) fun c0=>(O.b (O.aa c0 0) (O.a [.bool (O.k c0 1)]) (O.a [.bool (O.i (O.t u4 (O.ag (x.S 0))) (O.t (O.ag (x.S 0)) (lq9 O 16)) O.e)])))
def dq:Nat→Env:=eL []
def MQ:=oS ko SG dq
def XJ:List Nat:=[0,0,0]
def Xu (O:Alg) (x:Ags O):O.M:=(O.a [.bool (O.i (O.t (x.I 1) (x.I 0)) (O.t (x.I 0) (x.I 2)) O.e)])
def jt:Nat→Env:=eL []
def C2:=oS XJ Xu jt
def Xt:List Nat:=[2,0,0,0,0,0,0,0,1,0,0,0,0,3]
def KF (O:Alg) (x:Ags O):O.M:=let u10:=(lq9 O 1);let u9:=(lq9 O 0);(O.c (O.g 115 [] [.int (x.I 1),.int (lq9 O 2),.int (lq9 O 11)]) fun c0=>(O.c (O.b (O.k c0 0) (O.g 115 [] [.int (x.I 2),.int u10,.int (lq9 O 2)]) (O.a [.bool O.e])) fun c1=>let u8:=(O.i (O.k c0 0) (O.k c1 0) O.e);(O.c (O.b u8 (O.g 115 [] [.int (x.I 3),.int u9,.int (lq9 O 90)]) (O.a [.bool O.e])) fun c2=>let u7:=(O.i u8 (O.k c2 0) O.e);(O.c (O.b u7 (O.g 115 [] [.int (x.I 4),.int (lq9 O 4),.int (lq9 O 8)]) (O.a [.bool O.e])) fun c3=>let u6:=(O.i u7 (O.k c3 0) O.e);(O.c (O.b u6 (O.g 115 [] [.int (x.I 5),.int u9,.int (lq9 O 90)]) (O.a [.bool O.e])) fun c4=>let u5:=(O.i u6 (O.k c4 0) O.e);(O.c (O.b u5 (O.g 115 [] [.int (x.I 6),.int u10,.int (lq9 O 5)]) (O.a [.bool O.e])) fun c5=>let u4:=(O.i u5 (O.k c5 0) O.e);(O.c (O.b u4 (O.g 115 [] [.int (x.I 7),.int u10,.int (lq9 O 5)]) (O.a [.bool O.e])) fun c6=>let u3:=(O.i u4 (O.k c6 0) O.e);(O.c (O.b u3 (O.g 115 [] [.int (x.I 9),.int u9,.int (lq9 O 200)]) (O.a [.bool O.e])) fun c7=>let u2:=(O.i u3 (O.k c7 0) O.e);(O.c (O.b u2 (O.g 115 [] [.int (x.I 10),.int u9,.int (lq9 O 1000)]) (O.a [.bool O.e])) fun c8=>let u1:=(O.i u2 (O.k c8 0) O.e);(O.c (O.b u1 (O.g 115 [] [.int (x.I 11),.int u9,.int (lq9 O 9)]) (O.a [.bool O.e])) fun c9=>let u0:=(O.i u1 (O.k c9 0) O.e);(O.c (O.b u0 (O.g 115 [] [.int (x.I 12),.int u9,.int (lq9 O 11)]) (O.a [.bool O.e])) fun c10=>(O.a [.bool (O.i u0 (O.k c10 0) O.e)]))))))))))))
def MI:Nat→Env:=eL [(115,C2)]
def Gj:=oS Xt KF MI
def Zt:List Nat:=[2,0,0,0,0,0,0,0,1,0,0,0,0,3]
def Lp (O:Alg) (x:Ags O):O.M:=let u7:=(lq9 O 1);let u6:=(lq9 O 0);let u5:=(O.l (x.L 13));(O.b (O.m (lq9 O 8) u5) (O.a [.int (lq9 O 9)]) (O.c (O.w (fun s0 c0=>let u8:=(O.h c0 0);let u4:=(O.q (x.L 13) u8 1);let u3:=(O.q (x.L 13) u8 0);let u2:=(O.m u6 u8);let u1:=(O.s .i64 u8 u7);let u0:=(O.i (O.i (O.m u3 u7) O.j (O.m u4 u3)) O.j (O.m (x.I 3) u4));(O.b (O.m u8 u5) (O.n (O.r u8 u5) (O.c (O.b (O.f u0) (O.g 115 [] [.int (O.q (x.L 13) u8 2),.int u6,.int (lq9 O 11)]) (O.a [.bool O.e])) fun c1=>(O.b (O.i u0 O.j (O.f (O.k c1 0))) (O.a [.int u6,.int (lq9 O 2)]) (O.n (O.f (O.x u2 (O.f (O.r u1 u5)))) (O.b (O.i u2 (O.t u3 (O.q (x.L 13) u1 1)) O.e) (O.a [.int u6,.int (lq9 O 8)]) (s0 [.int (O.p .i64 u8 u7)])))))) (O.a [.int u7]))) [.int u6]) fun c0=>(O.b (O.aa c0 0) (O.a [.int (O.h c0 1)]) (O.a [.int u6]))))
def N8:Nat→Env:=eL [(115,C2)]
def Hg:=oS Zt Lp N8
def dT:List Nat:=[2,0,0,0,0,0,0,0,1,0,0,0,0,3]
def NJ (O:Alg) (x:Ags O):O.M:=let u2:=(lq9 O 0);let u1:=(O.f (O.d (x.I 5) u2));let u0:=(O.i (O.f (O.d (x.I 10) u2)) (O.d (x.I 2) (lq9 O 1)) O.e);(O.c (O.g 92 [] [.str (x.S 0)]) fun c0=>(O.b (O.f (O.k c0 0)) (O.a [.int (lq9 O 5)]) (O.c (O.g 93 [] (xr x kR 0)) fun c1=>(O.b (O.f (O.k c1 0)) (O.a [.int (lq9 O 2)]) (O.c (O.b u0 (O.a [.bool u0]) (O.a [.bool (O.i (O.i u1 O.j (O.m u2 (O.l (x.L 13)))) (O.d (x.I 3) u2) O.e)])) fun c2=>(O.b (O.k c2 0) (O.a [.int (lq9 O 1)]) (O.b (O.i u1 (O.m (O.af .i64 (x.I 5) (x.I 1)) (x.I 3)) O.e) (O.a [.int (lq9 O 13)]) (O.c (O.g 94 [] (xr x kR 0)) fun c3=>(O.a [.int (O.h c3 0)])))))))))
def G0:Nat→Env:=eL [(92,MQ),(93,Gj),(94,Hg)]
def Ab:=oS dT NJ G0
def Dd (N:Nat) (ls:List PV):Option (List PV):=S0 24 ls
def eD:List Nat:=[2,0,0,0,0,0,0,0,1,0,0,0,0,3]
def Na (O:Alg) (x:Ags O):O.M:=(O.c (O.g 116 [] [.rows (x.L 13)]) fun c0=>(O.a (ap O (xr x [2,0,0,0,0,0,0,0,1,0,0,0,0] 0) [.rows (O.o c0 0)])))
def Pc:Nat→Env:=eL [(116,Dd)]
theorem N7 {N ls}:Pc N 116 [] ls=Dd N ls:=id rfl
def Dl:=oS eD Na Pc
def lY:List Nat:=[2,0,0,0,0,0,0,0,1,0,0,0,0,3]
def Rr (O:Alg) (x:Ags O):O.M:=let u0:=(lq9 O 0);(O.c (O.g 70 [] (xr x kR 0)) fun c0=>(O.b (O.f (O.d (O.h c0 0) u0)) (O.a [.str (O.v ⟨#[]⟩),.int u0,.int u0,.int u0,.int u0,.int u0,.int u0,.int u0,.bool O.e,.int u0,.int u0,.int u0,.int u0,.rows O.u,.int (O.lit .u8 0),.int u0,.bool O.e,.rows O.u,.int u0,.int u0,.int (O.lit .u8 0),.int u0,.int u0,.int (O.h c0 0)]) (O.c (O.g 95 [] (xr x kR 0)) fun c1=>(O.a (ap O (cr O c1 kR 0) [.int (O.lit .u8 1),.int u0,.bool O.e,.rows O.u,.int u0,.int u0,.int (O.lit .u8 0),.int u0,.int u0,.int u0])))))
def Nl:Nat→Env:=eL [(70,Ab),(95,Dl)]
theorem Wp {N ls}:Nl N 70 [] ls=Ab N ls:=id rfl
theorem Wv {N ls}:Nl N 95 [] ls=Dl N ls:=id rfl
def Rt:=oS lY Rr Nl
def T4:List Nat:=[0,0,0]
def Tp (O:Alg) (x:Ags O):O.M:=(O.a [.bool (O.i (O.t (x.I 1) (x.I 0)) (O.t (x.I 0) (x.I 2)) O.e)])
def eu:Nat→Env:=eL []
def Ax:=oS T4 Tp eu
def Ty:List Nat:=[0,0,0,0,0,0,0,0,0,0,0,0,0,0,3,0,3,3,1,3,1,0,0,0,3,0,0,0,0]
def HU (O:Alg) (x:Ags O):O.M:=let u5:=(lq9 O 1);let u4:=(lq9 O 0);let u0:=(O.f (O.d (x.I 12) u4));(O.c (O.w (fun s0 c0=>let u8:=(O.h c0 1);let u7:=(O.h c0 0);let u6:=(O.h c0 3);let u2:=(O.q (x.L 14) u6 0);let u9:=(O.i (O.k c0 2) O.j (O.f (O.d u2 (O.lit .u8 0))));let u1:=(O.p .i64 u6 u5);(O.b (O.m u6 (O.l (x.L 14))) (O.n (O.r u6 (O.l (x.L 14))) (O.b (O.m (O.lit .u8 3) u2) (O.a [.int u4,.bool O.e]) (O.b (O.d u2 (O.lit .u8 1)) (O.b (O.i (O.f (O.d (x.I 12) u1)) (O.f (O.d (x.I 13) u1)) O.e) (O.a [.int u4,.bool O.e]) (s0 [.int u7,.int (O.p .i64 u8 u5),.bool u9,.int u1])) (O.b (O.d u2 (O.lit .u8 2)) (s0 [.int (O.p .i64 u7 u5),.int u8,.bool u9,.int u1]) (s0 [.int u7,.int u8,.bool u9,.int u1]))))) (O.a (ap O [.int u5] (cr O c0 [0,0,1] 0))))) [.int u4,.int u4,.bool O.e,.int u4]) fun c0=>(O.b (O.aa c0 0) (O.a [.bool (O.k c0 1)]) (O.c (O.g 164 [] [.int (x.I 12),.int u4,.int (x.I 28)]) fun c1=>let u3:=(O.f (O.k c1 0));(O.c (O.b (O.f u3) (O.g 164 [] [.int (x.I 13),.int u4,.int (x.I 28)]) (O.a [.bool O.e])) fun c2=>(O.b (O.i (O.i u3 O.j (O.f (O.k c2 0))) O.j (O.i (O.d (x.I 12) (x.I 13)) u0 O.e)) (O.a [.bool O.e]) (O.c (O.b u0 (O.a [.int (O.p .i64 u4 u5)]) (O.a [.int u4])) fun c3=>(O.c (O.b (O.f (O.d (x.I 13) u4)) (O.a [.int (O.p .i64 (O.h c3 0) u5)]) (O.a [.int (O.h c3 0)])) fun c4=>(O.a [.bool (O.i (O.i (O.d (O.h c4 0) (O.h c0 2)) (O.i (O.f (O.k c0 3)) O.j (O.m u4 (O.h c4 0))) O.e) (O.d (O.h c0 1) (x.I 4)) O.e)]))))))))
def Jw:Nat→Env:=eL [(164,Ax)]
def E5:=oS Ty HU Jw
def S7:List Nat:=[3,0]
def Ge (O:Alg) (x:Ags O):O.M:=(O.c (O.w (fun s0 c0=>let u0:=(O.h c0 0);(O.b (O.m u0 (O.l (x.L 0))) (O.n (O.r u0 (O.l (x.L 0))) (O.b (O.d (x.I 1) (O.q (x.L 0) u0 0)) (O.a [.int (lq9 O 0),.int u0]) (s0 [.int (O.p .i64 u0 (lq9 O 1))]))) (O.a [.int (lq9 O 1)]))) [.int (lq9 O 0)]) fun c0=>(O.b (O.aa c0 0) (O.a [.int (O.h c0 1)]) (O.a [.int (lq9 O (-1))])))
def O7:Nat→Env:=eL []
def EG:=oS S7 Ge O7
def OD:List Nat:=[3,0]
def Eb (O:Alg) (x:Ags O):O.M:=(O.c (O.g 206 [] [.rows (x.L 0),.int (x.I 1)]) fun c0=>(O.a [.bool (O.t (lq9 O 0) (O.h c0 0))]))
def GD:Nat→Env:=eL [(206,EG)]
def A0:=oS OD Eb GD
def Qv:List Nat:=[3,0]
def F6 (O:Alg) (x:Ags O):O.M:=let u5:=(lq9 O 1);let u4:=(lq9 O 0);let u3:=(O.l (x.L 0));(O.c (O.w (fun s0 c0=>let u6:=(O.h c0 0);let u1:=(O.q (x.L 0) u6 0);(O.b (O.m u6 u3) (O.n (O.r u6 u3) (O.c (O.g 164 [] [.int u1,.int u5,.int (x.I 1)]) fun c1=>let u2:=(O.f (O.k c1 0));let u0:=(O.f u2);(O.n (O.f (O.x u0 (O.f (O.am u4 u6 u3)))) (O.c (O.b u0 (O.g 185 [] [.rows (O.ak (x.L 0) u4 u6),.int u1]) (O.a [.bool O.e])) fun c2=>(O.b (O.i u2 O.j (O.k c2 0)) (O.a [.int u4,.bool O.e]) (s0 [.int (O.p .i64 u6 u5)])))))) (O.a [.int u5]))) [.int u4]) fun c0=>(O.b (O.aa c0 0) (O.a [.bool (O.k c0 1)]) (O.a [.bool O.j])))
def Ef:Nat→Env:=eL [(164,Ax),(185,A0)]
def D1:=oS Qv F6 Ef
def Q2:List Nat:=[0]
def Fx (O:Alg) (x:Ags O):O.M:=(O.c (O.g 164 [] [.int (x.I 0),.int (lq9 O 0),.int (lq9 O 1000000000)]) fun c0=>(O.a [.bool (O.f (O.k c0 0))]))
def Hk:Nat→Env:=eL [(164,Ax)]
def Dw:=oS Q2 Fx Hk
def Tn:List Nat:=[0,0,0,0,0,0,0,0,0,0,0,0,0,0,3,0,3,3,1,3,1,0,0,0,3,0,0,0]
def HV (O:Alg) (x:Ags O):O.M:=let u2:=(lq9 O 0);let u1:=(O.ac (O.ab [[.int (x.I 1)],[.int (x.I 3)],[.int (x.I 5)],[.int (x.I 6)],[.int (x.I 7)],[.int (x.I 8)],[.int (x.I 9)],[.int (x.I 10)],[.int (x.I 21)],[.int (x.I 23)],[.int (x.I 25)],[.int (x.I 26)]]) (x.L 19));let u0:=(O.l u1);(O.n (O.z u0 8) (O.c (O.c (O.w (fun s0 c0=>let u3:=(O.h c0 0);(O.b (O.m u3 u0) (O.n (O.r u3 u0) (O.c (O.g 186 [] [.int (O.q u1 u3 0)]) fun c1=>(O.b (O.k c1 0) (O.a [.int u2,.int u3]) (s0 [.int (O.p .i64 u3 (lq9 O 1))])))) (O.a [.int (lq9 O 1)]))) [.int u2]) fun c0=>(O.b (O.aa c0 0) (O.a [.int (O.h c0 1)]) (O.a [.int (lq9 O (-1))]))) fun c0=>(O.a [.bool (O.f (O.t u2 (O.h c0 0)))])))
def Js:Nat→Env:=eL [(186,Dw)]
def Er:=oS Tn HV Js
def Xw:List Nat:=[2,0,0,0,0,0,0,0,1,0,0,0,0,3,0,0,0,0,0,0,0,0,0,0,0,0,0,0,3,0,3,3,1,3,1,0,0,0,3,0,0,0]
def KG (O:Alg) (x:Ags O):O.M:=let u11:=(lq9 O 1);let u10:=(lq9 O 0);let u8:=(O.d (x.I 3) u10);let u7:=(O.f u8);let u4:=(O.i u8 (O.d (x.I 16) u10) O.e);(O.c (O.g 70 [] (xr x kR 0)) fun c0=>let u6:=(O.f (O.d (O.h c0 0) u10));(O.c (O.b (O.f u6) (O.g 164 [] [.int (x.I 14),.int u11,.int (lq9 O 2)]) (O.a [.bool O.e])) fun c1=>(O.b (O.i u6 O.j (O.f (O.k c1 0))) (O.a [.bool O.e]) (O.b (O.i (O.i (O.i (O.f (O.d (O.l (x.L 28)) (x.I 1))) O.j (O.f (O.d (O.l (x.L 33)) (x.I 1)))) O.j (O.f (O.d (O.l (x.L 38)) (x.I 1)))) O.j (O.m (O.lit .u8 5) (x.I 41))) (O.a [.bool O.e]) (O.c (O.g 165 [] (ap O (xr x kI 14) [.int (x.I 1)])) fun c2=>let u9:=(O.f (O.k c2 0));(O.c (O.b (O.f u9) (O.g 164 [] [.int (x.I 29),.int u10,.int (x.I 1)]) (O.a [.bool O.e])) fun c3=>let u5:=(O.i u9 O.j (O.f (O.k c3 0)));(O.c (O.b (O.f u5) (O.g 164 [] [.int (x.I 36),.int u10,.int (x.I 1)]) (O.a [.bool O.e])) fun c4=>let u3:=(O.i u5 O.j (O.f (O.k c4 0)));(O.c (O.b (O.f u3) (O.g 166 [] [.rows (x.L 30),.int (x.I 1)]) (O.a [.bool O.e])) fun c5=>let u2:=(O.i u3 O.j (O.f (O.k c5 0)));(O.c (O.b (O.f u2) (O.g 166 [] [.rows (x.L 31),.int (x.I 1)]) (O.a [.bool O.e])) fun c6=>(O.b (O.i u2 O.j (O.f (O.k c6 0))) (O.a [.bool O.e]) (O.c (O.b (O.x (O.f u4) u7) (O.g 164 [] [.int (x.I 16),.int u11,.int (x.I 3)]) (O.a [.bool O.e])) fun c7=>let u1:=(O.i u4 O.j (O.i u7 (O.k c7 0) O.e));(O.c (O.b u1 (O.g 164 [] [.int (x.I 25),.int u10,.int (O.s .i64 (x.I 4) u11)]) (O.a [.bool O.e])) fun c8=>let u0:=(O.i u1 (O.k c8 0) O.e);(O.c (O.b u0 (O.g 167 [] (xr x kI 14)) (O.a [.bool O.e])) fun c9=>(O.a [.bool (O.i u0 (O.k c9 0) O.e)]))))))))))))))
def Cw:Nat→Env:=eL [(70,Ab),(164,Ax),(165,E5),(166,D1),(167,Er)]
def BX:=oS Xw KG Cw
def eO:List Nat:=[0]
def Ni (O:Alg) (x:Ags O):O.M:=(O.a [.int (O.s .i64 (lq9 O 3) (x.I 0))])
def XS:Nat→Env:=eL []
def BV:=oS eO Ni XS
def dS:List Nat:=[2,0,0,0,0,0,0,0,1,0,0,0,0,3,0,0,1,3,0,0,0,0,0,0]
def NI (O:Alg) (x:Ags O):O.M:=let u0:=(lq9 O 2);(O.c (O.b (O.i (x.B 16) (O.t u0 (x.I 23)) O.e) (O.a [.bool (O.d (x.I 23) u0)]) (O.a [.bool (O.d (O.al .i64 (x.I 23) u0) (lq9 O 1))])) fun c0=>(O.b (O.k c0 0) (O.c (O.g 148 [] [.int (x.I 15)]) fun c1=>(O.a [.int (O.h c1 0)])) (O.a [.int (x.I 15)])))
def O2:Nat→Env:=eL [(148,BV)]
theorem UM {N ls}:O2 N 148 [] ls=BV N ls:=id rfl
def Dm:=oS dS NI O2
def eX:List Nat:=[2,0,0,0,0,0,0,0,1,0,0,0,0,3,0,0,1,3,0,0,0,0,0]
def NU (O:Alg) (x:Ags O):O.M:=let u2:=(lq9 O 0);let u1:=(lq9 O 1);let u0:=(O.l (x.L 17));(O.c (O.w (fun s0 c0=>let u3:=(O.h c0 0);(O.b (O.m u3 u0) (O.n (O.r u3 u0) (O.b (O.f (O.aj (O.d (O.q (x.L 17) u3 27) (O.lit .u8 0)) (O.i (O.d (x.I 14) (O.lit .u8 3)) (O.d u3 (O.s .i64 u0 u1)) O.e))) (O.a [.int u2,.bool O.e]) (s0 [.int (O.p .i64 u3 u1)]))) (O.a [.int u1]))) [.int u2]) fun c0=>(O.b (O.aa c0 0) (O.a [.bool (O.k c0 1)]) (O.a [.bool (O.i (O.f (O.d (x.I 14) (O.lit .u8 3))) O.j (O.m u2 u0))])))
def XM:Nat→Env:=eL []
def JF:=oS eX NU XM
def da:List Nat:=[2,0,0,0,0,0,0,0,1,0,0,0,0,3,0,0,1,3,0,0,0,0,0]
def M6 (O:Alg) (x:Ags O):O.M:=let u8:=(lq9 O 1);let u9:=(O.d (x.I 14) (O.lit .u8 1));let u7:=(lq9 O 2);let u6:=(lq9 O 0);let u5:=(O.l (x.L 17));let u3:=(O.d (x.I 15) u6);let u2:=(O.af .i64 u7 (x.I 2));let u1:=(O.f (O.d (x.I 2) u7));(O.c (O.g 70 [] (xr x kR 0)) fun c0=>(O.b (O.i (O.i (O.f (O.d (O.h c0 0) u6)) O.j (O.m (x.I 14) (O.lit .u8 1))) O.j (O.m (O.lit .u8 5) (x.I 14))) (O.a [.bool O.e]) (O.c (O.w (fun s1 c1=>let u11:=(O.h c1 0);let u0:=(O.ae (O.d u11 u8) (x.I 19) (x.I 18));(O.b (O.m u11 u7) (O.n (O.r u11 u7) (O.b (O.i (O.m u0 u6) O.j (O.m (lq9 O 1000000) u0)) (O.a [.int u6,.bool O.e]) (s1 [.int (O.p .i64 u11 u8)]))) (O.a [.int u8]))) [.int u6]) fun c1=>(O.b (O.aa c1 0) (O.a [.bool (O.k c1 1)]) (O.b (O.i (O.i (O.m (x.I 15) u6) O.j (O.m u7 (x.I 15))) O.j (O.m u2 u5)) (O.a [.bool O.e]) (O.b (O.i u3 (O.i (O.m u6 u5) O.j (O.i (O.f u9) (O.f (O.d (x.I 14) (O.lit .u8 5))) O.e)) O.e) (O.a [.bool O.e]) (O.b (O.i u9 (O.f u3) O.e) (O.a [.bool O.e]) (O.b (O.i (O.d (x.I 14) (O.lit .u8 2)) (O.d u5 u2) O.e) (O.a [.bool O.e]) (O.b (O.i (O.d (x.I 14) (O.lit .u8 4)) (O.i u1 O.j (O.f (O.d u5 u7))) O.e) (O.a [.bool O.e]) (O.b (O.i (x.B 16) (O.i u1 O.j (O.m u5 u7)) O.e) (O.a [.bool O.e]) (O.c (O.w (fun s2 c2=>let u10:=(O.h c2 0);(O.b (O.m u10 u5) (O.n (O.r u10 u5) (O.c (O.g 140 [] (ap O (xr x kR 0) (rr O (x.L 17) u10 kI 0))) fun c3=>let u4:=(O.f (O.k c3 0));(O.c (O.b (O.f u4) (O.g 141 [] (ap O (xr x kM 0) [.int u10])) (O.a [.int u6])) fun c4=>(O.b (O.i u4 O.j (O.f (O.d (O.q (x.L 17) u10 0) (O.h c4 0)))) (O.a [.int u6,.bool O.e]) (s2 [.int (O.p .i64 u10 u8)]))))) (O.a [.int u8]))) [.int u6]) fun c2=>(O.b (O.aa c2 0) (O.a [.bool (O.k c2 1)]) (O.c (O.g 142 [] (xr x kM 0)) fun c3=>(O.a [.bool (O.k c3 0)]))))))))))))))
def Eg:Nat→Env:=eL [(70,Ab),(140,BX),(141,Dm),(142,JF)]
theorem Uv {N ls}:Eg N 70 [] ls=Ab N ls:=id rfl
theorem IW {N ls}:Eg N 140 [] ls=BX N ls:=id rfl
theorem KH {N ls}:Eg N 141 [] ls=Dm N ls:=id rfl
theorem KP {N ls}:Eg N 142 [] ls=JF N ls:=id rfl
def Dk:=oS da M6 Eg
def Z3:List Nat:=[0]
def Lb (O:Alg) (x:Ags O):O.M:=(O.b (O.d (x.I 0) (O.lit .u8 7)) (O.a [.int (lq9 O 0),.int (lq9 O 11)]) (O.b (O.d (x.I 0) (O.lit .u8 13)) (O.a [.int (lq9 O 1),.int (lq9 O 99)]) (O.a [.int (lq9 O 0),.int (lq9 O 100000)])))
def WC:Nat→Env:=eL []
def Ho:=oS Z3 Lb WC
def XN:List Nat:=[0,0,0]
def Po (O:Alg) (x:Ags O):O.M:=(O.a [.bool (O.i (O.t (x.I 1) (x.I 0)) (O.t (x.I 0) (x.I 2)) O.e)])
def T8:Nat→Env:=eL []
def GZ:=oS XN Po T8
def Cu (N:Nat) (ls:List PV):Option (List PV):=pY ls
def Q1:List Nat:=[2,0]
def F5 (O:Alg) (x:Ags O):O.M:=(O.c (O.g 187 [] [.str (x.S 0),.int (x.I 1)]) fun c0=>(O.a [.int (O.h c0 0)]))
def IL:Nat→Env:=eL [(187,Cu)]
theorem IP {N ls}:IL N 187 [] ls=Cu N ls:=id rfl
def D3:=oS Q1 F5 IL
def eU:List Nat:=[]
def eC (O:Alg) (x:Ags O):O.M:=let u4:=(O.v ⟨#[]⟩);let u3:=(O.v ⟨#[112]⟩);let u2:=(O.v ⟨#[112,121]⟩);let u1:=(O.v ⟨#[115,121]⟩);let u0:=(O.v ⟨#[70,73,69,76,68]⟩);(O.a [.rows (O.ab [[.str (O.v ⟨#[84,79,83,83]⟩),.str u1,.str (O.v ⟨#[66,65,84]⟩),.str u0],[.str (O.v ⟨#[79,80,69,78]⟩),.str (O.v ⟨#[112,111]⟩),.str u4,.str u4],[.str (O.v ⟨#[66,79,87,76]⟩),.str u3,.str u4,.str u4],[.str (O.v ⟨#[66,65,76,76]⟩),.str (O.v ⟨#[98]⟩),.str u4,.str u4],[.str (O.v ⟨#[69,78,84,69,82]⟩),.str u3,.str u4,.str u4],[.str (O.v ⟨#[82,69,84,73,82,69]⟩),.str u2,.str (O.v ⟨#[72,85,82,84]⟩),.str (O.v ⟨#[79,85,84]⟩)],[.str u0,.str (O.v ⟨#[114]⟩),.str u4,.str u4],[.str (O.v ⟨#[75,69,69,80,69,82]⟩),.str u3,.str u4,.str u4],[.str (O.v ⟨#[83,85,66]⟩),.str u2,.str (O.v ⟨#[79,78]⟩),.str (O.v ⟨#[79,70,70]⟩)],[.str (O.v ⟨#[78,69,87,66,65,76,76]⟩),.str u4,.str u4,.str u4],[.str (O.v ⟨#[68,69,67,76,65,82,69]⟩),.str (O.v ⟨#[115]⟩),.str u4,.str u4],[.str (O.v ⟨#[70,79,76,76,79,87]⟩),.str u1,.str (O.v ⟨#[89,69,83]⟩),.str (O.v ⟨#[78,79]⟩)],[.str (O.v ⟨#[80,69,78,65,76,84,89]⟩),.str (O.v ⟨#[115,114]⟩),.str u4,.str u4],[.str (O.v ⟨#[82,69,86,73,69,87]⟩),.str u1,.str (O.v ⟨#[75,69,80,84]⟩),.str (O.v ⟨#[76,79,83,84]⟩)],[.str (O.v ⟨#[82,69,86,73,83,69]⟩),.str (O.v ⟨#[114,118]⟩),.str u4,.str u4],[.str (O.v ⟨#[83,84,79,80]⟩),.str u4,.str u4,.str u4]])])
def qL:Nat→Env:=eL []
def GO:=oS eU eC qL
def fh:List Nat:=[0,0]
def Ox (O:Alg) (x:Ags O):O.M:=(O.c (O.g 169 [] []) fun c0=>(O.n (O.r (O.s .u8 (x.I 0) (O.lit .u8 1)) (O.l (O.o c0 0))) (O.c (O.g 168 [] [.str (O.rS (O.o c0 0) (O.s .u8 (x.I 0) (O.lit .u8 1)) 1),.int (x.I 1)]) fun c1=>(O.a [.bool (O.i (O.t (lq9 O 0) (O.h c1 0)) O.j (O.i (O.d (x.I 0) (O.lit .u8 5)) (O.d (x.I 1) (O.lit .u8 121)) O.e))]))))
def Ly:Nat→Env:=eL [(168,D3),(169,GO)]
theorem Pg {N ls}:Ly N 168 [] ls=D3 N ls:=id rfl
theorem Vj {N ls}:Ly N 169 [] ls=GO N ls:=id rfl
def LM:=oS fh Ox Ly
def TD:List Nat:=[0,0,0]
def Kl (O:Alg) (x:Ags O):O.M:=(O.a [.bool (O.i (O.t (x.I 1) (x.I 0)) (O.t (x.I 0) (x.I 2)) O.e)])
def O4:Nat→Env:=eL []
def EU:=oS TD Kl O4
def V0:List Nat:=[0,0,0,0,0,1,0,0,0,0,1,0]
def Ip (O:Alg) (x:Ags O):O.M:=let u5:=(lq9 O 0);(O.b (O.i (O.i (O.i (O.m (x.I 0) (O.lit .u8 1)) O.j (O.m (O.lit .u8 3) (x.I 0))) O.j (O.m (O.lit .u8 3) (x.I 1))) O.j (O.m (O.lit .u8 10) (x.I 6))) (O.a [.int (lq9 O 3)]) (O.c (O.g 170 [] [.int (x.I 2),.int u5,.int (lq9 O 7)]) fun c0=>let u4:=(O.f (O.k c0 0));(O.c (O.b (O.f u4) (O.g 170 [] [.int (x.I 3),.int u5,.int (x.I 2)]) (O.a [.bool O.e])) fun c1=>let u3:=(O.i (O.i u4 O.j (O.f (O.k c1 0))) O.j (O.i (O.i (O.f (O.d (x.I 4) u5)) (O.f (O.d (x.I 4) (lq9 O 4))) O.e) (O.f (O.d (x.I 4) (lq9 O 6))) O.e));(O.c (O.b (O.f u3) (O.g 170 [] [.int (x.I 7),.int u5,.int (lq9 O 2)]) (O.a [.bool O.e])) fun c2=>let u2:=(O.i u3 O.j (O.f (O.k c2 0)));(O.c (O.b (O.f u2) (O.g 170 [] [.int (x.I 8),.int u5,.int (lq9 O 11)]) (O.a [.bool O.e])) fun c3=>let u1:=(O.i u2 O.j (O.f (O.k c3 0)));(O.c (O.b (O.f u1) (O.g 170 [] [.int (x.I 9),.int u5,.int (lq9 O 11)]) (O.a [.bool O.e])) fun c4=>let u0:=(O.i u1 O.j (O.f (O.k c4 0)));(O.c (O.b (O.f u0) (O.g 170 [] [.int (x.I 11),.int u5,.int (lq9 O 8)]) (O.a [.bool O.e])) fun c5=>(O.b (O.i u0 O.j (O.f (O.k c5 0))) (O.a [.int (lq9 O 2)]) (O.a [.int u5])))))))))
def KR:Nat→Env:=eL [(170,EU)]
theorem Mz {N ls}:KR N 170 [] ls=EU N ls:=id rfl
def Fo:=oS V0 Ip KR
def dZ:List Nat:=[0,0,0,0,1,0,0,0,0,0,0,0,1,0,0,0,0,1,0]
def JT (O:Alg) (x:Ags O):O.M:=let u14:=(lq9 O 1);let u13:=(lq9 O 0);let u8:=(O.d (x.I 9) u13);let u15:=(O.lit .u8 0);let u7:=(O.d (x.I 6) u13);let u6:=(O.d (x.I 5) u13);let u5:=(O.d (x.I 3) u13);let u4:=(O.d (x.I 2) u13);let u3:=(O.d (x.I 1) u13);let u2:=(O.d (x.I 11) u13);let u1:=(O.d (x.I 10) u13);let u0:=(O.x (O.d (x.I 14) u13) (O.x (O.d (x.I 15) u13) (O.x (O.d (x.I 16) u13) (O.x (O.aj (x.B 17) O.e) (O.d (x.I 18) u13)))));(O.b (O.i (O.m (x.I 0) (O.lit .u8 1)) O.j (O.m (O.lit .u8 16) (x.I 0))) (O.a [.int (lq9 O 3)]) (O.c (O.g 143 [] [.int (x.I 0)]) fun c0=>(O.c (O.g 144 [] [.int (x.I 1),.int u14,.int (lq9 O 2)]) fun c1=>(O.c (O.g 144 [] [.int (x.I 2),.int u14,.int (lq9 O 11)]) fun c2=>(O.c (O.g 144 [] [.int (x.I 3),.int u14,.int (lq9 O 11)]) fun c3=>(O.c (O.g 144 [] [.int (x.I 5),.int (O.h c0 0),.int (O.h c0 1)]) fun c4=>(O.c (O.g 144 [] [.int (x.I 6),.int u13,.int (lq9 O 90)]) fun c5=>let u12:=(O.ab [[.int (O.lit .u8 115),.bool u3,.bool (O.k c1 0)],[.int (O.lit .u8 112),.bool u4,.bool (O.k c2 0)],[.int (O.lit .u8 111),.bool u5,.bool (O.k c3 0)],[.int (O.lit .u8 121),.bool (O.f (x.B 4)),.bool O.j],[.int (O.lit .u8 114),.bool u6,.bool (O.k c4 0)],[.int (O.lit .u8 118),.bool u7,.bool (O.k c5 0)],[.int (O.lit .u8 98),.bool (O.x (O.d (x.I 7) u15) (O.x (O.d (x.I 8) u15) (O.x u8 (O.x u1 (O.x u2 (O.x (O.aj (x.B 12) O.e) (O.x (O.d (x.I 13) u15) u0))))))),.bool O.j]]);let u11:=(O.l u12);(O.c (O.w (fun s6 c6=>let u16:=(O.h c6 0);let u9:=(O.f (O.rB u12 u16 1));(O.b (O.m u16 u11) (O.n (O.r u16 u11) (O.c (O.b u9 (O.g 145 [] [.int (x.I 0),.int (O.q u12 u16 0)]) (O.a [.bool O.e])) fun c7=>(O.b (O.i u9 (O.f (O.k c7 0)) O.e) (O.a [.int u13,.int u14]) (s6 [.int (O.p .i64 u16 u14)])))) (O.a [.int u14]))) [.int u13]) fun c6=>(O.b (O.aa c6 0) (O.a [.int (O.h c6 1)]) (O.c (O.w (fun s7 c7=>let u17:=(O.h c7 0);let u10:=(O.f (O.rB u12 u17 2));(O.b (O.m u17 u11) (O.n (O.r u17 u11) (O.c (O.b u10 (O.g 145 [] [.int (x.I 0),.int (O.q u12 u17 0)]) (O.a [.bool O.e])) fun c8=>(O.b (O.i u10 (O.k c8 0) O.e) (O.a [.int u13,.int (lq9 O 2)]) (s7 [.int (O.p .i64 u17 u14)])))) (O.a [.int u14]))) [.int u13]) fun c7=>(O.b (O.aa c7 0) (O.a [.int (O.h c7 1)]) (O.b (O.d (x.I 0) (O.lit .u8 4)) (O.c (O.g 146 [] (xr x [0,0,0,0,0,1,0,0,0,0,1,0] 7)) fun c8=>(O.a [.int (O.h c8 0)])) (O.a [.int u13])))))))))))))
def Ea:Nat→Env:=eL [(143,Ho),(144,GZ),(145,LM),(146,Fo)]
theorem JC {N ls}:Ea N 143 [] ls=Ho N ls:=id rfl
theorem IR {N ls}:Ea N 144 [] ls=GZ N ls:=id rfl
theorem Kg {N ls}:Ea N 145 [] ls=LM N ls:=id rfl
theorem D5 {N ls}:Ea N 146 [] ls=Fo N ls:=id rfl
def Dn:=oS dZ JT Ea
def Ae (N:Nat) (ls:List PV):Option (List PV):=S0 1 ls
def Aq (N:Nat) (ls:List PV):Option (List PV):=S0 8 ls
def Aj (N:Nat) (ls:List PV):Option (List PV):=S0 1 ls
def W2:List Nat:=[0,0,0,0,0,0,0,0,0,0,0,0,0,0,3,0,3,3,1,3,1,0,0,0,3,0,0,0]
def KO (O:Alg) (x:Ags O):O.M:=(O.c (O.g 171 [] [.rows (x.L 14)]) fun c0=>(O.c (O.g 172 [] [.rows (x.L 16)]) fun c1=>(O.c (O.g 172 [] [.rows (x.L 17)]) fun c2=>(O.c (O.g 172 [] [.rows (x.L 19)]) fun c3=>(O.c (O.g 173 [] [.rows (x.L 24)]) fun c4=>(O.a (ap O (xr x [0,0,0,0,0,0,0,0,0,0,0,0,0,0] 0) (ap O [.rows (O.o c0 0),.int (x.I 15),.rows (O.o c1 0),.rows (O.o c2 0),.bool (x.B 18),.rows (O.o c3 0)] (ap O (xr x [1,0,0,0] 20) (ap O [.rows (O.o c4 0)] (xr x [0,0,0] 25)))))))))))
def E4:Nat→Env:=eL [(171,Ae),(172,Aq),(173,Aj)]
theorem MB {N ls}:E4 N 171 [] ls=Ae N ls:=id rfl
theorem Nr {N ls}:E4 N 172 [] ls=Aq N ls:=id rfl
theorem Mn {N ls}:E4 N 173 [] ls=Aj N ls:=id rfl
def AX:=oS W2 KO E4
def eY:List Nat:=[2,0,0,0,0,0,0,0,1,0,0,0,0,3,0,0,1,3,0,0,0,0,0]
def M9 (O:Alg) (x:Ags O):O.M:=(O.c (O.g 95 [] (xr x kR 0)) fun c0=>(O.c (O.w (fun s1 c1=>let u1:=(O.h c1 1);(O.b (O.m u1 (O.l (x.L 17))) (O.n (O.r u1 (O.l (x.L 17))) (O.c (O.g 147 [] (rr O (x.L 17) u1 kI 0)) fun c2=>let u0:=(O.ac (O.o c1 0) (O.ab [(cr O c2 kI 0)]));(O.n (O.z (O.l u0) 304) (s1 [.rows u0,.int (O.p .i64 u1 (lq9 O 1))])))) (O.a [.rows (O.o c1 0)]))) [.rows O.u,.int (lq9 O 0)]) fun c1=>(O.a (ap O (cr O c0 kR 0) (ap O (xr x [0,0,1] 14) (ap O [.rows (O.o c1 0)] (xr x [0,0,0,0,0] 18)))))))
def J7:Nat→Env:=eL [(95,Dl),(147,AX)]
theorem Ua {N ls}:J7 N 95 [] ls=Dl N ls:=id rfl
theorem IZ {N ls}:J7 N 147 [] ls=AX N ls:=id rfl
def JL:=oS eY M9 J7
def eS:List Nat:=[2,0,0,0,0,0,0,0,1,0,0,0,0,3,0,0,1,3,0,0,0,0,0,0]
def NO (O:Alg) (x:Ags O):O.M:=(O.c (O.w (fun s0 c0=>let u2:=(O.h c0 0);let u1:=(O.h c0 1);let u0:=(O.p .i64 u1 (lq9 O 1));(O.b (O.m u1 (O.l (x.L 17))) (O.n (O.r u1 (O.l (x.L 17))) (O.b (O.d (O.q (x.L 17) u1 0) (x.I 23)) (s0 [.int (O.p .i64 u2 (O.q (x.L 17) u1 3)),.int u0]) (s0 [.int u2,.int u0]))) (O.a [.int u2]))) [.int (lq9 O 0),.int (lq9 O 0)]) fun c0=>(O.a [.int (O.h c0 0)]))
def Xi:Nat→Env:=eL []
def CD:=oS eS NO Xi
def Sy:List Nat:=[2,0,0,0,0,0,0,0,1,0,0,0,0,3]
def GU (O:Alg) (x:Ags O):O.M:=(O.b (O.d (x.I 3) (lq9 O 0)) (O.a [.int (O.lit .u8 5)]) (O.a [.int (O.lit .u8 6)]))
def O5:Nat→Env:=eL []
def B1:=oS Sy GU O5
def XI:List Nat:=[2,0,0,0,0,0,0,0,1,0,0,0,0,3,0,0,1,3,0,0,0,0,0]
def KQ (O:Alg) (x:Ags O):O.M:=let u10:=(lq9 O 1);let u9:=(lq9 O 0);let u8:=(O.l (x.L 17));let u11:=(O.lit .u8 0);let u7:=(O.d u8 (lq9 O 3));let u6:=(O.s .i64 u8 u10);let u5:=(O.d u8 (O.af .i64 (lq9 O 2) (x.I 2)));let u4:=(O.q (x.L 17) u6 1);let u3:=(O.q (x.L 17) u6 3);let u2:=(O.q (x.L 17) u6 0);let u1:=(O.q (x.L 17) u6 27);let u0:=(O.s .i64 u4 u10);(O.c (O.g 117 [] (xr x kM 0)) fun c0=>(O.b (O.i (O.f (O.k c0 0)) O.j (O.d u8 u9)) (O.a [.int u11,.int u9,.int u9]) (O.n (O.r u6 u8) (O.c (O.g 148 [] [.int u2]) fun c1=>let u12:=(O.h c1 0);(O.b (O.d u1 (O.lit .u8 5)) (O.c (O.g 177 [] (xr x kR 0)) fun c2=>(O.a [.int (O.h c2 0),.int u9,.int u9])) (O.b (O.d u1 u11) (O.a [.int u11,.int u9,.int u9]) (O.b (O.i u5 (O.t u4 u3) O.e) (O.a [.int (O.lit .u8 2),.int u2,.int (O.s .i64 (O.s .i64 (x.I 1) u10) (O.q (x.L 17) u6 4))]) (O.b (O.i u5 (O.d u3 u0) O.e) (O.a [.int (O.lit .u8 4),.int u9,.int u9]) (O.b u5 (O.a [.int (O.lit .u8 1),.int u12,.int (O.s .i64 u0 u3)]) (O.c (O.b u7 (O.g 152 [] (ap O (xr x kM 0) [.int u2])) (O.a [.int u9])) fun c2=>(O.c (O.b u7 (O.g 152 [] (ap O (xr x kM 0) [.int u12])) (O.a [.int u9])) fun c3=>(O.b (O.i u7 (O.m (O.h c2 0) (O.h c3 0)) O.e) (O.c (O.g 152 [] (ap O (xr x kM 0) [.int u12])) fun c4=>(O.c (O.g 152 [] (ap O (xr x kM 0) [.int u2])) fun c5=>(O.a [.int (O.lit .u8 3),.int u12,.int (O.s .i64 (O.h c4 0) (O.h c5 0))]))) (O.a [.int u11,.int u9,.int u9])))))))))))))
def Di:Nat→Env:=eL [(117,Dk),(148,BV),(152,CD),(177,B1)]
theorem SY {N ls}:Di N 117 [] ls=Dk N ls:=id rfl
theorem S1 {N ls}:Di N 148 [] ls=BV N ls:=id rfl
theorem Si {N ls}:Di N 152 [] ls=CD N ls:=id rfl
theorem Ny {N ls}:Di N 177 [] ls=B1 N ls:=id rfl
def Gi:=oS XI KQ Di
def W6:List Nat:=[2,0,0,0,0,0,0,0,1,0,0,0,0,3,0,0,0]
def J5 (O:Alg) (x:Ags O):O.M:=let u4:=(lq9 O 0);let u3:=(O.z (x.I 1) 1);let u2:=(lq9 O 1000000);(O.c (O.g 70 [] (xr x kR 0)) fun c0=>(O.b (O.f (O.d (O.h c0 0) u4)) (O.a [.int u4,.int u4,.int u4,.int u4,.int u4,.int u4,.int u4,.int u4,.int u4,.int u4,.int u4,.int u4,.int u4,.int u4,.rows O.u,.int u4,.rows O.u,.rows O.u,.bool O.e,.rows O.u,.bool O.e,.int u4,.int u4,.int u4,.rows O.u,.int u4,.int u4,.int (O.lit .u8 0),.int (O.h c0 0)]) (O.c (O.g 164 [] [.int (x.I 14),.int (lq9 O 1),.int (lq9 O 2)]) fun c1=>let u1:=(O.f (O.k c1 0));(O.c (O.b (O.f u1) (O.g 164 [] [.int (x.I 15),.int u4,.int u2]) (O.a [.bool O.e])) fun c2=>let u0:=(O.i u1 O.j (O.f (O.k c2 0)));(O.c (O.b (O.f u0) (O.g 164 [] [.int (x.I 16),.int u4,.int u2]) (O.a [.bool O.e])) fun c3=>(O.b (O.i u0 O.j (O.f (O.k c3 0))) (O.a [.int u4,.int u4,.int u4,.int u4,.int u4,.int u4,.int u4,.int u4,.int u4,.int u4,.int u4,.int u4,.int u4,.int u4,.rows O.u,.int u4,.rows O.u,.rows O.u,.bool O.e,.rows O.u,.bool O.e,.int u4,.int u4,.int u4,.rows O.u,.int u4,.int u4,.int (O.lit .u8 0),.int (lq9 O 2)]) (O.n u3 (O.n (O.z (x.I 1) 8) (O.n u3 (O.a [.int (x.I 14),.int (x.I 15),.int (x.I 3),.int (x.I 16),.int u4,.int u4,.int u4,.int u4,.int u4,.int (x.I 16),.int u4,.int u4,.int u4,.int u4,.rows (O.an (x.I 1) [.int (O.lit .u8 0)]),.int u4,.rows O.u,.rows O.u,.bool O.e,.rows (O.an (x.I 1) [.int u4]),.bool O.e,.int u4,.int u4,.int u4,.rows (O.an (x.I 1) [.bool O.e]),.int u4,.int u4,.int (O.lit .u8 0),.int u4]))))))))))
def HZ:Nat→Env:=eL [(70,Ab),(164,Ax)]
theorem TG {N ls}:HZ N 70 [] ls=Ab N ls:=id rfl
theorem Ot {N ls}:HZ N 164 [] ls=Ax N ls:=id rfl
def Ga:=oS W6 J5 HZ
def aG:List Nat:=[2,0,0,0,0,0,0,0,1,0,0,0,0,3,0,0,1,3,0,0,0,0,0,0]
def Lo (O:Alg) (x:Ags O):O.M:=(O.b (O.m (O.p .i64 (O.l (x.L 17)) (lq9 O 1)) (O.af .i64 (lq9 O 2) (x.I 2))) (O.a [.int (lq9 O 0)]) (O.c (O.g 148 [] [.int (x.I 23)]) fun c0=>(O.c (O.g 152 [] (ap O (xr x kM 0) [.int (O.h c0 0)])) fun c1=>(O.c (O.g 152 [] (xr x [2,0,0,0,0,0,0,0,1,0,0,0,0,3,0,0,1,3,0,0,0,0,0,0] 0)) fun c2=>(O.a [.int (O.p .i64 (O.s .i64 (O.h c1 0) (O.h c2 0)) (lq9 O 1))])))))
def Ik:Nat→Env:=eL [(148,BV),(152,CD)]
theorem TQ {N ls}:Ik N 148 [] ls=BV N ls:=id rfl
theorem Tk {N ls}:Ik N 152 [] ls=CD N ls:=id rfl
def Hy:=oS aG Lo Ik
def Tx:List Nat:=[0]
def MM (O:Alg) (x:Ags O):O.M:=(O.a [.bool (O.f (O.d (x.I 0) (O.lit .u8 0)))])
def Qq:Nat→Env:=eL []
def E0:=oS Tx MM Qq
def Xh:List Nat:=[0,0,0,0,0,0,0,0,0,0,0,0,0,0,3,0,3,3,1,3,1,0,0,0,3,0,0,0]
def J8 (O:Alg) (x:Ags O):O.M:=let u0:=(lq9 O 0);(O.c (O.c (O.w (fun s0 c0=>let u1:=(O.h c0 0);(O.b (O.m u1 (O.l (x.L 14))) (O.n (O.r u1 (O.l (x.L 14))) (O.c (O.g 209 [] [.int (O.q (x.L 14) u1 0)]) fun c1=>(O.b (O.k c1 0) (O.a [.int u0,.int u1]) (s0 [.int (O.p .i64 u1 (lq9 O 1))])))) (O.a [.int (lq9 O 1)]))) [.int u0]) fun c0=>(O.b (O.aa c0 0) (O.a [.int (O.h c0 1)]) (O.a [.int (lq9 O (-1))]))) fun c0=>(O.a [.bool (O.t u0 (O.h c0 0))]))
def MG:Nat→Env:=eL [(209,E0)]
theorem F7 {N ls}:MG N 209 [] ls=E0 N ls:=id rfl
def GW:=oS Xh J8 MG
def iY:List Nat:=[0,0,0,0,0,0,0,0,0,0,0,0,0,0,3,0,3,3,1,3,1,0,0,0,3,0,0,0]
def QQ (O:Alg) (x:Ags O):O.M:=(O.c (O.g 171 [] [.rows (x.L 14)]) fun c0=>(O.c (O.g 172 [] [.rows (x.L 16)]) fun c1=>(O.c (O.g 172 [] [.rows (x.L 17)]) fun c2=>(O.c (O.g 172 [] [.rows (x.L 19)]) fun c3=>(O.c (O.g 173 [] [.rows (x.L 24)]) fun c4=>(O.a (ap O (xr x [0,0,0,0,0,0,0,0,0,0,0,0,0,0] 0) (ap O [.rows (O.o c0 0),.int (x.I 15),.rows (O.o c1 0),.rows (O.o c2 0),.bool (x.B 18),.rows (O.o c3 0)] (ap O (xr x [1,0,0,0] 20) (ap O [.rows (O.o c4 0)] (xr x [0,0,0] 25)))))))))))
def Hj:Nat→Env:=eL [(171,Ae),(172,Aq),(173,Aj)]
theorem N3 {N ls}:Hj N 171 [] ls=Ae N ls:=id rfl
theorem Qf {N ls}:Hj N 172 [] ls=Aq N ls:=id rfl
theorem Pf {N ls}:Hj N 173 [] ls=Aj N ls:=id rfl
def A8:=oS iY QQ Hj
def Vx:List Nat:=[0]
def N2 (O:Alg) (x:Ags O):O.M:=(O.a [.bool (O.f (O.d (x.I 0) (O.lit .u8 0)))])
def SX:Nat→Env:=eL []
def DM:=oS Vx N2 SX
def ZH:List Nat:=[0,0,0,0,0,0,0,0,0,0,0,0,0,0,3,0,3,3,1,3,1,0,0,0,3,0,0,0]
def FU (O:Alg) (x:Ags O):O.M:=let u0:=(lq9 O 0);(O.c (O.c (O.w (fun s0 c0=>let u1:=(O.h c0 0);(O.b (O.m u1 (O.l (x.L 14))) (O.n (O.r u1 (O.l (x.L 14))) (O.c (O.g 262 [] [.int (O.q (x.L 14) u1 0)]) fun c1=>(O.b (O.k c1 0) (O.a [.int u0,.int u1]) (s0 [.int (O.p .i64 u1 (lq9 O 1))])))) (O.a [.int (lq9 O 1)]))) [.int u0]) fun c0=>(O.b (O.aa c0 0) (O.a [.int (O.h c0 1)]) (O.a [.int (lq9 O (-1))]))) fun c0=>(O.a [.bool (O.t u0 (O.h c0 0))]))
def FZ:Nat→Env:=eL [(262,DM)]
theorem HJ {N ls}:FZ N 262 [] ls=DM N ls:=id rfl
def CH:=oS ZH FU FZ
def ZC:List Nat:=[0,0,0,0,0,0,0,0,0,0,0,0,0,0,3,0,3,3,1,3,1,0,0,0,3,0,0,0,0]
def MA (O:Alg) (x:Ags O):O.M:=(O.a [.bool (O.i (O.t (lq9 O 1) (x.I 28)) (O.t (x.I 28) (O.l (x.L 14))) O.e)])
def Vt:Nat→Env:=eL []
def BA:=oS ZC MA Vt
def dp:List Nat:=[0,0,0,0,0,0,0,0,0,0,0,0,0,0,3,0,3,3,1,3,1,0,0,0,3,0,0,0,0,0]
def NY (O:Alg) (x:Ags O):O.M:=let u3:=(lq9 O 1);let u1:=(O.s .i64 (x.I 29) u3);let u0:=(O.s .i64 (x.I 28) u3);(O.c (O.g 240 [] (xr x kI 0)) fun c0=>let u4:=(O.o c0 14);(O.c (O.g 241 [] (xr x kI 0)) fun c1=>(O.b (O.k c1 0) (O.a (ap O (cr O c0 kI 0) [.int u3])) (O.c (O.g 242 [] (xr x [0,0,0,0,0,0,0,0,0,0,0,0,0,0,3,0,3,3,1,3,1,0,0,0,3,0,0,0,0] 0)) fun c2=>let u2:=(O.f (O.k c2 0));(O.c (O.b (O.f u2) (O.g 242 [] (ap O (xr x kI 0) [.int (x.I 29)])) (O.a [.bool O.e])) fun c3=>(O.b (O.i u2 O.j (O.f (O.k c3 0))) (O.a (ap O (cr O c0 kI 0) [.int (lq9 O 3)])) (O.b (O.d (x.I 28) (x.I 29)) (O.a (ap O (cr O c0 kI 0) [.int (lq9 O 4)])) (O.n (O.r u0 (O.l u4)) (O.n (O.r u1 (O.l (O.y u4 u0 0 [.int (O.lit .u8 1)]))) (O.a (ap O (cr O c0 [0,0,0,0,0,0,0,0,0,0,0,0] 0) (ap O [.int (x.I 28),.int (x.I 29),.rows (O.y (O.y u4 u0 0 [.int (O.lit .u8 1)]) u1 0 [.int (O.lit .u8 1)])] (ap O (cr O c0 [0,3,3,1,3,1,0,0,0,3,0,0,0] 15) [.int (lq9 O 0)])))))))))))))
def Gd:Nat→Env:=eL [(240,A8),(241,CH),(242,BA)]
theorem VY {N ls}:Gd N 240 [] ls=A8 N ls:=id rfl
theorem TP {N ls}:Gd N 241 [] ls=CH N ls:=id rfl
theorem TL {N ls}:Gd N 242 [] ls=BA N ls:=id rfl
def JG:=oS dp NY Gd
def lN:List Nat:=[0,0,0,0,0,0,0,0,0,0,0,0,0,0,3,0,3,3,1,3,1,0,0,0,3,0,0,0]
def SF (O:Alg) (x:Ags O):O.M:=(O.c (O.g 171 [] [.rows (x.L 14)]) fun c0=>(O.c (O.g 172 [] [.rows (x.L 16)]) fun c1=>(O.c (O.g 172 [] [.rows (x.L 17)]) fun c2=>(O.c (O.g 172 [] [.rows (x.L 19)]) fun c3=>(O.c (O.g 173 [] [.rows (x.L 24)]) fun c4=>(O.a (ap O (xr x [0,0,0,0,0,0,0,0,0,0,0,0,0,0] 0) (ap O [.rows (O.o c0 0),.int (x.I 15),.rows (O.o c1 0),.rows (O.o c2 0),.bool (x.B 18),.rows (O.o c3 0)] (ap O (xr x [1,0,0,0] 20) (ap O [.rows (O.o c4 0)] (xr x [0,0,0] 25)))))))))))
def JE:Nat→Env:=eL [(171,Ae),(172,Aq),(173,Aj)]
theorem Oj {N ls}:JE N 171 [] ls=Ae N ls:=id rfl
theorem Rh {N ls}:JE N 172 [] ls=Aq N ls:=id rfl
theorem Qk {N ls}:JE N 173 [] ls=Aj N ls:=id rfl
def C9:=oS lN SF JE
def dh:List Nat:=[0,0,0,0,0,0,0,0,0,0,0,0,0,0,3,0,3,3,1,3,1,0,0,0,3,0,0,0,0]
def NV (O:Alg) (x:Ags O):O.M:=(O.a [.bool (O.i (O.t (lq9 O 1) (x.I 28)) (O.t (x.I 28) (O.l (x.L 19))) O.e)])
def XC:Nat→Env:=eL []
def CB:=oS dh NV XC
def jH:List Nat:=[2,0,0,0,0,0,0,0,1,0,0,0,0,3,0,0,0,0,0,0,0,0,0,0,0,0,0,0,3,0,3,3,1,3,1,0,0,0,3,0,0,0,0]
def Pz (O:Alg) (x:Ags O):O.M:=let u4:=(lq9 O 0);let u2:=(O.s .i64 (x.I 42) (lq9 O 1));let u1:=(O.q (x.L 33) u2 0);let u0:=(O.s .i64 (O.af .i64 (x.I 5) (x.I 4)) (O.ae (O.m u1 u4) u4 u1));(O.c (O.g 263 [] (xr x [0,0,0,0,0,0,0,0,0,0,0,0,0,0,3,0,3,3,1,3,1,0,0,0,3,0,0,0,0] 14)) fun c0=>let u3:=(O.f (O.k c0 0));(O.c (O.b (O.f u3) (O.g 70 [] (xr x kR 0)) (O.a [.int u4])) fun c1=>(O.b (O.i u3 O.j (O.f (O.d (O.h c1 0) u4))) (O.a [.int u4]) (O.b (O.d (x.I 5) u4) (O.a [.int (lq9 O (-1))]) (O.n (O.r u2 (O.l (x.L 33))) (O.a [.int (O.ae (O.m u0 u4) u4 u0)]))))))
def L9:Nat→Env:=eL [(70,Ab),(263,CB)]
theorem V6 {N ls}:L9 N 70 [] ls=Ab N ls:=id rfl
theorem WU {N ls}:L9 N 263 [] ls=CB N ls:=id rfl
def Kb:=oS jH Pz L9
def lW:List Nat:=[2,0,0,0,0,0,0,0,1,0,0,0,0,3,0,0,0,0,0,0,0,0,0,0,0,0,0,0,3,0,3,3,1,3,1,0,0,0,3,0,0,0,0]
def SQ (O:Alg) (x:Ags O):O.M:=let u3:=(lq9 O 0);let u1:=(O.t (x.I 42) (O.l (x.L 38)));let u0:=(O.s .i64 (x.I 42) (lq9 O 1));(O.c (O.g 263 [] (xr x [0,0,0,0,0,0,0,0,0,0,0,0,0,0,3,0,3,3,1,3,1,0,0,0,3,0,0,0,0] 14)) fun c0=>let u2:=(O.f (O.k c0 0));(O.c (O.b (O.f u2) (O.g 70 [] (xr x kR 0)) (O.a [.int u3])) fun c1=>(O.b (O.i u2 O.j (O.f (O.d (O.h c1 0) u3))) (O.a [.int (lq9 O 3)]) (O.n (O.f (O.x u1 (O.f (O.r u0 (O.l (x.L 38)))))) (O.c (O.g 264 [] (xr x [2,0,0,0,0,0,0,0,1,0,0,0,0,3,0,0,0,0,0,0,0,0,0,0,0,0,0,0,3,0,3,3,1,3,1,0,0,0,3,0,0,0,0] 0)) fun c2=>(O.b (O.i (O.i (O.d (x.I 42) (x.I 36)) O.j (O.d (x.I 42) (x.I 29))) O.j (O.i u1 (O.rB (x.L 38) u0 0) O.e)) (O.a [.int (lq9 O 7)]) (O.c (O.g 185 [] [.rows (x.L 31),.int (x.I 42)]) fun c3=>(O.b (O.k c3 0) (O.a [.int (lq9 O 8)]) (O.b (O.i (O.f (O.d (O.h c2 0) (lq9 O (-1)))) (O.m (x.I 25) (O.s .i64 (x.I 4) (O.h c2 0))) O.e) (O.a [.int (lq9 O 9)]) (O.a [.int u3]))))))))))
def GM:Nat→Env:=eL [(70,Ab),(185,A0),(263,CB),(264,Kb)]
theorem Wc {N ls}:GM N 70 [] ls=Ab N ls:=id rfl
theorem Om {N ls}:GM N 185 [] ls=A0 N ls:=id rfl
theorem We {N ls}:GM N 263 [] ls=CB N ls:=id rfl
theorem Yc {N ls}:GM N 264 [] ls=Kb N ls:=id rfl
def Mk:=oS lW SQ GM
def gW:List Nat:=[2,0,0,0,0,0,0,0,1,0,0,0,0,3,0,0,0,0,0,0,0,0,0,0,0,0,0,0,3,0,3,3,1,3,1,0,0,0,3,0,0,0,0]
def Ps (O:Alg) (x:Ags O):O.M:=(O.c (O.g 243 [] (xr x kI 14)) fun c0=>(O.c (O.g 244 [] (xr x [2,0,0,0,0,0,0,0,1,0,0,0,0,3,0,0,0,0,0,0,0,0,0,0,0,0,0,0,3,0,3,3,1,3,1,0,0,0,3,0,0,0,0] 0)) fun c1=>let u0:=(O.h c1 0);(O.b (O.d u0 (lq9 O 0)) (O.a (ap O (cr O c0 [0,0,0,0,0,0,0,0,0,0,0,0,0,0,3] 0) (ap O [.int (x.I 42)] (ap O (cr O c0 [3,3,1,3,1,0,0,0,3,0,0,0] 16) [.int u0])))) (O.a (ap O (cr O c0 kI 0) [.int u0])))))
def Li:Nat→Env:=eL [(243,C9),(244,Mk)]
theorem Ym {N ls}:Li N 243 [] ls=C9 N ls:=id rfl
theorem Yh {N ls}:Li N 244 [] ls=Mk N ls:=id rfl
def Ko:=oS gW Ps Li
def Qu:List Nat:=[0,0,0,0,0,1,0,0,0,0,1,0]
def Fy (O:Alg) (x:Ags O):O.M:=let u3:=(lq9 O 0);let u2:=(O.d (x.I 4) u3);let u1:=(O.d (x.I 2) u3);let u0:=(O.f (O.d (x.I 4) (lq9 O 6)));(O.b (O.d (x.I 0) (O.lit .u8 2)) (O.a [.bool (O.i (O.d (x.I 1) (O.lit .u8 0)) u0 O.e)]) (O.b (O.d (x.I 1) (O.lit .u8 0)) (O.a [.bool (O.i u1 u2 O.e)]) (O.b (O.d (x.I 1) (O.lit .u8 1)) (O.a [.bool (O.i u0 O.j u1)]) (O.a [.bool (O.i u0 (O.i (O.m u3 (x.I 2)) O.j (O.f u2)) O.e)]))))
def Oa:Nat→Env:=eL []
def Dx:=oS Qu Fy Oa
def WH:List Nat:=[0,0,0,0,0,1,0,0,0,0,1,0]
def Ib (O:Alg) (x:Ags O):O.M:=let u3:=(lq9 O 0);let u2:=(lq9 O 11);let u1:=(O.d (x.I 4) u3);let u0:=(O.f u1);(O.b (O.i (O.i (O.i (O.i (O.i (O.m (x.I 0) (O.lit .u8 1)) O.j (O.m (O.lit .u8 3) (x.I 0))) O.j (O.m (O.lit .u8 3) (x.I 1))) O.j (O.m (O.lit .u8 10) (x.I 6))) O.j (O.m (x.I 11) u3)) O.j (O.m (lq9 O 8) (x.I 11))) (O.a [.int u2]) (O.b (O.i (O.i (O.i (O.i (O.m (x.I 2) u3) O.j (O.m (lq9 O 7) (x.I 2))) O.j (O.m (x.I 3) u3)) O.j (O.m (x.I 2) (x.I 3))) O.j (O.i (O.i u0 (O.f (O.d (x.I 4) (lq9 O 4))) O.e) (O.f (O.d (x.I 4) (lq9 O 6))) O.e)) (O.a [.int (lq9 O 12)]) (O.c (O.g 110 [] (xr x [0,0,0,0,0,1,0,0,0,0,1,0] 0)) fun c0=>(O.b (O.i (O.f (O.k c0 0)) O.j (O.i (O.i (O.i (O.f (O.d (x.I 0) (O.lit .u8 2))) (O.d (x.I 1) (O.lit .u8 1)) O.e) (O.d (x.I 2) u3) O.e) u1 O.e)) (O.a [.int u2]) (O.b (O.i (O.i (O.f (O.d (x.I 11) u3)) (O.f (O.d (x.I 1) (O.lit .u8 1))) O.e) (O.f (O.d (x.I 6) (O.lit .u8 2))) O.e) (O.a [.int u2]) (O.b (O.i u0 (O.f (O.d (x.I 6) (O.lit .u8 0))) O.e) (O.a [.int u2]) (O.b (O.i (O.i (x.B 5) (O.f (O.d (x.I 6) (O.lit .u8 6))) O.e) (O.f (O.d (x.I 6) (O.lit .u8 8))) O.e) (O.a [.int u2]) (O.a [.int u3]))))))))
def KU:Nat→Env:=eL [(110,Dx)]
theorem MK {N ls}:KU N 110 [] ls=Dx N ls:=id rfl
def Cp:=oS WH Ib KU
def Qm:List Nat:=[0]
def F1 (O:Alg) (x:Ags O):O.M:=(O.a [.bool (O.i (O.t (O.lit .u8 1) (x.I 0)) (O.t (x.I 0) (O.lit .u8 5)) O.e)])
def OM:Nat→Env:=eL []
def Dz:=oS Qm F1 OM
def UC:List Nat:=[2,0,0,0,0,0,0,0,1,0,0,0,0,3,0,0,0,0,0,1,0,0,0,0,1,0]
def HY (O:Alg) (x:Ags O):O.M:=let u2:=(lq9 O 0);let u1:=(O.p .i64 (O.s .i64 (x.I 16) (x.I 17)) (x.I 18));(O.c (O.g 86 [] (xr x [0,0,0,0,0,1,0,0,0,0,1,0] 14)) fun c0=>(O.b (O.f (O.d (O.h c0 0) u2)) (O.a [.int u2,.int u2,.int u2,.int u2,.int u2,.int u2,.bool O.e,.bool O.e,.bool O.e,.bool O.e]) (O.c (O.g 87 [] [.int (x.I 20)]) fun c1=>let u3:=(O.k c1 0);(O.c (O.b (x.B 19) (O.a [.int (O.p .i64 (x.I 16) (lq9 O 1))]) (O.a [.int (x.I 16)])) fun c2=>let u0:=(O.d (O.al .i64 (O.h c2 0) (lq9 O 2)) (lq9 O 1));(O.c (O.b (O.d (x.I 14) (O.lit .u8 2)) (O.a [.int u2,.int (O.p .i64 (x.I 6) u1),.int u2,.int u2,.int u2,.int u2,.bool (O.d (x.I 14) (O.lit .u8 1)),.bool (O.f (O.d (x.I 14) (O.lit .u8 2))),.bool u3,.bool u0]) (O.b (O.d (x.I 14) (O.lit .u8 3)) (O.a [.int u2,.int u2,.int (x.I 7),.int u2,.int u2,.int u2,.bool (O.d (x.I 14) (O.lit .u8 1)),.bool (O.f (O.d (x.I 14) (O.lit .u8 2))),.bool u3,.bool u0]) (O.a [.int u2,.int u2,.int u2,.int u2,.int u2,.int u2,.bool (O.d (x.I 14) (O.lit .u8 1)),.bool (O.f (O.d (x.I 14) (O.lit .u8 2))),.bool u3,.bool u0]))) fun c3=>(O.c (O.b (O.f (O.d (x.I 14) (O.lit .u8 2))) (O.b (O.d (x.I 15) (O.lit .u8 1)) (O.a (ap O [.int u1] (cr O c3 [0,0,0,0,0,1,1,1,1] 1))) (O.b (O.d (x.I 15) (O.lit .u8 2)) (O.a (ap O (cr O c3 [0,0,0] 0) (ap O [.int u1] (cr O c3 [0,0,1,1,1,1] 4)))) (O.b (O.d (x.I 15) (O.lit .u8 3)) (O.a (ap O (cr O c3 [0,0,0,0] 0) (ap O [.int u1] (cr O c3 [0,1,1,1,1] 5)))) (O.a (cr O c3 [0,0,0,0,0,0,1,1,1,1] 0))))) (O.a (cr O c3 [0,0,0,0,0,0,1,1,1,1] 0))) fun c4=>(O.a (ap O (cr O c4 [0,0,0,0,0] 0) (ap O [.int (O.p .i64 (O.p .i64 (O.h c4 0) (O.h c4 1)) (O.h c4 2))] (cr O c4 [1,1,1,1] 6))))))))))
def F0:Nat→Env:=eL [(86,Cp),(87,Dz)]
theorem N5 {N ls}:F0 N 86 [] ls=Cp N ls:=id rfl
theorem LU {N ls}:F0 N 87 [] ls=Dz N ls:=id rfl
def CR:=oS UC HY F0
def WL:List Nat:=[0,0,0,0,0,0,1,1,1,1]
def U9 (O:Alg) (x:Ags O):O.M:=(O.a [.int (O.p .i64 (O.p .i64 (O.p .i64 (O.p .i64 (x.I 0) (x.I 1)) (x.I 2)) (x.I 3)) (x.I 4))])
def fX:Nat→Env:=eL []
def Fb:=oS WL U9 fX
def Xy:List Nat:=[0,0,0,0,0,0,0,0,0,0,0,0,0,0,3,0,3,3,1,3,1,0,0,0,3,0,0,0]
def Ed (O:Alg) (x:Ags O):O.M:=(O.c (O.g 241 [] (xr x kI 0)) fun c0=>(O.a [.bool (O.i (O.k c0 0) (O.i (O.d (x.I 12) (lq9 O 0)) O.j (O.d (x.I 13) (lq9 O 0))) O.e)]))
def E1:Nat→Env:=eL [(241,CH)]
theorem RP {N ls}:E1 N 241 [] ls=CH N ls:=id rfl
def BW:=oS Xy Ed E1
def dj:List Nat:=[0,0,0,0,0,0,0,0,0,0,0,0,0,0,3,0,3,3,1,3,1,0,0,0,3,0,0,0,0]
def NZ (O:Alg) (x:Ags O):O.M:=(O.a [.bool (O.i (O.t (lq9 O 1) (x.I 28)) (O.t (x.I 28) (O.l (x.L 24))) O.e)])
def XK:Nat→Env:=eL []
def BD:=oS dj NZ XK
def V7:List Nat:=[0,0,0,0,0,0,0,0,0,0,0,0,0,0,3,0,3,3,1,3,1,0,0,0,3,0,0,0,0]
def I6 (O:Alg) (x:Ags O):O.M:=let u0:=(O.s .i64 (x.I 28) (lq9 O 1));(O.c (O.g 252 [] (xr x [0,0,0,0,0,0,0,0,0,0,0,0,0,0,3,0,3,3,1,3,1,0,0,0,3,0,0,0,0] 0)) fun c0=>(O.n (O.f (O.x (O.k c0 0) (O.f (O.r u0 (O.l (x.L 24)))))) (O.a [.bool (O.i (O.k c0 0) (O.rB (x.L 24) u0 0) O.e)])))
def Ke:Nat→Env:=eL [(252,BD)]
theorem RV {N ls}:Ke N 252 [] ls=BD N ls:=id rfl
def BC:=oS V7 I6 Ke
def XE:List Nat:=[2,0,0,0,0,0,0,0,1,0,0,0,0,3,0]
def J0 (O:Alg) (x:Ags O):O.M:=let u1:=(lq9 O 1);let u0:=(O.p .i64 (x.I 14) u1);(O.c (O.w (fun s0 c0=>let u2:=(O.h c0 0);(O.b (O.m u2 (O.l (x.L 13))) (O.n (O.r u2 (O.l (x.L 13))) (O.b (O.i (O.t (O.q (x.L 13) u2 0) u0) (O.t u0 (O.q (x.L 13) u2 1)) O.e) (O.a [.int (lq9 O 0),.int (O.q (x.L 13) u2 2)]) (s0 [.int (O.p .i64 u2 u1)]))) (O.a [.int u1]))) [.int (lq9 O 0)]) fun c0=>(O.b (O.aa c0 0) (O.a [.int (O.h c0 1)]) (O.a [.int (x.I 12)])))
def Tr:Nat→Env:=eL []
def Gp:=oS XE J0 Tr
def eT:List Nat:=[2,0,0,0,0,0,0,0,1,0,0,0,0,3,0,0,0,0,0,0,0,0,0,0,0,0,0,0,3,0,3,3,1,3,1,0,0,0,3,0,0,0]
def NS (O:Alg) (x:Ags O):O.M:=(O.c (O.g 252 [] (ap O (xr x kI 14) [.int (x.I 36)])) fun c0=>let u0:=(O.f (O.k c0 0));(O.c (O.b (O.f u0) (O.g 253 [] (ap O (xr x kI 14) [.int (x.I 36)])) (O.a [.bool O.e])) fun c1=>(O.b (O.i (O.i u0 O.j (O.k c1 0)) O.j (O.d (x.I 36) (x.I 29))) (O.a [.int (lq9 O 17)]) (O.c (O.g 268 [] (ap O (xr x kR 0) [.int (x.I 24)])) fun c2=>(O.b (O.m (O.h c2 0) (x.I 37)) (O.a [.int (lq9 O 16)]) (O.a [.int (lq9 O 0)]))))))
def GV:Nat→Env:=eL [(252,BD),(253,BC),(268,Gp)]
theorem Ui {N ls}:GV N 252 [] ls=BD N ls:=id rfl
theorem RW {N ls}:GV N 253 [] ls=BC N ls:=id rfl
theorem Sv {N ls}:GV N 268 [] ls=Gp N ls:=id rfl
def JX:=oS eT NS GV
def UB:List Nat:=[]
def T7 (O:Alg) (x:Ags O):O.M:=(O.a [.rows (O.ab [[.int (O.lit .u8 0),.str (O.v ⟨#[78,79,84,79,85,84]⟩),.bool O.e,.bool O.e,.bool O.e,.bool O.e,.bool O.e],[.int (O.lit .u8 1),.str (O.v ⟨#[66,79,87,76,69,68]⟩),.bool O.j,.bool O.e,.bool O.e,.bool O.e,.bool O.e],[.int (O.lit .u8 2),.str (O.v ⟨#[67,65,85,71,72,84]⟩),.bool O.j,.bool O.e,.bool O.e,.bool O.j,.bool O.e],[.int (O.lit .u8 3),.str (O.v ⟨#[76,66,87]⟩),.bool O.j,.bool O.e,.bool O.e,.bool O.e,.bool O.e],[.int (O.lit .u8 4),.str (O.v ⟨#[83,84,85,77,80,69,68]⟩),.bool O.j,.bool O.j,.bool O.e,.bool O.j,.bool O.e],[.int (O.lit .u8 5),.str (O.v ⟨#[72,73,84,87,73,67,75,69,84]⟩),.bool O.j,.bool O.j,.bool O.e,.bool O.e,.bool O.e],[.int (O.lit .u8 6),.str (O.v ⟨#[82,85,78,79,85,84]⟩),.bool O.j,.bool O.j,.bool O.j,.bool O.j,.bool O.j],[.int (O.lit .u8 7),.str (O.v ⟨#[72,73,84,84,87,73,67,69]⟩),.bool O.j,.bool O.e,.bool O.j,.bool O.e,.bool O.e],[.int (O.lit .u8 8),.str (O.v ⟨#[79,66,83,84,82,85,67,84,73,78,71]⟩),.bool O.j,.bool O.j,.bool O.j,.bool O.e,.bool O.j],[.int (O.lit .u8 9),.str (O.v ⟨#[84,73,77,69,68,79,85,84]⟩),.bool O.e,.bool O.e,.bool O.e,.bool O.e,.bool O.e],[.int (O.lit .u8 10),.str (O.v ⟨#[82,69,84,73,82,69,68]⟩),.bool O.e,.bool O.e,.bool O.e,.bool O.e,.bool O.e]])])
def fE:Nat→Env:=eL []
def Bt:=oS UB T7 fE
def Z9:List Nat:=[0]
def LZ (O:Alg) (x:Ags O):O.M:=(O.c (O.g 273 [] []) fun c0=>let u2:=(O.o c0 0);let u0:=(O.l u2);(O.c (O.w (fun s1 c1=>let u1:=(O.h c1 0);(O.b (O.m u1 u0) (O.n (O.r u1 u0) (O.b (O.d (O.q u2 u1 0) (x.I 0)) (O.a (ap O [.int (lq9 O 0)] (rr O u2 u1 [0,2,1,1,1,1,1] 0))) (s1 [.int (O.p .i64 u1 (lq9 O 1))]))) (O.a [.int (lq9 O 1)]))) [.int (lq9 O 0)]) fun c1=>(O.b (O.aa c1 0) (O.a (cr O c1 [0,2,1,1,1,1,1] 1)) (O.a [.int (O.lit .u8 0),.str (O.v ⟨#[]⟩),.bool O.e,.bool O.e,.bool O.e,.bool O.e,.bool O.e]))))
def N0:Nat→Env:=eL [(273,Bt)]
theorem PF {N ls}:N0 N 273 [] ls=Bt N ls:=id rfl
def IG:=oS Z9 LZ N0
def SW:List Nat:=[3,0]
def GY (O:Alg) (x:Ags O):O.M:=(O.c (O.w (fun s0 c0=>let u0:=(O.h c0 0);(O.b (O.m u0 (O.l (x.L 0))) (O.n (O.r u0 (O.l (x.L 0))) (O.b (O.d (x.I 1) (O.q (x.L 0) u0 0)) (O.a [.int (lq9 O 0),.int u0]) (s0 [.int (O.p .i64 u0 (lq9 O 1))]))) (O.a [.int (lq9 O 1)]))) [.int (lq9 O 0)]) fun c0=>(O.b (O.aa c0 0) (O.a [.int (O.h c0 1)]) (O.a [.int (lq9 O (-1))])))
def QA:Nat→Env:=eL []
def EH:=oS SW GY QA
def OT:List Nat:=[3,0]
def EZ (O:Alg) (x:Ags O):O.M:=(O.c (O.g 274 [] [.rows (x.L 0),.int (x.I 1)]) fun c0=>(O.a [.bool (O.t (lq9 O 0) (O.h c0 0))]))
def GE:Nat→Env:=eL [(274,EH)]
theorem Jr {N ls}:GE N 274 [] ls=EH N ls:=id rfl
def DR:=oS OT EZ GE
def TC:List Nat:=[0,2,1,1,1,1,1,0]
def Gl (O:Alg) (x:Ags O):O.M:=(O.a [.bool (O.i (O.i (O.i (O.d (x.I 7) (O.lit .u8 1)) (x.B 2) O.e) O.j (O.i (O.d (x.I 7) (O.lit .u8 2)) (x.B 3) O.e)) O.j (O.i (O.d (x.I 7) (O.lit .u8 3)) (x.B 4) O.e))])
def QJ:Nat→Env:=eL []
def EK:=oS TC Gl QJ
def WP:List Nat:=[0,1]
def Ie (O:Alg) (x:Ags O):O.M:=(O.c (O.g 273 [] []) fun c0=>let u5:=(O.o c0 0);let u3:=(O.l u5);(O.c (O.w (fun s1 c1=>let u6:=(O.o c1 0);let u4:=(O.h c1 1);let u2:=(O.q u5 u4 0);let u1:=(O.p .i64 u4 (lq9 O 1));let u0:=(O.ac u6 (O.ab [[.int u2]]));(O.b (O.m u4 u3) (O.n (O.r u4 u3) (O.c (O.g 275 [] (ap O (rr O u5 u4 [0,2,1,1,1,1,1] 0) [.int (x.I 0)])) fun c2=>(O.b (O.i (O.k c2 0) (O.i (O.i (O.i (O.f (x.B 1)) O.j (O.d u2 (O.lit .u8 6))) O.j (O.d u2 (O.lit .u8 7))) O.j (O.d u2 (O.lit .u8 8))) O.e) (O.n (O.z (O.l u0) 1) (s1 [.rows u0,.int u1])) (s1 [.rows u6,.int u1])))) (O.a [.rows u6]))) [.rows O.u,.int (lq9 O 0)]) fun c1=>(O.a [.rows (O.o c1 0)])))
def Gt:Nat→Env:=eL [(273,Bt),(275,EK)]
theorem N6 {N ls}:Gt N 273 [] ls=Bt N ls:=id rfl
theorem Mc {N ls}:Gt N 275 [] ls=EK N ls:=id rfl
def Fn:=oS WP Ie Gt
def MX:List Nat:=[0]
def EE (O:Alg) (x:Ags O):O.M:=(O.a [.bool (O.i (O.t (lq9 O 1) (x.I 0)) (O.t (x.I 0) (lq9 O 11)) O.e)])
def K9:Nat→Env:=eL []
def DF:=oS MX EE K9
def QH:List Nat:=[0,0,0,0,0,1,0,0,0,0,1,0,0,2,1,1,1,1,1]
def FC (O:Alg) (x:Ags O):O.M:=let u0:=(O.d (x.I 9) (lq9 O 0));(O.c (O.g 276 [] [.int (x.I 8)]) fun c0=>(O.b (O.i (O.f (O.aj (x.B 17) (O.k c0 0))) O.j (O.i (O.f (x.B 17)) (O.f (O.d (x.I 8) (lq9 O 0))) O.e)) (O.a [.bool O.e]) (O.c (O.b (O.x (O.f u0) (O.d (x.I 6) (O.lit .u8 6))) (O.g 276 [] [.int (x.I 9)]) (O.a [.bool O.e])) fun c1=>(O.a [.bool (O.i u0 O.j (O.i (O.i (O.d (x.I 6) (O.lit .u8 6)) (O.k c1 0) O.e) (O.f (O.d (x.I 9) (x.I 8))) O.e))]))))
def HE:Nat→Env:=eL [(276,DF)]
theorem IQ {N ls}:HE N 276 [] ls=DF N ls:=id rfl
def DW:=oS QH FC HE
def QV:List Nat:=[0,0,0,0,0,1,0,0,0,0,1,0,1]
def FD (O:Alg) (x:Ags O):O.M:=let u0:=(lq9 O 0);(O.b (O.d (x.I 6) (O.lit .u8 0)) (O.b (O.f (O.d (x.I 7) u0)) (O.a [.int (lq9 O 14)]) (O.b (O.i (O.i (O.f (O.d (x.I 8) u0)) O.j (O.f (O.d (x.I 9) u0))) O.j (x.B 10)) (O.a [.int (lq9 O 15)]) (O.a [.int u0]))) (O.c (O.g 269 [] [.int (x.I 6)]) fun c0=>(O.c (O.g 271 [] [.int (x.I 0),.bool (x.B 12)]) fun c1=>(O.c (O.g 270 [] [.rows (O.o c1 0),.int (x.I 6)]) fun c2=>(O.b (O.f (O.k c2 0)) (O.a [.int (lq9 O 13)]) (O.b (O.i (O.f (O.i (O.d (x.I 6) (O.lit .u8 6)) O.j (O.d (x.I 6) (O.lit .u8 8)))) (O.i (O.f (O.d (x.I 1) (O.lit .u8 0))) O.j (O.f (O.d (x.I 2) u0))) O.e) (O.a [.int (lq9 O 12)]) (O.b (O.i (O.f (O.d (x.I 7) (lq9 O 1))) (O.i (O.f (O.d (x.I 7) (lq9 O 2))) O.j (O.f (O.k c0 6))) O.e) (O.a [.int (lq9 O 14)]) (O.c (O.g 272 [] (ap O (xr x [0,0,0,0,0,1,0,0,0,0,1,0] 0) (cr O c0 [0,2,1,1,1,1,1] 0))) fun c3=>(O.b (O.f (O.k c3 0)) (O.a [.int (lq9 O 15)]) (O.b (O.i (O.i (x.B 10) (O.f (O.d (x.I 6) (O.lit .u8 2))) O.e) (O.f (O.d (x.I 6) (O.lit .u8 6))) O.e) (O.a [.int (lq9 O 18)]) (O.a [.int u0])))))))))))
def CN:Nat→Env:=eL [(269,IG),(270,DR),(271,Fn),(272,DW)]
theorem M0 {N ls}:CN N 269 [] ls=IG N ls:=id rfl
theorem Iz {N ls}:CN N 270 [] ls=DR N ls:=id rfl
theorem Lj {N ls}:CN N 271 [] ls=Fn N ls:=id rfl
theorem Jb {N ls}:CN N 272 [] ls=DW N ls:=id rfl
def DX:=oS QV FD CN
def ed:List Nat:=[0,0,0,0,0,0,0,0,0,0,0,0,0,0,3,0,3,3,1,3,1,0,0,0,3,0,0,0,0,0,0,0,0,1,0,0,0,0,1,0]
def Nn (O:Alg) (x:Ags O):O.M:=let u1:=(lq9 O 1);let u0:=(lq9 O 0);(O.c (O.b (O.m u0 (x.I 36)) (O.c (O.g 252 [] (ap O (xr x kI 0) [.int (x.I 36)])) fun c0=>(O.b (O.f (O.k c0 0)) (O.a [.int u1,.int (lq9 O 3)]) (O.c (O.g 253 [] (ap O (xr x kI 0) [.int (x.I 36)])) fun c1=>(O.b (O.f (O.aj (x.B 38) (O.k c1 0))) (O.a [.int u1,.int (lq9 O 18)]) (O.a [.int u0]))))) (O.a [.int u0])) fun c0=>(O.b (O.aa c0 0) (O.c (O.b (O.m u0 (x.I 37)) (O.c (O.g 252 [] (ap O (xr x kI 0) [.int (x.I 37)])) fun c1=>(O.b (O.f (O.k c1 0)) (O.a [.int u1,.int (lq9 O 3)]) (O.c (O.g 253 [] (ap O (xr x kI 0) [.int (x.I 37)])) fun c2=>(O.b (O.k c2 0) (O.a [.int u1,.int (lq9 O 18)]) (O.a [.int u0]))))) (O.a [.int u0])) fun c1=>(O.b (O.aa c1 0) (O.b (O.i (O.d (x.I 34) (O.lit .u8 4)) (O.f (O.d (O.ae (O.m (x.I 36) u0) u0 (x.I 36)) (x.I 22))) O.e) (O.a [.int (lq9 O 17)]) (O.a [.int u0])) (O.a [.int (O.h c1 1)]))) (O.a [.int (O.h c0 1)])))
def KI:Nat→Env:=eL [(252,BD),(253,BC)]
theorem Uh {N ls}:KI N 252 [] ls=BD N ls:=id rfl
theorem RY {N ls}:KI N 253 [] ls=BC N ls:=id rfl
def JS:=oS ed Nn KI
def UD:List Nat:=[2,0,0,0,0,0,0,0,1,0,0,0,0,3,0,0,0,0,0,0,0,0,0,0,0,0,0,0,3,0,3,3,1,3,1,0,0,0,3,0,0,0,0,0,0,0,0,1,0,0,0,0,1,0]
def HO (O:Alg) (x:Ags O):O.M:=let u3:=(lq9 O 0);(O.c (O.g 224 [] (xr x kI 14)) fun c0=>(O.b (O.k c0 0) (O.a [.int (lq9 O 6)]) (O.b (O.d (x.I 29) u3) (O.a [.int (lq9 O 7)]) (O.c (O.g 265 [] (xr x [2,0,0,0,0,0,0,0,1,0,0,0,0,3,0,0,0,0,0,0,0,0,0,0,0,0,0,0,3,0,3,3,1,3,1,0,0,0,3,0,0,0] 0)) fun c1=>(O.c (O.g 86 [] (xr x [0,0,0,0,0,1,0,0,0,0,1,0] 42)) fun c2=>(O.c (O.g 266 [] (ap O (xr x [0,0,0,0,0,1,0,0,0,0,1,0] 42) [.bool (x.B 34)])) fun c3=>(O.c (O.g 267 [] (xr x [0,0,0,0,0,0,0,0,0,0,0,0,0,0,3,0,3,3,1,3,1,0,0,0,3,0,0,0,0,0,0,0,0,1,0,0,0,0,1,0] 14)) fun c4=>let u2:=(O.ab [[.int (O.h c1 0)],[.int (O.h c2 0)],[.int (O.h c3 0)],[.int (O.h c4 0)]]);let u1:=(O.l u2);(O.c (O.w (fun s5 c5=>let u4:=(O.h c5 0);let u0:=(O.q u2 u4 0);(O.b (O.m u4 u1) (O.n (O.r u4 u1) (O.b (O.f (O.d u0 u3)) (O.a [.int u3,.int u0]) (s5 [.int (O.p .i64 u4 (lq9 O 1))]))) (O.a [.int (lq9 O 1)]))) [.int u3]) fun c5=>(O.b (O.aa c5 0) (O.a [.int (O.h c5 1)]) (O.a [.int u3]))))))))))
def CU:Nat→Env:=eL [(86,Cp),(224,BW),(265,JX),(266,DX),(267,JS)]
theorem Nv {N ls}:CU N 86 [] ls=Cp N ls:=id rfl
theorem Ol {N ls}:CU N 224 [] ls=BW N ls:=id rfl
theorem Qj {N ls}:CU N 265 [] ls=JX N ls:=id rfl
theorem K7 {N ls}:CU N 266 [] ls=DX N ls:=id rfl
theorem Qd {N ls}:CU N 267 [] ls=JS N ls:=id rfl
def E8:=oS UD HO CU
def ij:List Nat:=[0,0,0,0,0,0,0,0,0,0,0,0,0,0,3,0,3,3,1,3,1,0,0,0,3,0,0,0,0,0,0,0,0,1,0,0,0,0,1,0]
def O9 (O:Alg) (x:Ags O):O.M:=let u5:=(lq9 O 2);let u4:=(lq9 O 1);let u3:=(lq9 O 0);let u1:=(O.f (O.d (O.al .i64 (x.I 30) u5) u3));(O.c (O.g 240 [] (xr x kI 0)) fun c0=>(O.c (O.b (O.f (O.d (x.I 34) (O.lit .u8 0))) (O.b (O.i (O.d (x.I 35) u4) (O.f (O.d (x.I 12) u3)) O.e) (O.a [.int u4,.int (x.I 12)]) (O.b (O.i (O.d (x.I 35) u5) (O.f (O.d (x.I 13) u3)) O.e) (O.a [.int u5,.int (x.I 13)]) (O.a [.int u3,.int u3]))) (O.a [.int u3,.int u3])) fun c1=>let u7:=(O.h c1 1);let u2:=(O.s .i64 u7 u4);(O.c (O.b (x.B 33) (O.a [.bool (O.f u1)]) (O.a [.bool u1])) fun c2=>(O.c (O.b (O.k c2 0) (O.a (ap O (cr O c0 [0,0,0,0,0,0,0,0,0,0,0,0] 0) (ap O [.int (O.h c0 13),.int (O.h c0 12)] (cr O c0 [3,0,3,3,1,3,1,0,0,0,3,0,0,0] 14)))) (O.a (cr O c0 kI 0))) fun c3=>let u6:=(O.o c3 14);let u0:=(O.r u2 (O.l u6));(O.b (O.d (O.h c1 0) u3) (O.a (cr O c3 kI 0)) (O.b (O.f (O.aj (O.d (O.h c1 0) u4) (O.k c2 0))) (O.c (O.g 242 [] (ap O (cr O c3 [0,0,0,0,0,0,0,0,0,0,0,0] 0) (ap O [.int u3] (ap O (cr O c3 [0,3,0,3,3,1,3,1,0,0,0,3,0,0,0] 13) [.int u7])))) fun c4=>(O.c (O.b (O.k c4 0) (O.n u0 (O.a (ap O (cr O c3 [0,0,0,0,0,0,0,0,0,0,0,0] 0) (ap O [.int u3,.int (O.h c3 13),.rows (O.y u6 u2 0 [.int (O.lit .u8 2)])] (cr O c3 [0,3,3,1,3,1,0,0,0,3,0,0,0] 15))))) (O.a (ap O (cr O c3 [0,0,0,0,0,0,0,0,0,0,0,0] 0) (ap O [.int u3] (cr O c3 [0,3,0,3,3,1,3,1,0,0,0,3,0,0,0] 13))))) fun c5=>(O.a (ap O (cr O c5 [0,0,0,0] 0) (ap O [.int (O.p .i64 (O.h c5 4) u4)] (cr O c5 [0,0,0,0,0,0,0,0,0,3,0,3,3,1,3,1,0,0,0,3,0,0,0] 5)))))) (O.c (O.g 242 [] (ap O (cr O c3 [0,0,0,0,0,0,0,0,0,0,0,0,0] 0) (ap O [.int u3] (ap O (cr O c3 [3,0,3,3,1,3,1,0,0,0,3,0,0,0] 14) [.int u7])))) fun c4=>(O.c (O.b (O.k c4 0) (O.n u0 (O.a (ap O (cr O c3 [0,0,0,0,0,0,0,0,0,0,0,0,0] 0) (ap O [.int u3,.rows (O.y u6 u2 0 [.int (O.lit .u8 2)])] (cr O c3 [0,3,3,1,3,1,0,0,0,3,0,0,0] 15))))) (O.a (ap O (cr O c3 [0,0,0,0,0,0,0,0,0,0,0,0,0] 0) (ap O [.int u3] (cr O c3 [3,0,3,3,1,3,1,0,0,0,3,0,0,0] 14))))) fun c5=>(O.a (ap O (cr O c5 [0,0,0,0] 0) (ap O [.int (O.p .i64 (O.h c5 4) u4)] (cr O c5 [0,0,0,0,0,0,0,0,0,3,0,3,3,1,3,1,0,0,0,3,0,0,0] 5))))))))))))
def Lm:Nat→Env:=eL [(240,A8),(242,BA)]
theorem Wi {N ls}:Lm N 240 [] ls=A8 N ls:=id rfl
theorem UQ {N ls}:Lm N 242 [] ls=BA N ls:=id rfl
def Kk:=oS ij O9 Lm
def f8:List Nat:=[2,0,0,0,0,0,0,0,1,0,0,0,0,3,0,0,0,0,0,0,0,0,0,0,0,0,0,0,3,0,3,3,1,3,1,0,0,0,3,0,0,0,1]
def QK (O:Alg) (x:Ags O):O.M:=let u5:=(lq9 O 0);let u4:=(lq9 O 1);let u2:=(O.s .i64 (x.I 29) u4);(O.c (O.g 243 [] (xr x kI 14)) fun c0=>let u1:=(O.ac (O.o c0 16) (O.ab [[.int (x.I 29)]]));(O.c (O.g 263 [] (ap O (xr x kI 14) [.int (x.I 29)])) fun c1=>let u3:=(O.f (O.k c1 0));(O.c (O.b (O.f u3) (O.g 70 [] (xr x kR 0)) (O.a [.int u5])) fun c2=>(O.b (O.i u3 O.j (O.f (O.d (O.h c2 0) u5))) (O.a (ap O (cr O c0 kI 0) [.bool O.e])) (O.c (O.g 185 [] [.rows (O.o c0 16),.int (x.I 29)]) fun c3=>(O.c (O.b (O.f (O.k c3 0)) (O.n (O.z (O.l u1) 8) (O.a (ap O (cr O c0 [0,0,0,0,0,0,0,0,0,0,0,0,0,0,3,0] 0) (ap O [.rows u1] (cr O c0 [3,1,3,1,0,0,0,3,0,0,0] 17))))) (O.a (cr O c0 kI 0))) fun c4=>let u6:=(O.o c4 19);let u0:=(O.r u2 (O.l u6));(O.c (O.b (x.B 42) (O.n u0 (O.n u0 (O.a (ap O (cr O c4 [0,0,0,0,0,0,0,0,0,0,0] 0) (ap O [.int (O.p .i64 (O.h c4 11) u4)] (ap O (cr O c4 [0,0,3,0,3,3,1] 12) (ap O [.rows (O.y u6 u2 0 [.int (O.p .i64 (O.q u6 u2 0) u4)]),.bool (O.k c4 20),.int (O.p .i64 (O.h c4 21) u4)] (cr O c4 [0,0,3,0,0,0] 22)))))))) (O.a (cr O c4 kI 0))) fun c5=>(O.b (O.m (O.h c5 11) (x.I 4)) (O.a (ap O (cr O c5 kI 0) [.bool O.e])) (O.a (ap O (cr O c5 [0,0,0,0,0,0,0,0,0,0] 0) (ap O [.int (O.p .i64 (O.h c5 10) u4),.int u5] (ap O (cr O c5 [0,0,3] 12) (ap O [.int u5,.rows O.u,.rows (O.o c5 16)] (ap O (cr O c5 [1,3,1,0,0,0,3,0,0,0] 18) [.bool O.j]))))))))))))))
def FW:Nat→Env:=eL [(70,Ab),(185,A0),(243,C9),(263,CB)]
theorem VL {N ls}:FW N 70 [] ls=Ab N ls:=id rfl
theorem Ns {N ls}:FW N 185 [] ls=A0 N ls:=id rfl
theorem Yy {N ls}:FW N 243 [] ls=C9 N ls:=id rfl
theorem VF {N ls}:FW N 263 [] ls=CB N ls:=id rfl
def KY:=oS f8 QK FW
def Xn:List Nat:=[0,0,0,0,0,0,0,0,0,0,0,0,0,0,3,0,3,3,1,3,1,0,0,0,3,0,0,0]
def J6 (O:Alg) (x:Ags O):O.M:=(O.c (O.g 240 [] (xr x kI 0)) fun c0=>(O.a (ap O (cr O c0 [0,0,0,0,0,0,0,0,0,0,0,0] 0) (ap O [.int (x.I 13),.int (x.I 12)] (cr O c0 [3,0,3,3,1,3,1,0,0,0,3,0,0,0] 14)))))
def MN:Nat→Env:=eL [(240,A8)]
theorem Tg {N ls}:MN N 240 [] ls=A8 N ls:=id rfl
def G2:=oS Xn J6 MN
def Y8:List Nat:=[2,0,0,0,0,0,0,0,1,0,0,0,0,3,0,0,0,0,0,0,0,0,0,0,0,0,0,0,3,0,3,3,1,3,1,0,0,0,3,0,0,0,0,0,0,0,0,1,0,0,0,0,1,0]
def MC (O:Alg) (x:Ags O):O.M:=let u0:=(lq9 O 0);(O.c (O.g 245 [] (xr x [2,0,0,0,0,0,0,0,1,0,0,0,0,3,0,0,0,0,0,0,0,0,0,0,0,0,0,0,3,0,3,3,1,3,1,0,0,0,3,0,0,0,0,0,0,0,0,1,0,0,0,0,1,0] 0)) fun c0=>(O.b (O.f (O.d (O.h c0 0) u0)) (O.c (O.g 147 [] (xr x kI 14)) fun c1=>(O.a (ap O (cr O c1 kI 0) [.int (O.h c0 0)]))) (O.c (O.g 52 [] (ap O (xr x kR 0) (xr x [0,0,0,0,0,1,0,0,0,0,1,0] 42))) fun c1=>(O.c (O.g 246 [] (xr x [0,0,0,0,0,0,0,0,0,0,0,0,0,0,3,0,3,3,1,3,1,0,0,0,3,0,0,0,0,0,0,0,0,1,0,0,0,0,1,0] 14)) fun c2=>(O.c (O.g 53 [] (cr O c1 [0,0,0,0,0,0,1,1,1,1] 0)) fun c3=>(O.c (O.g 247 [] (ap O (xr x kR 0) (ap O (cr O c2 [0,0,0] 0) (ap O [.int (O.p .i64 (O.h c2 3) (O.h c3 0)),.int (O.h c2 4),.int (O.p .i64 (O.h c2 5) (O.h c1 1)),.int (O.p .i64 (O.h c2 6) (O.h c1 2)),.int (O.p .i64 (O.h c2 7) (O.h c1 3)),.int (O.p .i64 (O.h c2 8) (O.h c1 4))] (ap O (cr O c2 [0,0,0,0,0,3,0,3,3,1,3,1,0,0,0,3,0,0,0] 9) [.bool (O.k c1 6)]))))) fun c4=>(O.c (O.b (O.k c4 28) (O.c (O.g 248 [] (cr O c4 kI 0)) fun c5=>(O.a (cr O c5 kI 0))) (O.a (cr O c4 kI 0))) fun c5=>(O.b (O.d (x.I 42) (O.lit .u8 1)) (O.a (ap O (cr O c5 [0,0,0,0,0,0,0,0,0,0,0,0,0,0,3,0,3,3,1,3] 0) (ap O [.bool O.e] (ap O (cr O c5 [0,0,0,3,0,0,0] 21) [.int u0])))) (O.b (O.i (O.d (x.I 42) (O.lit .u8 3)) (x.B 8) O.e) (O.a (ap O (cr O c5 [0,0,0,0,0,0,0,0,0,0,0,0,0,0,3,0,3,3,1,3] 0) (ap O [.bool O.j] (ap O (cr O c5 [0,0,0,3,0,0,0] 21) [.int u0])))) (O.a (ap O (cr O c5 kI 0) [.int u0])))))))))))
def B5:Nat→Env:=eL [(52,CR),(53,Fb),(147,AX),(245,E8),(246,Kk),(247,KY),(248,G2)]
theorem Pn {N ls}:B5 N 52 [] ls=CR N ls:=id rfl
theorem Qi {N ls}:B5 N 53 [] ls=Fb N ls:=id rfl
theorem RE {N ls}:B5 N 147 [] ls=AX N ls:=id rfl
theorem QL {N ls}:B5 N 245 [] ls=E8 N ls:=id rfl
theorem UO {N ls}:B5 N 246 [] ls=Kk N ls:=id rfl
theorem Um {N ls}:B5 N 247 [] ls=KY N ls:=id rfl
theorem RS {N ls}:B5 N 248 [] ls=G2 N ls:=id rfl
def Hl:=oS Y8 MC B5
def gU:List Nat:=[0,0,0,0,0,0,0,0,0,0,0,0,0,0,3,0,3,3,1,3,1,0,0,0,3,0,0,0,0]
def Pi (O:Alg) (x:Ags O):O.M:=let u2:=(O.s .i64 (x.I 28) (lq9 O 1));let u1:=(O.q (x.L 14) u2 0);let u0:=(O.r u2 (O.l (x.L 14)));(O.c (O.g 242 [] (xr x [0,0,0,0,0,0,0,0,0,0,0,0,0,0,3,0,3,3,1,3,1,0,0,0,3,0,0,0,0] 0)) fun c0=>(O.b (O.f (O.k c0 0)) (O.a [.int (lq9 O 3)]) (O.c (O.g 224 [] (xr x kI 0)) fun c1=>let u3:=(O.f (O.k c1 0));(O.n (O.f (O.x (O.f u3) (O.f u0))) (O.b (O.i u3 O.j (O.d u1 (O.lit .u8 1))) (O.a [.int (lq9 O 4)]) (O.n u0 (O.b (O.d u1 (O.lit .u8 2)) (O.a [.int (lq9 O 5)]) (O.a [.int (lq9 O 0)]))))))))
def Lc:Nat→Env:=eL [(224,BW),(242,BA)]
theorem Tb {N ls}:Lc N 224 [] ls=BW N ls:=id rfl
theorem UK {N ls}:Lc N 242 [] ls=BA N ls:=id rfl
def EN:=oS gU Pi Lc
def WO:List Nat:=[0,0,0,0,0,0,0,0,0,0,0,0,0,0,3,0,3,3,1,3,1,0,0,0,3,0,0,0,0]
def Ir (O:Alg) (x:Ags O):O.M:=let u0:=(O.s .i64 (x.I 28) (lq9 O 1));(O.c (O.g 240 [] (xr x kI 0)) fun c0=>(O.c (O.g 249 [] (xr x [0,0,0,0,0,0,0,0,0,0,0,0,0,0,3,0,3,3,1,3,1,0,0,0,3,0,0,0,0] 0)) fun c1=>(O.b (O.f (O.d (O.h c1 0) (lq9 O 0))) (O.a (ap O (cr O c0 kI 0) [.int (O.h c1 0)])) (O.c (O.g 242 [] (ap O (cr O c0 kI 0) [.int (x.I 28)])) fun c2=>(O.c (O.b (O.k c2 0) (O.n (O.r u0 (O.l (O.o c0 14))) (O.a (ap O (cr O c0 [0,0,0,0,0,0,0,0,0,0,0,0,0,0] 0) (ap O [.rows (O.y (O.o c0 14) u0 0 [.int (O.lit .u8 2)])] (cr O c0 [0,3,3,1,3,1,0,0,0,3,0,0,0] 15))))) (O.a (cr O c0 kI 0))) fun c3=>(O.a (ap O (cr O c3 [0,0,0,0] 0) (ap O [.int (O.p .i64 (O.h c3 4) (lq9 O 1))] (ap O (cr O c3 [0,0,0,0,0,0,0,0,0,3,0,3,3,1,3,1,0,0,0,3,0,0,0] 5) [.int (lq9 O 0)])))))))))
def EM:Nat→Env:=eL [(240,A8),(242,BA),(249,EN)]
theorem Ss {N ls}:EM N 240 [] ls=A8 N ls:=id rfl
theorem Qe {N ls}:EM N 242 [] ls=BA N ls:=id rfl
theorem Sf {N ls}:EM N 249 [] ls=EN N ls:=id rfl
def Fa:=oS WO Ir EM
def Zc:List Nat:=[0,0,0,0,0,0,0,0,0,0,0,0,0,0,3,0,3,3,1,3,1,0,0,0,3,0,0,0,0]
def Lz (O:Alg) (x:Ags O):O.M:=let u1:=(lq9 O 0);let u0:=(O.s .i64 (x.I 28) (lq9 O 1));(O.c (O.g 240 [] (xr x kI 0)) fun c0=>let u2:=(O.o c0 14);(O.c (O.g 249 [] (xr x [0,0,0,0,0,0,0,0,0,0,0,0,0,0,3,0,3,3,1,3,1,0,0,0,3,0,0,0,0] 0)) fun c1=>(O.b (O.f (O.d (O.h c1 0) u1)) (O.a (ap O (cr O c0 kI 0) [.int (O.h c1 0)])) (O.n (O.r u0 (O.l u2)) (O.b (O.d (O.h c0 12) u1) (O.a (ap O (cr O c0 [0,0,0,0,0,0,0,0,0,0,0,0] 0) (ap O [.int (x.I 28),.int (O.h c0 13),.rows (O.y u2 u0 0 [.int (O.lit .u8 1)])] (ap O (cr O c0 [0,3,3,1,3,1,0,0,0,3,0,0,0] 15) [.int u1])))) (O.a (ap O (cr O c0 [0,0,0,0,0,0,0,0,0,0,0,0,0] 0) (ap O [.int (x.I 28),.rows (O.y u2 u0 0 [.int (O.lit .u8 1)])] (ap O (cr O c0 [0,3,3,1,3,1,0,0,0,3,0,0,0] 15) [.int u1])))))))))
def Iw:Nat→Env:=eL [(240,A8),(249,EN)]
theorem Uf {N ls}:Iw N 240 [] ls=A8 N ls:=id rfl
theorem UZ {N ls}:Iw N 249 [] ls=EN N ls:=id rfl
def IE:=oS Zc Lz Iw
def dv:List Nat:=[0,0,0,0,0,0,0,0,0,0,0,0,0,0,3,0,3,3,1,3,1,0,0,0,3,0,0,0]
def GF (O:Alg) (x:Ags O):O.M:=(O.c (O.w (fun s0 c0=>let u4:=(O.o c0 0);let u3:=(O.h c0 1);let u2:=(O.q (x.L 14) u3 0);let u1:=(O.p .i64 u3 (lq9 O 1));let u0:=(O.ac u4 (O.ab [[.int u1]]));(O.b (O.m u3 (O.l (x.L 14))) (O.n (O.r u3 (O.l (x.L 14))) (O.b (O.i (O.d u2 (O.lit .u8 0)) O.j (O.d u2 (O.lit .u8 3))) (O.n (O.z (O.l u0) 8) (s0 [.rows u0,.int u1])) (s0 [.rows u4,.int u1]))) (O.a [.rows u4]))) [.rows O.u,.int (lq9 O 0)]) fun c0=>(O.a [.rows (O.o c0 0)]))
def PT:Nat→Env:=eL []
def DH:=oS dv GF PT
def Xz:List Nat:=[0,0,0,0,0,0,0,0,0,0,0,0,0,0,3,0,3,3,1,3,1,0,0,0,3,0,0,0,0,1]
def KJ (O:Alg) (x:Ags O):O.M:=let u3:=(lq9 O 0);let u2:=(O.d (x.I 28) (x.I 12));let u1:=(O.s .i64 (x.I 28) (lq9 O 1));(O.c (O.g 240 [] (xr x kI 0)) fun c0=>(O.c (O.g 242 [] (xr x [0,0,0,0,0,0,0,0,0,0,0,0,0,0,3,0,3,3,1,3,1,0,0,0,3,0,0,0,0] 0)) fun c1=>(O.b (O.f (O.k c1 0)) (O.a (ap O (cr O c0 kI 0) [.int (lq9 O 3)])) (O.b (O.i (O.d (x.I 12) u3) O.j (O.d (x.I 13) u3)) (O.a (ap O (cr O c0 kI 0) [.int (lq9 O 6)])) (O.b (O.i (O.f u2) (O.f (O.d (x.I 28) (x.I 13))) O.e) (O.a (ap O (cr O c0 kI 0) [.int (lq9 O 4)])) (O.c (O.b (x.B 29) (O.g 225 [] (xr x kI 0)) (O.a [.rows O.u])) fun c2=>(O.b (O.i (x.B 29) (O.d (O.l (O.o c2 0)) u3) O.e) (O.a (ap O (cr O c0 kI 0) [.int (lq9 O 19)])) (O.c (O.b u2 (O.a (ap O (cr O c0 [0,0,0,0,0,0,0,0,0,0,0,0] 0) (ap O [.int u3] (cr O c0 [0,3,0,3,3,1,3,1,0,0,0,3,0,0,0] 13)))) (O.a (ap O (cr O c0 [0,0,0,0,0,0,0,0,0,0,0,0,0] 0) (ap O [.int u3] (cr O c0 [3,0,3,3,1,3,1,0,0,0,3,0,0,0] 14))))) fun c3=>let u4:=(O.o c3 14);let u0:=(O.r u1 (O.l u4));(O.b (x.B 29) (O.n u0 (O.a (ap O (cr O c3 [0,0,0,0,0,0,0,0,0,0,0,0,0,0] 0) (ap O [.rows (O.y u4 u1 0 [.int (O.lit .u8 3)])] (ap O (cr O c3 [0,3,3,1,3,1,0,0,0,3,0,0,0] 15) [.int u3]))))) (O.c (O.g 242 [] (ap O (cr O c3 kI 0) [.int (x.I 28)])) fun c4=>(O.c (O.b (O.k c4 0) (O.n u0 (O.a (ap O (cr O c3 [0,0,0,0,0,0,0,0,0,0,0,0,0,0] 0) (ap O [.rows (O.y u4 u1 0 [.int (O.lit .u8 2)])] (cr O c3 [0,3,3,1,3,1,0,0,0,3,0,0,0] 15))))) (O.a (cr O c3 kI 0))) fun c5=>(O.a (ap O (cr O c5 [0,0,0,0] 0) (ap O [.int (O.p .i64 (O.h c5 4) (lq9 O 1))] (ap O (cr O c5 [0,0,0,0,0,0,0,0,0,3,0,3,3,1,3,1,0,0,0,3,0,0,0] 5) [.int u3])))))))))))))))
def Ew:Nat→Env:=eL [(225,DH),(240,A8),(242,BA)]
theorem Sk {N ls}:Ew N 225 [] ls=DH N ls:=id rfl
theorem TO {N ls}:Ew N 240 [] ls=A8 N ls:=id rfl
theorem RU {N ls}:Ew N 242 [] ls=BA N ls:=id rfl
def Gc:=oS Xz KJ Ew
def lC:List Nat:=[0,0,0,0,0,0,0,0,0,0,0,0,0,0,3,0,3,3,1,3,1,0,0,0,3,0,0,0]
def ST (O:Alg) (x:Ags O):O.M:=(O.c (O.g 171 [] [.rows (x.L 14)]) fun c0=>(O.c (O.g 172 [] [.rows (x.L 16)]) fun c1=>(O.c (O.g 172 [] [.rows (x.L 17)]) fun c2=>(O.c (O.g 172 [] [.rows (x.L 19)]) fun c3=>(O.c (O.g 173 [] [.rows (x.L 24)]) fun c4=>(O.a (ap O (xr x [0,0,0,0,0,0,0,0,0,0,0,0,0,0] 0) (ap O [.rows (O.o c0 0),.int (x.I 15),.rows (O.o c1 0),.rows (O.o c2 0),.bool (x.B 18),.rows (O.o c3 0)] (ap O (xr x [1,0,0,0] 20) (ap O [.rows (O.o c4 0)] (xr x [0,0,0] 25)))))))))))
def JQ:Nat→Env:=eL [(171,Ae),(172,Aq),(173,Aj)]
theorem Ok {N ls}:JQ N 171 [] ls=Ae N ls:=id rfl
theorem RD {N ls}:JQ N 172 [] ls=Aq N ls:=id rfl
theorem Qh {N ls}:JQ N 173 [] ls=Aj N ls:=id rfl
def DA:=oS lC ST JQ
def XV:List Nat:=[0,0,0,0,0,0,0,0,0,0,0,0,0,0,3,0,3,3,1,3,1,0,0,0,3,0,0,0,0]
def KB (O:Alg) (x:Ags O):O.M:=(O.c (O.g 251 [] (xr x kI 0)) fun c0=>(O.b (O.i (O.m (x.I 28) (lq9 O 0)) O.j (O.m (O.s .i64 (O.l (x.L 24)) (lq9 O 2)) (x.I 28))) (O.a (ap O (cr O c0 kI 0) [.int (lq9 O 16)])) (O.a (ap O (cr O c0 [0,0,0,0,0,0,0,0,0,0,0,0,0,0,3,0,3,3,1,3,1,0,0] 0) (ap O [.int (x.I 28)] (ap O (cr O c0 [3,0,0,0] 24) [.int (lq9 O 0)]))))))
def MH:Nat→Env:=eL [(251,DA)]
theorem UT {N ls}:MH N 251 [] ls=DA N ls:=id rfl
def Gx:=oS XV KB MH
def ZD:List Nat:=[0,0,0,0,0,0,0,0,0,0,0,0,0,0,3,0,3,3,1,3,1,0,0,0,3,0,0,0,0]
def Ls (O:Alg) (x:Ags O):O.M:=(O.c (O.g 251 [] (xr x kI 0)) fun c0=>(O.c (O.g 252 [] (xr x [0,0,0,0,0,0,0,0,0,0,0,0,0,0,3,0,3,3,1,3,1,0,0,0,3,0,0,0,0] 0)) fun c1=>(O.b (O.f (O.k c1 0)) (O.a (ap O (cr O c0 kI 0) [.int (lq9 O 3)])) (O.c (O.g 253 [] (xr x [0,0,0,0,0,0,0,0,0,0,0,0,0,0,3,0,3,3,1,3,1,0,0,0,3,0,0,0,0] 0)) fun c2=>(O.b (O.k c2 0) (O.a (ap O (cr O c0 kI 0) [.int (lq9 O 18)])) (O.b (O.i (O.d (x.I 28) (x.I 15)) O.j (O.d (x.I 28) (x.I 22))) (O.a (ap O (cr O c0 kI 0) [.int (lq9 O 17)])) (O.a (ap O (cr O c0 [0,0,0,0,0,0,0,0,0,0,0,0,0,0,3,0,3,3,1,3,1,0] 0) (ap O [.int (x.I 28)] (ap O (cr O c0 [0,3,0,0,0] 23) [.int (lq9 O 0)]))))))))))
def Fg:Nat→Env:=eL [(251,DA),(252,BD),(253,BC)]
theorem Vu {N ls}:Fg N 251 [] ls=DA N ls:=id rfl
theorem TT {N ls}:Fg N 252 [] ls=BD N ls:=id rfl
theorem Ql {N ls}:Fg N 253 [] ls=BC N ls:=id rfl
def H5:=oS ZD Ls Fg
def Sq:List Nat:=[0,0,0,0,0,0,0,0,0,0,0,0,0,0,3,0,3,3,1,3,1,0,0,0,3,0,0,0,0,1]
def Gm (O:Alg) (x:Ags O):O.M:=let u2:=(lq9 O 0);let u1:=(O.s .i64 (x.I 28) (lq9 O 1));(O.c (O.g 251 [] (xr x kI 0)) fun c0=>let u0:=(O.y (O.o c0 24) u1 0 [.bool (x.B 29)]);(O.c (O.g 252 [] (xr x [0,0,0,0,0,0,0,0,0,0,0,0,0,0,3,0,3,3,1,3,1,0,0,0,3,0,0,0,0] 0)) fun c1=>(O.b (O.f (O.k c1 0)) (O.a (ap O (cr O c0 kI 0) [.int (lq9 O 3)])) (O.c (O.g 253 [] (xr x [0,0,0,0,0,0,0,0,0,0,0,0,0,0,3,0,3,3,1,3,1,0,0,0,3,0,0,0,0] 0)) fun c2=>(O.b (O.aj (O.k c2 0) (x.B 29)) (O.a (ap O (cr O c0 kI 0) [.int (lq9 O 18)])) (O.n (O.r u1 (O.l (O.o c0 24))) (O.c (O.b (O.i (x.B 29) (O.d (O.h c0 22) (x.I 28)) O.e) (O.a (ap O (cr O c0 [0,0,0,0,0,0,0,0,0,0,0,0,0,0,3,0,3,3,1,3,1,0] 0) (ap O [.int u2,.int (O.h c0 23),.rows u0] (cr O c0 [0,0,0] 25)))) (O.a (ap O (cr O c0 [0,0,0,0,0,0,0,0,0,0,0,0,0,0,3,0,3,3,1,3,1,0,0,0] 0) (ap O [.rows u0] (cr O c0 [0,0,0] 25))))) fun c3=>(O.b (O.i (x.B 29) (O.d (O.h c3 15) (x.I 28)) O.e) (O.a (ap O (cr O c3 [0,0,0,0,0,0,0,0,0,0,0,0,0,0,3] 0) (ap O [.int u2] (ap O (cr O c3 [3,3,1,3,1,0,0,0,3,0,0,0] 16) [.int u2])))) (O.a (ap O (cr O c3 kI 0) [.int u2]))))))))))
def De:Nat→Env:=eL [(251,DA),(252,BD),(253,BC)]
theorem RB {N ls}:De N 251 [] ls=DA N ls:=id rfl
theorem PC {N ls}:De N 252 [] ls=BD N ls:=id rfl
theorem MZ {N ls}:De N 253 [] ls=BC N ls:=id rfl
def ER:=oS Sq Gm De
def Xx:List Nat:=[2,0,0,0,0,0,0,0,1,0,0,0,0,3,0,0,0,0,0,0,0,0,0,0,0,0,0,0,3,0,3,3,1,3,1,0,0,0,3,0,0,0]
def KL (O:Alg) (x:Ags O):O.M:=let u0:=(lq9 O 0);(O.c (O.g 243 [] (xr x kI 14)) fun c0=>(O.c (O.g 70 [] (xr x kR 0)) fun c1=>(O.b (O.i (O.i (O.f (O.d (O.h c1 0) u0)) O.j (O.d (x.I 9) u0)) O.j (O.m (x.I 35) (O.af .i64 (x.I 9) (x.I 4)))) (O.a (ap O (cr O c0 kI 0) [.int (lq9 O 22)])) (O.a (ap O (cr O c0 [0,0,0,0,0,0,0,0,0,0,0,0,0,0,3,0,3,3,1,3,1] 0) (ap O [.int u0] (ap O (cr O c0 [0,0,3,0,0,0] 22) [.int u0])))))))
def HP:Nat→Env:=eL [(70,Ab),(243,C9)]
theorem Sr {N ls}:HP N 70 [] ls=Ab N ls:=id rfl
theorem Ur {N ls}:HP N 243 [] ls=C9 N ls:=id rfl
def Gn:=oS Xx KL HP
def Tv:List Nat:=[2,0,0,0,0,0,0,0,1,0,0,0,0,3,0,0,0,0,0,0,0,0,0,0,0,0,0,0,3,0,3,3,1,3,1,0,0,0,3,0,0,0,0,0,0,0,1,0,0,0,0,0,0,0,1,0,0,0,0,1,0]
def HW (O:Alg) (x:Ags O):O.M:=(O.c (O.g 147 [] (xr x kI 14)) fun c0=>(O.b (O.f (O.d (x.I 43) (x.I 14))) (O.a (ap O (cr O c0 kI 0) [.int (lq9 O 2)])) (O.b (O.f (O.d (x.I 3) (lq9 O 0))) (O.a (ap O (cr O c0 kI 0) [.int (lq9 O 20)])) (O.a (ap O (cr O c0 [0,0,0,0,0,0,0,0,0,0,0,0,0,0,3,0,3,3,1,3,1,0,0,0,3,0,0] 0) [.int (O.lit .u8 4),.int (lq9 O 0)])))))
def Jt:Nat→Env:=eL [(147,AX)]
theorem Oq {N ls}:Jt N 147 [] ls=AX N ls:=id rfl
def E6:=oS Tv HW Jt
def UG:List Nat:=[0,0,0,0,0,0,0,0,0,0,0,0,0,0,3,0,3,3,1,3,1,0,0,0,3,0,0,0]
def HR (O:Alg) (x:Ags O):O.M:=(O.c (O.g 147 [] (xr x kI 0)) fun c0=>(O.a (ap O (cr O c0 [0,0,0] 0) (ap O [.int (O.p .i64 (O.h c0 3) (lq9 O 5))] (ap O (cr O c0 [0,0,0,0,0] 4) (ap O [.int (O.p .i64 (O.h c0 9) (lq9 O 5))] (cr O c0 [0,0,0,0,3,0,3,3,1,3,1,0,0,0,3,0,0,0] 10)))))))
def Jp:Nat→Env:=eL [(147,AX)]
theorem On {N ls}:Jp N 147 [] ls=AX N ls:=id rfl
def CT:=oS UG HR Jp
def Tq:List Nat:=[0,0,0,0,0,0,0,0,0,0,0,0,0,0,3,0,3,3,1,3,1,0,0,0,3,0,0,0,0,0,0,0,1,0,0,0,0,0,0,0,1,0,0,0,0,1,0]
def HQ (O:Alg) (x:Ags O):O.M:=let u0:=(lq9 O 0);(O.c (O.g 147 [] (xr x kI 0)) fun c0=>(O.b (O.f (O.d (x.I 33) (lq9 O 5))) (O.a (ap O (cr O c0 kI 0) [.int (lq9 O 23)])) (O.b (O.d (x.I 29) (x.I 0)) (O.c (O.g 191 [] (xr x kI 0)) fun c1=>(O.a (ap O (cr O c1 kI 0) [.int u0]))) (O.b (O.m u0 (O.h c0 1)) (O.a (ap O [.int (O.h c0 0),.int (O.p .i64 (O.h c0 1) (lq9 O 5))] (ap O (cr O c0 [0,0,0,0,0,0,0,0,0,0,0,0,3,0,3,3,1,3,1,0,0,0,3,0,0,0] 2) [.int u0]))) (O.a (ap O (cr O c0 kI 0) [.int u0]))))))
def F2:Nat→Env:=eL [(147,AX),(191,CT)]
theorem Ou {N ls}:F2 N 147 [] ls=AX N ls:=id rfl
theorem MT {N ls}:F2 N 191 [] ls=CT N ls:=id rfl
def Eu:=oS Tq HQ F2
def VN:List Nat:=[2,0,0,0,0,0,0,0,1,0,0,0,0,3,0,0,0,0,0,0,0,0,0,0,0,0,0,0,3,0,3,3,1,3,1,0,0,0,3,0,0,0,0,0,0,0,1,0,0,0,0,0,0,0,1,0,0,0,0,1,0]
def Fj (O:Alg) (x:Ags O):O.M:=let u5:=(lq9 O 0);let u4:=(lq9 O 1);let u3:=(O.s .i64 (x.I 43) u4);let u2:=(O.r u3 (lq9 O 2));let u1:=(O.d u3 u4);(O.c (O.g 147 [] (xr x kI 14)) fun c0=>let u0:=(O.p .i64 (O.ae u1 (O.h c0 26) (O.h c0 25)) u4);(O.n (O.f (O.x (O.f (O.f (x.B 32))) (O.f u2))) (O.b (O.i (O.f (x.B 32)) O.j (O.t (x.I 11) (O.ae u1 (x.I 40) (x.I 39)))) (O.a (ap O (cr O c0 kI 0) [.int (lq9 O 24)])) (O.b (O.f (x.B 46)) (O.n u2 (O.n u2 (O.a (ap O (cr O c0 [0,0,0,0,0,0,0,0,0,0,0,0,0,0,3,0,3,3,1,3,1,0,0,0,3] 0) [.int (O.ae (O.d u3 u5) u0 (O.h c0 25)),.int (O.ae u1 u0 (O.h c0 26)),.int (O.h c0 27),.int u5])))) (O.a (ap O (cr O c0 kI 0) [.int u5]))))))
def KV:Nat→Env:=eL [(147,AX)]
theorem Gz {N ls}:KV N 147 [] ls=AX N ls:=id rfl
def Fr:=oS VN Fj KV
def XQ:List Nat:=[2,0,0,0,0,0,0,0,1,0,0,0,0,3,0,0,0,0,0,0,0,0,0,0,0,0,0,0,3,0,3,3,1,3,1,0,0,0,3,0,0,0]
def XR (O:Alg) (x:Ags O):O.M:=(O.a [.int (O.p .i64 (O.af .i64 (x.I 24) (x.I 4)) (x.I 25))])
def jo:Nat→Env:=eL []
def Gg:=oS XQ XR jo
def Vm:List Nat:=[2,0,0,0,0,0,0,0,1,0,0,0,0,3,0,0,0,0,0,0,0,0,0,0,0,0,0,0,3,0,3,3,1,3,1,0,0,0,3,0,0,0,0,0,0,0,1,0,0,0,0,0,0,0,1,0,0,0,0,1,0]
def I3 (O:Alg) (x:Ags O):O.M:=let u4:=(lq9 O 0);let u3:=(lq9 O 25);let u2:=(O.m (x.I 3) (x.I 48));let u1:=(O.m u4 (x.I 47));let u0:=(O.m u4 (x.I 48));(O.c (O.g 147 [] (xr x kI 14)) fun c0=>(O.b (O.i (O.d (x.I 3) u4) O.j (O.i (O.d (x.I 47) u4) (O.d (x.I 48) u4) O.e)) (O.a (ap O (cr O c0 kI 0) [.int u3])) (O.b (O.i u1 (O.i (O.d (x.I 15) u4) O.j (O.t (x.I 47) (x.I 17))) O.e) (O.a (ap O (cr O c0 kI 0) [.int u3])) (O.c (O.b (O.x u0 (O.f u2)) (O.g 254 [] (xr x [2,0,0,0,0,0,0,0,1,0,0,0,0,3,0,0,0,0,0,0,0,0,0,0,0,0,0,0,3,0,3,3,1,3,1,0,0,0,3,0,0,0] 0)) (O.a [.int u4])) fun c1=>(O.b (O.i u0 (O.i u2 O.j (O.m (O.af .i64 (x.I 48) (x.I 4)) (O.h c1 0))) O.e) (O.a (ap O (cr O c0 kI 0) [.int u3])) (O.c (O.b u1 (O.a (ap O [.int (O.h c0 0),.int (x.I 47)] (cr O c0 [0,0,0,0,0,0,0,0,0,0,0,0,3,0,3,3,1,3,1,0,0,0,3,0,0,0] 2))) (O.a (cr O c0 kI 0))) fun c2=>(O.b u0 (O.a (ap O [.int (O.h c2 0),.int (O.h c2 1),.int (x.I 48)] (ap O (cr O c2 [0,0,0,0,0,0,0,0,0,0,0,3,0,3,3,1,3,1,0,0,0,3,0,0,0] 3) [.int u4]))) (O.a (ap O (cr O c2 kI 0) [.int u4])))))))))
def Gy:Nat→Env:=eL [(147,AX),(254,Gg)]
theorem PR {N ls}:Gy N 147 [] ls=AX N ls:=id rfl
theorem QS {N ls}:Gy N 254 [] ls=Gg N ls:=id rfl
def Fi:=oS Vm I3 Gy
def Tt:List Nat:=[2,0,0,0,0,0,0,0,1,0,0,0,0,3,0,0,0,0,0,0,0,0,0,0,0,0,0,0,3,0,3,3,1,3,1,0,0,0,3,0,0,0,0,0,0,0,1,0,0,0,0,0,0,0,1,0,0,0,0,1,0]
def E7 (O:Alg) (x:Ags O):O.M:=(O.b (O.d (x.I 42) (O.lit .u8 2)) (O.c (O.g 210 [] (ap O (xr x kI 14) [.int (x.I 44),.int (x.I 45)])) fun c0=>(O.a (cr O c0 [0,0,0,0,0,0,0,0,0,0,0,0,0,0,3,0,3,3,1,3,1,0,0,0,3,0,0,0,0] 0))) (O.b (O.d (x.I 42) (O.lit .u8 3)) (O.c (O.g 211 [] (ap O (xr x [2,0,0,0,0,0,0,0,1,0,0,0,0,3,0,0,0,0,0,0,0,0,0,0,0,0,0,0,3,0,3,3,1,3,1,0,0,0,3,0,0,0] 0) [.int (x.I 44)])) fun c0=>(O.a (cr O c0 [0,0,0,0,0,0,0,0,0,0,0,0,0,0,3,0,3,3,1,3,1,0,0,0,3,0,0,0,0] 0))) (O.b (O.d (x.I 42) (O.lit .u8 4)) (O.c (O.g 212 [] (ap O (xr x [2,0,0,0,0,0,0,0,1,0,0,0,0,3,0,0,0,0,0,0,0,0,0,0,0,0,0,0,3,0,3,3,1,3,1,0,0,0,3,0,0,0] 0) (xr x [0,0,0,0,0,1,0,0,0,0,1,0] 49))) fun c0=>(O.a (cr O c0 [0,0,0,0,0,0,0,0,0,0,0,0,0,0,3,0,3,3,1,3,1,0,0,0,3,0,0,0,0] 0))) (O.b (O.d (x.I 42) (O.lit .u8 5)) (O.b (x.B 46) (O.c (O.g 213 [] (ap O (xr x kI 14) [.int (x.I 44)])) fun c0=>(O.a (cr O c0 [0,0,0,0,0,0,0,0,0,0,0,0,0,0,3,0,3,3,1,3,1,0,0,0,3,0,0,0,0] 0))) (O.c (O.g 214 [] (ap O (xr x kI 14) [.int (x.I 44)])) fun c0=>(O.a (cr O c0 [0,0,0,0,0,0,0,0,0,0,0,0,0,0,3,0,3,3,1,3,1,0,0,0,3,0,0,0,0] 0)))) (O.b (O.d (x.I 42) (O.lit .u8 6)) (O.c (O.g 215 [] (ap O (xr x kI 14) [.int (x.I 44),.bool (x.B 46)])) fun c0=>(O.a (cr O c0 [0,0,0,0,0,0,0,0,0,0,0,0,0,0,3,0,3,3,1,3,1,0,0,0,3,0,0,0,0] 0))) (O.b (O.d (x.I 42) (O.lit .u8 7)) (O.c (O.g 216 [] (ap O (xr x kI 14) [.int (x.I 47)])) fun c0=>(O.a (cr O c0 [0,0,0,0,0,0,0,0,0,0,0,0,0,0,3,0,3,3,1,3,1,0,0,0,3,0,0,0,0] 0))) (O.b (O.d (x.I 42) (O.lit .u8 8)) (O.c (O.g 217 [] (ap O (xr x kI 14) [.int (x.I 44)])) fun c0=>(O.a (cr O c0 [0,0,0,0,0,0,0,0,0,0,0,0,0,0,3,0,3,3,1,3,1,0,0,0,3,0,0,0,0] 0))) (O.b (O.d (x.I 42) (O.lit .u8 9)) (O.c (O.g 218 [] (ap O (xr x kI 14) [.int (x.I 44),.bool (x.B 46)])) fun c0=>(O.a (cr O c0 [0,0,0,0,0,0,0,0,0,0,0,0,0,0,3,0,3,3,1,3,1,0,0,0,3,0,0,0,0] 0))) (O.b (O.d (x.I 42) (O.lit .u8 10)) (O.c (O.g 219 [] (xr x [2,0,0,0,0,0,0,0,1,0,0,0,0,3,0,0,0,0,0,0,0,0,0,0,0,0,0,0,3,0,3,3,1,3,1,0,0,0,3,0,0,0] 0)) fun c0=>(O.a (cr O c0 [0,0,0,0,0,0,0,0,0,0,0,0,0,0,3,0,3,3,1,3,1,0,0,0,3,0,0,0,0] 0))) (O.b (O.d (x.I 42) (O.lit .u8 11)) (O.c (O.g 220 [] (xr x [2,0,0,0,0,0,0,0,1,0,0,0,0,3,0,0,0,0,0,0,0,0,0,0,0,0,0,0,3,0,3,3,1,3,1,0,0,0,3,0,0,0,0,0,0,0,1,0,0,0,0,0,0,0,1,0,0,0,0,1,0] 0)) fun c0=>(O.a (cr O c0 [0,0,0,0,0,0,0,0,0,0,0,0,0,0,3,0,3,3,1,3,1,0,0,0,3,0,0,0,0] 0))) (O.b (O.d (x.I 42) (O.lit .u8 13)) (O.c (O.g 221 [] (xr x [0,0,0,0,0,0,0,0,0,0,0,0,0,0,3,0,3,3,1,3,1,0,0,0,3,0,0,0,0,0,0,0,1,0,0,0,0,0,0,0,1,0,0,0,0,1,0] 14)) fun c0=>(O.a (cr O c0 [0,0,0,0,0,0,0,0,0,0,0,0,0,0,3,0,3,3,1,3,1,0,0,0,3,0,0,0,0] 0))) (O.b (O.d (x.I 42) (O.lit .u8 14)) (O.c (O.g 222 [] (xr x [2,0,0,0,0,0,0,0,1,0,0,0,0,3,0,0,0,0,0,0,0,0,0,0,0,0,0,0,3,0,3,3,1,3,1,0,0,0,3,0,0,0,0,0,0,0,1,0,0,0,0,0,0,0,1,0,0,0,0,1,0] 0)) fun c0=>(O.a (cr O c0 [0,0,0,0,0,0,0,0,0,0,0,0,0,0,3,0,3,3,1,3,1,0,0,0,3,0,0,0,0] 0))) (O.c (O.g 223 [] (xr x [2,0,0,0,0,0,0,0,1,0,0,0,0,3,0,0,0,0,0,0,0,0,0,0,0,0,0,0,3,0,3,3,1,3,1,0,0,0,3,0,0,0,0,0,0,0,1,0,0,0,0,0,0,0,1,0,0,0,0,1,0] 0)) fun c0=>(O.a (cr O c0 [0,0,0,0,0,0,0,0,0,0,0,0,0,0,3,0,3,3,1,3,1,0,0,0,3,0,0,0,0] 0)))))))))))))))
def Ar:Nat→Env:=eL [(210,JG),(211,Ko),(212,Hl),(213,Fa),(214,IE),(215,Gc),(216,Gx),(217,H5),(218,ER),(219,Gn),(220,E6),(221,Eu),(222,Fr),(223,Fi)]
theorem HK {N ls}:Ar N 210 [] ls=JG N ls:=id rfl
theorem IC {N ls}:Ar N 211 [] ls=Ko N ls:=id rfl
theorem Gu {N ls}:Ar N 212 [] ls=Hl N ls:=id rfl
theorem Fv {N ls}:Ar N 213 [] ls=Fa N ls:=id rfl
theorem Gq {N ls}:Ar N 214 [] ls=IE N ls:=id rfl
theorem F9 {N ls}:Ar N 215 [] ls=Gc N ls:=id rfl
theorem F8 {N ls}:Ar N 216 [] ls=Gx N ls:=id rfl
theorem Gk {N ls}:Ar N 217 [] ls=H5 N ls:=id rfl
theorem Ey {N ls}:Ar N 218 [] ls=ER N ls:=id rfl
theorem GA {N ls}:Ar N 219 [] ls=Gn N ls:=id rfl
theorem FK {N ls}:Ar N 220 [] ls=E6 N ls:=id rfl
theorem FN {N ls}:Ar N 221 [] ls=Eu N ls:=id rfl
theorem Fd {N ls}:Ar N 222 [] ls=Fr N ls:=id rfl
theorem FY {N ls}:Ar N 223 [] ls=Fi N ls:=id rfl
def Es:=oS Tt E7 Ar
def WM:List Nat:=[2,0,0,0,0,0,0,0,1,0,0,0,0,3,0,0,0,0,0,0,0,0,0,0,0,0,0,0,3,0,3,3,1,3,1,0,0,0,3,0,0,0]
def I9 (O:Alg) (x:Ags O):O.M:=let u0:=(lq9 O 0);(O.c (O.g 140 [] (xr x [2,0,0,0,0,0,0,0,1,0,0,0,0,3,0,0,0,0,0,0,0,0,0,0,0,0,0,0,3,0,3,3,1,3,1,0,0,0,3,0,0,0] 0)) fun c0=>(O.b (O.f (O.k c0 0)) (O.a [.int (O.lit .u8 0)]) (O.b (O.i (O.m u0 (x.I 15)) (O.t (x.I 15) (x.I 17)) O.e) (O.a [.int (O.lit .u8 3)]) (O.c (O.g 224 [] (xr x kI 14)) fun c1=>(O.c (O.b (O.k c1 0) (O.g 225 [] (xr x kI 14)) (O.a [.rows O.u])) fun c2=>(O.b (O.i (O.k c1 0) (O.d (O.l (O.o c2 0)) u0) O.e) (O.a [.int (O.lit .u8 1)]) (O.b (O.i (O.m u0 (x.I 16)) (O.t (x.I 16) (x.I 24)) O.e) (O.a [.int (O.lit .u8 2)]) (O.a [.int (O.lit .u8 0)]))))))))
def EV:Nat→Env:=eL [(140,BX),(224,BW),(225,DH)]
def D6:=oS WM I9 EV
def aH:List Nat:=[2,0,0,0,0,0,0,0,1,0,0,0,0,3,0,0,0,0,0,0,0,0,0,0,0,0,0,0,3,0,3,3,1,3,1,0,0,0,3,0,0,0,0,0,0,0,1,0,0,0,0,0,0,0,1,0,0,0,0,1,0]
def Ln (O:Alg) (x:Ags O):O.M:=let u1:=(lq9 O 0);(O.c (O.g 140 [] (xr x [2,0,0,0,0,0,0,0,1,0,0,0,0,3,0,0,0,0,0,0,0,0,0,0,0,0,0,0,3,0,3,3,1,3,1,0,0,0,3,0,0,0] 0)) fun c0=>let u0:=(O.f (O.k c0 0));(O.c (O.b (O.f u0) (O.g 118 [] (xr x [0,0,0,0,1,0,0,0,0,0,0,0,1,0,0,0,0,1,0] 42)) (O.a [.int u1])) fun c1=>(O.b (O.i u0 O.j (O.f (O.d (O.h c1 0) u1))) (O.c (O.g 147 [] (xr x kI 14)) fun c2=>(O.a (ap O (cr O c2 kI 0) [.int (lq9 O 1)]))) (O.b (O.f (O.d (x.I 41) (O.lit .u8 0))) (O.c (O.g 147 [] (xr x kI 14)) fun c2=>(O.a (ap O (cr O c2 kI 0) [.int (lq9 O 26)]))) (O.c (O.b (O.f (O.i (O.i (O.d (x.I 42) (O.lit .u8 1)) O.j (O.d (x.I 42) (O.lit .u8 12))) O.j (O.d (x.I 42) (O.lit .u8 16)))) (O.g 188 [] (xr x kI 14)) (O.a [.bool O.e])) fun c2=>(O.b (O.i (O.i (O.i (O.d (x.I 42) (O.lit .u8 1)) O.j (O.d (x.I 42) (O.lit .u8 12))) O.j (O.d (x.I 42) (O.lit .u8 16))) O.j (O.i (O.f (O.k c2 0)) (O.f (O.d (x.I 42) (O.lit .u8 2))) O.e)) (O.c (O.g 147 [] (xr x kI 14)) fun c3=>(O.a (ap O (cr O c3 kI 0) [.int (lq9 O 1)]))) (O.c (O.g 189 [] (xr x [2,0,0,0,0,0,0,0,1,0,0,0,0,3,0,0,0,0,0,0,0,0,0,0,0,0,0,0,3,0,3,3,1,3,1,0,0,0,3,0,0,0,0,0,0,0,1,0,0,0,0,0,0,0,1,0,0,0,0,1,0] 0)) fun c3=>(O.b (O.f (O.d (O.h c3 28) u1)) (O.c (O.g 147 [] (xr x kI 14)) fun c4=>(O.a (ap O (cr O c4 kI 0) [.int (O.h c3 28)]))) (O.b (O.d (O.h c3 27) (O.lit .u8 0)) (O.c (O.g 190 [] (ap O (xr x kR 0) (ap O (cr O c3 [0,0,0,0,0,0,0,0,0,0,0,0,0,0,3,0,3,3] 0) (ap O [.bool (O.d (x.I 42) (O.lit .u8 4))] (cr O c3 [3,1,0,0,0,3,0,0,0] 19))))) fun c4=>(O.a (ap O (cr O c3 [0,0,0,0,0,0,0,0,0,0,0,0,0,0,3,0,3,3] 0) (ap O [.bool (O.d (x.I 42) (O.lit .u8 4))] (ap O (cr O c3 [3,1,0,0,0,3,0,0] 19) [.int (O.h c4 0),.int u1]))))) (O.a (ap O (cr O c3 [0,0,0,0,0,0,0,0,0,0,0,0,0,0,3,0,3,3] 0) (ap O [.bool (O.d (x.I 42) (O.lit .u8 4))] (ap O (cr O c3 [3,1,0,0,0,3,0,0,0] 19) [.int u1])))))))))))))
def Ci:Nat→Env:=eL [(118,Dn),(140,BX),(147,AX),(188,GW),(189,Es),(190,D6)]
theorem Th {N ls}:Ci N 118 [] ls=Dn N ls:=id rfl
theorem RG {N ls}:Ci N 140 [] ls=BX N ls:=id rfl
theorem RF {N ls}:Ci N 147 [] ls=AX N ls:=id rfl
theorem Q4 {N ls}:Ci N 188 [] ls=GW N ls:=id rfl
theorem Gw {N ls}:Ci N 189 [] ls=Es N ls:=id rfl
theorem HL {N ls}:Ci N 190 [] ls=D6 N ls:=id rfl
def Hh:=oS aH Ln Ci
def iG:List Nat:=[2,0,0,0,0,0,0,0,1,0,0,0,0,3,0,0,1,3,0,0,0,0,0,0,0,0,0,1,0,0,0,0,0,0,0,1,0,0,0,0,1,0]
def QE (O:Alg) (x:Ags O):O.M:=let u23:=(lq9 O 2);let u22:=(lq9 O 1);let u21:=(lq9 O 0);let u17:=(O.s .i64 (x.I 24) u22);let u11:=(O.r u17 u23);let u10:=(O.d u17 u22);(O.c (O.g 117 [] (xr x kM 0)) fun c0=>let u20:=(O.f (O.k c0 0));(O.c (O.b (O.f u20) (O.g 118 [] (xr x [0,0,0,0,1,0,0,0,0,0,0,0,1,0,0,0,0,1,0] 23)) (O.a [.int u21])) fun c1=>(O.b (O.i u20 O.j (O.f (O.d (O.h c1 0) u21))) (O.c (O.g 119 [] (xr x kM 0)) fun c2=>(O.a (ap O (cr O c2 kM 0) [.int u22]))) (O.b (O.d (x.I 14) (O.lit .u8 5)) (O.c (O.g 119 [] (xr x kM 0)) fun c2=>(O.a (ap O (cr O c2 kM 0) [.int (lq9 O 26)]))) (O.c (O.g 119 [] (xr x kM 0)) fun c2=>let u28:=(O.h c2 15);let u27:=(O.h c2 18);let u26:=(O.h c2 19);let u25:=(O.h c2 14);let u24:=(O.o c2 17);let u19:=(O.l u24);let u12:=(O.s .i64 u19 u22);let u4:=(O.r u12 u19);let u0:=(O.p .i64 (O.ae u10 u26 u27) (lq9 O 5));(O.c (O.b (O.d (x.I 23) (O.lit .u8 1)) (O.b (O.f (O.d u25 (O.lit .u8 1))) (O.a (ap O [.int u22] (cr O c2 kM 0))) (O.c (O.g 148 [] [.int (x.I 24)]) fun c3=>(O.b (x.B 27) (O.a (ap O [.int u21] (ap O (cr O c2 kR 0) (ap O [.int (O.lit .u8 2),.int (x.I 24)] (cr O c2 [1,3,0,0,0,0,0] 16))))) (O.a (ap O [.int u21] (ap O (cr O c2 kR 0) (ap O [.int (O.lit .u8 2),.int (O.h c3 0)] (cr O c2 [1,3,0,0,0,0,0] 16)))))))) (O.b (O.d (x.I 23) (O.lit .u8 2)) (O.c (O.b (O.f (O.d u25 (O.lit .u8 2))) (O.a (ap O [.int u22] (cr O c2 kM 0))) (O.c (O.g 141 [] (ap O (cr O c2 kM 0) [.int u19])) fun c3=>let u16:=(O.s .i64 (O.h c3 0) u22);let u9:=(O.d u16 u22);let u8:=(O.r u16 u23);(O.c (O.g 175 [] (ap O (cr O c2 kM 0) [.int (O.h c3 0)])) fun c4=>(O.n u8 (O.c (O.g 174 [] (ap O (cr O c2 kR 0) [.int (O.h c3 0),.int (O.h c4 0),.int (O.ae u9 u26 u27)])) fun c5=>(O.b (O.f (O.d (O.h c5 28) u21)) (O.a (ap O [.int u22] (cr O c2 kM 0))) (O.c (O.g 176 [] (ap O (cr O c2 kR 0) (ap O (cr O c5 kI 0) (xr x [0,0,0,0,1,0,0,0,0,0,0,0,1,0,0,0,0,1,0] 23)))) fun c6=>let u14:=(O.ac u24 (O.ab [(cr O c6 kI 0)]));(O.b (O.f (O.d (O.h c6 28) u21)) (O.a (ap O [.int (O.h c6 28)] (cr O c2 kM 0))) (O.n u8 (O.n (O.z (O.l u14) 304) (O.a (ap O [.int u21] (ap O (cr O c2 kR 0) (ap O [.int (O.lit .u8 3),.int u28,.bool (O.k c2 16),.rows u14,.int (O.ae (O.d u16 u21) u21 u27),.int (O.ae u9 u21 u26)] (cr O c2 [0,0,0] 20))))))))))))))) fun c3=>(O.a (cr O c3 [0,2,0,0,0,0,0,0,0,1,0,0,0,0,3,0,0,1,3,0,0,0,0,0] 0))) (O.b (O.d (x.I 23) (O.lit .u8 12)) (O.b (O.f (O.d u25 (O.lit .u8 4))) (O.a (ap O [.int u22] (cr O c2 kM 0))) (O.b (O.f (O.d (x.I 24) u28)) (O.a (ap O [.int u23] (cr O c2 kM 0))) (O.a (ap O [.int u21] (ap O (cr O c2 kR 0) (ap O [.int (O.lit .u8 2),.int u28,.bool (x.B 27)] (cr O c2 [3,0,0,0,0,0] 17))))))) (O.b (O.d (x.I 23) (O.lit .u8 16)) (O.c (O.b (O.d u25 (O.lit .u8 3)) (O.n u4 (O.a (ap O (cr O c2 [2,0,0,0,0,0,0,0,1,0,0,0,0,3,0,0,1] 0) (ap O [.rows (O.y u24 u12 27 [.int (O.lit .u8 5)])] (cr O c2 [0,0,0,0,0] 18))))) (O.a (cr O c2 kM 0))) fun c3=>(O.c (O.g 177 [] (cr O c3 kR 0)) fun c4=>(O.a (ap O [.int u21] (ap O (cr O c3 kR 0) (ap O [.int (O.lit .u8 5)] (ap O (cr O c3 [0,1,3,0,0] 15) [.int (O.h c4 0),.int u21,.int u21]))))))) (O.c (O.b (O.f (O.d u25 (O.lit .u8 3))) (O.a (ap O [.int u22] (cr O c2 kM 0))) (O.n u4 (O.c (O.g 176 [] (ap O (cr O c2 kR 0) (ap O (rr O u24 u12 kI 0) (xr x [0,0,0,0,1,0,0,0,0,0,0,0,1,0,0,0,0,1,0] 23)))) fun c3=>let u3:=(O.y u24 u12 0 (cr O c3 kI 0));let u2:=(O.l u3);(O.b (O.f (O.d (O.h c3 28) u21)) (O.a (ap O [.int (O.h c3 28)] (cr O c2 kM 0))) (O.n u4 (O.b (O.i (O.d (x.I 23) (O.lit .u8 13)) (O.f (O.d (x.I 24) (O.h c3 0))) O.e) (O.c (O.c (O.w (fun s4 c4=>let u30:=(O.h c4 0);let u1:=(O.r u30 u2);(O.b (O.t u21 u30) (O.n u1 (O.b (O.d (O.q u3 u30 0) (x.I 24)) (O.n u1 (O.c (O.g 191 [] (rr O u3 u30 kI 0)) fun c5=>(O.n u1 (O.a (ap O [.int u21] (ap O (cr O c2 [2,0,0,0,0,0,0,0,1,0,0,0,0,3,0,0,1] 0) (ap O [.rows (O.y u3 u30 0 (cr O c5 kI 0))] (cr O c2 [0,0,0,0,0] 18)))))))) (s4 [.int (O.s .i64 u30 u22)]))) (O.a [.int u22]))) [.int (O.s .i64 u2 u22)]) fun c4=>(O.b (O.aa c4 0) (O.a (cr O c4 kM 1)) (O.n u11 (O.n u11 (O.a (ap O (cr O c2 [2,0,0,0,0,0,0,0,1,0,0,0,0,3,0,0,1] 0) (ap O [.rows u3,.int (O.ae (O.d u17 u21) u0 u27),.int (O.ae u10 u0 u26)] (cr O c2 [0,0,0] 20)))))))) fun c4=>(O.a (ap O [.int u21] (cr O c4 kM 0)))) (O.a (ap O [.int u21] (ap O (cr O c2 [2,0,0,0,0,0,0,0,1,0,0,0,0,3,0,0,1] 0) (ap O [.rows u3] (cr O c2 [0,0,0,0,0] 18))))))))))) fun c3=>(O.a (cr O c3 [0,2,0,0,0,0,0,0,0,1,0,0,0,0,3,0,0,1,3,0,0,0,0,0] 0))))))) fun c3=>let u29:=(O.o c3 18);let u18:=(O.l u29);let u15:=(O.d u18 (lq9 O 3));let u13:=(O.s .i64 u18 u22);let u7:=(O.d u18 (O.af .i64 u23 (O.h c3 3)));let u6:=(O.q u29 u13 0);let u5:=(O.r u13 u18);(O.b (O.f (O.d (O.h c3 0) u21)) (O.c (O.g 119 [] (xr x kM 0)) fun c4=>(O.a (ap O (cr O c4 kM 0) [.int (O.h c3 0)]))) (O.c (O.n (O.f (O.x (O.f (O.f (O.d (O.h c3 15) (O.lit .u8 3)))) (O.f u5))) (O.b (O.i (O.f (O.d (O.h c3 15) (O.lit .u8 3))) O.j (O.d (O.q u29 u13 27) (O.lit .u8 0))) (O.a (cr O c3 kM 1)) (O.n u5 (O.c (O.g 152 [] (ap O (cr O c3 kM 1) [.int (O.h c3 16)])) fun c4=>(O.c (O.g 148 [] [.int (O.h c3 16)]) fun c5=>(O.c (O.g 152 [] (ap O (cr O c3 kM 1) [.int (O.h c5 0)])) fun c6=>(O.c (O.b u7 (O.a [.bool u7]) (O.c (O.b u15 (O.g 152 [] (ap O (cr O c3 kR 1) (ap O [.int (O.lit .u8 2)] (ap O (cr O c3 [0,1,3,0,0,0,0,0] 16) [.int u6])))) (O.a [.int u21])) fun c7=>(O.c (O.b u15 (O.g 148 [] [.int u6]) (O.a [.int u21])) fun c8=>(O.c (O.b u15 (O.g 152 [] (ap O (cr O c3 kR 1) (ap O [.int (O.lit .u8 2)] (ap O (cr O c3 [0,1,3,0,0,0,0,0] 16) [.int (O.h c8 0)])))) (O.a [.int u21])) fun c9=>(O.a [.bool (O.i u15 (O.m (O.h c7 0) (O.h c9 0)) O.e)]))))) fun c7=>(O.b (O.k c7 0) (O.c (O.g 153 [] (ap O (cr O c3 kR 1) (ap O [.int (O.lit .u8 5)] (cr O c3 [0,1,3,0,0,0,0,0] 16)))) fun c8=>(O.a (ap O (cr O c3 kR 1) (ap O [.int (O.lit .u8 5)] (ap O (cr O c3 [0,1,3,0,0] 16) (cr O c8 [0,0,0] 0)))))) (O.b (O.i (O.i (O.d u18 u23) (O.m u21 (O.h c3 11)) O.e) (O.t (O.h c3 11) (O.s .i64 (O.h c4 0) (O.h c6 0))) O.e) (O.a (ap O (cr O c3 kR 1) (ap O [.int (O.lit .u8 4)] (cr O c3 [0,1,3,0,0,0,0,0] 16)))) (O.a (ap O (cr O c3 kR 1) (ap O [.int (O.lit .u8 2)] (cr O c3 [0,1,3,0,0,0,0,0] 16))))))))))))) fun c4=>(O.a (ap O (cr O c4 kM 0) [.int u21]))))))))))
def BM:Nat→Env:=eL [(117,Dk),(118,Dn),(119,JL),(141,Dm),(148,BV),(152,CD),(153,Gi),(174,Ga),(175,Hy),(176,Hh),(177,B1),(191,CT)]
theorem WR {N ls}:BM N 117 [] ls=Dk N ls:=id rfl
theorem VO {N ls}:BM N 118 [] ls=Dn N ls:=id rfl
theorem Vw {N ls}:BM N 119 [] ls=JL N ls:=id rfl
theorem Fc {N ls}:BM N 141 [] ls=Dm N ls:=id rfl
theorem Fk {N ls}:BM N 148 [] ls=BV N ls:=id rfl
theorem Kf {N ls}:BM N 152 [] ls=CD N ls:=id rfl
theorem JN {N ls}:BM N 153 [] ls=Gi N ls:=id rfl
theorem Eo {N ls}:BM N 174 [] ls=Ga N ls:=id rfl
theorem FA {N ls}:BM N 175 [] ls=Hy N ls:=id rfl
theorem DT {N ls}:BM N 176 [] ls=Hh N ls:=id rfl
theorem Dq {N ls}:BM N 177 [] ls=B1 N ls:=id rfl
theorem Hx {N ls}:BM N 191 [] ls=CT N ls:=id rfl
def QU:=oS iG QE BM
def dB:List Nat:=[2,0,0,0,0,0,0,0,1,0,0,0,0,3,0,0,1,3,0,0,0,0,0,0,0,0,0,0,1,0,0,0,0,0,0,0,1,0,0,0,0,1,0]
def Pb (O:Alg) (x:Ags O):O.M:=(O.b (O.t (lq9 O 4000) (x.I 23)) (O.a (ap O (xr x kM 0) [.int (lq9 O 26)])) (O.c (O.g 96 [] (ap O (xr x kM 0) (xr x [0,0,0,0,1,0,0,0,0,0,0,0,1,0,0,0,0,1,0] 24))) fun c0=>(O.a (cr O c0 [2,0,0,0,0,0,0,0,1,0,0,0,0,3,0,0,1,3,0,0,0,0,0,0] 0))))
def IK (N:Nat):Env:=fun f fns ls=>(cond (Nat.beq f 96&&AF fns []) (QU N ls) none)
theorem Z0 {N ls}:IK N 96 [] ls=QU N ls:=id rfl
def QC:=oS dB Pb IK
def Xd:List Nat:=[0,2,0,0,0,0,0,0,0,1,0,0,0,0,3,0,0,1,3,0,0,0,0,0,2,0,0,0,0,0,0,0,1,0,0,0,0,3,0,0,1,3,0,0,0,0,0,0,0,0,0,0,1,0,0,0,0,1,0]
def J1 (O:Alg) (x:Ags O):O.M:=let u0:=(O.s .i64 (O.l (x.L 18)) (lq9 O 1));(O.n (O.r u0 (O.l (x.L 18))) (O.n (O.r u0 (O.l (x.L 41))) (O.c (O.g 52 [] (ap O (xr x kR 1) (xr x [0,0,0,0,0,1,0,0,0,0,1,0] 47))) fun c0=>(O.a (ap O [.int (x.I 0),.int u0,.int (O.q (x.L 18) u0 10),.int (O.q (x.L 18) u0 11),.int (O.q (x.L 18) u0 15),.int (O.q (x.L 18) u0 12),.int (O.q (x.L 18) u0 13),.bool (O.rB (x.L 18) u0 20)] (ap O (xr x [0,0,0,0,0,1,0,0,0,0,1,0] 47) (ap O (cr O c0 [0,0,0,0,0,0,1,1,1,1] 0) [.int (O.q (x.L 41) u0 3),.int (O.q (x.L 41) u0 4)])))))))
def MO:Nat→Env:=eL [(52,CR)]
theorem Oo {N ls}:MO N 52 [] ls=CR N ls:=id rfl
def KN:=oS Xd J1 MO
def bA:List Nat:=[2,0,0,0,0,0,0,0,1,0,0,0,0,3,3]
def PY (O:Alg) (x:Ags O):O.M:=let u3:=(lq9 O 1);let u2:=(lq9 O 0);(O.c (O.g 72 [] (xr x kR 0)) fun c0=>(O.b (O.f (O.d (O.h c0 23) u2)) (O.a [.rows O.u,.str (O.v ⟨#[]⟩),.int u2,.int u2,.int u2,.int u2,.int u2,.int u2,.int u2,.bool O.e,.int u2,.int u2,.int u2,.int u2,.rows O.u,.int (O.lit .u8 0),.int u2,.bool O.e,.rows O.u,.int u2,.int u2,.int (O.lit .u8 0),.int u2,.int u2,.int u2,.int u3]) (O.c (O.w (fun s1 c1=>let u5:=(O.o c1 0);let u4:=(O.h c1 1);let u1:=(O.p .i64 u4 u3);(O.b (O.m u4 (O.l (x.L 14))) (O.n (O.r u4 (O.l (x.L 14))) (O.c (O.g 73 [] (ap O (cr O c1 kM 2) (ap O [.int u4] (rr O (x.L 14) u4 [0,0,0,0,1,0,0,0,0,0,0,0,1,0,0,0,0,1,0] 0)))) fun c2=>(O.b (O.f (O.d (O.h c2 23) u2)) (O.a (ap O [.int u2,.rows u5,.int u4,.int (O.h c2 23)] (cr O c1 kM 2))) (O.b (O.d (O.q (x.L 14) u4 0) (O.lit .u8 4)) (O.c (O.g 74 [] (ap O (cr O c1 [0,2,0,0,0,0,0,0,0,1,0,0,0,0,3,0,0,1,3,0,0,0,0,0] 1) (ap O (cr O c2 kM 0) (rr O (x.L 14) u4 [0,0,0,0,0,1,0,0,0,0,1,0] 7)))) fun c3=>let u0:=(O.ac u5 (O.ab [(cr O c3 [0,0,0,0,0,0,0,1,0,0,0,0,0,1,0,0,0,0,1,0,0,0,0,0,0,0,1,1,1,1,0,0] 0)]));(O.n (O.z (O.l u0) 216) (s1 (ap O [.rows u0,.int u1] (cr O c2 kM 0))))) (s1 (ap O [.rows u5,.int u1] (cr O c2 kM 0))))))) (O.a (ap O [.int u3,.rows u5] (cr O c1 kM 2))))) (ap O [.rows O.u,.int u2] (cr O c0 kM 0))) fun c1=>(O.b (O.aa c1 0) (O.a (ap O [.rows (O.o c1 1)] (ap O (cr O c1 kM 4) [.int (O.h c1 2),.int (O.h c1 3)]))) (O.a (ap O (cr O c1 [3,2,0,0,0,0,0,0,0,1,0,0,0,0,3,0,0,1,3,0,0,0,0,0] 1) [.int (lq9 O (-1)),.int u2]))))))
def EI (N:Nat):Env:=fun f fns ls=>(cond (Nat.beq f 72&&AF fns []) (Rt N ls) (cond (Nat.beq f 73&&AF fns []) (QC N ls) (cond (Nat.beq f 74&&AF fns []) (KN N ls) none)))
theorem cy {N ls}:EI N 72 [] ls=Rt N ls:=id rfl
theorem Qx {N ls}:EI N 73 [] ls=QC N ls:=id rfl
theorem Kx {N ls}:EI N 74 [] ls=KN N ls:=id rfl
def FB:=oS bA PY EI
def WG:List Nat:=[2,0,0,0,0,0,0,0,1,0,0,0,0,3,3]
def KX (O:Alg) (x:Ags O):O.M:=(O.c (O.g 39 [] (xr x [2,0,0,0,0,0,0,0,1,0,0,0,0,3,3] 0)) fun c0=>(O.a (cr O c0 [2,0,0,0,0,0,0,0,1,0,0,0,0,3,0,0,1,3,0,0,0,0,0,0,0] 1)))
def FT (N:Nat):Env:=fun f fns ls=>(cond (Nat.beq f 39&&AF fns []) (FB N ls) none)
theorem aI {N ls}:FT N 39 [] ls=FB N ls:=id rfl
def LD:=oS WG KX FT
def YH:List Nat:=[2,0,0,0,0,0,0,0,1,0,0,0,0,3,3]
def Mg (O:Alg) (x:Ags O):O.M:=let u0:=(lq9 O 0);(O.c (O.g 70 [] (xr x kR 0)) fun c0=>(O.b (O.f (O.d (O.h c0 0) u0)) (O.a [.int (O.h c0 0)]) (O.b (O.m (lq9 O 4000) (O.l (x.L 14))) (O.a [.int (lq9 O 9)]) (O.c (O.g 71 [] (xr x [2,0,0,0,0,0,0,0,1,0,0,0,0,3,3] 0)) fun c1=>(O.b (O.f (O.d (O.h c1 24) u0)) (O.a [.int (lq9 O 10)]) (O.a [.int u0]))))))
def Ej (N:Nat):Env:=fun f fns ls=>(cond (Nat.beq f 70&&AF fns []) (Ab N ls) (cond (Nat.beq f 71&&AF fns []) (LD N ls) none))
theorem Wf {N ls}:Ej N 70 [] ls=Ab N ls:=id rfl
theorem Yr {N ls}:Ej N 71 [] ls=LD N ls:=id rfl
def HD:=oS YH Mg Ej
def Zh:List Nat:=[3]
def Lw (O:Alg) (x:Ags O):O.M:=let u4:=(O.l (x.L 0));(O.c (O.w (fun s0 c0=>let u6:=(O.o c0 0);let u5:=(O.h c0 1);let u3:=(O.l u6);let u2:=(O.p .i64 u5 (lq9 O 1));let u1:=(O.s .i64 u3 (lq9 O 1));(O.b (O.m u5 u4) (O.n (O.r u5 u4) (O.b (O.f (O.d (O.q (x.L 0) u5 0) (O.lit .u8 2))) (s0 [.rows u6,.int u2]) (O.c (O.b (O.m (lq9 O 0) u3) (O.n (O.r u1 u3) (O.a [.rows (O.y u6 u1 1 [.int u5])])) (O.a [.rows u6])) fun c1=>let u0:=(O.ac (O.o c1 0) (O.ab [[.int u5,.int u4]]));(O.n (O.z (O.l u0) 16) (s0 [.rows u0,.int u2]))))) (O.a [.rows u6]))) [.rows O.u,.int (lq9 O 0)]) fun c0=>(O.a [.rows (O.o c0 0)]))
def VW:Nat→Env:=eL []
def D4:=oS Zh Lw VW
def VK:List Nat:=[2,0,0,0,0,0,0,0,1,0,0,0,0,3,3,0,0]
def Ig (O:Alg) (x:Ags O):O.M:=let u2:=(lq9 O 1);let u1:=(lq9 O 0);(O.c (O.w (fun s0 c0=>let u4:=(O.h c0 0);let u3:=(O.h c0 1);let u0:=(O.p .i64 u3 u2);(O.b (O.m u3 (O.l (x.L 14))) (O.n (O.r u3 (O.l (x.L 14))) (O.b (O.f (O.d (O.q (x.L 14) u3 2) (x.I 15))) (s0 [.int u4,.int u0]) (O.b (O.i (O.f (O.d (O.q (x.L 14) u3 4) (x.I 16))) O.j (O.f (O.d (O.q (x.L 14) u3 25) u1))) (O.a [.int u1,.bool O.e]) (O.b (O.rB (x.L 14) u3 26) (s0 [.int (O.p .i64 u4 u2),.int u0]) (s0 [.int u4,.int u0]))))) (O.a [.int u2,.int u4]))) [.int u1,.int u1]) fun c0=>(O.b (O.aa c0 0) (O.a [.bool (O.k c0 1)]) (O.a [.bool (O.d (O.h c0 1) (x.I 4))])))
def S5:Nat→Env:=eL []
def Ic:=oS VK Ig S5
def MJ:List Nat:=[2,0,0,0,0,0,0,0,1,0,0,0,0,3,3,0]
def Et (O:Alg) (x:Ags O):O.M:=let u18:=(lq9 O 1);let u17:=(lq9 O 0);let u16:=(lq9 O (-1));let u10:=(O.m (x.I 15) u17);(O.c (O.g 37 [] (xr x [2,0,0,0,0,0,0,0,1,0,0,0,0,3,3] 0)) fun c0=>(O.b (O.f (O.d (O.h c0 0) u17)) (O.a [.rows O.u,.int (O.h c0 0)]) (O.c (O.b (O.f u10) (O.g 38 [] [.rows (x.L 14)]) (O.a [.rows O.u])) fun c1=>(O.b (O.i u10 O.j (O.t (O.l (O.o c1 0)) (x.I 15))) (O.a [.rows O.u,.int (lq9 O 2)]) (O.c (O.g 39 [] (xr x [2,0,0,0,0,0,0,0,1,0,0,0,0,3,3] 0)) fun c2=>let u28:=(O.o c2 0);let u14:=(O.l u28);(O.c (O.c (O.c (O.w (fun s3 c3=>let u29:=(O.h c3 1);let u22:=(O.h c3 0);(O.b (O.m u22 u14) (O.n (O.r u22 u14) (O.b (O.f (O.d (O.q u28 u22 1) u29)) (O.a [.int u17,.int u22,.int u29]) (s3 [.int (O.p .i64 u22 u18),.int u29]))) (O.a [.int u18,.int u29]))) [.int u17,.int (x.I 15)]) fun c3=>(O.b (O.aa c3 0) (O.a [.int (O.h c3 1),.int (O.h c3 2)]) (O.a [.int u16,.int (O.h c3 1)]))) fun c3=>(O.b (O.d (O.h c3 0) u16) (O.a [.rows u28,.int (O.h c3 1)]) (O.c (O.w (fun s4 c4=>let u30:=(O.h c4 3);let u24:=(O.h c4 1);let u23:=(O.h c4 2);let u20:=(O.o c4 0);let u11:=(O.l u20);let u6:=(O.p .i64 u23 u18);(O.b (O.m u23 u11) (O.n (O.r u23 u11) (O.b (O.f (O.f (O.d (O.q u20 u23 1) u30))) (O.n (O.r u24 u11) (s4 [.rows (O.y u20 u24 0 (rr O u20 u23 [0,0,0,0,0,0,0,1,0,0,0,0,0,1,0,0,0,0,1,0,0,0,0,0,0,0,1,1,1,1,0,0] 0)),.int (O.p .i64 u24 u18),.int u6,.int u30])) (s4 [.rows u20,.int u24,.int u6,.int u30]))) (O.a [.rows u20,.int u24,.int u30]))) [.rows u28,.int (O.h c3 0),.int (O.p .i64 (O.h c3 0) u18),.int (O.h c3 1)]) fun c4=>let u25:=(O.h c4 1);let u12:=(O.l (O.o c4 0));let u5:=(O.ak (O.o c4 0) u17 u25);let u4:=(O.l (O.ak (O.o c4 0) u25 u12));(O.n (O.am u25 u12 u12) (O.n (O.am u17 u25 (O.l (O.ac u5 (O.an u4 [.int u17,.int u17,.int u17,.int u17,.int u17,.int u17,.int u17,.bool O.e,.int (O.lit .u8 0),.int (O.lit .u8 0),.int u17,.int u17,.int u17,.bool O.e,.int (O.lit .u8 0),.int u17,.int u17,.int u17,.bool O.e,.int u17,.int u17,.int u17,.int u17,.int u17,.int u17,.int u17,.bool O.e,.bool O.e,.bool O.e,.bool O.e,.int u17,.int u17])))) (O.a [.rows (O.ak (O.ac u5 (O.an u4 [.int u17,.int u17,.int u17,.int u17,.int u17,.int u17,.int u17,.bool O.e,.int (O.lit .u8 0),.int (O.lit .u8 0),.int u17,.int u17,.int u17,.bool O.e,.int (O.lit .u8 0),.int u17,.int u17,.int u17,.bool O.e,.int u17,.int u17,.int u17,.int u17,.int u17,.int u17,.int u17,.bool O.e,.bool O.e,.bool O.e,.bool O.e,.int u17,.int u17])) u17 u25),.int (O.h c4 2)])))))) fun c3=>let u31:=(O.o c3 0);let u13:=(O.l u31);(O.c (O.w (fun s4 c4=>let u26:=(O.o c4 0);let u21:=(O.h c4 1);let u15:=(O.l u26);let u9:=(O.d u21 u17);let u8:=(O.p .i64 u21 u18);let u7:=(O.s .i64 u21 u18);(O.b (O.m u21 u13) (O.n (O.r u21 u13) (O.c (O.c (O.w (fun s5 c5=>let u32:=(O.h c5 0);(O.b (O.m u32 u15) (O.n (O.r u32 u15) (O.b (O.d (O.q u26 u32 0) (O.h c5 5)) (O.a (ap O [.int u17] (cr O c5 [0,0,0,0,0,0,0,0,1,0,0,0,0,0,1,0,0,0,0,1,0,0,0,0,0,0,0,1,1,1,1,0,0] 0))) (s5 (ap O [.int (O.p .i64 u32 u18)] (cr O c5 [0,0,0,0,0,0,0,1,0,0,0,0,0,1,0,0,0,0,1,0,0,0,0,0,0,0,1,1,1,1,0,0] 1))))) (O.a (ap O [.int u18] (cr O c5 [0,0,0,0,0,0,0,1,0,0,0,0,0,1,0,0,0,0,1,0,0,0,0,0,0,0,1,1,1,1,0,0] 1))))) (ap O [.int u17] (rr O u31 u21 [0,0,0,0,0,0,0,1,0,0,0,0,0,1,0,0,0,0,1,0,0,0,0,0,0,0,1,1,1,1,0,0] 0))) fun c5=>(O.b (O.aa c5 0) (O.a (cr O c5 [0,0,0,0,0,0,0,0,1,0,0,0,0,0,1,0,0,0,0,1,0,0,0,0,0,0,0,1,1,1,1,0,0] 1)) (O.a (ap O [.int u16] (cr O c5 [0,0,0,0,0,0,0,1,0,0,0,0,0,1,0,0,0,0,1,0,0,0,0,0,0,0,1,1,1,1,0,0] 1))))) fun c5=>let u2:=(O.i u9 O.j (O.f (O.d (O.q u31 u7 2) (O.h c5 3))));let u1:=(O.ac u26 (O.ab [[.int (O.h c5 5),.int u17,.int u17,.int u17,.int u17,.int u17,.int u17]]));let u0:=(O.l u1);(O.c (O.b (O.m (O.h c5 0) u17) (O.n (O.z u0 56) (O.a [.rows u1,.int (O.s .i64 u0 u18)])) (O.a [.rows u26,.int (O.h c5 0)])) fun c6=>let u19:=(O.h c6 1);let u3:=(O.y (O.o c6 0) u19 3 [.int (O.p .i64 (O.q (O.o c6 0) u19 3) (O.h c5 26))]);(O.n (O.r u19 (O.l (O.o c6 0))) (O.c (O.b (O.k c5 27) (O.a [.rows (O.y u3 u19 1 [.int (O.p .i64 (O.q u3 u19 1) u18)])]) (O.a [.rows u3])) fun c7=>(O.c (O.b (O.k c5 29) (O.a [.rows (O.y (O.o c7 0) u19 4 [.int (O.p .i64 (O.q (O.o c7 0) u19 4) u18)])]) (O.a [.rows (O.o c7 0)])) fun c8=>let u27:=(O.o c8 0);(O.c (O.b (O.d (O.h c5 9) (O.lit .u8 2)) (O.a [.rows (O.y u27 u19 5 [.int (O.p .i64 (O.q u27 u19 5) u18)])]) (O.b (O.d (O.h c5 9) (O.lit .u8 3)) (O.a [.rows (O.y u27 u19 6 [.int (O.p .i64 (O.q u27 u19 6) u18)])]) (O.a [.rows u27]))) fun c9=>(O.n (O.f (O.x (O.f u9) (O.f (O.r u7 u13)))) (O.c (O.b u2 (O.g 44 [] (ap O (xr x kR 0) [.rows u31,.int (O.h c5 3),.int (O.h c5 5)])) (O.a [.bool O.e])) fun c10=>(O.b (O.i u2 (O.k c10 0) O.e) (s4 [.rows (O.y (O.o c9 0) u19 2 [.int (O.p .i64 (O.q (O.o c9 0) u19 2) u18)]),.int u8]) (s4 [.rows (O.o c9 0),.int u8]))))))))))) (O.a [.rows u26]))) [.rows O.u,.int u17]) fun c4=>(O.a [.rows (O.o c4 0),.int u17]))))))))
def Bb (N:Nat):Env:=fun f fns ls=>(cond (Nat.beq f 37&&AF fns []) (HD N ls) (cond (Nat.beq f 38&&AF fns []) (D4 N ls) (cond (Nat.beq f 39&&AF fns []) (FB N ls) (cond (Nat.beq f 44&&AF fns []) (Ic N ls) none))))
theorem TH {N ls}:Bb N 37 [] ls=HD N ls:=id rfl
theorem P6 {N ls}:Bb N 38 [] ls=D4 N ls:=id rfl
theorem Ta {N ls}:Bb N 39 [] ls=FB N ls:=id rfl
theorem Nw {N ls}:Bb N 44 [] ls=Ic N ls:=id rfl
def C0:=oS MJ Et Bb
def kX:List Nat:=[]
def kf (O:Alg) (x:Ags O):O.M:=let u1:=(lq9 O 0);let u0:=(lq9 O 1);(O.a [.str (O.v ⟨#[84,69,83,84]⟩),.int (lq9 O 2),.int u0,.int u0,.int (lq9 O 4),.int u1,.int u0,.int u0,.bool O.e,.int u1,.int u1,.int u1,.int (lq9 O 11),.rows O.u])
def uC:Nat→Env:=eL []
def Mt:=oS kX kf uC
def kL:List Nat:=[0,0,0,0,0,1,0,0,0,0,1,0]
def lh (O:Alg) (x:Ags O):O.M:=let u0:=(lq9 O 0);(O.a (ap O [.int (O.lit .u8 4),.int u0,.int u0,.int u0,.bool O.e,.int u0,.int u0] (xr x [0,0,0,0,0,1,0,0,0,0,1,0] 0)))
def vI:Nat→Env:=eL []
def X6:=oS kL lh vI
def tE:List Nat:=[]
def sU (O:Alg) (x:Ags O):O.M:=let u2:=(lq9 O 2);let u1:=(lq9 O 1);let u0:=(lq9 O 0);(O.c (O.g 55 [] [.int (O.lit .u8 1),.int (O.lit .u8 1),.int u1,.int u0,.int u0,.bool O.e,.int (O.lit .u8 0),.int u0,.int u0,.int u0,.bool O.e,.int u0]) fun c0=>(O.c (O.g 55 [] [.int (O.lit .u8 1),.int (O.lit .u8 0),.int u0,.int u0,.int u0,.bool O.e,.int (O.lit .u8 1),.int u1,.int u0,.int u0,.bool O.e,.int u0]) fun c1=>(O.c (O.g 55 [] [.int (O.lit .u8 2),.int (O.lit .u8 0),.int u0,.int u0,.int u0,.bool O.e,.int (O.lit .u8 0),.int u0,.int u0,.int u0,.bool O.e,.int u0]) fun c2=>(O.c (O.g 55 [] [.int (O.lit .u8 1),.int (O.lit .u8 1),.int u0,.int u0,.int (lq9 O 4),.bool O.e,.int (O.lit .u8 0),.int u0,.int u0,.int u0,.bool O.e,.int u0]) fun c3=>(O.a [.rows (O.ab [[.int (O.lit .u8 1),.int u1,.int u0,.int u0,.bool O.j,.int u0,.int u0,.int (O.lit .u8 0),.int (O.lit .u8 0),.int u0,.int u0,.int u0,.bool O.e,.int (O.lit .u8 0),.int u0,.int u0,.int u0,.bool O.e,.int u0],[.int (O.lit .u8 2),.int u0,.int u1,.int u2,.bool O.e,.int u0,.int u0,.int (O.lit .u8 0),.int (O.lit .u8 0),.int u0,.int u0,.int u0,.bool O.e,.int (O.lit .u8 0),.int u0,.int u0,.int u0,.bool O.e,.int u0],[.int (O.lit .u8 8),.int u0,.int u2,.int u0,.bool O.e,.int u0,.int u0,.int (O.lit .u8 0),.int (O.lit .u8 0),.int u0,.int u0,.int u0,.bool O.e,.int (O.lit .u8 0),.int u0,.int u0,.int u0,.bool O.e,.int u0],[.int (O.lit .u8 3),.int u0,.int u1,.int u0,.bool O.e,.int u0,.int u0,.int (O.lit .u8 0),.int (O.lit .u8 0),.int u0,.int u0,.int u0,.bool O.e,.int (O.lit .u8 0),.int u0,.int u0,.int u0,.bool O.e,.int u0],(cr O c0 [0,0,0,0,1,0,0,0,0,0,0,0,1,0,0,0,0,1,0] 0),(cr O c1 [0,0,0,0,1,0,0,0,0,0,0,0,1,0,0,0,0,1,0] 0),[.int (O.lit .u8 2),.int u0,.int u2,.int u1,.bool O.e,.int u0,.int u0,.int (O.lit .u8 0),.int (O.lit .u8 0),.int u0,.int u0,.int u0,.bool O.e,.int (O.lit .u8 0),.int u0,.int u0,.int u0,.bool O.e,.int u0],[.int (O.lit .u8 8),.int u0,.int u1,.int u0,.bool O.e,.int u0,.int u0,.int (O.lit .u8 0),.int (O.lit .u8 0),.int u0,.int u0,.int u0,.bool O.e,.int (O.lit .u8 0),.int u0,.int u0,.int u0,.bool O.e,.int u0],[.int (O.lit .u8 3),.int u0,.int u2,.int u0,.bool O.e,.int u0,.int u0,.int (O.lit .u8 0),.int (O.lit .u8 0),.int u0,.int u0,.int u0,.bool O.e,.int (O.lit .u8 0),.int u0,.int u0,.int u0,.bool O.e,.int u0],(cr O c2 [0,0,0,0,1,0,0,0,0,0,0,0,1,0,0,0,0,1,0] 0),(cr O c3 [0,0,0,0,1,0,0,0,0,0,0,0,1,0,0,0,0,1,0] 0)])])))))
def y3:Nat→Env:=eL [(55,X6)]
def Su:=oS tE sU y3
def kP:List Nat:=[]
def Ro (O:Alg) (x:Ags O):O.M:=let u4:=(lq9 O 1);let u3:=(lq9 O 0);(O.c (O.g 27 [] []) fun c0=>(O.c (O.g 28 [] []) fun c1=>(O.c (O.g 19 [] (ap O (cr O c0 kR 0) [.rows (O.o c1 0),.int u4])) fun c2=>let u5:=(O.o c2 0);let u2:=(O.l u5);let u1:=(O.r u3 u2);let u0:=(O.i (O.f (O.d (O.h c2 1) u3)) O.j (O.f (O.d u2 u4)));(O.n (O.f (O.x (O.f u0) (O.f u1))) (O.b (O.i u0 O.j (O.f (O.x (O.d (O.q u5 u3 0) (lq9 O 2)) (O.x (O.d (O.q u5 u3 1) u4) (O.x (O.d (O.q u5 u3 2) u3) (O.x (O.d (O.q u5 u3 3) (lq9 O 5)) (O.x (O.d (O.q u5 u3 4) u3) (O.x (O.d (O.q u5 u3 5) u4) (O.d (O.q u5 u3 6) u3))))))))) (O.a [.bool O.e]) (O.n u1 (O.c (O.g 12 [] (ap O (rr O u5 u3 [0,0,0,0,0,0,0] 0) [.int (lq9 O 4)])) fun c3=>(O.n u1 (O.c (O.g 10 [] (ap O (rr O u5 u3 [0,0,0,0,0,0,0] 0) [.int (lq9 O 4)])) fun c4=>(O.a [.bool (O.i (O.i (O.i (O.ao (O.cS c3 0) (O.v ⟨#[48,46,49,45,48,45,53,45,48]⟩)) (O.d (O.h c3 1) u3) O.e) (O.x (O.d (O.h c4 0) (lq9 O 20)) (O.d (O.h c4 1) u4)) O.e) (O.d (O.h c4 2) u3) O.e)]))))))))))
def En:Nat→Env:=eL [(10,E3),(12,Hw),(19,C0),(27,Mt),(28,Su)]
theorem Sx {N ls}:En N 10 [] ls=E3 N ls:=id rfl
theorem V9 {N ls}:En N 12 [] ls=Hw N ls:=id rfl
theorem TA {N ls}:En N 19 [] ls=C0 N ls:=id rfl
theorem Zb {N ls}:En N 27 [] ls=Mt N ls:=id rfl
theorem ei {N ls}:En N 28 [] ls=Su N ls:=id rfl
def Mu:=oS kP Ro En
def hZ:List Nat:=[3]
def Sg (O:Alg) (x:Ags O):O.M:=let u1:=(O.l (x.L 0));let u0:=(O.ae (O.m (lq9 O 60) u1) (lq9 O 60) u1);(O.n (O.am (lq9 O 0) u0 u1) (O.a [.rows (O.ak (x.L 0) (lq9 O 0) u0)]))
def M1 (N:Nat):Env:=fun f fns ls=>none
def TE:=oS hZ Sg M1
def eM:List Nat:=[3]
def NE (O:Alg) (x:Ags O):O.M:=let u2:=(lq9 O 1);let u1:=(lq9 O 0);(O.c (O.w (fun s0 c0=>let u3:=(O.h c0 0);let u0:=(O.q (x.L 0) u3 1);(O.b (O.m u3 (O.l (x.L 0))) (O.n (O.r u3 (O.l (x.L 0))) (O.b (O.d (O.q (x.L 0) u3 0) (O.lit .u8 1)) (O.b (O.rB (x.L 0) u3 4) (O.a [.int u1,.int u0]) (O.a [.int u1,.int (O.s .i64 (lq9 O 3) u0)])) (s0 [.int (O.p .i64 u3 u2)]))) (O.a [.int u2]))) [.int u1]) fun c0=>(O.b (O.aa c0 0) (O.a [.int (O.h c0 1)]) (O.a [.int u2])))
def XZ:Nat→Env:=eL []
def JB:=oS eM NE XZ
def dn:List Nat:=[3]
def Nb (O:Alg) (x:Ags O):O.M:=let u4:=(lq9 O 3);let u3:=(lq9 O 1);(O.c (O.g 79 [] [.rows (x.L 0)]) fun c0=>(O.c (O.w (fun s1 c1=>let u5:=(O.h c1 1);(O.b (O.m u5 (O.l (x.L 0))) (O.n (O.r u5 (O.l (x.L 0))) (s1 [.bool (O.i (O.k c1 0) O.j (O.i (O.d (O.q (x.L 0) u5 0) (O.lit .u8 12)) (O.rB (x.L 0) u5 4) O.e)),.int (O.p .i64 u5 u3)])) (O.a [.bool (O.k c1 0)]))) [.bool O.e,.int (lq9 O 0)]) fun c1=>(O.c (O.g 38 [] [.rows (x.L 0)]) fun c2=>(O.c (O.w (fun s3 c3=>let u7:=(O.o c3 0);let u6:=(O.h c3 1);let u2:=(O.p .i64 u6 u3);(O.b (O.m u6 (O.l (O.o c2 0))) (O.c (O.b (O.d (O.al .i64 u6 (lq9 O 2)) u3) (O.a [.int (O.s .i64 u4 (O.h c0 0))]) (O.a [.int (O.h c0 0)])) fun c4=>let u1:=(O.ac u7 (O.ab [[.int (O.h c4 0)]]));let u0:=(O.ac u7 (O.ab [[.int (O.s .i64 u4 (O.h c4 0))]]));(O.b (O.i (O.k c1 0) (O.i (O.d u6 (lq9 O 2)) O.j (O.d u6 u4)) O.e) (O.n (O.z (O.l u0) 8) (s3 [.rows u0,.int u2])) (O.n (O.z (O.l u1) 8) (s3 [.rows u1,.int u2])))) (O.a [.rows u7]))) [.rows O.u,.int (lq9 O 0)]) fun c3=>(O.a [.rows (O.o c3 0)])))))
def J2:Nat→Env:=eL [(38,D4),(79,JB)]
theorem TR {N ls}:J2 N 38 [] ls=D4 N ls:=id rfl
theorem UX {N ls}:J2 N 79 [] ls=JB N ls:=id rfl
def NR:=oS dn Nb J2
def Jy:List Nat:=[2,0,0,0,0,0,0,0,1,0,0,0,0,3,3]
def D2 (O:Alg) (x:Ags O):O.M:=let u11:=(lq9 O 0);(O.c (O.g 37 [] (xr x [2,0,0,0,0,0,0,0,1,0,0,0,0,3,3] 0)) fun c0=>(O.b (O.f (O.d (O.h c0 0) u11)) (O.a [.rows O.u,.int (O.h c0 0)]) (O.c (O.g 47 [] [.rows (x.L 14)]) fun c1=>(O.c (O.g 39 [] (xr x [2,0,0,0,0,0,0,0,1,0,0,0,0,3,3] 0)) fun c2=>let u13:=(O.o c2 0);let u10:=(O.l u13);(O.c (O.w (fun s3 c3=>let u15:=(O.o c3 1);let u14:=(O.o c3 0);let u12:=(O.h c3 2);let u9:=(O.q u13 u12 1);let u8:=(O.q u13 u12 4);let u7:=(O.p .i64 u12 (lq9 O 1));let u6:=(O.s .i64 (lq9 O 3) (O.q (O.o c1 0) u9 0));let u5:=(O.au 2 u14 [u6,u8]);let u4:=(O.av 2 u14 [u6,u8]);let u3:=(O.aw 2 u14 [u6,u8] u4);let u2:=(O.y u3 u5 2 [.int (O.p .i64 u4 (lq9 O 1))]);let u1:=(O.av 2 u2 [u6,u8]);let u0:=(O.ac u15 (O.ab [[.int (lq9 O 5),.int u8,.int u1,.int (O.q u13 u12 0)]]));(O.b (O.m u12 u10) (O.n (O.r u12 u10) (O.n (O.r u9 (O.l (O.o c1 0))) (O.b (O.f (O.rB u13 u12 28)) (s3 [.rows (O.aw 2 u14 [u6,u8] u11),.rows u15,.int u7]) (O.n (O.r u5 (O.l u3)) (O.b (O.t (lq9 O 3) u1) (O.n (O.z (O.l u0) 32) (s3 [.rows u2,.rows u0,.int u7])) (s3 [.rows u2,.rows u15,.int u7])))))) (O.a [.rows u14,.rows u15]))) [.rows O.u,.rows O.u,.int u11]) fun c3=>(O.a [.rows (O.o c3 1),.int u11]))))))
def Bg (N:Nat):Env:=fun f fns ls=>(cond (Nat.beq f 37&&AF fns []) (HD N ls) (cond (Nat.beq f 39&&AF fns []) (FB N ls) (cond (Nat.beq f 47&&AF fns []) (NR N ls) none)))
theorem Qg {N ls}:Bg N 37 [] ls=HD N ls:=id rfl
theorem RQ {N ls}:Bg N 39 [] ls=FB N ls:=id rfl
theorem Oi {N ls}:Bg N 47 [] ls=NR N ls:=id rfl
def D0:=oS Jy D2 Bg
def qR:List Nat:=[2]
def UY (O:Alg) (x:Ags O):O.M:=let u3:=(lq9 O 0);let u2:=(O.ag (x.S 0));(O.b (O.i (O.ao (x.S 0) (O.v ⟨#[]⟩)) O.j (O.m (lq9 O 16) u2)) (O.a [.bool O.e]) (O.c (O.w (fun s0 c0=>let u4:=(O.h c0 0);let u1:=(O.ax (x.S 0) u4);let u0:=(O.p .i64 u4 (lq9 O 1));(O.b (O.m u4 u2) (O.n (O.r u4 u2) (O.b (O.i (O.t (O.lit .u8 65) u1) (O.t u1 (O.lit .u8 90)) O.e) (s0 [.int u0]) (O.b (O.i (O.d u4 u3) O.j (O.i (O.i (O.f (O.d u1 (O.lit .u8 95))) (O.f (O.d u1 (O.lit .u8 45))) O.e) (O.i (O.m u1 (O.lit .u8 48)) O.j (O.m (O.lit .u8 57) u1)) O.e)) (O.a [.int u3,.bool O.e]) (s0 [.int u0])))) (O.a [.int (lq9 O 1)]))) [.int u3]) fun c0=>(O.b (O.aa c0 0) (O.a [.bool (O.k c0 1)]) (O.a [.bool O.j]))))
def fj:Nat→Env:=eL []
def QY:=oS qR UY fj
def wg:List Nat:=[0,0,0]
def yB (O:Alg) (x:Ags O):O.M:=(O.a [.bool (O.i (O.t (x.I 1) (x.I 0)) (O.t (x.I 0) (x.I 2)) O.e)])
def ABl:Nat→Env:=eL []
def VP:=oS wg yB ABl
def lP:List Nat:=[2,0,0,0,0,0,0,0,1,0,0,0,0,3]
def SC (O:Alg) (x:Ags O):O.M:=let u22:=(lq9 O 8);let u21:=(lq9 O 5);let u20:=(lq9 O 2);let u19:=(lq9 O 1);let u18:=(lq9 O 0);let u17:=(lq9 O 11);let u16:=(O.l (x.L 13));let u11:=(O.f (O.d (x.I 5) u18));(O.c (O.g 97 [] [.str (x.S 0)]) fun c0=>(O.b (O.f (O.k c0 0)) (O.a [.int u21]) (O.c (O.g 98 [] [.int (x.I 1),.int u20,.int u17]) fun c1=>let u15:=(O.f (O.k c1 0));(O.c (O.b (O.f u15) (O.g 98 [] [.int (x.I 2),.int u19,.int u20]) (O.a [.bool O.e])) fun c2=>let u9:=(O.i u15 O.j (O.f (O.k c2 0)));(O.c (O.b (O.f u9) (O.g 98 [] [.int (x.I 3),.int u18,.int (lq9 O 90)]) (O.a [.bool O.e])) fun c3=>let u8:=(O.i u9 O.j (O.f (O.k c3 0)));(O.c (O.b (O.f u8) (O.g 98 [] [.int (x.I 4),.int (lq9 O 4),.int u22]) (O.a [.bool O.e])) fun c4=>let u7:=(O.i u8 O.j (O.f (O.k c4 0)));(O.c (O.b (O.f u7) (O.g 98 [] [.int (x.I 5),.int u18,.int (lq9 O 90)]) (O.a [.bool O.e])) fun c5=>let u6:=(O.i u7 O.j (O.f (O.k c5 0)));(O.c (O.b (O.f u6) (O.g 98 [] [.int (x.I 6),.int u19,.int u21]) (O.a [.bool O.e])) fun c6=>let u4:=(O.i u6 O.j (O.f (O.k c6 0)));(O.c (O.b (O.f u4) (O.g 98 [] [.int (x.I 7),.int u19,.int u21]) (O.a [.bool O.e])) fun c7=>let u3:=(O.i u4 O.j (O.f (O.k c7 0)));(O.c (O.b (O.f u3) (O.g 98 [] [.int (x.I 9),.int u18,.int (lq9 O 200)]) (O.a [.bool O.e])) fun c8=>let u2:=(O.i u3 O.j (O.f (O.k c8 0)));(O.c (O.b (O.f u2) (O.g 98 [] [.int (x.I 10),.int u18,.int (lq9 O 1000)]) (O.a [.bool O.e])) fun c9=>let u1:=(O.i u2 O.j (O.f (O.k c9 0)));(O.c (O.b (O.f u1) (O.g 98 [] [.int (x.I 11),.int u18,.int (lq9 O 9)]) (O.a [.bool O.e])) fun c10=>let u0:=(O.i u1 O.j (O.f (O.k c10 0)));(O.c (O.b (O.f u0) (O.g 98 [] [.int (x.I 12),.int u18,.int u17]) (O.a [.bool O.e])) fun c11=>(O.b (O.i u0 O.j (O.f (O.k c11 0))) (O.a [.int u20]) (O.b (O.i (O.i (O.f (O.d (x.I 10) u18)) (O.d (x.I 2) u19) O.e) O.j (O.i (O.d (x.I 3) u18) (O.i u11 O.j (O.m u18 u16)) O.e)) (O.a [.int u19]) (O.b (O.i u11 (O.m (O.af .i64 (x.I 5) (x.I 1)) (x.I 3)) O.e) (O.a [.int (lq9 O 13)]) (O.b (O.m u22 u16) (O.a [.int (lq9 O 9)]) (O.c (O.w (fun s12 c12=>let u23:=(O.h c12 0);let u14:=(O.q (x.L 13) u23 1);let u13:=(O.q (x.L 13) u23 0);let u12:=(O.m u18 u23);let u10:=(O.s .i64 u23 u19);let u5:=(O.i (O.i (O.m u13 u19) O.j (O.m u14 u13)) O.j (O.m (x.I 3) u14));(O.b (O.m u23 u16) (O.n (O.r u23 u16) (O.c (O.b (O.f u5) (O.g 98 [] [.int (O.q (x.L 13) u23 2),.int u18,.int u17]) (O.a [.bool O.e])) fun c13=>(O.b (O.i u5 O.j (O.f (O.k c13 0))) (O.a [.int u18,.int u20]) (O.n (O.f (O.x u12 (O.f (O.r u10 u16)))) (O.b (O.i u12 (O.t u13 (O.q (x.L 13) u10 1)) O.e) (O.a [.int u18,.int u22]) (s12 [.int (O.p .i64 u23 u19)])))))) (O.a [.int u19]))) [.int u18]) fun c12=>(O.b (O.aa c12 0) (O.a [.int (O.h c12 1)]) (O.a [.int u18]))))))))))))))))))))
def NG:Nat→Env:=eL [(97,QY),(98,VP)]
def Am:=oS lP SC NG
def mJ:List Nat:=[2,0,0,0,0,0,0,0,1,0,0,0,0,3]
def SP (O:Alg) (x:Ags O):O.M:=let u0:=(O.ac (O.ab []) (x.L 13));(O.n (O.z (O.l u0) 24) (O.a (ap O (xr x [2,0,0,0,0,0,0,0,1,0,0,0,0] 0) [.rows u0])))
def db:Nat→Env:=eL []
def FL:=oS mJ SP db
def tu:List Nat:=[2,0,0,0,0,0,0,0,1,0,0,0,0,3]
def XD (O:Alg) (x:Ags O):O.M:=let u0:=(lq9 O 0);(O.c (O.g 80 [] (xr x kR 0)) fun c0=>(O.b (O.f (O.d (O.h c0 0) u0)) (O.a [.str (O.v ⟨#[]⟩),.int u0,.int u0,.int u0,.int u0,.int u0,.int u0,.int u0,.bool O.e,.int u0,.int u0,.int u0,.int u0,.rows O.u,.int (O.lit .u8 0),.int u0,.bool O.e,.rows O.u,.int u0,.int u0,.int (O.lit .u8 0),.int u0,.int u0,.int (O.h c0 0)]) (O.c (O.g 100 [] (xr x kR 0)) fun c1=>(O.a (ap O (cr O c1 kR 0) [.int (O.lit .u8 1),.int u0,.bool O.e,.rows O.u,.int u0,.int u0,.int (O.lit .u8 0),.int u0,.int u0,.int u0])))))
def Rp:Nat→Env:=eL [(80,Am),(100,FL)]
theorem fM {N ls}:Rp N 80 [] ls=Am N ls:=id rfl
theorem fB {N ls}:Rp N 100 [] ls=FL N ls:=id rfl
def OZ:=oS tu XD Rp
def kh:List Nat:=[0,0,0,0,0,0,0,0,0,0,0,0,0,0,3,0,3,3,1,3,1,0,0,0,3,0,0,0]
def R6 (O:Alg) (x:Ags O):O.M:=let u5:=(O.ab []);let u4:=(O.ac u5 (x.L 24));let u3:=(O.ac u5 (x.L 19));let u2:=(O.ac u5 (x.L 17));let u1:=(O.ac u5 (x.L 16));let u0:=(O.ac u5 (x.L 14));(O.n (O.z (O.l u0) 1) (O.n (O.z (O.l u1) 8) (O.n (O.z (O.l u2) 8) (O.n (O.z (O.l u3) 8) (O.n (O.z (O.l u4) 1) (O.a (ap O (xr x [0,0,0,0,0,0,0,0,0,0,0,0,0,0] 0) (ap O [.rows u0,.int (x.I 15),.rows u1,.rows u2,.bool (x.B 18),.rows u3] (ap O (xr x [1,0,0,0] 20) (ap O [.rows u4] (xr x [0,0,0] 25)))))))))))
def eE:Nat→Env:=eL []
def AQ:=oS kh R6 eE
def lI:List Nat:=[0,0,0,0,0,0,0,0,0,0,0,0,0,0,3,0,3,3,1,3,1,0,0,0,3,0,0,0]
def R5 (O:Alg) (x:Ags O):O.M:=(O.c (O.g 154 [] (xr x kI 0)) fun c0=>(O.a (cr O c0 kI 0)))
def Tc:Nat→Env:=eL [(154,AQ)]
theorem Zg {N ls}:Tc N 154 [] ls=AQ N ls:=id rfl
def DV:=oS lI R5 Tc
end Go.Px
