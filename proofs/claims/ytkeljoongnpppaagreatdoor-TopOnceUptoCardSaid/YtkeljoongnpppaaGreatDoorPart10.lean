/- Part 10. -/
import Derived.Test.YtkeljoongnpppaaGreatDoorPart09
set_option linter.unusedVariables false
set_option linter.unusedSimpArgs false
namespace Go.Px
set_option maxRecDepth 100000
def FC:List Nat:=[2]
def E8 (O : Alg) (x : Ags O) : O.M := (O.ad "an operation")
def KL:Nat→Env:=eL []
def C0:=oS FC E8 KL
def Ek:List Nat:=[2]
def lq9 (O:Alg) (n:Int):O.I:=O.lit .i64 n
def Ej (O : Alg) (x : Ags O) : O.M := let u3 := (lq9 O 0); let u2 := (O.ai (x.S 0) u3); let u1 := (O.d (O.ag (x.S 0) (O.p ⟨#[]⟩))); let u0 := (O.q u3 (O.r (x.S 0))); (O.g (O.d (O.w u1 (O.d u0))) (O.b (O.j u1 (O.m u2 (O.lit .u8 128)) O.h) (O.g u0 (O.a [.int (O.ao .i32 u2), .int (lq9 O 1)])) (O.c (O.b (O.m (O.r (x.S 0)) (lq9 O 1)) (O.a [.int (O.lit .i32 65533), .int u3]) (O.g u0 (O.ad "a global"))) fun c0 => (O.a [.int (O.i c0 0), .int (O.i c0 1)]))))
def J3:Nat→Env:=eL []
def Ct:=oS Ek Ej J3
def QO:List Nat:=[2,0]
def QC (O:Alg) (x:Ags O):O.M:=let u2:=(lq9 O 0);(O.c (O.f 109 [] [.str (x.S 0)]) fun c0=>(O.c (O.b (O.j (O.m (x.I 1) u2) O.k (O.m (O.i c0 0) (x.I 1))) (O.a [.int (O.i c0 0)]) (O.a [.int (x.I 1)])) fun c1=>let u4:=(O.i c1 0);let u0:=(O.y .i64 u4 (lq9 O 1));(O.g (O.t u4 16) (O.c (O.ab (fun s2 c2=>let u7:=(O.o c2 1);let u5:=(O.i c2 2);let u3:=(O.s c2 0);let u1:=(O.r u3);(O.b (O.m u5 u0) (O.c (O.f 110 [] [.str u3]) fun c3=>let u6:=(O.i c3 1);(O.g (O.aa u2 u6 u1) (O.g (O.q u5 (O.l u7)) (O.g (O.aa u6 u1 u1) (s2 [.str (O.aj u3 u6 u1),.rows (O.ah u7 u5 0 [.str (O.aj u3 u2 u6)]),.int (O.u .i64 u5 (lq9 O 1))]))))) (O.a [.str u3,.rows u7]))) [.str (x.S 0),.rows (O.ar u4 [.str (O.p ⟨#[]⟩)]),.int u2]) fun c2=>let u8:=(O.o c2 1);(O.b (O.m u2 u4) (O.g (O.q u0 (O.l u8)) (O.a [.rows (O.ah u8 u0 0 [.str (O.s c2 0)])])) (O.a [.rows u8]))))))
def XH:Nat→Env:=eL [(109,C0),(110,Ct)]
def QJ:=oS QO QC XH
def TX (N:Nat) (ls:List PV):Option (List PV):=lY ls
def Bc (N:Nat) (ls:List PV):Option (List PV):=dK ls
def Nb:List Nat:=[2,2]
def NU (O : Alg) (x : Ags O) : O.M := let u1 := (lq9 O 0); let u0 := (O.r (x.S 1)); (O.b (O.j (O.e u0 u1) O.k (O.ag (x.S 1) (x.S 0))) (O.a [.int u1]) (O.b (O.e u0 (lq9 O 1)) (O.g (O.q u1 u0) (O.c (O.f 133 [] [.str (x.S 0), .int (O.ai (x.S 1) u1)]) fun c0 => (O.a [.int (O.i c0 0)]))) (O.b (O.z (O.r (x.S 0)) u0) (O.a [.int (lq9 O (-1))]) (O.ad "a global"))))
def VK:Nat→Env:=eL [(133,Bc)]
def IX:=oS Nb NU VK
def Th:List Nat:=[2,2]
def Td (O:Alg) (x:Ags O):O.M:=(O.c (O.f 112 [] [.str (x.S 0),.str (x.S 1)]) fun c0=>(O.a [.int (O.i c0 0)]))
def Zg:Nat→Env:=eL [(112,IX)]
def TZ:=oS Th Td Zg
def I0:List Nat:=[2,2,0,0]
def I8 (O:Alg) (x:Ags O):O.M:=let u8:=(lq9 O 1);let u7:=(lq9 O 0);let u2:=(O.u .i64 (O.r (x.S 0)) u8);(O.b (O.e (x.I 3) u7) (O.a [.rows O.x]) (O.b (O.ag (x.S 1) (O.p ⟨#[]⟩)) (O.c (O.f 82 [] [.str (x.S 0),.int (x.I 3)]) fun c0=>(O.a [.rows (O.o c0 0)])) (O.c (O.b (O.m (x.I 3) u7) (O.c (O.f 83 [] [.str (x.S 0),.str (x.S 1)]) fun c0=>(O.a [.int (O.u .i64 (O.i c0 0) u8)])) (O.a [.int (x.I 3)])) fun c0=>let u0:=(O.al (O.m u2 (O.i c0 0)) u2 (O.i c0 0));(O.g (O.t u0 16) (O.c (O.c (O.ab (fun s1 c1=>let u10:=(O.i c1 2);let u9:=(O.s c1 0);let u6:=(O.r u9);(O.b (O.m u10 (O.y .i64 u0 u8)) (O.c (O.f 84 [] [.str u9,.str (x.S 1)]) fun c2=>let u5:=(O.u .i64 (O.i c2 0) (x.I 2));let u3:=(O.u .i64 (O.i c2 0) (O.r (x.S 1)));(O.b (O.m (O.i c2 0) u7) (O.a (cr O c1 [2,3,0] 0)) (O.g (O.aa u7 u5 u6) (O.g (O.q u10 (O.l (O.o c1 1))) (O.g (O.aa u3 u6 u6) (s1 [.str (O.aj u9 u3 u6),.rows (O.ah (O.o c1 1) u10 0 [.str (O.aj u9 u7 u5)]),.int (O.u .i64 u10 u8)])))))) (O.a (cr O c1 [2,3,0] 0)))) [.str (x.S 0),.rows (O.ar u0 [.str (O.p ⟨#[]⟩)]),.int u7]) fun c1=>(O.a (cr O c1 [2,3,0] 0))) fun c1=>let u4:=(O.u .i64 (O.i c1 2) u8);let u1:=(O.ah (O.o c1 1) (O.i c1 2) 0 [.str (O.s c1 0)]);(O.g (O.q (O.i c1 2) (O.l (O.o c1 1))) (O.g (O.aa u7 u4 (O.l u1)) (O.a [.rows (O.an u1 u7 u4)]))))))))
def Ed (N:Nat):Env:=fun f fns ls=>(cond (Nat.beq f 82&&AR fns []) (QJ N ls) (cond (Nat.beq f 83&&AR fns []) (TX N ls) (cond (Nat.beq f 84&&AR fns []) (TZ N ls) none)))
def JT:=oS I0 I8 Ed
def Mn:List Nat:=[2,2]
def My (O:Alg) (x:Ags O):O.M:=(O.c (O.f 62 [] [.str (x.S 0),.str (x.S 1),.int (lq9 O 0),.int (lq9 O (-1))]) fun c0=>(O.a [.rows (O.o c0 0)]))
def GW (N:Nat):Env:=fun f fns ls=>(cond (Nat.beq f 62&&AR fns []) (JT N ls) none)
def Ih:=oS Mn My GW
def Xg:List Nat:=[0]
def Yg (O:Alg) (x:Ags O):O.M:=(O.a [.bool (O.j (O.e (x.I 0) (O.lit .u8 9)) O.k (O.e (x.I 0) (O.lit .u8 32)))])
def fM:Nat→Env:=eL []
def SG:=oS Xg Yg fM
def Uv:List Nat:=[0]
def U9 (O:Alg) (x:Ags O):O.M:=(O.a [.bool (O.j (O.z (O.lit .u8 32) (x.I 0)) (O.z (x.I 0) (O.lit .u8 126)) O.h)])
def cE:Nat→Env:=eL []
def N5:=oS Uv U9 cE
def XA:List Nat:=[2,0]
def Wx (O : Alg) (x : Ags O) : O.M := let u7 := (lq9 O 0); let u6 := (lq9 O 1); let u5 := (O.r (x.S 0)); (O.c (O.ab (fun s0 c0 => let u8 := (O.i c0 1); let u4 := (O.ai (x.S 0) u8); let u9 := (O.e u4 (O.lit .u8 34)); let u3 := (O.q u8 u5); let u2 := (O.u .i64 u8 u6); let u1 := (O.e u2 u5); (O.b (O.m u8 u5) (O.c (O.g u3 (O.g (O.d (O.w (O.w u9 (O.d u1)) (O.d (O.q u2 u5)))) (O.b (O.j u9 (O.j u1 O.k (O.d (O.e (O.ai (x.S 0) u2) (O.lit .u8 34)))) O.h) (O.ad "convert") (O.g u3 (O.b u9 (O.a [.int u7, .int u2]) (O.g u3 (O.c (O.f 85 [] [.int u4]) fun c1 => (O.b (O.d (O.n c1 0)) (O.a [.int u6, .str (O.p ⟨#[]⟩), .int u8, .bool O.h]) (O.a [.int u7, .int u8]))))))))) fun c1 => let u0 := (O.af (O.o c0 0) (O.ac [[.int (O.ai (x.S 0) (O.i c1 1))]])); (O.b (O.ak c1 0) (O.g (O.q (O.i c1 1) u5) (O.g (O.t (O.l u0) 1) (s0 [.rows u0, .int (O.u .i64 (O.i c1 1) u6)]))) (O.a (ap O [.int u7] (cr O c1 [2,0,1] 1))))) (O.a [.int u6]))) [.rows O.x, .int (O.u .i64 (x.I 1) u6)]) fun c0 => (O.b (O.ak c0 0) (O.a (cr O c0 [2,0,1] 1)) (O.a [.str (O.p ⟨#[]⟩), .int u5, .bool O.h])))
def cn:Nat→Env:=eL [(85,N5)]
def PP:=oS XA Wx cn
def Sq:List Nat:=[0]
def TP (O:Alg) (x:Ags O):O.M:=(O.a [.bool (O.j (O.j (O.j (O.m (O.lit .u8 32) (x.I 0)) (O.z (x.I 0) (O.lit .u8 126)) O.h) (O.d (O.e (x.I 0) (O.lit .u8 34))) O.h) (O.d (O.e (x.I 0) (O.lit .u8 59))) O.h)])
def ZS:Nat→Env:=eL []
def MT:=oS Sq TP ZS
def WS:List Nat:=[2]
def Wv (O:Alg) (x:Ags O):O.M:=let u10:=(lq9 O 1);let u9:=(lq9 O 0);let u8:=(O.r (x.S 0));(O.c (O.ab (fun s0 c0=>let u13:=(O.o c0 0);let u11:=(O.i c0 2);let u7:=(O.ai (x.S 0) u11);let u3:=(O.q u11 u8);let u2:=(O.u .i64 u11 u10);(O.b (O.m u11 u8) (O.g u3 (O.c (O.f 63 [] [.int u7]) fun c1=>(O.b (O.n c1 0) (s0 [.rows u13,.bool O.h,.int u2]) (O.g u3 (O.b (O.e u7 (O.lit .u8 59)) (O.a [.int u9,.rows u13,.int u9]) (O.b (O.n c0 1) (O.a [.int u9,.rows O.x,.int u2]) (O.g u3 (O.b (O.e u7 (O.lit .u8 34)) (O.c (O.f 64 [] [.str (x.S 0),.int u11]) fun c2=>let u1:=(O.af u13 (O.ac [[.str (O.s c2 0),.int u2,.bool O.k]]));(O.b (O.d (O.n c2 2)) (O.a [.int u9,.rows O.x,.int (O.u .i64 (O.i c2 1) u10)]) (O.g (O.t (O.l u1) 32) (s0 [.rows u1,.bool O.k,.int (O.i c2 1)])))) (O.c (O.ab (fun s2 c2=>let u14:=(O.i c2 0);let u4:=(O.m u14 u8);(O.g (O.d (O.w u4 (O.d (O.q u14 u8)))) (O.c (O.b u4 (O.f 65 [] [.int (O.ai (x.S 0) u14)]) (O.a [.bool O.h])) fun c3=>(O.b (O.j u4 (O.n c3 0) O.h) (s2 [.int (O.u .i64 u14 u10)]) (O.a [.int u14]))))) [.int u11]) fun c2=>let u12:=(O.i c2 0);let u6:=(O.e u12 u11);let u5:=(O.m u12 u8);let u0:=(O.af u13 (O.ac [[.str (O.aj (x.S 0) u11 u12),.int u2,.bool O.h]]));(O.g (O.d (O.w (O.w (O.d u6) u5) (O.d (O.q u12 u8)))) (O.b (O.j u6 O.k (O.j u5 (O.e (O.ai (x.S 0) u12) (O.lit .u8 34)) O.h)) (O.a [.int u9,.rows O.x,.int (O.u .i64 u12 u10)]) (O.g (O.aa u11 u12 u8) (O.g (O.t (O.l u0) 32) (s0 [.rows u0,.bool (O.n c0 1),.int u12])))))))))))))) (O.a [.int u10,.rows u13]))) [.rows O.x,.bool O.h,.int u9]) fun c0=>(O.b (O.ak c0 0) (O.a [.rows (O.o c0 1),.int (O.i c0 2)]) (O.a [.rows (O.o c0 1),.int u9])))
def eR:Nat→Env:=eL [(63,SG),(64,PP),(65,MT)]
def Wq:=oS WS Wv eR
def SL:List Nat:=[2]
def Rx (O:Alg) (x:Ags O):O.M:=let u6:=(lq9 O 1);let u5:=(lq9 O 0);(O.b (O.m (lq9 O 262144) (O.r (x.S 0))) (O.a [.rows O.x,.rows (O.ac [[.int u6,.int u6,.int (lq9 O 9)]])]) (O.c (O.f 40 [] [.str (x.S 0),.str (O.p ⟨#[10]⟩)]) fun c0=>let u4:=(O.l (O.o c0 0));(O.c (O.ab (fun s1 c1=>let u9:=(O.o c1 0);let u8:=(O.i c1 2);let u7:=(O.o c1 1);let u3:=(O.rS (O.o c0 0) u8 0);let u2:=(O.u .i64 u8 u6);(O.b (O.m u8 u4) (O.g (O.q u8 u4) (O.c (O.b (O.z (O.r u3) (lq9 O 1000)) (O.c (O.f 41 [] [.str u3]) fun c2=>(O.a [.int (lq9 O 4),.int (O.i c2 1),.rows (O.o c2 0)])) (O.a [.int (lq9 O 9),.int (lq9 O 1001),.rows O.x])) fun c2=>let u1:=(O.af u9 (O.ac [[.int u2,.rows (O.o c2 2)]]));let u0:=(O.af u7 (O.ac [[.int u2,.int (O.i c2 1),.int (O.i c2 0)]]));(O.b (O.j (O.m u5 (O.i c2 1)) (O.m (O.l u7) (lq9 O 50)) O.h) (O.g (O.t (O.l u0) 24) (s1 [.rows u9,.rows u0,.int u2])) (O.b (O.j (O.e (O.i c2 1) u5) (O.m u5 (O.l (O.o c2 2))) O.h) (O.g (O.t (O.l u1) 32) (s1 [.rows u1,.rows u7,.int u2])) (s1 [.rows u9,.rows u7,.int u2]))))) (O.a [.rows u9,.rows u7]))) [.rows O.x,.rows O.x,.int u5]) fun c1=>(O.a [.rows (O.o c1 0),.rows (O.o c1 1)]))))
def KH (N:Nat):Env:=fun f fns ls=>(cond (Nat.beq f 40&&AR fns []) (Ih N ls) (cond (Nat.beq f 41&&AR fns []) (Wq N ls) none))
def Ma:=oS SL Rx KH
def Df (N:Nat) (ls:List PV):Option (List PV):=oX ls
def Up:List Nat:=[0,3]
def VI (O:Alg) (x:Ags O):O.M:=(O.c (O.ab (fun s0 c0=>let u1:=(O.i c0 1);let u0:=(O.af (O.o c0 0) (O.ac [[.str (O.rS (x.L 1) u1 0)]]));(O.b (O.m u1 (O.l (x.L 1))) (O.g (O.q u1 (O.l (x.L 1))) (O.b (O.rB (x.L 1) u1 2) (O.a [.int (lq9 O 0),.str (O.p ⟨#[]⟩),.bool O.h]) (O.g (O.t (O.l u0) 16) (s0 [.rows u0,.int (O.u .i64 u1 (lq9 O 1))])))) (O.a [.int (lq9 O 1),.rows (O.o c0 0)]))) [.rows O.x,.int (lq9 O 0)]) fun c0=>(O.b (O.ak c0 0) (O.a [.str (O.s c0 1),.bool (O.n c0 2)]) (O.c (O.f 35 [] [.rows (O.o c0 1),.str (O.p ⟨#[32]⟩)]) fun c1=>(O.a [.str (O.s c1 0),.bool O.k]))))
def bB:Nat→Env:=eL [(35,Df)]
def Nk:=oS Up VI bB
def W8:List Nat:=[]
def Wo (O:Alg) (x:Ags O):O.M:=let u4:=(O.p ⟨#[]⟩);let u3:=(O.p ⟨#[112]⟩);let u2:=(O.p ⟨#[112,121]⟩);let u1:=(O.p ⟨#[115,121]⟩);let u0:=(O.p ⟨#[70,73,69,76,68]⟩);(O.a [.rows (O.ac [[.str (O.p ⟨#[84,79,83,83]⟩),.str u1,.str (O.p ⟨#[66,65,84]⟩),.str u0],[.str (O.p ⟨#[79,80,69,78]⟩),.str (O.p ⟨#[112,111]⟩),.str u4,.str u4],[.str (O.p ⟨#[66,79,87,76]⟩),.str u3,.str u4,.str u4],[.str (O.p ⟨#[66,65,76,76]⟩),.str (O.p ⟨#[98]⟩),.str u4,.str u4],[.str (O.p ⟨#[69,78,84,69,82]⟩),.str u3,.str u4,.str u4],[.str (O.p ⟨#[82,69,84,73,82,69]⟩),.str u2,.str (O.p ⟨#[72,85,82,84]⟩),.str (O.p ⟨#[79,85,84]⟩)],[.str u0,.str (O.p ⟨#[114]⟩),.str u4,.str u4],[.str (O.p ⟨#[75,69,69,80,69,82]⟩),.str u3,.str u4,.str u4],[.str (O.p ⟨#[83,85,66]⟩),.str u2,.str (O.p ⟨#[79,78]⟩),.str (O.p ⟨#[79,70,70]⟩)],[.str (O.p ⟨#[78,69,87,66,65,76,76]⟩),.str u4,.str u4,.str u4],[.str (O.p ⟨#[68,69,67,76,65,82,69]⟩),.str (O.p ⟨#[115]⟩),.str u4,.str u4],[.str (O.p ⟨#[70,79,76,76,79,87]⟩),.str u1,.str (O.p ⟨#[89,69,83]⟩),.str (O.p ⟨#[78,79]⟩)],[.str (O.p ⟨#[80,69,78,65,76,84,89]⟩),.str (O.p ⟨#[115,114]⟩),.str u4,.str u4],[.str (O.p ⟨#[82,69,86,73,69,87]⟩),.str u1,.str (O.p ⟨#[75,69,80,84]⟩),.str (O.p ⟨#[76,79,83,84]⟩)],[.str (O.p ⟨#[82,69,86,73,83,69]⟩),.str (O.p ⟨#[114,118]⟩),.str u4,.str u4],[.str (O.p ⟨#[83,84,79,80]⟩),.str u4,.str u4,.str u4]])])
def eS:Nat→Env:=eL []
def Cx:=oS W8 Wo eS
def FW:List Nat:=[3,3]
def FY (O:Alg) (x:Ags O):O.M:=let u0:=(lq9 O 0);(O.c (O.ab (fun s0 c0=>let u1:=(O.i c0 0);(O.b (O.m u1 (O.l (x.L 0))) (O.g (O.q u1 (O.l (x.L 0))) (O.b (O.ag (O.rS (x.L 0) u1 0) (O.rS (x.L 1) u0 0)) (O.a [.int u0,.int u1]) (s0 [.int (O.u .i64 u1 (lq9 O 1))]))) (O.a [.int (lq9 O 1)]))) [.int u0]) fun c0=>(O.b (O.ak c0 0) (O.a [.int (O.i c0 1)]) (O.a [.int (lq9 O (-1))])))
def DA (N:Nat):Env:=fun f fns ls=>none
def FX:=oS FW FY DA
def HR (N:Nat) (ls:List PV):Option (List PV):=sU ls
def NZ:List Nat:=[0,0]
def Nf (O:Alg) (x:Ags O):O.M:=(O.c (O.f 106 [] [.int (x.I 0),.int (x.I 1)]) fun c0=>(O.a [.str (O.s c0 0)]))
def VS:Nat→Env:=eL [(106,HR)]
def IY:=oS NZ Nf VS
def Ub:List Nat:=[0]
def U7 (O:Alg) (x:Ags O):O.M:=(O.c (O.f 79 [] [.int (x.I 0),.int (lq9 O 10)]) fun c0=>(O.a [.str (O.s c0 0)]))
def aO:Nat→Env:=eL [(79,IY)]
def Dd:=oS Ub U7 aO
def Ul:List Nat:=[0]
def Jv (O:Alg) (x:Ags O):O.M:=(O.b (O.e (x.I 0) (O.lit .u8 7)) (O.a [.int (lq9 O 0),.int (lq9 O 11)]) (O.b (O.e (x.I 0) (O.lit .u8 13)) (O.a [.int (lq9 O 1),.int (lq9 O 99)]) (O.a [.int (lq9 O 0),.int (lq9 O 100000)])))
def R4:Nat→Env:=eL []
def Gw:=oS Ul Jv R4
def Sl:List Nat:=[0,0,0]
def ND (O:Alg) (x:Ags O):O.M:=(O.a [.bool (O.j (O.z (x.I 1) (x.I 0)) (O.z (x.I 0) (x.I 2)) O.h)])
def QF:Nat→Env:=eL []
def Fl:=oS Sl ND QF
def NW:List Nat:=[2,0]
def FO (O:Alg) (x:Ags O):O.M:=(O.c (O.f 133 [] [.str (x.S 0),.int (x.I 1)]) fun c0=>(O.a [.int (O.i c0 0)]))
def Gh:Nat→Env:=eL [(133,Bc)]
theorem HK {N ls}:Gh N 133 [] ls=Bc N ls:=id rfl
def CF:=oS NW FO Gh
def YH:List Nat:=[0,0]
def M7 (O:Alg) (x:Ags O):O.M:=(O.c (O.f 42 [] []) fun c0=>(O.g (O.q (O.y .u8 (x.I 0) (O.lit .u8 1)) (O.l (O.o c0 0))) (O.c (O.f 117 [] [.str (O.rS (O.o c0 0) (O.y .u8 (x.I 0) (O.lit .u8 1)) 1),.int (x.I 1)]) fun c1=>(O.a [.bool (O.j (O.z (lq9 O 0) (O.i c1 0)) O.k (O.j (O.e (x.I 0) (O.lit .u8 5)) (O.e (x.I 1) (O.lit .u8 121)) O.h))]))))
def J8:Nat→Env:=eL [(42,Cx),(117,CF)]
theorem RK {N ls}:J8 N 42 [] ls=Cx N ls:=id rfl
theorem Mk {N ls}:J8 N 117 [] ls=CF N ls:=id rfl
def Ja:=oS YH M7 J8
def PM:List Nat:=[0,0,0]
def JF (O:Alg) (x:Ags O):O.M:=(O.a [.bool (O.j (O.z (x.I 1) (x.I 0)) (O.z (x.I 0) (x.I 2)) O.h)])
def M3:Nat→Env:=eL []
def Dz:=oS PM JF M3
def SN:List Nat:=[0,0,0,0,0,1,0,0,0,0,1,0]
def Hl (O:Alg) (x:Ags O):O.M:=let u5:=(lq9 O 0);(O.b (O.j (O.j (O.j (O.m (x.I 0) (O.lit .u8 1)) O.k (O.m (O.lit .u8 3) (x.I 0))) O.k (O.m (O.lit .u8 3) (x.I 1))) O.k (O.m (O.lit .u8 10) (x.I 6))) (O.a [.int (lq9 O 3)]) (O.c (O.f 119 [] [.int (x.I 2),.int u5,.int (lq9 O 7)]) fun c0=>let u4:=(O.d (O.n c0 0));(O.c (O.b (O.d u4) (O.f 119 [] [.int (x.I 3),.int u5,.int (x.I 2)]) (O.a [.bool O.h])) fun c1=>let u3:=(O.j (O.j u4 O.k (O.d (O.n c1 0))) O.k (O.j (O.j (O.d (O.e (x.I 4) u5)) (O.d (O.e (x.I 4) (lq9 O 4))) O.h) (O.d (O.e (x.I 4) (lq9 O 6))) O.h));(O.c (O.b (O.d u3) (O.f 119 [] [.int (x.I 7),.int u5,.int (lq9 O 2)]) (O.a [.bool O.h])) fun c2=>let u2:=(O.j u3 O.k (O.d (O.n c2 0)));(O.c (O.b (O.d u2) (O.f 119 [] [.int (x.I 8),.int u5,.int (lq9 O 11)]) (O.a [.bool O.h])) fun c3=>let u1:=(O.j u2 O.k (O.d (O.n c3 0)));(O.c (O.b (O.d u1) (O.f 119 [] [.int (x.I 9),.int u5,.int (lq9 O 11)]) (O.a [.bool O.h])) fun c4=>let u0:=(O.j u1 O.k (O.d (O.n c4 0)));(O.c (O.b (O.d u0) (O.f 119 [] [.int (x.I 11),.int u5,.int (lq9 O 8)]) (O.a [.bool O.h])) fun c5=>(O.b (O.j u0 O.k (O.d (O.n c5 0))) (O.a [.int (lq9 O 2)]) (O.a [.int u5])))))))))
def I3:Nat→Env:=eL [(119,Dz)]
theorem Kc {N ls}:I3 N 119 [] ls=Dz N ls:=id rfl
def C3:=oS SN Hl I3
def Wt:List Nat:=[0,0,0,0,1,0,0,0,0,0,0,0,1,0,0,0,0,1,0]
def Hr (O:Alg) (x:Ags O):O.M:=let u14:=(lq9 O 1);let u13:=(lq9 O 0);let u8:=(O.e (x.I 9) u13);let u15:=(O.lit .u8 0);let u7:=(O.e (x.I 6) u13);let u6:=(O.e (x.I 5) u13);let u5:=(O.e (x.I 3) u13);let u4:=(O.e (x.I 2) u13);let u3:=(O.e (x.I 1) u13);let u2:=(O.e (x.I 11) u13);let u1:=(O.e (x.I 10) u13);let u0:=(O.w (O.e (x.I 14) u13) (O.w (O.e (x.I 15) u13) (O.w (O.e (x.I 16) u13) (O.w (O.as (x.B 17) O.h) (O.e (x.I 18) u13)))));(O.b (O.j (O.m (x.I 0) (O.lit .u8 1)) O.k (O.m (O.lit .u8 16) (x.I 0))) (O.a [.int (lq9 O 3)]) (O.c (O.f 92 [] [.int (x.I 0)]) fun c0=>(O.c (O.f 93 [] [.int (x.I 1),.int u14,.int (lq9 O 2)]) fun c1=>(O.c (O.f 93 [] [.int (x.I 2),.int u14,.int (lq9 O 11)]) fun c2=>(O.c (O.f 93 [] [.int (x.I 3),.int u14,.int (lq9 O 11)]) fun c3=>(O.c (O.f 93 [] [.int (x.I 5),.int (O.i c0 0),.int (O.i c0 1)]) fun c4=>(O.c (O.f 93 [] [.int (x.I 6),.int u13,.int (lq9 O 90)]) fun c5=>let u12:=(O.ac [[.int (O.lit .u8 115),.bool u3,.bool (O.n c1 0)],[.int (O.lit .u8 112),.bool u4,.bool (O.n c2 0)],[.int (O.lit .u8 111),.bool u5,.bool (O.n c3 0)],[.int (O.lit .u8 121),.bool (O.d (x.B 4)),.bool O.k],[.int (O.lit .u8 114),.bool u6,.bool (O.n c4 0)],[.int (O.lit .u8 118),.bool u7,.bool (O.n c5 0)],[.int (O.lit .u8 98),.bool (O.w (O.e (x.I 7) u15) (O.w (O.e (x.I 8) u15) (O.w u8 (O.w u1 (O.w u2 (O.w (O.as (x.B 12) O.h) (O.w (O.e (x.I 13) u15) u0))))))),.bool O.k]]);let u11:=(O.l u12);(O.c (O.ab (fun s6 c6=>let u16:=(O.i c6 0);let u9:=(O.d (O.rB u12 u16 1));(O.b (O.m u16 u11) (O.g (O.q u16 u11) (O.c (O.b u9 (O.f 94 [] [.int (x.I 0),.int (O.v u12 u16 0)]) (O.a [.bool O.h])) fun c7=>(O.b (O.j u9 (O.d (O.n c7 0)) O.h) (O.a [.int u13,.int u14]) (s6 [.int (O.u .i64 u16 u14)])))) (O.a [.int u14]))) [.int u13]) fun c6=>(O.b (O.ak c6 0) (O.a [.int (O.i c6 1)]) (O.c (O.ab (fun s7 c7=>let u17:=(O.i c7 0);let u10:=(O.d (O.rB u12 u17 2));(O.b (O.m u17 u11) (O.g (O.q u17 u11) (O.c (O.b u10 (O.f 94 [] [.int (x.I 0),.int (O.v u12 u17 0)]) (O.a [.bool O.h])) fun c8=>(O.b (O.j u10 (O.n c8 0) O.h) (O.a [.int u13,.int (lq9 O 2)]) (s7 [.int (O.u .i64 u17 u14)])))) (O.a [.int u14]))) [.int u13]) fun c7=>(O.b (O.ak c7 0) (O.a [.int (O.i c7 1)]) (O.b (O.e (x.I 0) (O.lit .u8 4)) (O.c (O.f 95 [] (xr x [0,0,0,0,0,1,0,0,0,0,1,0] 7)) fun c8=>(O.a [.int (O.i c8 0)])) (O.a [.int u13])))))))))))))
def ED:Nat→Env:=eL [(92,Gw),(93,Fl),(94,Ja),(95,C3)]
theorem H4 {N ls}:ED N 92 [] ls=Gw N ls:=id rfl
theorem HN {N ls}:ED N 93 [] ls=Fl N ls:=id rfl
theorem JX {N ls}:ED N 94 [] ls=Ja N ls:=id rfl
theorem Dg {N ls}:ED N 95 [] ls=C3 N ls:=id rfl
def CW:=oS Wt Hr ED
def P3:List Nat:=[0,0,0,0,0,1,0,0,0,0,1,0]
def QI (O:Alg) (x:Ags O):O.M:=let u0:=(O.p ⟨#[]⟩);(O.b (O.e (x.I 1) (O.lit .u8 0)) (O.b (O.d (O.e (x.I 0) (O.lit .u8 2))) (O.a [.str (O.p ⟨#[46]⟩)]) (O.a [.str u0])) (O.b (O.e (x.I 1) (O.lit .u8 1)) (O.b (O.e (x.I 0) (O.lit .u8 2)) (O.a [.str (O.p ⟨#[111]⟩)]) (O.a [.str u0])) (O.b (O.e (x.I 1) (O.lit .u8 2)) (O.a [.str (O.p ⟨#[98]⟩)]) (O.b (O.e (x.I 1) (O.lit .u8 3)) (O.a [.str (O.p ⟨#[108]⟩)]) (O.a [.str u0])))))
def XE:Nat→Env:=eL []
def KW:=oS P3 QI XE
def RX:List Nat:=[0]
def R9 (O:Alg) (x:Ags O):O.M:=(O.a [.str (O.az (O.ao .i32 (O.u .i64 (lq9 O 48) (x.I 0))))])
def Yq:Nat→Env:=eL []
def E9:=oS RX R9 Yq
def P7:List Nat:=[0,0,0,0,0,1,0,0,0,0,1,0]
def QM (O:Alg) (x:Ags O):O.M:=let u15:=(lq9 O 0);let u14:=(O.p ⟨#[41]⟩);let u8:=(O.p ⟨#[47]⟩);let u13:=(O.u .u8 (x.I 6) (O.lit .u8 1));let u6:=(O.t (O.r u14) 1);let u2:=(O.d (O.e (x.I 9) u15));let u1:=(O.p ⟨#[78,66,67,76,83,72,82,84,79,77,81]⟩);let u12:=(O.aj u1 (x.I 6) u13);let u11:=(O.ae u8 u12);let u0:=(O.d (O.j (O.j (O.d (O.e (x.I 8) u15)) O.k u2) O.k (x.B 10)));(O.b (O.j (O.j (O.e (x.I 6) (O.lit .u8 0)) (O.e (x.I 7) u15) O.h) u0 O.h) (O.a [.str (O.p ⟨#[]⟩)]) (O.g (O.aa (x.I 6) u13 (O.r u1)) (O.g (O.t (O.r u8) 1) (O.g (O.t (O.r u12) 1) (O.c (O.f 97 [] [.int (x.I 7)]) fun c0=>let u10:=(O.ae u11 (O.s c0 0));(O.g (O.t (O.r u11) 1) (O.g (O.t (O.r (O.s c0 0)) 1) (O.b u0 (O.a [.str u10]) (O.c (O.f 57 [] [.int (x.I 8)]) fun c1=>let u4:=(O.ae (O.p ⟨#[40]⟩) (O.s c1 0));let u9:=(O.ae u10 u4);(O.g (O.t (O.r (O.p ⟨#[40]⟩)) 1) (O.g (O.t (O.r (O.s c1 0)) 1) (O.g (O.t (O.r u10) 1) (O.g (O.t (O.r u4) 1) (O.c (O.b u2 (O.c (O.f 57 [] [.int (x.I 9)]) fun c2=>let u5:=(O.ae (O.p ⟨#[44]⟩) (O.s c2 0));(O.g (O.t (O.r (O.p ⟨#[44]⟩)) 1) (O.g (O.t (O.r (O.s c2 0)) 1) (O.g (O.t (O.r u9) 1) (O.g (O.t (O.r u5) 1) (O.a [.str (O.ae u9 u5)])))))) (O.a [.str u9])) fun c2=>let u7:=(O.t (O.r (O.s c2 0)) 1);let u3:=(O.ae (O.s c2 0) (O.p ⟨#[115]⟩));(O.b (x.B 10) (O.g u7 (O.g (O.t (O.r (O.p ⟨#[115]⟩)) 1) (O.g (O.t (O.r u3) 1) (O.g u6 (O.a [.str (O.ae u3 u14)]))))) (O.g u7 (O.g u6 (O.a [.str (O.ae (O.s c2 0) u14)]))))))))))))))))))
def XJ:Nat→Env:=eL [(57,Dd),(97,E9)]
def KM:=oS P7 QM XJ
def R6:List Nat:=[0,0,0,0,0,1,0,0,0,0,1,0]
def R1 (O:Alg) (x:Ags O):O.M:=let u6:=(O.p ⟨#[]⟩);let u5:=(lq9 O 0);let u0:=(O.ac [[.str u6],[.str (O.p ⟨#[119]⟩)],[.str (O.p ⟨#[110]⟩)]]);(O.c (O.f 95 [] (xr x [0,0,0,0,0,1,0,0,0,0,1,0] 0)) fun c0=>(O.b (O.d (O.e (O.i c0 0) u5)) (O.a [.str u6,.int (O.i c0 0)]) (O.g (O.q (O.y .u8 (x.I 0) (O.lit .u8 1)) (O.l u0)) (O.c (O.f 96 [] (xr x [0,0,0,0,0,1,0,0,0,0,1,0] 0)) fun c1=>let u7:=(O.s c1 0);(O.g (O.t (O.r (O.rS u0 (O.y .u8 (x.I 0) (O.lit .u8 1)) 0)) 1) (O.g (O.t (O.r u7) 1) (O.c (O.b (O.j (O.m u5 (x.I 2)) O.k (O.j (O.j (O.ag u7 u6) (O.e (x.I 4) u5) O.h) (O.d (O.e (x.I 0) (O.lit .u8 2))) O.h)) (O.c (O.f 97 [] [.int (x.I 2)]) fun c2=>(O.g (O.t (O.r (O.ae (O.rS u0 (O.y .u8 (x.I 0) (O.lit .u8 1)) 0) u7)) 1) (O.g (O.t (O.r (O.s c2 0)) 1) (O.a [.str (O.ae (O.ae (O.rS u0 (O.y .u8 (x.I 0) (O.lit .u8 1)) 0) u7) (O.s c2 0))])))) (O.a [.str (O.ae (O.rS u0 (O.y .u8 (x.I 0) (O.lit .u8 1)) 0) u7)])) fun c2=>let u8:=(O.s c2 0);let u4:=(O.t (O.r u8) 1);(O.c (O.b (O.e (x.I 4) (lq9 O 4)) (O.g u4 (O.g (O.t (O.r (O.p ⟨#[70]⟩)) 1) (O.a [.str (O.ae u8 (O.p ⟨#[70]⟩))]))) (O.b (O.e (x.I 4) (lq9 O 6)) (O.g u4 (O.g (O.t (O.r (O.p ⟨#[83]⟩)) 1) (O.a [.str (O.ae u8 (O.p ⟨#[83]⟩))]))) (O.a [.str u8]))) fun c3=>let u9:=(O.s c3 0);(O.c (O.b (O.m u5 (x.I 3)) (O.c (O.f 97 [] [.int (x.I 3)]) fun c4=>let u1:=(O.ae (O.p ⟨#[45]⟩) (O.s c4 0));(O.g (O.t (O.r (O.p ⟨#[45]⟩)) 1) (O.g (O.t (O.r (O.s c4 0)) 1) (O.g (O.t (O.r u9) 1) (O.g (O.t (O.r u1) 1) (O.a [.str (O.ae u9 u1)])))))) (O.a [.str u9])) fun c4=>(O.c (O.b (x.B 5) (O.g (O.t (O.r (O.s c4 0)) 1) (O.g (O.t (O.r (O.p ⟨#[120]⟩)) 1) (O.a [.str (O.ae (O.s c4 0) (O.p ⟨#[120]⟩))]))) (O.a [.str (O.s c4 0)])) fun c5=>(O.c (O.f 98 [] (xr x [0,0,0,0,0,1,0,0,0,0,1,0] 0)) fun c6=>let u3:=(O.ae (O.s c5 0) (O.s c6 0));(O.g (O.t (O.r (O.s c5 0)) 1) (O.g (O.t (O.r (O.s c6 0)) 1) (O.b (O.m u5 (x.I 11)) (O.c (O.f 97 [] [.int (x.I 11)]) fun c7=>let u2:=(O.ae (O.p ⟨#[64]⟩) (O.s c7 0));(O.g (O.t (O.r (O.p ⟨#[64]⟩)) 1) (O.g (O.t (O.r (O.s c7 0)) 1) (O.g (O.t (O.r u3) 1) (O.g (O.t (O.r u2) 1) (O.a [.str (O.ae u3 u2),.int u5])))))) (O.a [.str u3,.int u5])))))))))))))))
def Yi:Nat→Env:=eL [(95,C3),(96,KW),(97,E9),(98,KM)]
def FF:=oS R6 R1 Yi
def YZ:List Nat:=[0,0,0,0,1,0,0,0,0,0,0,0,1,0,0,0,0,1,0]
def Xd (O:Alg) (x:Ags O):O.M:=let u7:=(lq9 O 0);(O.c (O.f 68 [] (xr x [0,0,0,0,1,0,0,0,0,0,0,0,1,0,0,0,0,1,0] 0)) fun c0=>(O.b (O.d (O.e (O.i c0 0) u7)) (O.a [.str (O.p ⟨#[]⟩),.int (O.i c0 0)]) (O.c (O.f 42 [] []) fun c1=>let u8:=(O.o c1 0);let u15:=(O.y .u8 (x.I 0) (O.lit .u8 1));let u14:=(O.rS u8 u15 1);let u13:=(O.r u14);let u12:=(O.ac [[.str (O.rS u8 u15 0)]]);(O.g (O.q u15 (O.l u8)) (O.c (O.b (O.j (O.e (x.I 0) (O.lit .u8 5)) (x.B 4) O.h) (O.g (O.q u7 (O.l u12)) (O.a [.rows (O.ah u12 u7 0 [.str (O.p ⟨#[84,73,77,69,79,85,84]⟩)])])) (O.a [.rows u12])) fun c2=>(O.c (O.ab (fun s3 c3=>let u17:=(O.i c3 0);let u16:=(O.o c3 1);let u11:=(O.ai u14 u17);let u10:=(O.af u16 (O.ac [[.str (O.rS u8 u15 3)]]));let u9:=(O.af u16 (O.ac [[.str (O.rS u8 u15 2)]]));let u6:=(O.u .i64 u17 (lq9 O 1));(O.b (O.m u17 u13) (O.g (O.q u17 u13) (O.b (O.e u11 (O.lit .u8 115)) (O.c (O.f 57 [] [.int (x.I 1)]) fun c4=>let u0:=(O.af u16 (O.ac [[.str (O.s c4 0)]]));(O.g (O.t (O.l u0) 16) (s3 [.int u6,.rows u0]))) (O.b (O.e u11 (O.lit .u8 112)) (O.c (O.f 57 [] [.int (x.I 2)]) fun c4=>let u1:=(O.af u16 (O.ac [[.str (O.s c4 0)]]));(O.g (O.t (O.l u1) 16) (s3 [.int u6,.rows u1]))) (O.b (O.e u11 (O.lit .u8 111)) (O.c (O.f 57 [] [.int (x.I 3)]) fun c4=>let u2:=(O.af u16 (O.ac [[.str (O.s c4 0)]]));(O.g (O.t (O.l u2) 16) (s3 [.int u6,.rows u2]))) (O.b (O.e u11 (O.lit .u8 114)) (O.c (O.f 57 [] [.int (x.I 5)]) fun c4=>let u3:=(O.af u16 (O.ac [[.str (O.s c4 0)]]));(O.g (O.t (O.l u3) 16) (s3 [.int u6,.rows u3]))) (O.b (O.e u11 (O.lit .u8 118)) (O.c (O.f 57 [] [.int (x.I 6)]) fun c4=>let u4:=(O.af u16 (O.ac [[.str (O.s c4 0)]]));(O.g (O.t (O.l u4) 16) (s3 [.int u6,.rows u4]))) (O.b (O.e u11 (O.lit .u8 98)) (O.c (O.f 70 [] (xr x [0,0,0,0,0,1,0,0,0,0,1,0] 7)) fun c4=>let u5:=(O.af u16 (O.ac [[.str (O.s c4 0)]]));(O.g (O.t (O.l u5) 16) (s3 [.int u6,.rows u5]))) (O.b (O.e u11 (O.lit .u8 121)) (O.b (x.B 4) (O.g (O.t (O.l u9) 16) (s3 [.int u6,.rows u9])) (O.g (O.t (O.l u10) 16) (s3 [.int u6,.rows u10]))) (s3 [.int u6,.rows u16]))))))))) (O.a [.rows u16]))) [.int u7,.rows (O.o c2 0)]) fun c3=>(O.c (O.f 35 [] [.rows (O.o c3 0),.str (O.p ⟨#[32]⟩)]) fun c4=>(O.a [.str (O.s c4 0),.int u7]))))))))
def fh:Nat→Env:=eL [(35,Df),(42,Cx),(57,Dd),(68,CW),(70,FF)]
def Xo:=oS YZ Xd fh
def Wi (N:Nat) (ls:List PV):Option (List PV):=fV ls
def Rl:List Nat:=[2]
def Re (O:Alg) (x:Ags O):O.M:=let u93:=(O.p ⟨#[]⟩);let u92:=(lq9 O 1);let u91:=(lq9 O 0);let u89:=(O.r (x.S 0));let u65:=(O.ag (x.S 0) u93);(O.c (O.g (O.d (O.w (O.d u65) (O.d (O.q u91 u89)))) (O.b (O.j u65 O.k (O.d (O.e (O.ai (x.S 0) u91) (O.lit .u8 119)))) (O.a [.bool O.h,.str (x.S 0)]) (O.g (O.aa u92 u89 u89) (O.a [.bool O.k,.str (O.aj (x.S 0) u92 u89)])))) fun c0=>let u108:=(O.s c0 1);let u75:=(O.r u108);let u55:=(O.ag u108 u93);(O.c (O.b (O.n c0 0) (O.a [.str u108,.int (O.lit .u8 2),.int (O.lit .u8 0),.int u91,.int u91,.int u91,.bool O.h,.int (O.lit .u8 0),.int u91,.int u91,.int u91,.bool O.h,.int u91]) (O.c (O.g (O.d (O.w (O.d u55) (O.d (O.q u91 u75)))) (O.b (O.j u55 O.k (O.d (O.e (O.ai u108 u91) (O.lit .u8 110)))) (O.a [.bool O.h,.str u108]) (O.g (O.aa u92 u75 u75) (O.a [.bool O.k,.str (O.aj u108 u92 u75)])))) fun c1=>(O.b (O.n c1 0) (O.a [.str (O.s c1 1),.int (O.lit .u8 3),.int (O.lit .u8 0),.int u91,.int u91,.int u91,.bool O.h,.int (O.lit .u8 0),.int u91,.int u91,.int u91,.bool O.h,.int u91]) (O.a [.str (O.s c1 1),.int (O.lit .u8 1),.int (O.lit .u8 0),.int u91,.int u91,.int u91,.bool O.h,.int (O.lit .u8 0),.int u91,.int u91,.int u91,.bool O.h,.int u91])))) fun c1=>let u112:=(O.s c1 0);let u106:=(O.i c1 1);let u76:=(O.r u112);let u56:=(O.ag u112 u93);(O.c (O.c (O.g (O.d (O.w (O.d u56) (O.d (O.q u91 u76)))) (O.b (O.j u56 O.k (O.d (O.e (O.ai u112 u91) (O.lit .u8 98)))) (O.a [.bool O.h,.str u112]) (O.g (O.aa u92 u76 u76) (O.a [.bool O.k,.str (O.aj u112 u92 u76)])))) fun c2=>let u109:=(O.s c2 1);let u77:=(O.r u109);let u57:=(O.ag u109 u93);(O.b (O.n c2 0) (O.a [.int (O.lit .u8 2),.str u109]) (O.c (O.g (O.d (O.w (O.d u57) (O.d (O.q u91 u77)))) (O.b (O.j u57 O.k (O.d (O.e (O.ai u109 u91) (O.lit .u8 108)))) (O.a [.bool O.h,.str u109]) (O.g (O.aa u92 u77 u77) (O.a [.bool O.k,.str (O.aj u109 u92 u77)])))) fun c3=>let u105:=(O.s c3 1);let u78:=(O.r u105);let u52:=(O.ag u105 u93);let u43:=(O.ai u105 u91);let u17:=(O.aj u105 u92 u78);let u15:=(O.aa u92 u78 u78);let u2:=(O.d (O.w (O.d u52) (O.d (O.q u91 u78))));(O.b (O.n c3 0) (O.a [.int (O.lit .u8 3),.str u105]) (O.b (O.e u106 (O.lit .u8 2)) (O.c (O.g u2 (O.b (O.j u52 O.k (O.d (O.e u43 (O.lit .u8 111)))) (O.a [.bool O.h,.str u105]) (O.g u15 (O.a [.bool O.k,.str u17])))) fun c4=>let u107:=(O.s c4 1);let u79:=(O.r u107);let u58:=(O.ag u107 u93);(O.b (O.j (O.e u106 (O.lit .u8 2)) (O.n c4 0) O.h) (O.a [.int (O.lit .u8 1),.str u107]) (O.b (O.e u106 (O.lit .u8 2)) (O.a [.int (O.lit .u8 0),.str u107]) (O.c (O.g (O.d (O.w (O.d u58) (O.d (O.q u91 u79)))) (O.b (O.j u58 O.k (O.d (O.e (O.ai u107 u91) (O.lit .u8 46)))) (O.a [.bool O.h,.str u107]) (O.g (O.aa u92 u79 u79) (O.a [.bool O.k,.str (O.aj u107 u92 u79)])))) fun c5=>(O.b (O.n c5 0) (O.a [.int (O.lit .u8 0),.str (O.s c5 1)]) (O.a [.int (O.lit .u8 1),.str (O.s c5 1)])))))) (O.b (O.j (O.e u106 (O.lit .u8 2)) O.h O.h) (O.a [.int (O.lit .u8 1),.str u105]) (O.b (O.e u106 (O.lit .u8 2)) (O.a [.int (O.lit .u8 0),.str u105]) (O.c (O.g u2 (O.b (O.j u52 O.k (O.d (O.e u43 (O.lit .u8 46)))) (O.a [.bool O.h,.str u105]) (O.g u15 (O.a [.bool O.k,.str u17])))) fun c4=>(O.b (O.n c4 0) (O.a [.int (O.lit .u8 0),.str (O.s c4 1)]) (O.a [.int (O.lit .u8 1),.str (O.s c4 1)])))))))))) fun c2=>let u113:=(O.s c2 1);let u80:=(O.r u113);let u53:=(O.ag u113 u93);let u40:=(O.ai u113 u91);let u32:=(O.q u91 u80);let u23:=(O.d u32);(O.c (O.g (O.d (O.w (O.d u53) u23)) (O.g (O.d (O.w (O.d (O.j u53 O.k (O.m u40 (O.lit .u8 48)))) u23)) (O.b (O.j (O.j u53 O.k (O.m u40 (O.lit .u8 48))) O.k (O.m (O.lit .u8 57) u40)) (O.a [.int u91,.str u113]) (O.g u32 (O.g (O.aa u92 u80 u80) (O.a [.int (O.ao .i64 (O.y .u8 u40 (O.lit .u8 48))),.str (O.aj u113 u92 u80)])))))) fun c3=>let u114:=(O.s c3 1);let u81:=(O.r u114);let u59:=(O.ag u114 u93);(O.c (O.g (O.d (O.w (O.d u59) (O.d (O.q u91 u81)))) (O.b (O.j u59 O.k (O.d (O.e (O.ai u114 u91) (O.lit .u8 70)))) (O.a [.bool O.h,.str u114]) (O.g (O.aa u92 u81 u81) (O.a [.bool O.k,.str (O.aj u114 u92 u81)])))) fun c4=>let u110:=(O.s c4 1);let u82:=(O.r u110);let u60:=(O.ag u110 u93);(O.c (O.b (O.n c4 0) (O.a (ap O [.str u110,.int u106,.int (O.i c2 0),.int (O.i c3 0),.int (O.i c1 4),.int (lq9 O 4)] (cr O c1 [1,0,0,0,0,1,0] 6))) (O.c (O.g (O.d (O.w (O.d u60) (O.d (O.q u91 u82)))) (O.b (O.j u60 O.k (O.d (O.e (O.ai u110 u91) (O.lit .u8 83)))) (O.a [.bool O.h,.str u110]) (O.g (O.aa u92 u82 u82) (O.a [.bool O.k,.str (O.aj u110 u92 u82)])))) fun c5=>(O.b (O.n c5 0) (O.a (ap O [.str (O.s c5 1),.int u106,.int (O.i c2 0),.int (O.i c3 0),.int (O.i c1 4),.int (lq9 O 6)] (cr O c1 [1,0,0,0,0,1,0] 6))) (O.a (ap O [.str (O.s c5 1),.int u106,.int (O.i c2 0),.int (O.i c3 0)] (cr O c1 [0,0,1,0,0,0,0,1,0] 4)))))) fun c5=>let u115:=(O.s c5 0);let u83:=(O.r u115);let u61:=(O.ag u115 u93);(O.c (O.g (O.d (O.w (O.d u61) (O.d (O.q u91 u83)))) (O.b (O.j u61 O.k (O.d (O.e (O.ai u115 u91) (O.lit .u8 45)))) (O.a [.bool O.h,.str u115]) (O.g (O.aa u92 u83 u83) (O.a [.bool O.k,.str (O.aj u115 u92 u83)])))) fun c6=>let u111:=(O.s c6 1);let u84:=(O.r u111);let u54:=(O.ag u111 u93);let u41:=(O.ai u111 u91);let u33:=(O.q u91 u84);let u24:=(O.d u33);(O.c (O.b (O.n c6 0) (O.c (O.g (O.d (O.w (O.d u54) u24)) (O.g (O.d (O.w (O.d (O.j u54 O.k (O.m u41 (O.lit .u8 48)))) u24)) (O.b (O.j (O.j u54 O.k (O.m u41 (O.lit .u8 48))) O.k (O.m (O.lit .u8 57) u41)) (O.a [.int u91,.str u111]) (O.g u33 (O.g (O.aa u92 u84 u84) (O.a [.int (O.ao .i64 (O.y .u8 u41 (O.lit .u8 48))),.str (O.aj u111 u92 u84)])))))) fun c7=>(O.a (ap O [.str (O.s c7 1)] (ap O (cr O c5 [0,0,0] 1) (ap O [.int (O.i c7 0)] (cr O c5 [0,1,0,0,0,0,1,0] 5)))))) (O.a (ap O [.str u111] (cr O c5 [0,0,0,0,0,1,0,0,0,0,1,0] 1)))) fun c7=>let u116:=(O.s c7 0);let u85:=(O.r u116);let u62:=(O.ag u116 u93);(O.c (O.g (O.d (O.w (O.d u62) (O.d (O.q u91 u85)))) (O.b (O.j u62 O.k (O.d (O.e (O.ai u116 u91) (O.lit .u8 120)))) (O.a [.bool O.h,.str u116]) (O.g (O.aa u92 u85 u85) (O.a [.bool O.k,.str (O.aj u116 u92 u85)])))) fun c8=>let u120:=(O.n c8 0);let u117:=(O.s c8 1);let u86:=(O.r u117);let u63:=(O.ag u117 u93);(O.c (O.c (O.g (O.d (O.w (O.d u63) (O.d (O.q u91 u86)))) (O.b (O.j u63 O.k (O.d (O.e (O.ai u117 u91) (O.lit .u8 47)))) (O.a [.bool O.h,.str u117]) (O.g (O.aa u92 u86 u86) (O.a [.bool O.k,.str (O.aj u117 u92 u86)])))) fun c9=>let u118:=(O.s c9 1);let u87:=(O.r u118);let u16:=(O.aj u118 u92 u87);let u8:=(O.r u16);let u95:=(O.lit .u8 57);let u94:=(O.lit .u8 48);let u6:=(O.ag u16 u93);let u5:=(O.ai u16 u91);let u34:=(O.j u6 O.k (O.m u5 u94));let u4:=(O.q u91 u8);let u3:=(O.d u4);(O.b (O.j (O.d (O.n c9 0)) O.k (O.ag u118 u93)) (O.a (ap O [.str u118] (ap O (cr O c7 [0,0,0,0,0] 1) (ap O [.bool u120] (cr O c7 [0,0,0,0,1,0] 7))))) (O.g (O.q u91 u87) (O.c (O.f 117 [] [.str (O.p ⟨#[78,66,67,76,83,72,82,84,79,77,81]⟩),.int (O.ai u118 u91)]) fun c10=>let u7:=(O.al (O.m (O.i c10 0) u91) u91 (O.i c10 0));let u90:=(O.ao .u8 u7);(O.g (O.aa u92 u87 u87) (O.c (O.g (O.d (O.w (O.d u6) u3)) (O.g (O.d (O.w (O.d u34) u3)) (O.b (O.j u34 O.k (O.m u95 u5)) (O.a [.int u91,.str u16]) (O.g u4 (O.g (O.aa u92 u8 u8) (O.a [.int (O.ao .i64 (O.y .u8 u5 u94)),.str (O.aj u16 u92 u8)])))))) fun c11=>let u100:=(O.s c11 1);let u66:=(O.r u100);let u44:=(O.ag u100 u93);(O.c (O.g (O.d (O.w (O.d u44) (O.d (O.q u91 u66)))) (O.b (O.j u44 O.k (O.d (O.e (O.ai u100 u91) (O.lit .u8 40)))) (O.a [.bool O.h,.str u100]) (O.g (O.aa u92 u66 u66) (O.a [.bool O.k,.str (O.aj u100 u92 u66)])))) fun c12=>let u96:=(O.s c12 1);let u67:=(O.r u96);let u45:=(O.ag u96 u93);let u38:=(O.ai u96 u91);let u25:=(O.q u91 u67);let u20:=(O.d u25);let u11:=(O.j u45 O.k (O.m u38 u94));(O.b (O.d (O.n c12 0)) (O.a (ap O [.str u96] (ap O (cr O c7 [0,0,0,0,0] 1) (ap O [.bool u120,.int u90,.int (O.i c11 0)] (cr O c7 [0,0,1,0] 9))))) (O.c (O.g (O.d (O.w (O.d u45) u20)) (O.g (O.d (O.w (O.d u11) u20)) (O.b (O.j u11 O.k (O.m u95 u38)) (O.a [.int u91,.str u96]) (O.g u25 (O.g (O.aa u92 u67 u67) (O.a [.int (O.ao .i64 (O.y .u8 u38 u94)),.str (O.aj u96 u92 u67)])))))) fun c13=>let u97:=(O.s c13 1);let u68:=(O.r u97);let u46:=(O.ag u97 u93);let u35:=(O.ai u97 u91);let u27:=(O.d u46);let u26:=(O.q u91 u68);let u18:=(O.d u26);let u12:=(O.j u46 O.k (O.m u35 u94));let u9:=(O.j u27 (O.z u94 u35) O.h);let u0:=(O.d (O.w u27 u18));(O.g u0 (O.g (O.d (O.w u9 u18)) (O.c (O.b (O.j u9 (O.z u35 u95) O.h) (O.c (O.g u0 (O.g (O.d (O.w (O.d u12) u18)) (O.b (O.j u12 O.k (O.m u95 u35)) (O.a [.int u91,.str u97]) (O.g u26 (O.g (O.aa u92 u68 u68) (O.a [.int (O.ao .i64 (O.y .u8 u35 u94)),.str (O.aj u97 u92 u68)])))))) fun c14=>(O.a [.int (O.u .i64 (O.ap .i64 (lq9 O 10) (O.i c13 0)) (O.i c14 0)),.str (O.s c14 1)])) (O.a [.int (O.i c13 0),.str u97])) fun c14=>let u101:=(O.s c14 1);let u69:=(O.r u101);let u47:=(O.ag u101 u93);(O.c (O.g (O.d (O.w (O.d u47) (O.d (O.q u91 u69)))) (O.b (O.j u47 O.k (O.d (O.e (O.ai u101 u91) (O.lit .u8 44)))) (O.a [.bool O.h,.str u101]) (O.g (O.aa u92 u69 u69) (O.a [.bool O.k,.str (O.aj u101 u92 u69)])))) fun c15=>let u98:=(O.s c15 1);let u70:=(O.r u98);let u48:=(O.ag u98 u93);let u39:=(O.ai u98 u91);let u28:=(O.q u91 u70);let u21:=(O.d u28);let u13:=(O.j u48 O.k (O.m u39 u94));(O.c (O.b (O.n c15 0) (O.c (O.g (O.d (O.w (O.d u48) u21)) (O.g (O.d (O.w (O.d u13) u21)) (O.b (O.j u13 O.k (O.m u95 u39)) (O.a [.int u91,.str u98]) (O.g u28 (O.g (O.aa u92 u70 u70) (O.a [.int (O.ao .i64 (O.y .u8 u39 u94)),.str (O.aj u98 u92 u70)])))))) fun c16=>let u99:=(O.s c16 1);let u71:=(O.r u99);let u49:=(O.ag u99 u93);let u36:=(O.ai u99 u91);let u30:=(O.d u49);let u29:=(O.q u91 u71);let u19:=(O.d u29);let u14:=(O.j u49 O.k (O.m u36 u94));let u10:=(O.j u30 (O.z u94 u36) O.h);let u1:=(O.d (O.w u30 u19));(O.g u1 (O.g (O.d (O.w u10 u19)) (O.c (O.b (O.j u10 (O.z u36 u95) O.h) (O.c (O.g u1 (O.g (O.d (O.w (O.d u14) u19)) (O.b (O.j u14 O.k (O.m u95 u36)) (O.a [.int u91,.str u99]) (O.g u29 (O.g (O.aa u92 u71 u71) (O.a [.int (O.ao .i64 (O.y .u8 u36 u94)),.str (O.aj u99 u92 u71)])))))) fun c17=>(O.a [.int (O.u .i64 (O.ap .i64 (lq9 O 10) (O.i c16 0)) (O.i c17 0)),.str (O.s c17 1)])) (O.a [.int (O.i c16 0),.str u99])) fun c17=>(O.a (ap O [.str (O.s c17 1)] (ap O (cr O c7 [0,0,0,0,0] 1) [.bool u120,.int u90,.int (O.i c11 0),.int (O.i c14 0),.int (O.i c17 0),.bool (O.n c7 11),.int (O.i c7 12)]))))))) (O.a (ap O [.str u98] (ap O (cr O c7 [0,0,0,0,0] 1) (ap O [.bool u120,.int u90,.int (O.i c11 0),.int (O.i c14 0)] (cr O c7 [0,1,0] 10)))))) fun c16=>let u102:=(O.s c16 0);let u72:=(O.r u102);let u50:=(O.ag u102 u93);(O.c (O.g (O.d (O.w (O.d u50) (O.d (O.q u91 u72)))) (O.b (O.j u50 O.k (O.d (O.e (O.ai u102 u91) (O.lit .u8 115)))) (O.a [.bool O.h,.str u102]) (O.g (O.aa u92 u72 u72) (O.a [.bool O.k,.str (O.aj u102 u92 u72)])))) fun c17=>let u103:=(O.s c17 1);let u73:=(O.r u103);let u51:=(O.ag u103 u93);(O.c (O.g (O.d (O.w (O.d u51) (O.d (O.q u91 u73)))) (O.b (O.j u51 O.k (O.d (O.e (O.ai u103 u91) (O.lit .u8 41)))) (O.a [.bool O.h,.str u103]) (O.g (O.aa u92 u73 u73) (O.a [.bool O.k,.str (O.aj u103 u92 u73)])))) fun c18=>(O.a (ap O [.str (O.s c18 1)] (ap O (cr O c16 [0,0,0,0,0,1,0,0,0,0] 1) [.bool (O.n c17 0),.int (O.i c16 12)]))))))))))))))))))) fun c9=>let u119:=(O.s c9 0);let u88:=(O.r u119);let u64:=(O.ag u119 u93);(O.c (O.g (O.d (O.w (O.d u64) (O.d (O.q u91 u88)))) (O.b (O.j u64 O.k (O.d (O.e (O.ai u119 u91) (O.lit .u8 64)))) (O.a [.bool O.h,.str u119]) (O.g (O.aa u92 u88 u88) (O.a [.bool O.k,.str (O.aj u119 u92 u88)])))) fun c10=>let u104:=(O.s c10 1);let u74:=(O.r u104);let u42:=(O.ag u104 u93);let u37:=(O.ai u104 u91);let u31:=(O.q u91 u74);let u22:=(O.d u31);(O.c (O.b (O.n c10 0) (O.c (O.g (O.d (O.w (O.d u42) u22)) (O.g (O.d (O.w (O.d (O.j u42 O.k (O.m u37 (O.lit .u8 48)))) u22)) (O.b (O.j (O.j u42 O.k (O.m u37 (O.lit .u8 48))) O.k (O.m (O.lit .u8 57) u37)) (O.a [.int u91,.str u104]) (O.g u31 (O.g (O.aa u92 u74 u74) (O.a [.int (O.ao .i64 (O.y .u8 u37 (O.lit .u8 48))),.str (O.aj u104 u92 u74)])))))) fun c11=>(O.a (ap O (cr O c9 [0,0,0,0,0,1,0,0,0,0,1] 1) [.int (O.i c11 0)]))) (O.a (cr O c9 [0,0,0,0,0,1,0,0,0,0,1,0] 1))) fun c11=>(O.c (O.f 70 [] (cr O c11 [0,0,0,0,0,1,0,0,0,0,1,0] 0)) fun c12=>(O.b (O.j (O.d (O.e (O.i c12 1) u91)) O.k (O.d (O.ag (O.s c12 0) (x.S 0)))) (O.a [.int (O.lit .u8 0),.int (O.lit .u8 0),.int u91,.int u91,.int u91,.bool O.h,.int (O.lit .u8 0),.int u91,.int u91,.int u91,.bool O.h,.int u91,.int (lq9 O 4)]) (O.a (ap O (cr O c11 [0,0,0,0,0,1,0,0,0,0,1,0] 0) [.int u91]))))))))))))))))
def Xt:Nat→Env:=eL [(70,FF),(117,CF)]
def SJ:=oS Rl Re Xt
def PS:List Nat:=[2]
def PT (O:Alg) (x:Ags O):O.M:=let u11:=(lq9 O 1);let u10:=(lq9 O 0);(O.c (O.f 40 [] [.str (x.S 0),.str (O.p ⟨#[32]⟩)]) fun c0=>let u9:=(O.l (O.o c0 0));let u6:=(O.rS (O.o c0 0) u10 0);let u2:=(O.an (O.o c0 0) u11 u9);let u1:=(O.l u2);(O.g (O.q u10 u9) (O.c (O.b (O.ag u6 (O.p ⟨#[84,73,77,69,79,85,84]⟩)) (O.a [.str (O.p ⟨#[69,78,84,69,82]⟩),.int (O.lit .u8 0),.int u10,.int u10,.int u10,.bool O.k,.int u10,.int u10,.int (O.lit .u8 0),.int (O.lit .u8 0),.int u10,.int u10,.int u10,.bool O.h,.int (O.lit .u8 0),.int u10,.int u10,.int u10,.bool O.h,.int u10]) (O.a [.str u6,.int (O.lit .u8 0),.int u10,.int u10,.int u10,.bool O.h,.int u10,.int u10,.int (O.lit .u8 0),.int (O.lit .u8 0),.int u10,.int u10,.int u10,.bool O.h,.int (O.lit .u8 0),.int u10,.int u10,.int u10,.bool O.h,.int u10])) fun c1=>(O.c (O.f 42 [] []) fun c2=>let u16:=(O.o c2 0);(O.c (O.f 43 [44] [.rows u16,.rows (O.ac [[.str (O.s c1 0)]])]) fun c3=>let u14:=(O.i c3 0);let u8:=(O.rS u16 u14 1);let u12:=(O.lit .u8 0);let u7:=(O.m u14 u10);let u5:=(O.q u14 (O.l u16));let u4:=(O.r u8);(O.g (O.d (O.w (O.d u7) (O.d u5))) (O.b (O.j u7 O.k (O.d (O.e u9 (O.u .i64 u11 u4)))) (O.a [.int u12,.int u10,.int u10,.int u10,.bool O.h,.int u10,.int u10,.int u12,.int u12,.int u10,.int u10,.int u10,.bool O.h,.int u12,.int u10,.int u10,.int u10,.bool O.h,.int u10,.int (lq9 O 4)]) (O.g (O.aa u11 u9 u9) (O.c (O.ab (fun s4 c4=>let u13:=(O.i c4 0);let u3:=(O.ai u8 u13);let u0:=(O.rS u2 u13 0);(O.b (O.m u13 u1) (O.g (O.q u13 u1) (O.g u5 (O.g u5 (O.g (O.q u13 u4) (O.c (O.c (O.f 66 [] [.str u0,.int u10,.int (lq9 O 1000000)]) fun c5=>let u15:=(O.i c5 0);(O.b (O.e u3 (O.lit .u8 115)) (O.a (ap O [.int (O.i c4 1),.int u15] (cr O c4 [0,0,1,0,0,0,0,0,0,0,1,0,0,0,0,1,0] 3))) (O.b (O.e u3 (O.lit .u8 112)) (O.a (ap O [.int (O.i c4 1),.int (O.i c4 2),.int u15] (cr O c4 [0,1,0,0,0,0,0,0,0,1,0,0,0,0,1,0] 4))) (O.b (O.e u3 (O.lit .u8 111)) (O.a (ap O (cr O c4 [0,0,0] 1) (ap O [.int u15] (cr O c4 [1,0,0,0,0,0,0,0,1,0,0,0,0,1,0] 5)))) (O.b (O.e u3 (O.lit .u8 114)) (O.a (ap O (cr O c4 [0,0,0,0,1] 1) (ap O [.int u15] (cr O c4 [0,0,0,0,0,0,1,0,0,0,0,1,0] 7)))) (O.b (O.e u3 (O.lit .u8 118)) (O.a (ap O (cr O c4 [0,0,0,0,1,0] 1) (ap O [.int u15] (cr O c4 [0,0,0,0,0,1,0,0,0,0,1,0] 8)))) (O.b (O.e u3 (O.lit .u8 98)) (O.c (O.f 67 [] [.str u0]) fun c6=>(O.a (ap O (cr O c4 [0,0,0,0,1,0,0] 1) (cr O c6 [0,0,0,0,0,1,0,0,0,0,1,0] 0)))) (O.b (O.e u3 (O.lit .u8 121)) (O.a (ap O (cr O c4 [0,0,0,0] 1) (ap O [.bool (O.ag u0 (O.rS u16 u14 2))] (cr O c4 [0,0,0,0,0,0,0,1,0,0,0,0,1,0] 6)))) (O.a (cr O c4 [0,0,0,0,1,0,0,0,0,0,0,0,1,0,0,0,0,1,0] 1)))))))))) fun c5=>(s4 (ap O [.int (O.u .i64 u13 u11)] (cr O c5 [0,0,0,0,1,0,0,0,0,0,0,0,1,0,0,0,0,1,0] 0)))))))) (O.a (cr O c4 [0,0,0,0,1,0,0,0,0,0,0,0,1,0,0,0,0,1,0] 1)))) (ap O [.int u10,.int (O.ao .u8 (O.u .i64 u14 u11))] (cr O c1 [0,0,0,1,0,0,0,0,0,0,0,1,0,0,0,0,1,0] 2))) fun c4=>(O.c (O.f 46 [] (cr O c4 [0,0,0,0,1,0,0,0,0,0,0,0,1,0,0,0,0,1,0] 0)) fun c5=>(O.b (O.j (O.d (O.e (O.i c5 1) u10)) O.k (O.d (O.ag (O.s c5 0) (x.S 0)))) (O.a [.int u12,.int u10,.int u10,.int u10,.bool O.h,.int u10,.int u10,.int u12,.int u12,.int u10,.int u10,.int u10,.bool O.h,.int u12,.int u10,.int u10,.int u10,.bool O.h,.int u10,.int (lq9 O 4)]) (O.a (ap O (cr O c4 [0,0,0,0,1,0,0,0,0,0,0,0,1,0,0,0,0,1,0] 0) [.int u10])))))))))))))
def Ie (N:Nat):Env:=fun f fns ls=>(cond (Nat.beq f 40&&AR fns []) (Ih N ls) (cond (Nat.beq f 42&&AR fns []) (Cx N ls) (cond (Nat.beq f 43&&AR fns [44]) (FX N ls) (cond (Nat.beq f 46&&AR fns []) (Xo N ls) (cond (Nat.beq f 66&&AR fns []) (Wi N ls) (cond (Nat.beq f 67&&AR fns []) (SJ N ls) none))))))
def LS:=oS PS PT Ie
def RC:List Nat:=[2]
def RD (O:Alg) (x:Ags O):O.M:=let u7:=(lq9 O 1);let u6:=(lq9 O 0);(O.c (O.f 27 [] [.str (x.S 0)]) fun c0=>let u5:=(O.l (O.o c0 0));(O.b (O.m u6 (O.l (O.o c0 1))) (O.a [.rows O.x,.rows (O.o c0 1)]) (O.c (O.ab (fun s1 c1=>let u10:=(O.o c1 1);let u9:=(O.o c1 0);let u8:=(O.i c1 2);let u4:=(O.v (O.o c0 0) u8 0);let u3:=(O.rL (O.o c0 0) u8 1);let u2:=(O.u .i64 u8 u7);let u0:=(O.af u9 (O.ac [[.int u4,.int (O.v u3 u6 1),.int (lq9 O 4)]]));(O.b (O.m u8 u5) (O.g (O.q u8 u5) (O.c (O.f 28 [] [.int u4,.rows u3]) fun c2=>(O.c (O.f 29 [] [.str (O.s c2 0)]) fun c3=>let u1:=(O.af u10 (O.ac [(cr O c3 [0,0,0,0,1,0,0,0,0,0,0,0,1,0,0,0,0,1,0] 0)]));(O.b (O.j (O.d (O.n c2 1)) O.k (O.d (O.e (O.i c3 19) u6))) (O.b (O.m (O.l u9) (lq9 O 50)) (O.g (O.q u6 (O.l u3)) (O.g (O.t (O.l u0) 24) (s1 [.rows u0,.rows u10,.int u2]))) (s1 [.rows u9,.rows u10,.int u2])) (O.g (O.t (O.l u1) 136) (s1 [.rows u9,.rows u1,.int u2])))))) (O.a [.rows u9,.rows u10]))) [.rows (O.o c0 1),.rows O.x,.int u6]) fun c1=>(O.b (O.m u6 (O.l (O.o c1 0))) (O.a [.rows O.x,.rows (O.o c1 0)]) (O.b (O.m (lq9 O 4000) (O.l (O.o c1 1))) (O.a [.rows O.x,.rows (O.ac [[.int u7,.int u7,.int (lq9 O 9)]])]) (O.a [.rows (O.o c1 1),.rows O.x]))))))
def Yr:Nat→Env:=eL [(27,Ma),(28,Nk),(29,LS)]
def SU:=oS RC RD Yr
def aD:List Nat:=[2]
def Of (O:Alg) (x:Ags O):O.M:=let u4:=(lq9 O 1);let u3:=(lq9 O 0);let u2:=(O.aw (x.S 0));let u1:=(O.l u2);(O.c (O.ab (fun s0 c0=>let u5:=(O.i c0 0);let u0:=(O.v u2 u5 0);(O.b (O.m u5 u1) (O.g (O.q u5 u1) (O.b (O.j (O.d (O.j (O.z (O.lit .u8 65) u0) (O.z u0 (O.lit .u8 90)) O.h)) (O.j (O.e u5 u3) O.k (O.j (O.j (O.d (O.e u0 (O.lit .u8 95))) (O.d (O.e u0 (O.lit .u8 45))) O.h) (O.j (O.m u0 (O.lit .u8 48)) O.k (O.m (O.lit .u8 57) u0)) O.h)) O.h) (O.a [.int u3,.bool O.h]) (s0 [.int (O.u .i64 u5 u4)]))) (O.a [.int u4]))) [.int u3]) fun c0=>(O.b (O.ak c0 0) (O.a [.bool (O.n c0 1)]) (O.a [.bool (O.j (O.z u4 (O.r (x.S 0))) (O.z (O.r (x.S 0)) (lq9 O 16)) O.h)])))
def W5:Nat→Env:=eL []
def Kx:=oS aD Of W5
def Sy:List Nat:=[0,0,0]
def Ti (O:Alg) (x:Ags O):O.M:=(O.a [.bool (O.j (O.z (x.I 1) (x.I 0)) (O.z (x.I 0) (x.I 2)) O.h)])
def Zb:Nat→Env:=eL []
def Ck:=oS Sy Ti Zb
def To:List Nat:=[2,0,0,0,0,0,0,0,1,0,0,0,0,3]
def Iu (O:Alg) (x:Ags O):O.M:=let u10:=(lq9 O 1);let u9:=(lq9 O 0);(O.c (O.f 36 [] [.int (x.I 1),.int (lq9 O 2),.int (lq9 O 11)]) fun c0=>(O.c (O.b (O.n c0 0) (O.f 36 [] [.int (x.I 2),.int u10,.int (lq9 O 2)]) (O.a [.bool O.h])) fun c1=>let u8:=(O.j (O.n c0 0) (O.n c1 0) O.h);(O.c (O.b u8 (O.f 36 [] [.int (x.I 3),.int u9,.int (lq9 O 90)]) (O.a [.bool O.h])) fun c2=>let u7:=(O.j u8 (O.n c2 0) O.h);(O.c (O.b u7 (O.f 36 [] [.int (x.I 4),.int (lq9 O 4),.int (lq9 O 8)]) (O.a [.bool O.h])) fun c3=>let u6:=(O.j u7 (O.n c3 0) O.h);(O.c (O.b u6 (O.f 36 [] [.int (x.I 5),.int u9,.int (lq9 O 90)]) (O.a [.bool O.h])) fun c4=>let u5:=(O.j u6 (O.n c4 0) O.h);(O.c (O.b u5 (O.f 36 [] [.int (x.I 6),.int u10,.int (lq9 O 5)]) (O.a [.bool O.h])) fun c5=>let u4:=(O.j u5 (O.n c5 0) O.h);(O.c (O.b u4 (O.f 36 [] [.int (x.I 7),.int u10,.int (lq9 O 5)]) (O.a [.bool O.h])) fun c6=>let u3:=(O.j u4 (O.n c6 0) O.h);(O.c (O.b u3 (O.f 36 [] [.int (x.I 9),.int u9,.int (lq9 O 200)]) (O.a [.bool O.h])) fun c7=>let u2:=(O.j u3 (O.n c7 0) O.h);(O.c (O.b u2 (O.f 36 [] [.int (x.I 10),.int u9,.int (lq9 O 1000)]) (O.a [.bool O.h])) fun c8=>let u1:=(O.j u2 (O.n c8 0) O.h);(O.c (O.b u1 (O.f 36 [] [.int (x.I 11),.int u9,.int (lq9 O 9)]) (O.a [.bool O.h])) fun c9=>let u0:=(O.j u1 (O.n c9 0) O.h);(O.c (O.b u0 (O.f 36 [] [.int (x.I 12),.int u9,.int (lq9 O 11)]) (O.a [.bool O.h])) fun c10=>(O.a [.bool (O.j u0 (O.n c10 0) O.h)]))))))))))))
def KY:Nat→Env:=eL [(36,Ck)]
def Fo:=oS To Iu KY
def U5:List Nat:=[2,0,0,0,0,0,0,0,1,0,0,0,0,3]
def KI (O:Alg) (x:Ags O):O.M:=let u7:=(lq9 O 1);let u6:=(lq9 O 0);let u5:=(O.l (x.L 13));(O.b (O.m (lq9 O 8) u5) (O.a [.int (lq9 O 9)]) (O.c (O.ab (fun s0 c0=>let u8:=(O.i c0 0);let u4:=(O.v (x.L 13) u8 1);let u3:=(O.v (x.L 13) u8 0);let u2:=(O.m u6 u8);let u1:=(O.y .i64 u8 u7);let u0:=(O.j (O.j (O.m u3 u7) O.k (O.m u4 u3)) O.k (O.m (x.I 3) u4));(O.b (O.m u8 u5) (O.g (O.q u8 u5) (O.c (O.b (O.d u0) (O.f 36 [] [.int (O.v (x.L 13) u8 2),.int u6,.int (lq9 O 11)]) (O.a [.bool O.h])) fun c1=>(O.b (O.j u0 O.k (O.d (O.n c1 0))) (O.a [.int u6,.int (lq9 O 2)]) (O.g (O.d (O.w u2 (O.d (O.q u1 u5)))) (O.b (O.j u2 (O.z u3 (O.v (x.L 13) u1 1)) O.h) (O.a [.int u6,.int (lq9 O 8)]) (s0 [.int (O.u .i64 u8 u7)])))))) (O.a [.int u7]))) [.int u6]) fun c0=>(O.b (O.ak c0 0) (O.a [.int (O.i c0 1)]) (O.a [.int u6]))))
def Lj:Nat→Env:=eL [(36,Ck)]
def HD:=oS U5 KI Lj
def WY:List Nat:=[2,0,0,0,0,0,0,0,1,0,0,0,0,3]
def LP (O:Alg) (x:Ags O):O.M:=let u2:=(lq9 O 0);let u1:=(O.d (O.e (x.I 5) u2));let u0:=(O.j (O.d (O.e (x.I 10) u2)) (O.e (x.I 2) (lq9 O 1)) O.h);(O.c (O.f 16 [] [.str (x.S 0)]) fun c0=>(O.b (O.d (O.n c0 0)) (O.a [.int (lq9 O 5)]) (O.c (O.f 17 [] (xr x kR 0)) fun c1=>(O.b (O.d (O.n c1 0)) (O.a [.int (lq9 O 2)]) (O.c (O.b u0 (O.a [.bool u0]) (O.a [.bool (O.j (O.j u1 O.k (O.m u2 (O.l (x.L 13)))) (O.e (x.I 3) u2) O.h)])) fun c2=>(O.b (O.n c2 0) (O.a [.int (lq9 O 1)]) (O.b (O.j u1 (O.m (O.ap .i64 (x.I 5) (x.I 1)) (x.I 3)) O.h) (O.a [.int (lq9 O 13)]) (O.c (O.f 18 [] (xr x kR 0)) fun c3=>(O.a [.int (O.i c3 0)])))))))))
def Fj:Nat→Env:=eL [(16,Kx),(17,Fo),(18,HD)]
def AP:=oS WY LP Fj
def DH (N:Nat) (ls:List PV):Option (List PV):=PA 24 ls
def Wb:List Nat:=[2,0,0,0,0,0,0,0,1,0,0,0,0,3]
def K0 (O:Alg) (x:Ags O):O.M:=(O.c (O.f 99 [] [.rows (x.L 13)]) fun c0=>(O.a (ap O (xr x [2,0,0,0,0,0,0,0,1,0,0,0,0] 0) [.rows (O.o c0 0)])))
def Mv:Nat→Env:=eL [(99,DH)]
theorem Lb {N ls}:Mv N 99 [] ls=DH N ls:=id rfl
def DQ:=oS Wb K0 Mv
def Zr:List Nat:=[2,0,0,0,0,0,0,0,1,0,0,0,0,3]
def Oo (O:Alg) (x:Ags O):O.M:=let u0:=(lq9 O 0);(O.c (O.f 8 [] (xr x kR 0)) fun c0=>(O.b (O.d (O.e (O.i c0 0) u0)) (O.a [.str (O.p ⟨#[]⟩),.int u0,.int u0,.int u0,.int u0,.int u0,.int u0,.int u0,.bool O.h,.int u0,.int u0,.int u0,.int u0,.rows O.x,.int (O.lit .u8 0),.int u0,.bool O.h,.rows O.x,.int u0,.int u0,.int (O.lit .u8 0),.int u0,.int u0,.int (O.i c0 0)]) (O.c (O.f 71 [] (xr x kR 0)) fun c1=>(O.a (ap O (cr O c1 kR 0) [.int (O.lit .u8 1),.int u0,.bool O.h,.rows O.x,.int u0,.int u0,.int (O.lit .u8 0),.int u0,.int u0,.int u0])))))
def LF:Nat→Env:=eL [(8,AP),(71,DQ)]
theorem Sd {N ls}:LF N 8 [] ls=AP N ls:=id rfl
theorem Sg {N ls}:LF N 71 [] ls=DQ N ls:=id rfl
def Oc:=oS Zr Oo LF
def QG:List Nat:=[0,0,0]
def QA (O:Alg) (x:Ags O):O.M:=(O.a [.bool (O.j (O.z (x.I 1) (x.I 0)) (O.z (x.I 0) (x.I 2)) O.h)])
def XS:Nat→Env:=eL []
def Aj:=oS QG QA XS
def P8:List Nat:=[0,0,0,0,0,0,0,0,0,0,0,0,0,0,3,0,3,3,1,3,1,0,0,0,3,0,0,0,0]
def GU (O:Alg) (x:Ags O):O.M:=let u5:=(lq9 O 1);let u4:=(lq9 O 0);let u0:=(O.d (O.e (x.I 12) u4));(O.c (O.ab (fun s0 c0=>let u8:=(O.i c0 1);let u7:=(O.i c0 0);let u6:=(O.i c0 3);let u2:=(O.v (x.L 14) u6 0);let u9:=(O.j (O.n c0 2) O.k (O.d (O.e u2 (O.lit .u8 0))));let u1:=(O.u .i64 u6 u5);(O.b (O.m u6 (O.l (x.L 14))) (O.g (O.q u6 (O.l (x.L 14))) (O.b (O.m (O.lit .u8 3) u2) (O.a [.int u4,.bool O.h]) (O.b (O.e u2 (O.lit .u8 1)) (O.b (O.j (O.d (O.e (x.I 12) u1)) (O.d (O.e (x.I 13) u1)) O.h) (O.a [.int u4,.bool O.h]) (s0 [.int u7,.int (O.u .i64 u8 u5),.bool u9,.int u1])) (O.b (O.e u2 (O.lit .u8 2)) (s0 [.int (O.u .i64 u7 u5),.int u8,.bool u9,.int u1]) (s0 [.int u7,.int u8,.bool u9,.int u1]))))) (O.a (ap O [.int u5] (cr O c0 [0,0,1] 0))))) [.int u4,.int u4,.bool O.h,.int u4]) fun c0=>(O.b (O.ak c0 0) (O.a [.bool (O.n c0 1)]) (O.c (O.f 73 [] [.int (x.I 12),.int u4,.int (x.I 28)]) fun c1=>let u3:=(O.d (O.n c1 0));(O.c (O.b (O.d u3) (O.f 73 [] [.int (x.I 13),.int u4,.int (x.I 28)]) (O.a [.bool O.h])) fun c2=>(O.b (O.j (O.j u3 O.k (O.d (O.n c2 0))) O.k (O.j (O.e (x.I 12) (x.I 13)) u0 O.h)) (O.a [.bool O.h]) (O.c (O.b u0 (O.a [.int (O.u .i64 u4 u5)]) (O.a [.int u4])) fun c3=>(O.c (O.b (O.d (O.e (x.I 13) u4)) (O.a [.int (O.u .i64 (O.i c3 0) u5)]) (O.a [.int (O.i c3 0)])) fun c4=>(O.a [.bool (O.j (O.j (O.e (O.i c4 0) (O.i c0 2)) (O.j (O.d (O.n c0 3)) O.k (O.m u4 (O.i c4 0))) O.h) (O.e (O.i c0 1) (x.I 4)) O.h)]))))))))
def IM:Nat→Env:=eL [(73,Aj)]
def EM:=oS P8 GU IM
def O2:List Nat:=[3,0]
def F4 (O:Alg) (x:Ags O):O.M:=(O.c (O.ab (fun s0 c0=>let u0:=(O.i c0 0);(O.b (O.m u0 (O.l (x.L 0))) (O.g (O.q u0 (O.l (x.L 0))) (O.b (O.e (x.I 1) (O.v (x.L 0) u0 0)) (O.a [.int (lq9 O 0),.int u0]) (s0 [.int (O.u .i64 u0 (lq9 O 1))]))) (O.a [.int (lq9 O 1)]))) [.int (lq9 O 0)]) fun c0=>(O.b (O.ak c0 0) (O.a [.int (O.i c0 1)]) (O.a [.int (lq9 O (-1))])))
def M6:Nat→Env:=eL []
def D3:=oS O2 F4 M6
def Lt:List Nat:=[3,0]
def D8 (O:Alg) (x:Ags O):O.M:=(O.c (O.f 126 [] [.rows (x.L 0),.int (x.I 1)]) fun c0=>(O.a [.bool (O.z (lq9 O 0) (O.i c0 0))]))
def FV:Nat→Env:=eL [(126,D3)]
def Aw:=oS Lt D8 FV
def NX:List Nat:=[3,0]
def FG (O:Alg) (x:Ags O):O.M:=let u5:=(lq9 O 1);let u4:=(lq9 O 0);let u3:=(O.l (x.L 0));(O.c (O.ab (fun s0 c0=>let u6:=(O.i c0 0);let u1:=(O.v (x.L 0) u6 0);(O.b (O.m u6 u3) (O.g (O.q u6 u3) (O.c (O.f 73 [] [.int u1,.int u5,.int (x.I 1)]) fun c1=>let u2:=(O.d (O.n c1 0));let u0:=(O.d u2);(O.g (O.d (O.w u0 (O.d (O.aa u4 u6 u3)))) (O.c (O.b u0 (O.f 103 [] [.rows (O.an (x.L 0) u4 u6),.int u1]) (O.a [.bool O.h])) fun c2=>(O.b (O.j u2 O.k (O.n c2 0)) (O.a [.int u4,.bool O.h]) (s0 [.int (O.u .i64 u6 u5)])))))) (O.a [.int u5]))) [.int u4]) fun c0=>(O.b (O.ak c0 0) (O.a [.bool (O.n c0 1)]) (O.a [.bool O.k])))
def D9:Nat→Env:=eL [(73,Aj),(103,Aw)]
def DZ:=oS NX FG D9
def NV:List Nat:=[0]
def FL (O:Alg) (x:Ags O):O.M:=(O.c (O.f 73 [] [.int (x.I 0),.int (lq9 O 0),.int (lq9 O 1000000000)]) fun c0=>(O.a [.bool (O.d (O.n c0 0))]))
def Gn:Nat→Env:=eL [(73,Aj)]
def DW:=oS NV FL Gn
def QE:List Nat:=[0,0,0,0,0,0,0,0,0,0,0,0,0,0,3,0,3,3,1,3,1,0,0,0,3,0,0,0]
def GX (O:Alg) (x:Ags O):O.M:=let u2:=(lq9 O 0);let u1:=(O.af (O.ac [[.int (x.I 1)],[.int (x.I 3)],[.int (x.I 5)],[.int (x.I 6)],[.int (x.I 7)],[.int (x.I 8)],[.int (x.I 9)],[.int (x.I 10)],[.int (x.I 21)],[.int (x.I 23)],[.int (x.I 25)],[.int (x.I 26)]]) (x.L 19));let u0:=(O.l u1);(O.g (O.t u0 8) (O.c (O.c (O.ab (fun s0 c0=>let u3:=(O.i c0 0);(O.b (O.m u3 u0) (O.g (O.q u3 u0) (O.c (O.f 105 [] [.int (O.v u1 u3 0)]) fun c1=>(O.b (O.n c1 0) (O.a [.int u2,.int u3]) (s0 [.int (O.u .i64 u3 (lq9 O 1))])))) (O.a [.int (lq9 O 1)]))) [.int u2]) fun c0=>(O.b (O.ak c0 0) (O.a [.int (O.i c0 1)]) (O.a [.int (lq9 O (-1))]))) fun c0=>(O.a [.bool (O.d (O.z u2 (O.i c0 0)))])))
def IP:Nat→Env:=eL [(105,DW)]
def EN:=oS QE GX IP
def Tq:List Nat:=[2,0,0,0,0,0,0,0,1,0,0,0,0,3,0,0,0,0,0,0,0,0,0,0,0,0,0,0,3,0,3,3,1,3,1,0,0,0,3,0,0,0]
def Iy (O:Alg) (x:Ags O):O.M:=let u11:=(lq9 O 1);let u10:=(lq9 O 0);let u8:=(O.e (x.I 3) u10);let u7:=(O.d u8);let u4:=(O.j u8 (O.e (x.I 16) u10) O.h);(O.c (O.f 8 [] (xr x kR 0)) fun c0=>let u6:=(O.d (O.e (O.i c0 0) u10));(O.c (O.b (O.d u6) (O.f 73 [] [.int (x.I 14),.int u11,.int (lq9 O 2)]) (O.a [.bool O.h])) fun c1=>(O.b (O.j u6 O.k (O.d (O.n c1 0))) (O.a [.bool O.h]) (O.b (O.j (O.j (O.j (O.d (O.e (O.l (x.L 28)) (x.I 1))) O.k (O.d (O.e (O.l (x.L 33)) (x.I 1)))) O.k (O.d (O.e (O.l (x.L 38)) (x.I 1)))) O.k (O.m (O.lit .u8 5) (x.I 41))) (O.a [.bool O.h]) (O.c (O.f 74 [] (ap O (xr x kI 14) [.int (x.I 1)])) fun c2=>let u9:=(O.d (O.n c2 0));(O.c (O.b (O.d u9) (O.f 73 [] [.int (x.I 29),.int u10,.int (x.I 1)]) (O.a [.bool O.h])) fun c3=>let u5:=(O.j u9 O.k (O.d (O.n c3 0)));(O.c (O.b (O.d u5) (O.f 73 [] [.int (x.I 36),.int u10,.int (x.I 1)]) (O.a [.bool O.h])) fun c4=>let u3:=(O.j u5 O.k (O.d (O.n c4 0)));(O.c (O.b (O.d u3) (O.f 75 [] [.rows (x.L 30),.int (x.I 1)]) (O.a [.bool O.h])) fun c5=>let u2:=(O.j u3 O.k (O.d (O.n c5 0)));(O.c (O.b (O.d u2) (O.f 75 [] [.rows (x.L 31),.int (x.I 1)]) (O.a [.bool O.h])) fun c6=>(O.b (O.j u2 O.k (O.d (O.n c6 0))) (O.a [.bool O.h]) (O.c (O.b (O.w (O.d u4) u7) (O.f 73 [] [.int (x.I 16),.int u11,.int (x.I 3)]) (O.a [.bool O.h])) fun c7=>let u1:=(O.j u4 O.k (O.j u7 (O.n c7 0) O.h));(O.c (O.b u1 (O.f 73 [] [.int (x.I 25),.int u10,.int (O.y .i64 (x.I 4) u11)]) (O.a [.bool O.h])) fun c8=>let u0:=(O.j u1 (O.n c8 0) O.h);(O.c (O.b u0 (O.f 76 [] (xr x kI 14)) (O.a [.bool O.h])) fun c9=>(O.a [.bool (O.j u0 (O.n c9 0) O.h)]))))))))))))))
def Cg:Nat→Env:=eL [(8,AP),(73,Aj),(74,EM),(75,DZ),(76,EN)]
def BW:=oS Tq Iy Cg
def W2:List Nat:=[0]
def K6 (O:Alg) (x:Ags O):O.M:=(O.a [.int (O.y .i64 (lq9 O 3) (x.I 0))])
def Tn:Nat→Env:=eL []
def BV:=oS W2 K6 Tn
def We:List Nat:=[2,0,0,0,0,0,0,0,1,0,0,0,0,3,0,0,1,3,0,0,0,0,0,0]
def K8 (O:Alg) (x:Ags O):O.M:=let u0:=(lq9 O 2);(O.c (O.b (O.j (x.B 16) (O.z u0 (x.I 23)) O.h) (O.a [.bool (O.e (x.I 23) u0)]) (O.a [.bool (O.e (O.au .i64 (x.I 23) u0) (lq9 O 1))])) fun c0=>(O.b (O.n c0 0) (O.c (O.f 77 [] [.int (x.I 15)]) fun c1=>(O.a [.int (O.i c1 0)])) (O.a [.int (x.I 15)])))
def Md:Nat→Env:=eL [(77,BV)]
theorem Qx {N ls}:Md N 77 [] ls=BV N ls:=id rfl
def DP:=oS We K8 Md
def Wu:List Nat:=[2,0,0,0,0,0,0,0,1,0,0,0,0,3,0,0,1,3,0,0,0,0,0]
def K2 (O:Alg) (x:Ags O):O.M:=let u2:=(lq9 O 0);let u1:=(lq9 O 1);let u0:=(O.l (x.L 17));(O.c (O.ab (fun s0 c0=>let u3:=(O.i c0 0);(O.b (O.m u3 u0) (O.g (O.q u3 u0) (O.b (O.d (O.as (O.e (O.v (x.L 17) u3 27) (O.lit .u8 0)) (O.j (O.e (x.I 14) (O.lit .u8 3)) (O.e u3 (O.y .i64 u0 u1)) O.h))) (O.a [.int u2,.bool O.h]) (s0 [.int (O.u .i64 u3 u1)]))) (O.a [.int u1]))) [.int u2]) fun c0=>(O.b (O.ak c0 0) (O.a [.bool (O.n c0 1)]) (O.a [.bool (O.j (O.d (O.e (x.I 14) (O.lit .u8 3))) O.k (O.m u2 u0))])))
def S5:Nat→Env:=eL []
def Hz:=oS Wu K2 S5
def Wd:List Nat:=[2,0,0,0,0,0,0,0,1,0,0,0,0,3,0,0,1,3,0,0,0,0,0]
def LT (O:Alg) (x:Ags O):O.M:=let u8:=(lq9 O 1);let u9:=(O.e (x.I 14) (O.lit .u8 1));let u7:=(lq9 O 2);let u6:=(lq9 O 0);let u5:=(O.l (x.L 17));let u3:=(O.e (x.I 15) u6);let u2:=(O.ap .i64 u7 (x.I 2));let u1:=(O.d (O.e (x.I 2) u7));(O.c (O.f 8 [] (xr x kR 0)) fun c0=>(O.b (O.j (O.j (O.d (O.e (O.i c0 0) u6)) O.k (O.m (x.I 14) (O.lit .u8 1))) O.k (O.m (O.lit .u8 5) (x.I 14))) (O.a [.bool O.h]) (O.c (O.ab (fun s1 c1=>let u11:=(O.i c1 0);let u0:=(O.al (O.e u11 u8) (x.I 19) (x.I 18));(O.b (O.m u11 u7) (O.g (O.q u11 u7) (O.b (O.j (O.m u0 u6) O.k (O.m (lq9 O 1000000) u0)) (O.a [.int u6,.bool O.h]) (s1 [.int (O.u .i64 u11 u8)]))) (O.a [.int u8]))) [.int u6]) fun c1=>(O.b (O.ak c1 0) (O.a [.bool (O.n c1 1)]) (O.b (O.j (O.j (O.m (x.I 15) u6) O.k (O.m u7 (x.I 15))) O.k (O.m u2 u5)) (O.a [.bool O.h]) (O.b (O.j u3 (O.j (O.m u6 u5) O.k (O.j (O.d u9) (O.d (O.e (x.I 14) (O.lit .u8 5))) O.h)) O.h) (O.a [.bool O.h]) (O.b (O.j u9 (O.d u3) O.h) (O.a [.bool O.h]) (O.b (O.j (O.e (x.I 14) (O.lit .u8 2)) (O.e u5 u2) O.h) (O.a [.bool O.h]) (O.b (O.j (O.e (x.I 14) (O.lit .u8 4)) (O.j u1 O.k (O.d (O.e u5 u7))) O.h) (O.a [.bool O.h]) (O.b (O.j (x.B 16) (O.j u1 O.k (O.m u5 u7)) O.h) (O.a [.bool O.h]) (O.c (O.ab (fun s2 c2=>let u10:=(O.i c2 0);(O.b (O.m u10 u5) (O.g (O.q u10 u5) (O.c (O.f 50 [] (ap O (xr x kR 0) (rr O (x.L 17) u10 kI 0))) fun c3=>let u4:=(O.d (O.n c3 0));(O.c (O.b (O.d u4) (O.f 51 [] (ap O (xr x kM 0) [.int u10])) (O.a [.int u6])) fun c4=>(O.b (O.j u4 O.k (O.d (O.e (O.v (x.L 17) u10 0) (O.i c4 0)))) (O.a [.int u6,.bool O.h]) (s2 [.int (O.u .i64 u10 u8)]))))) (O.a [.int u8]))) [.int u6]) fun c2=>(O.b (O.ak c2 0) (O.a [.bool (O.n c2 1)]) (O.c (O.f 52 [] (xr x kM 0)) fun c3=>(O.a [.bool (O.n c3 0)]))))))))))))))
def EA:Nat→Env:=eL [(8,AP),(50,BW),(51,DP),(52,Hz)]
theorem Ql {N ls}:EA N 8 [] ls=AP N ls:=id rfl
theorem HL {N ls}:EA N 50 [] ls=BW N ls:=id rfl
theorem Ib {N ls}:EA N 51 [] ls=DP N ls:=id rfl
theorem Ic {N ls}:EA N 52 [] ls=Hz N ls:=id rfl
def CU:=oS Wd LT EA
def AX (N:Nat) (ls:List PV):Option (List PV):=PA 1 ls
def Ad (N:Nat) (ls:List PV):Option (List PV):=PA 8 ls
def Ab (N:Nat) (ls:List PV):Option (List PV):=PA 1 ls
def TL:List Nat:=[0,0,0,0,0,0,0,0,0,0,0,0,0,0,3,0,3,3,1,3,1,0,0,0,3,0,0,0]
def Iq (O:Alg) (x:Ags O):O.M:=(O.c (O.f 150 [] [.rows (x.L 14)]) fun c0=>(O.c (O.f 151 [] [.rows (x.L 16)]) fun c1=>(O.c (O.f 151 [] [.rows (x.L 17)]) fun c2=>(O.c (O.f 151 [] [.rows (x.L 19)]) fun c3=>(O.c (O.f 152 [] [.rows (x.L 24)]) fun c4=>(O.a (ap O (xr x [0,0,0,0,0,0,0,0,0,0,0,0,0,0] 0) (ap O [.rows (O.o c0 0),.int (x.I 15),.rows (O.o c1 0),.rows (O.o c2 0),.bool (x.B 18),.rows (O.o c3 0)] (ap O (xr x [1,0,0,0] 20) (ap O [.rows (O.o c4 0)] (xr x [0,0,0] 25)))))))))))
def EK:Nat→Env:=eL [(150,AX),(151,Ad),(152,Ab)]
theorem Ji {N ls}:EK N 150 [] ls=AX N ls:=id rfl
theorem Lp {N ls}:EK N 151 [] ls=Ad N ls:=id rfl
theorem Kj {N ls}:EK N 152 [] ls=Ab N ls:=id rfl
def AU:=oS TL Iq EK
def WW:List Nat:=[2,0,0,0,0,0,0,0,1,0,0,0,0,3,0,0,1,3,0,0,0,0,0]
def LI (O:Alg) (x:Ags O):O.M:=(O.c (O.f 71 [] (xr x kR 0)) fun c0=>(O.c (O.ab (fun s1 c1=>let u1:=(O.i c1 1);(O.b (O.m u1 (O.l (x.L 17))) (O.g (O.q u1 (O.l (x.L 17))) (O.c (O.f 120 [] (rr O (x.L 17) u1 kI 0)) fun c2=>let u0:=(O.af (O.o c1 0) (O.ac [(cr O c2 kI 0)]));(O.g (O.t (O.l u0) 304) (s1 [.rows u0,.int (O.u .i64 u1 (lq9 O 1))])))) (O.a [.rows (O.o c1 0)]))) [.rows O.x,.int (lq9 O 0)]) fun c1=>(O.a (ap O (cr O c0 kR 0) (ap O (xr x [0,0,1] 14) (ap O [.rows (O.o c1 0)] (xr x [0,0,0,0,0] 18)))))))
def Is:Nat→Env:=eL [(71,DQ),(120,AU)]
theorem QV {N ls}:Is N 71 [] ls=DQ N ls:=id rfl
theorem HQ {N ls}:Is N 120 [] ls=AU N ls:=id rfl
def Hw:=oS WW LI Is
def WX:List Nat:=[2,0,0,0,0,0,0,0,1,0,0,0,0,3,0,0,1,3,0,0,0,0,0,0]
def LQ (O:Alg) (x:Ags O):O.M:=(O.c (O.ab (fun s0 c0=>let u2:=(O.i c0 0);let u1:=(O.i c0 1);let u0:=(O.u .i64 u1 (lq9 O 1));(O.b (O.m u1 (O.l (x.L 17))) (O.g (O.q u1 (O.l (x.L 17))) (O.b (O.e (O.v (x.L 17) u1 0) (x.I 23)) (s0 [.int (O.u .i64 u2 (O.v (x.L 17) u1 3)),.int u0]) (s0 [.int u2,.int u0]))) (O.a [.int u2]))) [.int (lq9 O 0),.int (lq9 O 0)]) fun c0=>(O.a [.int (O.i c0 0)]))
def TK:Nat→Env:=eL []
def Bz:=oS WX LQ TK
def O6:List Nat:=[2,0,0,0,0,0,0,0,1,0,0,0,0,3]
def Fm (O:Alg) (x:Ags O):O.M:=(O.b (O.e (x.I 3) (lq9 O 0)) (O.a [.int (O.lit .u8 5)]) (O.a [.int (O.lit .u8 6)]))
def M4:Nat→Env:=eL []
def Br:=oS O6 Fm M4
def TD:List Nat:=[2,0,0,0,0,0,0,0,1,0,0,0,0,3,0,0,1,3,0,0,0,0,0]
def IZ (O:Alg) (x:Ags O):O.M:=let u10:=(lq9 O 1);let u9:=(lq9 O 0);let u8:=(O.l (x.L 17));let u11:=(O.lit .u8 0);let u7:=(O.e u8 (lq9 O 3));let u6:=(O.y .i64 u8 u10);let u5:=(O.e u8 (O.ap .i64 (lq9 O 2) (x.I 2)));let u4:=(O.v (x.L 17) u6 1);let u3:=(O.v (x.L 17) u6 3);let u2:=(O.v (x.L 17) u6 0);let u1:=(O.v (x.L 17) u6 27);let u0:=(O.y .i64 u4 u10);(O.c (O.f 31 [] (xr x kM 0)) fun c0=>(O.b (O.j (O.d (O.n c0 0)) O.k (O.e u8 u9)) (O.a [.int u11,.int u9,.int u9]) (O.g (O.q u6 u8) (O.c (O.f 77 [] [.int u2]) fun c1=>let u12:=(O.i c1 0);(O.b (O.e u1 (O.lit .u8 5)) (O.c (O.f 156 [] (xr x kR 0)) fun c2=>(O.a [.int (O.i c2 0),.int u9,.int u9])) (O.b (O.e u1 u11) (O.a [.int u11,.int u9,.int u9]) (O.b (O.j u5 (O.z u4 u3) O.h) (O.a [.int (O.lit .u8 2),.int u2,.int (O.y .i64 (O.y .i64 (x.I 1) u10) (O.v (x.L 17) u6 4))]) (O.b (O.j u5 (O.e u3 u0) O.h) (O.a [.int (O.lit .u8 4),.int u9,.int u9]) (O.b u5 (O.a [.int (O.lit .u8 1),.int u12,.int (O.y .i64 u0 u3)]) (O.c (O.b u7 (O.f 124 [] (ap O (xr x kM 0) [.int u2])) (O.a [.int u9])) fun c2=>(O.c (O.b u7 (O.f 124 [] (ap O (xr x kM 0) [.int u12])) (O.a [.int u9])) fun c3=>(O.b (O.j u7 (O.m (O.i c2 0) (O.i c3 0)) O.h) (O.c (O.f 124 [] (ap O (xr x kM 0) [.int u12])) fun c4=>(O.c (O.f 124 [] (ap O (xr x kM 0) [.int u2])) fun c5=>(O.a [.int (O.lit .u8 3),.int u12,.int (O.y .i64 (O.i c4 0) (O.i c5 0))]))) (O.a [.int u11,.int u9,.int u9])))))))))))))
def DM:Nat→Env:=eL [(31,CU),(77,BV),(124,Bz),(156,Br)]
theorem Ou {N ls}:DM N 31 [] ls=CU N ls:=id rfl
theorem O3 {N ls}:DM N 77 [] ls=BV N ls:=id rfl
theorem O0 {N ls}:DM N 124 [] ls=Bz N ls:=id rfl
theorem Lo {N ls}:DM N 156 [] ls=Br N ls:=id rfl
def F6:=oS TD IZ DM
def TJ:List Nat:=[2,0,0,0,0,0,0,0,1,0,0,0,0,3,0,0,0]
def Ix (O:Alg) (x:Ags O):O.M:=let u4:=(lq9 O 0);let u3:=(O.t (x.I 1) 1);let u2:=(lq9 O 1000000);(O.c (O.f 8 [] (xr x kR 0)) fun c0=>(O.b (O.d (O.e (O.i c0 0) u4)) (O.a [.int u4,.int u4,.int u4,.int u4,.int u4,.int u4,.int u4,.int u4,.int u4,.int u4,.int u4,.int u4,.int u4,.int u4,.rows O.x,.int u4,.rows O.x,.rows O.x,.bool O.h,.rows O.x,.bool O.h,.int u4,.int u4,.int u4,.rows O.x,.int u4,.int u4,.int (O.lit .u8 0),.int (O.i c0 0)]) (O.c (O.f 73 [] [.int (x.I 14),.int (lq9 O 1),.int (lq9 O 2)]) fun c1=>let u1:=(O.d (O.n c1 0));(O.c (O.b (O.d u1) (O.f 73 [] [.int (x.I 15),.int u4,.int u2]) (O.a [.bool O.h])) fun c2=>let u0:=(O.j u1 O.k (O.d (O.n c2 0)));(O.c (O.b (O.d u0) (O.f 73 [] [.int (x.I 16),.int u4,.int u2]) (O.a [.bool O.h])) fun c3=>(O.b (O.j u0 O.k (O.d (O.n c3 0))) (O.a [.int u4,.int u4,.int u4,.int u4,.int u4,.int u4,.int u4,.int u4,.int u4,.int u4,.int u4,.int u4,.int u4,.int u4,.rows O.x,.int u4,.rows O.x,.rows O.x,.bool O.h,.rows O.x,.bool O.h,.int u4,.int u4,.int u4,.rows O.x,.int u4,.int u4,.int (O.lit .u8 0),.int (lq9 O 2)]) (O.g u3 (O.g (O.t (x.I 1) 8) (O.g u3 (O.a [.int (x.I 14),.int (x.I 15),.int (x.I 3),.int (x.I 16),.int u4,.int u4,.int u4,.int u4,.int u4,.int (x.I 16),.int u4,.int u4,.int u4,.int u4,.rows (O.ar (x.I 1) [.int (O.lit .u8 0)]),.int u4,.rows O.x,.rows O.x,.bool O.h,.rows (O.ar (x.I 1) [.int u4]),.bool O.h,.int u4,.int u4,.int u4,.rows (O.ar (x.I 1) [.bool O.h]),.int u4,.int u4,.int (O.lit .u8 0),.int u4]))))))))))
def GY:Nat→Env:=eL [(8,AP),(73,Aj)]
theorem PF {N ls}:GY N 8 [] ls=AP N ls:=id rfl
theorem MA {N ls}:GY N 73 [] ls=Aj N ls:=id rfl
def F5:=oS TJ Ix GY
def U1:List Nat:=[2,0,0,0,0,0,0,0,1,0,0,0,0,3,0,0,1,3,0,0,0,0,0,0]
def Jn (O:Alg) (x:Ags O):O.M:=(O.b (O.m (O.u .i64 (O.l (x.L 17)) (lq9 O 1)) (O.ap .i64 (lq9 O 2) (x.I 2))) (O.a [.int (lq9 O 0)]) (O.c (O.f 77 [] [.int (x.I 23)]) fun c0=>(O.c (O.f 124 [] (ap O (xr x kM 0) [.int (O.i c0 0)])) fun c1=>(O.c (O.f 124 [] (xr x [2,0,0,0,0,0,0,0,1,0,0,0,0,3,0,0,1,3,0,0,0,0,0,0] 0)) fun c2=>(O.a [.int (O.u .i64 (O.y .i64 (O.i c1 0) (O.i c2 0)) (lq9 O 1))])))))
def HY:Nat→Env:=eL [(77,BV),(124,Bz)]
theorem Ph {N ls}:HY N 77 [] ls=BV N ls:=id rfl
theorem Pz {N ls}:HY N 124 [] ls=Bz N ls:=id rfl
def HB:=oS U1 Jn HY
def P0:List Nat:=[0]
def KS (O:Alg) (x:Ags O):O.M:=(O.a [.bool (O.d (O.e (x.I 0) (O.lit .u8 0)))])
def NY:Nat→Env:=eL []
def EX:=oS P0 KS NY
def S8:List Nat:=[0,0,0,0,0,0,0,0,0,0,0,0,0,0,3,0,3,3,1,3,1,0,0,0,3,0,0,0]
def Ij (O:Alg) (x:Ags O):O.M:=let u0:=(lq9 O 0);(O.c (O.c (O.ab (fun s0 c0=>let u1:=(O.i c0 0);(O.b (O.m u1 (O.l (x.L 14))) (O.g (O.q u1 (O.l (x.L 14))) (O.c (O.f 182 [] [.int (O.v (x.L 14) u1 0)]) fun c1=>(O.b (O.n c1 0) (O.a [.int u0,.int u1]) (s0 [.int (O.u .i64 u1 (lq9 O 1))])))) (O.a [.int (lq9 O 1)]))) [.int u0]) fun c0=>(O.b (O.ak c0 0) (O.a [.int (O.i c0 1)]) (O.a [.int (lq9 O (-1))]))) fun c0=>(O.a [.bool (O.z u0 (O.i c0 0))]))
def KU:Nat→Env:=eL [(182,EX)]
theorem FR {N ls}:KU N 182 [] ls=EX N ls:=id rfl
def Fh:=oS S8 Ij KU
def YS:List Nat:=[0,0,0,0,0,0,0,0,0,0,0,0,0,0,3,0,3,3,1,3,1,0,0,0,3,0,0,0]
def MZ (O:Alg) (x:Ags O):O.M:=(O.c (O.f 150 [] [.rows (x.L 14)]) fun c0=>(O.c (O.f 151 [] [.rows (x.L 16)]) fun c1=>(O.c (O.f 151 [] [.rows (x.L 17)]) fun c2=>(O.c (O.f 151 [] [.rows (x.L 19)]) fun c3=>(O.c (O.f 152 [] [.rows (x.L 24)]) fun c4=>(O.a (ap O (xr x [0,0,0,0,0,0,0,0,0,0,0,0,0,0] 0) (ap O [.rows (O.o c0 0),.int (x.I 15),.rows (O.o c1 0),.rows (O.o c2 0),.bool (x.B 18),.rows (O.o c3 0)] (ap O (xr x [1,0,0,0] 20) (ap O [.rows (O.o c4 0)] (xr x [0,0,0] 25)))))))))))
def HE:Nat→Env:=eL [(150,AX),(151,Ad),(152,Ab)]
theorem LU {N ls}:HE N 150 [] ls=AX N ls:=id rfl
theorem NO {N ls}:HE N 151 [] ls=Ad N ls:=id rfl
theorem Mx {N ls}:HE N 152 [] ls=Ab N ls:=id rfl
def A3:=oS YS MZ HE
def RF:List Nat:=[0]
def Ln (O:Alg) (x:Ags O):O.M:=(O.a [.bool (O.d (O.e (x.I 0) (O.lit .u8 0)))])
def O1:Nat→Env:=eL []
def Cz:=oS RF Ln O1
def Us:List Nat:=[0,0,0,0,0,0,0,0,0,0,0,0,0,0,3,0,3,3,1,3,1,0,0,0,3,0,0,0]
def Ep (O:Alg) (x:Ags O):O.M:=let u0:=(lq9 O 0);(O.c (O.c (O.ab (fun s0 c0=>let u1:=(O.i c0 0);(O.b (O.m u1 (O.l (x.L 14))) (O.g (O.q u1 (O.l (x.L 14))) (O.c (O.f 215 [] [.int (O.v (x.L 14) u1 0)]) fun c1=>(O.b (O.n c1 0) (O.a [.int u0,.int u1]) (s0 [.int (O.u .i64 u1 (lq9 O 1))])))) (O.a [.int (lq9 O 1)]))) [.int u0]) fun c0=>(O.b (O.ak c0 0) (O.a [.int (O.i c0 1)]) (O.a [.int (lq9 O (-1))]))) fun c0=>(O.a [.bool (O.z u0 (O.i c0 0))]))
def Ew:Nat→Env:=eL [(215,Cz)]
theorem GQ {N ls}:Ew N 215 [] ls=Cz N ls:=id rfl
def B9:=oS Us Ep Ew
def U2:List Nat:=[0,0,0,0,0,0,0,0,0,0,0,0,0,0,3,0,3,3,1,3,1,0,0,0,3,0,0,0,0]
def KA (O:Alg) (x:Ags O):O.M:=(O.a [.bool (O.j (O.z (lq9 O 1) (x.I 28)) (O.z (x.I 28) (O.l (x.L 14))) O.h)])
def SC:Nat→Env:=eL []
def A0:=oS U2 KA SC
def Wj:List Nat:=[0,0,0,0,0,0,0,0,0,0,0,0,0,0,3,0,3,3,1,3,1,0,0,0,3,0,0,0,0,0]
def LC (O:Alg) (x:Ags O):O.M:=let u3:=(lq9 O 1);let u1:=(O.y .i64 (x.I 29) u3);let u0:=(O.y .i64 (x.I 28) u3);(O.c (O.f 201 [] (xr x kI 0)) fun c0=>let u4:=(O.o c0 14);(O.c (O.f 202 [] (xr x kI 0)) fun c1=>(O.b (O.n c1 0) (O.a (ap O (cr O c0 kI 0) [.int u3])) (O.c (O.f 203 [] (xr x [0,0,0,0,0,0,0,0,0,0,0,0,0,0,3,0,3,3,1,3,1,0,0,0,3,0,0,0,0] 0)) fun c2=>let u2:=(O.d (O.n c2 0));(O.c (O.b (O.d u2) (O.f 203 [] (ap O (xr x kI 0) [.int (x.I 29)])) (O.a [.bool O.h])) fun c3=>(O.b (O.j u2 O.k (O.d (O.n c3 0))) (O.a (ap O (cr O c0 kI 0) [.int (lq9 O 3)])) (O.b (O.e (x.I 28) (x.I 29)) (O.a (ap O (cr O c0 kI 0) [.int (lq9 O 4)])) (O.g (O.q u0 (O.l u4)) (O.g (O.q u1 (O.l (O.ah u4 u0 0 [.int (O.lit .u8 1)]))) (O.a (ap O (cr O c0 [0,0,0,0,0,0,0,0,0,0,0,0] 0) (ap O [.int (x.I 28),.int (x.I 29),.rows (O.ah (O.ah u4 u0 0 [.int (O.lit .u8 1)]) u1 0 [.int (O.lit .u8 1)])] (ap O (cr O c0 [0,3,3,1,3,1,0,0,0,3,0,0,0] 15) [.int (lq9 O 0)])))))))))))))
def F7:Nat→Env:=eL [(201,A3),(202,B9),(203,A0)]
theorem SE {N ls}:F7 N 201 [] ls=A3 N ls:=id rfl
theorem Pq {N ls}:F7 N 202 [] ls=B9 N ls:=id rfl
theorem Pd {N ls}:F7 N 203 [] ls=A0 N ls:=id rfl
def Hv:=oS Wj LC F7
def Zt:List Nat:=[0,0,0,0,0,0,0,0,0,0,0,0,0,0,3,0,3,3,1,3,1,0,0,0,3,0,0,0]
def On (O:Alg) (x:Ags O):O.M:=(O.c (O.f 150 [] [.rows (x.L 14)]) fun c0=>(O.c (O.f 151 [] [.rows (x.L 16)]) fun c1=>(O.c (O.f 151 [] [.rows (x.L 17)]) fun c2=>(O.c (O.f 151 [] [.rows (x.L 19)]) fun c3=>(O.c (O.f 152 [] [.rows (x.L 24)]) fun c4=>(O.a (ap O (xr x [0,0,0,0,0,0,0,0,0,0,0,0,0,0] 0) (ap O [.rows (O.o c0 0),.int (x.I 15),.rows (O.o c1 0),.rows (O.o c2 0),.bool (x.B 18),.rows (O.o c3 0)] (ap O (xr x [1,0,0,0] 20) (ap O [.rows (O.o c4 0)] (xr x [0,0,0] 25)))))))))))
def Hq:Nat→Env:=eL [(150,AX),(151,Ad),(152,Ab)]
theorem L9 {N ls}:Hq N 150 [] ls=AX N ls:=id rfl
theorem N9 {N ls}:Hq N 151 [] ls=Ad N ls:=id rfl
theorem NT {N ls}:Hq N 152 [] ls=Ab N ls:=id rfl
def Cq:=oS Zt On Hq
def XD:List Nat:=[0,0,0,0,0,0,0,0,0,0,0,0,0,0,3,0,3,3,1,3,1,0,0,0,3,0,0,0,0]
def K9 (O:Alg) (x:Ags O):O.M:=(O.a [.bool (O.j (O.z (lq9 O 1) (x.I 28)) (O.z (x.I 28) (O.l (x.L 19))) O.h)])
def Si:Nat→Env:=eL []
def B3:=oS XD K9 Si
def YG:List Nat:=[2,0,0,0,0,0,0,0,1,0,0,0,0,3,0,0,0,0,0,0,0,0,0,0,0,0,0,0,3,0,3,3,1,3,1,0,0,0,3,0,0,0,0]
def Mo (O:Alg) (x:Ags O):O.M:=let u4:=(lq9 O 0);let u2:=(O.y .i64 (x.I 42) (lq9 O 1));let u1:=(O.v (x.L 33) u2 0);let u0:=(O.y .i64 (O.ap .i64 (x.I 5) (x.I 4)) (O.al (O.m u1 u4) u4 u1));(O.c (O.f 216 [] (xr x [0,0,0,0,0,0,0,0,0,0,0,0,0,0,3,0,3,3,1,3,1,0,0,0,3,0,0,0,0] 14)) fun c0=>let u3:=(O.d (O.n c0 0));(O.c (O.b (O.d u3) (O.f 8 [] (xr x kR 0)) (O.a [.int u4])) fun c1=>(O.b (O.j u3 O.k (O.d (O.e (O.i c1 0) u4))) (O.a [.int u4]) (O.b (O.e (x.I 5) u4) (O.a [.int (lq9 O (-1))]) (O.g (O.q u2 (O.l (x.L 33))) (O.a [.int (O.al (O.m u0 u4) u4 u0)]))))))
def Jj:Nat→Env:=eL [(8,AP),(216,B3)]
theorem Rd {N ls}:Jj N 8 [] ls=AP N ls:=id rfl
theorem RA {N ls}:Jj N 216 [] ls=B3 N ls:=id rfl
def Jd:=oS YG Mo Jj
def Zx:List Nat:=[2,0,0,0,0,0,0,0,1,0,0,0,0,3,0,0,0,0,0,0,0,0,0,0,0,0,0,0,3,0,3,3,1,3,1,0,0,0,3,0,0,0,0]
def Og (O:Alg) (x:Ags O):O.M:=let u3:=(lq9 O 0);let u1:=(O.z (x.I 42) (O.l (x.L 38)));let u0:=(O.y .i64 (x.I 42) (lq9 O 1));(O.c (O.f 216 [] (xr x [0,0,0,0,0,0,0,0,0,0,0,0,0,0,3,0,3,3,1,3,1,0,0,0,3,0,0,0,0] 14)) fun c0=>let u2:=(O.d (O.n c0 0));(O.c (O.b (O.d u2) (O.f 8 [] (xr x kR 0)) (O.a [.int u3])) fun c1=>(O.b (O.j u2 O.k (O.d (O.e (O.i c1 0) u3))) (O.a [.int (lq9 O 3)]) (O.g (O.d (O.w u1 (O.d (O.q u0 (O.l (x.L 38)))))) (O.c (O.f 217 [] (xr x [2,0,0,0,0,0,0,0,1,0,0,0,0,3,0,0,0,0,0,0,0,0,0,0,0,0,0,0,3,0,3,3,1,3,1,0,0,0,3,0,0,0,0] 0)) fun c2=>(O.b (O.j (O.j (O.e (x.I 42) (x.I 36)) O.k (O.e (x.I 42) (x.I 29))) O.k (O.j u1 (O.rB (x.L 38) u0 0) O.h)) (O.a [.int (lq9 O 7)]) (O.c (O.f 103 [] [.rows (x.L 31),.int (x.I 42)]) fun c3=>(O.b (O.n c3 0) (O.a [.int (lq9 O 8)]) (O.b (O.j (O.d (O.e (O.i c2 0) (lq9 O (-1)))) (O.m (x.I 25) (O.y .i64 (x.I 4) (O.i c2 0))) O.h) (O.a [.int (lq9 O 9)]) (O.a [.int u3]))))))))))
def Ff:Nat→Env:=eL [(8,AP),(103,Aw),(216,B3),(217,Jd)]
theorem Sf {N ls}:Ff N 8 [] ls=AP N ls:=id rfl
theorem MC {N ls}:Ff N 103 [] ls=Aw N ls:=id rfl
theorem Sh {N ls}:Ff N 216 [] ls=B3 N ls:=id rfl
theorem UA {N ls}:Ff N 217 [] ls=Jd N ls:=id rfl
def Kv:=oS Zx Og Ff
def X2:List Nat:=[2,0,0,0,0,0,0,0,1,0,0,0,0,3,0,0,0,0,0,0,0,0,0,0,0,0,0,0,3,0,3,3,1,3,1,0,0,0,3,0,0,0,0]
def M5 (O:Alg) (x:Ags O):O.M:=(O.c (O.f 204 [] (xr x kI 14)) fun c0=>(O.c (O.f 205 [] (xr x [2,0,0,0,0,0,0,0,1,0,0,0,0,3,0,0,0,0,0,0,0,0,0,0,0,0,0,0,3,0,3,3,1,3,1,0,0,0,3,0,0,0,0] 0)) fun c1=>let u0:=(O.i c1 0);(O.b (O.e u0 (lq9 O 0)) (O.a (ap O (cr O c0 [0,0,0,0,0,0,0,0,0,0,0,0,0,0,3] 0) (ap O [.int (x.I 42)] (ap O (cr O c0 [3,3,1,3,1,0,0,0,3,0,0,0] 16) [.int u0])))) (O.a (ap O (cr O c0 kI 0) [.int u0])))))
def Jh:Nat→Env:=eL [(204,Cq),(205,Kv)]
theorem UF {N ls}:Jh N 204 [] ls=Cq N ls:=id rfl
theorem Tz {N ls}:Jh N 205 [] ls=Kv N ls:=id rfl
def I7:=oS X2 M5 Jh
def Nh:List Nat:=[0,0,0,0,0,1,0,0,0,0,1,0]
def FI (O:Alg) (x:Ags O):O.M:=let u3:=(lq9 O 0);let u2:=(O.e (x.I 4) u3);let u1:=(O.e (x.I 2) u3);let u0:=(O.d (O.e (x.I 4) (lq9 O 6)));(O.b (O.e (x.I 0) (O.lit .u8 2)) (O.a [.bool (O.j (O.e (x.I 1) (O.lit .u8 0)) u0 O.h)]) (O.b (O.e (x.I 1) (O.lit .u8 0)) (O.a [.bool (O.j u1 u2 O.h)]) (O.b (O.e (x.I 1) (O.lit .u8 1)) (O.a [.bool (O.j u0 O.k u1)]) (O.a [.bool (O.j u0 (O.j (O.m u3 (x.I 2)) O.k (O.d u2)) O.h)]))))
def Lz:Nat→Env:=eL []
def Da:=oS Nh FI Lz
def Rs:List Nat:=[0,0,0,0,0,1,0,0,0,0,1,0]
def Hj (O:Alg) (x:Ags O):O.M:=let u3:=(lq9 O 0);let u2:=(lq9 O 11);let u1:=(O.e (x.I 4) u3);let u0:=(O.d u1);(O.b (O.j (O.j (O.j (O.j (O.j (O.m (x.I 0) (O.lit .u8 1)) O.k (O.m (O.lit .u8 3) (x.I 0))) O.k (O.m (O.lit .u8 3) (x.I 1))) O.k (O.m (O.lit .u8 10) (x.I 6))) O.k (O.m (x.I 11) u3)) O.k (O.m (lq9 O 8) (x.I 11))) (O.a [.int u2]) (O.b (O.j (O.j (O.j (O.j (O.m (x.I 2) u3) O.k (O.m (lq9 O 7) (x.I 2))) O.k (O.m (x.I 3) u3)) O.k (O.m (x.I 2) (x.I 3))) O.k (O.j (O.j u0 (O.d (O.e (x.I 4) (lq9 O 4))) O.h) (O.d (O.e (x.I 4) (lq9 O 6))) O.h)) (O.a [.int (lq9 O 12)]) (O.c (O.f 61 [] (xr x [0,0,0,0,0,1,0,0,0,0,1,0] 0)) fun c0=>(O.b (O.j (O.d (O.n c0 0)) O.k (O.j (O.j (O.j (O.d (O.e (x.I 0) (O.lit .u8 2))) (O.e (x.I 1) (O.lit .u8 1)) O.h) (O.e (x.I 2) u3) O.h) u1 O.h)) (O.a [.int u2]) (O.b (O.j (O.j (O.d (O.e (x.I 11) u3)) (O.d (O.e (x.I 1) (O.lit .u8 1))) O.h) (O.d (O.e (x.I 6) (O.lit .u8 2))) O.h) (O.a [.int u2]) (O.b (O.j u0 (O.d (O.e (x.I 6) (O.lit .u8 0))) O.h) (O.a [.int u2]) (O.b (O.j (O.j (x.B 5) (O.d (O.e (x.I 6) (O.lit .u8 6))) O.h) (O.d (O.e (x.I 6) (O.lit .u8 8))) O.h) (O.a [.int u2]) (O.a [.int u3]))))))))
def JZ:Nat→Env:=eL [(61,Da)]
theorem KR {N ls}:JZ N 61 [] ls=Da N ls:=id rfl
def CS:=oS Rs Hj JZ
def Na:List Nat:=[0]
def FM (O:Alg) (x:Ags O):O.M:=(O.a [.bool (O.j (O.z (O.lit .u8 1) (x.I 0)) (O.z (x.I 0) (O.lit .u8 5)) O.h)])
def L3:Nat→Env:=eL []
def DY:=oS Na FM L3
def QL:List Nat:=[2,0,0,0,0,0,0,0,1,0,0,0,0,3,0,0,0,0,0,1,0,0,0,0,1,0]
def GZ (O:Alg) (x:Ags O):O.M:=let u2:=(lq9 O 0);let u1:=(O.u .i64 (O.y .i64 (x.I 16) (x.I 17)) (x.I 18));(O.c (O.f 38 [] (xr x [0,0,0,0,0,1,0,0,0,0,1,0] 14)) fun c0=>(O.b (O.d (O.e (O.i c0 0) u2)) (O.a [.int u2,.int u2,.int u2,.int u2,.int u2,.int u2,.bool O.h,.bool O.h,.bool O.h,.bool O.h]) (O.c (O.f 39 [] [.int (x.I 20)]) fun c1=>let u3:=(O.n c1 0);(O.c (O.b (x.B 19) (O.a [.int (O.u .i64 (x.I 16) (lq9 O 1))]) (O.a [.int (x.I 16)])) fun c2=>let u0:=(O.e (O.au .i64 (O.i c2 0) (lq9 O 2)) (lq9 O 1));(O.c (O.b (O.e (x.I 14) (O.lit .u8 2)) (O.a [.int u2,.int (O.u .i64 (x.I 6) u1),.int u2,.int u2,.int u2,.int u2,.bool (O.e (x.I 14) (O.lit .u8 1)),.bool (O.d (O.e (x.I 14) (O.lit .u8 2))),.bool u3,.bool u0]) (O.b (O.e (x.I 14) (O.lit .u8 3)) (O.a [.int u2,.int u2,.int (x.I 7),.int u2,.int u2,.int u2,.bool (O.e (x.I 14) (O.lit .u8 1)),.bool (O.d (O.e (x.I 14) (O.lit .u8 2))),.bool u3,.bool u0]) (O.a [.int u2,.int u2,.int u2,.int u2,.int u2,.int u2,.bool (O.e (x.I 14) (O.lit .u8 1)),.bool (O.d (O.e (x.I 14) (O.lit .u8 2))),.bool u3,.bool u0]))) fun c3=>(O.c (O.b (O.d (O.e (x.I 14) (O.lit .u8 2))) (O.b (O.e (x.I 15) (O.lit .u8 1)) (O.a (ap O [.int u1] (cr O c3 [0,0,0,0,0,1,1,1,1] 1))) (O.b (O.e (x.I 15) (O.lit .u8 2)) (O.a (ap O (cr O c3 [0,0,0] 0) (ap O [.int u1] (cr O c3 [0,0,1,1,1,1] 4)))) (O.b (O.e (x.I 15) (O.lit .u8 3)) (O.a (ap O (cr O c3 [0,0,0,0] 0) (ap O [.int u1] (cr O c3 [0,1,1,1,1] 5)))) (O.a (cr O c3 [0,0,0,0,0,0,1,1,1,1] 0))))) (O.a (cr O c3 [0,0,0,0,0,0,1,1,1,1] 0))) fun c4=>(O.a (ap O (cr O c4 [0,0,0,0,0] 0) (ap O [.int (O.u .i64 (O.u .i64 (O.i c4 0) (O.i c4 1)) (O.i c4 2))] (cr O c4 [1,1,1,1] 6))))))))))
def FK:Nat→Env:=eL [(38,CS),(39,DY)]
theorem Lh {N ls}:FK N 38 [] ls=CS N ls:=id rfl
theorem KB {N ls}:FK N 39 [] ls=DY N ls:=id rfl
def BP:=oS QL GZ FK
def SQ:List Nat:=[0,0,0,0,0,0,1,1,1,1]
def RN (O:Alg) (x:Ags O):O.M:=(O.a [.int (O.u .i64 (O.u .i64 (O.u .i64 (O.u .i64 (x.I 0) (x.I 1)) (x.I 2)) (x.I 3)) (x.I 4))])
def YQ:Nat→Env:=eL []
def CO:=oS SQ RN YQ
def TU:List Nat:=[0,0,0,0,0,0,0,0,0,0,0,0,0,0,3,0,3,3,1,3,1,0,0,0,3,0,0,0]
def EB (O:Alg) (x:Ags O):O.M:=(O.c (O.f 202 [] (xr x kI 0)) fun c0=>(O.a [.bool (O.j (O.n c0 0) (O.j (O.e (x.I 12) (lq9 O 0)) O.k (O.e (x.I 13) (lq9 O 0))) O.h)]))
def ET:Nat→Env:=eL [(202,B9)]
theorem OA {N ls}:ET N 202 [] ls=B9 N ls:=id rfl
def BT:=oS TU EB ET
def Wg:List Nat:=[0,0,0,0,0,0,0,0,0,0,0,0,0,0,3,0,3,3,1,3,1,0,0,0,3,0,0,0,0]
def Ky (O:Alg) (x:Ags O):O.M:=(O.a [.bool (O.j (O.z (lq9 O 1) (x.I 28)) (O.z (x.I 28) (O.l (x.L 24))) O.h)])
def Tu:Nat→Env:=eL []
def A9:=oS Wg Ky Tu
def SR:List Nat:=[0,0,0,0,0,0,0,0,0,0,0,0,0,0,3,0,3,3,1,3,1,0,0,0,3,0,0,0,0]
def Hd (O:Alg) (x:Ags O):O.M:=let u0:=(O.y .i64 (x.I 28) (lq9 O 1));(O.c (O.f 213 [] (xr x [0,0,0,0,0,0,0,0,0,0,0,0,0,0,3,0,3,3,1,3,1,0,0,0,3,0,0,0,0] 0)) fun c0=>(O.g (O.d (O.w (O.n c0 0) (O.d (O.q u0 (O.l (x.L 24)))))) (O.a [.bool (O.j (O.n c0 0) (O.rB (x.L 24) u0 0) O.h)])))
def JB:Nat→Env:=eL [(213,A9)]
theorem Nr {N ls}:JB N 213 [] ls=A9 N ls:=id rfl
def A7:=oS SR Hd JB
def Tm:List Nat:=[2,0,0,0,0,0,0,0,1,0,0,0,0,3,0]
def Iz (O:Alg) (x:Ags O):O.M:=let u1:=(lq9 O 1);let u0:=(O.u .i64 (x.I 14) u1);(O.c (O.ab (fun s0 c0=>let u2:=(O.i c0 0);(O.b (O.m u2 (O.l (x.L 13))) (O.g (O.q u2 (O.l (x.L 13))) (O.b (O.j (O.z (O.v (x.L 13) u2 0) u0) (O.z u0 (O.v (x.L 13) u2 1)) O.h) (O.a [.int (lq9 O 0),.int (O.v (x.L 13) u2 2)]) (s0 [.int (O.u .i64 u2 u1)]))) (O.a [.int u1]))) [.int (lq9 O 0)]) fun c0=>(O.b (O.ak c0 0) (O.a [.int (O.i c0 1)]) (O.a [.int (x.I 12)])))
def P2:Nat→Env:=eL []
def GE:=oS Tm Iz P2
def Wl:List Nat:=[2,0,0,0,0,0,0,0,1,0,0,0,0,3,0,0,0,0,0,0,0,0,0,0,0,0,0,0,3,0,3,3,1,3,1,0,0,0,3,0,0,0]
def LJ (O:Alg) (x:Ags O):O.M:=(O.c (O.f 213 [] (ap O (xr x kI 14) [.int (x.I 36)])) fun c0=>let u0:=(O.d (O.n c0 0));(O.c (O.b (O.d u0) (O.f 214 [] (ap O (xr x kI 14) [.int (x.I 36)])) (O.a [.bool O.h])) fun c1=>(O.b (O.j (O.j u0 O.k (O.n c1 0)) O.k (O.e (x.I 36) (x.I 29))) (O.a [.int (lq9 O 17)]) (O.c (O.f 221 [] (ap O (xr x kR 0) [.int (x.I 24)])) fun c2=>(O.b (O.m (O.i c2 0) (x.I 37)) (O.a [.int (lq9 O 16)]) (O.a [.int (lq9 O 0)]))))))
def F0:Nat→Env:=eL [(213,A9),(214,A7),(221,GE)]
theorem Qv {N ls}:F0 N 213 [] ls=A9 N ls:=id rfl
theorem OD {N ls}:F0 N 214 [] ls=A7 N ls:=id rfl
theorem O5 {N ls}:F0 N 221 [] ls=GE N ls:=id rfl
def Hp:=oS Wl LJ F0
def P6:List Nat:=[]
def QQ (O:Alg) (x:Ags O):O.M:=(O.a [.rows (O.ac [[.int (O.lit .u8 0),.str (O.p ⟨#[78,79,84,79,85,84]⟩),.bool O.h,.bool O.h,.bool O.h,.bool O.h,.bool O.h],[.int (O.lit .u8 1),.str (O.p ⟨#[66,79,87,76,69,68]⟩),.bool O.k,.bool O.h,.bool O.h,.bool O.h,.bool O.h],[.int (O.lit .u8 2),.str (O.p ⟨#[67,65,85,71,72,84]⟩),.bool O.k,.bool O.h,.bool O.h,.bool O.k,.bool O.h],[.int (O.lit .u8 3),.str (O.p ⟨#[76,66,87]⟩),.bool O.k,.bool O.h,.bool O.h,.bool O.h,.bool O.h],[.int (O.lit .u8 4),.str (O.p ⟨#[83,84,85,77,80,69,68]⟩),.bool O.k,.bool O.k,.bool O.h,.bool O.k,.bool O.h],[.int (O.lit .u8 5),.str (O.p ⟨#[72,73,84,87,73,67,75,69,84]⟩),.bool O.k,.bool O.k,.bool O.h,.bool O.h,.bool O.h],[.int (O.lit .u8 6),.str (O.p ⟨#[82,85,78,79,85,84]⟩),.bool O.k,.bool O.k,.bool O.k,.bool O.k,.bool O.k],[.int (O.lit .u8 7),.str (O.p ⟨#[72,73,84,84,87,73,67,69]⟩),.bool O.k,.bool O.h,.bool O.k,.bool O.h,.bool O.h],[.int (O.lit .u8 8),.str (O.p ⟨#[79,66,83,84,82,85,67,84,73,78,71]⟩),.bool O.k,.bool O.k,.bool O.k,.bool O.h,.bool O.k],[.int (O.lit .u8 9),.str (O.p ⟨#[84,73,77,69,68,79,85,84]⟩),.bool O.h,.bool O.h,.bool O.h,.bool O.h,.bool O.h],[.int (O.lit .u8 10),.str (O.p ⟨#[82,69,84,73,82,69,68]⟩),.bool O.h,.bool O.h,.bool O.h,.bool O.h,.bool O.h]])])
def XM:Nat→Env:=eL []
def Bm:=oS P6 QQ XM
def UQ:List Nat:=[0]
def J2 (O:Alg) (x:Ags O):O.M:=(O.c (O.f 226 [] []) fun c0=>let u2:=(O.o c0 0);let u0:=(O.l u2);(O.c (O.ab (fun s1 c1=>let u1:=(O.i c1 0);(O.b (O.m u1 u0) (O.g (O.q u1 u0) (O.b (O.e (O.v u2 u1 0) (x.I 0)) (O.a (ap O [.int (lq9 O 0)] (rr O u2 u1 [0,2,1,1,1,1,1] 0))) (s1 [.int (O.u .i64 u1 (lq9 O 1))]))) (O.a [.int (lq9 O 1)]))) [.int (lq9 O 0)]) fun c1=>(O.b (O.ak c1 0) (O.a (cr O c1 [0,2,1,1,1,1,1] 1)) (O.a [.int (O.lit .u8 0),.str (O.p ⟨#[]⟩),.bool O.h,.bool O.h,.bool O.h,.bool O.h,.bool O.h]))))
def Lg:Nat→Env:=eL [(226,Bm)]
theorem NG {N ls}:Lg N 226 [] ls=Bm N ls:=id rfl
def Gm:=oS UQ J2 Lg
def Oz:List Nat:=[3,0]
def F3 (O:Alg) (x:Ags O):O.M:=(O.c (O.ab (fun s0 c0=>let u0:=(O.i c0 0);(O.b (O.m u0 (O.l (x.L 0))) (O.g (O.q u0 (O.l (x.L 0))) (O.b (O.e (x.I 1) (O.v (x.L 0) u0 0)) (O.a [.int (lq9 O 0),.int u0]) (s0 [.int (O.u .i64 u0 (lq9 O 1))]))) (O.a [.int (lq9 O 1)]))) [.int (lq9 O 0)]) fun c0=>(O.b (O.ak c0 0) (O.a [.int (O.i c0 1)]) (O.a [.int (lq9 O (-1))])))
def Mu:Nat→Env:=eL []
def Dq:=oS Oz F3 Mu
def Lr:List Nat:=[3,0]
def D5 (O:Alg) (x:Ags O):O.M:=(O.c (O.f 227 [] [.rows (x.L 0),.int (x.I 1)]) fun c0=>(O.a [.bool (O.z (lq9 O 0) (O.i c0 0))]))
def FU:Nat→Env:=eL [(227,Dq)]
theorem IW {N ls}:FU N 227 [] ls=Dq N ls:=id rfl
def C5:=oS Lr D5 FU
def PL:List Nat:=[0,2,1,1,1,1,1,0]
def Fx (O:Alg) (x:Ags O):O.M:=(O.a [.bool (O.j (O.j (O.j (O.e (x.I 7) (O.lit .u8 1)) (x.B 2) O.h) O.k (O.j (O.e (x.I 7) (O.lit .u8 2)) (x.B 3) O.h)) O.k (O.j (O.e (x.I 7) (O.lit .u8 3)) (x.B 4) O.h))])
def MQ:Nat→Env:=eL []
def Ds:=oS PL Fx MQ
def Rp:List Nat:=[0,1]
def He (O:Alg) (x:Ags O):O.M:=(O.c (O.f 226 [] []) fun c0=>let u5:=(O.o c0 0);let u3:=(O.l u5);(O.c (O.ab (fun s1 c1=>let u6:=(O.o c1 0);let u4:=(O.i c1 1);let u2:=(O.v u5 u4 0);let u1:=(O.u .i64 u4 (lq9 O 1));let u0:=(O.af u6 (O.ac [[.int u2]]));(O.b (O.m u4 u3) (O.g (O.q u4 u3) (O.c (O.f 228 [] (ap O (rr O u5 u4 [0,2,1,1,1,1,1] 0) [.int (x.I 0)])) fun c2=>(O.b (O.j (O.n c2 0) (O.j (O.j (O.j (O.d (x.B 1)) O.k (O.e u2 (O.lit .u8 6))) O.k (O.e u2 (O.lit .u8 7))) O.k (O.e u2 (O.lit .u8 8))) O.h) (O.g (O.t (O.l u0) 1) (s1 [.rows u0,.int u1])) (s1 [.rows u6,.int u1])))) (O.a [.rows u6]))) [.rows O.x,.int (lq9 O 0)]) fun c1=>(O.a [.rows (O.o c1 0)])))
def Fu:Nat→Env:=eL [(226,Bm),(228,Ds)]
theorem Lq {N ls}:Fu N 226 [] ls=Bm N ls:=id rfl
theorem Ku {N ls}:Fu N 228 [] ls=Ds N ls:=id rfl
def FE:=oS Rp He Fu
def Kt:List Nat:=[0]
def Dn (O:Alg) (x:Ags O):O.M:=(O.a [.bool (O.j (O.z (lq9 O 1) (x.I 0)) (O.z (x.I 0) (lq9 O 11)) O.h)])
def JH:Nat→Env:=eL []
def Cs:=oS Kt Dn JH
def MJ:List Nat:=[0,0,0,0,0,1,0,0,0,0,1,0,0,2,1,1,1,1,1]
def Ee (O:Alg) (x:Ags O):O.M:=let u0:=(O.e (x.I 9) (lq9 O 0));(O.c (O.f 229 [] [.int (x.I 8)]) fun c0=>(O.b (O.j (O.d (O.as (x.B 17) (O.n c0 0))) O.k (O.j (O.d (x.B 17)) (O.d (O.e (x.I 8) (lq9 O 0))) O.h)) (O.a [.bool O.h]) (O.c (O.b (O.w (O.d u0) (O.e (x.I 6) (O.lit .u8 6))) (O.f 229 [] [.int (x.I 9)]) (O.a [.bool O.h])) fun c1=>(O.a [.bool (O.j u0 O.k (O.j (O.j (O.e (x.I 6) (O.lit .u8 6)) (O.n c1 0) O.h) (O.d (O.e (x.I 9) (x.I 8))) O.h))]))))
def GL:Nat→Env:=eL [(229,Cs)]
theorem HJ {N ls}:GL N 229 [] ls=Cs N ls:=id rfl
def DD:=oS MJ Ee GL
def NK:List Nat:=[0,0,0,0,0,1,0,0,0,0,1,0,1]
def Eb (O:Alg) (x:Ags O):O.M:=let u0:=(lq9 O 0);(O.b (O.e (x.I 6) (O.lit .u8 0)) (O.b (O.d (O.e (x.I 7) u0)) (O.a [.int (lq9 O 14)]) (O.b (O.j (O.j (O.d (O.e (x.I 8) u0)) O.k (O.d (O.e (x.I 9) u0))) O.k (x.B 10)) (O.a [.int (lq9 O 15)]) (O.a [.int u0]))) (O.c (O.f 222 [] [.int (x.I 6)]) fun c0=>(O.c (O.f 224 [] [.int (x.I 0),.bool (x.B 12)]) fun c1=>(O.c (O.f 223 [] [.rows (O.o c1 0),.int (x.I 6)]) fun c2=>(O.b (O.d (O.n c2 0)) (O.a [.int (lq9 O 13)]) (O.b (O.j (O.d (O.j (O.e (x.I 6) (O.lit .u8 6)) O.k (O.e (x.I 6) (O.lit .u8 8)))) (O.j (O.d (O.e (x.I 1) (O.lit .u8 0))) O.k (O.d (O.e (x.I 2) u0))) O.h) (O.a [.int (lq9 O 12)]) (O.b (O.j (O.d (O.e (x.I 7) (lq9 O 1))) (O.j (O.d (O.e (x.I 7) (lq9 O 2))) O.k (O.d (O.n c0 6))) O.h) (O.a [.int (lq9 O 14)]) (O.c (O.f 225 [] (ap O (xr x [0,0,0,0,0,1,0,0,0,0,1,0] 0) (cr O c0 [0,2,1,1,1,1,1] 0))) fun c3=>(O.b (O.d (O.n c3 0)) (O.a [.int (lq9 O 15)]) (O.b (O.j (O.j (x.B 10) (O.d (O.e (x.I 6) (O.lit .u8 2))) O.h) (O.d (O.e (x.I 6) (O.lit .u8 6))) O.h) (O.a [.int (lq9 O 18)]) (O.a [.int u0])))))))))))
def B8:Nat→Env:=eL [(222,Gm),(223,C5),(224,FE),(225,DD)]
theorem Kf {N ls}:B8 N 222 [] ls=Gm N ls:=id rfl
theorem Hf {N ls}:B8 N 223 [] ls=C5 N ls:=id rfl
theorem J5 {N ls}:B8 N 224 [] ls=FE N ls:=id rfl
theorem H3 {N ls}:B8 N 225 [] ls=DD N ls:=id rfl
def DJ:=oS NK Eb B8
def Wk:List Nat:=[0,0,0,0,0,0,0,0,0,0,0,0,0,0,3,0,3,3,1,3,1,0,0,0,3,0,0,0,0,0,0,0,0,1,0,0,0,0,1,0]
def LR (O:Alg) (x:Ags O):O.M:=let u1:=(lq9 O 1);let u0:=(lq9 O 0);(O.c (O.b (O.m u0 (x.I 36)) (O.c (O.f 213 [] (ap O (xr x kI 0) [.int (x.I 36)])) fun c0=>(O.b (O.d (O.n c0 0)) (O.a [.int u1,.int (lq9 O 3)]) (O.c (O.f 214 [] (ap O (xr x kI 0) [.int (x.I 36)])) fun c1=>(O.b (O.d (O.as (x.B 38) (O.n c1 0))) (O.a [.int u1,.int (lq9 O 18)]) (O.a [.int u0]))))) (O.a [.int u0])) fun c0=>(O.b (O.ak c0 0) (O.c (O.b (O.m u0 (x.I 37)) (O.c (O.f 213 [] (ap O (xr x kI 0) [.int (x.I 37)])) fun c1=>(O.b (O.d (O.n c1 0)) (O.a [.int u1,.int (lq9 O 3)]) (O.c (O.f 214 [] (ap O (xr x kI 0) [.int (x.I 37)])) fun c2=>(O.b (O.n c2 0) (O.a [.int u1,.int (lq9 O 18)]) (O.a [.int u0]))))) (O.a [.int u0])) fun c1=>(O.b (O.ak c1 0) (O.b (O.j (O.e (x.I 34) (O.lit .u8 4)) (O.d (O.e (O.al (O.m (x.I 36) u0) u0 (x.I 36)) (x.I 22))) O.h) (O.a [.int (lq9 O 17)]) (O.a [.int u0])) (O.a [.int (O.i c1 1)]))) (O.a [.int (O.i c0 1)])))
def Iw:Nat→Env:=eL [(213,A9),(214,A7)]
theorem QW {N ls}:Iw N 213 [] ls=A9 N ls:=id rfl
theorem N0 {N ls}:Iw N 214 [] ls=A7 N ls:=id rfl
def Hy:=oS Wk LR Iw
def QH:List Nat:=[2,0,0,0,0,0,0,0,1,0,0,0,0,3,0,0,0,0,0,0,0,0,0,0,0,0,0,0,3,0,3,3,1,3,1,0,0,0,3,0,0,0,0,0,0,0,0,1,0,0,0,0,1,0]
def Ga (O:Alg) (x:Ags O):O.M:=let u3:=(lq9 O 0);(O.c (O.f 197 [] (xr x kI 14)) fun c0=>(O.b (O.n c0 0) (O.a [.int (lq9 O 6)]) (O.b (O.e (x.I 29) u3) (O.a [.int (lq9 O 7)]) (O.c (O.f 218 [] (xr x [2,0,0,0,0,0,0,0,1,0,0,0,0,3,0,0,0,0,0,0,0,0,0,0,0,0,0,0,3,0,3,3,1,3,1,0,0,0,3,0,0,0] 0)) fun c1=>(O.c (O.f 38 [] (xr x [0,0,0,0,0,1,0,0,0,0,1,0] 42)) fun c2=>(O.c (O.f 219 [] (ap O (xr x [0,0,0,0,0,1,0,0,0,0,1,0] 42) [.bool (x.B 34)])) fun c3=>(O.c (O.f 220 [] (xr x [0,0,0,0,0,0,0,0,0,0,0,0,0,0,3,0,3,3,1,3,1,0,0,0,3,0,0,0,0,0,0,0,0,1,0,0,0,0,1,0] 14)) fun c4=>let u2:=(O.ac [[.int (O.i c1 0)],[.int (O.i c2 0)],[.int (O.i c3 0)],[.int (O.i c4 0)]]);let u1:=(O.l u2);(O.c (O.ab (fun s5 c5=>let u4:=(O.i c5 0);let u0:=(O.v u2 u4 0);(O.b (O.m u4 u1) (O.g (O.q u4 u1) (O.b (O.d (O.e u0 u3)) (O.a [.int u3,.int u0]) (s5 [.int (O.u .i64 u4 (lq9 O 1))]))) (O.a [.int (lq9 O 1)]))) [.int u3]) fun c5=>(O.b (O.ak c5 0) (O.a [.int (O.i c5 1)]) (O.a [.int u3]))))))))))
def CG:Nat→Env:=eL [(38,CS),(197,BT),(218,Hp),(219,DJ),(220,Hy)]
theorem LX {N ls}:CG N 38 [] ls=CS N ls:=id rfl
theorem MB {N ls}:CG N 197 [] ls=BT N ls:=id rfl
theorem NN {N ls}:CG N 218 [] ls=Hp N ls:=id rfl
theorem I2 {N ls}:CG N 219 [] ls=DJ N ls:=id rfl
theorem NM {N ls}:CG N 220 [] ls=Hy N ls:=id rfl
def EP:=oS QH Ga CG
def X1:List Nat:=[0,0,0,0,0,0,0,0,0,0,0,0,0,0,3,0,3,3,1,3,1,0,0,0,3,0,0,0,0,0,0,0,0,1,0,0,0,0,1,0]
def Mr (O:Alg) (x:Ags O):O.M:=let u5:=(lq9 O 2);let u4:=(lq9 O 1);let u3:=(lq9 O 0);let u1:=(O.d (O.e (O.au .i64 (x.I 30) u5) u3));(O.c (O.f 201 [] (xr x kI 0)) fun c0=>(O.c (O.b (O.d (O.e (x.I 34) (O.lit .u8 0))) (O.b (O.j (O.e (x.I 35) u4) (O.d (O.e (x.I 12) u3)) O.h) (O.a [.int u4,.int (x.I 12)]) (O.b (O.j (O.e (x.I 35) u5) (O.d (O.e (x.I 13) u3)) O.h) (O.a [.int u5,.int (x.I 13)]) (O.a [.int u3,.int u3]))) (O.a [.int u3,.int u3])) fun c1=>let u7:=(O.i c1 1);let u2:=(O.y .i64 u7 u4);(O.c (O.b (x.B 33) (O.a [.bool (O.d u1)]) (O.a [.bool u1])) fun c2=>(O.c (O.b (O.n c2 0) (O.a (ap O (cr O c0 [0,0,0,0,0,0,0,0,0,0,0,0] 0) (ap O [.int (O.i c0 13),.int (O.i c0 12)] (cr O c0 [3,0,3,3,1,3,1,0,0,0,3,0,0,0] 14)))) (O.a (cr O c0 kI 0))) fun c3=>let u6:=(O.o c3 14);let u0:=(O.q u2 (O.l u6));(O.b (O.e (O.i c1 0) u3) (O.a (cr O c3 kI 0)) (O.b (O.d (O.as (O.e (O.i c1 0) u4) (O.n c2 0))) (O.c (O.f 203 [] (ap O (cr O c3 [0,0,0,0,0,0,0,0,0,0,0,0] 0) (ap O [.int u3] (ap O (cr O c3 [0,3,0,3,3,1,3,1,0,0,0,3,0,0,0] 13) [.int u7])))) fun c4=>(O.c (O.b (O.n c4 0) (O.g u0 (O.a (ap O (cr O c3 [0,0,0,0,0,0,0,0,0,0,0,0] 0) (ap O [.int u3,.int (O.i c3 13),.rows (O.ah u6 u2 0 [.int (O.lit .u8 2)])] (cr O c3 [0,3,3,1,3,1,0,0,0,3,0,0,0] 15))))) (O.a (ap O (cr O c3 [0,0,0,0,0,0,0,0,0,0,0,0] 0) (ap O [.int u3] (cr O c3 [0,3,0,3,3,1,3,1,0,0,0,3,0,0,0] 13))))) fun c5=>(O.a (ap O (cr O c5 [0,0,0,0] 0) (ap O [.int (O.u .i64 (O.i c5 4) u4)] (cr O c5 [0,0,0,0,0,0,0,0,0,3,0,3,3,1,3,1,0,0,0,3,0,0,0] 5)))))) (O.c (O.f 203 [] (ap O (cr O c3 [0,0,0,0,0,0,0,0,0,0,0,0,0] 0) (ap O [.int u3] (ap O (cr O c3 [3,0,3,3,1,3,1,0,0,0,3,0,0,0] 14) [.int u7])))) fun c4=>(O.c (O.b (O.n c4 0) (O.g u0 (O.a (ap O (cr O c3 [0,0,0,0,0,0,0,0,0,0,0,0,0] 0) (ap O [.int u3,.rows (O.ah u6 u2 0 [.int (O.lit .u8 2)])] (cr O c3 [0,3,3,1,3,1,0,0,0,3,0,0,0] 15))))) (O.a (ap O (cr O c3 [0,0,0,0,0,0,0,0,0,0,0,0,0] 0) (ap O [.int u3] (cr O c3 [3,0,3,3,1,3,1,0,0,0,3,0,0,0] 14))))) fun c5=>(O.a (ap O (cr O c5 [0,0,0,0] 0) (ap O [.int (O.u .i64 (O.i c5 4) u4)] (cr O c5 [0,0,0,0,0,0,0,0,0,3,0,3,3,1,3,1,0,0,0,3,0,0,0] 5))))))))))))
def J6:Nat→Env:=eL [(201,A3),(203,A0)]
theorem Sc {N ls}:J6 N 201 [] ls=A3 N ls:=id rfl
theorem Qt {N ls}:J6 N 203 [] ls=A0 N ls:=id rfl
def JU:=oS X1 Mr J6
def Xk:List Nat:=[2,0,0,0,0,0,0,0,1,0,0,0,0,3,0,0,0,0,0,0,0,0,0,0,0,0,0,0,3,0,3,3,1,3,1,0,0,0,3,0,0,0,1]
def Mw (O:Alg) (x:Ags O):O.M:=let u5:=(lq9 O 0);let u4:=(lq9 O 1);let u2:=(O.y .i64 (x.I 29) u4);(O.c (O.f 204 [] (xr x kI 14)) fun c0=>let u1:=(O.af (O.o c0 16) (O.ac [[.int (x.I 29)]]));(O.c (O.f 216 [] (ap O (xr x kI 14) [.int (x.I 29)])) fun c1=>let u3:=(O.d (O.n c1 0));(O.c (O.b (O.d u3) (O.f 8 [] (xr x kR 0)) (O.a [.int u5])) fun c2=>(O.b (O.j u3 O.k (O.d (O.e (O.i c2 0) u5))) (O.a (ap O (cr O c0 kI 0) [.bool O.h])) (O.c (O.f 103 [] [.rows (O.o c0 16),.int (x.I 29)]) fun c3=>(O.c (O.b (O.d (O.n c3 0)) (O.g (O.t (O.l u1) 8) (O.a (ap O (cr O c0 [0,0,0,0,0,0,0,0,0,0,0,0,0,0,3,0] 0) (ap O [.rows u1] (cr O c0 [3,1,3,1,0,0,0,3,0,0,0] 17))))) (O.a (cr O c0 kI 0))) fun c4=>let u6:=(O.o c4 19);let u0:=(O.q u2 (O.l u6));(O.c (O.b (x.B 42) (O.g u0 (O.g u0 (O.a (ap O (cr O c4 [0,0,0,0,0,0,0,0,0,0,0] 0) (ap O [.int (O.u .i64 (O.i c4 11) u4)] (ap O (cr O c4 [0,0,3,0,3,3,1] 12) (ap O [.rows (O.ah u6 u2 0 [.int (O.u .i64 (O.v u6 u2 0) u4)]),.bool (O.n c4 20),.int (O.u .i64 (O.i c4 21) u4)] (cr O c4 [0,0,3,0,0,0] 22)))))))) (O.a (cr O c4 kI 0))) fun c5=>(O.b (O.m (O.i c5 11) (x.I 4)) (O.a (ap O (cr O c5 kI 0) [.bool O.h])) (O.a (ap O (cr O c5 [0,0,0,0,0,0,0,0,0,0] 0) (ap O [.int (O.u .i64 (O.i c5 10) u4),.int u5] (ap O (cr O c5 [0,0,3] 12) (ap O [.int u5,.rows O.x,.rows (O.o c5 16)] (ap O (cr O c5 [1,3,1,0,0,0,3,0,0,0] 18) [.bool O.k]))))))))))))))
def Et:Nat→Env:=eL [(8,AP),(103,Aw),(204,Cq),(216,B3)]
theorem SB {N ls}:Et N 8 [] ls=AP N ls:=id rfl
theorem Lc {N ls}:Et N 103 [] ls=Aw N ls:=id rfl
theorem T6 {N ls}:Et N 204 [] ls=Cq N ls:=id rfl
theorem SD {N ls}:Et N 216 [] ls=B3 N ls:=id rfl
def JE:=oS Xk Mw Et
def TR:List Nat:=[0,0,0,0,0,0,0,0,0,0,0,0,0,0,3,0,3,3,1,3,1,0,0,0,3,0,0,0]
def Ii (O:Alg) (x:Ags O):O.M:=(O.c (O.f 201 [] (xr x kI 0)) fun c0=>(O.a (ap O (cr O c0 [0,0,0,0,0,0,0,0,0,0,0,0] 0) (ap O [.int (x.I 13),.int (x.I 12)] (cr O c0 [3,0,3,3,1,3,1,0,0,0,3,0,0,0] 14)))))
def Ka:Nat→Env:=eL [(201,A3)]
theorem Pw {N ls}:Ka N 201 [] ls=A3 N ls:=id rfl
def F2:=oS TR Ii Ka
def Ud:List Nat:=[2,0,0,0,0,0,0,0,1,0,0,0,0,3,0,0,0,0,0,0,0,0,0,0,0,0,0,0,3,0,3,3,1,3,1,0,0,0,3,0,0,0,0,0,0,0,0,1,0,0,0,0,1,0]
def KC (O:Alg) (x:Ags O):O.M:=let u0:=(lq9 O 0);(O.c (O.f 206 [] (xr x [2,0,0,0,0,0,0,0,1,0,0,0,0,3,0,0,0,0,0,0,0,0,0,0,0,0,0,0,3,0,3,3,1,3,1,0,0,0,3,0,0,0,0,0,0,0,0,1,0,0,0,0,1,0] 0)) fun c0=>(O.b (O.d (O.e (O.i c0 0) u0)) (O.c (O.f 120 [] (xr x kI 14)) fun c1=>(O.a (ap O (cr O c1 kI 0) [.int (O.i c0 0)]))) (O.c (O.f 23 [] (ap O (xr x kR 0) (xr x [0,0,0,0,0,1,0,0,0,0,1,0] 42))) fun c1=>(O.c (O.f 207 [] (xr x [0,0,0,0,0,0,0,0,0,0,0,0,0,0,3,0,3,3,1,3,1,0,0,0,3,0,0,0,0,0,0,0,0,1,0,0,0,0,1,0] 14)) fun c2=>(O.c (O.f 24 [] (cr O c1 [0,0,0,0,0,0,1,1,1,1] 0)) fun c3=>(O.c (O.f 208 [] (ap O (xr x kR 0) (ap O (cr O c2 [0,0,0] 0) (ap O [.int (O.u .i64 (O.i c2 3) (O.i c3 0)),.int (O.i c2 4),.int (O.u .i64 (O.i c2 5) (O.i c1 1)),.int (O.u .i64 (O.i c2 6) (O.i c1 2)),.int (O.u .i64 (O.i c2 7) (O.i c1 3)),.int (O.u .i64 (O.i c2 8) (O.i c1 4))] (ap O (cr O c2 [0,0,0,0,0,3,0,3,3,1,3,1,0,0,0,3,0,0,0] 9) [.bool (O.n c1 6)]))))) fun c4=>(O.c (O.b (O.n c4 28) (O.c (O.f 209 [] (cr O c4 kI 0)) fun c5=>(O.a (cr O c5 kI 0))) (O.a (cr O c4 kI 0))) fun c5=>(O.b (O.e (x.I 42) (O.lit .u8 1)) (O.a (ap O (cr O c5 [0,0,0,0,0,0,0,0,0,0,0,0,0,0,3,0,3,3,1,3] 0) (ap O [.bool O.h] (ap O (cr O c5 [0,0,0,3,0,0,0] 21) [.int u0])))) (O.b (O.j (O.e (x.I 42) (O.lit .u8 3)) (x.B 8) O.h) (O.a (ap O (cr O c5 [0,0,0,0,0,0,0,0,0,0,0,0,0,0,3,0,3,3,1,3] 0) (ap O [.bool O.k] (ap O (cr O c5 [0,0,0,3,0,0,0] 21) [.int u0])))) (O.a (ap O (cr O c5 kI 0) [.int u0])))))))))))
def Bx:Nat→Env:=eL [(23,BP),(24,CO),(120,AU),(206,EP),(207,JU),(208,JE),(209,F2)]
theorem Ml {N ls}:Bx N 23 [] ls=BP N ls:=id rfl
theorem NS {N ls}:Bx N 24 [] ls=CO N ls:=id rfl
theorem Nm {N ls}:Bx N 120 [] ls=AU N ls:=id rfl
theorem NI {N ls}:Bx N 206 [] ls=EP N ls:=id rfl
theorem Qp {N ls}:Bx N 207 [] ls=JU N ls:=id rfl
theorem QY {N ls}:Bx N 208 [] ls=JE N ls:=id rfl
theorem OV {N ls}:Bx N 209 [] ls=F2 N ls:=id rfl
def HC:=oS Ud KC Bx
def Xh:List Nat:=[0,0,0,0,0,0,0,0,0,0,0,0,0,0,3,0,3,3,1,3,1,0,0,0,3,0,0,0,0]
def NE (O:Alg) (x:Ags O):O.M:=let u2:=(O.y .i64 (x.I 28) (lq9 O 1));let u1:=(O.v (x.L 14) u2 0);let u0:=(O.q u2 (O.l (x.L 14)));(O.c (O.f 203 [] (xr x [0,0,0,0,0,0,0,0,0,0,0,0,0,0,3,0,3,3,1,3,1,0,0,0,3,0,0,0,0] 0)) fun c0=>(O.b (O.d (O.n c0 0)) (O.a [.int (lq9 O 3)]) (O.c (O.f 197 [] (xr x kI 0)) fun c1=>let u3:=(O.d (O.n c1 0));(O.g (O.d (O.w (O.d u3) (O.d u0))) (O.b (O.j u3 O.k (O.e u1 (O.lit .u8 1))) (O.a [.int (lq9 O 4)]) (O.g u0 (O.b (O.e u1 (O.lit .u8 2)) (O.a [.int (lq9 O 5)]) (O.a [.int (lq9 O 0)]))))))))
def Jx:Nat→Env:=eL [(197,BT),(203,A0)]
theorem Pg {N ls}:Jx N 197 [] ls=BT N ls:=id rfl
theorem Qi {N ls}:Jx N 203 [] ls=A0 N ls:=id rfl
def Dv:=oS Xh NE Jx
def RV:List Nat:=[0,0,0,0,0,0,0,0,0,0,0,0,0,0,3,0,3,3,1,3,1,0,0,0,3,0,0,0,0]
def Hh (O:Alg) (x:Ags O):O.M:=let u0:=(O.y .i64 (x.I 28) (lq9 O 1));(O.c (O.f 201 [] (xr x kI 0)) fun c0=>(O.c (O.f 210 [] (xr x [0,0,0,0,0,0,0,0,0,0,0,0,0,0,3,0,3,3,1,3,1,0,0,0,3,0,0,0,0] 0)) fun c1=>(O.b (O.d (O.e (O.i c1 0) (lq9 O 0))) (O.a (ap O (cr O c0 kI 0) [.int (O.i c1 0)])) (O.c (O.f 203 [] (ap O (cr O c0 kI 0) [.int (x.I 28)])) fun c2=>(O.c (O.b (O.n c2 0) (O.g (O.q u0 (O.l (O.o c0 14))) (O.a (ap O (cr O c0 [0,0,0,0,0,0,0,0,0,0,0,0,0,0] 0) (ap O [.rows (O.ah (O.o c0 14) u0 0 [.int (O.lit .u8 2)])] (cr O c0 [0,3,3,1,3,1,0,0,0,3,0,0,0] 15))))) (O.a (cr O c0 kI 0))) fun c3=>(O.a (ap O (cr O c3 [0,0,0,0] 0) (ap O [.int (O.u .i64 (O.i c3 4) (lq9 O 1))] (ap O (cr O c3 [0,0,0,0,0,0,0,0,0,3,0,3,3,1,3,1,0,0,0,3,0,0,0] 5) [.int (lq9 O 0)])))))))))
def Dx:Nat→Env:=eL [(201,A3),(203,A0),(210,Dv)]
theorem Ov {N ls}:Dx N 201 [] ls=A3 N ls:=id rfl
theorem NQ {N ls}:Dx N 203 [] ls=A0 N ls:=id rfl
theorem Ow {N ls}:Dx N 210 [] ls=Dv N ls:=id rfl
def FA:=oS RV Hh Dx
def U4:List Nat:=[0,0,0,0,0,0,0,0,0,0,0,0,0,0,3,0,3,3,1,3,1,0,0,0,3,0,0,0,0]
def KF (O:Alg) (x:Ags O):O.M:=let u1:=(lq9 O 0);let u0:=(O.y .i64 (x.I 28) (lq9 O 1));(O.c (O.f 201 [] (xr x kI 0)) fun c0=>let u2:=(O.o c0 14);(O.c (O.f 210 [] (xr x [0,0,0,0,0,0,0,0,0,0,0,0,0,0,3,0,3,3,1,3,1,0,0,0,3,0,0,0,0] 0)) fun c1=>(O.b (O.d (O.e (O.i c1 0) u1)) (O.a (ap O (cr O c0 kI 0) [.int (O.i c1 0)])) (O.g (O.q u0 (O.l u2)) (O.b (O.e (O.i c0 12) u1) (O.a (ap O (cr O c0 [0,0,0,0,0,0,0,0,0,0,0,0] 0) (ap O [.int (x.I 28),.int (O.i c0 13),.rows (O.ah u2 u0 0 [.int (O.lit .u8 1)])] (ap O (cr O c0 [0,3,3,1,3,1,0,0,0,3,0,0,0] 15) [.int u1])))) (O.a (ap O (cr O c0 [0,0,0,0,0,0,0,0,0,0,0,0,0] 0) (ap O [.int (x.I 28),.rows (O.ah u2 u0 0 [.int (O.lit .u8 1)])] (ap O (cr O c0 [0,3,3,1,3,1,0,0,0,3,0,0,0] 15) [.int u1])))))))))
def Hm:Nat→Env:=eL [(201,A3),(210,Dv)]
theorem Qw {N ls}:Hm N 201 [] ls=A3 N ls:=id rfl
theorem Qf {N ls}:Hm N 210 [] ls=Dv N ls:=id rfl
def G7:=oS U4 KF Hm
def Wc:List Nat:=[0,0,0,0,0,0,0,0,0,0,0,0,0,0,3,0,3,3,1,3,1,0,0,0,3,0,0,0]
def Fb (O:Alg) (x:Ags O):O.M:=(O.c (O.ab (fun s0 c0=>let u4:=(O.o c0 0);let u3:=(O.i c0 1);let u2:=(O.v (x.L 14) u3 0);let u1:=(O.u .i64 u3 (lq9 O 1));let u0:=(O.af u4 (O.ac [[.int u1]]));(O.b (O.m u3 (O.l (x.L 14))) (O.g (O.q u3 (O.l (x.L 14))) (O.b (O.j (O.e u2 (O.lit .u8 0)) O.k (O.e u2 (O.lit .u8 3))) (O.g (O.t (O.l u0) 8) (s0 [.rows u0,.int u1])) (s0 [.rows u4,.int u1]))) (O.a [.rows u4]))) [.rows O.x,.int (lq9 O 0)]) fun c0=>(O.a [.rows (O.o c0 0)]))
def MN:Nat→Env:=eL []
def Cy:=oS Wc Fb MN
def Sr:List Nat:=[0,0,0,0,0,0,0,0,0,0,0,0,0,0,3,0,3,3,1,3,1,0,0,0,3,0,0,0,0,1]
def Im (O:Alg) (x:Ags O):O.M:=let u3:=(lq9 O 0);let u2:=(O.e (x.I 28) (x.I 12));let u1:=(O.y .i64 (x.I 28) (lq9 O 1));(O.c (O.f 201 [] (xr x kI 0)) fun c0=>(O.c (O.f 203 [] (xr x [0,0,0,0,0,0,0,0,0,0,0,0,0,0,3,0,3,3,1,3,1,0,0,0,3,0,0,0,0] 0)) fun c1=>(O.b (O.d (O.n c1 0)) (O.a (ap O (cr O c0 kI 0) [.int (lq9 O 3)])) (O.b (O.j (O.e (x.I 12) u3) O.k (O.e (x.I 13) u3)) (O.a (ap O (cr O c0 kI 0) [.int (lq9 O 6)])) (O.b (O.j (O.d u2) (O.d (O.e (x.I 28) (x.I 13))) O.h) (O.a (ap O (cr O c0 kI 0) [.int (lq9 O 4)])) (O.c (O.b (x.B 29) (O.f 198 [] (xr x kI 0)) (O.a [.rows O.x])) fun c2=>(O.b (O.j (x.B 29) (O.e (O.l (O.o c2 0)) u3) O.h) (O.a (ap O (cr O c0 kI 0) [.int (lq9 O 19)])) (O.c (O.b u2 (O.a (ap O (cr O c0 [0,0,0,0,0,0,0,0,0,0,0,0] 0) (ap O [.int u3] (cr O c0 [0,3,0,3,3,1,3,1,0,0,0,3,0,0,0] 13)))) (O.a (ap O (cr O c0 [0,0,0,0,0,0,0,0,0,0,0,0,0] 0) (ap O [.int u3] (cr O c0 [3,0,3,3,1,3,1,0,0,0,3,0,0,0] 14))))) fun c3=>let u4:=(O.o c3 14);let u0:=(O.q u1 (O.l u4));(O.b (x.B 29) (O.g u0 (O.a (ap O (cr O c3 [0,0,0,0,0,0,0,0,0,0,0,0,0,0] 0) (ap O [.rows (O.ah u4 u1 0 [.int (O.lit .u8 3)])] (ap O (cr O c3 [0,3,3,1,3,1,0,0,0,3,0,0,0] 15) [.int u3]))))) (O.c (O.f 203 [] (ap O (cr O c3 kI 0) [.int (x.I 28)])) fun c4=>(O.c (O.b (O.n c4 0) (O.g u0 (O.a (ap O (cr O c3 [0,0,0,0,0,0,0,0,0,0,0,0,0,0] 0) (ap O [.rows (O.ah u4 u1 0 [.int (O.lit .u8 2)])] (cr O c3 [0,3,3,1,3,1,0,0,0,3,0,0,0] 15))))) (O.a (cr O c3 kI 0))) fun c5=>(O.a (ap O (cr O c5 [0,0,0,0] 0) (ap O [.int (O.u .i64 (O.i c5 4) (lq9 O 1))] (ap O (cr O c5 [0,0,0,0,0,0,0,0,0,3,0,3,3,1,3,1,0,0,0,3,0,0,0] 5) [.int u3])))))))))))))))
def EU:Nat→Env:=eL [(198,Cy),(201,A3),(203,A0)]
theorem PO {N ls}:EU N 198 [] ls=Cy N ls:=id rfl
theorem Pf {N ls}:EU N 201 [] ls=A3 N ls:=id rfl
theorem Ni {N ls}:EU N 203 [] ls=A0 N ls:=id rfl
def Fn:=oS Sr Im EU
def Zl:List Nat:=[0,0,0,0,0,0,0,0,0,0,0,0,0,0,3,0,3,3,1,3,1,0,0,0,3,0,0,0]
def Oj (O:Alg) (x:Ags O):O.M:=(O.c (O.f 150 [] [.rows (x.L 14)]) fun c0=>(O.c (O.f 151 [] [.rows (x.L 16)]) fun c1=>(O.c (O.f 151 [] [.rows (x.L 17)]) fun c2=>(O.c (O.f 151 [] [.rows (x.L 19)]) fun c3=>(O.c (O.f 152 [] [.rows (x.L 24)]) fun c4=>(O.a (ap O (xr x [0,0,0,0,0,0,0,0,0,0,0,0,0,0] 0) (ap O [.rows (O.o c0 0),.int (x.I 15),.rows (O.o c1 0),.rows (O.o c2 0),.bool (x.B 18),.rows (O.o c3 0)] (ap O (xr x [1,0,0,0] 20) (ap O [.rows (O.o c4 0)] (xr x [0,0,0] 25)))))))))))
def IC:Nat→Env:=eL [(150,AX),(151,Ad),(152,Ab)]
theorem MG {N ls}:IC N 150 [] ls=AX N ls:=id rfl
theorem N6 {N ls}:IC N 151 [] ls=Ad N ls:=id rfl
theorem NR {N ls}:IC N 152 [] ls=Ab N ls:=id rfl
def Cm:=oS Zl Oj IC
def TN:List Nat:=[0,0,0,0,0,0,0,0,0,0,0,0,0,0,3,0,3,3,1,3,1,0,0,0,3,0,0,0,0]
def Ir (O:Alg) (x:Ags O):O.M:=(O.c (O.f 212 [] (xr x kI 0)) fun c0=>(O.b (O.j (O.m (x.I 28) (lq9 O 0)) O.k (O.m (O.y .i64 (O.l (x.L 24)) (lq9 O 2)) (x.I 28))) (O.a (ap O (cr O c0 kI 0) [.int (lq9 O 16)])) (O.a (ap O (cr O c0 [0,0,0,0,0,0,0,0,0,0,0,0,0,0,3,0,3,3,1,3,1,0,0] 0) (ap O [.int (x.I 28)] (ap O (cr O c0 [3,0,0,0] 24) [.int (lq9 O 0)]))))))
def KQ:Nat→Env:=eL [(212,Cm)]
theorem QT {N ls}:KQ N 212 [] ls=Cm N ls:=id rfl
def F8:=oS TN Ir KQ
def Uz:List Nat:=[0,0,0,0,0,0,0,0,0,0,0,0,0,0,3,0,3,3,1,3,1,0,0,0,3,0,0,0,0]
def Ju (O:Alg) (x:Ags O):O.M:=(O.c (O.f 212 [] (xr x kI 0)) fun c0=>(O.c (O.f 213 [] (xr x [0,0,0,0,0,0,0,0,0,0,0,0,0,0,3,0,3,3,1,3,1,0,0,0,3,0,0,0,0] 0)) fun c1=>(O.b (O.d (O.n c1 0)) (O.a (ap O (cr O c0 kI 0) [.int (lq9 O 3)])) (O.c (O.f 214 [] (xr x [0,0,0,0,0,0,0,0,0,0,0,0,0,0,3,0,3,3,1,3,1,0,0,0,3,0,0,0,0] 0)) fun c2=>(O.b (O.n c2 0) (O.a (ap O (cr O c0 kI 0) [.int (lq9 O 18)])) (O.b (O.j (O.e (x.I 28) (x.I 15)) O.k (O.e (x.I 28) (x.I 22))) (O.a (ap O (cr O c0 kI 0) [.int (lq9 O 17)])) (O.a (ap O (cr O c0 [0,0,0,0,0,0,0,0,0,0,0,0,0,0,3,0,3,3,1,3,1,0] 0) (ap O [.int (x.I 28)] (ap O (cr O c0 [0,3,0,0,0] 23) [.int (lq9 O 0)]))))))))))
def FD:Nat→Env:=eL [(212,Cm),(213,A9),(214,A7)]
theorem Sa {N ls}:FD N 212 [] ls=Cm N ls:=id rfl
theorem Pp {N ls}:FD N 213 [] ls=A9 N ls:=id rfl
theorem NP {N ls}:FD N 214 [] ls=A7 N ls:=id rfl
def HF:=oS Uz Ju FD
def Oy:List Nat:=[0,0,0,0,0,0,0,0,0,0,0,0,0,0,3,0,3,3,1,3,1,0,0,0,3,0,0,0,0,1]
def Fi (O:Alg) (x:Ags O):O.M:=let u2:=(lq9 O 0);let u1:=(O.y .i64 (x.I 28) (lq9 O 1));(O.c (O.f 212 [] (xr x kI 0)) fun c0=>let u0:=(O.ah (O.o c0 24) u1 0 [.bool (x.B 29)]);(O.c (O.f 213 [] (xr x [0,0,0,0,0,0,0,0,0,0,0,0,0,0,3,0,3,3,1,3,1,0,0,0,3,0,0,0,0] 0)) fun c1=>(O.b (O.d (O.n c1 0)) (O.a (ap O (cr O c0 kI 0) [.int (lq9 O 3)])) (O.c (O.f 214 [] (xr x [0,0,0,0,0,0,0,0,0,0,0,0,0,0,3,0,3,3,1,3,1,0,0,0,3,0,0,0,0] 0)) fun c2=>(O.b (O.as (O.n c2 0) (x.B 29)) (O.a (ap O (cr O c0 kI 0) [.int (lq9 O 18)])) (O.g (O.q u1 (O.l (O.o c0 24))) (O.c (O.b (O.j (x.B 29) (O.e (O.i c0 22) (x.I 28)) O.h) (O.a (ap O (cr O c0 [0,0,0,0,0,0,0,0,0,0,0,0,0,0,3,0,3,3,1,3,1,0] 0) (ap O [.int u2,.int (O.i c0 23),.rows u0] (cr O c0 [0,0,0] 25)))) (O.a (ap O (cr O c0 [0,0,0,0,0,0,0,0,0,0,0,0,0,0,3,0,3,3,1,3,1,0,0,0] 0) (ap O [.rows u0] (cr O c0 [0,0,0] 25))))) fun c3=>(O.b (O.j (x.B 29) (O.e (O.i c3 15) (x.I 28)) O.h) (O.a (ap O (cr O c3 [0,0,0,0,0,0,0,0,0,0,0,0,0,0,3] 0) (ap O [.int u2] (ap O (cr O c3 [3,3,1,3,1,0,0,0,3,0,0,0] 16) [.int u2])))) (O.a (ap O (cr O c3 kI 0) [.int u2]))))))))))
def DK:Nat→Env:=eL [(212,Cm),(213,A9),(214,A7)]
theorem Nt {N ls}:DK N 212 [] ls=Cm N ls:=id rfl
theorem Mb {N ls}:DK N 213 [] ls=A9 N ls:=id rfl
theorem Ke {N ls}:DK N 214 [] ls=A7 N ls:=id rfl
def Dt:=oS Oy Fi DK
def S6:List Nat:=[2,0,0,0,0,0,0,0,1,0,0,0,0,3,0,0,0,0,0,0,0,0,0,0,0,0,0,0,3,0,3,3,1,3,1,0,0,0,3,0,0,0]
def Il (O:Alg) (x:Ags O):O.M:=let u0:=(lq9 O 0);(O.c (O.f 204 [] (xr x kI 14)) fun c0=>(O.c (O.f 8 [] (xr x kR 0)) fun c1=>(O.b (O.j (O.j (O.d (O.e (O.i c1 0) u0)) O.k (O.e (x.I 9) u0)) O.k (O.m (x.I 35) (O.ap .i64 (x.I 9) (x.I 4)))) (O.a (ap O (cr O c0 kI 0) [.int (lq9 O 22)])) (O.a (ap O (cr O c0 [0,0,0,0,0,0,0,0,0,0,0,0,0,0,3,0,3,3,1,3,1] 0) (ap O [.int u0] (ap O (cr O c0 [0,0,3,0,0,0] 22) [.int u0])))))))
def GV:Nat→Env:=eL [(8,AP),(204,Cq)]
theorem O9 {N ls}:GV N 8 [] ls=AP N ls:=id rfl
theorem Qb {N ls}:GV N 204 [] ls=Cq N ls:=id rfl
def GA:=oS S6 Il GV
def QB:List Nat:=[2,0,0,0,0,0,0,0,1,0,0,0,0,3,0,0,0,0,0,0,0,0,0,0,0,0,0,0,3,0,3,3,1,3,1,0,0,0,3,0,0,0,0,0,0,0,1,0,0,0,0,0,0,0,1,0,0,0,0,1,0]
def Gc (O:Alg) (x:Ags O):O.M:=(O.c (O.f 120 [] (xr x kI 14)) fun c0=>(O.b (O.d (O.e (x.I 43) (x.I 14))) (O.a (ap O (cr O c0 kI 0) [.int (lq9 O 2)])) (O.b (O.d (O.e (x.I 3) (lq9 O 0))) (O.a (ap O (cr O c0 kI 0) [.int (lq9 O 20)])) (O.a (ap O (cr O c0 [0,0,0,0,0,0,0,0,0,0,0,0,0,0,3,0,3,3,1,3,1,0,0,0,3,0,0] 0) [.int (O.lit .u8 4),.int (lq9 O 0)])))))
def IR:Nat→Env:=eL [(120,AU)]
theorem MD {N ls}:IR N 120 [] ls=AU N ls:=id rfl
def ES:=oS QB Gc IR
def QD:List Nat:=[0,0,0,0,0,0,0,0,0,0,0,0,0,0,3,0,3,3,1,3,1,0,0,0,3,0,0,0]
def Gb (O:Alg) (x:Ags O):O.M:=(O.c (O.f 120 [] (xr x kI 0)) fun c0=>(O.a (ap O (cr O c0 [0,0,0] 0) (ap O [.int (O.u .i64 (O.i c0 3) (lq9 O 5))] (ap O (cr O c0 [0,0,0,0,0] 4) (ap O [.int (O.u .i64 (O.i c0 9) (lq9 O 5))] (cr O c0 [0,0,0,0,3,0,3,3,1,3,1,0,0,0,3,0,0,0] 10)))))))
def IV:Nat→Env:=eL [(120,AU)]
theorem ME {N ls}:IV N 120 [] ls=AU N ls:=id rfl
def CC:=oS QD Gb IV
def P5:List Nat:=[0,0,0,0,0,0,0,0,0,0,0,0,0,0,3,0,3,3,1,3,1,0,0,0,3,0,0,0,0,0,0,0,1,0,0,0,0,0,0,0,1,0,0,0,0,1,0]
def Gf (O:Alg) (x:Ags O):O.M:=let u0:=(lq9 O 0);(O.c (O.f 120 [] (xr x kI 0)) fun c0=>(O.b (O.d (O.e (x.I 33) (lq9 O 5))) (O.a (ap O (cr O c0 kI 0) [.int (lq9 O 23)])) (O.b (O.e (x.I 29) (x.I 0)) (O.c (O.f 176 [] (xr x kI 0)) fun c1=>(O.a (ap O (cr O c1 kI 0) [.int u0]))) (O.b (O.m u0 (O.i c0 1)) (O.a (ap O [.int (O.i c0 0),.int (O.u .i64 (O.i c0 1) (lq9 O 5))] (ap O (cr O c0 [0,0,0,0,0,0,0,0,0,0,0,0,3,0,3,3,1,3,1,0,0,0,3,0,0,0] 2) [.int u0]))) (O.a (ap O (cr O c0 kI 0) [.int u0]))))))
def FH:Nat→Env:=eL [(120,AU),(176,CC)]
theorem MF {N ls}:FH N 120 [] ls=AU N ls:=id rfl
theorem Kg {N ls}:FH N 176 [] ls=CC N ls:=id rfl
def EZ:=oS P5 Gf FH
def Rj:List Nat:=[2,0,0,0,0,0,0,0,1,0,0,0,0,3,0,0,0,0,0,0,0,0,0,0,0,0,0,0,3,0,3,3,1,3,1,0,0,0,3,0,0,0,0,0,0,0,1,0,0,0,0,0,0,0,1,0,0,0,0,1,0]
def Eu (O:Alg) (x:Ags O):O.M:=let u5:=(lq9 O 0);let u4:=(lq9 O 1);let u3:=(O.y .i64 (x.I 43) u4);let u2:=(O.q u3 (lq9 O 2));let u1:=(O.e u3 u4);(O.c (O.f 120 [] (xr x kI 14)) fun c0=>let u0:=(O.u .i64 (O.al u1 (O.i c0 26) (O.i c0 25)) u4);(O.g (O.d (O.w (O.d (O.d (x.B 32))) (O.d u2))) (O.b (O.j (O.d (x.B 32)) O.k (O.z (x.I 11) (O.al u1 (x.I 40) (x.I 39)))) (O.a (ap O (cr O c0 kI 0) [.int (lq9 O 24)])) (O.b (O.d (x.B 46)) (O.g u2 (O.g u2 (O.a (ap O (cr O c0 [0,0,0,0,0,0,0,0,0,0,0,0,0,0,3,0,3,3,1,3,1,0,0,0,3] 0) [.int (O.al (O.e u3 u5) u0 (O.i c0 25)),.int (O.al u1 u0 (O.i c0 26)),.int (O.i c0 27),.int u5])))) (O.a (ap O (cr O c0 kI 0) [.int u5]))))))
def JW:Nat→Env:=eL [(120,AU)]
theorem Fq {N ls}:JW N 120 [] ls=AU N ls:=id rfl
def E2:=oS Rj Eu JW
def S1:List Nat:=[2,0,0,0,0,0,0,0,1,0,0,0,0,3,0,0,0,0,0,0,0,0,0,0,0,0,0,0,3,0,3,3,1,3,1,0,0,0,3,0,0,0]
def Ts (O:Alg) (x:Ags O):O.M:=(O.a [.int (O.u .i64 (O.ap .i64 (x.I 24) (x.I 4)) (x.I 25))])
def ZR:Nat→Env:=eL []
def Ch:=oS S1 Ts ZR
def RL:List Nat:=[2,0,0,0,0,0,0,0,1,0,0,0,0,3,0,0,0,0,0,0,0,0,0,0,0,0,0,0,3,0,3,3,1,3,1,0,0,0,3,0,0,0,0,0,0,0,1,0,0,0,0,0,0,0,1,0,0,0,0,1,0]
def Hk (O:Alg) (x:Ags O):O.M:=let u4:=(lq9 O 0);let u3:=(lq9 O 25);let u2:=(O.m (x.I 3) (x.I 48));let u1:=(O.m u4 (x.I 47));let u0:=(O.m u4 (x.I 48));(O.c (O.f 120 [] (xr x kI 14)) fun c0=>(O.b (O.j (O.e (x.I 3) u4) O.k (O.j (O.e (x.I 47) u4) (O.e (x.I 48) u4) O.h)) (O.a (ap O (cr O c0 kI 0) [.int u3])) (O.b (O.j u1 (O.j (O.e (x.I 15) u4) O.k (O.z (x.I 47) (x.I 17))) O.h) (O.a (ap O (cr O c0 kI 0) [.int u3])) (O.c (O.b (O.w u0 (O.d u2)) (O.f 26 [] (xr x [2,0,0,0,0,0,0,0,1,0,0,0,0,3,0,0,0,0,0,0,0,0,0,0,0,0,0,0,3,0,3,3,1,3,1,0,0,0,3,0,0,0] 0)) (O.a [.int u4])) fun c1=>(O.b (O.j u0 (O.j u2 O.k (O.m (O.ap .i64 (x.I 48) (x.I 4)) (O.i c1 0))) O.h) (O.a (ap O (cr O c0 kI 0) [.int u3])) (O.c (O.b u1 (O.a (ap O [.int (O.i c0 0),.int (x.I 47)] (cr O c0 [0,0,0,0,0,0,0,0,0,0,0,0,3,0,3,3,1,3,1,0,0,0,3,0,0,0] 2))) (O.a (cr O c0 kI 0))) fun c2=>(O.b u0 (O.a (ap O [.int (O.i c2 0),.int (O.i c2 1),.int (x.I 48)] (ap O (cr O c2 [0,0,0,0,0,0,0,0,0,0,0,3,0,3,3,1,3,1,0,0,0,3,0,0,0] 3) [.int u4]))) (O.a (ap O (cr O c2 kI 0) [.int u4])))))))))
def GD:Nat→Env:=eL [(26,Ch),(120,AU)]
theorem MW {N ls}:GD N 26 [] ls=Ch N ls:=id rfl
theorem Mm {N ls}:GD N 120 [] ls=AU N ls:=id rfl
def E0:=oS RL Hk GD
def QP:List Nat:=[2,0,0,0,0,0,0,0,1,0,0,0,0,3,0,0,0,0,0,0,0,0,0,0,0,0,0,0,3,0,3,3,1,3,1,0,0,0,3,0,0,0,0,0,0,0,1,0,0,0,0,0,0,0,1,0,0,0,0,1,0]
def EY (O:Alg) (x:Ags O):O.M:=(O.b (O.e (x.I 42) (O.lit .u8 2)) (O.c (O.f 183 [] (ap O (xr x kI 14) [.int (x.I 44),.int (x.I 45)])) fun c0=>(O.a (cr O c0 [0,0,0,0,0,0,0,0,0,0,0,0,0,0,3,0,3,3,1,3,1,0,0,0,3,0,0,0,0] 0))) (O.b (O.e (x.I 42) (O.lit .u8 3)) (O.c (O.f 184 [] (ap O (xr x [2,0,0,0,0,0,0,0,1,0,0,0,0,3,0,0,0,0,0,0,0,0,0,0,0,0,0,0,3,0,3,3,1,3,1,0,0,0,3,0,0,0] 0) [.int (x.I 44)])) fun c0=>(O.a (cr O c0 [0,0,0,0,0,0,0,0,0,0,0,0,0,0,3,0,3,3,1,3,1,0,0,0,3,0,0,0,0] 0))) (O.b (O.e (x.I 42) (O.lit .u8 4)) (O.c (O.f 185 [] (ap O (xr x [2,0,0,0,0,0,0,0,1,0,0,0,0,3,0,0,0,0,0,0,0,0,0,0,0,0,0,0,3,0,3,3,1,3,1,0,0,0,3,0,0,0] 0) (xr x [0,0,0,0,0,1,0,0,0,0,1,0] 49))) fun c0=>(O.a (cr O c0 [0,0,0,0,0,0,0,0,0,0,0,0,0,0,3,0,3,3,1,3,1,0,0,0,3,0,0,0,0] 0))) (O.b (O.e (x.I 42) (O.lit .u8 5)) (O.b (x.B 46) (O.c (O.f 186 [] (ap O (xr x kI 14) [.int (x.I 44)])) fun c0=>(O.a (cr O c0 [0,0,0,0,0,0,0,0,0,0,0,0,0,0,3,0,3,3,1,3,1,0,0,0,3,0,0,0,0] 0))) (O.c (O.f 187 [] (ap O (xr x kI 14) [.int (x.I 44)])) fun c0=>(O.a (cr O c0 [0,0,0,0,0,0,0,0,0,0,0,0,0,0,3,0,3,3,1,3,1,0,0,0,3,0,0,0,0] 0)))) (O.b (O.e (x.I 42) (O.lit .u8 6)) (O.c (O.f 188 [] (ap O (xr x kI 14) [.int (x.I 44),.bool (x.B 46)])) fun c0=>(O.a (cr O c0 [0,0,0,0,0,0,0,0,0,0,0,0,0,0,3,0,3,3,1,3,1,0,0,0,3,0,0,0,0] 0))) (O.b (O.e (x.I 42) (O.lit .u8 7)) (O.c (O.f 189 [] (ap O (xr x kI 14) [.int (x.I 47)])) fun c0=>(O.a (cr O c0 [0,0,0,0,0,0,0,0,0,0,0,0,0,0,3,0,3,3,1,3,1,0,0,0,3,0,0,0,0] 0))) (O.b (O.e (x.I 42) (O.lit .u8 8)) (O.c (O.f 190 [] (ap O (xr x kI 14) [.int (x.I 44)])) fun c0=>(O.a (cr O c0 [0,0,0,0,0,0,0,0,0,0,0,0,0,0,3,0,3,3,1,3,1,0,0,0,3,0,0,0,0] 0))) (O.b (O.e (x.I 42) (O.lit .u8 9)) (O.c (O.f 191 [] (ap O (xr x kI 14) [.int (x.I 44),.bool (x.B 46)])) fun c0=>(O.a (cr O c0 [0,0,0,0,0,0,0,0,0,0,0,0,0,0,3,0,3,3,1,3,1,0,0,0,3,0,0,0,0] 0))) (O.b (O.e (x.I 42) (O.lit .u8 10)) (O.c (O.f 192 [] (xr x [2,0,0,0,0,0,0,0,1,0,0,0,0,3,0,0,0,0,0,0,0,0,0,0,0,0,0,0,3,0,3,3,1,3,1,0,0,0,3,0,0,0] 0)) fun c0=>(O.a (cr O c0 [0,0,0,0,0,0,0,0,0,0,0,0,0,0,3,0,3,3,1,3,1,0,0,0,3,0,0,0,0] 0))) (O.b (O.e (x.I 42) (O.lit .u8 11)) (O.c (O.f 193 [] (xr x [2,0,0,0,0,0,0,0,1,0,0,0,0,3,0,0,0,0,0,0,0,0,0,0,0,0,0,0,3,0,3,3,1,3,1,0,0,0,3,0,0,0,0,0,0,0,1,0,0,0,0,0,0,0,1,0,0,0,0,1,0] 0)) fun c0=>(O.a (cr O c0 [0,0,0,0,0,0,0,0,0,0,0,0,0,0,3,0,3,3,1,3,1,0,0,0,3,0,0,0,0] 0))) (O.b (O.e (x.I 42) (O.lit .u8 13)) (O.c (O.f 194 [] (xr x [0,0,0,0,0,0,0,0,0,0,0,0,0,0,3,0,3,3,1,3,1,0,0,0,3,0,0,0,0,0,0,0,1,0,0,0,0,0,0,0,1,0,0,0,0,1,0] 14)) fun c0=>(O.a (cr O c0 [0,0,0,0,0,0,0,0,0,0,0,0,0,0,3,0,3,3,1,3,1,0,0,0,3,0,0,0,0] 0))) (O.b (O.e (x.I 42) (O.lit .u8 14)) (O.c (O.f 195 [] (xr x [2,0,0,0,0,0,0,0,1,0,0,0,0,3,0,0,0,0,0,0,0,0,0,0,0,0,0,0,3,0,3,3,1,3,1,0,0,0,3,0,0,0,0,0,0,0,1,0,0,0,0,0,0,0,1,0,0,0,0,1,0] 0)) fun c0=>(O.a (cr O c0 [0,0,0,0,0,0,0,0,0,0,0,0,0,0,3,0,3,3,1,3,1,0,0,0,3,0,0,0,0] 0))) (O.c (O.f 196 [] (xr x [2,0,0,0,0,0,0,0,1,0,0,0,0,3,0,0,0,0,0,0,0,0,0,0,0,0,0,0,3,0,3,3,1,3,1,0,0,0,3,0,0,0,0,0,0,0,1,0,0,0,0,0,0,0,1,0,0,0,0,1,0] 0)) fun c0=>(O.a (cr O c0 [0,0,0,0,0,0,0,0,0,0,0,0,0,0,3,0,3,3,1,3,1,0,0,0,3,0,0,0,0] 0)))))))))))))))
def Af:Nat→Env:=eL [(183,Hv),(184,I7),(185,HC),(186,FA),(187,G7),(188,Fn),(189,F8),(190,HF),(191,Dt),(192,GA),(193,ES),(194,EZ),(195,E2),(196,E0)]
theorem GS {N ls}:Af N 183 [] ls=Hv N ls:=id rfl
theorem G9 {N ls}:Af N 184 [] ls=I7 N ls:=id rfl
theorem Fk {N ls}:Af N 185 [] ls=HC N ls:=id rfl
theorem Ey {N ls}:Af N 186 [] ls=FA N ls:=id rfl
theorem Fy {N ls}:Af N 187 [] ls=G7 N ls:=id rfl
theorem FP {N ls}:Af N 188 [] ls=Fn N ls:=id rfl
theorem FT {N ls}:Af N 189 [] ls=F8 N ls:=id rfl
theorem Fr {N ls}:Af N 190 [] ls=HF N ls:=id rfl
theorem EO {N ls}:Af N 191 [] ls=Dt N ls:=id rfl
theorem FQ {N ls}:Af N 192 [] ls=GA N ls:=id rfl
theorem En {N ls}:Af N 193 [] ls=ES N ls:=id rfl
theorem Em {N ls}:Af N 194 [] ls=EZ N ls:=id rfl
theorem E7 {N ls}:Af N 195 [] ls=E2 N ls:=id rfl
theorem Ez {N ls}:Af N 196 [] ls=E0 N ls:=id rfl
def ER:=oS QP EY Af
def RG:List Nat:=[2,0,0,0,0,0,0,0,1,0,0,0,0,3,0,0,0,0,0,0,0,0,0,0,0,0,0,0,3,0,3,3,1,3,1,0,0,0,3,0,0,0]
def Hi (O:Alg) (x:Ags O):O.M:=let u0:=(lq9 O 0);(O.c (O.f 50 [] (xr x [2,0,0,0,0,0,0,0,1,0,0,0,0,3,0,0,0,0,0,0,0,0,0,0,0,0,0,0,3,0,3,3,1,3,1,0,0,0,3,0,0,0] 0)) fun c0=>(O.b (O.d (O.n c0 0)) (O.a [.int (O.lit .u8 0)]) (O.b (O.j (O.m u0 (x.I 15)) (O.z (x.I 15) (x.I 17)) O.h) (O.a [.int (O.lit .u8 3)]) (O.c (O.f 197 [] (xr x kI 14)) fun c1=>(O.c (O.b (O.n c1 0) (O.f 198 [] (xr x kI 14)) (O.a [.rows O.x])) fun c2=>(O.b (O.j (O.n c1 0) (O.e (O.l (O.o c2 0)) u0) O.h) (O.a [.int (O.lit .u8 1)]) (O.b (O.j (O.m u0 (x.I 16)) (O.z (x.I 16) (x.I 24)) O.h) (O.a [.int (O.lit .u8 2)]) (O.a [.int (O.lit .u8 0)]))))))))
def Dr:Nat→Env:=eL [(50,BW),(197,BT),(198,Cy)]
def Dh:=oS RG Hi Dr
def UX:List Nat:=[2,0,0,0,0,0,0,0,1,0,0,0,0,3,0,0,0,0,0,0,0,0,0,0,0,0,0,0,3,0,3,3,1,3,1,0,0,0,3,0,0,0,0,0,0,0,1,0,0,0,0,0,0,0,1,0,0,0,0,1,0]
def Js (O:Alg) (x:Ags O):O.M:=let u1:=(lq9 O 0);(O.c (O.f 50 [] (xr x [2,0,0,0,0,0,0,0,1,0,0,0,0,3,0,0,0,0,0,0,0,0,0,0,0,0,0,0,3,0,3,3,1,3,1,0,0,0,3,0,0,0] 0)) fun c0=>let u0:=(O.d (O.n c0 0));(O.c (O.b (O.d u0) (O.f 68 [] (xr x [0,0,0,0,1,0,0,0,0,0,0,0,1,0,0,0,0,1,0] 42)) (O.a [.int u1])) fun c1=>(O.b (O.j u0 O.k (O.d (O.e (O.i c1 0) u1))) (O.c (O.f 120 [] (xr x kI 14)) fun c2=>(O.a (ap O (cr O c2 kI 0) [.int (lq9 O 1)]))) (O.b (O.d (O.e (x.I 41) (O.lit .u8 0))) (O.c (O.f 120 [] (xr x kI 14)) fun c2=>(O.a (ap O (cr O c2 kI 0) [.int (lq9 O 26)]))) (O.c (O.b (O.d (O.j (O.j (O.e (x.I 42) (O.lit .u8 1)) O.k (O.e (x.I 42) (O.lit .u8 12))) O.k (O.e (x.I 42) (O.lit .u8 16)))) (O.f 173 [] (xr x kI 14)) (O.a [.bool O.h])) fun c2=>(O.b (O.j (O.j (O.j (O.e (x.I 42) (O.lit .u8 1)) O.k (O.e (x.I 42) (O.lit .u8 12))) O.k (O.e (x.I 42) (O.lit .u8 16))) O.k (O.j (O.d (O.n c2 0)) (O.d (O.e (x.I 42) (O.lit .u8 2))) O.h)) (O.c (O.f 120 [] (xr x kI 14)) fun c3=>(O.a (ap O (cr O c3 kI 0) [.int (lq9 O 1)]))) (O.c (O.f 174 [] (xr x [2,0,0,0,0,0,0,0,1,0,0,0,0,3,0,0,0,0,0,0,0,0,0,0,0,0,0,0,3,0,3,3,1,3,1,0,0,0,3,0,0,0,0,0,0,0,1,0,0,0,0,0,0,0,1,0,0,0,0,1,0] 0)) fun c3=>(O.b (O.d (O.e (O.i c3 28) u1)) (O.c (O.f 120 [] (xr x kI 14)) fun c4=>(O.a (ap O (cr O c4 kI 0) [.int (O.i c3 28)]))) (O.b (O.e (O.i c3 27) (O.lit .u8 0)) (O.c (O.f 175 [] (ap O (xr x kR 0) (ap O (cr O c3 [0,0,0,0,0,0,0,0,0,0,0,0,0,0,3,0,3,3] 0) (ap O [.bool (O.e (x.I 42) (O.lit .u8 4))] (cr O c3 [3,1,0,0,0,3,0,0,0] 19))))) fun c4=>(O.a (ap O (cr O c3 [0,0,0,0,0,0,0,0,0,0,0,0,0,0,3,0,3,3] 0) (ap O [.bool (O.e (x.I 42) (O.lit .u8 4))] (ap O (cr O c3 [3,1,0,0,0,3,0,0] 19) [.int (O.i c4 0),.int u1]))))) (O.a (ap O (cr O c3 [0,0,0,0,0,0,0,0,0,0,0,0,0,0,3,0,3,3] 0) (ap O [.bool (O.e (x.I 42) (O.lit .u8 4))] (ap O (cr O c3 [3,1,0,0,0,3,0,0,0] 19) [.int u1])))))))))))))
def CT:Nat→Env:=eL [(50,BW),(68,CW),(120,AU),(173,Fh),(174,ER),(175,Dh)]
theorem OM {N ls}:CT N 50 [] ls=BW N ls:=id rfl
theorem Pn {N ls}:CT N 68 [] ls=CW N ls:=id rfl
theorem OG {N ls}:CT N 120 [] ls=AU N ls:=id rfl
theorem OQ {N ls}:CT N 173 [] ls=Fh N ls:=id rfl
theorem Ft {N ls}:CT N 174 [] ls=ER N ls:=id rfl
theorem GP {N ls}:CT N 175 [] ls=Dh N ls:=id rfl
def Gg:=oS UX Js CT
end Go.Px
