/- Part 11. -/
import Derived.Test.YtlbbobdcfhkkfaaGreatDoorPart08
import Derived.Test.YtlbbobdcfhkkfaaGreatDoorPart10
import Derived.Test.YtlbbobdcfhkkfaaGreatDoorPart09
set_option linter.unusedVariables false
set_option linter.unusedSimpArgs false
variable {s0 s1 s2 s3 s4 s5 s6 s7 s8 s9 s10 s11 s12 s13 s15 s21 s22 s23 s25 s26 s27:Int}
variable {s14 s16 s17 s19 s24:Go.Px.Rows}
variable {r1 r2 r3 r4 r5 r6 r7 r9 r10 r11 r12:Int}
section
namespace Go.Px
set_option maxRecDepth 100000
def Wu:List Nat:=[2,0,0,0,0,0,0,0,1,0,0,0,0,3,3]
def LR (O:Alg) (x:Ags O):O.M:=let u17:=(lq9 O 1);let u16:=(lq9 O 0);(O.c (O.f 15 [] (xr x [2,0,0,0,0,0,0,0,1,0,0,0,0,3,3] 0)) fun c0=>(O.b (O.h (O.e (O.d c0 0) u16)) (O.a [.rows O.y,.int (O.d c0 0)]) (O.c (O.f 61 [] [.rows (x.L 14)]) fun c1=>let u14:=(O.l (O.k c1 0));(O.j (O.t u14 80) (O.c (O.f 16 [] [.rows (x.L 14)]) fun c2=>let u15:=(O.l (O.k c2 0));(O.c (O.w (fun s3 c3=>let u18:=(O.d c3 1);let u13:=(O.n (O.k c2 0) u18 1);let u12:=(O.n (O.k c2 0) u18 0);let u9:=(O.aj (x.L 14) u12 u13);let u8:=(O.l u9);(O.b (O.o u18 u15) (O.j (O.r u18 u15) (O.j (O.r u18 (O.l (O.k c3 0))) (O.j (O.r u18 u14) (O.j (O.ak u12 u13 (O.l (x.L 14))) (O.c (O.w (fun s4 c4=>let u22:=(O.k c4 0);let u19:=(O.d c4 1);let u11:=(O.p .i64 u19 u17);let u5:=(O.n u9 u19 0);(O.b (O.o u19 u8) (O.j (O.r u19 u8) (O.c (O.f 62 [] (rr O u9 u19 [0,0,0,0,1,0,0,0,0,0,0,0,1,0,0,0,0,1,0] 0)) fun c5=>(O.c (O.b (O.q c5 0) (O.a [.rows (O.v u22 u18 2 [.int (O.p .i64 (O.n u22 u18 2) u17)])]) (O.a [.rows u22])) fun c6=>let u20:=(O.k c6 0);(O.b (O.e u5 (O.lit .u8 4)) (O.c (O.f 40 [] (ap O (xr x kR 0) (rr O u9 u19 [0,0,0,0,0,1,0,0,0,0,1,0] 7))) fun c7=>(O.c (O.f 63 [] (cr O c7 [0,0,0,0,0,0,1,1,1,1] 0)) fun c8=>let u7:=(O.v u20 u18 1 [.int (O.p .i64 (O.n u20 u18 1) (O.d c8 0))]);let u3:=(O.v u7 u18 4 [.int (O.p .i64 (O.n u7 u18 4) (O.d c7 1))]);let u2:=(O.v u3 u18 5 [.int (O.p .i64 (O.n u3 u18 5) (O.d c7 2))]);let u1:=(O.v u2 u18 6 [.int (O.p .i64 (O.n u2 u18 6) (O.d c7 3))]);let u0:=(O.v u1 u18 7 [.int (O.p .i64 (O.n u1 u18 7) (O.d c7 4))]);(O.b (O.q c7 6) (s4 [.rows (O.v u0 u18 3 [.int (O.p .i64 (O.n u0 u18 3) u17)]),.int u11]) (s4 [.rows u0,.int u11])))) (O.b (O.e u5 (O.lit .u8 13)) (O.c (O.f 64 [] [.rows (O.k c1 0),.int u18,.int (O.n u9 u19 1)]) fun c7=>let u21:=(O.d c7 0);let u10:=(O.r u21 (O.l u20));let u6:=(O.v u20 u21 1 [.int (O.p .i64 (O.n u20 u21 1) (lq9 O 5))]);let u4:=(O.r u21 (O.l u6));(O.b (O.z u16 u21) (O.j u10 (O.j u10 (O.j u4 (O.j u4 (s4 [.rows (O.v u6 u21 8 [.int (O.p .i64 (O.n u6 u21 8) (lq9 O 5))]),.int u11]))))) (s4 [.rows u20,.int u11]))) (s4 [.rows u20,.int u11])))))) (O.a [.rows u22,.int u19]))) [.rows (O.v (O.k c3 0) u18 0 [.int (O.n (O.k c1 0) u18 0)]),.int u16]) fun c4=>(s3 [.rows (O.k c4 0),.int (O.p .i64 u18 u17)])))))) (O.a [.rows (O.k c3 0)]))) [.rows (O.am u14 [.int u16,.int u16,.int u16,.int u16,.int u16,.int u16,.int u16,.int u16,.int u16,.int (O.lit .u8 0)]),.int u16]) fun c3=>(O.a [.rows (O.k c3 0),.int u16])))))))
def CX:Nat→Env:=eL [(15,Cm),(16,BT),(40,A6),(61,Ja),(62,MZ),(63,C8),(64,Jr)]
theorem Tz {N ls}:CX N 15 [] ls=Cm N ls:=id rfl
theorem RI {N ls}:CX N 16 [] ls=BT N ls:=id rfl
theorem Gr {N ls}:CX N 40 [] ls=A6 N ls:=id rfl
theorem RP {N ls}:CX N 61 [] ls=Ja N ls:=id rfl
theorem Ke {N ls}:CX N 62 [] ls=MZ N ls:=id rfl
theorem Hj {N ls}:CX N 63 [] ls=C8 N ls:=id rfl
theorem UB {N ls}:CX N 64 [] ls=Jr N ls:=id rfl
def Id:=oS Wu LR CX
def Rw:List Nat:=[2,0,0,0,0,0,0,0,1,0,0,0,0,3,0,0,0,0,0,1,0,0,0,0,1,0]
def SI (O:Alg) (x:Ags O):O.M:=(O.c (O.f 40 [] (xr x [2,0,0,0,0,0,0,0,1,0,0,0,0,3,0,0,0,0,0,1,0,0,0,0,1,0] 0)) fun c0=>let u2:=(O.d c0 4);let u1:=(O.d c0 3);let u0:=(O.d c0 5);(O.c (O.b (O.e (x.I 14) (O.lit .u8 2)) (O.a [.int (O.lit .u8 119),.int u0,.int u1,.int u2,.int (O.lit .u8 0)]) (O.b (O.e (x.I 14) (O.lit .u8 3)) (O.a [.int (O.lit .u8 110),.int u0,.int u1,.int u2,.int (O.lit .u8 0)]) (O.a [.int (O.lit .u8 0),.int u0,.int u1,.int u2,.int (O.lit .u8 0)]))) fun c1=>(O.b (O.q c0 8) (O.a (ap O (cr O c1 [0,0,0,0] 0) [.int (O.lit .u8 87)])) (O.b (O.h (O.e (x.I 20) (O.lit .u8 0))) (O.a (ap O (cr O c1 [0,0,0,0] 0) [.int (O.lit .u8 82)])) (O.a (cr O c1 [0,0,0,0,0] 0))))))
def Y9:Nat→Env:=eL [(40,A6)]
def L5:=oS Rw SI Y9
def Th:List Nat:=[0]
def Tw (O:Alg) (x:Ags O):O.M:=(O.b (O.e (x.I 0) (lq9 O 0)) (O.a [.str (O.s ⟨#[46]⟩)]) (O.c (O.f 87 [] [.int (x.I 0)]) fun c0=>(O.a [.str (O.cS c0 0)])))
def Zr:Nat→Env:=eL [(87,IV)]
def Fp:=oS Th Tw Zr
def Mc:List Nat:=[0,0,0,0,0]
def MJ (O:Alg) (x:Ags O):O.M:=let u3:=(O.ar .i32 (x.I 4));let u2:=(O.ar .i32 (x.I 0));(O.c (O.f 89 [] [.int (x.I 1)]) fun c0=>let u4:=(O.cS c0 0);(O.c (O.b (O.h (O.e (x.I 0) (O.lit .u8 0))) (O.j (O.t (O.x (O.ao u2)) 1) (O.j (O.t (O.x u4) 1) (O.a [.str (O.ag (O.ao u2) u4)]))) (O.a [.str u4])) fun c1=>let u5:=(O.cS c1 0);(O.c (O.b (O.o (lq9 O 0) (x.I 2)) (O.c (O.f 89 [] [.int (x.I 2)]) fun c2=>let u1:=(O.ag (O.s ⟨#[98]⟩) (O.cS c2 0));(O.j (O.t (O.x (O.s ⟨#[98]⟩)) 1) (O.j (O.t (O.x (O.cS c2 0)) 1) (O.j (O.t (O.x u5) 1) (O.j (O.t (O.x u1) 1) (O.a [.str (O.ag u5 u1)])))))) (O.a [.str u5])) fun c2=>let u6:=(O.cS c2 0);(O.c (O.b (O.o (lq9 O 0) (x.I 3)) (O.c (O.f 89 [] [.int (x.I 3)]) fun c3=>let u0:=(O.ag (O.s ⟨#[108]⟩) (O.cS c3 0));(O.j (O.t (O.x (O.s ⟨#[108]⟩)) 1) (O.j (O.t (O.x (O.cS c3 0)) 1) (O.j (O.t (O.x u6) 1) (O.j (O.t (O.x u0) 1) (O.a [.str (O.ag u6 u0)])))))) (O.a [.str u6])) fun c3=>let u7:=(O.cS c3 0);(O.b (O.h (O.e (x.I 4) (O.lit .u8 0))) (O.j (O.t (O.x u7) 1) (O.j (O.t (O.x (O.ao u3)) 1) (O.a [.str (O.ag u7 (O.ao u3))]))) (O.a [.str u7]))))))
def Tp:Nat→Env:=eL [(89,Fp)]
def HW:=oS Mc MJ Tp
def VK:List Nat:=[2,0,0,0,0,0,0,0,1,0,0,0,0,3,3]
def Uy (O:Alg) (x:Ags O):O.M:=let u13:=(lq9 O 0);let u12:=(lq9 O 1);(O.c (O.w (fun s0 c0=>let u15:=(O.d c0 1);let u14:=(O.k c0 0);let u11:=(O.l u14);let u10:=(O.n (x.L 14) u15 4);let u9:=(O.n (x.L 14) u15 2);let u7:=(O.e u11 u13);let u6:=(O.u .i64 u11 u12);let u3:=(O.h (O.r u6 u11));let u1:=(O.ae u14 (O.ab [[.int u9,.int u10,.int u13]]));let u0:=(O.i u7 O.m (O.h (O.e (O.n u14 u6 0) u9)));(O.b (O.o u15 (O.l (x.L 14))) (O.j (O.r u15 (O.l (x.L 14))) (O.j (O.h (O.af (O.h u7) u3)) (O.j (O.h (O.af (O.h u0) u3)) (O.c (O.b (O.i u0 O.m (O.h (O.e (O.n u14 u6 1) u10))) (O.j (O.t (O.l u1) 40) (O.a [.rows u1,.int (O.p .i64 u11 u12)])) (O.a [.rows u14,.int u11])) fun c1=>let u8:=(O.u .i64 (O.d c1 1) u12);let u5:=(O.n (O.k c1 0) u8 2);let u4:=(O.r u8 (O.l (O.k c1 0)));let u2:=(O.p .i64 u5 u12);(O.j u4 (O.c (O.f 65 [] (ap O (xr x kR 0) (rr O (x.L 14) u15 [0,0,0,0,0,1,0,0,0,0,1,0] 8))) fun c2=>(O.c (O.f 66 [] (cr O c2 [0,0,0,0,0] 0)) fun c3=>(O.j (O.t u5 1) (O.j (O.t u2 16) (O.j u4 (s0 [.rows (O.v (O.k c1 0) u8 2 [.int u2]),.int (O.p .i64 u15 u12)]))))))))))) (O.a [.rows u14]))) [.rows O.y,.int u13]) fun c0=>(O.a [.rows (O.k c0 0)]))
def bZ:Nat→Env:=eL [(65,L5),(66,HW)]
def OA:=oS VK Uy bZ
def ER:List Nat:=[3,3,3]
def EP (O:Alg) (x:Ags O):O.M:=let u0:=(lq9 O 0);(O.c (O.w (fun s0 c0=>let u1:=(O.d c0 0);(O.b (O.o u1 (O.l (x.L 0))) (O.j (O.r u1 (O.l (x.L 0))) (O.b (O.e (O.n (x.L 0) u1 0) (O.p .i64 (O.n (x.L 1) u0 0) (O.n (x.L 2) u0 0))) (O.a [.int u0,.int u1]) (s0 [.int (O.p .i64 u1 (lq9 O 1))]))) (O.a [.int (lq9 O 1)]))) [.int u0]) fun c0=>(O.b (O.ac c0 0) (O.a [.int (O.d c0 1)]) (O.a [.int (lq9 O (-1))])))
def Cx (N:Nat):Env:=fun f fns ls=>none
def EV:=oS ER EP Cx
def Fo:List Nat:=[3,3]
def Fz (O:Alg) (x:Ags O):O.M:=let u0:=(lq9 O 0);(O.c (O.w (fun s0 c0=>let u1:=(O.d c0 0);(O.b (O.o u1 (O.l (x.L 0))) (O.j (O.r u1 (O.l (x.L 0))) (O.b (O.e (O.n (x.L 0) u1 0) (O.n (x.L 1) u0 0)) (O.a [.int u0,.int u1]) (s0 [.int (O.p .i64 u1 (lq9 O 1))]))) (O.a [.int (lq9 O 1)]))) [.int u0]) fun c0=>(O.b (O.ac c0 0) (O.a [.int (O.d c0 1)]) (O.a [.int (lq9 O (-1))])))
def Da (N:Nat):Env:=fun f fns ls=>none
def Fm:=oS Fo Fz Da
def Vn:List Nat:=[2,0,0,0,0,0,0,0,1,0,0,0,0,3,0,0,0,0,0,1,0,0,0,0,1,0]
def Vg (O:Alg) (x:Ags O):O.M:=(O.c (O.f 40 [] (xr x [2,0,0,0,0,0,0,0,1,0,0,0,0,3,0,0,0,0,0,1,0,0,0,0,1,0] 0)) fun c0=>(O.b (O.h (O.q c0 7)) (O.a [.str (O.s ⟨#[]⟩)]) (O.c (O.f 89 [] [.int (O.d c0 0)]) fun c1=>(O.a [.str (O.cS c1 0)]))))
def bT:Nat→Env:=eL [(40,A6),(89,Fp)]
def VT:=oS Vn Vg bT
def M5:List Nat:=[2,0,0,0,0,0,0,0,1,0,0,0,0,3,3,0,3]
def NM (O:Alg) (x:Ags O):O.M:=let u21:=(lq9 O 1);let u20:=(lq9 O 0);(O.c (O.w (fun s0 c0=>let u25:=(O.d c0 0);let u23:=(O.k c0 1);let u19:=(O.rB (x.L 14) u25 4);let u8:=(O.n (x.L 14) u25 3);let u22:=(O.lit .u8 0);let u7:=(O.n (x.L 14) u25 0);let u5:=(O.n (x.L 14) u25 2);let u16:=(O.ae u23 (O.ab [[.int u5,.int u20,.int u22,.int u20]]));let u12:=(O.l u16);let u10:=(O.t u12 48);let u9:=(O.u .i64 u12 u21);let u3:=(O.p .i64 u25 u21);let u2:=(O.ab [[.int u5]]);(O.b (O.o u25 (O.l (x.L 14))) (O.j (O.r u25 (O.l (x.L 14))) (O.b (O.e u7 (O.lit .u8 2)) (O.c (O.f 68 [69] [.rows u23,.rows u2]) fun c1=>(O.c (O.b (O.o (O.d c1 0) u20) (O.j u10 (O.a [.int u9,.rows u16])) (O.a [.int (O.d c1 0),.rows u23])) fun c2=>let u26:=(O.k c2 1);let u17:=(O.ae u26 (O.ab [[.int u8,.int u20,.int u22,.int u20]]));let u13:=(O.l u17);(O.j (O.r (O.d c2 0) (O.l u26)) (O.c (O.f 68 [69] [.rows u26,.rows (O.ab [[.int u8]])]) fun c3=>(O.c (O.b (O.o (O.d c3 0) u20) (O.j (O.t u13 48) (O.a [.int (O.u .i64 u13 u21),.rows u17])) (O.a [.int (O.d c3 0),.rows u26])) fun c4=>(O.j (O.r (O.d c4 0) (O.l (O.k c4 1))) (s0 [.int u3,.rows (O.k c4 1)]))))))) (O.b (O.e u7 (O.lit .u8 5)) (O.c (O.f 68 [69] [.rows u23,.rows u2]) fun c1=>(O.c (O.b (O.o (O.d c1 0) u20) (O.j u10 (O.a [.int u9,.rows u16])) (O.a [.int (O.d c1 0),.rows u23])) fun c2=>(O.j (O.r (O.d c2 0) (O.l (O.k c2 1))) (O.b u19 (s0 [.int u3,.rows (O.v (O.v (O.k c2 1) (O.d c2 0) 2 [.int (O.lit .u8 9)]) (O.d c2 0) 3 [.int u20])]) (s0 [.int u3,.rows (O.k c2 1)]))))) (O.b (O.e u7 (O.lit .u8 6)) (O.b (O.h u19) (O.c (O.f 68 [69] [.rows u23,.rows u2]) fun c1=>(O.c (O.b (O.o (O.d c1 0) u20) (O.j u10 (O.a [.int u9,.rows u16])) (O.a [.int (O.d c1 0),.rows u23])) fun c2=>(O.j (O.r (O.d c2 0) (O.l (O.k c2 1))) (s0 [.int u3,.rows (O.v (O.v (O.k c2 1) (O.d c2 0) 2 [.int (O.lit .u8 10)]) (O.d c2 0) 3 [.int u20])])))) (s0 [.int u3,.rows u23])) (O.b (O.e u7 (O.lit .u8 4)) (O.c (O.f 35 [70] [.rows (x.L 16),.rows (O.ab [[.int (x.I 15)]]),.rows (O.ab [[.int u25]])]) fun c1=>let u24:=(O.d c1 0);let u6:=(O.n (x.L 16) u24 5);let u18:=(O.ae u23 (O.ab [[.int u6,.int u20,.int u22,.int u20]]));let u14:=(O.l u18);(O.b (O.o u24 u20) (s0 [.int u3,.rows u23]) (O.j (O.r u24 (O.l (x.L 16))) (O.c (O.f 71 [] (ap O (xr x kR 0) (rr O (x.L 16) u24 [0,0,0,0,0,1,0,0,0,0,1,0] 8))) fun c2=>(O.c (O.b (O.h (O.aq (O.cS c2 0) (O.s ⟨#[]⟩))) (O.c (O.f 68 [69] [.rows u23,.rows (O.ab [[.int u6]])]) fun c3=>(O.c (O.b (O.o (O.d c3 0) u20) (O.j (O.t u14 48) (O.a [.int (O.u .i64 u14 u21),.rows u18])) (O.a [.int (O.d c3 0),.rows u23])) fun c4=>let u4:=(O.n (O.k c4 1) (O.d c4 0) 1);let u1:=(O.p .i64 u4 u21);(O.j (O.r (O.d c4 0) (O.l (O.k c4 1))) (O.j (O.t u4 1) (O.j (O.t u1 16) (O.a [.rows (O.v (O.k c4 1) (O.d c4 0) 1 [.int u1])])))))) (O.a [.rows u23])) fun c3=>let u27:=(O.k c3 0);(O.c (O.f 21 [] (ap O (rr O (x.L 16) u24 [0,0,0,0,0,1,0,0,0,0,1,0] 8) [.int u6,.int (O.n (x.L 16) u24 6)])) fun c4=>let u15:=(O.ae u27 (O.ab [[.int (O.d c4 0),.int u20,.int u22,.int u20]]));let u11:=(O.l u15);(O.b (O.o u20 (O.d c4 0)) (O.c (O.f 68 [69] [.rows u27,.rows (O.ab [[.int (O.d c4 0)]])]) fun c5=>(O.c (O.b (O.o (O.d c5 0) u20) (O.j (O.t u11 48) (O.a [.int (O.u .i64 u11 u21),.rows u15])) (O.a [.int (O.d c5 0),.rows u27])) fun c6=>let u28:=(O.d c6 0);let u0:=(O.v (O.v (O.k c6 1) u28 2 [.int (O.n (x.L 16) u24 14)]) u28 3 [.int u20]);(O.j (O.r u28 (O.l (O.k c6 1))) (O.b (O.rB (x.L 16) u24 28) (s0 [.int u3,.rows (O.v u0 u28 3 [.int (O.n (x.L 16) u24 4)])]) (s0 [.int u3,.rows u0]))))) (s0 [.int u3,.rows u27])))))))) (s0 [.int u3,.rows u23])))))) (O.a [.rows u23]))) [.int u20,.rows O.y]) fun c0=>(O.a [.rows (O.k c0 0)]))
def Gi (N:Nat):Env:=fun f fns ls=>(cond (Nat.beq f 21&&AQ fns []) (Ed N ls) (cond (Nat.beq f 35&&AQ fns [70]) (EV N ls) (cond (Nat.beq f 68&&AQ fns [69]) (Fm N ls) (cond (Nat.beq f 71&&AQ fns []) (VT N ls) none))))
def JA:=oS M5 NM Gi
def OZ:List Nat:=[2,0,0,0,0,0,0,0,1,0,0,0,0,3,3]
def Gz (O:Alg) (x:Ags O):O.M:=let u7:=(lq9 O 0);(O.c (O.f 45 [] (xr x [2,0,0,0,0,0,0,0,1,0,0,0,0,3,3] 0)) fun c0=>let u10:=(O.k c0 0);(O.b (O.h (O.e (O.d c0 1) u7)) (O.a [.rows O.y,.int (O.d c0 1)]) (O.c (O.f 14 [] (xr x [2,0,0,0,0,0,0,0,1,0,0,0,0,3,3] 0)) fun c1=>let u6:=(O.l (O.k c1 0));(O.c (O.f 16 [] [.rows (x.L 14)]) fun c2=>let u5:=(O.l (O.k c2 0));(O.c (O.w (fun s3 c3=>let u8:=(O.d c3 1);let u4:=(O.n (O.k c2 0) u8 1);let u3:=(O.n (O.k c2 0) u8 0);(O.b (O.o u8 u5) (O.j (O.r u8 u5) (O.c (O.w (fun s4 c4=>let u9:=(O.d c4 1);let u2:=(O.p .i64 u9 (lq9 O 1));let u1:=(O.ae (O.k c4 0) (O.ab [(rr O (O.k c1 0) u9 [0,0,0,0,0,0,0,1,0,0,0,0,0,1,0,0,0,0,1,0,0,0,0,0,0,0,1,1,1,1,0,0] 0)]));(O.b (O.o u9 u6) (O.j (O.r u9 u6) (O.b (O.e (O.n (O.k c1 0) u9 1) u8) (O.j (O.t (O.l u1) 216) (s4 [.rows u1,.int u2])) (s4 [.rows (O.k c4 0),.int u2]))) (O.a [.rows (O.k c4 0),.int u9]))) [.rows O.y,.int u7]) fun c4=>(O.j (O.r u8 (O.l u10)) (O.c (O.f 46 [] (ap O (xr x kR 0) [.rows (O.k c4 0)])) fun c5=>(O.j (O.ak u3 u4 (O.l (x.L 14))) (O.c (O.f 47 [] (ap O (xr x kR 0) [.rows (O.aj (x.L 14) u3 u4),.int u3,.rows (O.k c4 0)])) fun c6=>let u0:=(O.ae (O.k c3 0) (O.ab [(ap O [.int (O.n u10 u8 0),.rows (O.k c5 0),.rows (O.k c6 0)] (ap O (rr O u10 u8 [0,0,0,0,0] 4) [.int (O.n u10 u8 1),.int (O.n u10 u8 2)]))]));(O.j (O.t (O.l u0) 112) (s3 [.rows u0,.int (O.p .i64 u8 (lq9 O 1))])))))))) (O.a [.rows (O.k c3 0)]))) [.rows O.y,.int u7]) fun c3=>(O.a [.rows (O.k c3 0),.int u7]))))))
def B1 (N:Nat):Env:=fun f fns ls=>(cond (Nat.beq f 14&&AQ fns []) (CY N ls) (cond (Nat.beq f 16&&AQ fns []) (BT N ls) (cond (Nat.beq f 45&&AQ fns []) (Id N ls) (cond (Nat.beq f 46&&AQ fns []) (OA N ls) (cond (Nat.beq f 47&&AQ fns []) (JA N ls) none)))))
theorem TZ {N ls}:B1 N 14 [] ls=CY N ls:=id rfl
theorem Pi {N ls}:B1 N 16 [] ls=BT N ls:=id rfl
theorem Pe {N ls}:B1 N 45 [] ls=Id N ls:=id rfl
theorem PL {N ls}:B1 N 46 [] ls=OA N ls:=id rfl
theorem Ov {N ls}:B1 N 47 [] ls=JA N ls:=id rfl
def Du:=oS OZ Gz B1
def Wl:List Nat:=[2,0,0,0,0,0,0,0,1,0,0,0,0,3,3]
def Lk (O:Alg) (x:Ags O):O.M:=(O.c (O.f 36 [] (xr x [2,0,0,0,0,0,0,0,1,0,0,0,0,3,3] 0)) fun c0=>(O.c (O.f 37 [] (xr x [2,0,0,0,0,0,0,0,1,0,0,0,0,3,3] 0)) fun c1=>(O.a [.rows (O.k c0 0),.rows (O.k c1 0),.bool (O.i (O.e (O.d c0 1) (lq9 O 0)) (O.e (O.d c1 1) (lq9 O 0)) O.g)])))
def It:Nat→Env:=eL [(36,ET),(37,Du)]
theorem Q4 {N ls}:It N 36 [] ls=ET N ls:=id rfl
theorem Pf {N ls}:It N 37 [] ls=Du N ls:=id rfl
def H1:=oS Wl Lk It
def Of:List Nat:=[]
def Gn (O:Alg) (x:Ags O):O.M:=(O.c (O.f 11 [] []) fun c0=>(O.c (O.f 12 [] []) fun c1=>(O.c (O.f 28 [] (ap O (cr O c0 kR 0) [.rows (O.k c1 0)])) fun c2=>(O.c (O.f 11 [] []) fun c3=>(O.c (O.f 12 [] []) fun c4=>(O.c (O.f 6 [] (ap O (cr O c3 kR 0) [.rows (O.k c4 0)])) fun c5=>(O.a [.bool (O.i (O.i (O.i (O.i (O.q c2 2) (O.e (O.l (O.k c2 0)) (lq9 O 4)) O.g) (O.e (O.l (O.k c2 1)) (lq9 O 2)) O.g) (O.e (O.d c5 23) (lq9 O (-1))) O.g) (O.e (O.l (O.k c5 17)) (lq9 O 2)) O.g)])))))))
def CH (N:Nat):Env:=fun f fns ls=>(cond (Nat.beq f 6&&AQ fns []) (DU N ls) (cond (Nat.beq f 11&&AQ fns []) (HV N ls) (cond (Nat.beq f 12&&AQ fns []) (Kc N ls) (cond (Nat.beq f 28&&AQ fns []) (H1 N ls) none))))
theorem RX {N ls}:CH N 6 [] ls=DU N ls:=id rfl
theorem SQ {N ls}:CH N 11 [] ls=HV N ls:=id rfl
theorem Uc {N ls}:CH N 12 [] ls=Kc N ls:=id rfl
theorem Pp {N ls}:CH N 28 [] ls=H1 N ls:=id rfl
def E2:=oS Of Gn CH
def Ve:List Nat:=[]
def J0 (O:Alg) (x:Ags O):O.M:=let u5:=(lq9 O 1);let u4:=(lq9 O 0);(O.c (O.f 11 [] []) fun c0=>(O.c (O.f 12 [] []) fun c1=>(O.c (O.f 7 [] (ap O (cr O c0 kR 0) [.rows (O.k c1 0),.int u4])) fun c2=>let u2:=(O.l (O.k c2 0));(O.c (O.f 11 [] []) fun c3=>(O.c (O.f 12 [] []) fun c4=>(O.c (O.f 8 [] (ap O (cr O c3 kR 0) [.rows (O.k c4 0),.int u5])) fun c5=>let u3:=(O.l (O.k c5 0));(O.c (O.f 13 [] []) fun c6=>let u1:=(O.i (O.i (O.i (O.q c6 0) (O.e (O.d c2 1) u4) O.g) (O.e (O.d c5 1) u4) O.g) (O.e u2 (lq9 O 2)) O.g);let u0:=(O.i (O.i u1 (O.e (O.n (O.k c2 0) u4 1) u5) O.g) (O.e u3 u5) O.g);(O.j (O.h (O.af u1 (O.h (O.r u4 u2)))) (O.j (O.h (O.af u0 (O.h (O.r u4 u3)))) (O.a [.bool (O.i u0 (O.e (O.n (O.k c5 0) u4 3) (lq9 O 5)) O.g)]))))))))))
def DJ:Nat→Env:=eL [(7,DF),(8,CG),(11,HV),(12,Kc),(13,E2)]
theorem Pw {N ls}:DJ N 7 [] ls=DF N ls:=id rfl
theorem Nx {N ls}:DJ N 8 [] ls=CG N ls:=id rfl
theorem ST {N ls}:DJ N 11 [] ls=HV N ls:=id rfl
theorem Uh {N ls}:DJ N 12 [] ls=Kc N ls:=id rfl
theorem PK {N ls}:DJ N 13 [] ls=E2 N ls:=id rfl
def Gg:=oS Ve J0 DJ
def Rk:List Nat:=[3]
def Jc (O:Alg) (x:Ags O):O.M:=let u1:=(O.l (x.L 0));let u0:=(O.ai (O.o (lq9 O 50) u1) (lq9 O 50) u1);(O.j (O.ak (lq9 O 0) u0 u1) (O.a [.rows (O.aj (x.L 0) (lq9 O 0) u0)]))
def HG (N:Nat):Env:=fun f fns ls=>none
def Jm:=oS Rk Jc HG
def U2:List Nat:=[3]
def J7 (O:Alg) (x:Ags O):O.M:=(O.c (O.w (fun s0 c0=>let u0:=(O.d c0 1);(O.b (O.o u0 (O.l (x.L 0))) (O.j (O.r u0 (O.l (x.L 0))) (s0 [.int (O.p .i64 (O.d c0 0) (O.n (x.L 0) u0 1)),.int (O.p .i64 u0 (lq9 O 1))])) (O.a [.int (O.d c0 0)]))) [.int (lq9 O 0),.int (lq9 O 0)]) fun c0=>(O.a [.int (O.d c0 0)]))
def SD:Nat→Env:=eL []
def G0:=oS U2 J7 SD
def VB:List Nat:=[3]
def J5 (O:Alg) (x:Ags O):O.M:=(O.c (O.w (fun s0 c0=>let u0:=(O.d c0 1);(O.b (O.o u0 (O.l (x.L 0))) (O.j (O.r u0 (O.l (x.L 0))) (s0 [.int (O.p .i64 (O.d c0 0) (O.n (x.L 0) u0 3)),.int (O.p .i64 u0 (lq9 O 1))])) (O.a [.int (O.d c0 0)]))) [.int (lq9 O 0),.int (lq9 O 0)]) fun c0=>(O.a [.int (O.d c0 0)]))
def SC:Nat→Env:=eL []
def HM:=oS VB J5 SC
def Oq:List Nat:=[2,0,0,0,0,0,0,0,1,0,0,0,0,3,3]
def G2 (O:Alg) (x:Ags O):O.M:=let u13:=(lq9 O 1);let u12:=(lq9 O 0);(O.c (O.f 4 [] []) fun c0=>(O.b (O.h (O.q c0 0)) (O.a [.bool O.g]) (O.c (O.f 5 [] [.rows (x.L 14)]) fun c1=>(O.c (O.f 6 [] (ap O (xr x kR 0) [.rows (O.k c1 0)])) fun c2=>let u14:=(O.k c2 17);let u9:=(O.l u14);(O.b (O.h (O.e (O.d c2 23) (lq9 O (-1)))) (O.a [.bool O.m]) (O.c (O.w (fun s3 c3=>let u15:=(O.d c3 0);let u7:=(O.n u14 u15 9);let u6:=(O.n u14 u15 8);let u5:=(O.n u14 u15 7);let u4:=(O.n u14 u15 3);let u3:=(O.rL u14 u15 19);(O.b (O.o u15 u9) (O.j (O.r u15 u9) (O.c (O.f 7 [] (ap O (xr x kR 0) [.rows (O.k c1 0),.int u15])) fun c4=>let u10:=(O.l (O.k c4 0));(O.c (O.f 8 [] (ap O (xr x kR 0) [.rows (O.k c1 0),.int u15])) fun c5=>let u18:=(O.k c5 0);let u11:=(O.l u18);(O.b (O.i (O.h (O.e (O.d c4 1) u12)) O.m (O.h (O.e (O.d c5 1) u12))) (O.a [.int u12,.bool O.g]) (O.c (O.w (fun s6 c6=>let u17:=(O.d c6 1);let u2:=(O.p .i64 u17 u13);(O.b (O.o u17 u10) (O.j (O.r u17 u10) (O.b (O.rB (O.k c4 0) u17 5) (s6 [.int (O.p .i64 (O.d c6 0) u13),.int u2]) (s6 [.int (O.d c6 0),.int u2]))) (O.a [.int (O.d c6 0),.int u17]))) [.int u12,.int u12]) fun c6=>(O.c (O.w (fun s7 c7=>let u16:=(O.d c7 1);let u8:=(O.n u18 u16 1);let u1:=(O.u .i64 (O.n u18 u16 0) u13);(O.b (O.o u16 u11) (O.j (O.r u16 u11) (O.j (O.r u1 (O.l u3)) (O.b (O.h (O.e u8 (O.n u3 u1 0))) (O.a [.int u12,.bool O.g]) (s7 [.int (O.p .i64 (O.d c7 0) u8),.int (O.p .i64 u16 u13)])))) (O.a [.int u13,.int (O.d c7 0),.int u16]))) [.int u12,.int u12]) fun c7=>(O.b (O.ac c7 0) (O.a [.int u12,.bool (O.q c7 1)]) (O.c (O.f 9 [] [.rows (O.k c4 0)]) fun c8=>let u0:=(O.h (O.e u4 (O.p .i64 (O.d c8 0) (O.p .i64 (O.p .i64 (O.p .i64 (O.p .i64 (O.n u14 u15 5) (O.n u14 u15 6)) u5) u6) u7))));(O.c (O.b (O.h u0) (O.f 10 [] [.rows u18]) (O.a [.int u12])) fun c9=>(O.b (O.i (O.i (O.i u0 O.m (O.h (O.e u4 (O.p .i64 (O.p .i64 (O.p .i64 (O.d c9 0) u5) u6) u7)))) O.m (O.h (O.e (O.n u14 u15 4) (O.d c6 0)))) O.m (O.h (O.e (O.d c7 1) (O.p .i64 (O.al .i64 (O.n u14 u15 10) (x.I 4)) (O.n u14 u15 11))))) (O.a [.int u12,.bool O.g]) (s3 [.int (O.p .i64 u15 u13)]))))))))))) (O.a [.int u13]))) [.int u12]) fun c3=>(O.b (O.ac c3 0) (O.a [.bool (O.q c3 1)]) (O.a [.bool O.m]))))))))
def BU (N:Nat):Env:=fun f fns ls=>(cond (Nat.beq f 4&&AQ fns []) (Gg N ls) (cond (Nat.beq f 5&&AQ fns []) (Jm N ls) (cond (Nat.beq f 6&&AQ fns []) (DU N ls) (cond (Nat.beq f 7&&AQ fns []) (DF N ls) (cond (Nat.beq f 8&&AQ fns []) (CG N ls) (cond (Nat.beq f 9&&AQ fns []) (G0 N ls) (cond (Nat.beq f 10&&AQ fns []) (HM N ls) none)))))))
theorem PA {N ls}:BU N 4 [] ls=Gg N ls:=id rfl
theorem RA {N ls}:BU N 5 [] ls=Jm N ls:=id rfl
theorem RZ {N ls}:BU N 6 [] ls=DU N ls:=id rfl
theorem IY {N ls}:BU N 7 [] ls=DF N ls:=id rfl
theorem GS {N ls}:BU N 8 [] ls=CG N ls:=id rfl
theorem O9 {N ls}:BU N 9 [] ls=G0 N ls:=id rfl
theorem PJ {N ls}:BU N 10 [] ls=HM N ls:=id rfl
def HR:=oS Oq G2 BU
def Ar (xs:List Inn):Rows:=xs.map Inn.ls
def dI:Inn:=⟨0,0,0,0,0,0,0,0,0,0,0,0,0,0,[],0,[],[],false,[],false,0,0,0,[],0,0,0⟩
def inn (xs:List Inn) (i:Nat):Inn:=xs.getD i dI
structure Mat where
 rules:Rul
 stage:Int
 first:Int
 follow:Bool
 inns:List Inn
 pen1:Int
 pen2:Int
 win:Int
 wside:Int
 margin:Int
def Mat.ls (m:Mat):List PV:=[.str m.rules.name,.int m.rules.side,.int m.rules.innings,.int m.rules.overs,.int m.rules.balls,.int m.rules.quota,.int m.rules.wide,.int m.rules.noball,.bool m.rules.freehit,.int m.rules.newball,.int m.rules.followon,.int m.rules.reviews,.int m.rules.outside,.rows m.rules.power,.int m.stage,.int m.first,.bool m.follow,.rows (Ar m.inns),.int m.pen1,.int m.pen2,.int m.win,.int m.wside,.int m.margin]
def YO (x:Mat×Int):List PV:=[.str x.1.rules.name,.int x.1.rules.side,.int x.1.rules.innings,.int x.1.rules.overs,.int x.1.rules.balls,.int x.1.rules.quota,.int x.1.rules.wide,.int x.1.rules.noball,.bool x.1.rules.freehit,.int x.1.rules.newball,.int x.1.rules.followon,.int x.1.rules.reviews,.int x.1.rules.outside,.rows x.1.rules.power,.int x.1.stage,.int x.1.first,.bool x.1.follow,.rows (Ar x.1.inns),.int x.1.pen1,.int x.1.pen2,.int x.1.win,.int x.1.wside,.int x.1.margin,.int x.2]
theorem ig (xs:List Inn) (i:Nat):AB (Ar xs) i=(match xs[i]? with | some s=>s.ls | none=>[]):=by
 unfold AB Ar;rw [zzk,List.getElem?_map];cases xs[i]?<;>rfl
theorem Jg (xs:List Inn) (i:Nat):inn xs i=(match xs[i]? with | some s=>s | none=>dI):=by
 unfold inn;rw [zzk];cases xs[i]?<;>rfl
theorem eS (xs:List Inn):(Ar xs).length=xs.length:=List.length_map _
theorem PXi : (∀ xs : List Inn, (Ar xs).length = xs.length) ∧ (∀ (xs : List Inn) (i : Nat), pvI (AF (Ar xs) i 0) = (inn xs i).side) ∧ (∀ (xs : List Inn) (i : Nat), pvI (AF (Ar xs) i 1) = (inn xs i).target) ∧ (∀ (xs : List Inn) (i : Nat), pvI (AF (Ar xs) i 2) = (inn xs i).overs) ∧ (∀ (xs : List Inn) (i : Nat), pvI (AF (Ar xs) i 3) = (inn xs i).runs) ∧
    (∀ (xs:List Inn) (i:Nat),pvI (AF (Ar xs) i 4)=(inn xs i).wickets)∧(∀ (xs:List Inn) (i:Nat),pvI (AF (Ar xs) i 5)=(inn xs i).wides)∧(∀ (xs:List Inn) (i:Nat),pvI (AF (Ar xs) i 6)=(inn xs i).noballs)∧(∀ (xs:List Inn) (i:Nat),pvI (AF (Ar xs) i 7)=(inn xs i).byes)∧(∀ (xs:List Inn) (i:Nat),pvI (AF (Ar xs) i 8)=(inn xs i).legbyes) ∧
    (∀ (xs:List Inn) (i:Nat),pvI (AF (Ar xs) i 9)=(inn xs i).pens)∧(∀ (xs:List Inn) (i:Nat),pvI (AF (Ar xs) i 10)=(inn xs i).complete)∧(∀ (xs:List Inn) (i:Nat),pvI (AF (Ar xs) i 11)=(inn xs i).inover)∧(∀ (xs:List Inn) (i:Nat),pvI (AF (Ar xs) i 12)=(inn xs i).striker)∧(∀ (xs:List Inn) (i:Nat),pvI (AF (Ar xs) i 13)=(inn xs i).other) ∧
    (∀ (xs:List Inn) (i:Nat),pvL (AF (Ar xs) i 14)=(inn xs i).batters)∧(∀ (xs:List Inn) (i:Nat),pvI (AF (Ar xs) i 15)=(inn xs i).bowler)∧(∀ (xs:List Inn) (i:Nat),pvL (AF (Ar xs) i 16)=(inn xs i).bowlers)∧(∀ (xs:List Inn) (i:Nat),pvL (AF (Ar xs) i 17)=(inn xs i).before)∧(∀ (xs:List Inn) (i:Nat),pvB (AF (Ar xs) i 18)=(inn xs i).fresh) ∧
    (∀ (xs:List Inn) (i:Nat),pvL (AF (Ar xs) i 19)=(inn xs i).bowled)∧(∀ (xs:List Inn) (i:Nat),pvB (AF (Ar xs) i 20)=(inn xs i).freehit)∧(∀ (xs:List Inn) (i:Nat),pvI (AF (Ar xs) i 21)=(inn xs i).ballage)∧(∀ (xs:List Inn) (i:Nat),pvI (AF (Ar xs) i 22)=(inn xs i).keeper)∧(∀ (xs:List Inn) (i:Nat),pvI (AF (Ar xs) i 23)=(inn xs i).outside) ∧
    (∀ (xs:List Inn) (i:Nat),pvL (AF (Ar xs) i 24)=(inn xs i).subs)∧(∀ (xs:List Inn) (i:Nat),pvI (AF (Ar xs) i 25)=(inn xs i).rev1)∧(∀ (xs:List Inn) (i:Nat),pvI (AF (Ar xs) i 26)=(inn xs i).rev2)∧(∀ (xs:List Inn) (i:Nat),pvI (AF (Ar xs) i 27)=(inn xs i).ending):=by
  refine ⟨eS,?_,?_,?_,?_,?_,?_,?_,?_,?_,?_,?_,?_,?_,?_,?_,?_,?_,?_,?_,?_,?_,?_,?_,?_,?_,?_,?_,?_⟩
  all_goals (intro xs i;rw [Jg];unfold AF;rw [ig];cases xs[i]?<;>rfl)
theorem Mat.eta (m:Mat):Mat.mk m.rules m.stage m.first m.follow m.inns m.pen1 m.pen2 m.win m.wside m.margin=m:=rfl
theorem PXk : (∀ m : Mat, m.ls = [.str m.rules.name, .int m.rules.side, .int m.rules.innings, .int m.rules.overs, .int m.rules.balls, .int m.rules.quota, .int m.rules.wide, .int m.rules.noball, .bool m.rules.freehit, .int m.rules.newball, .int m.rules.followon, .int m.rules.reviews, .int m.rules.outside, .rows m.rules.power, .int m.stage, .int m.first, .bool m.follow, .rows (Ar m.inns), .int m.pen1, .int m.pen2, .int m.win, .int m.wside, .int m.margin]) ∧
    (∀ x:Mat×Int,YO x=[.str x.1.rules.name,.int x.1.rules.side,.int x.1.rules.innings,.int x.1.rules.overs,.int x.1.rules.balls,.int x.1.rules.quota,.int x.1.rules.wide,.int x.1.rules.noball,.bool x.1.rules.freehit,.int x.1.rules.newball,.int x.1.rules.followon,.int x.1.rules.reviews,.int x.1.rules.outside,.rows x.1.rules.power,.int x.1.stage,.int x.1.first,.bool x.1.follow,.rows (Ar x.1.inns),.int x.1.pen1,.int x.1.pen2,.int x.1.win,.int x.1.wside,.int x.1.margin,.int x.2]) ∧
    (∀ m:Mat,Mat.mk m.rules m.stage m.first m.follow m.inns m.pen1 m.pen2 m.win m.wside m.margin=m):=⟨fun _=>rfl,fun _=>rfl,fun _=>rfl⟩
theorem qs:∀ (ps r pre:List PV),r.length=ps.length→Ac (pre++r) pre.length ps=pre++ps
 | [],r,pre,h=>by
  have:r=[]:=List.eq_nil_of_length_eq_zero h;subst this;rfl
 | p::ps,[],pre,h=>by cases h
 | p::ps,a::r,pre,h=>by
  have ih:=qs ps r (pre++[p]) (by simpa using h);simp only [List.length_append,List.length_cons,List.length_nil,List.append_assoc,List.cons_append,List.nil_append] at ih;unfold Ac;rw [List.set_append_right _ _ (Nat.le_refl _),Nat.sub_self];exact ih
theorem AAw (a s:Inn):Ac a.ls 0 s.ls=s.ls:=qs s.ls a.ls [] rfl
theorem zY (a:Inn) (e:Int):Ac a.ls 27 [.int e]=Inn.ls { a with ending:=e }:=by
 show a.ls.set 27 (.int e)=_;rfl
theorem zD {xs:List Inn} {i:Nat} (h:i<xs.length) (s:Inn):(Ar xs).set i (Ac (AB (Ar xs) i) 0 s.ls)=Ar (xs.set i s):=by
 have e:AB (Ar xs) i=(xs[i]).ls:=by rw [ig,zzn h]
 rw [e,AAw];exact List.map_set.symm
theorem AAD {xs:List Inn} {i:Nat} (h:i<xs.length) (e:Int):(Ar xs).set i (Ac (AB (Ar xs) i) 27 [.int e])=Ar (xs.set i { inn xs i with ending:=e }):=by
 have e1:AB (Ar xs) i=(inn xs i).ls:=by rw [ig,Jg,zzn h]
 rw [e1,zY];exact List.map_set.symm
theorem z6 (xs:List Inn) (s:Inn):Ar xs++[s.ls]=Ar (xs++[s]):=by
 show List.map Inn.ls xs++List.map Inn.ls [s]=List.map Inn.ls (xs++[s]);exact List.map_append.symm
theorem zm (xs:List Inn) (i:Nat) (s:Inn):(Ar xs).set i (Ac (AB (Ar xs) i) 0 s.ls)=Ar (xs.set i s):=by
 by_cases h:i<xs.length
 ·exact zD h s
 ·rw [List.set_eq_of_length_le (by rw [eS];omega),List.set_eq_of_length_le (by omega)]
theorem qQ (xs:List Inn) (i:Nat) (e:Int):(Ar xs).set i (Ac (AB (Ar xs) i) 27 [.int e])=Ar (xs.set i { inn xs i with ending:=e }):=by
 by_cases h:i<xs.length
 ·exact AAD h e
 ·rw [List.set_eq_of_length_le (by rw [eS];omega),List.set_eq_of_length_le (by omega)]
theorem PXr : (∀ (xs : List Inn) (x0 x1 x2 x3 x4 x5 x6 x7 x8 x9 x10 x11 x12 x13 x15 x21 x22 x23 x25 x26 x27 : Int) (x18 x20 : Bool) (x14 x16 x17 x19 x24 : Rows), Ar xs ++ [([.int x0, .int x1, .int x2, .int x3, .int x4, .int x5, .int x6, .int x7, .int x8, .int x9, .int x10, .int x11, .int x12, .int x13, .rows x14, .int x15, .rows x16, .rows x17, .bool x18, .rows x19, .bool x20, .int x21, .int x22, .int x23, .rows x24, .int x25, .int x26, .int x27] : List PV)] = Ar (xs ++ [⟨x0, x1, x2, x3, x4, x5, x6, x7, x8, x9, x10, x11, x12, x13, x14, x15, x16, x17, x18, x19, x20, x21, x22, x23, x24, x25, x26, x27⟩])) ∧ (∀ (xs : List Inn) (i : Nat) (x0 x1 x2 x3 x4 x5 x6 x7 x8 x9 x10 x11 x12 x13 x15 x21 x22 x23 x25 x26 x27 : Int) (x18 x20 : Bool) (x14 x16 x17 x19 x24 : Rows), (Ar xs).set i (Ac (AB (Ar xs) i) 0 [.int x0, .int x1, .int x2, .int x3, .int x4, .int x5, .int x6, .int x7, .int x8, .int x9, .int x10, .int x11, .int x12, .int x13, .rows x14, .int x15, .rows x16, .rows x17, .bool x18, .rows x19, .bool x20, .int x21, .int x22, .int x23, .rows x24, .int x25, .int x26, .int x27]) = Ar (xs.set i ⟨x0, x1, x2, x3, x4, x5, x6, x7, x8, x9, x10, x11, x12, x13, x14, x15, x16, x17, x18, x19, x20, x21, x22, x23, x24, x25, x26, x27⟩)) ∧
    (∀ (xs:List Inn) (i:Nat) (e:Int),(Ar xs).set i (Ac (AB (Ar xs) i) 27 [.int e])=Ar (xs.set i { inn xs i with ending:=e })) :=
  ⟨fun xs x0 x1 x2 x3 x4 x5 x6 x7 x8 x9 x10 x11 x12 x13 x15 x21 x22 x23 x25 x26 x27 x18 x20 x14 x16 x17 x19 x24=>z6 xs ⟨x0,x1,x2,x3,x4,x5,x6,x7,x8,x9,x10,x11,x12,x13,x14,x15,x16,x17,x18,x19,x20,x21,x22,x23,x24,x25,x26,x27⟩,fun xs i x0 x1 x2 x3 x4 x5 x6 x7 x8 x9 x10 x11 x12 x13 x15 x21 x22 x23 x25 x26 x27 x18 x20 x14 x16 x17 x19 x24=>zm xs i ⟨x0,x1,x2,x3,x4,x5,x6,x7,x8,x9,x10,x11,x12,x13,x14,x15,x16,x17,x18,x19,x20,x21,x22,x23,x24,x25,x26,x27⟩,qQ⟩
theorem Hz {N:Nat} {s18 s20:Bool} (h:Fit s14 s16 s17 s19 s24):BA N [.int s0,.int s1,.int s2,.int s3,.int s4,.int s5,.int s6,.int s7,.int s8,.int s9,.int s10,.int s11,.int s12,.int s13,.rows s14,.int s15,.rows s16,.rows s17,.bool s18,.rows s19,.bool s20,.int s21,.int s22,.int s23,.rows s24,.int s25,.int s26,.int s27]=some [.int s0,.int s1,.int s2,.int s3,.int s4,.int s5,.int s6,.int s7,.int s8,.int s9,.int s10,.int s11,.int s12,.int s13,.rows s14,.int s15,.rows s16,.rows s17,.bool s18,.rows s19,.bool s20,.int s21,.int s22,.int s23,.rows s24,.int s25,.int s26,.int s27]:=by
 show OU (std (IH N) N) (xOf _)=_;simp only [OU,NJ,PC,Oz,lq9,std,xOf,PXb,PXc,PXn,PXm,Nat.reduceAdd,Int.reduceBEq,Ae,As,Ai,CB h.bt (show 1≤4096 by omega),CB h.bw' (show 8≤4096 by omega),CB h.bf (show 8≤4096 by omega),CB h.bd (show 8≤4096 by omega),CB h.sb (show 1≤4096 by omega)]
theorem H3 {N:Nat} {s18 s20:Bool} {p:Int}  : BC N [.int s0,.int s1,.int s2,.int s3,.int s4,.int s5,.int s6,.int s7,.int s8,.int s9,.int s10,.int s11,.int s12,.int s13,.rows s14,.int s15,.rows s16,.rows s17,.bool s18,.rows s19,.bool s20,.int s21,.int s22,.int s23,.rows s24,.int s25,.int s26,.int s27,.int p]=some [.bool (inR p s14.length)]:=by
 show LW (std (TK N) N) (xOf _)=_;simp only [LW,lq9,std,xOf,PXb,PXc,PXn,PXm,Nat.reduceAdd,Int.reduceBEq];rfl
def Ag (s:Inn) (d:Del):Inn :=
  let odd := !(d.runs.tmod 2==0) != d.crossed
  let t:Inn:=cond odd { s with striker:=s.other,other:=s.striker } s
  let k:Bool:=d.how==0
  cond (!k&&(d.victim==1 && !(s.striker==0)))
    { t with striker:=cond odd t.striker 0,other:=cond odd 0 t.other,batters:=cond (inR s.striker s.batters.length) (DX s.batters s.striker 2) s.batters,wickets:=IntKind.i64.wrap (s.wickets+1) }
    (cond (!k&&(d.victim==2 && !(s.other==0)))
      { t with striker:=cond odd 0 t.striker,other:=cond odd t.other 0,batters:=cond (inR s.other s.batters.length) (DX s.batters s.other 2) s.batters,wickets:=IntKind.i64.wrap (s.wickets+1) }
      t)
theorem oy {N:Nat} {s18 s20:Bool} {d0 d1 d2 d3 d4 d6 d7 d8 d9 d11:Int} {d5 d10:Bool} (h:Fit s14 s16 s17 s19 s24):Ki N [.int s0,.int s1,.int s2,.int s3,.int s4,.int s5,.int s6,.int s7,.int s8,.int s9,.int s10,.int s11,.int s12,.int s13,.rows s14,.int s15,.rows s16,.rows s17,.bool s18,.rows s19,.bool s20,.int s21,.int s22,.int s23,.rows s24,.int s25,.int s26,.int s27,.int d0,.int d1,.int d2,.int d3,.int d4,.bool d5,.int d6,.int d7,.int d8,.int d9,.bool d10,.int d11]=some (Ag (⟨s0,s1,s2,s3,s4,s5,s6,s7,s8,s9,s10,s11,s12,s13,s14,s15,s16,s17,s18,s19,s20,s21,s22,s23,s24,s25,s26,s27⟩:Inn) (⟨d0,d1,d2,d3,d4,d5,d6,d7,d8,d9,d10,d11⟩:Del)).ls:=by
 show O0 (std (Lw N) N) (xOf _)=_;simp only [O0,UZ,Sp,lq9,std,xOf,PXb,PXc,PXn,PXm,Nat.reduceAdd,Int.reduceBEq,Hz h,H3,ABD h.bt];unfold Ag;cases d5<;>cases d2.tmod 2==0<;>cases d6==0<;>cases d7==1<;>cases d7==2<;>cases s12==0<;>cases s13==0<;>rfl
def H4 (s:Inn):Inn:={ s with striker:=s.other,other:=s.striker }
theorem fu {N:Nat} {s18 s20:Bool} (h:Fit s14 s16 s17 s19 s24):HK N [.int s0,.int s1,.int s2,.int s3,.int s4,.int s5,.int s6,.int s7,.int s8,.int s9,.int s10,.int s11,.int s12,.int s13,.rows s14,.int s15,.rows s16,.rows s17,.bool s18,.rows s19,.bool s20,.int s21,.int s22,.int s23,.rows s24,.int s25,.int s26,.int s27]=some (H4 (⟨s0,s1,s2,s3,s4,s5,s6,s7,s8,s9,s10,s11,s12,s13,s14,s15,s16,s17,s18,s19,s20,s21,s22,s23,s24,s25,s26,s27⟩:Inn)).ls:=by
 show J3 (std (MA N) N) (xOf _)=_;simp only [J3,RY,lq9,std,xOf,PXb,PXc,PXn,PXm,Nat.reduceAdd,Int.reduceBEq,Hz h];rfl
theorem dy {N:Nat} {v:Int}  : Df N [.int v]=some [.bool (!(v==0))]:=by
 show NI (std (Qh N) N) (xOf _)=_;rfl
theorem bR {N:Nat} {v:Int}  : FI N [.int v]=some [.bool (!(v==0))]:=by
 show L2 (std (PU N) N) (xOf _)=_;rfl
theorem Wz {N:Nat} {s18 s20:Bool} (h:s14.length≤1048576) (hN:2097152<N):Ck N [.int s0,.int s1,.int s2,.int s3,.int s4,.int s5,.int s6,.int s7,.int s8,.int s9,.int s10,.int s11,.int s12,.int s13,.rows s14,.int s15,.rows s16,.rows s17,.bool s18,.rows s19,.bool s20,.int s21,.int s22,.int s23,.rows s24,.int s25,.int s26,.int s27]=some [.bool (Ce s14)]:=by
 show Fi (std (Fv N) N) (xOf _)=_;simp only [Fi,Hi,lq9,std,xOf,PXb,PXc,PXn,AG];rw [show Ce s14=iLe 0 (Rl (fun i => !(atI s14 i 0==0)) s14.length) from (LQ _ _).symm];rw [Option.bind_assoc];refine AZ (DN (len:=s14.length) (Hf fun i => !(atI s14 i 0==0)) ?_ ?_ s14.length 0 N (by omega) (by omega)) ?_
 ·intro self;simp only [PXb,PXc,PXn,AG,A3]
 ·intro i self hi;simp only [PXb,PXc,PXn,AG,BO (show i≤1099511627776 by omega),Ay hi,AN hi,Hf,C9,Hi,dy];cases atI s14 i 0==0<;>rfl
 ·unfold Rl;cases Bd (Hf fun i => !(atI s14 i 0==0)) s14.length 0<;>rfl
theorem gX {N:Nat} {s18 s20:Bool} (h:s14.length≤1048576) (hN:2097152<N):HJ N [.int s0,.int s1,.int s2,.int s3,.int s4,.int s5,.int s6,.int s7,.int s8,.int s9,.int s10,.int s11,.int s12,.int s13,.rows s14,.int s15,.rows s16,.rows s17,.bool s18,.rows s19,.bool s20,.int s21,.int s22,.int s23,.rows s24,.int s25,.int s26,.int s27]=some [.bool (Ce s14)]:=by
 show KH (std (MD N) N) (xOf _)=_;simp only [KH,GV,lq9,std,xOf,PXb,PXc,PXn,AG];rw [show Ce s14=iLe 0 (Rl (fun i => !(atI s14 i 0==0)) s14.length) from (LQ _ _).symm];rw [Option.bind_assoc];refine AZ (DN (len:=s14.length) (Hf fun i => !(atI s14 i 0==0)) ?_ ?_ s14.length 0 N (by omega) (by omega)) ?_
 ·intro self;simp only [PXb,PXc,PXn,AG,A3]
 ·intro i self hi;simp only [PXb,PXc,PXn,AG,BO (show i≤1099511627776 by omega),Ay hi,AN hi,Hf,C9,GV,bR];cases atI s14 i 0==0<;>rfl
 ·unfold Rl;cases Bd (Hf fun i => !(atI s14 i 0==0)) s14.length 0<;>rfl
theorem VM {N:Nat} {s18 s20:Bool} (h:s14.length≤1048576) (hN:2097152<N):Bn N [.int s0,.int s1,.int s2,.int s3,.int s4,.int s5,.int s6,.int s7,.int s8,.int s9,.int s10,.int s11,.int s12,.int s13,.rows s14,.int s15,.rows s16,.rows s17,.bool s18,.rows s19,.bool s20,.int s21,.int s22,.int s23,.rows s24,.int s25,.int s26,.int s27]=some [.bool (GB s14 s12 s13)]:=by
 show E0 (std (FN N) N) (xOf _)=_;simp only [E0,P6,lq9,std,xOf,PXb,PXc,PXn,PXm,Nat.reduceAdd,Int.reduceBEq,Wz h hN];rfl
theorem lK {N:Nat} {s18 s20:Bool} (h:s14.length≤1048576) (hN:2097152<N):Dd N [.int s0,.int s1,.int s2,.int s3,.int s4,.int s5,.int s6,.int s7,.int s8,.int s9,.int s10,.int s11,.int s12,.int s13,.rows s14,.int s15,.rows s16,.rows s17,.bool s18,.rows s19,.bool s20,.int s21,.int s22,.int s23,.rows s24,.int s25,.int s26,.int s27]=some [.rows (EY s14 s14.length)]:=by
 show Ga (std (Ob N) N) (xOf _)=_;simp only [Ga,lq9,std,xOf,PXb,PXc,PXn,AG];refine AZ (CA (len:=s14.length) (fun i=>[.rows (EY s14 i),.int (i:Int)]) [.rows (EY s14 s14.length)] ?_ ?_ N (by omega)) rfl
 ·intro self;simp only [PXb,PXc,PXn,AG,A3]
 ·intro i self hi;have h2:(EY s14 i++[[PV.int ((i:Int)+1)]]).length≤4194304:=by have:=eO s14 i;simp;omega
  simp only [PXb,PXc,PXn,AG,BO (show i≤1099511627776 by omega),Ay hi,AN hi,C9,EY,Gu h2 (show 8≤4096 by omega)];cases (atI s14 i 0==0||atI s14 i 0==3)<;>rfl
def I5 (s:Inn) (p q:Int):Inn×Int :=
  cond (Ce s.batters) (s,1) (cond (!inR p s.batters.length || !inR q s.batters.length) (s,3) (cond (p==q) (s,4)
    ({ s with batters:=DX (DX s.batters p 1) q 1,striker:=p,other:=q },0)))
theorem lm {N:Nat} {s18 s20:Bool} {p:Int} {q:Int} (h:Fit s14 s16 s17 s19 s24) (hN:2097152<N):Jn N [.int s0,.int s1,.int s2,.int s3,.int s4,.int s5,.int s6,.int s7,.int s8,.int s9,.int s10,.int s11,.int s12,.int s13,.rows s14,.int s15,.rows s16,.rows s17,.bool s18,.rows s19,.bool s20,.int s21,.int s22,.int s23,.rows s24,.int s25,.int s26,.int s27,.int p,.int q]=some (Bk (I5 (⟨s0,s1,s2,s3,s4,s5,s6,s7,s8,s9,s10,s11,s12,s13,s14,s15,s16,s17,s18,s19,s20,s21,s22,s23,s24,s25,s26,s27⟩:Inn) p q)):=by
 show Mf (std (Gt N) N) (xOf _)=_;generalize hres:(some (Bk (I5 (⟨s0,s1,s2,s3,s4,s5,s6,s7,s8,s9,s10,s11,s12,s13,s14,s15,s16,s17,s18,s19,s20,s21,s22,s23,s24,s25,s26,s27⟩:Inn) p q)):Option (List PV))=RR;simp only [Mf,TG,RN,RS,lq9,std,xOf,PXb,PXc,PXn,PXm,Nat.reduceAdd,Int.reduceBEq,Hz h,Wz h.bt hN,H3];subst hres;simp only [I5];cases Ce s14<;>try rfl
 cases hp:inR p s14.length<;>cases hq:inR q s14.length<;>try rfl
 rw [Mr hp h.bt,Mr hq h.bt];cases p==q<;>rfl
def F4 (s:Inn) (p:Int):Int :=
 cond (!inR p s.batters.length) 3 (cond (!GB s.batters s.striker s.other||atI s.batters (ix p) 0==1) 4 (cond (atI s.batters (ix p) 0==2) 5 0))
theorem Zj {N:Nat} {s18 s20:Bool} {p:Int} (h:s14.length≤1048576) (hN:2097152<N):Ek N [.int s0,.int s1,.int s2,.int s3,.int s4,.int s5,.int s6,.int s7,.int s8,.int s9,.int s10,.int s11,.int s12,.int s13,.rows s14,.int s15,.rows s16,.rows s17,.bool s18,.rows s19,.bool s20,.int s21,.int s22,.int s23,.rows s24,.int s25,.int s26,.int s27,.int p]=some [.int (F4 (⟨s0,s1,s2,s3,s4,s5,s6,s7,s8,s9,s10,s11,s12,s13,s14,s15,s16,s17,s18,s19,s20,s21,s22,s23,s24,s25,s26,s27⟩:Inn) p)]:=by
 show OV (std (Lz N) N) (xOf _)=_;generalize hres:(some [.int (F4 (⟨s0,s1,s2,s3,s4,s5,s6,s7,s8,s9,s10,s11,s12,s13,s14,s15,s16,s17,s18,s19,s20,s21,s22,s23,s24,s25,s26,s27⟩:Inn) p)]:Option (List PV))=RR;simp only [OV,RQ,Sd,lq9,std,xOf,PXb,PXc,PXn,PXm,Nat.reduceAdd,Int.reduceBEq,H3,VM h hN];subst hres;simp only [F4];cases hp:inR p s14.length<;>try rfl
 rw [Mr hp h];cases GB s14 s12 s13<;>try rfl
 simp only [PXb,PXc,PXn,PXm,Nat.reduceAdd,Int.reduceBEq,atI,ix]
theorem Zp {s:Inn} {p:Int} (h:(F4 s p==0)=true):inR p s.batters.length=true:=by
 unfold F4 at h;cases hp:inR p s.batters.length with
 | true=>rfl
 | false=>rw [hp] at h;cases h
def Fy (s:Inn) (p:Int):Inn×Int :=
 cond (F4 s p==0) ({ s with batters:=DX s.batters p 1,striker:=cond (s.striker==0) p s.striker,other:=cond (s.striker==0) s.other p },0) (s,F4 s p)
def DK (s:Inn) (p:Int):Inn×Int :=
 cond (F4 s p==0) ({ s with batters:=DX s.batters p 2,wickets:=IntKind.i64.wrap (s.wickets+1) },0) (s,F4 s p)
theorem im {N:Nat} {s18 s20:Bool} {p:Int} (h:Fit s14 s16 s17 s19 s24) (hN:2097152<N):ID N [.int s0,.int s1,.int s2,.int s3,.int s4,.int s5,.int s6,.int s7,.int s8,.int s9,.int s10,.int s11,.int s12,.int s13,.rows s14,.int s15,.rows s16,.rows s17,.bool s18,.rows s19,.bool s20,.int s21,.int s22,.int s23,.rows s24,.int s25,.int s26,.int s27,.int p]=some (Bk (Fy (⟨s0,s1,s2,s3,s4,s5,s6,s7,s8,s9,s10,s11,s12,s13,s14,s15,s16,s17,s18,s19,s20,s21,s22,s23,s24,s25,s26,s27⟩:Inn) p)):=by
 show LY (std (JD N) N) (xOf _)=_;generalize hres:(some (Bk (Fy (⟨s0,s1,s2,s3,s4,s5,s6,s7,s8,s9,s10,s11,s12,s13,s14,s15,s16,s17,s18,s19,s20,s21,s22,s23,s24,s25,s26,s27⟩:Inn) p)):Option (List PV))=RR;simp only [LY,SZ,Ss,lq9,std,xOf,PXb,PXc,PXn,PXm,Nat.reduceAdd,Int.reduceBEq,Hz h,Zj h.bt hN];subst hres;simp only [Fy];cases hm:F4 (⟨s0,s1,s2,s3,s4,s5,s6,s7,s8,s9,s10,s11,s12,s13,s14,s15,s16,s17,s18,s19,s20,s21,s22,s23,s24,s25,s26,s27⟩:Inn) p==0<;>try rfl
 rw [Mr (Zp hm) h.bt];cases s12==0<;>rfl
theorem eK {N:Nat} {s18 s20:Bool} {p:Int} (h:Fit s14 s16 s17 s19 s24) (hN:2097152<N):GA N [.int s0,.int s1,.int s2,.int s3,.int s4,.int s5,.int s6,.int s7,.int s8,.int s9,.int s10,.int s11,.int s12,.int s13,.rows s14,.int s15,.rows s16,.rows s17,.bool s18,.rows s19,.bool s20,.int s21,.int s22,.int s23,.rows s24,.int s25,.int s26,.int s27,.int p]=some (Bk (DK (⟨s0,s1,s2,s3,s4,s5,s6,s7,s8,s9,s10,s11,s12,s13,s14,s15,s16,s17,s18,s19,s20,s21,s22,s23,s24,s25,s26,s27⟩:Inn) p)):=by
 show I4 (std (Eb N) N) (xOf _)=_;generalize hres:(some (Bk (DK (⟨s0,s1,s2,s3,s4,s5,s6,s7,s8,s9,s10,s11,s12,s13,s14,s15,s16,s17,s18,s19,s20,s21,s22,s23,s24,s25,s26,s27⟩:Inn) p)):Option (List PV))=RR;simp only [I4,Ql,PD,RE,lq9,std,xOf,PXb,PXc,PXn,PXm,Nat.reduceAdd,Int.reduceBEq,Hz h,Zj h.bt hN,H3];subst hres;simp only [DK];cases hm:F4 (⟨s0,s1,s2,s3,s4,s5,s6,s7,s8,s9,s10,s11,s12,s13,s14,s15,s16,s17,s18,s19,s20,s21,s22,s23,s24,s25,s26,s27⟩:Inn) p==0<;>try rfl
 have hk:inR p s14.length=true:=Zp hm;rw [Mr hk h.bt,hk];rfl
def D2 (s:Inn) (p:Int) (hurt:Bool):Inn×Int :=
  cond (!inR p s.batters.length) (s,3) (cond (s.striker==0||s.other==0) (s,6) (cond (!(p==s.striker) && !(p==s.other)) (s,4)
    (cond (hurt&&((EY s.batters s.batters.length).length:Int)==0) (s,19)
      ({ s with striker:=cond (p==s.striker) 0 s.striker,other:=cond (p==s.striker) s.other 0,batters:=DX s.batters p (cond hurt 3 2),wickets:=cond hurt s.wickets (IntKind.i64.wrap (s.wickets+1)) },0))))
theorem ez {N:Nat} {s18 s20:Bool} {p:Int} {b:Bool} (h:Fit s14 s16 s17 s19 s24) (hN:2097152<N):Gl N [.int s0,.int s1,.int s2,.int s3,.int s4,.int s5,.int s6,.int s7,.int s8,.int s9,.int s10,.int s11,.int s12,.int s13,.rows s14,.int s15,.rows s16,.rows s17,.bool s18,.rows s19,.bool s20,.int s21,.int s22,.int s23,.rows s24,.int s25,.int s26,.int s27,.int p,.bool b]=some (Bk (D2 (⟨s0,s1,s2,s3,s4,s5,s6,s7,s8,s9,s10,s11,s12,s13,s14,s15,s16,s17,s18,s19,s20,s21,s22,s23,s24,s25,s26,s27⟩:Inn) p b)):=by
 show J4 (std (FQ N) N) (xOf _)=_;generalize hres:(some (Bk (D2 (⟨s0,s1,s2,s3,s4,s5,s6,s7,s8,s9,s10,s11,s12,s13,s14,s15,s16,s17,s18,s19,s20,s21,s22,s23,s24,s25,s26,s27⟩:Inn) p b)):Option (List PV))=RR;simp only [J4,Q9,Rd,Pc,lq9,std,xOf,PXb,PXc,PXn,PXm,Nat.reduceAdd,Int.reduceBEq,Hz h,H3,lK h.bt hN];subst hres;simp only [D2];cases hp:inR p s14.length<;>try rfl
 rw [Mr hp h.bt];cases s12==0<;>cases s13==0<;>try rfl
 cases p==s12<;>cases p==s13<;>cases b<;>try rfl
 all_goals (simp only [PXb,PXc,PXn,PXm,Nat.reduceAdd,Int.reduceBEq];cases ((EY s14 s14.length).length:Int)==0<;>rfl)
def btw (a b c:Int):Bool:=iLe b a&&iLe a c
theorem Eg (N:Nat) (a b c:Int):Az N [.int a,.int b,.int c]=some [.bool (btw a b c)]:=by
 show some [PV.bool (cond (iLe b a) (iLe a c) false)]=_;rw [gj];rfl
theorem M4 (N:Nat) (a b c:Int):DM N [.int a,.int b,.int c]=some [.bool (btw a b c)]:=by
 show some [PV.bool (cond (iLe b a) (iLe a c) false)]=_;rw [gj];rfl
def Ph (x1 x2 x3 x4 x5 x6 x7 x9 x10 x11 x12:Int):Bool:=btw x1 2 11&&btw x2 1 2&&btw x3 0 90&&btw x4 4 8&&btw x5 0 90&&btw x6 1 5&&btw x7 1 5&&btw x9 0 200&&btw x10 0 1000&&btw x11 0 9&&btw x12 0 11
theorem eI (N : Nat) (x0 : ByteArray) (x1 x2 x3 x4 x5 x6 x7 x9 x10 x11 x12 : Int) (x8 : Bool) (x13 : Rows) :
   HP N [.str x0,.int x1,.int x2,.int x3,.int x4,.int x5,.int x6,.int x7,.bool x8,.int x9,.int x10,.int x11,.int x12,.rows x13]=some [.bool (Ph x1 x2 x3 x4 x5 x6 x7 x9 x10 x11 x12)]:=by
  show KS (std (L9 N) N) (xOf _)=_;have e:∀ ls,L9 N 56 [] ls=DM N ls:=fun ls=>rfl
  simp only [KS,lq9,std,xOf,e,M4,PXb,PXc,PXn,AG,Ph]
def bB (s:ByteArray) (i:Nat):Bool := !(iLe 65 (QW s i)&&iLe (QW s i) 90)&&((i:Int)==0||((!(QW s i==95) && !(QW s i==45))&&(iLt (QW s i) 48||iLt 57 (QW s i))))
def aV (s:ByteArray):Bool := !CO (bB s) s.size 0&&(iLe 1 s.size&&iLe s.size 16)
theorem AA9 (s:ByteArray):(DD s).length=s.size:=by
 simp only [DD,List.length_map,Array.length_toList];rfl
theorem ABl (s:ByteArray) (i:Nat) (h:i<s.size):pvI (AF (DD s) i 0)=QW s i:=by
 unfold AF AB AA DD QW;simp only [zzk,List.getElem?_map];have:i<s.data.toList.length:=by simpa using h
 rw [zzn this];simp [zzn this]
theorem oW (N:Nat) (s:ByteArray) (hN:s.size<N) (hs:s.size≤1048576):MS N [.str s]=some [.bool (aV s)]:=by
 show QT (std (Y0 N) N) (xOf _)=_;simp only [QT,lq9,std,xOf,AA9,PXb,PXc,PXn,AG];refine AZ (M6 (len:=s.size) (bB s) [.bool false] ?_ ?_ N hN) ?_
 ·intro self;simp only [PXb,PXc,PXn,AG,A3]
 ·intro i self hi;simp only [PXb,PXc,PXn,AG,Int.toNat_natCast,ABl s i hi,BO (show i≤1099511627776 by omega),Ay hi,AN hi,bB]
 ·unfold aV;cases CO (bB s) s.size 0<;>rfl
theorem zQ {i len:Nat} (h:i<len) (hl:len≤1099511627776):(!iLt 0 (i:Int)||iIn (IntKind.i64.wrap ((i:Int) - 1)) (len:Int))=true:=by
 rw [A9 (by omega) (by omega)];simp only [iLt,iIn,Bool.or_eq_true,Bool.not_eq_true',decide_eq_false_iff_not,decide_eq_true_eq];omega
def yb (L:Rows) (ov:Int) (i:Nat):Bool:=(iLt (atI L i 0) 1||iLt (atI L i 1) (atI L i 0)||iLt ov (atI L i 1)) || !btw (atI L i 2) 0 11
def vS (L:Rows) (i:Nat):Bool:=iLt 0 (i:Int)&&iLe (atI L i 0) (pvI (AF L (IntKind.i64.wrap ((i:Int) - 1)).toNat 1))
def sX (L:Rows) (ov:Int) (i:Nat):Option (List PV):=cond (yb L ov i) (some [.int 2]) (cond (vS L i) (some [.int 8]) none)
def vJ:Option (List PV)→Int
 | none=>0
 | some r=>pvI (AA r 0)
def mY (L:Rows) (ov:Int):Int:=cond (iLt 8 (L.length:Int)) 9 (vJ (Bd (sX L ov) L.length 0))
theorem gO (o:Option (List PV)):cond (pvI (AA (SY o) 0)==((0:Nat):Int)) (some [PV.int (pvI (AA (SY o) 1))]) (some [PV.int 0])=some [PV.int (vJ o)]:=by
 cases o<;>rfl
theorem gr (N : Nat) (x0 : ByteArray) (x1 x2 x3 x4 x5 x6 x7 x9 x10 x11 x12 : Int) (x8 : Bool) (L : Rows) (hN : 2097152 < N) :
   Ib N [.str x0,.int x1,.int x2,.int x3,.int x4,.int x5,.int x6,.int x7,.bool x8,.int x9,.int x10,.int x11,.int x12,.rows L]=some [.int (mY L x3)]:=by
  show Ll (std (M7 N) N) (xOf _)=_;have e:∀ ls,M7 N 56 [] ls=DM N ls:=fun ls=>rfl
  simp only [Ll,lq9,std,xOf,e,M4,PXb,PXc,PXn,AG,mY];cases h8:iLt 8 (L.length:Int) with
  | true=>rfl
  | false =>
    have hl:L.length≤8:=by simp [iLt] at h8;omega
    simp only [cond_false];refine AZ (DN (len:=L.length) (sX L x3) ?_ ?_ L.length 0 N (by omega) (by omega)) ?_
    · intro self;simp only [PXb,PXc,PXn,AG,A3]
    · intro i self hi;simp only [PXb,PXc,PXn,AG,Int.toNat_natCast,BO (show i≤1099511627776 by omega),Ay hi,AN hi,M4,e,zQ hi (by omega)];simp only [sX,yb,vS,atI];cases (iLt (pvI (AF L i 0)) 1||iLt (pvI (AF L i 1)) (pvI (AF L i 0))||iLt x3 (pvI (AF L i 1)) || !btw (pvI (AF L i 2)) 0 11) <;>
      cases (iLt 0 (i:Int)&&iLe (pvI (AF L i 0)) (pvI (AF L (IntKind.i64.wrap ((i:Int) - 1)).toNat 1)))<;>rfl
    · exact gO _
def NW (x0:ByteArray) (x1 x2 x3 x4 x5 x6 x7 x9 x10 x11 x12:Int) (L:Rows):Int :=
  cond (!aV x0) 5 (cond (!Ph x1 x2 x3 x4 x5 x6 x7 x9 x10 x11 x12) 2
    (cond ((!(x10==0)&&x2==1)||((!(x5==0)||iLt 0 (L.length:Int))&&x3==0)) 1
      (cond (!(x5==0)&&iLt (IntKind.i64.wrap (x5 * x1)) x3) 13 (mY L x3))))
theorem XC (N : Nat) (x0 : ByteArray) (x1 x2 x3 x4 x5 x6 x7 x9 x10 x11 x12 : Int) (x8 : Bool) (L : Rows) (hN : 2097152 < N) (hs : x0.size ≤ 1048576) :
   Ab N [.str x0,.int x1,.int x2,.int x3,.int x4,.int x5,.int x6,.int x7,.bool x8,.int x9,.int x10,.int x11,.int x12,.rows L]=some [.int (NW x0 x1 x2 x3 x4 x5 x6 x7 x9 x10 x11 x12 L)]:=by
  show Mj (std (G6 N) N) (xOf _)=_;have e:∀ ls,G6 N 41 [] ls=MS N ls:=fun ls=>rfl
  have e2:∀ ls,G6 N 42 [] ls=HP N ls:=fun ls=>rfl
  have e3:∀ ls,G6 N 43 [] ls=Ib N ls:=fun ls=>rfl
  simp only [Mj,lq9,std,xOf,e,e2,e3,oW N x0 (by omega) hs,eI,gr N _ _ _ _ _ _ _ _ _ _ _ _ _ _ hN,PXb,PXc,AG,NW];cases aV x0<;>cases Ph x1 x2 x3 x4 x5 x6 x7 x9 x10 x11 x12<;>try rfl
  simp only [PXb,PXc,AG,Bool.not_true];cases (!(x10==0)&&x2==1)<;>cases ((!(x5==0)||iLt 0 (L.length:Int))&&x3==0)<;>try rfl
  cases (!(x5==0)&&iLt (IntKind.i64.wrap (x5 * x1)) x3)<;>rfl
theorem Y5 (N:Nat) (L:Rows) (v:Int) (hN:L.length<N) (hl:L.length≤2097152):Ea N [.rows L,.int v]=some [.int (Rl (fun j=>v==atI L j 0) L.length)]:=by
 show G4 (std (OW N) N) (xOf _)=_;simp only [G4,lq9,std,xOf,PXb,PXc,PXn,AG];refine AZ (DN (len:=L.length) (Hf fun j=>v==atI L j 0) ?_ ?_ L.length 0 N (by omega) (by omega)) ?_
 ·intro self;simp only [PXb,PXc,PXn,AG,A3]
 ·intro i self hi;simp only [PXb,PXc,PXn,AG,BO (show i≤1099511627776 by omega),Ay hi,AN hi,Hf,C9];cases v==atI L i 0<;>rfl
 ·unfold Rl;cases Bd (Hf fun j=>v==atI L j 0) L.length 0<;>rfl
def L1 (L:Rows) (k:Nat) (v:Int):Bool:=CO (fun j=>v==atI L j 0) k 0
theorem MO (N:Nat) (L:Rows) (v:Int) (hN:L.length<N) (hl:L.length≤2097152):A4 N [.rows L,.int v]=some [.bool (L1 L L.length v)]:=by
 show E3 (std (GY N) N) (xOf _)=_;have e:∀ ls,GY N 114 [] ls=Ea N ls:=fun ls=>rfl
 simp only [E3,lq9,std,xOf,PXb,PXc,PXn,AG,e,Y5 N L v hN hl,LQ,L1]
theorem xG (L:Rows) (i:Nat) (v:Int) (h:i≤L.length):L1 (L.take i) (L.take i).length v=L1 L i v:=by
 rw [List.length_take,Nat.min_eq_left h];exact iD i 0 (fun j _ hj=>by rw [wS (by omega)])
def Sx (L:Rows) (n:Int) (i:Nat):Bool := !btw (atI L i 0) 1 n||L1 L i (atI L i 0)
def MH (L:Rows) (n:Int):Bool := !CO (Sx L n) L.length 0
theorem N6 (N:Nat) (L:Rows) (n:Int) (hN:L.length<N) (hl:L.length≤2097152):EM N [.rows L,.int n]=some [.bool (MH L n)]:=by
 show GG (std (E1 N) N) (xOf _)=_;have e:∀ ls,E1 N 90 [] ls=Az N ls:=fun ls=>rfl
 have e2:∀ ls,E1 N 105 [] ls=A4 N ls:=fun ls=>rfl
 simp only [GG,lq9,std,xOf,PXb,PXc,PXn,AG];refine AZ (M6 (len:=L.length) (Sx L n) [.bool false] ?_ ?_ N hN) ?_
 ·intro self;simp only [PXb,PXc,PXn,AG,A3]
 ·intro i self hi;have h1:(L.take i).length≤L.length:=List.length_take_le' i L;simp only [PXb,PXc,PXn,AG,BO (show i≤1099511627776 by omega),Ay hi,AN hi,e,e2,Eg,ABq (Nat.le_of_lt hi),Int.toNat_zero,List.drop_zero,MO N (L.take i) _ (by omega) (by omega),xG L i _ (by omega),C9,Sx];cases btw (atI L i 0) 1 n<;>cases L1 L i (atI L i 0)<;>rfl
 ·unfold MH;cases CO (Sx L n) L.length 0<;>rfl
theorem cE (N:Nat) (v:Int):Df N [.int v]=some [.bool (!(v==0))]:=rfl
def lsI (L14 L16 L17 L19 L24:Rows) (b18 b20:Bool) (x0 x1 x2 x3 x4 x5 x6 x7 x8 x9 x10 x11 x12 x13 x15 x21 x22 x23 x25 x26 x27:Int):List PV :=
 [.int x0,.int x1,.int x2,.int x3,.int x4,.int x5,.int x6,.int x7,.int x8,.int x9,.int x10,.int x11,.int x12,.int x13,.rows L14,.int x15,.rows L16,.rows L17,.bool b18,.rows L19,.bool b20,.int x21,.int x22,.int x23,.rows L24,.int x25,.int x26,.int x27]
section
variable (N:Nat) (L14 L16 L17 L19 L24:Rows) (b18 b20:Bool) (x0 x1 x2 x3 x4 x5 x6 x7 x8 x9 x10 x11 x12 x13 x15 x21 x22 x23 x25 x26 x27:Int)
theorem gA (hN:L14.length<N) (hl:L14.length≤2097152):Ck N (lsI L14 L16 L17 L19 L24 b18 b20 x0 x1 x2 x3 x4 x5 x6 x7 x8 x9 x10 x11 x12 x13 x15 x21 x22 x23 x25 x26 x27)=some [.bool (Ce L14)]:=by
 show Fi (std (Fv N) N) (xOf (lsI ..))=_;have e:∀ ls,Fv N 160 [] ls=Df N ls:=fun ls=>rfl
 simp only [Fi,lq9,std,xOf,lsI,PXb,PXc,PXn,AG];rw [show Ce L14=iLe 0 (Rl (fun i => !(atI L14 i 0==0)) L14.length) from (LQ _ _).symm];rw [Option.bind_assoc];refine AZ (DN (len:=L14.length) (Hf fun i => !(atI L14 i 0==0)) ?_ ?_ L14.length 0 N (by omega) (by omega)) ?_
 ·intro self;simp only [PXb,PXc,PXn,AG,A3]
 ·intro i self hi;simp only [PXb,PXc,PXn,AG,BO (show i≤1099511627776 by omega),Ay hi,AN hi,Hf,C9,e,cE];cases atI L14 i 0==0<;>rfl
 ·unfold Rl;cases Bd (Hf fun i => !(atI L14 i 0==0)) L14.length 0<;>rfl
theorem ef (hN:L14.length<N) (hl:L14.length≤2097152):Bn N (lsI L14 L16 L17 L19 L24 b18 b20 x0 x1 x2 x3 x4 x5 x6 x7 x8 x9 x10 x11 x12 x13 x15 x21 x22 x23 x25 x26 x27)=some [.bool (GB L14 x12 x13)]:=by
 show E0 (std (FN N) N) (xOf (lsI ..))=_;have e:∀ ls,FN N 141 [] ls=Ck N ls:=fun ls=>rfl
 have:=gA N L14 L16 L17 L19 L24 b18 b20 x0 x1 x2 x3 x4 x5 x6 x7 x8 x9 x10 x11 x12 x13 x15 x21 x22 x23 x25 x26 x27 hN hl;simp only [lsI] at this;simp only [E0,lq9,std,xOf,lsI,PXb,PXc,PXn,AG,e,this,GB]
theorem iT (hN:L14.length<N) (hl:L14.length≤2097152):Dd N (lsI L14 L16 L17 L19 L24 b18 b20 x0 x1 x2 x3 x4 x5 x6 x7 x8 x9 x10 x11 x12 x13 x15 x21 x22 x23 x25 x26 x27)=some [.rows (EY L14 L14.length)]:=by
 show Ga (std (Ob N) N) (xOf (lsI ..))=_;simp only [Ga,lq9,std,xOf,lsI,PXb,PXc,PXn,AG];refine AZ (CA (len:=L14.length) (fun i=>[.rows (EY L14 i),.int (i:Int)]) [.rows (EY L14 L14.length)] ?_ ?_ N hN) rfl
 ·intro self;simp only [PXb,PXc,PXn,AG,A3]
 ·intro i self hi;have h2:(EY L14 i++[[PV.int ((i:Int)+1)]]).length≤4194304:=by have:=eO L14 i;simp;omega
  simp only [PXb,PXc,PXn,AG,BO (show i≤1099511627776 by omega),Ay hi,AN hi,C9,EY,Gu h2 (show 8≤4096 by omega)];cases (atI L14 i 0==0||atI L14 i 0==3)<;>rfl
end
theorem YM (N:Nat) (v:Int):EI N [.int v]=some [.bool (!btw v 0 1000000000)]:=by
 show GP (std (Hw N) N) (xOf _)=_;have e:∀ ls,Hw N 90 [] ls=Az N ls:=fun ls=>rfl
 simp only [GP,lq9,std,xOf,PXb,PXc,PXn,AG,e,Eg]
def pIs (L:Rows) (v:Int) (i:Nat):Bool:=atI L i 0==v
def UF (s n:Int) (i:Nat):Bool:=s==(i:Int)+1||n==(i:Int)+1
def SO (L:Rows) (s n:Int) (i:Nat):Bool:=iLt 3 (atI L i 0)||(pIs L 1 i && !UF s n i)
def VY (L:Rows) (s n:Int) (i:Nat):Bool:=iLt 3 (atI L i 0) || !(pIs L 1 i==UF s n i)
def Fr (L:Rows):Int:=Bq (pIs L 2) L.length
def ins (L:Rows):Int:=Bq (pIs L 1) L.length
def two (s n:Int):Int:=cond (!(n==0)) (IntKind.i64.wrap (cond (!(s==0)) (IntKind.i64.wrap (0+1)) 0+1)) (cond (!(s==0)) (IntKind.i64.wrap (0+1)) 0)
def mL (L:Rows) (s n wk k:Int):Bool :=
 !CO (SO L s n) L.length 0&&((btw s 0 k&&btw n 0 k)&&(!(s==n && !(s==0))&&((two s n==ins L&&(!Ce L||iLt 0 (two s n)))&&Fr L==wk)))
def U0 (L:Rows) (s n wk:Int):Bool :=
 !CO (VY L s n) L.length 0&&(!((Ce L&&iLt (ins L) 1)||(!(s==0)&&s==n))&&wk==Fr L)
def tE (L:Rows):Nat→Bool
 | 0=>false
 | i+1=>tE L i || !(atI L i 0==0)
theorem ry (L:Rows):∀ i,tE L i=CO (fun j => !(atI L j 0==0)) i 0
 | 0=>rfl
 | i+1=>by rw [Zc,Nat.zero_add,← ry L i];rfl
section
variable (N:Nat) (L14 L16 L17 L19 L24:Rows) (b18 b20:Bool) (x0 x1 x2 x3 x4 x5 x6 x7 x8 x9 x10 x11 x12 x13 x15 x21 x22 x23 x25 x26 x27:Int)
theorem ZZ (k:Int) (hN:L14.length<N) (hl:L14.length≤2097152):FM N (lsI L14 L16 L17 L19 L24 b18 b20 x0 x1 x2 x3 x4 x5 x6 x7 x8 x9 x10 x11 x12 x13 x15 x21 x22 x23 x25 x26 x27++[.int k])=some [.bool (mL L14 x12 x13 x4 k)]:=by
  simp only [lsI,List.cons_append,List.nil_append];show Hm (std (Jz N) N) (xOf _)=_;have e:∀ ls,Jz N 90 [] ls=Az N ls:=fun ls=>rfl
  simp only [Hm,lq9,std,xOf,lsI,PXb,PXc,PXn,AG];refine AZ (nQ (len:=L14.length) (fun i=>[.int (Bq (pIs L14 2) i),.int (Bq (pIs L14 1) i),.bool (tE L14 i),.int (i:Int)])
    (SO L14 x12 x13) [.int 0,.bool false] [.int 1,.int (Fr L14),.int (ins L14),.bool (Ce L14)] ?_ ?_ N hN) ?_
  · intro self;simp only [PXb,PXc,PXn,AG,A3,ry];rfl
  · intro i self hi;simp only [PXb,PXc,AG,BO (show i≤1099511627776 by omega),Ay hi,AN hi,C9,oC (pIs L14 2) (show i≤1099511627776 by omega),oC (pIs L14 1) (show i≤1099511627776 by omega)];unfold SO pIs UF;simp only [Bq,tE];cases h3:iLt 3 (atI L14 i 0) with
    | true=>rfl
    | false =>
      cases h1:atI L14 i 0==1 with
      | true =>
        rw [zS h1];cases x12==(i:Int)+1<;>cases x13==(i:Int)+1<;>rfl
      | false=>cases h2:atI L14 i 0==2<;>rfl
  · unfold mL;simp only [e,Eg];cases CO (SO L14 x12 x13) L14.length 0 with
    | true=>rfl
    | false =>
      simp only [PXb,PXc,PXn,AG];unfold two;cases btw x12 0 k<;>cases btw x13 0 k<;>try rfl
      cases x12==0<;>cases x13==0<;>cases x12==x13<;>try rfl
end
theorem rC (s n:Int):two s n=cond (!(s==0)) 1 0+cond (!(n==0)) 1 0:=by
 unfold two;cases s==0<;>cases n==0<;>rfl
theorem rN {s n:Int} {len:Nat} (h1:0≤s∧s≤(len:Int)) (h2:0≤n∧n≤(len:Int)) (hd:(s==n && !(s==0))=false):two s n=Bq (UF s n) len:=by
 have hs:iLe s (len:Int)=true:=by simp only [iLe,decide_eq_true_eq];omega
 have hn:iLe n (len:Int)=true:=by simp only [iLe,decide_eq_true_eq];omega
 unfold UF;rw [vR (p:=fun i=>s==(i:Int)+1) (q:=fun i=>n==(i:Int)+1) len (fun j _ hp=>by
  have e1:s=(j:Int)+1:=by simpa using hp
  show (n==(j:Int)+1)=false;rw [beq_eq_false_iff_ne];intro e2;have e3:(s==n)=true:=by rw [beq_iff_eq];omega
  have e4:(s==0)=false:=by rw [beq_eq_false_iff_ne];omega
  rw [e3,e4] at hd;cases hd),oH s len h1.1,oH n len h2.1,hs,hn,Bool.and_true,Bool.and_true,rC]
theorem zR (x:Int):iLt 0 x = !iLt x 1:=by
 unfold iLt;rw [Bool.eq_iff_iff];simp only [decide_eq_true_eq,Bool.not_eq_true',decide_eq_false_iff_not];omega
theorem yD {L : Rows} {s n : Int} (h1 : 0 ≤ s ∧ s ≤ (L.length : Int)) (h2 : 0 ≤ n ∧ n ≤ (L.length : Int)) (hd : (s == n && !(s == 0)) = false) :
    (!CO (SO L s n) L.length 0&&two s n==ins L) = !CO (VY L s n) L.length 0:=by
  have h2c:=rN h1 h2 hd;rw [Bool.eq_iff_iff];simp only [zzj,Bool.not_eq_true',Fa,beq_iff_eq];constructor
  · intro ⟨ha,hb⟩ j _ hj;have hm:∀ j,j<L.length→pIs L 1 j=true→UF s n j=true:=fun j hj hp=>by
      have:=ha j (Nat.zero_le _) (by omega);unfold SO at this;rw [hp] at this;simp only [Bool.or_eq_false_iff,Bool.true_and,Bool.not_eq_false'] at this;exact this.2
    have he:=wD L.length hm (by rw [← h2c,hb];rfl) j (by omega);have:=ha j (Nat.zero_le _) hj;unfold SO at this;unfold VY;rw [Bool.or_eq_false_iff] at this ⊢;exact ⟨this.1,by rw [he];simp⟩
  · intro ha;have hm:∀ j,j<L.length→pIs L 1 j=UF s n j:=fun j hj=>by
      have:=ha j (Nat.zero_le _) (by omega);unfold VY at this;rw [Bool.or_eq_false_iff] at this;simpa using this.2
    refine ⟨fun j h0 hj=>?_,?_⟩
    · have:=ha j h0 hj;unfold VY at this;unfold SO;rw [Bool.or_eq_false_iff] at this ⊢;refine ⟨this.1,?_⟩;rw [hm j (by omega)];cases UF s n j<;>rfl
    · rw [h2c];exact (NV L.length hm).symm
theorem AAt (L:Rows) (s n wk k:Int) (hk:(L.length:Int)=k):mL L s n wk k=(btw s 0 k&&btw n 0 k&&U0 L s n wk):=by
 subst hk;unfold mL U0;cases hs:btw s 0 (L.length:Int) with
 | false=>simp only [Bool.false_and,Bool.and_false]
 | true =>
  cases hn:btw n 0 (L.length:Int) with
  | false=>simp only [Bool.false_and,Bool.and_false]
  | true =>
   have h1:0≤s∧s≤(L.length:Int):=by simpa [btw,iLe] using hs
   have h2:0≤n∧n≤(L.length:Int):=by simpa [btw,iLe] using hn
   simp only [Bool.true_and];cases hd:(s==n && !(s==0)) with
   | true =>
    have:(!(s==0)&&s==n)=true:=by rw [Bool.and_comm];exact hd
    rw [this];simp only [Bool.or_true,Bool.not_true,Bool.false_and,Bool.and_false]
   | false =>
    have:(!(s==0)&&s==n)=false:=by rw [Bool.and_comm];exact hd
    rw [this,← yD h1 h2 hd];simp only [Bool.or_false,Bool.not_false,Bool.true_and];rw [show (wk==Fr L)=(Fr L==wk) from BEq.comm];cases hA:CO (SO L s n) L.length 0 with
    | true=>rfl
    | false =>
     cases hB:two s n==ins L with
     | false=>rfl
     | true =>
      rw [beq_iff_eq.1 hB,zR];simp only [Bool.true_and,Bool.not_false,Bool.not_and]
def Kw (v:Int):Bool := !btw v 0 1000000000
def pV (x1 x3 x5 x6 x7 x8 x9 x10 x21 x23 x25 x26:Int):Rows:=[[.int x1],[.int x3],[.int x5],[.int x6],[.int x7],[.int x8],[.int x9],[.int x10],[.int x21],[.int x23],[.int x25],[.int x26]]
section
variable (N:Nat) (L14 L16 L17 L19 L24:Rows) (b18 b20:Bool) (x0 x1 x2 x3 x4 x5 x6 x7 x8 x9 x10 x11 x12 x13 x15 x21 x22 x23 x25 x26 x27:Int)
theorem aD (hN:2097152<N) (hl:L19.length≤1048576):FK N (lsI L14 L16 L17 L19 L24 b18 b20 x0 x1 x2 x3 x4 x5 x6 x7 x8 x9 x10 x11 x12 x13 x15 x21 x22 x23 x25 x26 x27)=some [.bool (!(MC Kw (pV x1 x3 x5 x6 x7 x8 x9 x10 x21 x23 x25 x26)||MC Kw L19))]:=by
 show Hl (std (Jx N) N) (xOf (lsI ..))=_;have e:∀ ls,Jx N 107 [] ls=EI N ls:=fun ls=>rfl
 rw [← nA];simp only [Hl,lq9,std,xOf,lsI,PXb,PXc,PXn,AG,pV];generalize hM:([PV.int x1]::[PV.int x3]::[PV.int x5]::[PV.int x6]::[PV.int x7]::[PV.int x8]::[PV.int x9]::[PV.int x10]::[PV.int x21]::[PV.int x23]::[PV.int x25]::[PV.int x26]::L19:Rows)=M;have hM2:M.length≤2097152:=by rw [← hM];simp only [List.length_cons];omega
 rw [Gu (n:=M.length) (by omega) (by omega)];simp only [PXb,PXc,PXn,AG];rw [Option.bind_assoc];refine AZ (DN (len:=M.length) (Hf fun i=>Kw (atI M i 0)) ?_ ?_ M.length 0 N (by omega) (by omega)) ?_
 ·intro self;simp only [PXb,PXc,PXn,AG,A3]
 ·intro i self hi;simp only [PXb,PXc,PXn,AG,BO (show i≤1099511627776 by omega),Ay hi,AN hi,Hf,C9,e,YM,Kw];cases btw (atI M i 0) 0 1000000000<;>rfl
 ·unfold MC;rw [← LQ];unfold Rl;cases Bd (Hf fun i=>Kw (atI M i 0)) M.length 0<;>rfl
end
def jj (a3 x2:Int):Bool:=cond (a3==0) (x2==0) (btw x2 1 a3)
def WI (s:ByteArray) (a1 a2 a3 a4 a5 a6 a7 a9 a10 a11 a12:Int) (La L14 L16 L17 L19 L24:Rows) (x0 x1 x2 x3 x4 x5 x6 x7 x8 x9 x10 x11 x12 x13 x15 x21 x22 x23 x25 x26 x27:Int):Bool :=
  NW s a1 a2 a3 a4 a5 a6 a7 a9 a10 a11 a12 La==0&&(btw x0 1 2&&((L14.length:Int)==a1&&((L19.length:Int)==a1&&((L24.length:Int)==a1&&(!iLt 5 x27 &&
    (btw x12 0 a1&&(btw x13 0 a1&&(U0 L14 x12 x13 x4&&(btw x15 0 a1&&(btw x22 0 a1&&(MH L16 a1&&(MH L17 a1&&(jj a3 x2&&(btw x11 0 (IntKind.i64.wrap (a4 - 1)) &&
      (!MC Kw (pV x1 x3 x5 x6 x7 x8 x9 x10 x21 x23 x25 x26) && !MC Kw L19)))))))))))))))
theorem z8 {a:Int} (h:0≤a):iLt 0 a = !(a==0):=by
 unfold iLt;rw [Bool.eq_iff_iff];simp only [decide_eq_true_eq,Bool.not_eq_true',beq_eq_false_iff_ne];omega
section
variable (N:Nat) (s:ByteArray) (a1 a2 a3 a4 a5 a6 a7 a9 a10 a11 a12:Int) (a8:Bool) (La:Rows) (L14 L16 L17 L19 L24:Rows) (b18 b20:Bool) (x0 x1 x2 x3 x4 x5 x6 x7 x8 x9 x10 x11 x12 x13 x15 x21 x22 x23 x25 x26 x27:Int)
theorem UE (hN:2097152<N) (hs:s.size≤1048576) (h14:L14.length≤1048576) (h16:L16.length≤1048576) (h17:L17.length≤1048576) (h19:L19.length≤1048576):Bm N ([.str s,.int a1,.int a2,.int a3,.int a4,.int a5,.int a6,.int a7,.bool a8,.int a9,.int a10,.int a11,.int a12,.rows La]++lsI L14 L16 L17 L19 L24 b18 b20 x0 x1 x2 x3 x4 x5 x6 x7 x8 x9 x10 x11 x12 x13 x15 x21 x22 x23 x25 x26 x27)=some [.bool (WI s a1 a2 a3 a4 a5 a6 a7 a9 a10 a11 a12 La L14 L16 L17 L19 L24 x0 x1 x2 x3 x4 x5 x6 x7 x8 x9 x10 x11 x12 x13 x15 x21 x22 x23 x25 x26 x27)]:=by
 simp only [lsI,List.cons_append,List.nil_append];show J6 (std (DI N) N) (xOf _)=_;have e1:∀ ls,DI N 32 [] ls=Ab N ls:=fun ls=>rfl
 have e2:∀ ls,DI N 90 [] ls=Az N ls:=fun ls=>rfl
 have e3:∀ ls,DI N 91 [] ls=FM N ls:=fun ls=>rfl
 have e4:∀ ls,DI N 92 [] ls=EM N ls:=fun ls=>rfl
 have e5:∀ ls,DI N 93 [] ls=FK N ls:=fun ls=>rfl
 have l54:=ZZ N L14 L16 L17 L19 L24 b18 b20 x0 x1 x2 x3 x4 x5 x6 x7 x8 x9 x10 x11 x12 x13 x15 x21 x22 x23 x25 x26 x27 a1 (by omega) (by omega);have l56:=aD N L14 L16 L17 L19 L24 b18 b20 x0 x1 x2 x3 x4 x5 x6 x7 x8 x9 x10 x11 x12 x13 x15 x21 x22 x23 x25 x26 x27 (by omega) (by omega);simp only [lsI,List.cons_append,List.nil_append] at l54 l56;simp only [J6,lq9,std,xOf,PXb,PXc,PXn,AG,e1,e2,e3,e4,e5,XC N s _ _ _ _ _ _ _ _ _ _ _ _ _ hN hs,Eg,l54,l56,N6 N L16 _ (by omega) (by omega),N6 N L17 _ (by omega) (by omega)];unfold WI jj;cases hc:NW s a1 a2 a3 a4 a5 a6 a7 a9 a10 a11 a12 La==0<;>try rfl
 cases btw x0 1 2<;>try rfl
 cases h14:(L14.length:Int)==a1<;>try rfl
 cases (L19.length:Int)==a1<;>try rfl
 cases (L24.length:Int)==a1<;>try rfl
 cases iLt 5 x27<;>try rfl
 rw [AAt L14 x12 x13 x4 a1 (beq_iff_eq.1 h14)];cases btw x12 0 a1<;>try rfl
 cases btw x13 0 a1<;>try rfl
 cases U0 L14 x12 x13 x4<;>try rfl
 cases btw x15 0 a1<;>try rfl
 cases btw x22 0 a1<;>try rfl
 cases MH L16 a1<;>try rfl
 cases MH L17 a1<;>try rfl
 cases a3==0<;>cases x2==0<;>cases btw x2 1 a3<;>rfl
end
def wg (v:Bool) (L:Rows) (s n:Int) (x1 x2 x3 x10:Int):Int :=
 cond (!v) 0 (cond (iLt 0 x1&&iLe x1 x3) 3 (cond (GB L s n&&((EY L L.length).length:Int)==0) 1 (cond (iLt 0 x2&&iLe x2 x10) 2 0)))
theorem ABr {c:Int} {n:Nat} (hc:0≤c):iRg 0 (cond (iLt c (n:Int)) c (n:Int)) (n:Int)=true:=by
 cases h:iLt c (n:Int) with
 | true=>simp only [iLt,decide_eq_true_eq] at h;simp only [cond_true,iRg,decide_eq_true_eq];omega
 | false=>simp only [cond_false,iRg,decide_eq_true_eq];omega
def cut (L:Rows) (c:Int):Rows:=(L.take (cond (iLt c (L.length:Int)) c (L.length:Int)).toNat).drop (0:Int).toNat
section
variable (N:Nat) (s:ByteArray) (a1 a2 a3 a4 a5 a6 a7 a9 a10 a11 a12:Int) (a8:Bool) (La:Rows) (L14 L16 L17 L19 L24:Rows) (b18 b20:Bool) (x0 x1 x2 x3 x4 x5 x6 x7 x8 x9 x10 x11 x12 x13 x15 x21 x22 x23 x25 x26 x27:Int)
theorem bn (hN : 2097152 < N) (hs : s.size ≤ 1048576) (h14 : L14.length ≤ 1048576) (h16 : L16.length ≤ 1048576) (h17 : L17.length ≤ 1048576) (h19 : L19.length ≤ 1048576) : EN N ([.str s, .int a1, .int a2, .int a3, .int a4, .int a5, .int a6, .int a7, .bool a8, .int a9, .int a10, .int a11, .int a12, .rows La] ++ lsI L14 L16 L17 L19 L24 b18 b20 x0 x1 x2 x3 x4 x5 x6 x7 x8 x9 x10 x11 x12 x13 x15 x21 x22 x23 x25 x26 x27) =
    some [.int (wg (WI s a1 a2 a3 a4 a5 a6 a7 a9 a10 a11 a12 La L14 L16 L17 L19 L24 x0 x1 x2 x3 x4 x5 x6 x7 x8 x9 x10 x11 x12 x13 x15 x21 x22 x23 x25 x26 x27) L14 x12 x13 x1 x2 x3 x10)]:=by
  simp only [lsI,List.cons_append,List.nil_append];show I2 (std (Eh N) N) (xOf _)=_;have e1:∀ ls,Eh N 72 [] ls=Bm N ls:=fun ls=>rfl
  have e2:∀ ls,Eh N 133 [] ls=Bn N ls:=fun ls=>rfl
  have e3:∀ ls,Eh N 134 [] ls=Dd N ls:=fun ls=>rfl
  have l16:=UE N s a1 a2 a3 a4 a5 a6 a7 a9 a10 a11 a12 a8 La L14 L16 L17 L19 L24 b18 b20 x0 x1 x2 x3 x4 x5 x6 x7 x8 x9 x10 x11 x12 x13 x15 x21 x22 x23 x25 x26 x27 hN hs h14 h16 h17 h19;have l61:=ef N L14 L16 L17 L19 L24 b18 b20 x0 x1 x2 x3 x4 x5 x6 x7 x8 x9 x10 x11 x12 x13 x15 x21 x22 x23 x25 x26 x27 (by omega) (by omega);have l62:=iT N L14 L16 L17 L19 L24 b18 b20 x0 x1 x2 x3 x4 x5 x6 x7 x8 x9 x10 x11 x12 x13 x15 x21 x22 x23 x25 x26 x27 (by omega) (by omega);simp only [lsI,List.cons_append,List.nil_append] at l16 l61 l62;simp only [I2,lq9,std,xOf,PXb,PXc,PXn,AG,e1,e2,e3,l16,l61,l62,wg];cases WI s a1 a2 a3 a4 a5 a6 a7 a9 a10 a11 a12 La L14 L16 L17 L19 L24 x0 x1 x2 x3 x4 x5 x6 x7 x8 x9 x10 x11 x12 x13 x15 x21 x22 x23 x25 x26 x27<;>try rfl
  cases (iLt 0 x1&&iLe x1 x3)<;>try rfl
  cases GB L14 x12 x13
  · cases (iLt 0 x2&&iLe x2 x10)<;>rfl
  · simp only [PXb,PXc,PXn,AG];cases ((EY L14 L14.length).length:Int)==0<;>cases (iLt 0 x2&&iLe x2 x10)<;>rfl
end
section
variable (N:Nat) (s:ByteArray) (a1 a2 a3 a4 a5 a6 a7 a9 a10 a11 a12:Int) (a8:Bool) (La:Rows) (L14 L16 L17 L19 L24:Rows) (b18 b20:Bool) (x0 x1 x2 x3 x4 x5 x6 x7 x8 x9 x10 x11 x12 x13 x15 x21 x22 x23 x25 x26 x27:Int)
def DG (a4 x10 x11:Int):Int:=IntKind.i64.wrap (IntKind.i64.wrap (x10 * a4)+x11)
end
def BJ (r:Rul):Int:=NW r.name r.side r.innings r.overs r.balls r.quota r.wide r.noball r.newball r.followon r.reviews r.outside r.power
theorem D4 {N:Nat} {r8:Bool} {r0:ByteArray} {r13:Rows} (hN:2097152<N) (hs:r0.size≤1048576):Ab N [.str r0,.int r1,.int r2,.int r3,.int r4,.int r5,.int r6,.int r7,.bool r8,.int r9,.int r10,.int r11,.int r12,.rows r13]=some [.int (BJ (⟨r0,r1,r2,r3,r4,r5,r6,r7,r8,r9,r10,r11,r12,r13⟩:Rul))]:=by
 exact XC N _ _ _ _ _ _ _ _ _ _ _ _ _ _ hN hs
theorem WB {N:Nat} {s18 s20:Bool} (h:Fit s14 s16 s17 s19 s24):DT N [.int s0,.int s1,.int s2,.int s3,.int s4,.int s5,.int s6,.int s7,.int s8,.int s9,.int s10,.int s11,.int s12,.int s13,.rows s14,.int s15,.rows s16,.rows s17,.bool s18,.rows s19,.bool s20,.int s21,.int s22,.int s23,.rows s24,.int s25,.int s26,.int s27]=some [.int s0,.int s1,.int s2,.int s3,.int s4,.int s5,.int s6,.int s7,.int s8,.int s9,.int s10,.int s11,.int s12,.int s13,.rows s14,.int s15,.rows s16,.rows s17,.bool s18,.rows s19,.bool s20,.int s21,.int s22,.int s23,.rows s24,.int s25,.int s26,.int s27]:=by
 show Qf (std (JT N) N) (xOf _)=_;simp only [Qf,Ny,QA,O7,lq9,std,xOf,PXb,PXc,PXn,PXm,Nat.reduceAdd,Int.reduceBEq,Ae,As,Ai,CB h.bt (show 1≤4096 by omega),CB h.bw' (show 8≤4096 by omega),CB h.bf (show 8≤4096 by omega),CB h.bd (show 8≤4096 by omega),CB h.sb (show 1≤4096 by omega)]
theorem V0 {N:Nat} {s18 s20:Bool} (h:Fit s14 s16 s17 s19 s24):DS N [.int s0,.int s1,.int s2,.int s3,.int s4,.int s5,.int s6,.int s7,.int s8,.int s9,.int s10,.int s11,.int s12,.int s13,.rows s14,.int s15,.rows s16,.rows s17,.bool s18,.rows s19,.bool s20,.int s21,.int s22,.int s23,.rows s24,.int s25,.int s26,.int s27]=some [.int s0,.int s1,.int s2,.int s3,.int s4,.int s5,.int s6,.int s7,.int s8,.int s9,.int s10,.int s11,.int s12,.int s13,.rows s14,.int s15,.rows s16,.rows s17,.bool s18,.rows s19,.bool s20,.int s21,.int s22,.int s23,.rows s24,.int s25,.int s26,.int s27]:=by
 show Qc (std (JV N) N) (xOf _)=_;simp only [Qc,Nq,P1,PE,lq9,std,xOf,PXb,PXc,PXn,PXm,Nat.reduceAdd,Int.reduceBEq,Ae,As,Ai,CB h.bt (show 1≤4096 by omega),CB h.bw' (show 8≤4096 by omega),CB h.bf (show 8≤4096 by omega),CB h.bd (show 8≤4096 by omega),CB h.sb (show 1≤4096 by omega)]
theorem Cy {N:Nat} {s18 s20:Bool} (h:Fit s14 s16 s17 s19 s24):Aa N [.int s0,.int s1,.int s2,.int s3,.int s4,.int s5,.int s6,.int s7,.int s8,.int s9,.int s10,.int s11,.int s12,.int s13,.rows s14,.int s15,.rows s16,.rows s17,.bool s18,.rows s19,.bool s20,.int s21,.int s22,.int s23,.rows s24,.int s25,.int s26,.int s27]=some [.int s0,.int s1,.int s2,.int s3,.int s4,.int s5,.int s6,.int s7,.int s8,.int s9,.int s10,.int s11,.int s12,.int s13,.rows s14,.int s15,.rows s16,.rows s17,.bool s18,.rows s19,.bool s20,.int s21,.int s22,.int s23,.rows s24,.int s25,.int s26,.int s27]:=by
 show KG (std (FP N) N) (xOf _)=_;simp only [KG,LH,NC,Mb,lq9,std,xOf,PXb,PXc,PXn,PXm,Nat.reduceAdd,Int.reduceBEq,Ae,As,Ai,CB h.bt (show 1≤4096 by omega),CB h.bw' (show 8≤4096 by omega),CB h.bf (show 8≤4096 by omega),CB h.bd (show 8≤4096 by omega),CB h.sb (show 1≤4096 by omega)]
theorem Rb {N:Nat} {s18 s20:Bool} {p:Int}  : Cf N [.int s0,.int s1,.int s2,.int s3,.int s4,.int s5,.int s6,.int s7,.int s8,.int s9,.int s10,.int s11,.int s12,.int s13,.rows s14,.int s15,.rows s16,.rows s17,.bool s18,.rows s19,.bool s20,.int s21,.int s22,.int s23,.rows s24,.int s25,.int s26,.int s27,.int p]=some [.bool (inR p s19.length)]:=by
 show Mp (std (VX N) N) (xOf _)=_;simp only [Mp,lq9,std,xOf,PXb,PXc,PXn,PXm,Nat.reduceAdd,Int.reduceBEq];rfl
theorem Jj {N:Nat} {s18 s20:Bool} {p:Int}  : BM N [.int s0,.int s1,.int s2,.int s3,.int s4,.int s5,.int s6,.int s7,.int s8,.int s9,.int s10,.int s11,.int s12,.int s13,.rows s14,.int s15,.rows s16,.rows s17,.bool s18,.rows s19,.bool s20,.int s21,.int s22,.int s23,.rows s24,.int s25,.int s26,.int s27,.int p]=some [.bool (inR p s24.length)]:=by
 show Me (std (Vm N) N) (xOf _)=_;simp only [Me,lq9,std,xOf,PXb,PXc,PXn,PXm,Nat.reduceAdd,Int.reduceBEq];rfl
def atB (L:Rows) (i j:Nat):Bool:=pvB (AF L i j)
theorem jG (L:Rows) (i j:Nat):pvB (AF L i j)=atB L i j:=rfl
def JO (s:Inn) (p:Int):Bool:=inR p s.subs.length&&atB s.subs (ix p) 0
theorem JH {N:Nat} {s18 s20:Bool} {p:Int} (h:s24.length≤1048576):BE N [.int s0,.int s1,.int s2,.int s3,.int s4,.int s5,.int s6,.int s7,.int s8,.int s9,.int s10,.int s11,.int s12,.int s13,.rows s14,.int s15,.rows s16,.rows s17,.bool s18,.rows s19,.bool s20,.int s21,.int s22,.int s23,.rows s24,.int s25,.int s26,.int s27,.int p]=some [.bool (JO (⟨s0,s1,s2,s3,s4,s5,s6,s7,s8,s9,s10,s11,s12,s13,s14,s15,s16,s17,s18,s19,s20,s21,s22,s23,s24,s25,s26,s27⟩:Inn) p)]:=by
 show JE (std (Kn N) N) (xOf _)=_;generalize hres:(some [.bool (JO (⟨s0,s1,s2,s3,s4,s5,s6,s7,s8,s9,s10,s11,s12,s13,s14,s15,s16,s17,s18,s19,s20,s21,s22,s23,s24,s25,s26,s27⟩:Inn) p)]:Option (List PV))=RR;simp only [JE,QJ,lq9,std,xOf,PXb,PXc,PXn,PXm,Nat.reduceAdd,Int.reduceBEq,Jj,ABD h];subst hres;simp only [JO];cases hp:inR p s24.length with
 | false=>rfl
 | true=>first | rfl | (rw [Mr hp h];rfl)
def sE (x:Int):Int:=cond (iLt x 0) 0 x
def f6 (r:Rul) (s:Inn) (p:Int):Int :=
 cond (!inR p s.bowled.length || !(BJ r==0)) 0 (cond (r.quota==0) (-1) (sE (IntKind.i64.wrap (IntKind.i64.wrap (r.quota * r.balls) - sE (atI s.bowled (ix p) 0)))))
theorem oc {N:Nat} {r8:Bool} {r0:ByteArray} {r13:Rows} {s18 s20:Bool} {p:Int} (h:Fit s14 s16 s17 s19 s24) (hN:2097152<N) (hs:r0.size≤1048576):LB N [.str r0,.int r1,.int r2,.int r3,.int r4,.int r5,.int r6,.int r7,.bool r8,.int r9,.int r10,.int r11,.int r12,.rows r13,.int s0,.int s1,.int s2,.int s3,.int s4,.int s5,.int s6,.int s7,.int s8,.int s9,.int s10,.int s11,.int s12,.int s13,.rows s14,.int s15,.rows s16,.rows s17,.bool s18,.rows s19,.bool s20,.int s21,.int s22,.int s23,.rows s24,.int s25,.int s26,.int s27,.int p]=some [.int (f6 (⟨r0,r1,r2,r3,r4,r5,r6,r7,r8,r9,r10,r11,r12,r13⟩:Rul) (⟨s0,s1,s2,s3,s4,s5,s6,s7,s8,s9,s10,s11,s12,s13,s14,s15,s16,s17,s18,s19,s20,s21,s22,s23,s24,s25,s26,s27⟩:Inn) p)]:=by
 show OM (std (L0 N) N) (xOf _)=_;generalize hres:(some [.int (f6 (⟨r0,r1,r2,r3,r4,r5,r6,r7,r8,r9,r10,r11,r12,r13⟩:Rul) (⟨s0,s1,s2,s3,s4,s5,s6,s7,s8,s9,s10,s11,s12,s13,s14,s15,s16,s17,s18,s19,s20,s21,s22,s23,s24,s25,s26,s27⟩:Inn) p)]:Option (List PV))=RR;simp only [OM,TJ,Ty,lq9,std,xOf,PXb,PXc,PXn,PXm,Nat.reduceAdd,Int.reduceBEq,D4 hN hs,Rb];subst hres;simp only [f6];cases hp:inR p s19.length with
 | false=>rfl
 | true=>rw [Mr hp h.bd];cases BJ (⟨r0,r1,r2,r3,r4,r5,r6,r7,r8,r9,r10,r11,r12,r13⟩:Rul)==0<;>cases r5==0<;>rfl
theorem Ni {N:Nat} {L:Rows} {v:Int} (hN:2097152<N) (hl:L.length≤1048576):A4 N [.rows L,.int v]=some [.bool (L1 L L.length v)]:=by
 exact MO N L v (by omega) (by omega)
def Ng (r:Rul) (s:Inn) (p:Int):Int :=
  cond (!inR p s.bowled.length || !(BJ r==0)) 3 (cond (p==s.keeper||p==s.bowler||JO s p) 7
    (cond (L1 s.before s.before.length p) 8 (cond (!(f6 r s p == -1)&&iLt s.inover (IntKind.i64.wrap (r.balls - f6 r s p))) 9 0)))
theorem vQ {p:Int} {n m:Nat} (h:inR p n=true):inR p m=iLe p (m:Int):=by
 unfold inR at h ⊢;rw [zzj] at h;rw [h.1,Bool.true_and]
theorem py {N:Nat} {r8:Bool} {r0:ByteArray} {r13:Rows} {s18 s20:Bool} {p:Int} (h:Fit s14 s16 s17 s19 s24) (hN:2097152<N) (hs:r0.size≤1048576):MQ N [.str r0,.int r1,.int r2,.int r3,.int r4,.int r5,.int r6,.int r7,.bool r8,.int r9,.int r10,.int r11,.int r12,.rows r13,.int s0,.int s1,.int s2,.int s3,.int s4,.int s5,.int s6,.int s7,.int s8,.int s9,.int s10,.int s11,.int s12,.int s13,.rows s14,.int s15,.rows s16,.rows s17,.bool s18,.rows s19,.bool s20,.int s21,.int s22,.int s23,.rows s24,.int s25,.int s26,.int s27,.int p]=some [.int (Ng (⟨r0,r1,r2,r3,r4,r5,r6,r7,r8,r9,r10,r11,r12,r13⟩:Rul) (⟨s0,s1,s2,s3,s4,s5,s6,s7,s8,s9,s10,s11,s12,s13,s14,s15,s16,s17,s18,s19,s20,s21,s22,s23,s24,s25,s26,s27⟩:Inn) p)]:=by
 show QU (std (Gd N) N) (xOf _)=_;generalize hres:(some [.int (Ng (⟨r0,r1,r2,r3,r4,r5,r6,r7,r8,r9,r10,r11,r12,r13⟩:Rul) (⟨s0,s1,s2,s3,s4,s5,s6,s7,s8,s9,s10,s11,s12,s13,s14,s15,s16,s17,s18,s19,s20,s21,s22,s23,s24,s25,s26,s27⟩:Inn) p)]:Option (List PV))=RR;simp only [QU,Ua,Nn,Ud,Vx,lq9,std,xOf,PXb,PXc,PXn,PXm,Nat.reduceAdd,Int.reduceBEq,D4 hN hs,Rb,oc h hN hs,Ni hN h.bf];subst hres;simp only [Ng,JO];cases hp:inR p s19.length with
 | false=>rfl
 | true =>
  rw [vQ (m:=s24.length) hp];have hq:(!(iLe p (s24.length:Int))||iIn (IntKind.i64.wrap (p - 1)) (s24.length:Int))=true:=by
   cases h1:iLe p (s24.length:Int) with
   | false=>rfl
   | true=>rw [Mr (by rw [vQ hp];exact h1) h.sb];rfl
  rw [hq];cases BJ (⟨r0,r1,r2,r3,r4,r5,r6,r7,r8,r9,r10,r11,r12,r13⟩:Rul)==0<;>rfl
def Sm (r:Rul) (s:Inn) (p:Int):Inn×Int:=(cond (Ng r s p==0) { s with bowler:=p } s,Ng r s p)
theorem oZ {N:Nat} {r8:Bool} {r0:ByteArray} {r13:Rows} {s18 s20:Bool} {p:Int} (h:Fit s14 s16 s17 s19 s24) (hN:2097152<N) (hs:r0.size≤1048576):Kp N [.str r0,.int r1,.int r2,.int r3,.int r4,.int r5,.int r6,.int r7,.bool r8,.int r9,.int r10,.int r11,.int r12,.rows r13,.int s0,.int s1,.int s2,.int s3,.int s4,.int s5,.int s6,.int s7,.int s8,.int s9,.int s10,.int s11,.int s12,.int s13,.rows s14,.int s15,.rows s16,.rows s17,.bool s18,.rows s19,.bool s20,.int s21,.int s22,.int s23,.rows s24,.int s25,.int s26,.int s27,.int p]=some (Bk (Sm (⟨r0,r1,r2,r3,r4,r5,r6,r7,r8,r9,r10,r11,r12,r13⟩:Rul) (⟨s0,s1,s2,s3,s4,s5,s6,s7,s8,s9,s10,s11,s12,s13,s14,s15,s16,s17,s18,s19,s20,s21,s22,s23,s24,s25,s26,s27⟩:Inn) p)):=by
 show Ou (std (LX N) N) (xOf _)=_;generalize hres:(some (Bk (Sm (⟨r0,r1,r2,r3,r4,r5,r6,r7,r8,r9,r10,r11,r12,r13⟩:Rul) (⟨s0,s1,s2,s3,s4,s5,s6,s7,s8,s9,s10,s11,s12,s13,s14,s15,s16,s17,s18,s19,s20,s21,s22,s23,s24,s25,s26,s27⟩:Inn) p)):Option (List PV))=RR;simp only [Ou,Vy,V9,lq9,std,xOf,PXb,PXc,PXn,PXm,Nat.reduceAdd,Int.reduceBEq,WB h,py h hN hs];subst hres;simp only [Sm];cases Ng (⟨r0,r1,r2,r3,r4,r5,r6,r7,r8,r9,r10,r11,r12,r13⟩:Rul) (⟨s0,s1,s2,s3,s4,s5,s6,s7,s8,s9,s10,s11,s12,s13,s14,s15,s16,s17,s18,s19,s20,s21,s22,s23,s24,s25,s26,s27⟩:Inn) p==0<;>rfl
def xF (x:Inn×Bool):List PV:=[.int x.1.side,.int x.1.target,.int x.1.overs,.int x.1.runs,.int x.1.wickets,.int x.1.wides,.int x.1.noballs,.int x.1.byes,.int x.1.legbyes,.int x.1.pens,.int x.1.complete,.int x.1.inover,.int x.1.striker,.int x.1.other,.rows x.1.batters,.int x.1.bowler,.rows x.1.bowlers,.rows x.1.before,.bool x.1.fresh,.rows x.1.bowled,.bool x.1.freehit,.int x.1.ballage,.int x.1.keeper,.int x.1.outside,.rows x.1.subs,.int x.1.rev1,.int x.1.rev2,.int x.1.ending,.bool x.2]
def inc (x:Int):Int:=IntKind.i64.wrap (x+1)
def Av (r:Rul) (s:Inn) (counts:Bool):Inn×Bool :=
  cond (!inR s.bowler s.bowled.length || !(BJ r==0)) (s,false)
    (let L:=cond (L1 s.bowlers s.bowlers.length s.bowler) s.bowlers (s.bowlers++[[.int s.bowler]])
     let o:=cond counts (inc s.inover) s.inover
     let t:Inn:={ s with bowlers:=L,bowled:=cond counts (DX s.bowled s.bowler (inc (atI s.bowled (ix s.bowler) 0))) s.bowled,inover:=o,ballage:=cond counts (inc s.ballage) s.ballage }
     cond (iLt o r.balls) (t,false) ({ t with complete:=inc s.complete,inover:=0,before:=L,bowlers:=[],bowler:=0 },true))
theorem pA {N:Nat} {r8:Bool} {r0:ByteArray} {r13:Rows} {s18 s20:Bool} {b:Bool} (h:Fit s14 s16 s17 s19 s24) (hw:s16.length≤1048575) (hN:2097152<N) (hs:r0.size≤1048576):Kl N [.str r0,.int r1,.int r2,.int r3,.int r4,.int r5,.int r6,.int r7,.bool r8,.int r9,.int r10,.int r11,.int r12,.rows r13,.int s0,.int s1,.int s2,.int s3,.int s4,.int s5,.int s6,.int s7,.int s8,.int s9,.int s10,.int s11,.int s12,.int s13,.rows s14,.int s15,.rows s16,.rows s17,.bool s18,.rows s19,.bool s20,.int s21,.int s22,.int s23,.rows s24,.int s25,.int s26,.int s27,.bool b]=some (xF (Av (⟨r0,r1,r2,r3,r4,r5,r6,r7,r8,r9,r10,r11,r12,r13⟩:Rul) (⟨s0,s1,s2,s3,s4,s5,s6,s7,s8,s9,s10,s11,s12,s13,s14,s15,s16,s17,s18,s19,s20,s21,s22,s23,s24,s25,s26,s27⟩:Inn) b)):=by
 show OO (std (Fh N) N) (xOf _)=_;generalize hres:(some (xF (Av (⟨r0,r1,r2,r3,r4,r5,r6,r7,r8,r9,r10,r11,r12,r13⟩:Rul) (⟨s0,s1,s2,s3,s4,s5,s6,s7,s8,s9,s10,s11,s12,s13,s14,s15,s16,s17,s18,s19,s20,s21,s22,s23,s24,s25,s26,s27⟩:Inn) b)):Option (List PV))=RR;have ha:(s16++[[PV.int s15]]).length≤1048576:=by simp;omega
 simp only [OO,UP,NA,V6,Tt,lq9,std,xOf,PXb,PXc,PXn,PXm,Nat.reduceAdd,Int.reduceBEq,WB h,Rb,D4 hN hs,Ni hN h.bw',AAn ha (show 8≤4096 by omega)];subst hres;simp only [Av];cases hp:inR s15 s19.length with
 | false=>rfl
 | true =>
  rw [Mr hp h.bd];cases BJ (⟨r0,r1,r2,r3,r4,r5,r6,r7,r8,r9,r10,r11,r12,r13⟩:Rul)==0<;>try rfl
  cases L1 s16 s16.length s15<;>cases b<;>simp only [PXb,PXc,PXn,PXm,Nat.reduceAdd,Int.reduceBEq,inc]
  all_goals first | (cases iLt s11 r4<;>rfl) | (cases iLt (IntKind.i64.wrap (s11+1)) r4<;>rfl)
def JM (r:Rul) (s:Inn):Inn×Int :=
 cond (!(BJ r==0)||r.newball==0||iLt s.ballage (IntKind.i64.wrap (r.newball * r.balls))) (s,22) ({ s with ballage:=0 },0)
theorem gD {N:Nat} {r8:Bool} {r0:ByteArray} {r13:Rows} {s18 s20:Bool} (h:Fit s14 s16 s17 s19 s24) (hN:2097152<N) (hs:r0.size≤1048576):G1 N [.str r0,.int r1,.int r2,.int r3,.int r4,.int r5,.int r6,.int r7,.bool r8,.int r9,.int r10,.int r11,.int r12,.rows r13,.int s0,.int s1,.int s2,.int s3,.int s4,.int s5,.int s6,.int s7,.int s8,.int s9,.int s10,.int s11,.int s12,.int s13,.rows s14,.int s15,.rows s16,.rows s17,.bool s18,.rows s19,.bool s20,.int s21,.int s22,.int s23,.rows s24,.int s25,.int s26,.int s27]=some (Bk (JM (⟨r0,r1,r2,r3,r4,r5,r6,r7,r8,r9,r10,r11,r12,r13⟩:Rul) (⟨s0,s1,s2,s3,s4,s5,s6,s7,s8,s9,s10,s11,s12,s13,s14,s15,s16,s17,s18,s19,s20,s21,s22,s23,s24,s25,s26,s27⟩:Inn))):=by
 show KK (std (Ho N) N) (xOf _)=_;generalize hres:(some (Bk (JM (⟨r0,r1,r2,r3,r4,r5,r6,r7,r8,r9,r10,r11,r12,r13⟩:Rul) (⟨s0,s1,s2,s3,s4,s5,s6,s7,s8,s9,s10,s11,s12,s13,s14,s15,s16,s17,s18,s19,s20,s21,s22,s23,s24,s25,s26,s27⟩:Inn))):Option (List PV))=RR;simp only [KK,RC,Sk,lq9,std,xOf,PXb,PXc,PXn,PXm,Nat.reduceAdd,Int.reduceBEq,WB h,D4 hN hs];subst hres;simp only [JM];cases (!(BJ (⟨r0,r1,r2,r3,r4,r5,r6,r7,r8,r9,r10,r11,r12,r13⟩:Rul)==0)||r9==0||iLt s21 (IntKind.i64.wrap (r9 * r4)))<;>rfl
end Go.Px
end
