/- Part 11. -/
import Derived.Test.YtkknkmdpelogmaaGreatDoorPart09
import Derived.Test.YtkknkmdpelogmaaGreatDoorPart10
set_option linter.unusedVariables false
set_option linter.unusedSimpArgs false
variable {s0 s1 s2 s3 s4 s5 s6 s7 s8 s9 s10 s11 s12 s13 s15 s21 s22 s23 s25 s26 s27:Int}
variable {s14 s16 s17 s19 s24:Go.Px.Rows}
section
namespace Go.Px
set_option maxRecDepth 100000
def VQ:List Nat:=[0]
def Vp(O:Alg)(x:Ags O):O.M:=(O.a [.str (O.ar (O.aw .i32 (O.p .i64 (lq9 O 48) (x.I 0))))])
def dk:Nat→Env:=eL []
def GG:=oS VQ Vp dk
def Jc(N:Nat)(ls:List PV):Option (List PV):=ACa ls
def QX:List Nat:=[0,0]
def Qd(O:Alg)(x:Ags O):O.M:=(O.c (O.f 129 [] [.int (x.I 0),.int (x.I 1)]) fun c0=>(O.a [.str (O.cS c0 0)]))
def YY:Nat→Env:=eL [(129,Jc)]
def KK:=oS QX Qd YY
def Yn:List Nat:=[0]
def Yk(O:Alg)(x:Ags O):O.M:=(O.c (O.f 120 [] [.int (x.I 0),.int (lq9 O 10)]) fun c0=>(O.a [.str (O.cS c0 0)]))
def jG:Nat→Env:=eL [(120,KK)]
def Ih:=oS Yn Yk jG
def TY:List Nat:=[0,0,0,0,0,1,0,0,0,0,1,0]
def TR(O:Alg)(x:Ags O):O.M:=let u15:=(lq9 O 0);let u14:=(O.t ⟨#[41]⟩);let u8:=(O.t ⟨#[47]⟩);let u13:=(O.p .u8 (x.I 6) (O.lit .u8 1));let u6:=(O.s (O.y u14) 1);let u2:=(O.h (O.e (x.I 9) u15));let u1:=(O.t ⟨#[78,66,67,76,83,72,82,84,79,77,81]⟩);let u12:=(O.bc u1 (x.I 6) u13);let u11:=(O.ah u8 u12);let u0:=(O.h (O.k (O.k (O.h (O.e (x.I 8) u15)) O.o u2) O.o (x.B 10)));(O.b (O.k (O.k (O.e (x.I 6) (O.lit .u8 0)) (O.e (x.I 7) u15) O.g) u0 O.g) (O.a [.str (O.t ⟨#[]⟩)]) (O.i (O.al (x.I 6) u13 (O.y u1)) (O.i (O.s (O.y u8) 1) (O.i (O.s (O.y u12) 1) (O.c (O.f 81 [] [.int (x.I 7)]) fun c0=>let u10:=(O.ah u11 (O.cS c0 0));(O.i (O.s (O.y u11) 1) (O.i (O.s (O.y (O.cS c0 0)) 1) (O.b u0 (O.a [.str u10]) (O.c (O.f 104 [] [.int (x.I 8)]) fun c1=>let u4:=(O.ah (O.t ⟨#[40]⟩) (O.cS c1 0));let u9:=(O.ah u10 u4);(O.i (O.s (O.y (O.t ⟨#[40]⟩)) 1) (O.i (O.s (O.y (O.cS c1 0)) 1) (O.i (O.s (O.y u10) 1) (O.i (O.s (O.y u4) 1) (O.c (O.b u2 (O.c (O.f 104 [] [.int (x.I 9)]) fun c2=>let u5:=(O.ah (O.t ⟨#[44]⟩) (O.cS c2 0));(O.i (O.s (O.y (O.t ⟨#[44]⟩)) 1) (O.i (O.s (O.y (O.cS c2 0)) 1) (O.i (O.s (O.y u9) 1) (O.i (O.s (O.y u5) 1) (O.a [.str (O.ah u9 u5)])))))) (O.a [.str u9])) fun c2=>let u7:=(O.s (O.y (O.cS c2 0)) 1);let u3:=(O.ah (O.cS c2 0) (O.t ⟨#[115]⟩));(O.b (x.B 10) (O.i u7 (O.i (O.s (O.y (O.t ⟨#[115]⟩)) 1) (O.i (O.s (O.y u3) 1) (O.i u6 (O.a [.str (O.ah u3 u14)]))))) (O.i u7 (O.i u6 (O.a [.str (O.ah (O.cS c2 0) u14)]))))))))))))))))))
def cg:Nat→Env:=eL [(81,GG),(104,Ih)]
def MY:=oS TY TR cg
def Vg:List Nat:=[0,0,0,0,0,1,0,0,0,0,1,0]
def WJ(O:Alg)(x:Ags O):O.M:=let u8:=(lq9 O 2);let u11:=(O.x .u8 (x.I 0) (O.lit .u8 1));let u7:=(O.t ⟨#[]⟩);let u6:=(lq9 O 0);let u5:=(O.t ⟨#[119]⟩);let u4:=(O.t ⟨#[110]⟩);let u10:=(O.az (O.e u11 u8) u4 (O.az (O.e u11 (lq9 O 1)) u5 u7));(O.c (O.f 79 [] (xr x [0,0,0,0,0,1,0,0,0,0,1,0] 0)) fun c0=>(O.b (O.h (O.e (O.d c0 0) u6)) (O.a [.str u7,.int (O.d c0 0)]) (O.i (O.q u11 (lq9 O 3)) (O.c (O.f 80 [] (xr x [0,0,0,0,0,1,0,0,0,0,1,0] 0)) fun c1=>let u9:=(O.ah u10 (O.cS c1 0));(O.i (O.s (O.y u10) 1) (O.i (O.s (O.y (O.cS c1 0)) 1) (O.c (O.b (O.k (O.n u6 (x.I 2)) O.o (O.k (O.k (O.au (O.cS c1 0) u7) (O.e (x.I 4) u6) O.g) (O.h (O.e (x.I 0) (O.lit .u8 2))) O.g)) (O.c (O.f 81 [] [.int (x.I 2)]) fun c2=>(O.i (O.s (O.y u9) 1) (O.i (O.s (O.y (O.cS c2 0)) 1) (O.a [.str (O.ah u9 (O.cS c2 0))])))) (O.a [.str u9])) fun c2=>let u12:=(O.cS c2 0);let u3:=(O.s (O.y u12) 1);(O.c (O.b (O.e (x.I 4) (lq9 O 4)) (O.i u3 (O.i (O.s (O.y (O.t ⟨#[70]⟩)) 1) (O.a [.str (O.ah u12 (O.t ⟨#[70]⟩))]))) (O.b (O.e (x.I 4) (lq9 O 6)) (O.i u3 (O.i (O.s (O.y (O.t ⟨#[83]⟩)) 1) (O.a [.str (O.ah u12 (O.t ⟨#[83]⟩))]))) (O.a [.str u12]))) fun c3=>(O.c (O.b (O.n u6 (x.I 3)) (O.c (O.f 81 [] [.int (x.I 3)]) fun c4=>let u0:=(O.ah (O.t ⟨#[45]⟩) (O.cS c4 0));(O.i (O.s (O.y (O.t ⟨#[45]⟩)) 1) (O.i (O.s (O.y (O.cS c4 0)) 1) (O.i (O.s (O.y (O.cS c3 0)) 1) (O.i (O.s (O.y u0) 1) (O.a [.str (O.ah (O.cS c3 0) u0)])))))) (O.a [.str (O.cS c3 0)])) fun c4=>(O.c (O.b (x.B 5) (O.i (O.s (O.y (O.cS c4 0)) 1) (O.i (O.s (O.y (O.t ⟨#[120]⟩)) 1) (O.a [.str (O.ah (O.cS c4 0) (O.t ⟨#[120]⟩))]))) (O.a [.str (O.cS c4 0)])) fun c5=>(O.c (O.f 82 [] (xr x [0,0,0,0,0,1,0,0,0,0,1,0] 0)) fun c6=>let u2:=(O.ah (O.cS c5 0) (O.cS c6 0));(O.i (O.s (O.y (O.cS c5 0)) 1) (O.i (O.s (O.y (O.cS c6 0)) 1) (O.b (O.n u6 (x.I 11)) (O.c (O.f 81 [] [.int (x.I 11)]) fun c7=>let u1:=(O.ah (O.t ⟨#[64]⟩) (O.cS c7 0));(O.i (O.s (O.y (O.t ⟨#[64]⟩)) 1) (O.i (O.s (O.y (O.cS c7 0)) 1) (O.i (O.s (O.y u2) 1) (O.i (O.s (O.y u1) 1) (O.a [.str (O.ah u2 u1),.int u6])))))) (O.a [.str u2,.int u6])))))))))))))))
def cp:Nat→Env:=eL [(79,Dq),(80,Ma),(81,GG),(82,MY)]
def Nu:=oS Vg WJ cp
def Qz:List Nat:=[2,0,0,0,0,0,0,0,1,0,0,0,0,3,3]
def Ij(O:Alg)(x:Ags O):O.M:=let u2:=(lq9 O 0);(O.c (O.f 19 [] (xr x [2,0,0,0,0,0,0,0,1,0,0,0,0,3,3] 0)) fun c0=>(O.b (O.h (O.e (O.d c0 0) u2)) (O.a [.rows O.u,.int (O.d c0 0)]) (O.c (O.f 27 [] (xr x [2,0,0,0,0,0,0,0,1,0,0,0,0,3,3] 0)) fun c1=>let u4:=(O.j c1 0);let u1:=(O.l u4);(O.c (O.v (fun s2 c2=>let u3:=(O.d c2 1);(O.b (O.n u3 u1) (O.i (O.q u3 u1) (O.c (O.f 70 [] (rr O u4 u3 [0,0,0,0,0,1,0,0,0,0,1,0] 8)) fun c3=>let u0:=(O.ac (O.j c2 0) (O.z [(ap O (rr O u4 u3 [0,0,0,0,0,0] 1) [.str (O.cS c3 0),.int (O.m u4 u3 30),.int (O.m u4 u3 31)])]));(O.b (O.h (O.e (O.d c3 1) u2)) (O.a [.int u2,.rows O.u,.int (O.d c3 1)]) (O.i (O.s (O.l u0) 80) (s2 [.rows u0,.int (O.p .i64 u3 (lq9 O 1))]))))) (O.a [.int (lq9 O 1),.rows (O.j c2 0)]))) [.rows O.u,.int u2]) fun c2=>(O.b (O.ad c2 0) (O.a [.rows (O.j c2 1),.int (O.d c2 2)]) (O.a [.rows (O.j c2 1),.int u2]))))))
def DA(N:Nat):Env:=fun f fns ls=>(cond (Nat.beq f 19&&AK fns []) (Bb N ls) (cond (Nat.beq f 27&&AK fns []) (Bc N ls) (cond (Nat.beq f 70&&AK fns []) (Nu N ls) none)))
theorem VD{N ls}:DA N 19 [] ls=Bb N ls:=id rfl
theorem WS{N ls}:DA N 27 [] ls=Bc N ls:=id rfl
theorem QH{N ls}:DA N 70 [] ls=Nu N ls:=id rfl
def Ef:=oS Qz Ij DA
def Tl:List Nat:=[2,0,0,0,0,0,0,0,1,0,0,0,0,3,0,0,0,0,0,1,0,0,0,0,1,0]
def Tf(O:Alg)(x:Ags O):O.M:=(O.c (O.f 22 [] (xr x [2,0,0,0,0,0,0,0,1,0,0,0,0,3,0,0,0,0,0,1,0,0,0,0,1,0] 0)) fun c0=>let u2:=(O.d c0 4);let u1:=(O.d c0 3);let u0:=(O.d c0 5);(O.c (O.b (O.e (x.I 14) (O.lit .u8 2)) (O.a [.int (O.lit .u8 119),.int u0,.int u1,.int u2,.int (O.lit .u8 0)]) (O.b (O.e (x.I 14) (O.lit .u8 3)) (O.a [.int (O.lit .u8 110),.int u0,.int u1,.int u2,.int (O.lit .u8 0)]) (O.a [.int (O.lit .u8 0),.int u0,.int u1,.int u2,.int (O.lit .u8 0)]))) fun c1=>(O.b (O.r c0 8) (O.a (ap O (cr O c1 [0,0,0,0] 0) [.int (O.lit .u8 87)])) (O.b (O.h (O.e (x.I 20) (O.lit .u8 0))) (O.a (ap O (cr O c1 [0,0,0,0] 0) [.int (O.lit .u8 82)])) (O.a (cr O c1 [0,0,0,0,0] 0))))))
def cd:Nat→Env:=eL [(22,A9)]
def Mk:=oS Tl Tf cd
def U4:List Nat:=[0]
def VI(O:Alg)(x:Ags O):O.M:=(O.b (O.e (x.I 0) (lq9 O 0)) (O.a [.str (O.t ⟨#[46]⟩)]) (O.c (O.f 104 [] [.int (x.I 0)]) fun c0=>(O.a [.str (O.cS c0 0)])))
def fI:Nat→Env:=eL [(104,Ih)]
def Gg:=oS U4 VI fI
def NB:List Nat:=[0,0,0,0,0]
def Mz(O:Alg)(x:Ags O):O.M:=let u3:=(O.aw .i32 (x.I 4));let u2:=(O.aw .i32 (x.I 0));(O.c (O.f 105 [] [.int (x.I 1)]) fun c0=>let u4:=(O.cS c0 0);(O.c (O.b (O.h (O.e (x.I 0) (O.lit .u8 0))) (O.i (O.s (O.y (O.ar u2)) 1) (O.i (O.s (O.y u4) 1) (O.a [.str (O.ah (O.ar u2) u4)]))) (O.a [.str u4])) fun c1=>let u5:=(O.cS c1 0);(O.c (O.b (O.n (lq9 O 0) (x.I 2)) (O.c (O.f 105 [] [.int (x.I 2)]) fun c2=>let u1:=(O.ah (O.t ⟨#[98]⟩) (O.cS c2 0));(O.i (O.s (O.y (O.t ⟨#[98]⟩)) 1) (O.i (O.s (O.y (O.cS c2 0)) 1) (O.i (O.s (O.y u5) 1) (O.i (O.s (O.y u1) 1) (O.a [.str (O.ah u5 u1)])))))) (O.a [.str u5])) fun c2=>let u6:=(O.cS c2 0);(O.c (O.b (O.n (lq9 O 0) (x.I 3)) (O.c (O.f 105 [] [.int (x.I 3)]) fun c3=>let u0:=(O.ah (O.t ⟨#[108]⟩) (O.cS c3 0));(O.i (O.s (O.y (O.t ⟨#[108]⟩)) 1) (O.i (O.s (O.y (O.cS c3 0)) 1) (O.i (O.s (O.y u6) 1) (O.i (O.s (O.y u0) 1) (O.a [.str (O.ah u6 u0)])))))) (O.a [.str u6])) fun c3=>let u7:=(O.cS c3 0);(O.b (O.h (O.e (x.I 4) (O.lit .u8 0))) (O.i (O.s (O.y u7) 1) (O.i (O.s (O.y (O.ar u3)) 1) (O.a [.str (O.ah u7 (O.ar u3))]))) (O.a [.str u7]))))))
def VN:Nat→Env:=eL [(105,Gg)]
def H0:=oS NB Mz VN
def W8:List Nat:=[2,0,0,0,0,0,0,0,1,0,0,0,0,3,3]
def W0(O:Alg)(x:Ags O):O.M:=let u13:=(lq9 O 0);let u12:=(lq9 O 1);(O.c (O.v (fun s0 c0=>let u15:=(O.d c0 1);let u14:=(O.j c0 0);let u11:=(O.l u14);let u10:=(O.m (x.L 14) u15 4);let u9:=(O.m (x.L 14) u15 2);let u7:=(O.e u11 u13);let u6:=(O.x .i64 u11 u12);let u3:=(O.h (O.q u6 u11));let u1:=(O.ac u14 (O.z [[.int u9,.int u10,.int u13]]));let u0:=(O.k u7 O.o (O.h (O.e (O.m u14 u6 0) u9)));(O.b (O.n u15 (O.l (x.L 14))) (O.i (O.q u15 (O.l (x.L 14))) (O.i (O.h (O.af (O.h u7) u3)) (O.i (O.h (O.af (O.h u0) u3)) (O.c (O.b (O.k u0 O.o (O.h (O.e (O.m u14 u6 1) u10))) (O.i (O.s (O.l u1) 40) (O.a [.rows u1,.int (O.p .i64 u11 u12)])) (O.a [.rows u14,.int u11])) fun c1=>let u8:=(O.x .i64 (O.d c1 1) u12);let u5:=(O.m (O.j c1 0) u8 2);let u4:=(O.q u8 (O.l (O.j c1 0)));let u2:=(O.p .i64 u5 u12);(O.i u4 (O.c (O.f 83 [] (ap O (xr x kR 0) (rr O (x.L 14) u15 [0,0,0,0,0,1,0,0,0,0,1,0] 8))) fun c2=>(O.c (O.f 84 [] (cr O c2 [0,0,0,0,0] 0)) fun c3=>(O.i (O.s u5 1) (O.i (O.s u2 16) (O.i u4 (s0 [.rows (O.w (O.j c1 0) u8 2 [.int u2]),.int (O.p .i64 u15 u12)]))))))))))) (O.a [.rows u14]))) [.rows O.u,.int u13]) fun c0=>(O.a [.rows (O.j c0 0)]))
def gM:Nat→Env:=eL [(83,Mk),(84,H0)]
def P8:=oS W8 W0 gM
def Em:List Nat:=[3,3,3]
def Ej(O:Alg)(x:Ags O):O.M:=let u0:=(lq9 O 0);(O.c (O.v (fun s0 c0=>let u1:=(O.d c0 0);(O.b (O.n u1 (O.l (x.L 0))) (O.i (O.q u1 (O.l (x.L 0))) (O.b (O.e (O.m (x.L 0) u1 0) (O.p .i64 (O.m (x.L 1) u0 0) (O.m (x.L 2) u0 0))) (O.a [.int u0,.int u1]) (s0 [.int (O.p .i64 u1 (lq9 O 1))]))) (O.a [.int (lq9 O 1)]))) [.int u0]) fun c0=>(O.b (O.ad c0 0) (O.a [.int (O.d c0 1)]) (O.a [.int (lq9 O (-1))])))
def C0(N:Nat):Env:=fun f fns ls=>none
def El:=oS Em Ej C0
def GJ:List Nat:=[3,3]
def GC(O:Alg)(x:Ags O):O.M:=let u0:=(lq9 O 0);(O.c (O.v (fun s0 c0=>let u1:=(O.d c0 0);(O.b (O.n u1 (O.l (x.L 0))) (O.i (O.q u1 (O.l (x.L 0))) (O.b (O.e (O.m (x.L 0) u1 0) (O.m (x.L 1) u0 0)) (O.a [.int u0,.int u1]) (s0 [.int (O.p .i64 u1 (lq9 O 1))]))) (O.a [.int (lq9 O 1)]))) [.int u0]) fun c0=>(O.b (O.ad c0 0) (O.a [.int (O.d c0 1)]) (O.a [.int (lq9 O (-1))])))
def Dj(N:Nat):Env:=fun f fns ls=>none
def GE:=oS GJ GC Dj
def XG:List Nat:=[2,0,0,0,0,0,0,0,1,0,0,0,0,3,0,0,0,0,0,1,0,0,0,0,1,0]
def W3(O:Alg)(x:Ags O):O.M:=(O.c (O.f 22 [] (xr x [2,0,0,0,0,0,0,0,1,0,0,0,0,3,0,0,0,0,0,1,0,0,0,0,1,0] 0)) fun c0=>(O.b (O.h (O.r c0 7)) (O.a [.str (O.t ⟨#[]⟩)]) (O.c (O.f 105 [] [.int (O.d c0 0)]) fun c1=>(O.a [.str (O.cS c1 0)]))))
def fk:Nat→Env:=eL [(22,A9),(105,Gg)]
def W5:=oS XG W3 fk
def Ng:List Nat:=[2,0,0,0,0,0,0,0,1,0,0,0,0,3,3,0,3]
def N7(O:Alg)(x:Ags O):O.M:=let u21:=(lq9 O 1);let u20:=(lq9 O 0);(O.c (O.v (fun s0 c0=>let u26:=(O.d c0 0);let u24:=(O.d c0 1);let u23:=(O.j c0 2);let u19:=(O.rB (x.L 14) u26 4);let u8:=(O.m (x.L 14) u26 3);let u22:=(O.lit .u8 0);let u7:=(O.m (x.L 14) u26 0);let u5:=(O.m (x.L 14) u26 2);let u16:=(O.ac u23 (O.z [[.int u5,.int u20,.int u22,.int u20]]));let u12:=(O.l u16);let u10:=(O.s u12 48);let u9:=(O.x .i64 u12 u21);let u3:=(O.p .i64 u26 u21);let u2:=(O.z [[.int u5]]);(O.b (O.n u26 (O.l (x.L 14))) (O.i (O.q u26 (O.l (x.L 14))) (O.b (O.e u7 (O.lit .u8 2)) (O.c (O.f 86 [87] [.rows u23,.rows u2]) fun c1=>(O.c (O.b (O.n (O.d c1 0) u20) (O.i u10 (O.a [.int u9,.rows u16])) (O.a [.int (O.d c1 0),.rows u23])) fun c2=>let u27:=(O.j c2 1);let u17:=(O.ac u27 (O.z [[.int u8,.int u20,.int u22,.int u20]]));let u13:=(O.l u17);(O.i (O.q (O.d c2 0) (O.l u27)) (O.c (O.f 86 [87] [.rows u27,.rows (O.z [[.int u8]])]) fun c3=>(O.c (O.b (O.n (O.d c3 0) u20) (O.i (O.s u13 48) (O.a [.int (O.x .i64 u13 u21),.rows u17])) (O.a [.int (O.d c3 0),.rows u27])) fun c4=>(O.i (O.q (O.d c4 0) (O.l (O.j c4 1))) (s0 [.int u3,.int u24,.rows (O.j c4 1)]))))))) (O.b (O.e u7 (O.lit .u8 5)) (O.c (O.f 86 [87] [.rows u23,.rows u2]) fun c1=>(O.c (O.b (O.n (O.d c1 0) u20) (O.i u10 (O.a [.int u9,.rows u16])) (O.a [.int (O.d c1 0),.rows u23])) fun c2=>(O.i (O.q (O.d c2 0) (O.l (O.j c2 1))) (O.b u19 (s0 [.int u3,.int u24,.rows (O.w (O.w (O.j c2 1) (O.d c2 0) 2 [.int (O.lit .u8 9)]) (O.d c2 0) 3 [.int u20])]) (s0 [.int u3,.int u24,.rows (O.j c2 1)]))))) (O.b (O.e u7 (O.lit .u8 6)) (O.b (O.h u19) (O.c (O.f 86 [87] [.rows u23,.rows u2]) fun c1=>(O.c (O.b (O.n (O.d c1 0) u20) (O.i u10 (O.a [.int u9,.rows u16])) (O.a [.int (O.d c1 0),.rows u23])) fun c2=>(O.i (O.q (O.d c2 0) (O.l (O.j c2 1))) (s0 [.int u3,.int u24,.rows (O.w (O.w (O.j c2 1) (O.d c2 0) 2 [.int (O.lit .u8 10)]) (O.d c2 0) 3 [.int u20])])))) (s0 [.int u3,.int u24,.rows u23])) (O.b (O.e u7 (O.lit .u8 4)) (O.c (O.f 59 [88] [.rows (x.L 16),.rows (O.z [[.int u24]]),.rows (O.z [[.int u26]])]) fun c1=>let u25:=(O.d c1 0);let u6:=(O.m (x.L 16) u25 5);let u18:=(O.ac u23 (O.z [[.int u6,.int u20,.int u22,.int u20]]));let u14:=(O.l u18);(O.b (O.n u25 u20) (s0 [.int u3,.int u24,.rows u23]) (O.i (O.q u25 (O.l (x.L 16))) (O.c (O.f 89 [] (ap O (xr x kR 0) (rr O (x.L 16) u25 [0,0,0,0,0,1,0,0,0,0,1,0] 8))) fun c2=>(O.c (O.b (O.h (O.au (O.cS c2 0) (O.t ⟨#[]⟩))) (O.c (O.f 86 [87] [.rows u23,.rows (O.z [[.int u6]])]) fun c3=>(O.c (O.b (O.n (O.d c3 0) u20) (O.i (O.s u14 48) (O.a [.int (O.x .i64 u14 u21),.rows u18])) (O.a [.int (O.d c3 0),.rows u23])) fun c4=>let u4:=(O.m (O.j c4 1) (O.d c4 0) 1);let u1:=(O.p .i64 u4 u21);(O.i (O.q (O.d c4 0) (O.l (O.j c4 1))) (O.i (O.s u4 1) (O.i (O.s u1 16) (O.a [.rows (O.w (O.j c4 1) (O.d c4 0) 1 [.int u1])])))))) (O.a [.rows u23])) fun c3=>let u28:=(O.j c3 0);(O.c (O.f 34 [] (ap O (rr O (x.L 16) u25 [0,0,0,0,0,1,0,0,0,0,1,0] 8) [.int u6,.int (O.m (x.L 16) u25 6)])) fun c4=>let u15:=(O.ac u28 (O.z [[.int (O.d c4 0),.int u20,.int u22,.int u20]]));let u11:=(O.l u15);(O.b (O.n u20 (O.d c4 0)) (O.c (O.f 86 [87] [.rows u28,.rows (O.z [[.int (O.d c4 0)]])]) fun c5=>(O.c (O.b (O.n (O.d c5 0) u20) (O.i (O.s u11 48) (O.a [.int (O.x .i64 u11 u21),.rows u15])) (O.a [.int (O.d c5 0),.rows u28])) fun c6=>let u29:=(O.d c6 0);let u0:=(O.w (O.w (O.j c6 1) u29 2 [.int (O.m (x.L 16) u25 14)]) u29 3 [.int u20]);(O.i (O.q u29 (O.l (O.j c6 1))) (O.b (O.rB (x.L 16) u25 28) (s0 [.int u3,.int u24,.rows (O.w u0 u29 3 [.int (O.m (x.L 16) u25 4)])]) (s0 [.int u3,.int u24,.rows u0]))))) (s0 [.int u3,.int u24,.rows u28])))))))) (s0 [.int u3,.int u24,.rows u23])))))) (O.a [.rows u23]))) [.int u20,.int (x.I 15),.rows O.u]) fun c0=>(O.a [.rows (O.j c0 0)]))
def HL(N:Nat):Env:=fun f fns ls=>(cond (Nat.beq f 34&&AK fns []) (DD N ls) (cond (Nat.beq f 59&&AK fns [88]) (El N ls) (cond (Nat.beq f 86&&AK fns [87]) (GE N ls) (cond (Nat.beq f 89&&AK fns []) (W5 N ls) none))))
def Jg:=oS Ng N7 HL
def P2:List Nat:=[2,0,0,0,0,0,0,0,1,0,0,0,0,3,3]
def HP(O:Alg)(x:Ags O):O.M:=let u7:=(lq9 O 0);(O.c (O.f 4 [] (xr x [2,0,0,0,0,0,0,0,1,0,0,0,0,3,3] 0)) fun c0=>let u10:=(O.j c0 0);(O.b (O.h (O.e (O.d c0 1) u7)) (O.a [.rows O.u,.int (O.d c0 1)]) (O.c (O.f 27 [] (xr x [2,0,0,0,0,0,0,0,1,0,0,0,0,3,3] 0)) fun c1=>let u6:=(O.l (O.j c1 0));(O.c (O.f 17 [] [.rows (x.L 14)]) fun c2=>let u5:=(O.l (O.j c2 0));(O.c (O.v (fun s3 c3=>let u8:=(O.d c3 1);let u4:=(O.m (O.j c2 0) u8 1);let u3:=(O.m (O.j c2 0) u8 0);(O.b (O.n u8 u5) (O.i (O.q u8 u5) (O.c (O.v (fun s4 c4=>let u9:=(O.d c4 1);let u2:=(O.p .i64 u9 (lq9 O 1));let u1:=(O.ac (O.j c4 0) (O.z [(rr O (O.j c1 0) u9 [0,0,0,0,0,0,0,1,0,0,0,0,0,1,0,0,0,0,1,0,0,0,0,0,0,0,1,1,1,1,0,0] 0)]));(O.b (O.n u9 u6) (O.i (O.q u9 u6) (O.b (O.e (O.m (O.j c1 0) u9 1) u8) (O.i (O.s (O.l u1) 216) (s4 [.rows u1,.int u2])) (s4 [.rows (O.j c4 0),.int u2]))) (O.a [.rows (O.j c4 0),.int u9]))) [.rows O.u,.int u7]) fun c4=>(O.i (O.q u8 (O.l u10)) (O.c (O.f 71 [] (ap O (xr x kR 0) [.rows (O.j c4 0)])) fun c5=>(O.i (O.al u3 u4 (O.l (x.L 14))) (O.c (O.f 72 [] (ap O (xr x kR 0) [.rows (O.ai (x.L 14) u3 u4),.int u3,.rows (O.j c4 0)])) fun c6=>let u0:=(O.ac (O.j c3 0) (O.z [(ap O [.int (O.m u10 u8 0),.rows (O.j c5 0),.rows (O.j c6 0)] (ap O (rr O u10 u8 [0,0,0,0,0] 4) [.int (O.m u10 u8 1),.int (O.m u10 u8 2)]))]));(O.i (O.s (O.l u0) 112) (s3 [.rows u0,.int (O.p .i64 u8 (lq9 O 1))])))))))) (O.a [.rows (O.j c3 0)]))) [.rows O.u,.int u7]) fun c3=>(O.a [.rows (O.j c3 0),.int u7]))))))
def B0(N:Nat):Env:=fun f fns ls=>(cond (Nat.beq f 4&&AK fns []) (Dt N ls) (cond (Nat.beq f 17&&AK fns []) (Ay N ls) (cond (Nat.beq f 27&&AK fns []) (Bc N ls) (cond (Nat.beq f 71&&AK fns []) (P8 N ls) (cond (Nat.beq f 72&&AK fns []) (Jg N ls) none)))))
theorem Qn{N ls}:B0 N 4 [] ls=Dt N ls:=id rfl
theorem Qi{N ls}:B0 N 17 [] ls=Ay N ls:=id rfl
theorem VG{N ls}:B0 N 27 [] ls=Bc N ls:=id rfl
theorem QQ{N ls}:B0 N 71 [] ls=P8 N ls:=id rfl
theorem Pg{N ls}:B0 N 72 [] ls=Jg N ls:=id rfl
def EC:=oS P2 HP B0
def Yf:List Nat:=[2,0,0,0,0,0,0,0,1,0,0,0,0,3,3]
def L8(O:Alg)(x:Ags O):O.M:=(O.c (O.f 65 [] (xr x [2,0,0,0,0,0,0,0,1,0,0,0,0,3,3] 0)) fun c0=>(O.c (O.f 66 [] (xr x [2,0,0,0,0,0,0,0,1,0,0,0,0,3,3] 0)) fun c1=>(O.a [.rows (O.j c0 0),.rows (O.j c1 0),.bool (O.k (O.e (O.d c0 1) (lq9 O 0)) (O.e (O.d c1 1) (lq9 O 0)) O.g)])))
def JD:Nat→Env:=eL [(65,Ef),(66,EC)]
theorem Se{N ls}:JD N 65 [] ls=Ef N ls:=id rfl
theorem Q4{N ls}:JD N 66 [] ls=EC N ls:=id rfl
def IW:=oS Yf L8 JD
def PD:List Nat:=[]
def HF(O:Alg)(x:Ags O):O.M:=(O.c (O.f 5 [] []) fun c0=>(O.c (O.f 6 [] []) fun c1=>(O.c (O.f 52 [] (ap O (cr O c0 kR 0) [.rows (O.j c1 0)])) fun c2=>(O.c (O.f 5 [] []) fun c3=>(O.c (O.f 6 [] []) fun c4=>(O.c (O.f 48 [] (ap O (cr O c3 kR 0) [.rows (O.j c4 0)])) fun c5=>(O.a [.bool (O.k (O.k (O.k (O.k (O.r c2 2) (O.e (O.l (O.j c2 0)) (lq9 O 4)) O.g) (O.e (O.l (O.j c2 1)) (lq9 O 2)) O.g) (O.e (O.d c5 23) (lq9 O (-1))) O.g) (O.e (O.l (O.j c5 17)) (lq9 O 2)) O.g)])))))))
def CK(N:Nat):Env:=fun f fns ls=>(cond (Nat.beq f 5&&AK fns []) (D3 N ls) (cond (Nat.beq f 6&&AK fns []) (F1 N ls) (cond (Nat.beq f 48&&AK fns []) (DB N ls) (cond (Nat.beq f 52&&AK fns []) (IW N ls) none))))
theorem UQ{N ls}:CK N 5 [] ls=D3 N ls:=id rfl
theorem WO{N ls}:CK N 6 [] ls=F1 N ls:=id rfl
theorem Ss{N ls}:CK N 48 [] ls=DB N ls:=id rfl
theorem Qv{N ls}:CK N 52 [] ls=IW N ls:=id rfl
def FL:=oS PD HF CK
def Wc:List Nat:=[]
def Kn(O:Alg)(x:Ags O):O.M:=let u5:=(lq9 O 1);let u4:=(lq9 O 0);(O.c (O.f 5 [] []) fun c0=>(O.c (O.f 6 [] []) fun c1=>(O.c (O.f 10 [] (ap O (cr O c0 kR 0) [.rows (O.j c1 0),.int u4])) fun c2=>let u2:=(O.l (O.j c2 0));(O.c (O.f 5 [] []) fun c3=>(O.c (O.f 6 [] []) fun c4=>(O.c (O.f 15 [] (ap O (cr O c3 kR 0) [.rows (O.j c4 0),.int u5])) fun c5=>let u3:=(O.l (O.j c5 0));(O.c (O.f 26 [] []) fun c6=>let u1:=(O.k (O.k (O.k (O.r c6 0) (O.e (O.d c2 1) u4) O.g) (O.e (O.d c5 1) u4) O.g) (O.e u2 (lq9 O 2)) O.g);let u0:=(O.k (O.k u1 (O.e (O.m (O.j c2 0) u4 1) u5) O.g) (O.e u3 u5) O.g);(O.i (O.h (O.af u1 (O.h (O.q u4 u2)))) (O.i (O.h (O.af u0 (O.h (O.q u4 u3)))) (O.a [.bool (O.k u0 (O.e (O.m (O.j c5 0) u4 3) (lq9 O 5)) O.g)]))))))))))
def DN:Nat→Env:=eL [(5,D3),(6,F1),(10,DJ),(15,CJ),(26,FL)]
theorem T1{N ls}:DN N 5 [] ls=D3 N ls:=id rfl
theorem WP{N ls}:DN N 6 [] ls=F1 N ls:=id rfl
theorem RZ{N ls}:DN N 10 [] ls=DJ N ls:=id rfl
theorem Og{N ls}:DN N 15 [] ls=CJ N ls:=id rfl
theorem QI{N ls}:DN N 26 [] ls=FL N ls:=id rfl
def HC:=oS Wc Kn DN
def Sr:List Nat:=[3]
def J0(O:Alg)(x:Ags O):O.M:=let u1:=(O.l (x.L 0));let u0:=(O.aj (O.n (lq9 O 50) u1) (lq9 O 50) u1);(O.i (O.al (lq9 O 0) u0 u1) (O.a [.rows (O.ai (x.L 0) (lq9 O 0) u0)]))
def Hi(N:Nat):Env:=fun f fns ls=>none
def Jn:=oS Sr J0 Hi
def R2:List Nat:=[3]
def Hq(O:Alg)(x:Ags O):O.M:=let u3:=(O.l (x.L 0));(O.i (O.s u3 8) (O.c (O.v (fun s0 c0=>let u5:=(O.j c0 0);let u4:=(O.d c0 2);let u2:=(O.m (x.L 0) u4 0);let u1:=(O.p .i64 u4 (lq9 O 1));let u0:=(O.q u4 (O.l u5));(O.b (O.n u4 u3) (O.i (O.q u4 u3) (O.b (O.k (O.e u2 (O.lit .u8 2)) O.o (O.k (O.e u2 (O.lit .u8 5)) (O.h (O.rB (x.L 0) u4 4)) O.g)) (O.i u0 (s0 [.rows (O.w u5 u4 0 [.int u4]),.int u4,.int u1])) (O.i u0 (s0 [.rows (O.w u5 u4 0 [.int (O.d c0 1)]),.int (O.d c0 1),.int u1])))) (O.a [.rows u5]))) [.rows (O.am u3 [.int (lq9 O 0)]),.int (lq9 O (-1)),.int (lq9 O 0)]) fun c0=>(O.a [.rows (O.j c0 0)])))
def Ov:Nat→Env:=eL []
def HE:=oS R2 Hq Ov
def N5:List Nat:=[2,0,0,0,0,0,0,0,1,0,0,0,0,3,3,0,0,0,0]
def GR(O:Alg)(x:Ags O):O.M:=let u32:=(lq9 O 1);let u31:=(lq9 O 0);let u24:=(O.h (O.e (x.I 18) u31));let u23:=(O.h (O.e (x.I 17) u31));let u22:=(O.h (O.e (x.I 16) u31));let u21:=(O.h (O.e (x.I 15) u31));let u18:=(O.z [[.int (x.I 15)],[.int (x.I 16)],[.int (x.I 17)],[.int (x.I 18)]]);let u16:=(O.l u18);(O.c (O.f 19 [] (xr x [2,0,0,0,0,0,0,0,1,0,0,0,0,3,3] 0)) fun c0=>(O.b (O.h (O.e (O.d c0 0) u31)) (O.a [.rows O.u,.int (O.d c0 0)]) (O.c (O.v (fun s1 c1=>let u35:=(O.d c1 0);let u11:=(O.m u18 u35 0);(O.b (O.n u35 u16) (O.i (O.q u35 u16) (O.b (O.k (O.n u11 u32) O.o (O.n (lq9 O 1000) u11)) (O.a [.int u31,.rows O.u,.int (lq9 O 2)]) (s1 [.int (O.p .i64 u35 u32)]))) (O.a [.int u32]))) [.int u31]) fun c1=>(O.b (O.ad c1 0) (O.a [.rows (O.j c1 1),.int (O.d c1 2)]) (O.c (O.f 27 [] (xr x [2,0,0,0,0,0,0,0,1,0,0,0,0,3,3] 0)) fun c2=>let u34:=(O.j c2 0);let u30:=(O.l u34);(O.c (O.f 28 [] [.rows (x.L 14)]) fun c3=>(O.c (O.v (fun s4 c4=>let u36:=(O.j c4 1);let u33:=(O.d c4 3);let u29:=(O.m u34 u33 5);let u28:=(O.m u34 u33 4);let u27:=(O.m u34 u33 0);let u26:=(O.m u34 u33 1);let u25:=(O.m u34 u33 30);let u20:=(O.m (O.j c3 0) u27 0);let u19:=(O.an .i64 u25 (x.I 17));let u17:=(O.aq 1 (O.j c4 2) [u20]);let u15:=(O.ba 2 u36 [u26,u28]);let u14:=(O.ba 2 (O.j c4 0) [u26,u29]);let u13:=(O.aq 2 (O.j c4 0) [u26,u29]);let u12:=(O.aq 2 u36 [u26,u28]);let u8:=(O.av 2 u36 [u26,u28] (.int u12));let u7:=(O.av 2 (O.j c4 0) [u26,u29] (.int u13));let u2:=(O.w u7 u14 2 [.int (O.p .i64 u13 (O.m u34 u33 20))]);let u1:=(O.an .i64 (O.aq 2 u2 [u26,u29]) (x.I 15));let u0:=(O.ac (O.j c4 4) (O.z [[.int u32,.int u29,.int (O.ak .i64 (x.I 15) u1),.int u27]]));(O.b (O.n u33 u30) (O.i (O.q u33 u30) (O.c (O.f 23 [] (rr O u34 u33 [0,0,0,0,0,0,1,1,1,1] 20)) fun c5=>let u9:=(O.av 1 (O.j c4 2) [u20] (.int (O.p .i64 u17 (O.d c5 0))));let u4:=(O.an .i64 (O.aq 1 u9 [u20]) (x.I 18));(O.i (O.q u14 (O.l u7)) (O.c (O.i u21 (O.i u21 (O.b (O.n (O.an .i64 u13 (x.I 15)) u1) (O.i u21 (O.i (O.s (O.l u0) 32) (O.a [.rows u0]))) (O.a [.rows (O.j c4 4)])))) fun c6=>(O.c (O.b (O.rB u34 u33 28) (O.i (O.q u15 (O.l u8)) (O.a [.rows (O.w u8 u15 2 [.int (O.p .i64 u12 u32)])])) (O.a [.rows u36])) fun c7=>let u10:=(O.an .i64 (O.aq 2 (O.j c7 0) [u26,u28]) (x.I 16));let u5:=(O.ac (O.j c6 0) (O.z [[.int (lq9 O 2),.int u28,.int (O.ak .i64 (x.I 16) u10),.int u27]]));(O.c (O.i u22 (O.i u22 (O.b (O.n (O.an .i64 u12 (x.I 16)) u10) (O.i u22 (O.i (O.s (O.l u5) 32) (O.a [.rows u5]))) (O.a [.rows (O.j c6 0)])))) fun c8=>let u6:=(O.ac (O.j c8 0) (O.z [[.int (lq9 O 3),.int u31,.int (O.ak .i64 (x.I 17) u19),.int u27]]));(O.c (O.i u23 (O.i u23 (O.b (O.n (O.an .i64 (O.x .i64 u25 (O.d c5 0)) (x.I 17)) u19) (O.i u23 (O.i (O.s (O.l u6) 32) (O.a [.rows u6]))) (O.a [.rows (O.j c8 0)])))) fun c9=>let u3:=(O.ac (O.j c9 0) (O.z [[.int (lq9 O 4),.int u31,.int (O.ak .i64 (x.I 18) u4),.int u27]]));(O.i (O.q u27 (O.l (O.j c3 0))) (O.c (O.i u24 (O.i u24 (O.b (O.n (O.an .i64 u17 (x.I 18)) u4) (O.i u24 (O.i (O.s (O.l u3) 32) (O.a [.rows u3]))) (O.a [.rows (O.j c9 0)])))) fun c10=>(s4 [.rows u2,.rows (O.j c7 0),.rows u9,.int (O.p .i64 u33 u32),.rows (O.j c10 0)])))))))))) (O.a (ap O (cr O c4 [3,3,3] 0) [.rows (O.j c4 4)])))) [.rows O.u,.rows O.u,.rows O.u,.int u31,.rows O.u]) fun c4=>(O.a [.rows (O.j c4 3),.int u31]))))))))
def B6(N:Nat):Env:=fun f fns ls=>(cond (Nat.beq f 19&&AK fns []) (Bb N ls) (cond (Nat.beq f 23&&AK fns []) (BB N ls) (cond (Nat.beq f 27&&AK fns []) (Bc N ls) (cond (Nat.beq f 28&&AK fns []) (HE N ls) none))))
theorem S1{N ls}:B6 N 19 [] ls=Bb N ls:=id rfl
theorem Oi{N ls}:B6 N 23 [] ls=BB N ls:=id rfl
theorem T6{N ls}:B6 N 27 [] ls=Bc N ls:=id rfl
theorem Mt{N ls}:B6 N 28 [] ls=HE N ls:=id rfl
def F9:=oS N5 GR B6
def Pm:List Nat:=[2,0,0,0,0,0,0,0,1,0,0,0,0,3,3,0]
def Hd(O:Alg)(x:Ags O):O.M:=let u15:=(lq9 O 0);(O.c (O.f 19 [] (xr x [2,0,0,0,0,0,0,0,1,0,0,0,0,3,3] 0)) fun c0=>(O.b (O.h (O.e (O.d c0 0) u15)) (O.a [.rows O.u,.int (O.d c0 0)]) (O.c (O.f 17 [] [.rows (x.L 14)]) fun c1=>let u13:=(O.l (O.j c1 0));let u10:=(O.q (x.I 15) u13);(O.b (O.k (O.n (x.I 15) u15) O.o (O.le u13 (x.I 15))) (O.a [.rows O.u,.int (lq9 O 2)]) (O.c (O.f 27 [] (xr x [2,0,0,0,0,0,0,0,1,0,0,0,0,3,3] 0)) fun c2=>let u14:=(O.l (O.j c2 0));(O.c (O.v (fun s3 c3=>let u18:=(O.d c3 1);let u8:=(O.p .i64 u18 (lq9 O 1));let u6:=(O.q u18 u14);(O.b (O.n u18 u14) (O.i u6 (O.i u6 (O.i (O.s u18 1) (s3 [.rows (O.av 1 (O.j c3 0) [(O.m (O.j c2 0) u18 0)] (.rows (O.ai (O.j c2 0) u18 u8))),.int u8])))) (O.a [.rows (O.j c3 0)]))) [.rows O.u,.int u15]) fun c3=>let u17:=(O.j c3 0);(O.i u10 (O.c (O.v (fun s4 c4=>let u19:=(O.j c4 0);let u16:=(O.d c4 1);let u12:=(O.rB (x.L 14) u16 4);let u11:=(O.m (x.L 14) u16 0);let u9:=(O.q u16 (O.l (x.L 14)));let u7:=(O.p .i64 u16 (lq9 O 1));let u5:=(O.h u9);let u4:=(O.l (O.ap 1 u17 [u16]));let u3:=(O.q u15 u4);let u1:=(O.ac u19 (O.z [(ap O [.int u16] (ap O (rr O (x.L 14) u16 [0,0,0,0,1,0,0,0,0,0,0,0,1,0,0,0,0,1,0] 0) [.rows (O.ap 1 u17 [u16]),.int u15]))]));let u0:=(O.ac u19 (O.z [(ap O [.int u16] (ap O (rr O (x.L 14) u16 [0,0,0,0,1,0,0,0,0,0,0,0,1,0,0,0,0,1,0] 0) [.rows (O.ap 1 u17 [u16]),.int (O.m (x.L 14) u16 2)]))]));(O.i u10 (O.b (O.n u16 (O.m (O.j c1 0) (x.I 15) 1)) (O.i u9 (O.b (O.h (O.e u4 u15)) (O.i u3 (O.i u3 (O.i u3 (O.c (O.f 34 [] (ap O (rr O (O.ap 1 u17 [u16]) u15 [0,0,0,0,0,1,0,0,0,0,1,0] 8) [.int (O.m (O.ap 1 u17 [u16]) u15 5),.int (O.m (O.ap 1 u17 [u16]) u15 6)])) fun c5=>let u2:=(O.ac u19 (O.z [(ap O [.int u16] (ap O (rr O (x.L 14) u16 [0,0,0,0,1,0,0,0,0,0,0,0,1,0,0,0,0,1,0] 0) [.rows (O.ap 1 u17 [u16]),.int (O.d c5 0)]))]));(O.i (O.s (O.l u2) 160) (s4 [.rows u2,.int u7])))))) (O.i u9 (O.i (O.h (O.af (O.e u11 (O.lit .u8 5)) u5)) (O.c (O.b (O.k (O.e u11 (O.lit .u8 5)) u12 O.g) (O.a [.bool (O.k (O.e u11 (O.lit .u8 5)) u12 O.g)]) (O.i u9 (O.i (O.h (O.af (O.e u11 (O.lit .u8 6)) u5)) (O.a [.bool (O.k (O.e u11 (O.lit .u8 6)) (O.h u12) O.g)])))) fun c5=>(O.b (O.r c5 0) (O.i u9 (O.i (O.s (O.l u0) 160) (s4 [.rows u0,.int u7]))) (O.i (O.s (O.l u1) 160) (s4 [.rows u1,.int u7])))))))) (O.a [.rows u19])))) [.rows O.u,.int (O.m (O.j c1 0) (x.I 15) 0)]) fun c4=>(O.a [.rows (O.j c4 0),.int u15])))))))))
def CL(N:Nat):Env:=fun f fns ls=>(cond (Nat.beq f 17&&AK fns []) (Ay N ls) (cond (Nat.beq f 19&&AK fns []) (Bb N ls) (cond (Nat.beq f 27&&AK fns []) (Bc N ls) (cond (Nat.beq f 34&&AK fns []) (DD N ls) none))))
theorem Qh{N ls}:CL N 17 [] ls=Ay N ls:=id rfl
theorem Tw{N ls}:CL N 19 [] ls=Bb N ls:=id rfl
theorem U2{N ls}:CL N 27 [] ls=Bc N ls:=id rfl
theorem Nr{N ls}:CL N 34 [] ls=DD N ls:=id rfl
def EG:=oS Pm Hd CL
def jO:List Nat:=[2,0,0,0,0,0,0,0,1,0,0,0,0,3,3,0]
def WH(O:Alg)(x:Ags O):O.M:=let u1:=(O.t ⟨#[]⟩);let u0:=(lq9 O 0);(O.c (O.f 47 [] (xr x kR 0)) fun c0=>(O.b (O.h (O.e (O.d c0 0) u0)) (O.a [.str u1,.int u0,.int u0,.int u0,.int u0,.int u0,.int u0,.int u0,.bool O.g,.int u0,.int u0,.int u0,.int u0,.rows O.u,.int (O.lit .u8 0),.int u0,.bool O.g,.rows O.u,.int u0,.int u0,.int (O.lit .u8 0),.int u0,.int u0,.int (O.d c0 0)]) (O.b (O.k (O.n (x.I 15) u0) O.o (O.n (O.l (x.L 14)) (x.I 15))) (O.a [.str u1,.int u0,.int u0,.int u0,.int u0,.int u0,.int u0,.int u0,.bool O.g,.int u0,.int u0,.int u0,.int u0,.rows O.u,.int (O.lit .u8 0),.int u0,.bool O.g,.rows O.u,.int u0,.int u0,.int (O.lit .u8 0),.int u0,.int u0,.int (lq9 O 2)]) (O.i (O.al u0 (x.I 15) (O.l (x.L 14))) (O.c (O.f 48 [] (ap O (xr x kR 0) [.rows (O.ai (x.L 14) u0 (x.I 15))])) fun c1=>(O.b (O.h (O.e (O.d c1 24) u0)) (O.a [.str u1,.int u0,.int u0,.int u0,.int u0,.int u0,.int u0,.int u0,.bool O.g,.int u0,.int u0,.int u0,.int u0,.rows O.u,.int (O.lit .u8 0),.int u0,.bool O.g,.rows O.u,.int u0,.int u0,.int (O.lit .u8 0),.int u0,.int u0,.int (lq9 O 10)]) (O.a (ap O (cr O c1 kM 0) [.int u0]))))))))
def Jf(N:Nat):Env:=fun f fns ls=>(cond (Nat.beq f 47&&AK fns []) (Ab N ls) (cond (Nat.beq f 48&&AK fns []) (DB N ls) none))
theorem Zj{N ls}:Jf N 47 [] ls=Ab N ls:=id rfl
theorem QZ{N ls}:Jf N 48 [] ls=DB N ls:=id rfl
def Vm:=oS jO WH Jf
def QC:List Nat:=[2,0,0,0,0,0,0,0,1,0,0,0,0,3,3,0,0]
def Ha(O:Alg)(x:Ags O):O.M:=let u1:=(lq9 O 0);(O.c (O.f 58 [] (ap O (xr x [2,0,0,0,0,0,0,0,1,0,0,0,0,3,3] 0) [.int (O.p .i64 (x.I 15) (lq9 O 1))])) fun c0=>let u0:=(O.l (O.j c0 17));(O.b (O.k (O.h (O.e (O.d c0 23) u1)) O.o (O.le u0 (x.I 16))) (O.a [.int u1,.int u1,.int u1,.int u1,.int u1,.int u1,.int u1,.int u1,.int u1,.int u1,.int u1,.int u1,.int u1,.int u1,.rows O.u,.int u1,.rows O.u,.rows O.u,.bool O.g,.rows O.u,.bool O.g,.int u1,.int u1,.int u1,.rows O.u,.int u1,.int u1,.int (O.lit .u8 0)]) (O.i (O.q (x.I 16) u0) (O.a (rr O (O.j c0 17) (x.I 16) kI 0)))))
def EH(N:Nat):Env:=fun f fns ls=>(cond (Nat.beq f 58&&AK fns []) (Vm N ls) none)
theorem X5{N ls}:EH N 58 [] ls=Vm N ls:=id rfl
def D9:=oS QC Ha EH
def N9:List Nat:=[2,0,0,0,0,0,0,0,1,0,0,0,0,3,3,0]
def GH(O:Alg)(x:Ags O):O.M:=let u12:=(lq9 O 1);let u11:=(lq9 O 0);(O.c (O.f 35 [] (xr x [2,0,0,0,0,0,0,0,1,0,0,0,0,3,3,0] 0)) fun c0=>let u16:=(O.j c0 0);let u9:=(O.l u16);(O.b (O.h (O.e (O.d c0 1) u11)) (O.a [.rows O.u,.int (O.d c0 1)]) (O.c (O.v (fun s1 c1=>let u15:=(O.d c1 2);let u8:=(O.m u16 u15 1);let u7:=(O.m u16 u15 21);let u6:=(O.rL u16 u15 20);let u5:=(O.p .i64 u15 u12);let u4:=(O.l u6);let u2:=(O.q u11 u4);(O.b (O.n u15 u9) (O.i (O.q u15 u9) (O.c (O.b (O.k (O.e u8 (O.lit .u8 2)) O.o (O.k (O.e u8 (O.lit .u8 5)) (O.h (O.rB u16 u15 5)) O.g)) (O.c (O.f 36 [] (ap O (xr x [2,0,0,0,0,0,0,0,1,0,0,0,0,3,3] 0) [.int (O.m u16 u15 0),.int (x.I 15)])) fun c2=>let u14:=(O.d c2 12);let u13:=(O.d c2 13);let u0:=(O.ac (O.j c1 0) (O.z [[.int (O.d c1 1),.int (O.aj (O.n u13 u14) u13 u14),.int (O.aj (O.n u14 u13) u13 u14),.int u11,.int u11,.bool O.g]]));(O.i (O.s (O.l u0) 48) (O.a [.rows u0]))) (O.a [.rows (O.j c1 0)])) fun c2=>let u18:=(O.j c2 0);let u10:=(O.l u18);let u3:=(O.x .i64 u10 u12);(O.i (O.q u3 u10) (O.c (O.b (O.h (O.e u4 u11)) (O.i u2 (O.c (O.f 23 [] (rr O u6 u11 [0,0,0,0,0,0,1,1,1,1] 20)) fun c3=>let u1:=(O.w u18 u3 3 [.int (O.p .i64 (O.m u18 u3 3) (O.d c3 0))]);(O.i u2 (O.b (O.rB u6 u11 26) (O.a [.rows (O.w u1 u3 4 [.int (O.p .i64 (O.m u1 u3 4) u12)])]) (O.a [.rows u1]))))) (O.a [.rows u18])) fun c3=>let u17:=(O.j c3 0);(O.b (O.n u11 u7) (s1 [.rows (O.w u17 u3 5 [.bool (O.k (O.k (O.rB u17 u3 5) O.o (O.e u7 (O.m u17 u3 1))) O.o (O.e u7 (O.m u17 u3 2)))]),.int (O.p .i64 (O.d c1 1) u12),.int u5]) (s1 [.rows u17,.int (O.d c1 1),.int u5])))))) (O.a [.rows (O.j c1 0)]))) [.rows O.u,.int u12,.int u11]) fun c1=>(O.a [.rows (O.j c1 0),.int u11]))))
def CX(N:Nat):Env:=fun f fns ls=>(cond (Nat.beq f 23&&AK fns []) (BB N ls) (cond (Nat.beq f 35&&AK fns []) (EG N ls) (cond (Nat.beq f 36&&AK fns []) (D9 N ls) none)))
theorem Ol{N ls}:CX N 23 [] ls=BB N ls:=id rfl
theorem PZ{N ls}:CX N 35 [] ls=EG N ls:=id rfl
theorem Pe{N ls}:CX N 36 [] ls=D9 N ls:=id rfl
def Gb:=oS N9 GH CX
def O4:List Nat:=[2,0,0,0,0,0,0,0,1,0,0,0,0,3,3,0]
def Hg(O:Alg)(x:Ags O):O.M:=let u4:=(lq9 O 0);(O.c (O.f 35 [] (xr x [2,0,0,0,0,0,0,0,1,0,0,0,0,3,3,0] 0)) fun c0=>let u7:=(O.j c0 0);let u3:=(O.l u7);(O.b (O.h (O.e (O.d c0 1) u4)) (O.a [.rows O.u,.int (O.d c0 1)]) (O.c (O.v (fun s1 c1=>let u6:=(O.j c1 0);let u5:=(O.d c1 1);let u2:=(O.m u7 u5 21);let u1:=(O.p .i64 u5 (lq9 O 1));(O.b (O.n u5 u3) (O.i (O.q u5 u3) (O.b (O.n u4 u2) (O.c (O.f 36 [] (ap O (xr x [2,0,0,0,0,0,0,0,1,0,0,0,0,3,3] 0) [.int (O.m u7 u5 0),.int (x.I 15)])) fun c2=>(O.c (O.f 37 [] (ap O (xr x kR 0) (cr O c2 kI 0))) fun c3=>let u0:=(O.ac u6 (O.z [[.int (O.p .i64 (O.l u6) (lq9 O 1)),.int (O.d c2 3),.int u2,.int (O.d c3 0)]]));(O.i (O.s (O.l u0) 32) (s1 [.rows u0,.int u1])))) (s1 [.rows u6,.int u1]))) (O.a [.rows u6]))) [.rows O.u,.int u4]) fun c1=>(O.a [.rows (O.j c1 0),.int u4]))))
def Cu(N:Nat):Env:=fun f fns ls=>(cond (Nat.beq f 35&&AK fns []) (EG N ls) (cond (Nat.beq f 36&&AK fns []) (D9 N ls) (cond (Nat.beq f 37&&AK fns []) (D8 N ls) none)))
theorem QT{N ls}:Cu N 35 [] ls=EG N ls:=id rfl
theorem QS{N ls}:Cu N 36 [] ls=D9 N ls:=id rfl
theorem QN{N ls}:Cu N 37 [] ls=D8 N ls:=id rfl
def G5:=oS O4 Hg Cu
def TG:List Nat:=[2,0,0,0,0,0,0,0,1,0,0,0,0,3,3,0]
def Jy(O:Alg)(x:Ags O):O.M:=let u4:=(lq9 O 0);let u2:=(O.n (x.I 15) u4);(O.c (O.f 19 [] (xr x [2,0,0,0,0,0,0,0,1,0,0,0,0,3,3] 0)) fun c0=>(O.b (O.h (O.e (O.d c0 0) u4)) (O.a [.rows O.u,.int (O.d c0 0)]) (O.c (O.b (O.h u2) (O.f 17 [] [.rows (x.L 14)]) (O.a [.rows O.u])) fun c1=>(O.b (O.k u2 O.o (O.le (O.l (O.j c1 0)) (x.I 15))) (O.a [.rows O.u,.int (lq9 O 2)]) (O.c (O.f 27 [] (xr x [2,0,0,0,0,0,0,0,1,0,0,0,0,3,3] 0)) fun c2=>let u6:=(O.j c2 0);let u3:=(O.l u6);(O.c (O.v (fun s3 c3=>let u7:=(O.j c3 0);let u5:=(O.d c3 1);let u1:=(O.p .i64 u5 (lq9 O 1));let u0:=(O.ac u7 (O.z [(rr O u6 u5 [0,0,0,0,0,0,0,1,0,0,0,0,0,1,0,0,0,0,1,0,0,0,0,0,0,0,1,1,1,1,0,0] 0)]));(O.b (O.n u5 u3) (O.i (O.q u5 u3) (O.b (O.e (O.m u6 u5 1) (x.I 15)) (O.i (O.s (O.l u0) 216) (s3 [.rows u0,.int u1])) (s3 [.rows u7,.int u1]))) (O.a [.rows u7]))) [.rows O.u,.int u4]) fun c3=>(O.a [.rows (O.j c3 0),.int u4])))))))
def DS(N:Nat):Env:=fun f fns ls=>(cond (Nat.beq f 17&&AK fns []) (Ay N ls) (cond (Nat.beq f 19&&AK fns []) (Bb N ls) (cond (Nat.beq f 27&&AK fns []) (Bc N ls) none)))
theorem S0{N ls}:DS N 17 [] ls=Ay N ls:=id rfl
theorem WR{N ls}:DS N 19 [] ls=Bb N ls:=id rfl
theorem X6{N ls}:DS N 27 [] ls=Bc N ls:=id rfl
def Di:=oS TG Jy DS
def cJ:List Nat:=[2,0,0,0,0,0,0,0,1,0,0,0,0,3,3,0,0]
def Nc(O:Alg)(x:Ags O):O.M:=let u4:=(lq9 O 0);(O.c (O.f 38 [] (xr x [2,0,0,0,0,0,0,0,1,0,0,0,0,3,3,0] 0)) fun c0=>let u7:=(O.j c0 0);let u3:=(O.l u7);(O.b (O.h (O.e (O.d c0 1) u4)) (O.a [.rows O.u,.int (O.d c0 1)]) (O.b (O.k (O.n (x.I 16) u4) O.o (O.n (x.I 1) (x.I 16))) (O.a [.rows O.u,.int (lq9 O 2)]) (O.i (O.s (lq9 O 9) 8) (O.c (O.v (fun s1 c1=>let u6:=(O.j c1 0);let u5:=(O.d c1 1);let u2:=(O.m u7 u5 19);let u1:=(O.p .i64 u5 (lq9 O 1));let u0:=(O.q u2 (O.l u6));(O.b (O.n u5 u3) (O.i (O.q u5 u3) (O.b (O.k (O.e (x.I 16) u4) O.o (O.e (O.m u7 u5 5) (x.I 16))) (O.i u0 (O.i u0 (s1 [.rows (O.w u6 u2 0 [.int (O.p .i64 (O.m u6 u2 0) (O.m u7 u5 20))]),.int u1]))) (s1 [.rows u6,.int u1]))) (O.a [.rows u6]))) [.rows (O.am (lq9 O 9) [.int u4]),.int u4]) fun c1=>(O.a [.rows (O.j c1 0),.int u4]))))))
def PE:Nat→Env:=eL [(38,Di)]
theorem T7{N ls}:PE N 38 [] ls=Di N ls:=id rfl
def ND:=oS cJ Nc PE
def ZL:List Nat:=[2,0,0,0,0,0,0,0,1,0,0,0,0,3,3,0]
def Lo(O:Alg)(x:Ags O):O.M:=let u4:=(lq9 O 0);(O.c (O.f 38 [] (xr x [2,0,0,0,0,0,0,0,1,0,0,0,0,3,3,0] 0)) fun c0=>let u6:=(O.j c0 0);let u3:=(O.l u6);(O.b (O.h (O.e (O.d c0 1) u4)) (O.a [.rows O.u,.int (O.d c0 1)]) (O.c (O.v (fun s1 c1=>let u5:=(O.d c1 1);let u2:=(O.m u6 u5 2);(O.b (O.n u5 u3) (O.i (O.q u5 u3) (O.c (O.v (fun s2 c2=>let u7:=(O.j c2 0);let u1:=(O.ac u7 (O.z [[.int u4]]));(O.b (O.le (O.l u7) u2) (O.i (O.s (O.l u1) 8) (s2 [.rows u1])) (O.a [.rows u7]))) [.rows (O.j c1 0)]) fun c2=>let u8:=(O.j c2 0);let u0:=(O.q u2 (O.l u8));(O.i u0 (O.c (O.f 23 [] (rr O u6 u5 [0,0,0,0,0,0,1,1,1,1] 20)) fun c3=>(O.i u0 (s1 [.rows (O.w u8 u2 0 [.int (O.p .i64 (O.m u8 u2 0) (O.d c3 0))]),.int (O.p .i64 u5 (lq9 O 1))])))))) (O.a [.rows (O.j c1 0)]))) [.rows O.u,.int u4]) fun c1=>(O.a [.rows (O.j c1 0),.int u4]))))
def JM:Nat→Env:=eL [(23,BB),(38,Di)]
theorem H6{N ls}:JM N 23 [] ls=BB N ls:=id rfl
theorem Sm{N ls}:JM N 38 [] ls=Di N ls:=id rfl
def Ii:=oS ZL Lo JM
def eO:List Nat:=[2,0,0,0,0,0,0,0,1,0,0,0,0,3,3,0]
def O6(O:Alg)(x:Ags O):O.M:=let u3:=(lq9 O 1);(O.c (O.f 39 [] (xr x [2,0,0,0,0,0,0,0,1,0,0,0,0,3,3,0] 0)) fun c0=>(O.c (O.v (fun s1 c1=>let u5:=(O.j c1 0);let u4:=(O.d c1 1);let u2:=(O.l u5);let u1:=(O.x .i64 u4 u3);let u0:=(O.q u4 u2);(O.b (O.n u4 u2) (O.i u0 (O.i (O.q u1 u2) (O.i u0 (s1 [.rows (O.w u5 u4 0 [.int (O.p .i64 (O.m u5 u4 0) (O.m u5 u1 0))]),.int (O.p .i64 u4 u3)])))) (O.a [.rows u5]))) [.rows (O.j c0 0),.int u3]) fun c1=>(O.a [.rows (O.j c1 0),.int (O.d c0 1)])))
def RY:Nat→Env:=eL [(39,Ii)]
theorem Tz{N ls}:RY N 39 [] ls=Ii N ls:=id rfl
def PF:=oS eO O6 RY
def XU:List Nat:=[3]
def Kd(O:Alg)(x:Ags O):O.M:=(O.c (O.v (fun s0 c0=>let u0:=(O.d c0 1);(O.b (O.n u0 (O.l (x.L 0))) (O.i (O.q u0 (O.l (x.L 0))) (s0 [.int (O.p .i64 (O.d c0 0) (O.m (x.L 0) u0 1)),.int (O.p .i64 u0 (lq9 O 1))])) (O.a [.int (O.d c0 0)]))) [.int (lq9 O 0),.int (lq9 O 0)]) fun c0=>(O.a [.int (O.d c0 0)]))
def TO:Nat→Env:=eL []
def Hp:=oS XU Kd TO
def FR:List Nat:=[3,3]
def Co(O:Alg)(x:Ags O):O.M:=let u0:=(lq9 O 0);(O.c (O.c (O.v (fun s0 c0=>let u1:=(O.d c0 0);(O.b (O.n u1 (O.l (x.L 0))) (O.i (O.q u1 (O.l (x.L 0))) (O.b (O.e (O.m (x.L 0) u1 2) (O.m (x.L 1) u0 0)) (O.a [.int u0,.int u1]) (s0 [.int (O.p .i64 u1 (lq9 O 1))]))) (O.a [.int (lq9 O 1)]))) [.int u0]) fun c0=>(O.b (O.ad c0 0) (O.a [.int (O.d c0 1)]) (O.a [.int (lq9 O (-1))]))) fun c0=>(O.a [.bool (O.le u0 (O.d c0 0))]))
def CR(N:Nat):Env:=fun f fns ls=>none
def Ch:=oS FR Co CR
def Nk:List Nat:=[3,3]
def GV(O:Alg)(x:Ags O):O.M:=(O.c (O.v (fun s0 c0=>let u0:=(O.d c0 0);(O.b (O.n u0 (O.l (x.L 0))) (O.i (O.q u0 (O.l (x.L 0))) (O.c (O.f 45 [46] [.rows (x.L 1),.rows (O.z [(rr O (x.L 0) u0 [0,0,0,0,0,1,0,0,0,1] 0)])]) fun c1=>(O.b (O.h (O.ao (O.rB (x.L 0) u0 5) (O.r c1 0))) (O.a [.int (lq9 O 0),.bool O.g]) (s0 [.int (O.p .i64 u0 (lq9 O 1))])))) (O.a [.int (lq9 O 1)]))) [.int (lq9 O 0)]) fun c0=>(O.b (O.ad c0 0) (O.a [.bool (O.r c0 1)]) (O.a [.bool O.o])))
def Du(N:Nat):Env:=fun f fns ls=>(cond (Nat.beq f 45&&AK fns [46]) (Ch N ls) none)
theorem I0{N ls}:Du N 45 [46] ls=Ch N ls:=id rfl
def GT:=oS Nk GV Du
def RS:List Nat:=[2,0,0,0,0,0,0,0,1,0,0,0,0,3,3]
def IX(O:Alg)(x:Ags O):O.M:=let u12:=(lq9 O 1);let u11:=(lq9 O 0);(O.c (O.f 5 [] []) fun c0=>(O.c (O.f 6 [] []) fun c1=>(O.c (O.f 4 [] (ap O (cr O c0 kR 0) [.rows (O.j c1 0)])) fun c2=>(O.c (O.f 7 [] []) fun c3=>(O.b (O.k (O.k (O.h (O.r c3 0)) O.o (O.h (O.e (O.d c2 1) u11))) O.o (O.h (O.e (O.l (O.j c2 0)) (lq9 O 2)))) (O.a [.bool O.g]) (O.c (O.f 8 [] [.rows (x.L 14)]) fun c4=>let u20:=(O.j c4 0);(O.c (O.f 4 [] (ap O (xr x kR 0) [.rows u20])) fun c5=>let u21:=(O.j c5 0);let u8:=(O.l u21);(O.b (O.h (O.e (O.d c5 1) u11)) (O.a [.bool O.o]) (O.c (O.f 9 [] (ap O (xr x kR 0) [.rows u20,.int u12,.int u12,.int u12,.int u12])) fun c6=>let u10:=(O.l (O.j c6 0));(O.b (O.h (O.e (O.d c6 1) u11)) (O.a [.bool O.g]) (O.c (O.v (fun s7 c7=>let u19:=(O.d c7 0);(O.b (O.n u19 u8) (O.i (O.q u19 u8) (O.c (O.f 10 [] (ap O (xr x kR 0) [.rows u20,.int u19])) fun c8=>(O.c (O.f 11 [] (ap O (xr x kR 0) [.rows u20,.int u19])) fun c9=>let u9:=(O.l (O.j c9 0));(O.c (O.f 12 [] (ap O (xr x kR 0) [.rows u20,.int u19])) fun c10=>(O.c (O.f 13 [] (ap O (xr x kR 0) [.rows u20,.int u19,.int u11])) fun c11=>let u6:=(O.l (O.j c11 0));(O.c (O.f 14 [] (ap O (xr x kR 0) [.rows u20,.int u19])) fun c12=>let u5:=(O.l (O.j c12 0));let u1:=(O.x .i64 u5 u12);(O.c (O.f 15 [] (ap O (xr x kR 0) [.rows u20,.int u19])) fun c13=>let u7:=(O.l (O.j c13 0));(O.b (O.k (O.k (O.k (O.k (O.k (O.h (O.e (O.d c8 1) u11)) O.o (O.h (O.e (O.d c9 1) u11))) O.o (O.h (O.e (O.d c10 1) u11))) O.o (O.h (O.e (O.d c11 1) u11))) O.o (O.h (O.e (O.d c12 1) u11))) O.o (O.h (O.e (O.d c13 1) u11))) (O.a [.int u11,.bool O.g]) (O.c (O.v (fun s14 c14=>let u14:=(O.d c14 1);(O.b (O.n u14 u9) (O.i (O.q u14 u9) (s14 [.int (O.p .i64 (O.d c14 0) (O.m (O.j c9 0) u14 3)),.int (O.p .i64 u14 u12)])) (O.a [.int (O.d c14 0),.int u14]))) [.int u11,.int u11]) fun c14=>(O.c (O.v (fun s15 c15=>let u15:=(O.d c15 1);(O.b (O.n u15 u6) (O.i (O.q u15 u6) (s15 [.int (O.p .i64 (O.d c15 0) (O.m (O.j c11 0) u15 0)),.int (O.p .i64 u15 u12)])) (O.a [.int (O.d c15 0),.int u15]))) [.int u11,.int u11]) fun c15=>(O.c (O.v (fun s16 c16=>let u16:=(O.d c16 1);(O.b (O.n u16 u7) (O.i (O.q u16 u7) (s16 [.int (O.p .i64 (O.d c16 0) (O.m (O.j c13 0) u16 4)),.int (O.p .i64 u16 u12)])) (O.a [.int (O.d c16 0),.int u16]))) [.int u11,.int u11]) fun c16=>(O.c (O.b (O.n u11 u5) (O.i (O.q u1 u5) (O.a [.int (O.m (O.j c12 0) u1 0)])) (O.a [.int u11])) fun c17=>let u0:=(O.k (O.h (O.e (O.d c14 0) (O.x .i64 (O.m u21 u19 1) (O.m u21 u19 8)))) O.o (O.h (O.e (O.d c17 0) (O.d c14 0))));(O.c (O.b (O.h u0) (O.f 16 [] [.rows (O.j c8 0)]) (O.a [.int u11])) fun c18=>(O.b (O.k (O.k u0 O.o (O.h (O.e (O.d c15 0) (O.d c18 0)))) O.o (O.h (O.e (O.l (O.j c10 0)) (O.m u21 u19 2)))) (O.a [.int u11,.bool O.g]) (O.c (O.f 17 [] [.rows u20]) fun c19=>let u17:=(O.j c19 0);(O.i (O.q u19 (O.l u17)) (O.c (O.v (fun s20 c20=>let u18:=(O.d c20 0);let u13:=(O.d c20 1);let u4:=(O.m (O.j c6 0) u13 3);let u3:=(O.p .i64 u13 u12);(O.b (O.n u13 u10) (O.i (O.q u13 u10) (O.b (O.k (O.k (O.e (O.m (O.j c6 0) u13 0) (lq9 O 2)) (O.le (O.m u17 u19 0) u4) O.g) (O.n u4 (O.m u17 u19 1)) O.g) (s20 [.int (O.x .i64 u18 u12),.int u3]) (s20 [.int u18,.int u3]))) (O.a [.int u18,.int u13]))) [.int (O.d c16 0),.int u11]) fun c20=>let u2:=(O.h (O.e (O.d c20 0) u11));(O.c (O.b (O.h u2) (O.f 18 [] [.rows (O.j c8 0),.rows (O.j c10 0)]) (O.a [.bool O.g])) fun c21=>(O.b (O.k u2 O.o (O.h (O.r c21 0))) (O.a [.int u11,.bool O.g]) (s7 [.int (O.p .i64 u19 u12)])))))))))))))))))))) (O.a [.int u12]))) [.int u11]) fun c7=>(O.b (O.ad c7 0) (O.a [.bool (O.r c7 1)]) (O.a [.bool O.o])))))))))))))
def Am(N:Nat):Env:=fun f fns ls=>(cond (Nat.beq f 4&&AK fns []) (Dt N ls) (cond (Nat.beq f 5&&AK fns []) (D3 N ls) (cond (Nat.beq f 6&&AK fns []) (F1 N ls) (cond (Nat.beq f 7&&AK fns []) (HC N ls) (cond (Nat.beq f 8&&AK fns []) (Jn N ls) (cond (Nat.beq f 9&&AK fns []) (F9 N ls) (cond (Nat.beq f 10&&AK fns []) (DJ N ls) (cond (Nat.beq f 11&&AK fns []) (Gb N ls) (cond (Nat.beq f 12&&AK fns []) (G5 N ls) (cond (Nat.beq f 13&&AK fns []) (ND N ls) (cond (Nat.beq f 14&&AK fns []) (PF N ls) (cond (Nat.beq f 15&&AK fns []) (CJ N ls) (cond (Nat.beq f 16&&AK fns []) (Hp N ls) (cond (Nat.beq f 17&&AK fns []) (Ay N ls) (cond (Nat.beq f 18&&AK fns []) (GT N ls) none)))))))))))))))
theorem SB{N ls}:Am N 4 [] ls=Dt N ls:=id rfl
theorem V3{N ls}:Am N 5 [] ls=D3 N ls:=id rfl
theorem Xr{N ls}:Am N 6 [] ls=F1 N ls:=id rfl
theorem RU{N ls}:Am N 7 [] ls=HC N ls:=id rfl
theorem Sp{N ls}:Am N 8 [] ls=Jn N ls:=id rfl
theorem QV{N ls}:Am N 9 [] ls=F9 N ls:=id rfl
theorem I8{N ls}:Am N 10 [] ls=DJ N ls:=id rfl
theorem QP{N ls}:Am N 11 [] ls=Gb N ls:=id rfl
theorem RJ{N ls}:Am N 12 [] ls=G5 N ls:=id rfl
theorem Jh{N ls}:Am N 13 [] ls=ND N ls:=id rfl
theorem Ka{N ls}:Am N 14 [] ls=PF N ls:=id rfl
theorem Hb{N ls}:Am N 15 [] ls=CJ N ls:=id rfl
theorem Qp{N ls}:Am N 16 [] ls=Hp N ls:=id rfl
theorem SJ{N ls}:Am N 17 [] ls=Ay N ls:=id rfl
theorem QK{N ls}:Am N 18 [] ls=GT N ls:=id rfl
def IQ:=oS RS IX Am
def Ap(xs:List Inn):Rows:=xs.map Inn.ls
def dI:Inn:=⟨0,0,0,0,0,0,0,0,0,0,0,0,0,0,[],0,[],[],false,[],false,0,0,0,[],0,0,0⟩
def inn(xs:List Inn)(i:Nat):Inn:=xs.getD i dI
structure Mat where
 rules:Rul
 stage:Int
 first:Int
 follow:Bool
 inns:List Inn
 pen1:Int
 pen2:Int
 win:Int
 wside:Int
 margin:Int
def Mat.ls(m:Mat):List PV:=[.str m.rules.name,.int m.rules.side,.int m.rules.innings,.int m.rules.overs,.int m.rules.balls,.int m.rules.quota,.int m.rules.wide,.int m.rules.noball,.bool m.rules.freehit,.int m.rules.newball,.int m.rules.followon,.int m.rules.reviews,.int m.rules.outside,.rows m.rules.power,.int m.stage,.int m.first,.bool m.follow,.rows (Ap m.inns),.int m.pen1,.int m.pen2,.int m.win,.int m.wside,.int m.margin]
def Ru(x:Mat×Int):List PV:=[.str x.1.rules.name,.int x.1.rules.side,.int x.1.rules.innings,.int x.1.rules.overs,.int x.1.rules.balls,.int x.1.rules.quota,.int x.1.rules.wide,.int x.1.rules.noball,.bool x.1.rules.freehit,.int x.1.rules.newball,.int x.1.rules.followon,.int x.1.rules.reviews,.int x.1.rules.outside,.rows x.1.rules.power,.int x.1.stage,.int x.1.first,.bool x.1.follow,.rows (Ap x.1.inns),.int x.1.pen1,.int x.1.pen2,.int x.1.win,.int x.1.wside,.int x.1.margin,.int x.2]
theorem nH(xs:List Inn)(i:Nat):AB (Ap xs) i=(match xs[i]? with|some s=>s.ls|none=>[]):=by
 unfold AB Ap
 grind
theorem PI(xs:List Inn)(i:Nat):inn xs i=(match xs[i]? with|some s=>s|none=>dI):=by
 unfold inn
 grind
theorem iP(xs:List Inn):(Ap xs).length=xs.length:=List.length_map _
theorem PXi:(∀xs:List Inn,(Ap xs).length=xs.length)∧(∀(xs:List Inn) (i:Nat),pvI (AD (Ap xs) i 0)=(inn xs i).side)∧(∀(xs:List Inn) (i:Nat),pvI (AD (Ap xs) i 1)=(inn xs i).target)∧(∀(xs:List Inn) (i:Nat),pvI (AD (Ap xs) i 2)=(inn xs i).overs)∧(∀(xs:List Inn) (i:Nat),pvI (AD (Ap xs) i 3)=(inn xs i).runs) ∧
    (∀(xs:List Inn) (i:Nat),pvI (AD (Ap xs) i 4)=(inn xs i).wickets)∧(∀(xs:List Inn) (i:Nat),pvI (AD (Ap xs) i 5)=(inn xs i).wides)∧(∀(xs:List Inn) (i:Nat),pvI (AD (Ap xs) i 6)=(inn xs i).noballs)∧(∀(xs:List Inn) (i:Nat),pvI (AD (Ap xs) i 7)=(inn xs i).byes)∧(∀(xs:List Inn) (i:Nat),pvI (AD (Ap xs) i 8)=(inn xs i).legbyes) ∧
    (∀(xs:List Inn) (i:Nat),pvI (AD (Ap xs) i 9)=(inn xs i).pens)∧(∀(xs:List Inn) (i:Nat),pvI (AD (Ap xs) i 10)=(inn xs i).complete)∧(∀(xs:List Inn) (i:Nat),pvI (AD (Ap xs) i 11)=(inn xs i).inover)∧(∀(xs:List Inn) (i:Nat),pvI (AD (Ap xs) i 12)=(inn xs i).striker)∧(∀(xs:List Inn) (i:Nat),pvI (AD (Ap xs) i 13)=(inn xs i).other) ∧
    (∀(xs:List Inn) (i:Nat),pvL (AD (Ap xs) i 14)=(inn xs i).batters)∧(∀(xs:List Inn) (i:Nat),pvI (AD (Ap xs) i 15)=(inn xs i).bowler)∧(∀(xs:List Inn) (i:Nat),pvL (AD (Ap xs) i 16)=(inn xs i).bowlers)∧(∀(xs:List Inn) (i:Nat),pvL (AD (Ap xs) i 17)=(inn xs i).before)∧(∀(xs:List Inn) (i:Nat),pvB (AD (Ap xs) i 18)=(inn xs i).fresh) ∧
    (∀(xs:List Inn) (i:Nat),pvL (AD (Ap xs) i 19)=(inn xs i).bowled)∧(∀(xs:List Inn) (i:Nat),pvB (AD (Ap xs) i 20)=(inn xs i).freehit)∧(∀(xs:List Inn) (i:Nat),pvI (AD (Ap xs) i 21)=(inn xs i).ballage)∧(∀(xs:List Inn) (i:Nat),pvI (AD (Ap xs) i 22)=(inn xs i).keeper)∧(∀(xs:List Inn) (i:Nat),pvI (AD (Ap xs) i 23)=(inn xs i).outside) ∧
    (∀(xs:List Inn) (i:Nat),pvL (AD (Ap xs) i 24)=(inn xs i).subs)∧(∀(xs:List Inn) (i:Nat),pvI (AD (Ap xs) i 25)=(inn xs i).rev1)∧(∀(xs:List Inn) (i:Nat),pvI (AD (Ap xs) i 26)=(inn xs i).rev2)∧(∀(xs:List Inn) (i:Nat),pvI (AD (Ap xs) i 27)=(inn xs i).ending):=by
  refine⟨iP,?_,?_,?_,?_,?_,?_,?_,?_,?_,?_,?_,?_,?_,?_,?_,?_,?_,?_,?_,?_,?_,?_,?_,?_,?_,?_,?_,?_⟩
  all_goals (intro xs i;rw[PI];unfold AD;rw[nH];cases xs[i]?<;>rfl)
theorem Mat.eta(m:Mat):Mat.mk m.rules m.stage m.first m.follow m.inns m.pen1 m.pen2 m.win m.wside m.margin=m:=rfl
theorem PXk:(∀m:Mat,m.ls=[.str m.rules.name,.int m.rules.side,.int m.rules.innings,.int m.rules.overs,.int m.rules.balls,.int m.rules.quota,.int m.rules.wide,.int m.rules.noball,.bool m.rules.freehit,.int m.rules.newball,.int m.rules.followon,.int m.rules.reviews,.int m.rules.outside,.rows m.rules.power,.int m.stage,.int m.first,.bool m.follow,.rows (Ap m.inns),.int m.pen1,.int m.pen2,.int m.win,.int m.wside,.int m.margin]) ∧
    (∀x:Mat×Int,Ru x=[.str x.1.rules.name,.int x.1.rules.side,.int x.1.rules.innings,.int x.1.rules.overs,.int x.1.rules.balls,.int x.1.rules.quota,.int x.1.rules.wide,.int x.1.rules.noball,.bool x.1.rules.freehit,.int x.1.rules.newball,.int x.1.rules.followon,.int x.1.rules.reviews,.int x.1.rules.outside,.rows x.1.rules.power,.int x.1.stage,.int x.1.first,.bool x.1.follow,.rows (Ap x.1.inns),.int x.1.pen1,.int x.1.pen2,.int x.1.win,.int x.1.wside,.int x.1.margin,.int x.2]) ∧
    (∀m:Mat,Mat.mk m.rules m.stage m.first m.follow m.inns m.pen1 m.pen2 m.win m.wside m.margin=m):=⟨fun _=>rfl,fun _=>rfl,fun _=>rfl⟩
theorem xq:∀(ps r pre:List PV),r.length=ps.length→Ad (pre++r) pre.length ps=pre++ps
 | [],r,pre,h=>by
  have:r=[]:=List.eq_nil_of_length_eq_zero h;subst this;rfl
 |p::ps,[],pre,h=>by cases h
 |p::ps,a::r,pre,h=>by
  have ih:=xq ps r (pre++[p]) (by grind);simp only[List.length_append,List.length_cons,List.length_nil,List.append_assoc,List.cons_append,List.nil_append]at ih;unfold Ad
  simp_all
theorem AEU(a s:Inn):Ad a.ls 0 s.ls=s.ls:=xq s.ls a.ls [] rfl
theorem AEJ(a:Inn)(e:Int):Ad a.ls 27 [.int e]=Inn.ls { a with ending:=e }:=by
 rfl
theorem ADV{xs:List Inn}{i:Nat}(h:i<xs.length)(s:Inn):(Ap xs).set i (Ad (AB (Ap xs) i) 0 s.ls)=Ap (xs.set i s):=by
 have e:AB (Ap xs) i=(xs[i]).ls:=by rw[nH,zzo h]
 rw[e,AEU];exact List.map_set.symm
theorem ADh{xs:List Inn}{i:Nat}(h:i<xs.length)(e:Int):(Ap xs).set i (Ad (AB (Ap xs) i) 27 [.int e])=Ap (xs.set i { inn xs i with ending:=e }):=by
 have e1:AB (Ap xs) i=(inn xs i).ls:=by rw[nH,PI,zzo h]
 rw[e1,AEJ];exact List.map_set.symm
theorem AD9(xs:List Inn)(s:Inn):Ap xs++[s.ls]=Ap (xs++[s]):=by
 show List.map Inn.ls xs++List.map Inn.ls [s]=List.map Inn.ls (xs++[s])
 simp_all
theorem ADU(xs:List Inn)(i:Nat)(s:Inn):(Ap xs).set i (Ad (AB (Ap xs) i) 0 s.ls)=Ap (xs.set i s):=by
 by_cases h:i<xs.length
 ·exact ADV h s
 rw[List.set_eq_of_length_le (by rw[iP];omega),List.set_eq_of_length_le (by omega)]
theorem wX(xs:List Inn)(i:Nat)(e:Int):(Ap xs).set i (Ad (AB (Ap xs) i) 27 [.int e])=Ap (xs.set i { inn xs i with ending:=e }):=by
 by_cases h:i<xs.length
 ·exact ADh h e
 rw[List.set_eq_of_length_le (by rw[iP];omega),List.set_eq_of_length_le (by omega)]
theorem PXr:(∀(xs:List Inn) (x0 x1 x2 x3 x4 x5 x6 x7 x8 x9 x10 x11 x12 x13 x15 x21 x22 x23 x25 x26 x27:Int) (x18 x20:Bool) (x14 x16 x17 x19 x24:Rows),Ap xs++[([.int x0,.int x1,.int x2,.int x3,.int x4,.int x5,.int x6,.int x7,.int x8,.int x9,.int x10,.int x11,.int x12,.int x13,.rows x14,.int x15,.rows x16,.rows x17,.bool x18,.rows x19,.bool x20,.int x21,.int x22,.int x23,.rows x24,.int x25,.int x26,.int x27]:List PV)]=Ap (xs++[⟨x0,x1,x2,x3,x4,x5,x6,x7,x8,x9,x10,x11,x12,x13,x14,x15,x16,x17,x18,x19,x20,x21,x22,x23,x24,x25,x26,x27⟩]))∧(∀(xs:List Inn) (i:Nat) (x0 x1 x2 x3 x4 x5 x6 x7 x8 x9 x10 x11 x12 x13 x15 x21 x22 x23 x25 x26 x27:Int) (x18 x20:Bool) (x14 x16 x17 x19 x24:Rows),(Ap xs).set i (Ad (AB (Ap xs) i) 0 [.int x0,.int x1,.int x2,.int x3,.int x4,.int x5,.int x6,.int x7,.int x8,.int x9,.int x10,.int x11,.int x12,.int x13,.rows x14,.int x15,.rows x16,.rows x17,.bool x18,.rows x19,.bool x20,.int x21,.int x22,.int x23,.rows x24,.int x25,.int x26,.int x27])=Ap (xs.set i ⟨x0,x1,x2,x3,x4,x5,x6,x7,x8,x9,x10,x11,x12,x13,x14,x15,x16,x17,x18,x19,x20,x21,x22,x23,x24,x25,x26,x27⟩)) ∧
    (∀(xs:List Inn) (i:Nat) (e:Int),(Ap xs).set i (Ad (AB (Ap xs) i) 27 [.int e])=Ap (xs.set i { inn xs i with ending:=e })):=
  ⟨fun xs x0 x1 x2 x3 x4 x5 x6 x7 x8 x9 x10 x11 x12 x13 x15 x21 x22 x23 x25 x26 x27 x18 x20 x14 x16 x17 x19 x24=>AD9 xs ⟨x0,x1,x2,x3,x4,x5,x6,x7,x8,x9,x10,x11,x12,x13,x14,x15,x16,x17,x18,x19,x20,x21,x22,x23,x24,x25,x26,x27⟩,fun xs i x0 x1 x2 x3 x4 x5 x6 x7 x8 x9 x10 x11 x12 x13 x15 x21 x22 x23 x25 x26 x27 x18 x20 x14 x16 x17 x19 x24=>ADU xs i ⟨x0,x1,x2,x3,x4,x5,x6,x7,x8,x9,x10,x11,x12,x13,x14,x15,x16,x17,x18,x19,x20,x21,x22,x23,x24,x25,x26,x27⟩,wX⟩
theorem It{N:Nat}{s18 s20:Bool}(h:Fit s14 s16 s17 s19 s24):BE N [.int s0,.int s1,.int s2,.int s3,.int s4,.int s5,.int s6,.int s7,.int s8,.int s9,.int s10,.int s11,.int s12,.int s13,.rows s14,.int s15,.rows s16,.rows s17,.bool s18,.rows s19,.bool s20,.int s21,.int s22,.int s23,.rows s24,.int s25,.int s26,.int s27]=some [.int s0,.int s1,.int s2,.int s3,.int s4,.int s5,.int s6,.int s7,.int s8,.int s9,.int s10,.int s11,.int s12,.int s13,.rows s14,.int s15,.rows s16,.rows s17,.bool s18,.rows s19,.bool s20,.int s21,.int s22,.int s23,.rows s24,.int s25,.int s26,.int s27]:=by
 show QD (std (IZ N) N) (xOf _)=_;simp only[QD,N2,QO,PX,lq9,std,xOf,PXb,PXc,PXn,PXm,Nat.reduceAdd,Int.reduceBEq,Af,As,Al,CA h.bt (show 1≤4096 by omega),CA h.bw' (show 8≤4096 by omega),CA h.bf (show 8≤4096 by omega),CA h.bd (show 8≤4096 by omega),CA h.sb (show 1≤4096 by omega)]
theorem Ip{N:Nat}{s18 s20:Bool}{p:Int}  : BF N [.int s0,.int s1,.int s2,.int s3,.int s4,.int s5,.int s6,.int s7,.int s8,.int s9,.int s10,.int s11,.int s12,.int s13,.rows s14,.int s15,.rows s16,.rows s17,.bool s18,.rows s19,.bool s20,.int s21,.int s22,.int s23,.rows s24,.int s25,.int s26,.int s27,.int p]=some [.bool (inR p s14.length)]:=by
 show MO (std (WN N) N) (xOf _)=_;simp only[MO,lq9,std,xOf,PXb,PXc,PXn,PXm,Nat.reduceAdd,Int.reduceBEq];rfl
def A1(s:Inn)(d:Del):Inn:=
  let odd := !(d.runs.tmod 2==0) != d.crossed
  let t:Inn:=cond odd { s with striker:=s.other,other:=s.striker } s
  let k:Bool:=d.how==0
  cond (!k&&(d.victim==1 && !(s.striker==0)))
    { t with striker:=cond odd t.striker 0,other:=cond odd 0 t.other,batters:=cond (inR s.striker s.batters.length) (Q9 s.batters s.striker 2) s.batters,wickets:=IntKind.i64.wrap (s.wickets+1) }
    (cond (!k&&(d.victim==2 && !(s.other==0)))
      { t with striker:=cond odd 0 t.striker,other:=cond odd t.other 0,batters:=cond (inR s.other s.batters.length) (Q9 s.batters s.other 2) s.batters,wickets:=IntKind.i64.wrap (s.wickets+1) }
      t)
theorem tA{N:Nat}{s18 s20:Bool}{d0 d1 d2 d3 d4 d6 d7 d8 d9 d11:Int}{d5 d10:Bool}(h:Fit s14 s16 s17 s19 s24):Lj N [.int s0,.int s1,.int s2,.int s3,.int s4,.int s5,.int s6,.int s7,.int s8,.int s9,.int s10,.int s11,.int s12,.int s13,.rows s14,.int s15,.rows s16,.rows s17,.bool s18,.rows s19,.bool s20,.int s21,.int s22,.int s23,.rows s24,.int s25,.int s26,.int s27,.int d0,.int d1,.int d2,.int d3,.int d4,.bool d5,.int d6,.int d7,.int d8,.int d9,.bool d10,.int d11]=some (A1 (⟨s0,s1,s2,s3,s4,s5,s6,s7,s8,s9,s10,s11,s12,s13,s14,s15,s16,s17,s18,s19,s20,s21,s22,s23,s24,s25,s26,s27⟩:Inn) (⟨d0,d1,d2,d3,d4,d5,d6,d7,d8,d9,d10,d11⟩:Del)).ls:=by
 show Oq (std (Lz N) N) (xOf _)=_;simp only[Oq,WU,T8,lq9,std,xOf,PXb,PXc,PXn,PXm,Nat.reduceAdd,Int.reduceBEq,It h,Ip,AFH h.bt];unfold A1;cases d5<;>cases d2.tmod 2==0<;>cases d6==0<;>cases d7==1<;>cases d7==2<;>cases s12==0<;>cases s13==0<;>rfl
def L4(s:Inn):Inn:={ s with striker:=s.other,other:=s.striker }
theorem kY{N:Nat}{s18 s20:Bool}(h:Fit s14 s16 s17 s19 s24):Hj N [.int s0,.int s1,.int s2,.int s3,.int s4,.int s5,.int s6,.int s7,.int s8,.int s9,.int s10,.int s11,.int s12,.int s13,.rows s14,.int s15,.rows s16,.rows s17,.bool s18,.rows s19,.bool s20,.int s21,.int s22,.int s23,.rows s24,.int s25,.int s26,.int s27]=some (L4 (⟨s0,s1,s2,s3,s4,s5,s6,s7,s8,s9,s10,s11,s12,s13,s14,s15,s16,s17,s18,s19,s20,s21,s22,s23,s24,s25,s26,s27⟩:Inn)).ls:=by
 show KY (std (MZ N) N) (xOf _)=_;simp only[KY,So,lq9,std,xOf,PXb,PXc,PXn,PXm,Nat.reduceAdd,Int.reduceBEq,It h];rfl
theorem iL{N:Nat}{v:Int}  : Dm N [.int v]=some [.bool (!(v==0))]:=by
 rfl
theorem gE{N:Nat}{v:Int}  : Fl N [.int v]=some [.bool (!(v==0))]:=by
 rfl
theorem ZF{N:Nat}{s18 s20:Bool}(h:s14.length≤1048576)(hN:2097152<N):Cs N [.int s0,.int s1,.int s2,.int s3,.int s4,.int s5,.int s6,.int s7,.int s8,.int s9,.int s10,.int s11,.int s12,.int s13,.rows s14,.int s15,.rows s16,.rows s17,.bool s18,.rows s19,.bool s20,.int s21,.int s22,.int s23,.rows s24,.int s25,.int s26,.int s27]=some [.bool (Dz s14)]:=by
 show F8 (std (GY N) N) (xOf _)=_;simp only[F8,H7,lq9,std,xOf,PXb,PXc,PXn,AH];rw[show Dz s14=iLe 0 (S5 (fun i => !(atI s14 i 0==0)) s14.length)from(Lx _ _).symm];rw[Option.bind_assoc];refine AQ (DF (len:=s14.length) (FM fun i => !(atI s14 i 0==0)) ?_ ?_ s14.length 0 N (by omega) (by omega)) ?_
 ·intro self;simp only[PXb,PXc,PXn,AH,Aq]
 ·intro i self hi;simp only[PXb,PXc,PXn,AH,BN (show i≤1099511627776 by omega),Ae hi,AM hi,FM,CC,H7,iL]
  grind
 unfold S5;cases Be (FM fun i => !(atI s14 i 0==0)) s14.length 0<;>rfl
theorem lI{N:Nat}{s18 s20:Bool}(h:s14.length≤1048576)(hN:2097152<N):HJ N [.int s0,.int s1,.int s2,.int s3,.int s4,.int s5,.int s6,.int s7,.int s8,.int s9,.int s10,.int s11,.int s12,.int s13,.rows s14,.int s15,.rows s16,.rows s17,.bool s18,.rows s19,.bool s20,.int s21,.int s22,.int s23,.rows s24,.int s25,.int s26,.int s27]=some [.bool (Dz s14)]:=by
 show KV (std (Mg N) N) (xOf _)=_;simp only[KV,Gt,lq9,std,xOf,PXb,PXc,PXn,AH];rw[show Dz s14=iLe 0 (S5 (fun i => !(atI s14 i 0==0)) s14.length)from(Lx _ _).symm];rw[Option.bind_assoc];refine AQ (DF (len:=s14.length) (FM fun i => !(atI s14 i 0==0)) ?_ ?_ s14.length 0 N (by omega) (by omega)) ?_
 ·intro self;simp only[PXb,PXc,PXn,AH,Aq]
 ·intro i self hi;simp only[PXb,PXc,PXn,AH,BN (show i≤1099511627776 by omega),Ae hi,AM hi,FM,CC,Gt,gE]
  grind
 unfold S5;cases Be (FM fun i => !(atI s14 i 0==0)) s14.length 0<;>rfl
theorem Wg{N:Nat}{s18 s20:Bool}(h:s14.length≤1048576)(hN:2097152<N):Bp N [.int s0,.int s1,.int s2,.int s3,.int s4,.int s5,.int s6,.int s7,.int s8,.int s9,.int s10,.int s11,.int s12,.int s13,.rows s14,.int s15,.rows s16,.rows s17,.bool s18,.rows s19,.bool s20,.int s21,.int s22,.int s23,.rows s24,.int s25,.int s26,.int s27]=some [.bool (J8 s14 s12 s13)]:=by
 show FE (std (FZ N) N) (xOf _)=_;simp only[FE,Qu,lq9,std,xOf,PXb,PXc,PXn,PXm,Nat.reduceAdd,Int.reduceBEq,ZF h hN];rfl
theorem qs{N:Nat}{s18 s20:Bool}(h:s14.length≤1048576)(hN:2097152<N):Df N [.int s0,.int s1,.int s2,.int s3,.int s4,.int s5,.int s6,.int s7,.int s8,.int s9,.int s10,.int s11,.int s12,.int s13,.rows s14,.int s15,.rows s16,.rows s17,.bool s18,.rows s19,.bool s20,.int s21,.int s22,.int s23,.rows s24,.int s25,.int s26,.int s27]=some [.rows (Fr s14 s14.length)]:=by
 show Gz (std (PS N) N) (xOf _)=_;simp only[Gz,lq9,std,xOf,PXb,PXc,PXn,AH];refine AQ (BC (len:=s14.length) (fun i=>[.rows (Fr s14 i),.int (i:Int)]) [.rows (Fr s14 s14.length)] ?_ ?_ N (by omega)) rfl
 ·intro self;simp only[PXb,PXc,PXn,AH,Aq]
 intro i self hi;have h2:(Fr s14 i++[[PV.int ((i:Int)+1)]]).length≤4194304:=by have:=iS s14 i;simp;omega
 simp only[PXb,PXc,PXn,AH,BN (show i≤1099511627776 by omega),Ae hi,AM hi,CC,Fr,Dk h2 (show 8≤4096 by omega)]
 grind
def Rf(s:Inn)(p q:Int):Inn×Int:=
  cond (Dz s.batters) (s,1) (cond (!inR p s.batters.length || !inR q s.batters.length) (s,3) (cond (p==q) (s,4)
    ({ s with batters:=Q9 (Q9 s.batters p 1) q 1,striker:=p,other:=q },0)))
theorem qo{N:Nat}{s18 s20:Bool}{p:Int}{q:Int}(h:Fit s14 s16 s17 s19 s24)(hN:2097152<N):Jt N [.int s0,.int s1,.int s2,.int s3,.int s4,.int s5,.int s6,.int s7,.int s8,.int s9,.int s10,.int s11,.int s12,.int s13,.rows s14,.int s15,.rows s16,.rows s17,.bool s18,.rows s19,.bool s20,.int s21,.int s22,.int s23,.rows s24,.int s25,.int s26,.int s27,.int p,.int q]=some (Bo (Rf (⟨s0,s1,s2,s3,s4,s5,s6,s7,s8,s9,s10,s11,s12,s13,s14,s15,s16,s17,s18,s19,s20,s21,s22,s23,s24,s25,s26,s27⟩:Inn) p q)):=by
 show Na (std (HM N) N) (xOf _)=_;generalize hres:(some (Bo (Rf (⟨s0,s1,s2,s3,s4,s5,s6,s7,s8,s9,s10,s11,s12,s13,s14,s15,s16,s17,s18,s19,s20,s21,s22,s23,s24,s25,s26,s27⟩:Inn) p q)):Option (List PV))=RR;simp only[Na,Vz,Su,S4,lq9,std,xOf,PXb,PXc,PXn,PXm,Nat.reduceAdd,Int.reduceBEq,It h,ZF h.bt hN,Ip];subst hres;simp only[Rf];cases Dz s14<;>try rfl
 cases hp:inR p s14.length<;>cases hq:inR q s14.length<;>try rfl
 rw[Nd hp h.bt,Nd hq h.bt];cases p==q<;>rfl
def P3(s:Inn)(p:Int):Int:=
 cond (!inR p s.batters.length) 3 (cond (!J8 s.batters s.striker s.other||atI s.batters (ix p) 0==1) 4 (cond (atI s.batters (ix p) 0==2) 5 0))
theorem dY{N:Nat}{s18 s20:Bool}{p:Int}(h:s14.length≤1048576)(hN:2097152<N):Ez N [.int s0,.int s1,.int s2,.int s3,.int s4,.int s5,.int s6,.int s7,.int s8,.int s9,.int s10,.int s11,.int s12,.int s13,.rows s14,.int s15,.rows s16,.rows s17,.bool s18,.rows s19,.bool s20,.int s21,.int s22,.int s23,.rows s24,.int s25,.int s26,.int s27,.int p]=some [.int (P3 (⟨s0,s1,s2,s3,s4,s5,s6,s7,s8,s9,s10,s11,s12,s13,s14,s15,s16,s17,s18,s19,s20,s21,s22,s23,s24,s25,s26,s27⟩:Inn) p)]:=by
 show Pk (std (MC N) N) (xOf _)=_;generalize hres:(some [.int (P3 (⟨s0,s1,s2,s3,s4,s5,s6,s7,s8,s9,s10,s11,s12,s13,s14,s15,s16,s17,s18,s19,s20,s21,s22,s23,s24,s25,s26,s27⟩:Inn) p)]:Option (List PV))=RR;simp only[Pk,TE,UU,lq9,std,xOf,PXb,PXc,PXn,PXm,Nat.reduceAdd,Int.reduceBEq,Ip,Wg h hN];subst hres;simp only[P3];cases hp:inR p s14.length<;>try rfl
 rw[Nd hp h];cases J8 s14 s12 s13<;>try rfl
 simp only[PXb,PXc,PXn,PXm,Nat.reduceAdd,Int.reduceBEq,atI,ix]
theorem de{s:Inn}{p:Int}(h:(P3 s p==0)=true):inR p s.batters.length=true:=by
 unfold P3 at h
 grind
def M3(s:Inn)(p:Int):Inn×Int:=
 cond (P3 s p==0) ({ s with batters:=Q9 s.batters p 1,striker:=cond (s.striker==0) p s.striker,other:=cond (s.striker==0) s.other p },0) (s,P3 s p)
def GW(s:Inn)(p:Int):Inn×Int:=
 cond (P3 s p==0) ({ s with batters:=Q9 s.batters p 2,wickets:=IntKind.i64.wrap (s.wickets+1) },0) (s,P3 s p)
theorem oZ{N:Nat}{s18 s20:Bool}{p:Int}(h:Fit s14 s16 s17 s19 s24)(hN:2097152<N):Ia N [.int s0,.int s1,.int s2,.int s3,.int s4,.int s5,.int s6,.int s7,.int s8,.int s9,.int s10,.int s11,.int s12,.int s13,.rows s14,.int s15,.rows s16,.rows s17,.bool s18,.rows s19,.bool s20,.int s21,.int s22,.int s23,.rows s24,.int s25,.int s26,.int s27,.int p]=some (Bo (M3 (⟨s0,s1,s2,s3,s4,s5,s6,s7,s8,s9,s10,s11,s12,s13,s14,s15,s16,s17,s18,s19,s20,s21,s22,s23,s24,s25,s26,s27⟩:Inn) p)):=by
 show Lt (std (JX N) N) (xOf _)=_;generalize hres:(some (Bo (M3 (⟨s0,s1,s2,s3,s4,s5,s6,s7,s8,s9,s10,s11,s12,s13,s14,s15,s16,s17,s18,s19,s20,s21,s22,s23,s24,s25,s26,s27⟩:Inn) p)):Option (List PV))=RR;simp only[Lt,UJ,UP,lq9,std,xOf,PXb,PXc,PXn,PXm,Nat.reduceAdd,Int.reduceBEq,It h,dY h.bt hN];subst hres;simp only[M3];cases hm:P3 (⟨s0,s1,s2,s3,s4,s5,s6,s7,s8,s9,s10,s11,s12,s13,s14,s15,s16,s17,s18,s19,s20,s21,s22,s23,s24,s25,s26,s27⟩:Inn) p==0<;>try rfl
 rw[Nd (de hm) h.bt];cases s12==0<;>rfl
theorem iz{N:Nat}{s18 s20:Bool}{p:Int}(h:Fit s14 s16 s17 s19 s24)(hN:2097152<N):GX N [.int s0,.int s1,.int s2,.int s3,.int s4,.int s5,.int s6,.int s7,.int s8,.int s9,.int s10,.int s11,.int s12,.int s13,.rows s14,.int s15,.rows s16,.rows s17,.bool s18,.rows s19,.bool s20,.int s21,.int s22,.int s23,.rows s24,.int s25,.int s26,.int s27,.int p]=some (Bo (GW (⟨s0,s1,s2,s3,s4,s5,s6,s7,s8,s9,s10,s11,s12,s13,s14,s15,s16,s17,s18,s19,s20,s21,s22,s23,s24,s25,s26,s27⟩:Inn) p)):=by
 show JC (std (E8 N) N) (xOf _)=_;generalize hres:(some (Bo (GW (⟨s0,s1,s2,s3,s4,s5,s6,s7,s8,s9,s10,s11,s12,s13,s14,s15,s16,s17,s18,s19,s20,s21,s22,s23,s24,s25,s26,s27⟩:Inn) p)):Option (List PV))=RR;simp only[JC,Sg,QF,Si,lq9,std,xOf,PXb,PXc,PXn,PXm,Nat.reduceAdd,Int.reduceBEq,It h,dY h.bt hN,Ip];subst hres;simp only[GW];cases hm:P3 (⟨s0,s1,s2,s3,s4,s5,s6,s7,s8,s9,s10,s11,s12,s13,s14,s15,s16,s17,s18,s19,s20,s21,s22,s23,s24,s25,s26,s27⟩:Inn) p==0<;>try rfl
 have hk:inR p s14.length=true:=de hm;rw[Nd hk h.bt,hk];rfl
def G2(s:Inn)(p:Int)(hurt:Bool):Inn×Int:=
  cond (!inR p s.batters.length) (s,3) (cond (s.striker==0||s.other==0) (s,6) (cond (!(p==s.striker) && !(p==s.other)) (s,4)
    (cond (hurt&&((Fr s.batters s.batters.length).length:Int)==0) (s,19)
      ({ s with striker:=cond (p==s.striker) 0 s.striker,other:=cond (p==s.striker) s.other 0,batters:=Q9 s.batters p (cond hurt 3 2),wickets:=cond hurt s.wickets (IntKind.i64.wrap (s.wickets+1)) },0))))
theorem kA{N:Nat}{s18 s20:Bool}{p:Int}{b:Bool}(h:Fit s14 s16 s17 s19 s24)(hN:2097152<N):HI N [.int s0,.int s1,.int s2,.int s3,.int s4,.int s5,.int s6,.int s7,.int s8,.int s9,.int s10,.int s11,.int s12,.int s13,.rows s14,.int s15,.rows s16,.rows s17,.bool s18,.rows s19,.bool s20,.int s21,.int s22,.int s23,.rows s24,.int s25,.int s26,.int s27,.int p,.bool b]=some (Bo (G2 (⟨s0,s1,s2,s3,s4,s5,s6,s7,s8,s9,s10,s11,s12,s13,s14,s15,s16,s17,s18,s19,s20,s21,s22,s23,s24,s25,s26,s27⟩:Inn) p b)):=by
 show Kq (std (Fj N) N) (xOf _)=_;generalize hres:(some (Bo (G2 (⟨s0,s1,s2,s3,s4,s5,s6,s7,s8,s9,s10,s11,s12,s13,s14,s15,s16,s17,s18,s19,s20,s21,s22,s23,s24,s25,s26,s27⟩:Inn) p b)):Option (List PV))=RR;simp only[Kq,SM,TF,RT,lq9,std,xOf,PXb,PXc,PXn,PXm,Nat.reduceAdd,Int.reduceBEq,It h,Ip,qs h.bt hN];subst hres;simp only[G2];cases hp:inR p s14.length<;>try rfl
 rw[Nd hp h.bt];cases s12==0<;>cases s13==0<;>try rfl
 cases p==s12<;>cases p==s13<;>cases b<;>try rfl
 all_goals (simp only[PXb,PXc,PXn,PXm,Nat.reduceAdd,Int.reduceBEq];cases((Fr s14 s14.length).length:Int)==0<;>rfl)
def btw(a b c:Int):Bool:=iLe b a&&iLe a c
theorem E9(N:Nat)(a b c:Int):Az N [.int a,.int b,.int c]=some [.bool (btw a b c)]:=by
 show some [PV.bool (cond (iLe b a) (iLe a c) false)]=_;rw[lK];rfl
theorem N8(N:Nat)(a b c:Int):DR N [.int a,.int b,.int c]=some [.bool (btw a b c)]:=by
 show some [PV.bool (cond (iLe b a) (iLe a c) false)]=_;rw[lK];rfl
def VP(x1 x2 x3 x4 x5 x6 x7 x9 x10 x11 x12:Int):Bool:=btw x1 2 11&&btw x2 1 2&&btw x3 0 90&&btw x4 4 8&&btw x5 0 90&&btw x6 1 5&&btw x7 1 5&&btw x9 0 200&&btw x10 0 1000&&btw x11 0 9&&btw x12 0 11
theorem iK(N:Nat)(x0:ByteArray)(x1 x2 x3 x4 x5 x6 x7 x9 x10 x11 x12:Int)(x8:Bool)(x13:Rows) :
   HO N [.str x0,.int x1,.int x2,.int x3,.int x4,.int x5,.int x6,.int x7,.bool x8,.int x9,.int x10,.int x11,.int x12,.rows x13]=some [.bool (VP x1 x2 x3 x4 x5 x6 x7 x9 x10 x11 x12)]:=by
  show Ki (std (MX N) N) (xOf _)=_;have e:∀ls,MX N 69 [] ls=DR N ls:=fun ls=>rfl
  simp only[Ki,lq9,std,xOf,e,N8,PXb,PXc,PXn,AH,VP]
def fV(s:ByteArray)(i:Nat):Bool := !(iLe 65 (Rh s i)&&iLe (Rh s i) 90)&&((i:Int)==0||((!(Rh s i==95) && !(Rh s i==45))&&(iLt (Rh s i) 48||iLt 57 (Rh s i))))
def kE(s:ByteArray):Bool := !CE (fV s) s.size 0&&(iLe 1 s.size&&iLe s.size 16)
theorem AEV(s:ByteArray):(Ht s).length=s.size:=by
 simp only[Ht,List.length_map,Array.length_toList];rfl
theorem AFq(s:ByteArray)(i:Nat)(h:i<s.size):pvI (AD (Ht s) i 0)=Rh s i:=by
 unfold AD AB AA Ht Rh
 simp_all
theorem tM(N:Nat)(s:ByteArray)(hN:s.size<N)(hs:s.size≤1048576):Mm N [.str s]=some [.bool (kE s)]:=by
 show Rq (std (bN N) N) (xOf _)=_;simp only[Rq,lq9,std,xOf,AEV,PXb,PXc,PXn,AH];refine AQ (Nh (len:=s.size) (fV s) [.bool false] ?_ ?_ N hN) ?_
 ·intro self;simp only[PXb,PXc,PXn,AH,Aq]
 ·intro i self hi;simp only[PXb,PXc,PXn,AH,Int.toNat_natCast,AFq s i hi,BN (show i≤1099511627776 by omega),Ae hi,AM hi,fV]
 unfold kE;cases CE (fV s) s.size 0<;>rfl
theorem ADZ{i len:Nat}(h:i<len)(hl:len≤1099511627776):(!iLt 0 (i:Int)||iIn (IntKind.i64.wrap ((i:Int)-1)) (len:Int))=true:=by
 rw[A0 (by omega) (by omega)];simp only[iLt,iIn,Bool.or_eq_true,Bool.not_eq_true',decide_eq_false_iff_not,decide_eq_true_eq];omega
def ACw(L:Rows)(ov:Int)(i:Nat):Bool:=(iLt (atI L i 0) 1||iLt (atI L i 1) (atI L i 0)||iLt ov (atI L i 1)) || !btw (atI L i 2) 0 11
def AAu(L:Rows)(i:Nat):Bool:=iLt 0 (i:Int)&&iLe (atI L i 0) (pvI (AD L (IntKind.i64.wrap ((i:Int)-1)).toNat 1))
def yP(L:Rows)(ov:Int)(i:Nat):Option (List PV):=cond (ACw L ov i) (some [.int 2]) (cond (AAu L i) (some [.int 8]) none)
def AAR:Option (List PV)→Int
 |none=>0
 |some r=>pvI (AA r 0)
def uk(L:Rows)(ov:Int):Int:=cond (iLt 8 (L.length:Int)) 9 (AAR (Be (yP L ov) L.length 0))
theorem lF(o:Option (List PV)):cond (pvI (AA (Wq o) 0)==((0:Nat):Int)) (some [PV.int (pvI (AA (Wq o) 1))]) (some [PV.int 0])=some [PV.int (AAR o)]:=by
 cases o<;>rfl
theorem kc(N:Nat)(x0:ByteArray)(x1 x2 x3 x4 x5 x6 x7 x9 x10 x11 x12:Int)(x8:Bool)(L:Rows)(hN:2097152<N) :
   Iw N [.str x0,.int x1,.int x2,.int x3,.int x4,.int x5,.int x6,.int x7,.bool x8,.int x9,.int x10,.int x11,.int x12,.rows L]=some [.int (uk L x3)]:=by
  show Lr (std (OA N) N) (xOf _)=_;have e:∀ls,OA N 69 [] ls=DR N ls:=fun ls=>rfl
  simp only[Lr,lq9,std,xOf,e,N8,PXb,PXc,PXn,AH,uk];cases h8:iLt 8 (L.length:Int)
  · have hl:L.length≤8:=by simp[iLt]at h8;omega
    simp only[cond_false];refine AQ (DF (len:=L.length) (yP L x3) ?_ ?_ L.length 0 N (by omega) (by omega)) ?_
    · intro self;simp only[PXb,PXc,PXn,AH,Aq]
    · intro i self hi;simp only[PXb,PXc,PXn,AH,Int.toNat_natCast,BN (show i≤1099511627776 by omega),Ae hi,AM hi,N8,e,ADZ hi (by omega)];simp only[yP,ACw,AAu,atI]
      grind
    exact lF _
  rfl
def Oa(x0:ByteArray)(x1 x2 x3 x4 x5 x6 x7 x9 x10 x11 x12:Int)(L:Rows):Int:=
  cond (!kE x0) 5 (cond (!VP x1 x2 x3 x4 x5 x6 x7 x9 x10 x11 x12) 2
    (cond ((!(x10==0)&&x2==1)||((!(x5==0)||iLt 0 (L.length:Int))&&x3==0)) 1
      (cond (!(x5==0)&&iLt (IntKind.i64.wrap (x5*x1)) x3) 13 (uk L x3))))
theorem YV(N:Nat)(x0:ByteArray)(x1 x2 x3 x4 x5 x6 x7 x9 x10 x11 x12:Int)(x8:Bool)(L:Rows)(hN:2097152<N)(hs:x0.size≤1048576) :
   Ab N [.str x0,.int x1,.int x2,.int x3,.int x4,.int x5,.int x6,.int x7,.bool x8,.int x9,.int x10,.int x11,.int x12,.rows L]=some [.int (Oa x0 x1 x2 x3 x4 x5 x6 x7 x9 x10 x11 x12 L)]:=by
  show NI (std (Hf N) N) (xOf _)=_;have e:∀ls,Hf N 61 [] ls=Mm N ls:=fun ls=>rfl
  have e2:∀ls,Hf N 62 [] ls=HO N ls:=fun ls=>rfl
  have e3:∀ls,Hf N 63 [] ls=Iw N ls:=fun ls=>rfl
  simp only[NI,lq9,std,xOf,e,e2,e3,tM N x0 (by omega) hs,iK,kc N _ _ _ _ _ _ _ _ _ _ _ _ _ _ hN,PXb,PXc,AH,Oa]
  grind
theorem cY(N:Nat)(L:Rows)(v:Int)(hN:L.length<N)(hl:L.length≤2097152):E7 N [.rows L,.int v]=some [.int (S5 (fun j=>v==atI L j 0) L.length)]:=by
 show HT (std (PL N) N) (xOf _)=_;simp only[HT,lq9,std,xOf,PXb,PXc,PXn,AH];refine AQ (DF (len:=L.length) (FM fun j=>v==atI L j 0) ?_ ?_ L.length 0 N (by omega) (by omega)) ?_
 ·intro self;simp only[PXb,PXc,PXn,AH,Aq]
 ·intro i self hi;simp only[PXb,PXc,PXn,AH,BN (show i≤1099511627776 by omega),Ae hi,AM hi,FM,CC]
  grind
 unfold S5;cases Be (FM fun j=>v==atI L j 0) L.length 0<;>rfl
def Pt(L:Rows)(k:Nat)(v:Int):Bool:=CE (fun j=>v==atI L j 0) k 0
theorem NA(N:Nat)(L:Rows)(v:Int)(hN:L.length<N)(hl:L.length≤2097152):A8 N [.rows L,.int v]=some [.bool (Pt L L.length v)]:=by
 show FF (std (Gx N) N) (xOf _)=_;have e:∀ls,Gx N 130 [] ls=E7 N ls:=fun ls=>rfl
 simp only[FF,lq9,std,xOf,PXb,PXc,PXn,AH,e,cY N L v hN hl,Lx,Pt]
theorem ABG(L:Rows)(i:Nat)(v:Int)(h:i≤L.length):Pt (L.take i) (L.take i).length v=Pt L i v:=by
 rw[List.length_take,Nat.min_eq_left h];exact lU i 0 (fun j _ hj=>by rw[AB9 (by omega)])
def Uf(L:Rows)(n:Int)(i:Nat):Bool := !btw (atI L i 0) 1 n||Pt L i (atI L i 0)
def Sh(L:Rows)(n:Int):Bool := !CE (Uf L n) L.length 0
theorem Ph(N:Nat)(L:Rows)(n:Int)(hN:L.length<N)(hl:L.length≤2097152):Ea N [.rows L,.int n]=some [.bool (Sh L n)]:=by
 show Gj (std (FK N) N) (xOf _)=_;have e:∀ls,FK N 106 [] ls=Az N ls:=fun ls=>rfl
 have e2:∀ls,FK N 121 [] ls=A8 N ls:=fun ls=>rfl
 simp only[Gj,lq9,std,xOf,PXb,PXc,PXn,AH];refine AQ (Nh (len:=L.length) (Uf L n) [.bool false] ?_ ?_ N hN) ?_
 ·intro self;simp only[PXb,PXc,PXn,AH,Aq]
 ·intro i self hi;have h1:(L.take i).length≤L.length:=List.length_take_le' i L;simp only[PXb,PXc,PXn,AH,BN (show i≤1099511627776 by omega),Ae hi,AM hi,e,e2,E9,AFz (Nat.le_of_lt hi),Int.toNat_zero,List.drop_zero,NA N (L.take i) _ (by omega) (by omega),ABG L i _ (by omega),CC,Uf]
  grind
 unfold Sh;cases CE (Uf L n) L.length 0<;>rfl
theorem gO(N:Nat)(v:Int):Dm N [.int v]=some [.bool (!(v==0))]:=rfl
def lsI(L14 L16 L17 L19 L24:Rows)(b18 b20:Bool)(x0 x1 x2 x3 x4 x5 x6 x7 x8 x9 x10 x11 x12 x13 x15 x21 x22 x23 x25 x26 x27:Int):List PV:=
 [.int x0,.int x1,.int x2,.int x3,.int x4,.int x5,.int x6,.int x7,.int x8,.int x9,.int x10,.int x11,.int x12,.int x13,.rows L14,.int x15,.rows L16,.rows L17,.bool b18,.rows L19,.bool b20,.int x21,.int x22,.int x23,.rows L24,.int x25,.int x26,.int x27]
section
variable (N:Nat) (L14 L16 L17 L19 L24:Rows) (b18 b20:Bool) (x0 x1 x2 x3 x4 x5 x6 x7 x8 x9 x10 x11 x12 x13 x15 x21 x22 x23 x25 x26 x27:Int)
theorem mE(hN:L14.length<N)(hl:L14.length≤2097152):Cs N (lsI L14 L16 L17 L19 L24 b18 b20 x0 x1 x2 x3 x4 x5 x6 x7 x8 x9 x10 x11 x12 x13 x15 x21 x22 x23 x25 x26 x27)=some [.bool (Dz L14)]:=by
 show F8 (std (GY N) N) (xOf (lsI ..))=_;have e:∀ls,GY N 175 [] ls=Dm N ls:=fun ls=>rfl
 simp only[F8,lq9,std,xOf,lsI,PXb,PXc,PXn,AH];rw[show Dz L14=iLe 0 (S5 (fun i => !(atI L14 i 0==0)) L14.length)from(Lx _ _).symm];rw[Option.bind_assoc];refine AQ (DF (len:=L14.length) (FM fun i => !(atI L14 i 0==0)) ?_ ?_ L14.length 0 N (by omega) (by omega)) ?_
 ·intro self;simp only[PXb,PXc,PXn,AH,Aq]
 ·intro i self hi;simp only[PXb,PXc,PXn,AH,BN (show i≤1099511627776 by omega),Ae hi,AM hi,FM,CC,e,gO]
  grind
 unfold S5;cases Be (FM fun i => !(atI L14 i 0==0)) L14.length 0<;>rfl
theorem jS(hN:L14.length<N)(hl:L14.length≤2097152):Bp N (lsI L14 L16 L17 L19 L24 b18 b20 x0 x1 x2 x3 x4 x5 x6 x7 x8 x9 x10 x11 x12 x13 x15 x21 x22 x23 x25 x26 x27)=some [.bool (J8 L14 x12 x13)]:=by
 show FE (std (FZ N) N) (xOf (lsI ..))=_;have e:∀ls,FZ N 157 [] ls=Cs N ls:=fun ls=>rfl
 have:=mE N L14 L16 L17 L19 L24 b18 b20 x0 x1 x2 x3 x4 x5 x6 x7 x8 x9 x10 x11 x12 x13 x15 x21 x22 x23 x25 x26 x27 hN hl;simp only[lsI]at this;simp only[FE,lq9,std,xOf,lsI,PXb,PXc,PXn,AH,e,this,J8]
theorem oE(hN:L14.length<N)(hl:L14.length≤2097152):Df N (lsI L14 L16 L17 L19 L24 b18 b20 x0 x1 x2 x3 x4 x5 x6 x7 x8 x9 x10 x11 x12 x13 x15 x21 x22 x23 x25 x26 x27)=some [.rows (Fr L14 L14.length)]:=by
 show Gz (std (PS N) N) (xOf (lsI ..))=_;simp only[Gz,lq9,std,xOf,lsI,PXb,PXc,PXn,AH];refine AQ (BC (len:=L14.length) (fun i=>[.rows (Fr L14 i),.int (i:Int)]) [.rows (Fr L14 L14.length)] ?_ ?_ N hN) rfl
 ·intro self;simp only[PXb,PXc,PXn,AH,Aq]
 intro i self hi;have h2:(Fr L14 i++[[PV.int ((i:Int)+1)]]).length≤4194304:=by have:=iS L14 i;simp;omega
 simp only[PXb,PXc,PXn,AH,BN (show i≤1099511627776 by omega),Ae hi,AM hi,CC,Fr,Dk h2 (show 8≤4096 by omega)]
 grind
end
theorem Ze(N:Nat)(v:Int):Ec N [.int v]=some [.bool (!btw v 0 1000000000)]:=by
 show Gi (std (IU N) N) (xOf _)=_;have e:∀ls,IU N 106 [] ls=Az N ls:=fun ls=>rfl
 simp only[Gi,lq9,std,xOf,PXb,PXc,PXn,AH,e,E9]
def pIs(L:Rows)(v:Int)(i:Nat):Bool:=atI L i 0==v
def jm(s n:Int)(i:Nat):Bool:=s==(i:Int)+1||n==(i:Int)+1
def UK(L:Rows)(s n:Int)(i:Nat):Bool:=iLt 3 (atI L i 0)||(pIs L 1 i && !jm s n i)
def kj(L:Rows)(s n:Int)(i:Nat):Bool:=iLt 3 (atI L i 0) || !(pIs L 1 i==jm s n i)
def fA(L:Rows):Int:=Cz (pIs L 2) L.length
def ins(L:Rows):Int:=Cz (pIs L 1) L.length
def two(s n:Int):Int:=cond (!(n==0)) (IntKind.i64.wrap (cond (!(s==0)) (IntKind.i64.wrap (0+1)) 0+1)) (cond (!(s==0)) (IntKind.i64.wrap (0+1)) 0)
def rP(L:Rows)(s n wk k:Int):Bool:=
 !CE (UK L s n) L.length 0&&((btw s 0 k&&btw n 0 k)&&(!(s==n && !(s==0))&&((two s n==ins L&&(!Dz L||iLt 0 (two s n)))&&fA L==wk)))
def mK(L:Rows)(s n wk:Int):Bool:=
 !CE (kj L s n) L.length 0&&(!((Dz L&&iLt (ins L) 1)||(!(s==0)&&s==n))&&wk==fA L)
def yd(L:Rows):Nat→Bool
 |0=>false
 |i+1=>yd L i || !(atI L i 0==0)
theorem xP(L:Rows):∀i,yd L i=CE (fun j => !(atI L j 0==0)) i 0
 |0=>rfl
 |i+1=>by rw[dF,Nat.zero_add,←xP L i];rfl
section
variable (N:Nat) (L14 L16 L17 L19 L24:Rows) (b18 b20:Bool) (x0 x1 x2 x3 x4 x5 x6 x7 x8 x9 x10 x11 x12 x13 x15 x21 x22 x23 x25 x26 x27:Int)
theorem fE(k:Int)(hN:L14.length<N)(hl:L14.length≤2097152):Fc N (lsI L14 L16 L17 L19 L24 b18 b20 x0 x1 x2 x3 x4 x5 x6 x7 x8 x9 x10 x11 x12 x13 x15 x21 x22 x23 x25 x26 x27++[.int k])=some [.bool (rP L14 x12 x13 x4 k)]:=by
  simp only[lsI,List.cons_append,List.nil_append];show IG (std (KP N) N) (xOf _)=_;have e:∀ls,KP N 106 [] ls=Az N ls:=fun ls=>rfl
  simp only[IG,lq9,std,xOf,lsI,PXb,PXc,PXn,AH];refine AQ (vK (len:=L14.length) (fun i=>[.int (Cz (pIs L14 2) i),.int (Cz (pIs L14 1) i),.bool (yd L14 i),.int (i:Int)])
    (UK L14 x12 x13) [.int 0,.bool false] [.int 1,.int (fA L14),.int (ins L14),.bool (Dz L14)] ?_ ?_ N hN) ?_
  · intro self;simp only[PXb,PXc,PXn,AH,Aq,xP];rfl
  · intro i self hi;simp only[PXb,PXc,AH,BN (show i≤1099511627776 by omega),Ae hi,AM hi,CC,tu (pIs L14 2) (show i≤1099511627776 by omega),tu (pIs L14 1) (show i≤1099511627776 by omega)];unfold UK pIs jm;simp only[Cz,yd]
    grind
  unfold rP;simp only[e,E9];cases CE (UK L14 x12 x13) L14.length 0
  · simp only[PXb,PXc,PXn,AH];unfold two
    grind
  rfl
end
theorem AC4(s n:Int):two s n=cond (!(s==0)) 1 0+cond (!(n==0)) 1 0:=by
 unfold two;cases s==0<;>cases n==0<;>rfl
theorem ADn{s n:Int}{len:Nat}(h1:0≤s∧s≤(len:Int))(h2:0≤n∧n≤(len:Int))(hd:(s==n && !(s==0))=false):two s n=Cz (jm s n) len:=by
 have hs:iLe s (len:Int)=true:=by simp only[iLe,decide_eq_true_eq];omega
 have hn:iLe n (len:Int)=true:=by simp only[iLe,decide_eq_true_eq];omega
 unfold jm;rw[zx (p:=fun i=>s==(i:Int)+1) (q:=fun i=>n==(i:Int)+1) len (fun j _ hp=>by
  grind),sS s len h1.1,sS n len h2.1,hs,hn,Bool.and_true,Bool.and_true,AC4]
theorem ADB(x:Int):iLt 0 x = !iLt x 1:=by
 unfold iLt
 grind
theorem ACS{L:Rows}{s n:Int}(h1:0≤s∧s≤(L.length:Int))(h2:0≤n∧n≤(L.length:Int))(hd:(s==n && !(s==0))=false) :
    (!CE (UK L s n) L.length 0&&two s n==ins L) = !CE (kj L s n) L.length 0:=by
  have h2c:=ADn h1 h2 hd;rw[Bool.eq_iff_iff];simp only[zzk,Bool.not_eq_true',L7,beq_iff_eq];constructor
  · intro⟨ha,hb⟩ j _ hj;have hm:∀j,j<L.length→pIs L 1 j=true→jm s n j=true:=fun j hj hp=>by
      have:=ha j (Nat.zero_le _) (by omega);unfold UK at this
      simp_all
    have he:=AAP L.length hm (by rw[←h2c,hb];rfl) j (by omega);have:=ha j (Nat.zero_le _) hj;unfold UK at this;unfold kj
    simp_all
  intro ha;have hm:∀j,j<L.length→pIs L 1 j=jm s n j:=fun j hj=>by
    have:=ha j (Nat.zero_le _) (by omega);unfold kj at this
    simp_all
  refine⟨fun j h0 hj=>?_,?_⟩
  · have:=ha j h0 hj;unfold kj at this;unfold UK
    simp_all
  rw[h2c];exact(qY L.length hm).symm
theorem AE5(L:Rows)(s n wk k:Int)(hk:(L.length:Int)=k):rP L s n wk k=(btw s 0 k&&btw n 0 k&&mK L s n wk):=by
 subst hk;unfold rP mK;cases hs:btw s 0 (L.length:Int)
 ·simp_all
 cases hn:btw n 0 (L.length:Int)
 ·simp_all
 have h1:0≤s∧s≤(L.length:Int):=by simpa[btw,iLe]using hs
 have h2:0≤n∧n≤(L.length:Int):=by simpa[btw,iLe]using hn
 simp only[Bool.true_and];cases hd:(s==n && !(s==0))
 ·have:(!(s==0)&&s==n)=false:=by grind
  rw[this,←ACS h1 h2 hd];simp only[Bool.or_false,Bool.not_false,Bool.true_and];rw[show(wk==fA L)=(fA L==wk)from BEq.comm];cases hA:CE (UK L s n) L.length 0
  ·cases hB:two s n==ins L
   ·rfl
   rw[beq_iff_eq.1 hB,ADB]
   simp_all
  rfl
 grind
end Go.Px
end
