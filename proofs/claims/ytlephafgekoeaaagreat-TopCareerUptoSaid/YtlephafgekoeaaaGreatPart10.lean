/- Part 10. -/
import Derived.Test.YtlephafgekoeaaaGreatPart08
import Derived.Test.YtlephafgekoeaaaGreatPart09
set_option linter.unusedVariables false
set_option linter.unusedSimpArgs false
variable {s0 s1 s2 s3 s4 s5 s6 s7 s8 s9 s10 s11 s12 s13 s15 s21 s22 s23 s25 s26 s27:Int}
variable {s14 s16 s17 s19 s24:Go.Px.Rows}
variable {r1 r2 r3 r4 r5 r6 r7 r9 r10 r11 r12:Int}
section
namespace Go.Px
set_option maxRecDepth 100000
def Nd:List Nat:=[3,2]
def E3 (O:Alg) (x:Ags O):O.M:=let u24:=(lq9 O 1);let u23:=(lq9 O 0);(O.d (O.b (O.e (O.j (x.L 0)) u23) (O.a [.rows O.s]) (O.l (O.q u23 (O.j (x.L 0))) (O.a [.rows (O.rL (x.L 0) u23 0)]))) fun c0=>let u29:=(O.k c0 0);let u21:=(O.j u29);(O.d (O.t (fun s1 c1=>let u28:=(O.c c1 1);let u20:=(O.rL u29 u28 9);let u14:=(O.o .i64 u28 u24);let u11:=(O.j u20);(O.b (O.n u28 u21) (O.l (O.q u28 u21) (O.d (O.f 24 [] (ap O (rr O u29 u28 [0,2,3,0,0,2,3,0,0,3,3,3] 0) [.str (x.S 1)])) fun c2=>(O.b (O.e (O.c c2 0) u23) (s1 (ap O [.rows (O.k c1 0),.int u14] (cr O c1 [2,0,0,0,0,0,0,0,0,0,0,0] 2))) (O.d (O.t (fun s3 c3=>let u26:=(O.c c3 1);let u19:=(O.rL (O.k c3 24) u26 0);let u18:=(O.rL (O.k c3 25) u26 0);let u17:=(O.o .i64 u26 u24);let u12:=(O.q u26 (O.j (O.k c3 25)));let u10:=(O.j u18);let u9:=(O.j u19);(O.b (O.n u26 u11) (O.l (O.q u26 u11) (O.b (O.e (O.r u20 u26 0) (O.c c2 0)) (O.l (O.q u26 (O.j (O.k c3 24))) (O.d (O.t (fun s4 c4=>let u27:=(O.c c4 0);let u16:=(O.o .i64 (O.c c4 3) u24);let u15:=(O.o .i64 u27 u24);let u4:=(O.r u19 u27 1);(O.b (O.n u27 u9) (O.l (O.q u27 u9) (O.b (O.i (O.g (O.e (O.r u19 u27 0) (O.c c2 1))) O.m (O.g (O.rB u19 u27 9))) (s4 (ap O [.int u15] (cr O c4 [2,0,0,0,0,0,0,0,0,0,0,0] 1))) (O.d (O.b (O.g (O.rB u19 u27 5)) (O.a (ap O [.str (O.cS c4 1),.int (O.c c4 2),.int u16,.int (O.o .i64 (O.c c4 4) u24)] (cr O c4 [0,0,0,0,0,0,0,0] 5))) (O.a (ap O [.str (O.cS c4 1),.int (O.c c4 2),.int u16] (cr O c4 [0,0,0,0,0,0,0,0,0] 4)))) fun c5=>(s4 (ap O [.int u15] (ap O (cr O c5 [2,0,0,0] 0) (ap O [.int (O.o .i64 (O.c c5 4) u4),.int (O.o .i64 (O.c c5 5) (O.r u19 u27 2)),.int (O.af (O.n (O.c c5 6) u4) u4 (O.c c5 6))] (cr O c5 [0,0,0,0,0] 7)))))))) (O.a (cr O c4 [2,0,0,0,0,0,0,0,0,0,0,0] 1)))) (ap O [.int u23] (cr O c3 [2,0,0,0,0,0,0,0,0,0,0,0] 2))) fun c4=>(s3 (ap O [.rows (O.k c3 0),.int u17] (ap O (cr O c4 [2,0,0,0,0,0,0,0,0,0,0,0] 0) (cr O c3 [0,2,3,0,0,2,3,0,0,3,3,3] 14)))))) (O.l u12 (O.d (O.t (fun s4 c4=>let u30:=(O.k c4 0);let u25:=(O.c c4 1);let u22:=(O.j u30);let u13:=(O.o .i64 u25 u24);let u8:=(O.e u22 u23);let u7:=(O.g u8);let u6:=(O.r u18 u25 3);let u5:=(O.r u18 u25 4);let u3:=(O.q u25 u10);let u2:=(O.o .i64 (O.c c4 9) (O.r u18 u25 1));let u1:=(O.o .i64 (O.c c4 11) u5);let u0:=(O.o .i64 (O.c c4 10) u6);(O.b (O.n u25 u10) (O.l u3 (O.b (O.g (O.e (O.r u18 u25 0) (O.c c2 1))) (s4 (ap O [.rows u30,.int u13] (cr O c4 [2,0,0,0,0,0,0,0,0,0,0,0] 2))) (O.l (O.g (O.aa u7 (O.g (O.q u23 u22)))) (O.d (O.b u7 (O.f 26 [] (ap O (rr O u18 u25 [0,0,0,0,0,0,0] 0) (rr O u30 u23 [0,0,0,0,0,0,0] 0))) (O.a [.bool O.h])) fun c5=>(O.b (O.i u8 O.m (O.p c5 0)) (O.l u12 (O.l u3 (O.l (O.ab u25 1) (s4 (ap O [.rows (O.ag u18 u25 u13),.int u13] (ap O (cr O c4 [2,0,0,0,0,0,0] 2) [.int u2,.int u0,.int u1,.int u5,.int u6])))))) (s4 (ap O [.rows u30,.int u13] (ap O (cr O c4 [2,0,0,0,0,0,0] 2) [.int u2,.int u0,.int u1,.int (O.c c4 12),.int (O.c c4 13)])))))))) (O.a (cr O c4 [3,0,2,0,0,0,0,0,0,0,0,0,0,0] 0)))) (ap O [.rows (O.k c3 0),.int u23] (cr O c3 [2,0,0,0,0,0,0,0,0,0,0,0] 2))) fun c4=>(s3 (ap O [.rows (O.k c4 0),.int u17] (ap O (cr O c4 [2,0,0,0,0,0,0,0,0,0,0,0] 2) (cr O c3 [0,2,3,0,0,2,3,0,0,3,3,3] 14)))))))) (O.a (cr O c3 [3,0,2,0,0,0,0,0,0,0,0,0,0,0,0,2,3,0,0,2,3,0,0,3,3,3] 0)))) (ap O [.rows (O.k c1 0),.int u23,.str (x.S 1),.int (O.o .i64 (O.c c1 3) u24)] (ap O (cr O c1 [0,0,0,0,0,0,0,0,0,0] 4) (rr O u29 u28 [0,2,3,0,0,2,3,0,0,3,3,3] 0)))) fun c3=>(s1 (ap O [.rows (O.k c3 0),.int u14] (cr O c3 [2,0,0,0,0,0,0,0,0,0,0,0] 2))))))) (O.a (cr O c1 [2,0,0,0,0,0,0,0,0,0,0,0] 2)))) [.rows O.s,.int u23,.str (O.u ⟨#[]⟩),.int u23,.int u23,.int u23,.int u23,.int u23,.int u23,.int u23,.int u23,.int u23,.int u23,.int u23]) fun c1=>(O.a (cr O c1 [2,0,0,0,0,0,0,0,0,0,0,0] 0))))
def D9:Nat→Env:=eL [(24,EL),(26,GB)]
theorem Ks {N ls}:D9 N 24 [] ls=EL N ls:=id rfl
theorem Kp {N ls}:D9 N 26 [] ls=GB N ls:=id rfl
def DW:=oS Nd E3 D9
def Mb:List Nat:=[3]
def ET (O:Alg) (x:Ags O):O.M:=let u2:=(lq9 O 0);(O.d (O.b (O.e (O.j (x.L 0)) u2) (O.a [.rows O.s]) (O.l (O.q u2 (O.j (x.L 0))) (O.a [.rows (O.rL (x.L 0) u2 0)]))) fun c0=>let u1:=(O.j (O.k c0 0));(O.d (O.t (fun s1 c1=>let u3:=(O.c c1 1);let u0:=(O.ad (O.k c1 0) (O.y [[.int (O.r (O.k c0 0) u3 0)]]));(O.b (O.n u3 u1) (O.l (O.q u3 u1) (O.l (O.ab (O.j u0) 8) (s1 [.rows u0,.int (O.o .i64 u3 (lq9 O 1))]))) (O.a [.rows (O.k c1 0)]))) [.rows O.s,.int u2]) fun c1=>(O.a [.rows (O.k c1 0)])))
def K1:Nat→Env:=eL []
def EZ:=oS Mb ET K1
def Od:List Nat:=[2,3,0,0,2,3,0,0]
def Fa (O:Alg) (x:Ags O):O.M:=let u3:=(lq9 O 1);let u2:=(lq9 O 0);let u1:=(O.ao (x.S 0) (x.S 4));(O.d (O.t (fun s0 c0=>let u4:=(O.c c0 0);let u0:=(O.e u4 u3);(O.b (O.n u4 (lq9 O 2)) (O.l (O.q u4 (lq9 O 2)) (O.d (O.f 28 [] [.str (O.av u0 (x.S 4) (x.S 0)),.rows (O.ar u0 (x.L 5) (x.L 1)),.int (O.af u0 (x.I 6) (x.I 2)),.int (O.af u0 (x.I 7) (x.I 3))]) fun c1=>(O.b (O.g (O.e (O.c c1 0) u2)) (O.a [.int u2,.int (O.c c1 0)]) (s0 [.int (O.o .i64 u4 u3)])))) (O.a [.int u3]))) [.int u2]) fun c0=>(O.b (O.z c0 0) (O.a [.int (O.c c0 1)]) (O.b (O.g u1) (O.d (O.d (O.t (fun s1 c1=>let u5:=(O.c c1 0);(O.b (O.n u5 (O.j (x.L 1))) (O.l (O.q u5 (O.j (x.L 1))) (O.d (O.f 63 [] [.rows (O.k c1 6),.str (O.rS (x.L 1) u5 0)]) fun c2=>(O.b (O.p c2 0) (O.a (ap O [.int u2] (cr O c1 [0,2,3,0,0,2,3,0,0] 0))) (s1 (ap O [.int (O.o .i64 u5 u3)] (cr O c1 [2,3,0,0,2,3,0,0] 1)))))) (O.a (ap O [.int u3] (cr O c1 [2,3,0,0,2,3,0,0] 1))))) (ap O [.int u2] (xr x [2,3,0,0,2,3,0,0] 0))) fun c1=>(O.b (O.z c1 0) (O.a (cr O c1 [0,2,3,0,0,2,3,0,0] 1)) (O.a (ap O [.int (lq9 O (-1))] (cr O c1 [2,3,0,0,2,3,0,0] 1))))) fun c1=>(O.b (O.i u1 O.m (O.w u2 (O.c c1 0))) (O.a [.int u3]) (O.a [.int u2]))) (O.b (O.i u1 O.m O.h) (O.a [.int u3]) (O.a [.int u2])))))
def ES:Nat→Env:=eL [(28,Cx),(63,BF)]
theorem NG {N ls}:ES N 28 [] ls=Cx N ls:=id rfl
theorem Hs {N ls}:ES N 63 [] ls=BF N ls:=id rfl
def Dm:=oS Od Fa ES
def FZ:List Nat:=[3,3]
def Ch (O:Alg) (x:Ags O):O.M:=let u1:=(lq9 O 0);(O.d (O.d (O.t (fun s0 c0=>let u2:=(O.c c0 0);let u0:=(O.r (x.L 0) u2 0);(O.b (O.n u2 (O.j (x.L 0))) (O.l (O.q u2 (O.j (x.L 0))) (O.b (O.i (O.n u0 u1) O.m (O.n (O.r (x.L 1) u1 0) u0)) (O.a [.int u1,.int u2]) (s0 [.int (O.o .i64 u2 (lq9 O 1))]))) (O.a [.int (lq9 O 1)]))) [.int u1]) fun c0=>(O.b (O.z c0 0) (O.a [.int (O.c c0 1)]) (O.a [.int (lq9 O (-1))]))) fun c0=>(O.a [.bool (O.w u1 (O.c c0 0))]))
def CF (N:Nat):Env:=fun f fns ls=>none
def Bu:=oS FZ Ch CF
def UP:List Nat:=[0,3]
def Kl (O:Alg) (x:Ags O):O.M:=(O.d (O.f 74 [75] [.rows (x.L 1),.rows (O.y [[.int (x.I 0)]])]) fun c0=>(O.a [.bool (O.g (O.p c0 0))]))
def Fv (N:Nat):Env:=fun f fns ls=>(cond (Nat.beq f 74&&AR fns [75]) (Bu N ls) none)
theorem K8 {N ls}:Fv N 74 [75] ls=Bu N ls:=id rfl
def El:=oS UP Kl Fv
def Vj:List Nat:=[0,2,3,0,0,2,3,0,0,3,3,3]
def J6 (O:Alg) (x:Ags O):O.M:=let u17:=(lq9 O 2);let u16:=(lq9 O 0);let u15:=(lq9 O 1);let u14:=(O.j (x.L 9));let u13:=(lq9 O 1000000);(O.b (O.i (O.n (x.I 0) u15) O.m (O.n u13 (x.I 0))) (O.a [.int u17]) (O.d (O.f 52 [] (xr x [2,3,0,0,2,3,0,0] 1)) fun c0=>(O.b (O.g (O.e (O.c c0 0) u16)) (O.a [.int (O.c c0 0)]) (O.b (O.i (O.i (O.n (lq9 O 4) u14) O.m (O.g (O.e (O.j (x.L 10)) u14))) O.m (O.g (O.e (O.j (x.L 11)) u14))) (O.a [.int u15]) (O.d (O.t (fun s1 c1=>let u18:=(O.c c1 0);let u12:=(O.r (x.L 9) u18 0);let u11:=(O.rL (x.L 10) u18 0);let u10:=(O.rL (x.L 11) u18 0);let u9:=(O.j u10);let u8:=(O.j u11);let u5:=(O.v .i64 u17 u12);let u4:=(O.v .i64 u12 u15);(O.b (O.n u18 u14) (O.l (O.q u18 u14) (O.b (O.i (O.g (O.e u12 u15)) (O.g (O.e u12 u17)) O.h) (O.a [.int u16,.int u17]) (O.l (O.q u18 (O.j (x.L 10))) (O.d (O.t (fun s2 c2=>let u21:=(O.k c2 0);let u20:=(O.c c2 1);let u6:=(O.r u11 u20 0);let u2:=(O.n u6 u15);let u0:=(O.i u2 O.m (O.n (O.j (O.ar (O.e u4 u15) (x.L 6) (x.L 2))) u6));(O.b (O.n u20 u8) (O.l (O.q u20 u8) (O.l (O.g (O.aa (O.g u2) (O.g (O.q u4 u17)))) (O.d (O.b (O.g u0) (O.f 53 [] [.int u13,.rows (O.y [[.int (O.r u11 u20 1)],[.int (O.r u11 u20 2)]])]) (O.a [.bool O.h])) fun c3=>(O.b (O.i u0 O.m (O.g (O.p c3 0))) (O.a [.int u16,.rows u21,.int u17]) (O.b (O.ax u21 u6) (O.a [.int u16,.rows u21,.int (lq9 O 7)]) (s2 [.rows (O.ay u21 u6 O.m),.int (O.o .i64 u20 u15)])))))) (O.a [.int u15,.rows u21,.int u20]))) [.rows O.s,.int u16]) fun c2=>(O.b (O.z c2 0) (O.a [.int u16,.int (O.c c2 2)]) (O.l (O.q u18 (O.j (x.L 11))) (O.d (O.t (fun s3 c3=>let u22:=(O.k c3 0);let u19:=(O.c c3 1);let u7:=(O.r u10 u19 0);let u3:=(O.n u7 u15);let u1:=(O.i u3 O.m (O.n (O.j (O.ar (O.e u5 u15) (x.L 6) (x.L 2))) u7));(O.b (O.n u19 u9) (O.l (O.q u19 u9) (O.l (O.g (O.aa (O.g u3) (O.g (O.q u5 u17)))) (O.d (O.b (O.g u1) (O.f 53 [] [.int u13,.rows (O.y [[.int (O.r u10 u19 1)],[.int (O.r u10 u19 3)],[.int (O.r u10 u19 4)]])]) (O.a [.bool O.h])) fun c4=>(O.b (O.i u1 O.m (O.g (O.p c4 0))) (O.a [.int u16,.rows u22,.int u17]) (O.b (O.ax u22 u7) (O.a [.int u16,.rows u22,.int (lq9 O 7)]) (s3 [.rows (O.ay u22 u7 O.m),.int (O.o .i64 u19 u15)])))))) (O.a [.int u15,.rows u22,.int u19]))) [.rows O.s,.int u16]) fun c3=>(O.b (O.z c3 0) (O.a [.int u16,.int (O.c c3 2)]) (s1 [.int (O.o .i64 u18 u15)]))))))))) (O.a [.int u15]))) [.int u16]) fun c1=>(O.b (O.z c1 0) (O.a [.int (O.c c1 1)]) (O.a [.int u16])))))))
def Hv:Nat→Env:=eL [(52,Dm),(53,El)]
theorem ME {N ls}:Hv N 52 [] ls=Dm N ls:=id rfl
theorem R4 {N ls}:Hv N 53 [] ls=El N ls:=id rfl
def E2:=oS Vj J6 Hv
def Ix:List Nat:=[3,0,3]
def Dk (O : Alg) (x : Ags O) : O.M := let u1 := (O.j (x.L 0)); let u0 := (O.ad (x.L 0) (x.L 2)); (O.l (O.ai (x.I 1) u1 u1) (O.b (O.e (O.j (x.L 2)) (lq9 O 0)) (O.a [.rows (x.L 0)]) (O.b (O.e (x.I 1) u1) (O.l (O.ab (O.j u0) 192) (O.a [.rows u0])) (O.ac "call"))))
def DL (N:Nat):Env:=fun f fns ls=>none
def CJ:=oS Ix Dk DL
def Nl:List Nat:=[0,2,3,0,0,2,3,0,0,3,3,3,0]
def Ns (O:Alg) (x:Ags O):O.M:=(O.a [.int (O.v .i64 (x.I 0) (x.I 12))])
def Uk:Nat→Env:=eL []
def E0:=oS Nl Ns Uk
def D5:List Nat:=[3,0]
def Bx (O:Alg) (x:Ags O):O.M:=let u3:=(lq9 O 0);let u2:=(O.j (x.L 0));(O.d (O.t (fun s0 c0=>let u6:=(O.c c0 1);let u4:=(O.c c0 0);let u0:=(O.o .i64 u4 u6);(O.b (O.n u4 u6) (O.l (O.q (O.am .i64 (O.au false .u64 (O.am .u64 u0) (O.lit .u64 1))) u2) (O.d (O.f 55 [] (ap O (rr O (x.L 0) (O.am .i64 (O.au false .u64 (O.am .u64 u0) (O.lit .u64 1))) [0,2,3,0,0,2,3,0,0,3,3,3] 0) [.int (x.I 1)])) fun c1=>(O.b (O.n (O.c c1 0) u3) (s0 [.int (O.o .i64 (O.am .i64 (O.au false .u64 (O.am .u64 u0) (O.lit .u64 1))) (lq9 O 1)),.int u6]) (s0 [.int u4,.int (O.am .i64 (O.au false .u64 (O.am .u64 u0) (O.lit .u64 1)))])))) (O.a [.int u4]))) [.int u3,.int u2]) fun c0=>let u5:=(O.c c0 0);let u1:=(O.n u5 u2);(O.l (O.g (O.aa u1 (O.g (O.q u5 u2)))) (O.d (O.b u1 (O.f 55 [] (ap O (rr O (x.L 0) u5 [0,2,3,0,0,2,3,0,0,3,3,3] 0) [.int (x.I 1)])) (O.a [.int u3])) fun c1=>(O.a [.int u5,.bool (O.i u1 (O.e (O.c c1 0) u3) O.h)]))))
def Av (N:Nat):Env:=fun f fns ls=>(cond (Nat.beq f 55&&AR fns []) (E0 N ls) none)
theorem Fu {N ls}:Av N 55 [] ls=E0 N ls:=id rfl
def Bw:=oS D5 Bx Av
def O2:List Nat:=[2,0,0,0,0,0,0,0,1,0,0,0,0,3,2,3,0,0,2,3,0,0,3]
def G7 (O:Alg) (x:Ags O):O.M:=let u29:=(lq9 O 9);let u28:=(lq9 O 1);let u27:=(lq9 O 0);let u26:=(lq9 O 400);let u25:=(O.j (x.L 22));let u11:=(O.g (O.e u27 u27));let u9:=(O.af (O.n (lq9 O 3) u25) (lq9 O 3) u25);let u6:=(O.ag (x.L 22) u27 u9);let u5:=(O.j u6);(O.l (O.ai u27 u9 u25) (O.d (O.t (fun s0 c0=>let u36:=(O.c c0 2);let u33:=(O.c c0 0);let u32:=(O.k c0 3);let u31:=(O.k c0 4);let u21:=(O.j u32);let u20:=(O.j u31);let u16:=(O.o .i64 (O.c c0 1) u28);let u15:=(O.o .i64 u36 u28);let u14:=(O.w u26 u21);let u12:=(O.w u26 u20);(O.b (O.n u36 u5) (O.l (O.q u36 u5) (O.d (O.f 5 [] [.rows (O.rL u6 u36 0)]) fun c1=>let u22:=(O.j (O.k c1 0));let u10:=(O.o .i64 u22 u28);let u0:=(O.as .i64 (O.am .i64 (O.r u6 u36 1)) u10);(O.d (O.f 6 [] (ap O [.int u15] (ap O (xr x [2,0,0,0,0,0,0,0,1,0,0,0,0,3,2,3,0,0,2,3,0,0] 0) [.rows (O.k c1 0)]))) fun c2=>let u35:=(O.c c2 0);let u30:=(O.k c2 10);let u19:=(O.j u30);(O.b (O.g (O.e (O.c c2 12) u27)) (s0 [.int u33,.int (O.c c0 1),.int u15,.rows u32,.rows u31]) (O.l (O.g (O.e u10 u27)) (O.l (O.ai u27 u0 u22) (O.d (O.f 6 [] (ap O [.int u15] (ap O (xr x [2,0,0,0,0,0,0,0,1,0,0,0,0,3,2,3,0,0,2,3,0,0] 0) [.rows (O.ag (O.k c1 0) u27 u0)]))) fun c3=>let u13:=(O.g (O.e (O.c c3 12) u27));let u7:=(O.i u13 O.m u11);let u1:=(O.i u7 O.m u11);(O.b (O.g u13) (O.d (O.b O.h (O.a [.int u28,.rows u32]) (O.d (O.f 18 [] (cr O c3 [0,2,3,0,0,2,3,0,0,3,3,3] 0)) fun c4=>(O.b (O.g (O.e (O.c c4 0) u27)) (O.a [.int (O.c c4 0),.rows u32]) (O.d (O.f 54 [55] [.rows u32,.int (O.c c3 0)]) fun c5=>(O.b (O.p c5 1) (O.d (O.f 17 [] (cr O c3 [0,2,3,0,0,2,3,0,0,3,3,3] 0)) fun c6=>(O.l (O.q (O.c c5 0) u21) (O.a [.int u27,.rows (O.x u32 (O.c c5 0) 0 (cr O c6 [0,2,3,0,0,2,3,0,0,3,3,3] 0))]))) (O.b u14 (O.a [.int u29,.rows u32]) (O.d (O.f 17 [] (cr O c3 [0,2,3,0,0,2,3,0,0,3,3,3] 0)) fun c6=>(O.d (O.f 20 [] [.rows u32,.int (O.c c5 0),.rows (O.y [(cr O c6 [0,2,3,0,0,2,3,0,0,3,3,3] 0)])]) fun c7=>(O.a [.int u27,.rows (O.k c7 0)]))))))))) fun c4=>let u34:=(O.k c4 1);let u23:=(O.j u34);let u8:=(O.i u13 O.m (O.g (O.e (O.c c4 0) u27)));let u2:=(O.i u8 O.m u11);(O.b (O.g u8) (O.d (O.b O.h (O.a [.int u28,.rows u34]) (O.d (O.f 18 [] (cr O c2 [0,2,3,0,0,2,3,0,0,3,3,3] 0)) fun c5=>(O.b (O.g (O.e (O.c c5 0) u27)) (O.a [.int (O.c c5 0),.rows u34]) (O.d (O.f 54 [55] [.rows u34,.int u35]) fun c6=>(O.b (O.p c6 1) (O.d (O.f 17 [] (cr O c2 [0,2,3,0,0,2,3,0,0,3,3,3] 0)) fun c7=>(O.l (O.q (O.c c6 0) u23) (O.a [.int u27,.rows (O.x u34 (O.c c6 0) 0 (cr O c7 [0,2,3,0,0,2,3,0,0,3,3,3] 0))]))) (O.b (O.w u26 u23) (O.a [.int u29,.rows u34]) (O.d (O.f 17 [] (cr O c2 [0,2,3,0,0,2,3,0,0,3,3,3] 0)) fun c7=>(O.d (O.f 20 [] [.rows u34,.int (O.c c6 0),.rows (O.y [(cr O c7 [0,2,3,0,0,2,3,0,0,3,3,3] 0)])]) fun c8=>(O.a [.int u27,.rows (O.k c8 0)]))))))))) fun c5=>let u4:=(O.i u8 O.m (O.g (O.e (O.c c5 0) u27)));(O.b (O.g u4) (O.d (O.b O.h (O.a [.int u28,.rows u31]) (O.d (O.f 18 [] (cr O c2 [0,2,3,0,0,2,3,0,0,3,3,3] 0)) fun c6=>(O.b (O.g (O.e (O.c c6 0) u27)) (O.a [.int (O.c c6 0),.rows u31]) (O.d (O.f 54 [55] [.rows u31,.int u35]) fun c7=>(O.b (O.p c7 1) (O.d (O.f 17 [] (cr O c2 [0,2,3,0,0,2,3,0,0,3,3,3] 0)) fun c8=>(O.l (O.q (O.c c7 0) u20) (O.a [.int u27,.rows (O.x u31 (O.c c7 0) 0 (cr O c8 [0,2,3,0,0,2,3,0,0,3,3,3] 0))]))) (O.b u12 (O.a [.int u29,.rows u31]) (O.d (O.f 17 [] (cr O c2 [0,2,3,0,0,2,3,0,0,3,3,3] 0)) fun c8=>(O.d (O.f 20 [] [.rows u31,.int (O.c c7 0),.rows (O.y [(cr O c8 [0,2,3,0,0,2,3,0,0,3,3,3] 0)])]) fun c9=>(O.a [.int u27,.rows (O.k c9 0)]))))))))) fun c6=>(O.b (O.i u4 O.m (O.g (O.e (O.c c6 0) u27))) (O.a [.int u27,.bool O.h]) (O.d (O.t (fun s7 c7=>let u37:=(O.c c7 1);(O.b (O.n u37 u19) (O.l (O.q u37 u19) (O.d (O.f 8 [] [.rows (O.rL u30 u37 0)]) fun c8=>(s7 [.int (O.o .i64 (O.c c7 0) (O.c c8 0)),.int (O.o .i64 u37 u28)]))) (O.a [.int (O.c c7 0),.int u37]))) [.int u33,.int u27]) fun c7=>(s0 [.int (O.c c7 0),.int u16,.int u15,.rows (O.k c5 1),.rows (O.k c6 1)])))) (O.b (O.i u4 O.m u11) (O.a [.int u27,.bool O.h]) (O.d (O.t (fun s6 c6=>let u38:=(O.c c6 1);(O.b (O.n u38 u19) (O.l (O.q u38 u19) (O.d (O.f 8 [] [.rows (O.rL u30 u38 0)]) fun c7=>(s6 [.int (O.o .i64 (O.c c6 0) (O.c c7 0)),.int (O.o .i64 u38 u28)]))) (O.a [.int (O.c c6 0),.int u38]))) [.int u33,.int u27]) fun c6=>(s0 [.int (O.c c6 0),.int u16,.int u15,.rows (O.k c5 1),.rows u31]))))) (O.b (O.g u2) (O.d (O.b O.h (O.a [.int u28,.rows u31]) (O.d (O.f 18 [] (cr O c2 [0,2,3,0,0,2,3,0,0,3,3,3] 0)) fun c5=>(O.b (O.g (O.e (O.c c5 0) u27)) (O.a [.int (O.c c5 0),.rows u31]) (O.d (O.f 54 [55] [.rows u31,.int u35]) fun c6=>(O.b (O.p c6 1) (O.d (O.f 17 [] (cr O c2 [0,2,3,0,0,2,3,0,0,3,3,3] 0)) fun c7=>(O.l (O.q (O.c c6 0) u20) (O.a [.int u27,.rows (O.x u31 (O.c c6 0) 0 (cr O c7 [0,2,3,0,0,2,3,0,0,3,3,3] 0))]))) (O.b u12 (O.a [.int u29,.rows u31]) (O.d (O.f 17 [] (cr O c2 [0,2,3,0,0,2,3,0,0,3,3,3] 0)) fun c7=>(O.d (O.f 20 [] [.rows u31,.int (O.c c6 0),.rows (O.y [(cr O c7 [0,2,3,0,0,2,3,0,0,3,3,3] 0)])]) fun c8=>(O.a [.int u27,.rows (O.k c8 0)]))))))))) fun c5=>(O.b (O.i u2 O.m (O.g (O.e (O.c c5 0) u27))) (O.a [.int u27,.bool O.h]) (O.d (O.t (fun s6 c6=>let u39:=(O.c c6 1);(O.b (O.n u39 u19) (O.l (O.q u39 u19) (O.d (O.f 8 [] [.rows (O.rL u30 u39 0)]) fun c7=>(s6 [.int (O.o .i64 (O.c c6 0) (O.c c7 0)),.int (O.o .i64 u39 u28)]))) (O.a [.int (O.c c6 0),.int u39]))) [.int u33,.int u27]) fun c6=>(s0 [.int (O.c c6 0),.int u16,.int u15,.rows u34,.rows (O.k c5 1)])))) (O.b (O.i u2 O.m u11) (O.a [.int u27,.bool O.h]) (O.d (O.t (fun s5 c5=>let u40:=(O.c c5 1);(O.b (O.n u40 u19) (O.l (O.q u40 u19) (O.d (O.f 8 [] [.rows (O.rL u30 u40 0)]) fun c6=>(s5 [.int (O.o .i64 (O.c c5 0) (O.c c6 0)),.int (O.o .i64 u40 u28)]))) (O.a [.int (O.c c5 0),.int u40]))) [.int u33,.int u27]) fun c5=>(s0 [.int (O.c c5 0),.int u16,.int u15,.rows u34,.rows u31])))))) (O.b (O.g u7) (O.d (O.b O.h (O.a [.int u28,.rows u32]) (O.d (O.f 18 [] (cr O c2 [0,2,3,0,0,2,3,0,0,3,3,3] 0)) fun c4=>(O.b (O.g (O.e (O.c c4 0) u27)) (O.a [.int (O.c c4 0),.rows u32]) (O.d (O.f 54 [55] [.rows u32,.int u35]) fun c5=>(O.b (O.p c5 1) (O.d (O.f 17 [] (cr O c2 [0,2,3,0,0,2,3,0,0,3,3,3] 0)) fun c6=>(O.l (O.q (O.c c5 0) u21) (O.a [.int u27,.rows (O.x u32 (O.c c5 0) 0 (cr O c6 [0,2,3,0,0,2,3,0,0,3,3,3] 0))]))) (O.b u14 (O.a [.int u29,.rows u32]) (O.d (O.f 17 [] (cr O c2 [0,2,3,0,0,2,3,0,0,3,3,3] 0)) fun c6=>(O.d (O.f 20 [] [.rows u32,.int (O.c c5 0),.rows (O.y [(cr O c6 [0,2,3,0,0,2,3,0,0,3,3,3] 0)])]) fun c7=>(O.a [.int u27,.rows (O.k c7 0)]))))))))) fun c4=>let u3:=(O.i u7 O.m (O.g (O.e (O.c c4 0) u27)));(O.b (O.g u3) (O.d (O.b O.h (O.a [.int u28,.rows u31]) (O.d (O.f 18 [] (cr O c2 [0,2,3,0,0,2,3,0,0,3,3,3] 0)) fun c5=>(O.b (O.g (O.e (O.c c5 0) u27)) (O.a [.int (O.c c5 0),.rows u31]) (O.d (O.f 54 [55] [.rows u31,.int u35]) fun c6=>(O.b (O.p c6 1) (O.d (O.f 17 [] (cr O c2 [0,2,3,0,0,2,3,0,0,3,3,3] 0)) fun c7=>(O.l (O.q (O.c c6 0) u20) (O.a [.int u27,.rows (O.x u31 (O.c c6 0) 0 (cr O c7 [0,2,3,0,0,2,3,0,0,3,3,3] 0))]))) (O.b u12 (O.a [.int u29,.rows u31]) (O.d (O.f 17 [] (cr O c2 [0,2,3,0,0,2,3,0,0,3,3,3] 0)) fun c7=>(O.d (O.f 20 [] [.rows u31,.int (O.c c6 0),.rows (O.y [(cr O c7 [0,2,3,0,0,2,3,0,0,3,3,3] 0)])]) fun c8=>(O.a [.int u27,.rows (O.k c8 0)]))))))))) fun c5=>(O.b (O.i u3 O.m (O.g (O.e (O.c c5 0) u27))) (O.a [.int u27,.bool O.h]) (O.d (O.t (fun s6 c6=>let u41:=(O.c c6 1);(O.b (O.n u41 u19) (O.l (O.q u41 u19) (O.d (O.f 8 [] [.rows (O.rL u30 u41 0)]) fun c7=>(s6 [.int (O.o .i64 (O.c c6 0) (O.c c7 0)),.int (O.o .i64 u41 u28)]))) (O.a [.int (O.c c6 0),.int u41]))) [.int u33,.int u27]) fun c6=>(s0 [.int (O.c c6 0),.int u16,.int u15,.rows (O.k c4 1),.rows (O.k c5 1)])))) (O.b (O.i u3 O.m u11) (O.a [.int u27,.bool O.h]) (O.d (O.t (fun s5 c5=>let u42:=(O.c c5 1);(O.b (O.n u42 u19) (O.l (O.q u42 u19) (O.d (O.f 8 [] [.rows (O.rL u30 u42 0)]) fun c6=>(s5 [.int (O.o .i64 (O.c c5 0) (O.c c6 0)),.int (O.o .i64 u42 u28)]))) (O.a [.int (O.c c5 0),.int u42]))) [.int u33,.int u27]) fun c5=>(s0 [.int (O.c c5 0),.int u16,.int u15,.rows (O.k c4 1),.rows u31]))))) (O.b (O.g u1) (O.d (O.b O.h (O.a [.int u28,.rows u31]) (O.d (O.f 18 [] (cr O c2 [0,2,3,0,0,2,3,0,0,3,3,3] 0)) fun c4=>(O.b (O.g (O.e (O.c c4 0) u27)) (O.a [.int (O.c c4 0),.rows u31]) (O.d (O.f 54 [55] [.rows u31,.int u35]) fun c5=>(O.b (O.p c5 1) (O.d (O.f 17 [] (cr O c2 [0,2,3,0,0,2,3,0,0,3,3,3] 0)) fun c6=>(O.l (O.q (O.c c5 0) u20) (O.a [.int u27,.rows (O.x u31 (O.c c5 0) 0 (cr O c6 [0,2,3,0,0,2,3,0,0,3,3,3] 0))]))) (O.b u12 (O.a [.int u29,.rows u31]) (O.d (O.f 17 [] (cr O c2 [0,2,3,0,0,2,3,0,0,3,3,3] 0)) fun c6=>(O.d (O.f 20 [] [.rows u31,.int (O.c c5 0),.rows (O.y [(cr O c6 [0,2,3,0,0,2,3,0,0,3,3,3] 0)])]) fun c7=>(O.a [.int u27,.rows (O.k c7 0)]))))))))) fun c4=>(O.b (O.i u1 O.m (O.g (O.e (O.c c4 0) u27))) (O.a [.int u27,.bool O.h]) (O.d (O.t (fun s5 c5=>let u43:=(O.c c5 1);(O.b (O.n u43 u19) (O.l (O.q u43 u19) (O.d (O.f 8 [] [.rows (O.rL u30 u43 0)]) fun c6=>(s5 [.int (O.o .i64 (O.c c5 0) (O.c c6 0)),.int (O.o .i64 u43 u28)]))) (O.a [.int (O.c c5 0),.int u43]))) [.int u33,.int u27]) fun c5=>(s0 [.int (O.c c5 0),.int u16,.int u15,.rows u32,.rows (O.k c4 1)])))) (O.b (O.i u1 O.m u11) (O.a [.int u27,.bool O.h]) (O.d (O.t (fun s4 c4=>let u44:=(O.c c4 1);(O.b (O.n u44 u19) (O.l (O.q u44 u19) (O.d (O.f 8 [] [.rows (O.rL u30 u44 0)]) fun c5=>(s4 [.int (O.o .i64 (O.c c4 0) (O.c c5 0)),.int (O.o .i64 u44 u28)]))) (O.a [.int (O.c c4 0),.int u44]))) [.int u33,.int u27]) fun c4=>(s0 [.int (O.c c4 0),.int u16,.int u15,.rows u32,.rows u31]))))))))))))) (O.a [.int u28,.int u33,.int (O.c c0 1),.rows u32,.rows u31]))) [.int u27,.int u27,.int u27,.rows O.s,.rows O.s]) fun c0=>(O.b (O.z c0 0) (O.a [.bool (O.p c0 1)]) (O.d (O.f 9 [] [.rows (O.y [[.rows (O.k c0 4)]])]) fun c1=>let u24:=(O.j (O.k c1 0));(O.d (O.t (fun s2 c2=>let u45:=(O.c c2 1);let u17:=(O.rS (O.k c1 0) u45 0);(O.b (O.n u45 u24) (O.l (O.q u45 u24) (O.d (O.f 10 [] [.rows (O.y [[.rows (O.k c2 2)]]),.str u17]) fun c3=>(O.d (O.f 10 [] [.rows (O.y [[.rows (O.k c2 3)]]),.str u17]) fun c4=>(O.b (O.i (O.g (O.aa (O.ao (O.cS c3 0) (O.cS c4 0)) (O.aa (O.e (O.c c3 1) (O.c c4 1)) (O.aa (O.e (O.c c3 2) (O.c c4 2)) (O.aa (O.e (O.c c3 3) (O.c c4 3)) (O.aa (O.e (O.c c3 4) (O.c c4 4)) (O.aa (O.e (O.c c3 5) (O.c c4 5)) (O.aa (O.e (O.c c3 6) (O.c c4 6)) (O.aa (O.e (O.c c3 7) (O.c c4 7)) (O.aa (O.e (O.c c3 8) (O.c c4 8)) (O.aa (O.e (O.c c3 9) (O.c c4 9)) (O.aa (O.e (O.c c3 10) (O.c c4 10)) (O.e (O.c c3 11) (O.c c4 11)))))))))))))) O.m (O.g (O.e (O.c c3 1) (O.c c0 2)))) (O.a [.int u27,.bool O.h]) (s2 [.int (O.o .i64 (O.c c2 0) (O.c c3 4)),.int (O.o .i64 u45 u28),.rows (O.k c2 2),.rows (O.k c2 3)]))))) (O.a [.int u28,.int (O.c c2 0),.rows (O.k c2 2)]))) [.int u27,.int u27,.rows (O.k c0 3),.rows (O.k c0 4)]) fun c2=>let u18:=(O.e (O.c c2 1) (O.c c0 1));(O.b (O.z c2 0) (O.a [.bool (O.p c2 1)]) (O.d (O.b u18 (O.f 11 [] [.rows (O.y [[.rows (O.k c2 2)]])]) (O.a [.rows O.s])) fun c3=>(O.a [.bool (O.i u18 (O.e (O.j (O.k c3 0)) (O.c c0 2)) O.h)]))))))))
def A3 (N:Nat):Env:=fun f fns ls=>(cond (Nat.beq f 5&&AR fns []) (Gp N ls) (cond (Nat.beq f 6&&AR fns []) (EK N ls) (cond (Nat.beq f 8&&AR fns []) (KG N ls) (cond (Nat.beq f 9&&AR fns []) (DF N ls) (cond (Nat.beq f 10&&AR fns []) (DW N ls) (cond (Nat.beq f 11&&AR fns []) (EZ N ls) (cond (Nat.beq f 17&&AR fns []) (CA N ls) (cond (Nat.beq f 18&&AR fns []) (E2 N ls) (cond (Nat.beq f 20&&AR fns []) (CJ N ls) (cond (Nat.beq f 54&&AR fns [55]) (Bw N ls) none))))))))))
theorem RY {N ls}:A3 N 5 [] ls=Gp N ls:=id rfl
theorem Qa {N ls}:A3 N 6 [] ls=EK N ls:=id rfl
theorem PY {N ls}:A3 N 8 [] ls=KG N ls:=id rfl
theorem LS {N ls}:A3 N 9 [] ls=DF N ls:=id rfl
theorem L4 {N ls}:A3 N 10 [] ls=DW N ls:=id rfl
theorem LA {N ls}:A3 N 11 [] ls=EZ N ls:=id rfl
theorem Ph {N ls}:A3 N 17 [] ls=CA N ls:=id rfl
theorem Pe {N ls}:A3 N 18 [] ls=E2 N ls:=id rfl
theorem ML {N ls}:A3 N 20 [] ls=CJ N ls:=id rfl
theorem Ht {N ls}:A3 N 54 [55] ls=Bw N ls:=id rfl
def Gx:=oS O2 G7 A3
def As (xs:List Inn):Rows:=xs.map Inn.ls
def dI:Inn:=⟨0,0,0,0,0,0,0,0,0,0,0,0,0,0,[],0,[],[],false,[],false,0,0,0,[],0,0,0⟩
def inn (xs:List Inn) (i:Nat):Inn:=xs.getD i dI
structure Mat where
 rules:Rul
 stage:Int
 first:Int
 follow:Bool
 inns:List Inn
 pen1:Int
 pen2:Int
 win:Int
 wside:Int
 margin:Int
def Mat.ls (m:Mat):List PV:=[.str m.rules.name,.int m.rules.side,.int m.rules.innings,.int m.rules.overs,.int m.rules.balls,.int m.rules.quota,.int m.rules.wide,.int m.rules.noball,.bool m.rules.freehit,.int m.rules.newball,.int m.rules.followon,.int m.rules.reviews,.int m.rules.outside,.rows m.rules.power,.int m.stage,.int m.first,.bool m.follow,.rows (As m.inns),.int m.pen1,.int m.pen2,.int m.win,.int m.wside,.int m.margin]
def YY (x:Mat×Int):List PV:=[.str x.1.rules.name,.int x.1.rules.side,.int x.1.rules.innings,.int x.1.rules.overs,.int x.1.rules.balls,.int x.1.rules.quota,.int x.1.rules.wide,.int x.1.rules.noball,.bool x.1.rules.freehit,.int x.1.rules.newball,.int x.1.rules.followon,.int x.1.rules.reviews,.int x.1.rules.outside,.rows x.1.rules.power,.int x.1.stage,.int x.1.first,.bool x.1.follow,.rows (As x.1.inns),.int x.1.pen1,.int x.1.pen2,.int x.1.win,.int x.1.wside,.int x.1.margin,.int x.2]
theorem kr (xs:List Inn) (i:Nat):AB (As xs) i=(match xs[i]? with|some s=>s.ls|none=>[]):=by
 unfold AB As
 grind
theorem Ol (xs:List Inn) (i:Nat):inn xs i=(match xs[i]? with|some s=>s|none=>dI):=by
 unfold inn
 grind
theorem fN (xs:List Inn):(As xs).length=xs.length:=List.length_map _
theorem PXi:(∀ xs:List Inn,(As xs).length=xs.length)∧(∀ (xs:List Inn) (i:Nat),pvI (AD (As xs) i 0)=(inn xs i).side)∧(∀ (xs:List Inn) (i:Nat),pvI (AD (As xs) i 1)=(inn xs i).target)∧(∀ (xs:List Inn) (i:Nat),pvI (AD (As xs) i 2)=(inn xs i).overs)∧(∀ (xs:List Inn) (i:Nat),pvI (AD (As xs) i 3)=(inn xs i).runs) ∧
    (∀(xs:List Inn) (i:Nat),pvI (AD (As xs) i 4)=(inn xs i).wickets)∧(∀(xs:List Inn) (i:Nat),pvI (AD (As xs) i 5)=(inn xs i).wides)∧(∀(xs:List Inn) (i:Nat),pvI (AD (As xs) i 6)=(inn xs i).noballs)∧(∀(xs:List Inn) (i:Nat),pvI (AD (As xs) i 7)=(inn xs i).byes)∧(∀(xs:List Inn) (i:Nat),pvI (AD (As xs) i 8)=(inn xs i).legbyes) ∧
    (∀(xs:List Inn) (i:Nat),pvI (AD (As xs) i 9)=(inn xs i).pens)∧(∀(xs:List Inn) (i:Nat),pvI (AD (As xs) i 10)=(inn xs i).complete)∧(∀(xs:List Inn) (i:Nat),pvI (AD (As xs) i 11)=(inn xs i).inover)∧(∀(xs:List Inn) (i:Nat),pvI (AD (As xs) i 12)=(inn xs i).striker)∧(∀(xs:List Inn) (i:Nat),pvI (AD (As xs) i 13)=(inn xs i).other) ∧
    (∀(xs:List Inn) (i:Nat),pvL (AD (As xs) i 14)=(inn xs i).batters)∧(∀(xs:List Inn) (i:Nat),pvI (AD (As xs) i 15)=(inn xs i).bowler)∧(∀(xs:List Inn) (i:Nat),pvL (AD (As xs) i 16)=(inn xs i).bowlers)∧(∀(xs:List Inn) (i:Nat),pvL (AD (As xs) i 17)=(inn xs i).before)∧(∀(xs:List Inn) (i:Nat),pvB (AD (As xs) i 18)=(inn xs i).fresh) ∧
    (∀(xs:List Inn) (i:Nat),pvL (AD (As xs) i 19)=(inn xs i).bowled)∧(∀(xs:List Inn) (i:Nat),pvB (AD (As xs) i 20)=(inn xs i).freehit)∧(∀(xs:List Inn) (i:Nat),pvI (AD (As xs) i 21)=(inn xs i).ballage)∧(∀(xs:List Inn) (i:Nat),pvI (AD (As xs) i 22)=(inn xs i).keeper)∧(∀(xs:List Inn) (i:Nat),pvI (AD (As xs) i 23)=(inn xs i).outside) ∧
    (∀(xs:List Inn) (i:Nat),pvL (AD (As xs) i 24)=(inn xs i).subs)∧(∀(xs:List Inn) (i:Nat),pvI (AD (As xs) i 25)=(inn xs i).rev1)∧(∀(xs:List Inn) (i:Nat),pvI (AD (As xs) i 26)=(inn xs i).rev2)∧(∀(xs:List Inn) (i:Nat),pvI (AD (As xs) i 27)=(inn xs i).ending):=by
  refine⟨fN,?_,?_,?_,?_,?_,?_,?_,?_,?_,?_,?_,?_,?_,?_,?_,?_,?_,?_,?_,?_,?_,?_,?_,?_,?_,?_,?_,?_⟩
  all_goals (intro xs i;rw[Ol];unfold AD;rw[kr];cases xs[i]?<;>rfl)
theorem Mat.eta (m:Mat):Mat.mk m.rules m.stage m.first m.follow m.inns m.pen1 m.pen2 m.win m.wside m.margin=m:=rfl
theorem PXk:(∀ m:Mat,m.ls=[.str m.rules.name,.int m.rules.side,.int m.rules.innings,.int m.rules.overs,.int m.rules.balls,.int m.rules.quota,.int m.rules.wide,.int m.rules.noball,.bool m.rules.freehit,.int m.rules.newball,.int m.rules.followon,.int m.rules.reviews,.int m.rules.outside,.rows m.rules.power,.int m.stage,.int m.first,.bool m.follow,.rows (As m.inns),.int m.pen1,.int m.pen2,.int m.win,.int m.wside,.int m.margin]) ∧
    (∀x:Mat×Int,YY x=[.str x.1.rules.name,.int x.1.rules.side,.int x.1.rules.innings,.int x.1.rules.overs,.int x.1.rules.balls,.int x.1.rules.quota,.int x.1.rules.wide,.int x.1.rules.noball,.bool x.1.rules.freehit,.int x.1.rules.newball,.int x.1.rules.followon,.int x.1.rules.reviews,.int x.1.rules.outside,.rows x.1.rules.power,.int x.1.stage,.int x.1.first,.bool x.1.follow,.rows (As x.1.inns),.int x.1.pen1,.int x.1.pen2,.int x.1.win,.int x.1.wside,.int x.1.margin,.int x.2]) ∧
    (∀m:Mat,Mat.mk m.rules m.stage m.first m.follow m.inns m.pen1 m.pen2 m.win m.wside m.margin=m):=⟨fun _=>rfl,fun _=>rfl,fun _=>rfl⟩
theorem ul:∀(ps r pre:List PV),r.length=ps.length→putRow (pre++r) pre.length ps=pre++ps
 | [],r,pre,h=>by
  have:r=[]:=List.eq_nil_of_length_eq_zero h;subst this;rfl
 |p::ps,[],pre,h=>by cases h
 |p::ps,a::r,pre,h=>by
  have ih:=ul ps r (pre++[p]) (by grind);simp only[List.length_append,List.length_cons,List.length_nil,List.append_assoc,List.cons_append,List.nil_append]at ih;unfold putRow
  simp_all
theorem ACN (a s:Inn):putRow a.ls 0 s.ls=s.ls:=ul s.ls a.ls [] rfl
theorem AAg (a:Inn) (e:Int):putRow a.ls 27 [.int e]=Inn.ls { a with ending:=e }:=by
 rfl
theorem ABH {xs:List Inn} {i:Nat} (h:i<xs.length) (s:Inn):(As xs).set i (putRow (AB (As xs) i) 0 s.ls)=As (xs.set i s):=by
 have e:AB (As xs) i=(xs[i]).ls:=by rw[kr,zzn h]
 rw[e,ACN];exact List.map_set.symm
theorem ABW {xs:List Inn} {i:Nat} (h:i<xs.length) (e:Int):(As xs).set i (putRow (AB (As xs) i) 27 [.int e])=As (xs.set i { inn xs i with ending:=e }):=by
 have e1:AB (As xs) i=(inn xs i).ls:=by rw[kr,Ol,zzn h]
 rw[e1,AAg];exact List.map_set.symm
theorem ABV (xs:List Inn) (s:Inn):As xs++[s.ls]=As (xs++[s]):=by
 show List.map Inn.ls xs++List.map Inn.ls [s]=List.map Inn.ls (xs++[s])
 simp_all
theorem ABq (xs:List Inn) (i:Nat) (s:Inn):(As xs).set i (putRow (AB (As xs) i) 0 s.ls)=As (xs.set i s):=by
 by_cases h:i<xs.length
 ·exact ABH h s
 rw[List.set_eq_of_length_le (by rw[fN];omega),List.set_eq_of_length_le (by omega)]
theorem sS (xs:List Inn) (i:Nat) (e:Int):(As xs).set i (putRow (AB (As xs) i) 27 [.int e])=As (xs.set i { inn xs i with ending:=e }):=by
 by_cases h:i<xs.length
 ·exact ABW h e
 rw[List.set_eq_of_length_le (by rw[fN];omega),List.set_eq_of_length_le (by omega)]
theorem PXr:(∀ (xs:List Inn) (x0 x1 x2 x3 x4 x5 x6 x7 x8 x9 x10 x11 x12 x13 x15 x21 x22 x23 x25 x26 x27:Int) (x18 x20:Bool) (x14 x16 x17 x19 x24:Rows),As xs++[([.int x0,.int x1,.int x2,.int x3,.int x4,.int x5,.int x6,.int x7,.int x8,.int x9,.int x10,.int x11,.int x12,.int x13,.rows x14,.int x15,.rows x16,.rows x17,.bool x18,.rows x19,.bool x20,.int x21,.int x22,.int x23,.rows x24,.int x25,.int x26,.int x27]:List PV)]=As (xs++[⟨x0,x1,x2,x3,x4,x5,x6,x7,x8,x9,x10,x11,x12,x13,x14,x15,x16,x17,x18,x19,x20,x21,x22,x23,x24,x25,x26,x27⟩]))∧(∀ (xs:List Inn) (i:Nat) (x0 x1 x2 x3 x4 x5 x6 x7 x8 x9 x10 x11 x12 x13 x15 x21 x22 x23 x25 x26 x27:Int) (x18 x20:Bool) (x14 x16 x17 x19 x24:Rows),(As xs).set i (putRow (AB (As xs) i) 0 [.int x0,.int x1,.int x2,.int x3,.int x4,.int x5,.int x6,.int x7,.int x8,.int x9,.int x10,.int x11,.int x12,.int x13,.rows x14,.int x15,.rows x16,.rows x17,.bool x18,.rows x19,.bool x20,.int x21,.int x22,.int x23,.rows x24,.int x25,.int x26,.int x27])=As (xs.set i ⟨x0,x1,x2,x3,x4,x5,x6,x7,x8,x9,x10,x11,x12,x13,x14,x15,x16,x17,x18,x19,x20,x21,x22,x23,x24,x25,x26,x27⟩)) ∧
    (∀(xs:List Inn) (i:Nat) (e:Int),(As xs).set i (putRow (AB (As xs) i) 27 [.int e])=As (xs.set i { inn xs i with ending:=e })) :=
  ⟨fun xs x0 x1 x2 x3 x4 x5 x6 x7 x8 x9 x10 x11 x12 x13 x15 x21 x22 x23 x25 x26 x27 x18 x20 x14 x16 x17 x19 x24=>ABV xs ⟨x0,x1,x2,x3,x4,x5,x6,x7,x8,x9,x10,x11,x12,x13,x14,x15,x16,x17,x18,x19,x20,x21,x22,x23,x24,x25,x26,x27⟩,fun xs i x0 x1 x2 x3 x4 x5 x6 x7 x8 x9 x10 x11 x12 x13 x15 x21 x22 x23 x25 x26 x27 x18 x20 x14 x16 x17 x19 x24=>ABq xs i ⟨x0,x1,x2,x3,x4,x5,x6,x7,x8,x9,x10,x11,x12,x13,x14,x15,x16,x17,x18,x19,x20,x21,x22,x23,x24,x25,x26,x27⟩,sS⟩
theorem Id {N:Nat} {s18 s20:Bool} (h:Fit s14 s16 s17 s19 s24):BD N [.int s0,.int s1,.int s2,.int s3,.int s4,.int s5,.int s6,.int s7,.int s8,.int s9,.int s10,.int s11,.int s12,.int s13,.rows s14,.int s15,.rows s16,.rows s17,.bool s18,.rows s19,.bool s20,.int s21,.int s22,.int s23,.rows s24,.int s25,.int s26,.int s27]=some [.int s0,.int s1,.int s2,.int s3,.int s4,.int s5,.int s6,.int s7,.int s8,.int s9,.int s10,.int s11,.int s12,.int s13,.rows s14,.int s15,.rows s16,.rows s17,.bool s18,.rows s19,.bool s20,.int s21,.int s22,.int s23,.rows s24,.int s25,.int s26,.int s27]:=by
 show OH (std (Ih N) N) (xOf _)=_;simp only[OH,Nc,Pa,PG,lq9,std,xOf,PXb,PXc,PXn,PXm,Nat.reduceAdd,Int.reduceBEq,Ae,Ad,Ah,BN h.bt (show 1≤4096 by omega),BN h.bw' (show 8≤4096 by omega),BN h.bf (show 8≤4096 by omega),BN h.bd (show 8≤4096 by omega),BN h.sb (show 1≤4096 by omega)]
theorem Ib {N:Nat} {s18 s20:Bool} {p:Int}  : BC N [.int s0,.int s1,.int s2,.int s3,.int s4,.int s5,.int s6,.int s7,.int s8,.int s9,.int s10,.int s11,.int s12,.int s13,.rows s14,.int s15,.rows s16,.rows s17,.bool s18,.rows s19,.bool s20,.int s21,.int s22,.int s23,.rows s24,.int s25,.int s26,.int s27,.int p]=some [.bool (inR p s14.length)]:=by
 show Lx (std (UE N) N) (xOf _)=_;simp only[Lx,lq9,std,xOf,PXb,PXc,PXn,PXm,Nat.reduceAdd,Int.reduceBEq];rfl
def Au (s:Inn) (d:Del):Inn :=
  let odd := !(d.runs.tmod 2==0) != d.crossed
  let t:Inn:=cond odd { s with striker:=s.other,other:=s.striker } s
  let k:Bool:=d.how==0
  cond (!k&&(d.victim==1 && !(s.striker==0)))
    { t with striker:=cond odd t.striker 0,other:=cond odd 0 t.other,batters:=cond (inR s.striker s.batters.length) (Pw s.batters s.striker 2) s.batters,wickets:=IntKind.i64.wrap (s.wickets+1) }
    (cond (!k&&(d.victim==2 && !(s.other==0)))
      { t with striker:=cond odd 0 t.striker,other:=cond odd t.other 0,batters:=cond (inR s.other s.batters.length) (Pw s.batters s.other 2) s.batters,wickets:=IntKind.i64.wrap (s.wickets+1) }
      t)
theorem qG {N:Nat} {s18 s20:Bool} {d0 d1 d2 d3 d4 d6 d7 d8 d9 d11:Int} {d5 d10:Bool} (h:Fit s14 s16 s17 s19 s24):Kd N [.int s0,.int s1,.int s2,.int s3,.int s4,.int s5,.int s6,.int s7,.int s8,.int s9,.int s10,.int s11,.int s12,.int s13,.rows s14,.int s15,.rows s16,.rows s17,.bool s18,.rows s19,.bool s20,.int s21,.int s22,.int s23,.rows s24,.int s25,.int s26,.int s27,.int d0,.int d1,.int d2,.int d3,.int d4,.bool d5,.int d6,.int d7,.int d8,.int d9,.bool d10,.int d11]=some (Au (⟨s0,s1,s2,s3,s4,s5,s6,s7,s8,s9,s10,s11,s12,s13,s14,s15,s16,s17,s18,s19,s20,s21,s22,s23,s24,s25,s26,s27⟩:Inn) (⟨d0,d1,d2,d3,d4,d5,d6,d7,d8,d9,d10,d11⟩:Del)).ls:=by
 show Of (std (Lt N) N) (xOf _)=_;simp only[Of,Um,Sw,lq9,std,xOf,PXb,PXc,PXn,PXm,Nat.reduceAdd,Int.reduceBEq,Id h,Ib,AB7 h.bt];unfold Au;cases d5<;>cases d2.tmod 2==0<;>cases d6==0<;>cases d7==1<;>cases d7==2<;>cases s12==0<;>cases s13==0<;>rfl
def L8 (s:Inn):Inn:={ s with striker:=s.other,other:=s.striker }
theorem hG {N:Nat} {s18 s20:Bool} (h:Fit s14 s16 s17 s19 s24):G4 N [.int s0,.int s1,.int s2,.int s3,.int s4,.int s5,.int s6,.int s7,.int s8,.int s9,.int s10,.int s11,.int s12,.int s13,.rows s14,.int s15,.rows s16,.rows s17,.bool s18,.rows s19,.bool s20,.int s21,.int s22,.int s23,.rows s24,.int s25,.int s26,.int s27]=some (L8 (⟨s0,s1,s2,s3,s4,s5,s6,s7,s8,s9,s10,s11,s12,s13,s14,s15,s16,s17,s18,s19,s20,s21,s22,s23,s24,s25,s26,s27⟩:Inn)).ls:=by
 show J3 (std (MB N) N) (xOf _)=_;simp only[J3,R2,lq9,std,xOf,PXb,PXc,PXn,PXm,Nat.reduceAdd,Int.reduceBEq,Id h];rfl
theorem eR {N:Nat} {v:Int}  : DT N [.int v]=some [.bool (!(v==0))]:=by
 rfl
theorem cy {N:Nat} {v:Int}  : FP N [.int v]=some [.bool (!(v==0))]:=by
 rfl
theorem XU {N:Nat} {s18 s20:Bool} (h:s14.length≤1048576) (hN:2097152<N):CW N [.int s0,.int s1,.int s2,.int s3,.int s4,.int s5,.int s6,.int s7,.int s8,.int s9,.int s10,.int s11,.int s12,.int s13,.rows s14,.int s15,.rows s16,.rows s17,.bool s18,.rows s19,.bool s20,.int s21,.int s22,.int s23,.rows s24,.int s25,.int s26,.int s27]=some [.bool (DX s14)]:=by
 show Fq (std (F4 N) N) (xOf _)=_;simp only[Fq,Hp,lq9,std,xOf,PXb,PXc,PXn,AE];rw[show DX s14=iLe 0 (Dj (fun i => !(atI s14 i 0==0)) s14.length)from(HC _ _).symm];rw[Option.bind_assoc];refine AN (B1 (len:=s14.length) (DS fun i => !(atI s14 i 0==0)) ?_ ?_ s14.length 0 N (by omega) (by omega)) ?_
 ·intro self;simp only[PXb,PXc,PXn,AE,Aj]
 ·intro i self hi;simp only[PXb,PXc,PXn,AE,A9 (show i≤1099511627776 by omega),Aa hi,AJ hi,DS,Dc,Hp,eR]
  grind
 unfold Dj;cases Ax (DS fun i => !(atI s14 i 0==0)) s14.length 0<;>rfl
theorem jH {N:Nat} {s18 s20:Bool} (h:s14.length≤1048576) (hN:2097152<N):Gv N [.int s0,.int s1,.int s2,.int s3,.int s4,.int s5,.int s6,.int s7,.int s8,.int s9,.int s10,.int s11,.int s12,.int s13,.rows s14,.int s15,.rows s16,.rows s17,.bool s18,.rows s19,.bool s20,.int s21,.int s22,.int s23,.rows s24,.int s25,.int s26,.int s27]=some [.bool (DX s14)]:=by
 show KF (std (MP N) N) (xOf _)=_;simp only[KF,Gd,lq9,std,xOf,PXb,PXc,PXn,AE];rw[show DX s14=iLe 0 (Dj (fun i => !(atI s14 i 0==0)) s14.length)from(HC _ _).symm];rw[Option.bind_assoc];refine AN (B1 (len:=s14.length) (DS fun i => !(atI s14 i 0==0)) ?_ ?_ s14.length 0 N (by omega) (by omega)) ?_
 ·intro self;simp only[PXb,PXc,PXn,AE,Aj]
 ·intro i self hi;simp only[PXb,PXc,PXn,AE,A9 (show i≤1099511627776 by omega),Aa hi,AJ hi,DS,Dc,Gd,cy]
  grind
 unfold Dj;cases Ax (DS fun i => !(atI s14 i 0==0)) s14.length 0<;>rfl
theorem Vw {N:Nat} {s18 s20:Bool} (h:s14.length≤1048576) (hN:2097152<N):Bb N [.int s0,.int s1,.int s2,.int s3,.int s4,.int s5,.int s6,.int s7,.int s8,.int s9,.int s10,.int s11,.int s12,.int s13,.rows s14,.int s15,.rows s16,.rows s17,.bool s18,.rows s19,.bool s20,.int s21,.int s22,.int s23,.rows s24,.int s25,.int s26,.int s27]=some [.bool (JN s14 s12 s13)]:=by
 show Ew (std (FJ N) N) (xOf _)=_;simp only[Ew,QM,lq9,std,xOf,PXb,PXc,PXn,PXm,Nat.reduceAdd,Int.reduceBEq,XU h hN];rfl
theorem nn {N:Nat} {s18 s20:Bool} (h:s14.length≤1048576) (hN:2097152<N):DQ N [.int s0,.int s1,.int s2,.int s3,.int s4,.int s5,.int s6,.int s7,.int s8,.int s9,.int s10,.int s11,.int s12,.int s13,.rows s14,.int s15,.rows s16,.rows s17,.bool s18,.rows s19,.bool s20,.int s21,.int s22,.int s23,.rows s24,.int s25,.int s26,.int s27]=some [.rows (Fd s14 s14.length)]:=by
 show Gm (std (OW N) N) (xOf _)=_;simp only[Gm,lq9,std,xOf,PXb,PXc,PXn,AE];refine AN (BP (len:=s14.length) (fun i=>[.rows (Fd s14 i),.int (i:Int)]) [.rows (Fd s14 s14.length)] ?_ ?_ N (by omega)) rfl
 ·intro self;simp only[PXb,PXc,PXn,AE,Aj]
 intro i self hi;have h2:(Fd s14 i++[[PV.int ((i:Int)+1)]]).length≤4194304:=by have:=fe s14 i;simp;omega
 simp only[PXb,PXc,PXn,AE,A9 (show i≤1099511627776 by omega),Aa hi,AJ hi,Dc,Fd,C4 h2 (show 8≤4096 by omega)]
 grind
def LZ (s:Inn) (p q:Int):Inn×Int :=
  cond (DX s.batters) (s,1) (cond (!inR p s.batters.length || !inR q s.batters.length) (s,3) (cond (p==q) (s,4)
    ({ s with batters:=Pw (Pw s.batters p 1) q 1,striker:=p,other:=q },0)))
theorem nV {N:Nat} {s18 s20:Bool} {p:Int} {q:Int} (h:Fit s14 s16 s17 s19 s24) (hN:2097152<N):JS N [.int s0,.int s1,.int s2,.int s3,.int s4,.int s5,.int s6,.int s7,.int s8,.int s9,.int s10,.int s11,.int s12,.int s13,.rows s14,.int s15,.rows s16,.rows s17,.bool s18,.rows s19,.bool s20,.int s21,.int s22,.int s23,.rows s24,.int s25,.int s26,.int s27,.int p,.int q]=some (BZ (LZ (⟨s0,s1,s2,s3,s4,s5,s6,s7,s8,s9,s10,s11,s12,s13,s14,s15,s16,s17,s18,s19,s20,s21,s22,s23,s24,s25,s26,s27⟩:Inn) p q)):=by
 show Mz (std (G2 N) N) (xOf _)=_;generalize hres:(some (BZ (LZ (⟨s0,s1,s2,s3,s4,s5,s6,s7,s8,s9,s10,s11,s12,s13,s14,s15,s16,s17,s18,s19,s20,s21,s22,s23,s24,s25,s26,s27⟩:Inn) p q)):Option (List PV))=RR;simp only[Mz,UW,Rw,Ro,lq9,std,xOf,PXb,PXc,PXn,PXm,Nat.reduceAdd,Int.reduceBEq,Id h,XU h.bt hN,Ib];subst hres;simp only[LZ];cases DX s14<;>try rfl
 cases hp:inR p s14.length<;>cases hq:inR q s14.length<;>try rfl
 rw[M9 hp h.bt,M9 hq h.bt];cases p==q<;>rfl
def MK (s:Inn) (p:Int):Int :=
 cond (!inR p s.batters.length) 3 (cond (!JN s.batters s.striker s.other||atI s.batters (ix p) 0==1) 4 (cond (atI s.batters (ix p) 0==2) 5 0))
theorem bH {N:Nat} {s18 s20:Bool} {p:Int} (h:s14.length≤1048576) (hN:2097152<N):Ej N [.int s0,.int s1,.int s2,.int s3,.int s4,.int s5,.int s6,.int s7,.int s8,.int s9,.int s10,.int s11,.int s12,.int s13,.rows s14,.int s15,.rows s16,.rows s17,.bool s18,.rows s19,.bool s20,.int s21,.int s22,.int s23,.rows s24,.int s25,.int s26,.int s27,.int p]=some [.int (MK (⟨s0,s1,s2,s3,s4,s5,s6,s7,s8,s9,s10,s11,s12,s13,s14,s15,s16,s17,s18,s19,s20,s21,s22,s23,s24,s25,s26,s27⟩:Inn) p)]:=by
 show PO (std (Lj N) N) (xOf _)=_;generalize hres:(some [.int (MK (⟨s0,s1,s2,s3,s4,s5,s6,s7,s8,s9,s10,s11,s12,s13,s14,s15,s16,s17,s18,s19,s20,s21,s22,s23,s24,s25,s26,s27⟩:Inn) p)]:Option (List PV))=RR;simp only[PO,Rz,Ss,lq9,std,xOf,PXb,PXc,PXn,PXm,Nat.reduceAdd,Int.reduceBEq,Ib,Vw h hN];subst hres;simp only[MK];cases hp:inR p s14.length<;>try rfl
 rw[M9 hp h];cases JN s14 s12 s13<;>try rfl
 simp only[PXb,PXc,PXn,PXm,Nat.reduceAdd,Int.reduceBEq,atI,ix]
theorem aJ {s:Inn} {p:Int} (h:(MK s p==0)=true):inR p s.batters.length=true:=by
 unfold MK at h
 grind
def Kf (s:Inn) (p:Int):Inn×Int :=
 cond (MK s p==0) ({ s with batters:=Pw s.batters p 1,striker:=cond (s.striker==0) p s.striker,other:=cond (s.striker==0) s.other p },0) (s,MK s p)
def E7 (s:Inn) (p:Int):Inn×Int :=
 cond (MK s p==0) ({ s with batters:=Pw s.batters p 2,wickets:=IntKind.i64.wrap (s.wickets+1) },0) (s,MK s p)
theorem lC {N:Nat} {s18 s20:Bool} {p:Int} (h:Fit s14 s16 s17 s19 s24) (hN:2097152<N):IW N [.int s0,.int s1,.int s2,.int s3,.int s4,.int s5,.int s6,.int s7,.int s8,.int s9,.int s10,.int s11,.int s12,.int s13,.rows s14,.int s15,.rows s16,.rows s17,.bool s18,.rows s19,.bool s20,.int s21,.int s22,.int s23,.rows s24,.int s25,.int s26,.int s27,.int p]=some (BZ (Kf (⟨s0,s1,s2,s3,s4,s5,s6,s7,s8,s9,s10,s11,s12,s13,s14,s15,s16,s17,s18,s19,s20,s21,s22,s23,s24,s25,s26,s27⟩:Inn) p)):=by
 show Lk (std (I0 N) N) (xOf _)=_;generalize hres:(some (BZ (Kf (⟨s0,s1,s2,s3,s4,s5,s6,s7,s8,s9,s10,s11,s12,s13,s14,s15,s16,s17,s18,s19,s20,s21,s22,s23,s24,s25,s26,s27⟩:Inn) p)):Option (List PV))=RR;simp only[Lk,So,Su,lq9,std,xOf,PXb,PXc,PXn,PXm,Nat.reduceAdd,Int.reduceBEq,Id h,bH h.bt hN];subst hres;simp only[Kf];cases hm:MK (⟨s0,s1,s2,s3,s4,s5,s6,s7,s8,s9,s10,s11,s12,s13,s14,s15,s16,s17,s18,s19,s20,s21,s22,s23,s24,s25,s26,s27⟩:Inn) p==0<;>try rfl
 rw[M9 (aJ hm) h.bt];cases s12==0<;>rfl
theorem fT {N:Nat} {s18 s20:Bool} {p:Int} (h:Fit s14 s16 s17 s19 s24) (hN:2097152<N):GM N [.int s0,.int s1,.int s2,.int s3,.int s4,.int s5,.int s6,.int s7,.int s8,.int s9,.int s10,.int s11,.int s12,.int s13,.rows s14,.int s15,.rows s16,.rows s17,.bool s18,.rows s19,.bool s20,.int s21,.int s22,.int s23,.rows s24,.int s25,.int s26,.int s27,.int p]=some (BZ (E7 (⟨s0,s1,s2,s3,s4,s5,s6,s7,s8,s9,s10,s11,s12,s13,s14,s15,s16,s17,s18,s19,s20,s21,s22,s23,s24,s25,s26,s27⟩:Inn) p)):=by
 show JE (std (Ea N) N) (xOf _)=_;generalize hres:(some (BZ (E7 (⟨s0,s1,s2,s3,s4,s5,s6,s7,s8,s9,s10,s11,s12,s13,s14,s15,s16,s17,s18,s19,s20,s21,s22,s23,s24,s25,s26,s27⟩:Inn) p)):Option (List PV))=RR;simp only[JE,Re,PX,RS,lq9,std,xOf,PXb,PXc,PXn,PXm,Nat.reduceAdd,Int.reduceBEq,Id h,bH h.bt hN,Ib];subst hres;simp only[E7];cases hm:MK (⟨s0,s1,s2,s3,s4,s5,s6,s7,s8,s9,s10,s11,s12,s13,s14,s15,s16,s17,s18,s19,s20,s21,s22,s23,s24,s25,s26,s27⟩:Inn) p==0<;>try rfl
 have hk:inR p s14.length=true:=aJ hm;rw[M9 hk h.bt,hk];rfl
def Fr (s:Inn) (p:Int) (hurt:Bool):Inn×Int :=
  cond (!inR p s.batters.length) (s,3) (cond (s.striker==0||s.other==0) (s,6) (cond (!(p==s.striker) && !(p==s.other)) (s,4)
    (cond (hurt&&((Fd s.batters s.batters.length).length:Int)==0) (s,19)
      ({ s with striker:=cond (p==s.striker) 0 s.striker,other:=cond (p==s.striker) s.other 0,batters:=Pw s.batters p (cond hurt 3 2),wickets:=cond hurt s.wickets (IntKind.i64.wrap (s.wickets+1)) },0))))
theorem gt {N:Nat} {s18 s20:Bool} {p:Int} {b:Bool} (h:Fit s14 s16 s17 s19 s24) (hN:2097152<N):HR N [.int s0,.int s1,.int s2,.int s3,.int s4,.int s5,.int s6,.int s7,.int s8,.int s9,.int s10,.int s11,.int s12,.int s13,.rows s14,.int s15,.rows s16,.rows s17,.bool s18,.rows s19,.bool s20,.int s21,.int s22,.int s23,.rows s24,.int s25,.int s26,.int s27,.int p,.bool b]=some (BZ (Fr (⟨s0,s1,s2,s3,s4,s5,s6,s7,s8,s9,s10,s11,s12,s13,s14,s15,s16,s17,s18,s19,s20,s21,s22,s23,s24,s25,s26,s27⟩:Inn) p b)):=by
 show KL (std (FM N) N) (xOf _)=_;generalize hres:(some (BZ (Fr (⟨s0,s1,s2,s3,s4,s5,s6,s7,s8,s9,s10,s11,s12,s13,s14,s15,s16,s17,s18,s19,s20,s21,s22,s23,s24,s25,s26,s27⟩:Inn) p b)):Option (List PV))=RR;simp only[KL,Q4,R6,QQ,lq9,std,xOf,PXb,PXc,PXn,PXm,Nat.reduceAdd,Int.reduceBEq,Id h,Ib,nn h.bt hN];subst hres;simp only[Fr];cases hp:inR p s14.length<;>try rfl
 rw[M9 hp h.bt];cases s12==0<;>cases s13==0<;>try rfl
 cases p==s12<;>cases p==s13<;>cases b<;>try rfl
 all_goals (simp only[PXb,PXc,PXn,PXm,Nat.reduceAdd,Int.reduceBEq];cases((Fd s14 s14.length).length:Int)==0<;>rfl)
def btw (a b c:Int):Bool:=iLe b a&&iLe a c
theorem Ei (N:Nat) (a b c:Int):Aw N [.int a,.int b,.int c]=some [.bool (btw a b c)]:=by
 show some [PV.bool (cond (iLe b a) (iLe a c) false)]=_;rw[jN];rfl
theorem NO (N:Nat) (a b c:Int):C5 N [.int a,.int b,.int c]=some [.bool (btw a b c)]:=by
 show some [PV.bool (cond (iLe b a) (iLe a c) false)]=_;rw[jN];rfl
def Ty (x1 x2 x3 x4 x5 x6 x7 x9 x10 x11 x12:Int):Bool:=btw x1 2 11&&btw x2 1 2&&btw x3 0 90&&btw x4 4 8&&btw x5 0 90&&btw x6 1 5&&btw x7 1 5&&btw x9 0 200&&btw x10 0 1000&&btw x11 0 9&&btw x12 0 11
theorem eG (N:Nat) (x0:ByteArray) (x1 x2 x3 x4 x5 x6 x7 x9 x10 x11 x12:Int) (x8:Bool) (x13:Rows) :
   HG N [.str x0,.int x1,.int x2,.int x3,.int x4,.int x5,.int x6,.int x7,.bool x8,.int x9,.int x10,.int x11,.int x12,.rows x13]=some [.bool (Ty x1 x2 x3 x4 x5 x6 x7 x9 x10 x11 x12)]:=by
  show J4 (std (MA N) N) (xOf _)=_;have e:∀ls,MA N 88 [] ls=C5 N ls:=fun ls=>rfl
  simp only[J4,lq9,std,xOf,e,NO,PXb,PXc,PXn,AE,Ty]
def cW (s:ByteArray) (i:Nat):Bool := !(iLe 65 (Qm s i)&&iLe (Qm s i) 90)&&((i:Int)==0||((!(Qm s i==95) && !(Qm s i==45))&&(iLt (Qm s i) 48||iLt 57 (Qm s i))))
def GC (s:ByteArray):Bool := !A8 (cW s) s.size 0&&(iLe 1 s.size&&iLe s.size 16)
theorem ACa (s:ByteArray):(HP s).length=s.size:=by
 simp only[HP,List.length_map,Array.length_toList];rfl
theorem ACy (s:ByteArray) (i:Nat) (h:i<s.size):pvI (AD (HP s) i 0)=Qm s i:=by
 unfold AD AB AA HP Qm
 simp_all
theorem UV (N:Nat) (s:ByteArray) (hN:s.size<N) (hs:s.size≤1048576):Fm N [.str s]=some [.bool (GC s)]:=by
 show Qi (std (Yv N) N) (xOf _)=_;simp only[Qi,lq9,std,xOf,ACa,PXb,PXc,PXn,AE];refine AN (NL (len:=s.size) (cW s) [.bool false] ?_ ?_ N hN) ?_
 ·intro self;simp only[PXb,PXc,PXn,AE,Aj]
 ·intro i self hi;simp only[PXb,PXc,PXn,AE,Int.toNat_natCast,ACy s i hi,A9 (show i≤1099511627776 by omega),Aa hi,AJ hi,cW]
 unfold GC;cases A8 (cW s) s.size 0<;>rfl
theorem yU (bs:ByteArray) (i:Nat) (r:List UInt8):(ByteArray.toList.loop bs i r).length=r.length+(bs.size-i):=by
 induction i,r using ByteArray.toList.loop.induct (bs:=bs)with
 |case1 i r h ih=>unfold ByteArray.toList.loop;grind
 |case2 i r h=>unfold ByteArray.toList.loop;grind
theorem iW (bs:ByteArray):bs.toList.length=bs.size:=by
 unfold ByteArray.toList;rw[yU];simp
theorem sN (s:ByteArray):(s.toList==(⟨#[]⟩:ByteArray).toList) = !iLe 1 (s.size:Int):=by
 have h:=iW s;have h0:=iW (⟨#[]⟩:ByteArray);rw[Bool.eq_iff_iff];simp only[beq_iff_eq,iLe,Bool.not_eq_true',decide_eq_false_iff_not];constructor
 ·intro e;rw[e,h0]at h;have:(⟨#[]⟩:ByteArray).size=0:=rfl;omega
 intro e;have e1:s.toList=[]:=List.eq_nil_of_length_eq_zero (by omega)
 simp_all
theorem AAr {i len:Nat} (h:i<len) (hl:len≤1099511627776):(!iLt 0 (i:Int)||iIn (IntKind.i64.wrap ((i:Int)-1)) (len:Int))=true:=by
 rw[A6 (by omega) (by omega)];simp only[iLt,iIn,Bool.or_eq_true,Bool.not_eq_true',decide_eq_false_iff_not,decide_eq_true_eq];omega
def AAJ (L:Rows) (ov:Int) (i:Nat):Bool:=(iLt (atI L i 0) 1||iLt (atI L i 1) (atI L i 0)||iLt ov (atI L i 1)) || !btw (atI L i 2) 0 11
def xA (L:Rows) (i:Nat):Bool:=iLt 0 (i:Int)&&iLe (atI L i 0) (pvI (AD L (IntKind.i64.wrap ((i:Int)-1)).toNat 1))
def wE (L:Rows) (ov:Int) (i:Nat):Option (List PV):=cond (AAJ L ov i) (some [.int 2]) (cond (xA L i) (some [.int 8]) none)
def xN:Option (List PV)→Int
 |none=>0
 |some r=>pvI (AA r 0)
def pR (L:Rows) (ov:Int):Int:=cond (iLt 8 (L.length:Int)) 9 (xN (Ax (wE L ov) L.length 0))
theorem gh (o:Option (List PV)):cond (pvI (AA (Qq o) 0)==((0:Nat):Int)) (some [PV.int (pvI (AA (Qq o) 1))]) (some [PV.int 0])=some [PV.int (xN o)]:=by
 cases o<;>rfl
theorem gq (N:Nat) (x0:ByteArray) (x1 x2 x3 x4 x5 x6 x7 x9 x10 x11 x12:Int) (x8:Bool) (L:Rows) (hN:2097152<N) :
   IU N [.str x0,.int x1,.int x2,.int x3,.int x4,.int x5,.int x6,.int x7,.bool x8,.int x9,.int x10,.int x11,.int x12,.rows L]=some [.int (pR L x3)]:=by
  show Li (std (NK N) N) (xOf _)=_;have e:∀ls,NK N 88 [] ls=C5 N ls:=fun ls=>rfl
  simp only[Li,lq9,std,xOf,e,NO,PXb,PXc,PXn,AE,pR];cases h8:iLt 8 (L.length:Int)
  · have hl:L.length≤8:=by simp[iLt]at h8;omega
    simp only[cond_false];refine AN (B1 (len:=L.length) (wE L x3) ?_ ?_ L.length 0 N (by omega) (by omega)) ?_
    · intro self;simp only[PXb,PXc,PXn,AE,Aj]
    · intro i self hi;simp only[PXb,PXc,PXn,AE,Int.toNat_natCast,A9 (show i≤1099511627776 by omega),Aa hi,AJ hi,NO,e,AAr hi (by omega)];simp only[wE,AAJ,xA,atI]
      grind
    exact gh _
  rfl
def Nm (x0:ByteArray) (x1 x2 x3 x4 x5 x6 x7 x9 x10 x11 x12:Int) (L:Rows):Int :=
  cond (!GC x0) 5 (cond (!Ty x1 x2 x3 x4 x5 x6 x7 x9 x10 x11 x12) 2
    (cond ((!(x10==0)&&x2==1)||((!(x5==0)||iLt 0 (L.length:Int))&&x3==0)) 1
      (cond (!(x5==0)&&iLt (IntKind.i64.wrap (x5*x1)) x3) 13 (pR L x3))))
theorem Ww (N:Nat) (x0:ByteArray) (x1 x2 x3 x4 x5 x6 x7 x9 x10 x11 x12:Int) (x8:Bool) (L:Rows) (hN:2097152<N) (hs:x0.size≤1048576) :
   AU N [.str x0,.int x1,.int x2,.int x3,.int x4,.int x5,.int x6,.int x7,.bool x8,.int x9,.int x10,.int x11,.int x12,.rows L]=some [.int (Nm x0 x1 x2 x3 x4 x5 x6 x7 x9 x10 x11 x12 L)]:=by
  show Mu (std (HU N) N) (xOf _)=_;have e:∀ls,HU N 60 [] ls=Fm N ls:=fun ls=>rfl
  have e2:∀ls,HU N 61 [] ls=HG N ls:=fun ls=>rfl
  have e3:∀ls,HU N 62 [] ls=IU N ls:=fun ls=>rfl
  simp only[Mu,lq9,std,xOf,e,e2,e3,UV N x0 (by omega) hs,eG,gq N _ _ _ _ _ _ _ _ _ _ _ _ _ _ hN,PXb,PXc,AE,Nm]
  grind
theorem ZX (N:Nat) (L:Rows) (v:Int) (hN:L.length<N) (hl:L.length≤2097152):Em N [.rows L,.int v]=some [.int (Dj (fun j=>v==atI L j 0) L.length)]:=by
 show G5 (std (OT N) N) (xOf _)=_;simp only[G5,lq9,std,xOf,PXb,PXc,PXn,AE];refine AN (B1 (len:=L.length) (DS fun j=>v==atI L j 0) ?_ ?_ L.length 0 N (by omega) (by omega)) ?_
 ·intro self;simp only[PXb,PXc,PXn,AE,Aj]
 ·intro i self hi;simp only[PXb,PXc,PXn,AE,A9 (show i≤1099511627776 by omega),Aa hi,AJ hi,DS,Dc]
  grind
 unfold Dj;cases Ax (DS fun j=>v==atI L j 0) L.length 0<;>rfl
def O1 (L:Rows) (k:Nat) (v:Int):Bool:=A8 (fun j=>v==atI L j 0) k 0
theorem Md (N:Nat) (L:Rows) (v:Int) (hN:L.length<N) (hl:L.length≤2097152):A2 N [.rows L,.int v]=some [.bool (O1 L L.length v)]:=by
 show E6 (std (Gi N) N) (xOf _)=_;have e:∀ls,Gi N 145 [] ls=Em N ls:=fun ls=>rfl
 simp only[E6,lq9,std,xOf,PXb,PXc,PXn,AE,e,ZX N L v hN hl,HC,O1]
theorem yo (L:Rows) (i:Nat) (v:Int) (h:i≤L.length):O1 (L.take i) (L.take i).length v=O1 L i v:=by
 rw[List.length_take,Nat.min_eq_left h];exact Xz i 0 (fun j _ hj=>by rw[yu (by omega)])
def S9 (L:Rows) (n:Int) (i:Nat):Bool := !btw (atI L i 0) 1 n||O1 L i (atI L i 0)
def Q8 (L:Rows) (n:Int):Bool := !A8 (S9 L n) L.length 0
theorem Ou (N:Nat) (L:Rows) (n:Int) (hN:L.length<N) (hl:L.length≤2097152):EH N [.rows L,.int n]=some [.bool (Q8 L n)]:=by
 show GU (std (Ez N) N) (xOf _)=_;have e:∀ls,Ez N 124 [] ls=Aw N ls:=fun ls=>rfl
 have e2:∀ls,Ez N 138 [] ls=A2 N ls:=fun ls=>rfl
 simp only[GU,lq9,std,xOf,PXb,PXc,PXn,AE];refine AN (NL (len:=L.length) (S9 L n) [.bool false] ?_ ?_ N hN) ?_
 ·intro self;simp only[PXb,PXc,PXn,AE,Aj]
 ·intro i self hi;have h1:(L.take i).length≤L.length:=List.length_take_le' i L;simp only[PXb,PXc,PXn,AE,A9 (show i≤1099511627776 by omega),Aa hi,AJ hi,e,e2,Ei,AAW (Nat.le_of_lt hi),Int.toNat_zero,List.drop_zero,Md N (L.take i) _ (by omega) (by omega),yo L i _ (by omega),Dc,S9]
  grind
 unfold Q8;cases A8 (S9 L n) L.length 0<;>rfl
theorem cZ (N:Nat) (v:Int):DT N [.int v]=some [.bool (!(v==0))]:=rfl
def lsI (L14 L16 L17 L19 L24:Rows) (b18 b20:Bool) (x0 x1 x2 x3 x4 x5 x6 x7 x8 x9 x10 x11 x12 x13 x15 x21 x22 x23 x25 x26 x27:Int):List PV :=
 [.int x0,.int x1,.int x2,.int x3,.int x4,.int x5,.int x6,.int x7,.int x8,.int x9,.int x10,.int x11,.int x12,.int x13,.rows L14,.int x15,.rows L16,.rows L17,.bool b18,.rows L19,.bool b20,.int x21,.int x22,.int x23,.rows L24,.int x25,.int x26,.int x27]
section
variable (N:Nat) (L14 L16 L17 L19 L24:Rows) (b18 b20:Bool) (x0 x1 x2 x3 x4 x5 x6 x7 x8 x9 x10 x11 x12 x13 x15 x21 x22 x23 x25 x26 x27:Int)
theorem iG (hN:L14.length<N) (hl:L14.length≤2097152):CW N (lsI L14 L16 L17 L19 L24 b18 b20 x0 x1 x2 x3 x4 x5 x6 x7 x8 x9 x10 x11 x12 x13 x15 x21 x22 x23 x25 x26 x27)=some [.bool (DX L14)]:=by
 show Fq (std (F4 N) N) (xOf (lsI ..))=_;have e:∀ls,F4 N 182 [] ls=DT N ls:=fun ls=>rfl
 simp only[Fq,lq9,std,xOf,lsI,PXb,PXc,PXn,AE];rw[show DX L14=iLe 0 (Dj (fun i => !(atI L14 i 0==0)) L14.length)from(HC _ _).symm];rw[Option.bind_assoc];refine AN (B1 (len:=L14.length) (DS fun i => !(atI L14 i 0==0)) ?_ ?_ L14.length 0 N (by omega) (by omega)) ?_
 ·intro self;simp only[PXb,PXc,PXn,AE,Aj]
 ·intro i self hi;simp only[PXb,PXc,PXn,AE,A9 (show i≤1099511627776 by omega),Aa hi,AJ hi,DS,Dc,e,cZ]
  grind
 unfold Dj;cases Ax (DS fun i => !(atI L14 i 0==0)) L14.length 0<;>rfl
theorem f8 (hN:L14.length<N) (hl:L14.length≤2097152):Bb N (lsI L14 L16 L17 L19 L24 b18 b20 x0 x1 x2 x3 x4 x5 x6 x7 x8 x9 x10 x11 x12 x13 x15 x21 x22 x23 x25 x26 x27)=some [.bool (JN L14 x12 x13)]:=by
 show Ew (std (FJ N) N) (xOf (lsI ..))=_;have e:∀ls,FJ N 167 [] ls=CW N ls:=fun ls=>rfl
 have:=iG N L14 L16 L17 L19 L24 b18 b20 x0 x1 x2 x3 x4 x5 x6 x7 x8 x9 x10 x11 x12 x13 x15 x21 x22 x23 x25 x26 x27 hN hl;simp only[lsI]at this;simp only[Ew,lq9,std,xOf,lsI,PXb,PXc,PXn,AE,e,this,JN]
theorem kj (hN:L14.length<N) (hl:L14.length≤2097152):DQ N (lsI L14 L16 L17 L19 L24 b18 b20 x0 x1 x2 x3 x4 x5 x6 x7 x8 x9 x10 x11 x12 x13 x15 x21 x22 x23 x25 x26 x27)=some [.rows (Fd L14 L14.length)]:=by
 show Gm (std (OW N) N) (xOf (lsI ..))=_;simp only[Gm,lq9,std,xOf,lsI,PXb,PXc,PXn,AE];refine AN (BP (len:=L14.length) (fun i=>[.rows (Fd L14 i),.int (i:Int)]) [.rows (Fd L14 L14.length)] ?_ ?_ N hN) rfl
 ·intro self;simp only[PXb,PXc,PXn,AE,Aj]
 intro i self hi;have h2:(Fd L14 i++[[PV.int ((i:Int)+1)]]).length≤4194304:=by have:=fe L14 i;simp;omega
 simp only[PXb,PXc,PXn,AE,A9 (show i≤1099511627776 by omega),Aa hi,AJ hi,Dc,Fd,C4 h2 (show 8≤4096 by omega)]
 grind
end
theorem Xa (N:Nat) (v:Int):EI N [.int v]=some [.bool (!btw v 0 1000000000)]:=by
 show GX (std (IL N) N) (xOf _)=_;have e:∀ls,IL N 124 [] ls=Aw N ls:=fun ls=>rfl
 simp only[GX,lq9,std,xOf,PXb,PXc,PXn,AE,e,Ei]
def pIs (L:Rows) (v:Int) (i:Nat):Bool:=atI L i 0==v
def eH (s n:Int) (i:Nat):Bool:=s==(i:Int)+1||n==(i:Int)+1
def S1 (L:Rows) (s n:Int) (i:Nat):Bool:=iLt 3 (atI L i 0)||(pIs L 1 i && !eH s n i)
def gP (L:Rows) (s n:Int) (i:Nat):Bool:=iLt 3 (atI L i 0) || !(pIs L 1 i==eH s n i)
def bq (L:Rows):Int:=Ce (pIs L 2) L.length
def ins (L:Rows):Int:=Ce (pIs L 1) L.length
def two (s n:Int):Int:=cond (!(n==0)) (IntKind.i64.wrap (cond (!(s==0)) (IntKind.i64.wrap (0+1)) 0+1)) (cond (!(s==0)) (IntKind.i64.wrap (0+1)) 0)
def oH (L:Rows) (s n wk k:Int):Bool :=
 !A8 (S1 L s n) L.length 0&&((btw s 0 k&&btw n 0 k)&&(!(s==n && !(s==0))&&((two s n==ins L&&(!DX L||iLt 0 (two s n)))&&bq L==wk)))
def gf (L:Rows) (s n wk:Int):Bool :=
 !A8 (gP L s n) L.length 0&&(!((DX L&&iLt (ins L) 1)||(!(s==0)&&s==n))&&wk==bq L)
def wK (L:Rows):Nat→Bool
 |0=>false
 |i+1=>wK L i || !(atI L i 0==0)
theorem uI (L:Rows):∀i,wK L i=A8 (fun j => !(atI L j 0==0)) i 0
 |0=>rfl
 |i+1=>by rw[bE,Nat.zero_add,←uI L i];rfl
section
variable (N:Nat) (L14 L16 L17 L19 L24:Rows) (b18 b20:Bool) (x0 x1 x2 x3 x4 x5 x6 x7 x8 x9 x10 x11 x12 x13 x15 x21 x22 x23 x25 x26 x27:Int)
theorem bC (k:Int) (hN:L14.length<N) (hl:L14.length≤2097152):FN N (lsI L14 L16 L17 L19 L24 b18 b20 x0 x1 x2 x3 x4 x5 x6 x7 x8 x9 x10 x11 x12 x13 x15 x21 x22 x23 x25 x26 x27++[.int k])=some [.bool (oH L14 x12 x13 x4 k)]:=by
  simp only[lsI,List.cons_append,List.nil_append];show Hu (std (Jy N) N) (xOf _)=_;have e:∀ls,Jy N 124 [] ls=Aw N ls:=fun ls=>rfl
  simp only[Hu,lq9,std,xOf,lsI,PXb,PXc,PXn,AE];refine AN (rP (len:=L14.length) (fun i=>[.int (Ce (pIs L14 2) i),.int (Ce (pIs L14 1) i),.bool (wK L14 i),.int (i:Int)])
    (S1 L14 x12 x13) [.int 0,.bool false] [.int 1,.int (bq L14),.int (ins L14),.bool (DX L14)] ?_ ?_ N hN) ?_
  · intro self;simp only[PXb,PXc,PXn,AE,Aj,uI];rfl
  · intro i self hi;simp only[PXb,PXc,AE,A9 (show i≤1099511627776 by omega),Aa hi,AJ hi,Dc,sG (pIs L14 2) (show i≤1099511627776 by omega),sG (pIs L14 1) (show i≤1099511627776 by omega)];unfold S1 pIs eH;simp only[Ce,wK]
    grind
  unfold oH;simp only[e,Ei];cases A8 (S1 L14 x12 x13) L14.length 0
  · simp only[PXb,PXc,PXn,AE];unfold two
    grind
  rfl
end
theorem ABg (s n:Int):two s n=cond (!(s==0)) 1 0+cond (!(n==0)) 1 0:=by
 unfold two;cases s==0<;>cases n==0<;>rfl
theorem AA6 {s n:Int} {len:Nat} (h1:0≤s∧s≤(len:Int)) (h2:0≤n∧n≤(len:Int)) (hd:(s==n && !(s==0))=false):two s n=Ce (eH s n) len:=by
 have hs:iLe s (len:Int)=true:=by simp only[iLe,decide_eq_true_eq];omega
 have hn:iLe n (len:Int)=true:=by simp only[iLe,decide_eq_true_eq];omega
 unfold eH;rw[xa (p:=fun i=>s==(i:Int)+1) (q:=fun i=>n==(i:Int)+1) len (fun j _ hp=>by
  grind),ql s len h1.1,ql n len h2.1,hs,hn,Bool.and_true,Bool.and_true,ABg]
theorem AAc (x:Int):iLt 0 x = !iLt x 1:=by
 unfold iLt
 grind
theorem yZ {L:Rows} {s n:Int} (h1:0≤s∧s≤(L.length:Int)) (h2:0≤n∧n≤(L.length:Int)) (hd:(s==n && !(s==0))=false) :
    (!A8 (S1 L s n) L.length 0&&two s n==ins L) = !A8 (gP L s n) L.length 0:=by
  have h2c:=AA6 h1 h2 hd;rw[Bool.eq_iff_iff];simp only[zzj,Bool.not_eq_true',EP,beq_iff_eq];constructor
  · intro ⟨ha,hb⟩ j _ hj;have hm:∀ j,j<L.length→pIs L 1 j=true→eH s n j=true:=fun j hj hp=>by
      have:=ha j (Nat.zero_le _) (by omega);unfold S1 at this
      simp_all
    have he:=xS L.length hm (by rw[←h2c,hb];rfl) j (by omega);have:=ha j (Nat.zero_le _) hj;unfold S1 at this;unfold gP
    simp_all
  intro ha;have hm:∀j,j<L.length→pIs L 1 j=eH s n j:=fun j hj=>by
    have:=ha j (Nat.zero_le _) (by omega);unfold gP at this
    simp_all
  refine⟨fun j h0 hj=>?_,?_⟩
  · have:=ha j h0 hj;unfold gP at this;unfold S1
    simp_all
  rw[h2c];exact(mG L.length hm).symm
theorem ACI (L:Rows) (s n wk k:Int) (hk:(L.length:Int)=k):oH L s n wk k=(btw s 0 k&&btw n 0 k&&gf L s n wk):=by
 subst hk;unfold oH gf;cases hs:btw s 0 (L.length:Int)
 ·simp_all
 cases hn:btw n 0 (L.length:Int)
 ·simp_all
 have h1:0≤s∧s≤(L.length:Int):=by simpa[btw,iLe] using hs
 have h2:0≤n∧n≤(L.length:Int):=by simpa[btw,iLe] using hn
 simp only[Bool.true_and];cases hd:(s==n && !(s==0))
 ·have:(!(s==0)&&s==n)=false:=by grind
  rw[this,←yZ h1 h2 hd];simp only[Bool.or_false,Bool.not_false,Bool.true_and];rw[show(wk==bq L)=(bq L==wk)from BEq.comm];cases hA:A8 (S1 L s n) L.length 0
  ·cases hB:two s n==ins L
   ·rfl
   rw[beq_iff_eq.1 hB,AAc]
   simp_all
  rfl
 grind
def LM (v:Int):Bool := !btw v 0 1000000000
def qE (x1 x3 x5 x6 x7 x8 x9 x10 x21 x23 x25 x26:Int):Rows:=[[.int x1],[.int x3],[.int x5],[.int x6],[.int x7],[.int x8],[.int x9],[.int x10],[.int x21],[.int x23],[.int x25],[.int x26]]
section
variable (N:Nat) (L14 L16 L17 L19 L24:Rows) (b18 b20:Bool) (x0 x1 x2 x3 x4 x5 x6 x7 x8 x9 x10 x11 x12 x13 x15 x21 x22 x23 x25 x26 x27:Int)
theorem Zq (hN:2097152<N) (hl:L19.length≤1048576):FT N (lsI L14 L16 L17 L19 L24 b18 b20 x0 x1 x2 x3 x4 x5 x6 x7 x8 x9 x10 x11 x12 x13 x15 x21 x22 x23 x25 x26 x27)=some [.bool (!(MF LM (qE x1 x3 x5 x6 x7 x8 x9 x10 x21 x23 x25 x26)||MF LM L19))]:=by
 show H5 (std (Ju N) N) (xOf (lsI ..))=_;have e:∀ls,Ju N 139 [] ls=EI N ls:=fun ls=>rfl
 rw[←pU];simp only[H5,lq9,std,xOf,lsI,PXb,PXc,PXn,AE,qE];generalize hM:([PV.int x1]::[PV.int x3]::[PV.int x5]::[PV.int x6]::[PV.int x7]::[PV.int x8]::[PV.int x9]::[PV.int x10]::[PV.int x21]::[PV.int x23]::[PV.int x25]::[PV.int x26]::L19:Rows)=M;have hM2:M.length≤2097152:=by rw[←hM];simp only[List.length_cons];omega
 rw[C4 (n:=M.length) (by omega) (by omega)];simp only[PXb,PXc,PXn,AE];rw[Option.bind_assoc];refine AN (B1 (len:=M.length) (DS fun i=>LM (atI M i 0)) ?_ ?_ M.length 0 N (by omega) (by omega)) ?_
 ·intro self;simp only[PXb,PXc,PXn,AE,Aj]
 ·intro i self hi;simp only[PXb,PXc,PXn,AE,A9 (show i≤1099511627776 by omega),Aa hi,AJ hi,DS,Dc,e,Xa,LM]
  grind
 unfold MF;rw[←HC];unfold Dj;cases Ax (DS fun i=>LM (atI M i 0)) M.length 0<;>rfl
end
def kh (a3 x2:Int):Bool:=cond (a3==0) (x2==0) (btw x2 1 a3)
def Zs (s:ByteArray) (a1 a2 a3 a4 a5 a6 a7 a9 a10 a11 a12:Int) (La L14 L16 L17 L19 L24:Rows) (x0 x1 x2 x3 x4 x5 x6 x7 x8 x9 x10 x11 x12 x13 x15 x21 x22 x23 x25 x26 x27:Int):Bool :=
  Nm s a1 a2 a3 a4 a5 a6 a7 a9 a10 a11 a12 La==0&&(btw x0 1 2&&((L14.length:Int)==a1&&((L19.length:Int)==a1&&((L24.length:Int)==a1&&(!iLt 5 x27 &&
    (btw x12 0 a1&&(btw x13 0 a1&&(gf L14 x12 x13 x4&&(btw x15 0 a1&&(btw x22 0 a1&&(Q8 L16 a1&&(Q8 L17 a1&&(kh a3 x2&&(btw x11 0 (IntKind.i64.wrap (a4-1)) &&
      (!MF LM (qE x1 x3 x5 x6 x7 x8 x9 x10 x21 x23 x25 x26) && !MF LM L19)))))))))))))))
theorem AA0 {a:Int} (h:0≤a):iLt 0 a = !(a==0):=by
 unfold iLt
 grind
section
variable (N:Nat) (s:ByteArray) (a1 a2 a3 a4 a5 a6 a7 a9 a10 a11 a12:Int) (a8:Bool) (La:Rows) (L14 L16 L17 L19 L24:Rows) (b18 b20:Bool) (x0 x1 x2 x3 x4 x5 x6 x7 x8 x9 x10 x11 x12 x13 x15 x21 x22 x23 x25 x26 x27:Int)
theorem TK (hN:2097152<N) (hs:s.size≤1048576) (h14:L14.length≤1048576) (h16:L16.length≤1048576) (h17:L17.length≤1048576) (h19:L19.length≤1048576):Bc N ([.str s,.int a1,.int a2,.int a3,.int a4,.int a5,.int a6,.int a7,.bool a8,.int a9,.int a10,.int a11,.int a12,.rows La]++lsI L14 L16 L17 L19 L24 b18 b20 x0 x1 x2 x3 x4 x5 x6 x7 x8 x9 x10 x11 x12 x13 x15 x21 x22 x23 x25 x26 x27)=some [.bool (Zs s a1 a2 a3 a4 a5 a6 a7 a9 a10 a11 a12 La L14 L16 L17 L19 L24 x0 x1 x2 x3 x4 x5 x6 x7 x8 x9 x10 x11 x12 x13 x15 x21 x22 x23 x25 x26 x27)]:=by
 simp only[lsI,List.cons_append,List.nil_append];show KN (std (C2 N) N) (xOf _)=_;have e1:∀ls,C2 N 27 [] ls=AU N ls:=fun ls=>rfl
 have e2:∀ls,C2 N 124 [] ls=Aw N ls:=fun ls=>rfl
 have e3:∀ls,C2 N 125 [] ls=FN N ls:=fun ls=>rfl
 have e4:∀ls,C2 N 126 [] ls=EH N ls:=fun ls=>rfl
 have e5:∀ls,C2 N 127 [] ls=FT N ls:=fun ls=>rfl
 have l54:=bC N L14 L16 L17 L19 L24 b18 b20 x0 x1 x2 x3 x4 x5 x6 x7 x8 x9 x10 x11 x12 x13 x15 x21 x22 x23 x25 x26 x27 a1 (by omega) (by omega);have l56:=Zq N L14 L16 L17 L19 L24 b18 b20 x0 x1 x2 x3 x4 x5 x6 x7 x8 x9 x10 x11 x12 x13 x15 x21 x22 x23 x25 x26 x27 (by omega) (by omega);simp only[lsI,List.cons_append,List.nil_append]at l54 l56;simp only[KN,lq9,std,xOf,PXb,PXc,PXn,AE,e1,e2,e3,e4,e5,Ww N s _ _ _ _ _ _ _ _ _ _ _ _ _ hN hs,Ei,l54,l56,Ou N L16 _ (by omega) (by omega),Ou N L17 _ (by omega) (by omega)];unfold Zs kh;cases hc:Nm s a1 a2 a3 a4 a5 a6 a7 a9 a10 a11 a12 La==0<;>try rfl
 cases btw x0 1 2<;>try rfl
 cases h14:(L14.length:Int)==a1<;>try rfl
 cases(L19.length:Int)==a1<;>try rfl
 cases(L24.length:Int)==a1<;>try rfl
 cases iLt 5 x27<;>try rfl
 rw[ACI L14 x12 x13 x4 a1 (beq_iff_eq.1 h14)];cases btw x12 0 a1<;>try rfl
 cases btw x13 0 a1<;>try rfl
 grind
end
def y4 (v:Bool) (L:Rows) (s n:Int) (x1 x2 x3 x10:Int):Int :=
 cond (!v) 0 (cond (iLt 0 x1&&iLe x1 x3) 3 (cond (JN L s n&&((Fd L L.length).length:Int)==0) 1 (cond (iLt 0 x2&&iLe x2 x10) 2 0)))
def cut (L:Rows) (c:Int):Rows:=(L.take (cond (iLt c (L.length:Int)) c (L.length:Int)).toNat).drop (0:Int).toNat
section
variable (N:Nat) (s:ByteArray) (a1 a2 a3 a4 a5 a6 a7 a9 a10 a11 a12:Int) (a8:Bool) (La:Rows) (L14 L16 L17 L19 L24:Rows) (b18 b20:Bool) (x0 x1 x2 x3 x4 x5 x6 x7 x8 x9 x10 x11 x12 x13 x15 x21 x22 x23 x25 x26 x27:Int)
theorem cu (hN:2097152<N) (hs:s.size≤1048576) (h14:L14.length≤1048576) (h16:L16.length≤1048576) (h17:L17.length≤1048576) (h19:L19.length≤1048576):EN N ([.str s,.int a1,.int a2,.int a3,.int a4,.int a5,.int a6,.int a7,.bool a8,.int a9,.int a10,.int a11,.int a12,.rows La]++lsI L14 L16 L17 L19 L24 b18 b20 x0 x1 x2 x3 x4 x5 x6 x7 x8 x9 x10 x11 x12 x13 x15 x21 x22 x23 x25 x26 x27) =
    some [.int (y4 (Zs s a1 a2 a3 a4 a5 a6 a7 a9 a10 a11 a12 La L14 L16 L17 L19 L24 x0 x1 x2 x3 x4 x5 x6 x7 x8 x9 x10 x11 x12 x13 x15 x21 x22 x23 x25 x26 x27) L14 x12 x13 x1 x2 x3 x10)]:=by
  simp only[lsI,List.cons_append,List.nil_append];show JA (std (Eb N) N) (xOf _)=_;have e1:∀ls,Eb N 109 [] ls=Bc N ls:=fun ls=>rfl
  have e2:∀ls,Eb N 163 [] ls=Bb N ls:=fun ls=>rfl
  have e3:∀ls,Eb N 164 [] ls=DQ N ls:=fun ls=>rfl
  have l16:=TK N s a1 a2 a3 a4 a5 a6 a7 a9 a10 a11 a12 a8 La L14 L16 L17 L19 L24 b18 b20 x0 x1 x2 x3 x4 x5 x6 x7 x8 x9 x10 x11 x12 x13 x15 x21 x22 x23 x25 x26 x27 hN hs h14 h16 h17 h19;have l61:=f8 N L14 L16 L17 L19 L24 b18 b20 x0 x1 x2 x3 x4 x5 x6 x7 x8 x9 x10 x11 x12 x13 x15 x21 x22 x23 x25 x26 x27 (by omega) (by omega);have l62:=kj N L14 L16 L17 L19 L24 b18 b20 x0 x1 x2 x3 x4 x5 x6 x7 x8 x9 x10 x11 x12 x13 x15 x21 x22 x23 x25 x26 x27 (by omega) (by omega);simp only[lsI,List.cons_append,List.nil_append]at l16 l61 l62;simp only[JA,lq9,std,xOf,PXb,PXc,PXn,AE,e1,e2,e3,l16,l61,l62,y4]
  grind
end
section
variable (N:Nat) (s:ByteArray) (a1 a2 a3 a4 a5 a6 a7 a9 a10 a11 a12:Int) (a8:Bool) (La:Rows) (L14 L16 L17 L19 L24:Rows) (b18 b20:Bool) (x0 x1 x2 x3 x4 x5 x6 x7 x8 x9 x10 x11 x12 x13 x15 x21 x22 x23 x25 x26 x27:Int)
def DH (a4 x10 x11:Int):Int:=IntKind.i64.wrap (IntKind.i64.wrap (x10*a4)+x11)
end
def BA (r:Rul):Int:=Nm r.name r.side r.innings r.overs r.balls r.quota r.wide r.noball r.newball r.followon r.reviews r.outside r.power
theorem DP {N:Nat} {r8:Bool} {r0:ByteArray} {r13:Rows} (hN:2097152<N) (hs:r0.size≤1048576):AU N [.str r0,.int r1,.int r2,.int r3,.int r4,.int r5,.int r6,.int r7,.bool r8,.int r9,.int r10,.int r11,.int r12,.rows r13]=some [.int (BA (⟨r0,r1,r2,r3,r4,r5,r6,r7,r8,r9,r10,r11,r12,r13⟩:Rul))]:=by
 exact Ww N _ _ _ _ _ _ _ _ _ _ _ _ _ _ hN hs
theorem WI {N:Nat} {s18 s20:Bool} (h:Fit s14 s16 s17 s19 s24):DD N [.int s0,.int s1,.int s2,.int s3,.int s4,.int s5,.int s6,.int s7,.int s8,.int s9,.int s10,.int s11,.int s12,.int s13,.rows s14,.int s15,.rows s16,.rows s17,.bool s18,.rows s19,.bool s20,.int s21,.int s22,.int s23,.rows s24,.int s25,.int s26,.int s27]=some [.int s0,.int s1,.int s2,.int s3,.int s4,.int s5,.int s6,.int s7,.int s8,.int s9,.int s10,.int s11,.int s12,.int s13,.rows s14,.int s15,.rows s16,.rows s17,.bool s18,.rows s19,.bool s20,.int s21,.int s22,.int s23,.rows s24,.int s25,.int s26,.int s27]:=by
 show Ql (std (Jb N) N) (xOf _)=_;simp only[Ql,OA,Qc,Pg,lq9,std,xOf,PXb,PXc,PXn,PXm,Nat.reduceAdd,Int.reduceBEq,Ae,Ad,Ah,BN h.bt (show 1≤4096 by omega),BN h.bw' (show 8≤4096 by omega),BN h.bf (show 8≤4096 by omega),BN h.bd (show 8≤4096 by omega),BN h.sb (show 1≤4096 by omega)]
theorem WA {N:Nat} {s18 s20:Bool} (h:Fit s14 s16 s17 s19 s24):DG N [.int s0,.int s1,.int s2,.int s3,.int s4,.int s5,.int s6,.int s7,.int s8,.int s9,.int s10,.int s11,.int s12,.int s13,.rows s14,.int s15,.rows s16,.rows s17,.bool s18,.rows s19,.bool s20,.int s21,.int s22,.int s23,.rows s24,.int s25,.int s26,.int s27]=some [.int s0,.int s1,.int s2,.int s3,.int s4,.int s5,.int s6,.int s7,.int s8,.int s9,.int s10,.int s11,.int s12,.int s13,.rows s14,.int s15,.rows s16,.rows s17,.bool s18,.rows s19,.bool s20,.int s21,.int s22,.int s23,.rows s24,.int s25,.int s26,.int s27]:=by
 show Qn (std (JQ N) N) (xOf _)=_;simp only[Qn,N5,QR,Pc,lq9,std,xOf,PXb,PXc,PXn,PXm,Nat.reduceAdd,Int.reduceBEq,Ae,Ad,Ah,BN h.bt (show 1≤4096 by omega),BN h.bw' (show 8≤4096 by omega),BN h.bf (show 8≤4096 by omega),BN h.bd (show 8≤4096 by omega),BN h.sb (show 1≤4096 by omega)]
theorem Cj {N:Nat} {s18 s20:Bool} (h:Fit s14 s16 s17 s19 s24):AZ N [.int s0,.int s1,.int s2,.int s3,.int s4,.int s5,.int s6,.int s7,.int s8,.int s9,.int s10,.int s11,.int s12,.int s13,.rows s14,.int s15,.rows s16,.rows s17,.bool s18,.rows s19,.bool s20,.int s21,.int s22,.int s23,.rows s24,.int s25,.int s26,.int s27]=some [.int s0,.int s1,.int s2,.int s3,.int s4,.int s5,.int s6,.int s7,.int s8,.int s9,.int s10,.int s11,.int s12,.int s13,.rows s14,.int s15,.rows s16,.rows s17,.bool s18,.rows s19,.bool s20,.int s21,.int s22,.int s23,.rows s24,.int s25,.int s26,.int s27]:=by
 show KK (std (FK N) N) (xOf _)=_;simp only[KK,Lp,NM,MW,lq9,std,xOf,PXb,PXc,PXn,PXm,Nat.reduceAdd,Int.reduceBEq,Ae,Ad,Ah,BN h.bt (show 1≤4096 by omega),BN h.bw' (show 8≤4096 by omega),BN h.bf (show 8≤4096 by omega),BN h.bd (show 8≤4096 by omega),BN h.sb (show 1≤4096 by omega)]
theorem R3 {N:Nat} {s18 s20:Bool} {p:Int}  : CO N [.int s0,.int s1,.int s2,.int s3,.int s4,.int s5,.int s6,.int s7,.int s8,.int s9,.int s10,.int s11,.int s12,.int s13,.rows s14,.int s15,.rows s16,.rows s17,.bool s18,.rows s19,.bool s20,.int s21,.int s22,.int s23,.rows s24,.int s25,.int s26,.int s27,.int p]=some [.bool (inR p s19.length)]:=by
 show M7 (std (VH N) N) (xOf _)=_;simp only[M7,lq9,std,xOf,PXb,PXc,PXn,PXm,Nat.reduceAdd,Int.reduceBEq];rfl
theorem JX {N:Nat} {s18 s20:Bool} {p:Int}  : BM N [.int s0,.int s1,.int s2,.int s3,.int s4,.int s5,.int s6,.int s7,.int s8,.int s9,.int s10,.int s11,.int s12,.int s13,.rows s14,.int s15,.rows s16,.rows s17,.bool s18,.rows s19,.bool s20,.int s21,.int s22,.int s23,.rows s24,.int s25,.int s26,.int s27,.int p]=some [.bool (inR p s24.length)]:=by
 show Mp (std (VI N) N) (xOf _)=_;simp only[Mp,lq9,std,xOf,PXb,PXc,PXn,PXm,Nat.reduceAdd,Int.reduceBEq];rfl
def atB (L:Rows) (i j:Nat):Bool:=pvB (AD L i j)
theorem kK (L:Rows) (i j:Nat):pvB (AD L i j)=atB L i j:=rfl
def Mv (s:Inn) (p:Int):Bool:=inR p s.subs.length&&atB s.subs (ix p) 0
theorem I6 {N:Nat} {s18 s20:Bool} {p:Int} (h:s24.length≤1048576):BG N [.int s0,.int s1,.int s2,.int s3,.int s4,.int s5,.int s6,.int s7,.int s8,.int s9,.int s10,.int s11,.int s12,.int s13,.rows s14,.int s15,.rows s16,.rows s17,.bool s18,.rows s19,.bool s20,.int s21,.int s22,.int s23,.rows s24,.int s25,.int s26,.int s27,.int p]=some [.bool (Mv (⟨s0,s1,s2,s3,s4,s5,s6,s7,s8,s9,s10,s11,s12,s13,s14,s15,s16,s17,s18,s19,s20,s21,s22,s23,s24,s25,s26,s27⟩:Inn) p)]:=by
  show JG (std (Kt N) N) (xOf _)=_;generalize hres:(some [.bool (Mv (⟨s0,s1,s2,s3,s4,s5,s6,s7,s8,s9,s10,s11,s12,s13,s14,s15,s16,s17,s18,s19,s20,s21,s22,s23,s24,s25,s26,s27⟩:Inn) p)]:Option (List PV))=RR;simp only[JG,QC,lq9,std,xOf,PXb,PXc,PXn,PXm,Nat.reduceAdd,Int.reduceBEq,JX,AB7 h];subst hres;simp only[Mv];cases hp:inR p s24.length
  · rfl
  first|rfl|(rw[M9 hp h];rfl)
def vA (x:Int):Int:=cond (iLt x 0) 0 x
def jg (r:Rul) (s:Inn) (p:Int):Int :=
 cond (!inR p s.bowled.length || !(BA r==0)) 0 (cond (r.quota==0) (-1) (vA (IntKind.i64.wrap (IntKind.i64.wrap (r.quota*r.balls)-vA (atI s.bowled (ix p) 0)))))
theorem rt {N:Nat} {r8:Bool} {r0:ByteArray} {r13:Rows} {s18 s20:Bool} {p:Int} (h:Fit s14 s16 s17 s19 s24) (hN:2097152<N) (hs:r0.size≤1048576):LG N [.str r0,.int r1,.int r2,.int r3,.int r4,.int r5,.int r6,.int r7,.bool r8,.int r9,.int r10,.int r11,.int r12,.rows r13,.int s0,.int s1,.int s2,.int s3,.int s4,.int s5,.int s6,.int s7,.int s8,.int s9,.int s10,.int s11,.int s12,.int s13,.rows s14,.int s15,.rows s16,.rows s17,.bool s18,.rows s19,.bool s20,.int s21,.int s22,.int s23,.rows s24,.int s25,.int s26,.int s27,.int p]=some [.int (jg (⟨r0,r1,r2,r3,r4,r5,r6,r7,r8,r9,r10,r11,r12,r13⟩:Rul) (⟨s0,s1,s2,s3,s4,s5,s6,s7,s8,s9,s10,s11,s12,s13,s14,s15,s16,s17,s18,s19,s20,s21,s22,s23,s24,s25,s26,s27⟩:Inn) p)]:=by
 show OX (std (Lm N) N) (xOf _)=_;generalize hres:(some [.int (jg (⟨r0,r1,r2,r3,r4,r5,r6,r7,r8,r9,r10,r11,r12,r13⟩:Rul) (⟨s0,s1,s2,s3,s4,s5,s6,s7,s8,s9,s10,s11,s12,s13,s14,s15,s16,s17,s18,s19,s20,s21,s22,s23,s24,s25,s26,s27⟩:Inn) p)]:Option (List PV))=RR;simp only[OX,TO,Ud,lq9,std,xOf,PXb,PXc,PXn,PXm,Nat.reduceAdd,Int.reduceBEq,DP hN hs,R3];subst hres;simp only[jg];cases hp:inR p s19.length
 ·rfl
 rw[M9 hp h.bd];cases BA (⟨r0,r1,r2,r3,r4,r5,r6,r7,r8,r9,r10,r11,r12,r13⟩:Rul)==0<;>cases r5==0<;>rfl
theorem Ny {N:Nat} {L:Rows} {v:Int} (hN:2097152<N) (hl:L.length≤1048576):A2 N [.rows L,.int v]=some [.bool (O1 L L.length v)]:=by
 exact Md N L v (by omega) (by omega)
def P2 (r:Rul) (s:Inn) (p:Int):Int :=
  cond (!inR p s.bowled.length || !(BA r==0)) 3 (cond (p==s.keeper||p==s.bowler||Mv s p) 7
    (cond (O1 s.before s.before.length p) 8 (cond (!(jg r s p == -1)&&iLt s.inover (IntKind.i64.wrap (r.balls-jg r s p))) 9 0)))
theorem wg {p:Int} {n m:Nat} (h:inR p n=true):inR p m=iLe p (m:Int):=by
 unfold inR at h⊢
 simp_all
theorem tF {N:Nat} {r8:Bool} {r0:ByteArray} {r13:Rows} {s18 s20:Bool} {p:Int} (h:Fit s14 s16 s17 s19 s24) (hN:2097152<N) (hs:r0.size≤1048576):Ma N [.str r0,.int r1,.int r2,.int r3,.int r4,.int r5,.int r6,.int r7,.bool r8,.int r9,.int r10,.int r11,.int r12,.rows r13,.int s0,.int s1,.int s2,.int s3,.int s4,.int s5,.int s6,.int s7,.int s8,.int s9,.int s10,.int s11,.int s12,.int s13,.rows s14,.int s15,.rows s16,.rows s17,.bool s18,.rows s19,.bool s20,.int s21,.int s22,.int s23,.rows s24,.int s25,.int s26,.int s27,.int p]=some [.int (P2 (⟨r0,r1,r2,r3,r4,r5,r6,r7,r8,r9,r10,r11,r12,r13⟩:Rul) (⟨s0,s1,s2,s3,s4,s5,s6,s7,s8,s9,s10,s11,s12,s13,s14,s15,s16,s17,s18,s19,s20,s21,s22,s23,s24,s25,s26,s27⟩:Inn) p)]:=by
 show Qk (std (Gq N) N) (xOf _)=_;generalize hres:(some [.int (P2 (⟨r0,r1,r2,r3,r4,r5,r6,r7,r8,r9,r10,r11,r12,r13⟩:Rul) (⟨s0,s1,s2,s3,s4,s5,s6,s7,s8,s9,s10,s11,s12,s13,s14,s15,s16,s17,s18,s19,s20,s21,s22,s23,s24,s25,s26,s27⟩:Inn) p)]:Option (List PV))=RR;simp only[Qk,Ur,N8,Un,V4,lq9,std,xOf,PXb,PXc,PXn,PXm,Nat.reduceAdd,Int.reduceBEq,DP hN hs,R3,rt h hN hs,Ny hN h.bf];subst hres;simp only[P2,Mv];cases hp:inR p s19.length
 ·rfl
 rw[wg (m:=s24.length) hp];have hq:(!(iLe p (s24.length:Int))||iIn (IntKind.i64.wrap (p-1)) (s24.length:Int))=true:=by
  cases h1:iLe p (s24.length:Int)
  ·rfl
  rw[M9 (by rw[wg hp];exact h1) h.sb];rfl
 rw[hq];cases BA (⟨r0,r1,r2,r3,r4,r5,r6,r7,r8,r9,r10,r11,r12,r13⟩:Rul)==0<;>rfl
def Uu (r:Rul) (s:Inn) (p:Int):Inn×Int:=(cond (P2 r s p==0) { s with bowler:=p } s,P2 r s p)
theorem rN {N:Nat} {r8:Bool} {r0:ByteArray} {r13:Rows} {s18 s20:Bool} {p:Int} (h:Fit s14 s16 s17 s19 s24) (hN:2097152<N) (hs:r0.size≤1048576):LH N [.str r0,.int r1,.int r2,.int r3,.int r4,.int r5,.int r6,.int r7,.bool r8,.int r9,.int r10,.int r11,.int r12,.rows r13,.int s0,.int s1,.int s2,.int s3,.int s4,.int s5,.int s6,.int s7,.int s8,.int s9,.int s10,.int s11,.int s12,.int s13,.rows s14,.int s15,.rows s16,.rows s17,.bool s18,.rows s19,.bool s20,.int s21,.int s22,.int s23,.rows s24,.int s25,.int s26,.int s27,.int p]=some (BZ (Uu (⟨r0,r1,r2,r3,r4,r5,r6,r7,r8,r9,r10,r11,r12,r13⟩:Rul) (⟨s0,s1,s2,s3,s4,s5,s6,s7,s8,s9,s10,s11,s12,s13,s14,s15,s16,s17,s18,s19,s20,s21,s22,s23,s24,s25,s26,s27⟩:Inn) p)):=by
 show OU (std (Lr N) N) (xOf _)=_;generalize hres:(some (BZ (Uu (⟨r0,r1,r2,r3,r4,r5,r6,r7,r8,r9,r10,r11,r12,r13⟩:Rul) (⟨s0,s1,s2,s3,s4,s5,s6,s7,s8,s9,s10,s11,s12,s13,s14,s15,s16,s17,s18,s19,s20,s21,s22,s23,s24,s25,s26,s27⟩:Inn) p)):Option (List PV))=RR;simp only[OU,V2,V5,lq9,std,xOf,PXb,PXc,PXn,PXm,Nat.reduceAdd,Int.reduceBEq,WI h,tF h hN hs];subst hres;simp only[Uu];cases P2 (⟨r0,r1,r2,r3,r4,r5,r6,r7,r8,r9,r10,r11,r12,r13⟩:Rul) (⟨s0,s1,s2,s3,s4,s5,s6,s7,s8,s9,s10,s11,s12,s13,s14,s15,s16,s17,s18,s19,s20,s21,s22,s23,s24,s25,s26,s27⟩:Inn) p==0<;>rfl
def yR (x:Inn×Bool):List PV:=[.int x.1.side,.int x.1.target,.int x.1.overs,.int x.1.runs,.int x.1.wickets,.int x.1.wides,.int x.1.noballs,.int x.1.byes,.int x.1.legbyes,.int x.1.pens,.int x.1.complete,.int x.1.inover,.int x.1.striker,.int x.1.other,.rows x.1.batters,.int x.1.bowler,.rows x.1.bowlers,.rows x.1.before,.bool x.1.fresh,.rows x.1.bowled,.bool x.1.freehit,.int x.1.ballage,.int x.1.keeper,.int x.1.outside,.rows x.1.subs,.int x.1.rev1,.int x.1.rev2,.int x.1.ending,.bool x.2]
def inc (x:Int):Int:=IntKind.i64.wrap (x+1)
def A5 (r:Rul) (s:Inn) (counts:Bool):Inn×Bool :=
  cond (!inR s.bowler s.bowled.length || !(BA r==0)) (s,false)
    (let L:=cond (O1 s.bowlers s.bowlers.length s.bowler) s.bowlers (s.bowlers++[[.int s.bowler]])
     let o:=cond counts (inc s.inover) s.inover
     let t:Inn:={ s with bowlers:=L,bowled:=cond counts (Pw s.bowled s.bowler (inc (atI s.bowled (ix s.bowler) 0))) s.bowled,inover:=o,ballage:=cond counts (inc s.ballage) s.ballage }
     cond (iLt o r.balls) (t,false) ({ t with complete:=inc s.complete,inover:=0,before:=L,bowlers:=[],bowler:=0 },true))
theorem qQ {N:Nat} {r8:Bool} {r0:ByteArray} {r13:Rows} {s18 s20:Bool} {b:Bool} (h:Fit s14 s16 s17 s19 s24) (hw:s16.length≤1048575) (hN:2097152<N) (hs:r0.size≤1048576):Kk N [.str r0,.int r1,.int r2,.int r3,.int r4,.int r5,.int r6,.int r7,.bool r8,.int r9,.int r10,.int r11,.int r12,.rows r13,.int s0,.int s1,.int s2,.int s3,.int s4,.int s5,.int s6,.int s7,.int s8,.int s9,.int s10,.int s11,.int s12,.int s13,.rows s14,.int s15,.rows s16,.rows s17,.bool s18,.rows s19,.bool s20,.int s21,.int s22,.int s23,.rows s24,.int s25,.int s26,.int s27,.bool b]=some (yR (A5 (⟨r0,r1,r2,r3,r4,r5,r6,r7,r8,r9,r10,r11,r12,r13⟩:Rul) (⟨s0,s1,s2,s3,s4,s5,s6,s7,s8,s9,s10,s11,s12,s13,s14,s15,s16,s17,s18,s19,s20,s21,s22,s23,s24,s25,s26,s27⟩:Inn) b)):=by
 show Oa (std (Fz N) N) (xOf _)=_;generalize hres:(some (yR (A5 (⟨r0,r1,r2,r3,r4,r5,r6,r7,r8,r9,r10,r11,r12,r13⟩:Rul) (⟨s0,s1,s2,s3,s4,s5,s6,s7,s8,s9,s10,s11,s12,s13,s14,s15,s16,s17,s18,s19,s20,s21,s22,s23,s24,s25,s26,s27⟩:Inn) b)):Option (List PV))=RR;have ha:(s16++[[PV.int s15]]).length≤1048576:=by simp;omega
 simp only[Oa,UB,NF,V3,UI,lq9,std,xOf,PXb,PXc,PXn,PXm,Nat.reduceAdd,Int.reduceBEq,WI h,R3,DP hN hs,Ny hN h.bw',ACJ ha (show 8≤4096 by omega)];subst hres;simp only[A5];cases hp:inR s15 s19.length
 ·rfl
 rw[M9 hp h.bd];cases BA (⟨r0,r1,r2,r3,r4,r5,r6,r7,r8,r9,r10,r11,r12,r13⟩:Rul)==0<;>try rfl
 cases O1 s16 s16.length s15<;>cases b<;>simp only[PXb,PXc,PXn,PXm,Nat.reduceAdd,Int.reduceBEq,inc]
 all_goals first|(cases iLt s11 r4<;>rfl)|(cases iLt (IntKind.i64.wrap (s11+1)) r4<;>rfl)
def Ko (r:Rul) (s:Inn):Inn×Int :=
 cond (!(BA r==0)||r.newball==0||iLt s.ballage (IntKind.i64.wrap (r.newball*r.balls))) (s,22) ({ s with ballage:=0 },0)
theorem gO {N:Nat} {r8:Bool} {r0:ByteArray} {r13:Rows} {s18 s20:Bool} (h:Fit s14 s16 s17 s19 s24) (hN:2097152<N) (hs:r0.size≤1048576):G6 N [.str r0,.int r1,.int r2,.int r3,.int r4,.int r5,.int r6,.int r7,.bool r8,.int r9,.int r10,.int r11,.int r12,.rows r13,.int s0,.int s1,.int s2,.int s3,.int s4,.int s5,.int s6,.int s7,.int s8,.int s9,.int s10,.int s11,.int s12,.int s13,.rows s14,.int s15,.rows s16,.rows s17,.bool s18,.rows s19,.bool s20,.int s21,.int s22,.int s23,.rows s24,.int s25,.int s26,.int s27]=some (BZ (Ko (⟨r0,r1,r2,r3,r4,r5,r6,r7,r8,r9,r10,r11,r12,r13⟩:Rul) (⟨s0,s1,s2,s3,s4,s5,s6,s7,s8,s9,s10,s11,s12,s13,s14,s15,s16,s17,s18,s19,s20,s21,s22,s23,s24,s25,s26,s27⟩:Inn))):=by
 show J0 (std (Hw N) N) (xOf _)=_;generalize hres:(some (BZ (Ko (⟨r0,r1,r2,r3,r4,r5,r6,r7,r8,r9,r10,r11,r12,r13⟩:Rul) (⟨s0,s1,s2,s3,s4,s5,s6,s7,s8,s9,s10,s11,s12,s13,s14,s15,s16,s17,s18,s19,s20,s21,s22,s23,s24,s25,s26,s27⟩:Inn))):Option (List PV))=RR;simp only[J0,RA,Sz,lq9,std,xOf,PXb,PXc,PXn,PXm,Nat.reduceAdd,Int.reduceBEq,WI h,DP hN hs];subst hres;simp only[Ko];cases(!(BA (⟨r0,r1,r2,r3,r4,r5,r6,r7,r8,r9,r10,r11,r12,r13⟩:Rul)==0)||r9==0||iLt s21 (IntKind.i64.wrap (r9*r4)))<;>rfl
def qL (r:Rul) (over:Int):Int :=
 match Ax (fun i=>cond (iLe (atI r.power i 0) (inc over)&&iLe (inc over) (atI r.power i 1)) (some [.int (atI r.power i 2)]) none) r.power.length 0 with
 |some x=>pvI (AA x 0)
 |none=>r.outside
theorem gr {N:Nat} {r8:Bool} {r0:ByteArray} {r13:Rows} {o:Int} (hN:2097152<N) (h13:r13.length≤1048576):G3 N [.str r0,.int r1,.int r2,.int r3,.int r4,.int r5,.int r6,.int r7,.bool r8,.int r9,.int r10,.int r11,.int r12,.rows r13,.int o]=some [.int (qL (⟨r0,r1,r2,r3,r4,r5,r6,r7,r8,r9,r10,r11,r12,r13⟩:Rul) o)]:=by
 show J1 (std (SL N) N) (xOf _)=_;simp only[J1,lq9,std,xOf,PXb,PXc,PXn,AE];refine AN (B1 (len:=r13.length) (fun i=>cond (iLe (atI r13 i 0) (inc o)&&iLe (inc o) (atI r13 i 1)) (some [.int (atI r13 i 2)]) none) ?_ ?_ r13.length 0 N (by omega) (by omega)) ?_
 ·intro self;simp only[PXb,PXc,PXn,AE,Aj]
 ·intro i self hi;simp only[PXb,PXc,PXn,AE,A9 (show i≤1099511627776 by omega),Aa hi,AJ hi];cases hq:iLe (atI r13 i 0) (inc o)&&iLe (inc o) (atI r13 i 1)<;>unfold inc atI at hq<;>rw[hq]<;>rfl
 unfold qL;cases Ax (fun i=>cond (iLe (atI r13 i 0) (inc o)&&iLe (inc o) (atI r13 i 1)) (some [.int (atI r13 i 2)]) none) r13.length 0<;>rfl
def Nk (s:Inn) (p:Int):Inn×Int :=
 cond (!inR p s.subs.length) (s,3) (cond (Mv s p) (s,18) (cond (p==s.bowler||p==s.keeper) (s,17) ({ s with keeper:=p },0)))
theorem kC {N:Nat} {s18 s20:Bool} {p:Int} (h:Fit s14 s16 s17 s19 s24):IP N [.int s0,.int s1,.int s2,.int s3,.int s4,.int s5,.int s6,.int s7,.int s8,.int s9,.int s10,.int s11,.int s12,.int s13,.rows s14,.int s15,.rows s16,.rows s17,.bool s18,.rows s19,.bool s20,.int s21,.int s22,.int s23,.rows s24,.int s25,.int s26,.int s27,.int p]=some (BZ (Nk (⟨s0,s1,s2,s3,s4,s5,s6,s7,s8,s9,s10,s11,s12,s13,s14,s15,s16,s17,s18,s19,s20,s21,s22,s23,s24,s25,s26,s27⟩:Inn) p)):=by
 show LX (std (GD N) N) (xOf _)=_;generalize hres:(some (BZ (Nk (⟨s0,s1,s2,s3,s4,s5,s6,s7,s8,s9,s10,s11,s12,s13,s14,s15,s16,s17,s18,s19,s20,s21,s22,s23,s24,s25,s26,s27⟩:Inn) p)):Option (List PV))=RR;simp only[LX,TZ,Rp,PZ,lq9,std,xOf,PXb,PXc,PXn,PXm,Nat.reduceAdd,Int.reduceBEq,WA h,JX,I6 h.sb];subst hres;simp only[Nk];cases inR p s24.length<;>cases Mv (⟨s0,s1,s2,s3,s4,s5,s6,s7,s8,s9,s10,s11,s12,s13,s14,s15,s16,s17,s18,s19,s20,s21,s22,s23,s24,s25,s26,s27⟩:Inn) p<;>cases p==s15<;>cases p==s22<;>rfl
def RE (s:Inn) (p:Int) (on:Bool):Inn×Int :=
  cond (!inR p s.subs.length) (s,3) (cond (Mv s p==on) (s,18)
    ({ s with subs:=yz s.subs p on,keeper:=cond (on&&s.keeper==p) 0 s.keeper,bowler:=cond (on&&s.bowler==p) 0 s.bowler },0))
theorem aD {N:Nat} {s18 s20:Bool} {p:Int} {b:Bool} (h:Fit s14 s16 s17 s19 s24):Eg N [.int s0,.int s1,.int s2,.int s3,.int s4,.int s5,.int s6,.int s7,.int s8,.int s9,.int s10,.int s11,.int s12,.int s13,.rows s14,.int s15,.rows s16,.rows s17,.bool s18,.rows s19,.bool s20,.int s21,.int s22,.int s23,.rows s24,.int s25,.int s26,.int s27,.int p,.bool b]=some (BZ (RE (⟨s0,s1,s2,s3,s4,s5,s6,s7,s8,s9,s10,s11,s12,s13,s14,s15,s16,s17,s18,s19,s20,s21,s22,s23,s24,s25,s26,s27⟩:Inn) p b)):=by
 show HX (std (Dg N) N) (xOf _)=_;generalize hres:(some (BZ (RE (⟨s0,s1,s2,s3,s4,s5,s6,s7,s8,s9,s10,s11,s12,s13,s14,s15,s16,s17,s18,s19,s20,s21,s22,s23,s24,s25,s26,s27⟩:Inn) p b)):Option (List PV))=RR;simp only[HX,QS,Ot,MY,lq9,std,xOf,PXb,PXc,PXn,PXm,Nat.reduceAdd,Int.reduceBEq,WA h,JX,I6 h.sb];subst hres;simp only[RE];cases hp:inR p s24.length<;>try rfl
 rw[M9 hp h.sb];cases Mv (⟨s0,s1,s2,s3,s4,s5,s6,s7,s8,s9,s10,s11,s12,s13,s14,s15,s16,s17,s18,s19,s20,s21,s22,s23,s24,s25,s26,s27⟩:Inn) p==b<;>cases b<;>cases s22==p<;>cases s15==p<;>rfl
def K2 (s:Inn) (n:Int):Inn×Int :=
 cond (iLt n 0||iLt (IntKind.i64.wrap ((s.subs.length:Int)-2)) n) (s,16) ({ s with outside:=n },0)
theorem gZ {N:Nat} {s18 s20:Bool} {n:Int} (h:Fit s14 s16 s17 s19 s24):HQ N [.int s0,.int s1,.int s2,.int s3,.int s4,.int s5,.int s6,.int s7,.int s8,.int s9,.int s10,.int s11,.int s12,.int s13,.rows s14,.int s15,.rows s16,.rows s17,.bool s18,.rows s19,.bool s20,.int s21,.int s22,.int s23,.rows s24,.int s25,.int s26,.int s27,.int n]=some (BZ (K2 (⟨s0,s1,s2,s3,s4,s5,s6,s7,s8,s9,s10,s11,s12,s13,s14,s15,s16,s17,s18,s19,s20,s21,s22,s23,s24,s25,s26,s27⟩:Inn) n)):=by
 show KI (std (MH N) N) (xOf _)=_;generalize hres:(some (BZ (K2 (⟨s0,s1,s2,s3,s4,s5,s6,s7,s8,s9,s10,s11,s12,s13,s14,s15,s16,s17,s18,s19,s20,s21,s22,s23,s24,s25,s26,s27⟩:Inn) n)):Option (List PV))=RR;simp only[KI,Sn,lq9,std,xOf,PXb,PXc,PXn,PXm,Nat.reduceAdd,Int.reduceBEq,WA h];subst hres;simp only[K2];cases(iLt n 0||iLt (IntKind.i64.wrap ((s24.length:Int)-2)) n)<;>rfl
def XH (r:Rul) (s:Inn):Int :=
 cond (!inR s.keeper s.subs.length||Mv s s.keeper||s.keeper==s.bowler) 17 (cond (iLt (qL r s.complete) s.outside) 16 0)
theorem nP {N:Nat} {r8:Bool} {r0:ByteArray} {r13:Rows} {s18 s20:Bool} (h:Fit s14 s16 s17 s19 s24) (hN:2097152<N) (h13:r13.length≤1048576):JT N [.str r0,.int r1,.int r2,.int r3,.int r4,.int r5,.int r6,.int r7,.bool r8,.int r9,.int r10,.int r11,.int r12,.rows r13,.int s0,.int s1,.int s2,.int s3,.int s4,.int s5,.int s6,.int s7,.int s8,.int s9,.int s10,.int s11,.int s12,.int s13,.rows s14,.int s15,.rows s16,.rows s17,.bool s18,.rows s19,.bool s20,.int s21,.int s22,.int s23,.rows s24,.int s25,.int s26,.int s27]=some [.int (XH (⟨r0,r1,r2,r3,r4,r5,r6,r7,r8,r9,r10,r11,r12,r13⟩:Rul) (⟨s0,s1,s2,s3,s4,s5,s6,s7,s8,s9,s10,s11,s12,s13,s14,s15,s16,s17,s18,s19,s20,s21,s22,s23,s24,s25,s26,s27⟩:Inn))]:=by
 show My (std (G0 N) N) (xOf _)=_;generalize hres:(some [.int (XH (⟨r0,r1,r2,r3,r4,r5,r6,r7,r8,r9,r10,r11,r12,r13⟩:Rul) (⟨s0,s1,s2,s3,s4,s5,s6,s7,s8,s9,s10,s11,s12,s13,s14,s15,s16,s17,s18,s19,s20,s21,s22,s23,s24,s25,s26,s27⟩:Inn))]:Option (List PV))=RR;simp only[My,Sl,P8,RD,lq9,std,xOf,PXb,PXc,PXn,PXm,Nat.reduceAdd,Int.reduceBEq,JX,I6 h.sb,gr hN h13];subst hres;simp only[XH]
 grind
def W5 (s:Inn) (d:Del):Int :=
  cond (iLt 0 d.fielder && !inR d.fielder s.subs.length) 3 (cond (iLt 0 d.fielder && !(d.sub==Mv s d.fielder)) 18
    (cond (iLt 0 d.second && !inR d.second s.subs.length) 3 (cond (iLt 0 d.second&&Mv s d.second) 18
      (cond (d.how==4 && !(vA d.fielder==s.keeper)) 17 0))))
theorem nY {N:Nat} {s18 s20:Bool} {d0 d1 d2 d3 d4 d6 d7 d8 d9 d11:Int} {d5 d10:Bool} (h:Fit s14 s16 s17 s19 s24):JM N [.int s0,.int s1,.int s2,.int s3,.int s4,.int s5,.int s6,.int s7,.int s8,.int s9,.int s10,.int s11,.int s12,.int s13,.rows s14,.int s15,.rows s16,.rows s17,.bool s18,.rows s19,.bool s20,.int s21,.int s22,.int s23,.rows s24,.int s25,.int s26,.int s27,.int d0,.int d1,.int d2,.int d3,.int d4,.bool d5,.int d6,.int d7,.int d8,.int d9,.bool d10,.int d11]=some [.int (W5 (⟨s0,s1,s2,s3,s4,s5,s6,s7,s8,s9,s10,s11,s12,s13,s14,s15,s16,s17,s18,s19,s20,s21,s22,s23,s24,s25,s26,s27⟩:Inn) (⟨d0,d1,d2,d3,d4,d5,d6,d7,d8,d9,d10,d11⟩:Del))]:=by
 show M1 (std (KO N) N) (xOf _)=_;generalize hres:(some [.int (W5 (⟨s0,s1,s2,s3,s4,s5,s6,s7,s8,s9,s10,s11,s12,s13,s14,s15,s16,s17,s18,s19,s20,s21,s22,s23,s24,s25,s26,s27⟩:Inn) (⟨d0,d1,d2,d3,d4,d5,d6,d7,d8,d9,d10,d11⟩:Del))]:Option (List PV))=RR;simp only[M1,Sj,Pz,lq9,std,xOf,PXb,PXc,PXn,PXm,Nat.reduceAdd,Int.reduceBEq,JX,I6 h.sb];subst hres;simp only[W5,vA,ACZ]
 grind
end Go.Px
end
