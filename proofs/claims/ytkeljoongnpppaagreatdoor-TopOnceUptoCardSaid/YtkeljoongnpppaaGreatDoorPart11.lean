/- Part 11. -/
import Derived.Test.YtkeljoongnpppaaGreatDoorPart09
import Derived.Test.YtkeljoongnpppaaGreatDoorPart10
set_option linter.unusedVariables false
set_option linter.unusedSimpArgs false
variable {s0 s1 s2 s3 s4 s5 s6 s7 s8 s9 s10 s11 s12 s13 s15 s21 s22 s23 s25 s26 s27:Int}
variable {s14 s16 s17 s19 s24:Go.Px.Rows}
section
namespace Go.Px
set_option maxRecDepth 100000
def Yo:List Nat:=[2,0,0,0,0,0,0,0,1,0,0,0,0,3,0,0,1,3,0,0,0,0,0,0,0,0,0,1,0,0,0,0,0,0,0,1,0,0,0,0,1,0]
def MR (O:Alg) (x:Ags O):O.M:=let u23:=(lq9 O 2);let u22:=(lq9 O 1);let u21:=(lq9 O 0);let u17:=(O.y .i64 (x.I 24) u22);let u11:=(O.q u17 u23);let u10:=(O.e u17 u22);(O.c (O.f 31 [] (xr x kM 0)) fun c0=>let u20:=(O.d (O.n c0 0));(O.c (O.b (O.d u20) (O.f 68 [] (xr x [0,0,0,0,1,0,0,0,0,0,0,0,1,0,0,0,0,1,0] 23)) (O.a [.int u21])) fun c1=>(O.b (O.j u20 O.k (O.d (O.e (O.i c1 0) u21))) (O.c (O.f 100 [] (xr x kM 0)) fun c2=>(O.a (ap O (cr O c2 kM 0) [.int u22]))) (O.b (O.e (x.I 14) (O.lit .u8 5)) (O.c (O.f 100 [] (xr x kM 0)) fun c2=>(O.a (ap O (cr O c2 kM 0) [.int (lq9 O 26)]))) (O.c (O.f 100 [] (xr x kM 0)) fun c2=>let u28:=(O.i c2 15);let u27:=(O.i c2 18);let u26:=(O.i c2 19);let u25:=(O.i c2 14);let u24:=(O.o c2 17);let u19:=(O.l u24);let u12:=(O.y .i64 u19 u22);let u4:=(O.q u12 u19);let u0:=(O.u .i64 (O.al u10 u26 u27) (lq9 O 5));(O.c (O.b (O.e (x.I 23) (O.lit .u8 1)) (O.b (O.d (O.e u25 (O.lit .u8 1))) (O.a (ap O [.int u22] (cr O c2 kM 0))) (O.c (O.f 77 [] [.int (x.I 24)]) fun c3=>(O.b (x.B 27) (O.a (ap O [.int u21] (ap O (cr O c2 kR 0) (ap O [.int (O.lit .u8 2),.int (x.I 24)] (cr O c2 [1,3,0,0,0,0,0] 16))))) (O.a (ap O [.int u21] (ap O (cr O c2 kR 0) (ap O [.int (O.lit .u8 2),.int (O.i c3 0)] (cr O c2 [1,3,0,0,0,0,0] 16)))))))) (O.b (O.e (x.I 23) (O.lit .u8 2)) (O.c (O.b (O.d (O.e u25 (O.lit .u8 2))) (O.a (ap O [.int u22] (cr O c2 kM 0))) (O.c (O.f 51 [] (ap O (cr O c2 kM 0) [.int u19])) fun c3=>let u16:=(O.y .i64 (O.i c3 0) u22);let u9:=(O.e u16 u22);let u8:=(O.q u16 u23);(O.c (O.f 154 [] (ap O (cr O c2 kM 0) [.int (O.i c3 0)])) fun c4=>(O.g u8 (O.c (O.f 153 [] (ap O (cr O c2 kR 0) [.int (O.i c3 0),.int (O.i c4 0),.int (O.al u9 u26 u27)])) fun c5=>(O.b (O.d (O.e (O.i c5 28) u21)) (O.a (ap O [.int u22] (cr O c2 kM 0))) (O.c (O.f 155 [] (ap O (cr O c2 kR 0) (ap O (cr O c5 kI 0) (xr x [0,0,0,0,1,0,0,0,0,0,0,0,1,0,0,0,0,1,0] 23)))) fun c6=>let u14:=(O.af u24 (O.ac [(cr O c6 kI 0)]));(O.b (O.d (O.e (O.i c6 28) u21)) (O.a (ap O [.int (O.i c6 28)] (cr O c2 kM 0))) (O.g u8 (O.g (O.t (O.l u14) 304) (O.a (ap O [.int u21] (ap O (cr O c2 kR 0) (ap O [.int (O.lit .u8 3),.int u28,.bool (O.n c2 16),.rows u14,.int (O.al (O.e u16 u21) u21 u27),.int (O.al u9 u21 u26)] (cr O c2 [0,0,0] 20))))))))))))))) fun c3=>(O.a (cr O c3 [0,2,0,0,0,0,0,0,0,1,0,0,0,0,3,0,0,1,3,0,0,0,0,0] 0))) (O.b (O.e (x.I 23) (O.lit .u8 12)) (O.b (O.d (O.e u25 (O.lit .u8 4))) (O.a (ap O [.int u22] (cr O c2 kM 0))) (O.b (O.d (O.e (x.I 24) u28)) (O.a (ap O [.int u23] (cr O c2 kM 0))) (O.a (ap O [.int u21] (ap O (cr O c2 kR 0) (ap O [.int (O.lit .u8 2),.int u28,.bool (x.B 27)] (cr O c2 [3,0,0,0,0,0] 17))))))) (O.b (O.e (x.I 23) (O.lit .u8 16)) (O.c (O.b (O.e u25 (O.lit .u8 3)) (O.g u4 (O.a (ap O (cr O c2 [2,0,0,0,0,0,0,0,1,0,0,0,0,3,0,0,1] 0) (ap O [.rows (O.ah u24 u12 27 [.int (O.lit .u8 5)])] (cr O c2 [0,0,0,0,0] 18))))) (O.a (cr O c2 kM 0))) fun c3=>(O.c (O.f 156 [] (cr O c3 kR 0)) fun c4=>(O.a (ap O [.int u21] (ap O (cr O c3 kR 0) (ap O [.int (O.lit .u8 5)] (ap O (cr O c3 [0,1,3,0,0] 15) [.int (O.i c4 0),.int u21,.int u21]))))))) (O.c (O.b (O.d (O.e u25 (O.lit .u8 3))) (O.a (ap O [.int u22] (cr O c2 kM 0))) (O.g u4 (O.c (O.f 155 [] (ap O (cr O c2 kR 0) (ap O (rr O u24 u12 kI 0) (xr x [0,0,0,0,1,0,0,0,0,0,0,0,1,0,0,0,0,1,0] 23)))) fun c3=>let u3:=(O.ah u24 u12 0 (cr O c3 kI 0));let u2:=(O.l u3);(O.b (O.d (O.e (O.i c3 28) u21)) (O.a (ap O [.int (O.i c3 28)] (cr O c2 kM 0))) (O.g u4 (O.b (O.j (O.e (x.I 23) (O.lit .u8 13)) (O.d (O.e (x.I 24) (O.i c3 0))) O.h) (O.c (O.c (O.ab (fun s4 c4=>let u30:=(O.i c4 0);let u1:=(O.q u30 u2);(O.b (O.z u21 u30) (O.g u1 (O.b (O.e (O.v u3 u30 0) (x.I 24)) (O.g u1 (O.c (O.f 176 [] (rr O u3 u30 kI 0)) fun c5=>(O.g u1 (O.a (ap O [.int u21] (ap O (cr O c2 [2,0,0,0,0,0,0,0,1,0,0,0,0,3,0,0,1] 0) (ap O [.rows (O.ah u3 u30 0 (cr O c5 kI 0))] (cr O c2 [0,0,0,0,0] 18)))))))) (s4 [.int (O.y .i64 u30 u22)]))) (O.a [.int u22]))) [.int (O.y .i64 u2 u22)]) fun c4=>(O.b (O.ak c4 0) (O.a (cr O c4 kM 1)) (O.g u11 (O.g u11 (O.a (ap O (cr O c2 [2,0,0,0,0,0,0,0,1,0,0,0,0,3,0,0,1] 0) (ap O [.rows u3,.int (O.al (O.e u17 u21) u0 u27),.int (O.al u10 u0 u26)] (cr O c2 [0,0,0] 20)))))))) fun c4=>(O.a (ap O [.int u21] (cr O c4 kM 0)))) (O.a (ap O [.int u21] (ap O (cr O c2 [2,0,0,0,0,0,0,0,1,0,0,0,0,3,0,0,1] 0) (ap O [.rows u3] (cr O c2 [0,0,0,0,0] 18))))))))))) fun c3=>(O.a (cr O c3 [0,2,0,0,0,0,0,0,0,1,0,0,0,0,3,0,0,1,3,0,0,0,0,0] 0))))))) fun c3=>let u29:=(O.o c3 18);let u18:=(O.l u29);let u15:=(O.e u18 (lq9 O 3));let u13:=(O.y .i64 u18 u22);let u7:=(O.e u18 (O.ap .i64 u23 (O.i c3 3)));let u6:=(O.v u29 u13 0);let u5:=(O.q u13 u18);(O.b (O.d (O.e (O.i c3 0) u21)) (O.c (O.f 100 [] (xr x kM 0)) fun c4=>(O.a (ap O (cr O c4 kM 0) [.int (O.i c3 0)]))) (O.c (O.g (O.d (O.w (O.d (O.d (O.e (O.i c3 15) (O.lit .u8 3)))) (O.d u5))) (O.b (O.j (O.d (O.e (O.i c3 15) (O.lit .u8 3))) O.k (O.e (O.v u29 u13 27) (O.lit .u8 0))) (O.a (cr O c3 kM 1)) (O.g u5 (O.c (O.f 124 [] (ap O (cr O c3 kM 1) [.int (O.i c3 16)])) fun c4=>(O.c (O.f 77 [] [.int (O.i c3 16)]) fun c5=>(O.c (O.f 124 [] (ap O (cr O c3 kM 1) [.int (O.i c5 0)])) fun c6=>(O.c (O.b u7 (O.a [.bool u7]) (O.c (O.b u15 (O.f 124 [] (ap O (cr O c3 kR 1) (ap O [.int (O.lit .u8 2)] (ap O (cr O c3 [0,1,3,0,0,0,0,0] 16) [.int u6])))) (O.a [.int u21])) fun c7=>(O.c (O.b u15 (O.f 77 [] [.int u6]) (O.a [.int u21])) fun c8=>(O.c (O.b u15 (O.f 124 [] (ap O (cr O c3 kR 1) (ap O [.int (O.lit .u8 2)] (ap O (cr O c3 [0,1,3,0,0,0,0,0] 16) [.int (O.i c8 0)])))) (O.a [.int u21])) fun c9=>(O.a [.bool (O.j u15 (O.m (O.i c7 0) (O.i c9 0)) O.h)]))))) fun c7=>(O.b (O.n c7 0) (O.c (O.f 125 [] (ap O (cr O c3 kR 1) (ap O [.int (O.lit .u8 5)] (cr O c3 [0,1,3,0,0,0,0,0] 16)))) fun c8=>(O.a (ap O (cr O c3 kR 1) (ap O [.int (O.lit .u8 5)] (ap O (cr O c3 [0,1,3,0,0] 16) (cr O c8 [0,0,0] 0)))))) (O.b (O.j (O.j (O.e u18 u23) (O.m u21 (O.i c3 11)) O.h) (O.z (O.i c3 11) (O.y .i64 (O.i c4 0) (O.i c6 0))) O.h) (O.a (ap O (cr O c3 kR 1) (ap O [.int (O.lit .u8 4)] (cr O c3 [0,1,3,0,0,0,0,0] 16)))) (O.a (ap O (cr O c3 kR 1) (ap O [.int (O.lit .u8 2)] (cr O c3 [0,1,3,0,0,0,0,0] 16))))))))))))) fun c4=>(O.a (ap O (cr O c4 kM 0) [.int u21]))))))))))
def BM:Nat→Env:=eL [(31,CU),(51,DP),(68,CW),(77,BV),(100,Hw),(124,Bz),(125,F6),(153,F5),(154,HB),(155,Gg),(156,Br),(176,CC)]
theorem R7 {N ls}:BM N 31 [] ls=CU N ls:=id rfl
theorem FB {N ls}:BM N 51 [] ls=DP N ls:=id rfl
theorem SK {N ls}:BM N 68 [] ls=CW N ls:=id rfl
theorem E5 {N ls}:BM N 77 [] ls=BV N ls:=id rfl
theorem RU {N ls}:BM N 100 [] ls=Hw N ls:=id rfl
theorem JV {N ls}:BM N 124 [] ls=Bz N ls:=id rfl
theorem H6 {N ls}:BM N 125 [] ls=F6 N ls:=id rfl
theorem EF {N ls}:BM N 153 [] ls=F5 N ls:=id rfl
theorem Ea {N ls}:BM N 154 [] ls=HB N ls:=id rfl
theorem C9 {N ls}:BM N 155 [] ls=Gg N ls:=id rfl
theorem DT {N ls}:BM N 156 [] ls=Br N ls:=id rfl
theorem HG {N ls}:BM N 176 [] ls=CC N ls:=id rfl
def Mt:=oS Yo MR BM
def WD:List Nat:=[2,0,0,0,0,0,0,0,1,0,0,0,0,3,0,0,1,3,0,0,0,0,0,0,0,0,0,0,1,0,0,0,0,0,0,0,1,0,0,0,0,1,0]
def ML (O:Alg) (x:Ags O):O.M:=(O.b (O.z (lq9 O 4000) (x.I 23)) (O.a (ap O (xr x kM 0) [.int (lq9 O 26)])) (O.c (O.f 72 [] (ap O (xr x kM 0) (xr x [0,0,0,0,1,0,0,0,0,0,0,0,1,0,0,0,0,1,0] 24))) fun c0=>(O.a (cr O c0 [2,0,0,0,0,0,0,0,1,0,0,0,0,3,0,0,1,3,0,0,0,0,0,0] 0))))
def G0 (N:Nat):Env:=fun f fns ls=>(cond (Nat.beq f 72&&AR fns []) (Mt N ls) none)
theorem UU {N ls}:G0 N 72 [] ls=Mt N ls:=id rfl
def Mq:=oS WD ML G0
def TB:List Nat:=[0,2,0,0,0,0,0,0,0,1,0,0,0,0,3,0,0,1,3,0,0,0,0,0,2,0,0,0,0,0,0,0,1,0,0,0,0,3,0,0,1,3,0,0,0,0,0,0,0,0,0,0,1,0,0,0,0,1,0]
def Iv (O:Alg) (x:Ags O):O.M:=let u0:=(O.y .i64 (O.l (x.L 18)) (lq9 O 1));(O.g (O.q u0 (O.l (x.L 18))) (O.g (O.q u0 (O.l (x.L 41))) (O.c (O.f 23 [] (ap O (xr x kR 1) (xr x [0,0,0,0,0,1,0,0,0,0,1,0] 47))) fun c0=>(O.a (ap O [.int (x.I 0),.int u0,.int (O.v (x.L 18) u0 10),.int (O.v (x.L 18) u0 11),.int (O.v (x.L 18) u0 15),.int (O.v (x.L 18) u0 12),.int (O.v (x.L 18) u0 13),.bool (O.rB (x.L 18) u0 20)] (ap O (xr x [0,0,0,0,0,1,0,0,0,0,1,0] 47) (ap O (cr O c0 [0,0,0,0,0,0,1,1,1,1] 0) [.int (O.v (x.L 41) u0 3),.int (O.v (x.L 41) u0 4)])))))))
def KX:Nat→Env:=eL [(23,BP)]
theorem L8 {N ls}:KX N 23 [] ls=BP N ls:=id rfl
def Ik:=oS TB Iv KX
def Vg:List Nat:=[2,0,0,0,0,0,0,0,1,0,0,0,0,3,3]
def MS (O:Alg) (x:Ags O):O.M:=let u3:=(lq9 O 1);let u2:=(lq9 O 0);(O.c (O.f 47 [] (xr x kR 0)) fun c0=>(O.b (O.d (O.e (O.i c0 23) u2)) (O.a [.rows O.x,.str (O.p ⟨#[]⟩),.int u2,.int u2,.int u2,.int u2,.int u2,.int u2,.int u2,.bool O.h,.int u2,.int u2,.int u2,.int u2,.rows O.x,.int (O.lit .u8 0),.int u2,.bool O.h,.rows O.x,.int u2,.int u2,.int (O.lit .u8 0),.int u2,.int u2,.int u2,.int u3]) (O.c (O.ab (fun s1 c1=>let u5:=(O.o c1 0);let u4:=(O.i c1 1);let u1:=(O.u .i64 u4 u3);(O.b (O.m u4 (O.l (x.L 14))) (O.g (O.q u4 (O.l (x.L 14))) (O.c (O.f 48 [] (ap O (cr O c1 kM 2) (ap O [.int u4] (rr O (x.L 14) u4 [0,0,0,0,1,0,0,0,0,0,0,0,1,0,0,0,0,1,0] 0)))) fun c2=>(O.b (O.d (O.e (O.i c2 23) u2)) (O.a (ap O [.int u2,.rows u5,.int u4,.int (O.i c2 23)] (cr O c1 kM 2))) (O.b (O.e (O.v (x.L 14) u4 0) (O.lit .u8 4)) (O.c (O.f 49 [] (ap O (cr O c1 [0,2,0,0,0,0,0,0,0,1,0,0,0,0,3,0,0,1,3,0,0,0,0,0] 1) (ap O (cr O c2 kM 0) (rr O (x.L 14) u4 [0,0,0,0,0,1,0,0,0,0,1,0] 7)))) fun c3=>let u0:=(O.af u5 (O.ac [(cr O c3 [0,0,0,0,0,0,0,1,0,0,0,0,0,1,0,0,0,0,1,0,0,0,0,0,0,0,1,1,1,1,0,0] 0)]));(O.g (O.t (O.l u0) 216) (s1 (ap O [.rows u0,.int u1] (cr O c2 kM 0))))) (s1 (ap O [.rows u5,.int u1] (cr O c2 kM 0))))))) (O.a (ap O [.int u3,.rows u5] (cr O c1 kM 2))))) (ap O [.rows O.x,.int u2] (cr O c0 kM 0))) fun c1=>(O.b (O.ak c1 0) (O.a (ap O [.rows (O.o c1 1)] (ap O (cr O c1 kM 4) [.int (O.i c1 2),.int (O.i c1 3)]))) (O.a (ap O (cr O c1 [3,2,0,0,0,0,0,0,0,1,0,0,0,0,3,0,0,1,3,0,0,0,0,0] 1) [.int (lq9 O (-1)),.int u2]))))))
def Dp (N:Nat):Env:=fun f fns ls=>(cond (Nat.beq f 47&&AR fns []) (Oc N ls) (cond (Nat.beq f 48&&AR fns []) (Mq N ls) (cond (Nat.beq f 49&&AR fns []) (Ik N ls) none)))
theorem Vs {N ls}:Dp N 47 [] ls=Oc N ls:=id rfl
theorem Nc {N ls}:Dp N 48 [] ls=Mq N ls:=id rfl
theorem JG {N ls}:Dp N 49 [] ls=Ik N ls:=id rfl
def MX:=oS Vg MS Dp
def Rw:List Nat:=[2,0,0,0,0,0,0,0,1,0,0,0,0,3,3]
def I6 (O:Alg) (x:Ags O):O.M:=(O.c (O.f 30 [] (xr x [2,0,0,0,0,0,0,0,1,0,0,0,0,3,3] 0)) fun c0=>(O.a (cr O c0 [2,0,0,0,0,0,0,0,1,0,0,0,0,3,0,0,1,3,0,0,0,0,0,0,0] 1)))
def Es (N:Nat):Env:=fun f fns ls=>(cond (Nat.beq f 30&&AR fns []) (MX N ls) none)
theorem VN {N ls}:Es N 30 [] ls=MX N ls:=id rfl
def CQ:=oS Rw I6 Es
def gm:List Nat:=[]
def hG (O:Alg) (x:Ags O):O.M:=let u1:=(lq9 O 1);let u0:=(lq9 O 0);(O.a [.str (O.p ⟨#[84,87,79]⟩),.int (lq9 O 2),.int u1,.int u1,.int (lq9 O 4),.int u0,.int u1,.int u1,.bool O.h,.int u0,.int u0,.int u0,.int u0,.rows O.x])
def mj:Nat→Env:=eL []
def gr:=oS gm hG mj
def UP:List Nat:=[2,0,0,0,0,0,0,0,1,0,0,0,0,3,0,0,1,3,0,0,0,0,0]
def Jy (O:Alg) (x:Ags O):O.M:=(O.c (O.ab (fun s0 c0=>let u1:=(O.i c0 1);(O.b (O.m u1 (O.l (x.L 17))) (O.g (O.q u1 (O.l (x.L 17))) (O.c (O.f 26 [] (ap O (xr x kR 0) (rr O (x.L 17) u1 kI 0))) fun c1=>let u0:=(O.af (O.o c0 0) (O.ac [(ap O [.int (O.v (x.L 17) u1 0),.int (O.v (x.L 17) u1 3),.int (O.v (x.L 17) u1 4),.int (O.i c1 0)] (ap O (rr O (x.L 17) u1 [0,0,0,0,0] 5) [.int (O.v (x.L 17) u1 27)]))]));(O.g (O.t (O.l u0) 80) (s0 [.rows u0,.int (O.u .i64 u1 (lq9 O 1))])))) (O.a [.rows (O.o c0 0)]))) [.rows O.x,.int (lq9 O 0)]) fun c0=>(O.a [.rows (O.o c0 0)]))
def Ld:Nat→Env:=eL [(26,Ch)]
theorem Gv {N ls}:Ld N 26 [] ls=Ch N ls:=id rfl
def Er:=oS UP Jy Ld
def So:List Nat:=[0,0,0]
def Tj (O:Alg) (x:Ags O):O.M:=(O.a [.bool (O.j (O.z (x.I 1) (x.I 0)) (O.z (x.I 0) (x.I 2)) O.h)])
def ZU:Nat→Env:=eL []
def DE:=oS So Tj ZU
def W7:List Nat:=[0]
def XB (O:Alg) (x:Ags O):O.M:=(O.c (O.f 54 [] [.int (x.I 0),.int (lq9 O 1),.int (lq9 O 8)]) fun c0=>(O.a [.bool (O.n c0 0)]))
def cg:Nat→Env:=eL [(54,DE)]
def Ht:=oS W7 XB cg
def cR:List Nat:=[0,0]
def cw (O:Alg) (x:Ags O):O.M:=let u2:=(lq9 O 0);let u0:=(O.d (O.e (x.I 1) u2));(O.c (O.f 53 [] [.int (x.I 1)]) fun c0=>let u1:=(O.d (O.n c0 0));(O.c (O.b (O.d u1) (O.f 54 [] [.int (x.I 0),.int u2,.int (lq9 O 1000000)]) (O.a [.bool O.h])) fun c1=>(O.b (O.j u1 O.k (O.d (O.n c1 0))) (O.a [.int u2,.int u2]) (O.g u0 (O.g u0 (O.a [.int (O.ax .i64 (x.I 0) (x.I 1)),.int (O.au .i64 (x.I 0) (x.I 1))]))))))
def mE:Nat→Env:=eL [(53,Ht),(54,DE)]
def Vt:=oS cR cw mE
def Mh (N:Nat) (ls:List PV):Option (List PV):=qO ls
def UZ:List Nat:=[0]
def VO (O:Alg) (x:Ags O):O.M:=(O.c (O.f 78 [] [.int (x.I 0)]) fun c0=>(O.a [.str (O.s c0 0)]))
def bP:Nat→Env:=eL [(78,Mh)]
def Ns:=oS UZ VO bP
def YW:List Nat:=[0,0]
def X3 (O:Alg) (x:Ags O):O.M:=(O.c (O.f 53 [] [.int (x.I 1)]) fun c0=>let u1:=(O.d (O.n c0 0));(O.c (O.b (O.d u1) (O.f 54 [] [.int (x.I 0),.int (lq9 O 0),.int (lq9 O 1000000)]) (O.a [.bool O.h])) fun c1=>(O.b (O.j u1 O.k (O.d (O.n c1 0))) (O.a [.str (O.p ⟨#[]⟩),.int (lq9 O 2)]) (O.c (O.f 55 [] [.int (x.I 0),.int (x.I 1)]) fun c2=>(O.c (O.f 56 [] [.int (O.i c2 0)]) fun c3=>let u0:=(O.ae (O.s c3 0) (O.p ⟨#[46]⟩));(O.g (O.t (O.r (O.s c3 0)) 1) (O.g (O.t (O.r (O.p ⟨#[46]⟩)) 1) (O.c (O.f 56 [] [.int (O.i c2 1)]) fun c4=>(O.g (O.t (O.r u0) 1) (O.g (O.t (O.r (O.s c4 0)) 1) (O.a [.str (O.ae u0 (O.s c4 0)),.int (lq9 O 0)])))))))))))
def fo:Nat→Env:=eL [(53,Ht),(54,DE),(55,Vt),(56,Ns)]
def RW:=oS YW X3 fo
def U6:List Nat:=[0]
def VG (O:Alg) (x:Ags O):O.M:=(O.c (O.f 57 [] [.int (x.I 0)]) fun c0=>(O.a [.str (O.s c0 0)]))
def bO:Nat→Env:=eL [(57,Dd)]
def G2:=oS U6 VG bO
def VL:List Nat:=[0,0,0]
def U8 (O:Alg) (x:Ags O):O.M:=let u12:=(O.p ⟨#[83,73,68,69,32]⟩);let u11:=(O.p ⟨#[32,82,85,78,83]⟩);let u10:=(O.p ⟨#[32,87,73,67,75,69,84,83]⟩);let u9:=(O.p ⟨#[32,87,79,78,32,66,89,32]⟩);let u8:=(O.t (O.r u11) 1);let u6:=(O.p ⟨#[65,78,32,73,78,78,73,78,71,83,32,65,78,68,32]⟩);(O.c (O.f 33 [] [.int (x.I 1)]) fun c0=>let u7:=(O.ae u12 (O.s c0 0));let u5:=(O.ae u7 u9);let u2:=(O.t (O.r u5) 1);let u1:=(O.ae u5 u6);(O.g (O.t (O.r u12) 1) (O.g (O.t (O.r (O.s c0 0)) 1) (O.g (O.t (O.r u7) 1) (O.g (O.t (O.r u9) 1) (O.b (O.e (x.I 0) (O.lit .u8 1)) (O.c (O.f 33 [] [.int (x.I 2)]) fun c1=>let u3:=(O.ae u5 (O.s c1 0));(O.g u2 (O.g (O.t (O.r (O.s c1 0)) 1) (O.g (O.t (O.r u3) 1) (O.g u8 (O.a [.str (O.ae u3 u11)])))))) (O.b (O.e (x.I 0) (O.lit .u8 2)) (O.c (O.f 33 [] [.int (x.I 2)]) fun c1=>let u4:=(O.ae u5 (O.s c1 0));(O.g u2 (O.g (O.t (O.r (O.s c1 0)) 1) (O.g (O.t (O.r u4) 1) (O.g (O.t (O.r u10) 1) (O.a [.str (O.ae u4 u10)])))))) (O.b (O.e (x.I 0) (O.lit .u8 3)) (O.g u2 (O.g (O.t (O.r u6) 1) (O.c (O.f 33 [] [.int (x.I 2)]) fun c1=>let u0:=(O.ae u1 (O.s c1 0));(O.g (O.t (O.r u1) 1) (O.g (O.t (O.r (O.s c1 0)) 1) (O.g (O.t (O.r u0) 1) (O.g u8 (O.a [.str (O.ae u0 u11)])))))))) (O.b (O.e (x.I 0) (O.lit .u8 4)) (O.a [.str (O.p ⟨#[84,73,69,68]⟩)]) (O.b (O.e (x.I 0) (O.lit .u8 5)) (O.a [.str (O.p ⟨#[68,82,65,87,78]⟩)]) (O.b (O.e (x.I 0) (O.lit .u8 6)) (O.a [.str (O.p ⟨#[78,79,32,82,69,83,85,76,84]⟩)]) (O.a [.str (O.p ⟨#[]⟩)]))))))))))))
def bQ:Nat→Env:=eL [(33,G2)]
def Np:=oS VL U8 bQ
def Yf:List Nat:=[2,0,0,0,0,0,0,0,1,0,0,0,0,3,0,0,1,3,0,0,0,0,0]
def YI (O:Alg) (x:Ags O):O.M:=let u14:=(O.p ⟨#[32]⟩);let u13:=(O.p ⟨#[59,32]⟩);let u12:=(O.p ⟨#[32,68]⟩);let u9:=(O.t (O.r u14) 1);(O.c (O.f 31 [] (xr x kM 0)) fun c0=>(O.b (O.d (O.n c0 0)) (O.a [.str (O.p ⟨#[]⟩)]) (O.c (O.f 11 [] (xr x kM 0)) fun c1=>let u16:=(O.o c1 0);let u11:=(O.l u16);(O.c (O.ab (fun s2 c2=>let u15:=(O.i c2 1);let u8:=(O.u .i64 u15 (lq9 O 1));(O.b (O.m u15 u11) (O.g (O.q u15 u11) (O.c (O.f 32 [] [.int (O.v u16 u15 3),.int (x.I 4)]) fun c3=>(O.c (O.f 33 [] [.int (O.v u16 u15 0)]) fun c4=>let u10:=(O.ae (O.s c4 0) u14);(O.g (O.t (O.r (O.s c4 0)) 1) (O.g u9 (O.c (O.f 33 [] [.int (O.v u16 u15 1)]) fun c5=>let u6:=(O.ae u10 (O.s c5 0));let u5:=(O.ae u6 (O.p ⟨#[47]⟩));(O.g (O.t (O.r u10) 1) (O.g (O.t (O.r (O.s c5 0)) 1) (O.g (O.t (O.r u6) 1) (O.g (O.t (O.r (O.p ⟨#[47]⟩)) 1) (O.c (O.f 33 [] [.int (O.v u16 u15 2)]) fun c6=>let u4:=(O.ae u5 (O.s c6 0));let u3:=(O.ae u4 u14);let u2:=(O.ae u3 (O.s c3 0));let u1:=(O.af (O.o c2 0) (O.ac [[.str u2]]));let u0:=(O.af (O.o c2 0) (O.ac [[.str (O.ae u2 u12)]]));(O.g (O.t (O.r u5) 1) (O.g (O.t (O.r (O.s c6 0)) 1) (O.g (O.t (O.r u4) 1) (O.g u9 (O.g (O.t (O.r u3) 1) (O.g (O.t (O.r (O.s c3 0)) 1) (O.b (O.e (O.v u16 u15 9) (O.lit .u8 4)) (O.g (O.t (O.r u2) 1) (O.g (O.t (O.r u12) 1) (O.g (O.t (O.l u0) 16) (s2 [.rows u0,.int u8])))) (O.g (O.t (O.l u1) 16) (s2 [.rows u1,.int u8])))))))))))))))))))) (O.a [.rows (O.o c2 0)]))) [.rows O.x,.int (lq9 O 0)]) fun c2=>(O.b (O.e (x.I 14) (O.lit .u8 5)) (O.c (O.f 34 [] (xr x [0,0,0] 20)) fun c3=>let u7:=(O.af (O.o c2 0) (O.ac [[.str (O.s c3 0)]]));(O.g (O.t (O.l u7) 16) (O.c (O.f 35 [] [.rows u7,.str u13]) fun c4=>(O.a [.str (O.s c4 0)])))) (O.c (O.f 35 [] [.rows (O.o c2 0),.str u13]) fun c3=>(O.a [.str (O.s c3 0)])))))))
def gN:Nat→Env:=eL [(11,Er),(31,CU),(32,RW),(33,G2),(34,Np),(35,Df)]
def YB:=oS Yf YI gN
def NC:List Nat:=[]
def MV (O:Alg) (x:Ags O):O.M:=(O.c (O.f 12 [] [.str (O.p ⟨#[84,79,83,83,32,49,32,66,65,84,10,79,80,69,78,32,49,32,50,10,75,69,69,80,69,82,32,50,10,66,79,87,76,32,49,10,66,65,76,76,32,49,10,66,65,76,76,32,46,47,66,49,10,79,80,69,78,32,50,32,49,10,75,69,69,80,69,82,32,49,10,66,79,87,76,32,50,10,66,65,76,76,32,119,10,66,65,76,76,32,70,10]⟩)]) fun c0=>(O.c (O.f 14 [] []) fun c1=>(O.c (O.f 13 [] (ap O (cr O c1 kR 0) [.rows (O.o c0 0)])) fun c2=>let u0:=(O.j (O.j (O.j (O.e (O.l (O.o c0 1)) (lq9 O 0)) (O.e (O.l (O.o c0 0)) (lq9 O 11)) O.h) (O.e (O.i c2 23) (lq9 O (-1))) O.h) (O.e (O.i c2 24) (lq9 O 0)) O.h);(O.c (O.b u0 (O.f 15 [] (cr O c2 kM 0)) (O.a [.str (O.p ⟨#[]⟩)])) fun c3=>(O.a [.bool (O.j u0 (O.ag (O.s c3 0) (O.p ⟨#[49,32,49,47,49,32,48,46,50,59,32,50,32,53,47,48,32,48,46,49,59,32,83,73,68,69,32,50,32,87,79,78,32,66,89,32,49,32,87,73,67,75,69,84,83]⟩)) O.h)])))))
def Ge (N:Nat):Env:=fun f fns ls=>(cond (Nat.beq f 12&&AR fns []) (SU N ls) (cond (Nat.beq f 13&&AR fns []) (CQ N ls) (cond (Nat.beq f 14&&AR fns []) (gr N ls) (cond (Nat.beq f 15&&AR fns []) (YB N ls) none))))
def D7:=oS NC MV Ge
def Pj:List Nat:=[2,0,0,0,0,0,0,0,1,0,0,0,0,3]
def H7 (O:Alg) (x:Ags O):O.M:=let u4:=(lq9 O 0);let u3:=(O.r (x.S 0));let u2:=(O.l (x.L 13));let u1:=(O.al (O.m (lq9 O 20) u3) (lq9 O 20) u3);let u0:=(O.al (O.m (lq9 O 10) u2) (lq9 O 10) u2);(O.g (O.aa u4 u1 u3) (O.g (O.aa u4 u0 u2) (O.a (ap O [.str (O.aj (x.S 0) u4 u1)] (ap O (xr x [0,0,0,0,0,0,0,1,0,0,0,0] 1) [.rows (O.an (x.L 13) u4 u0)])))))
def F9 (N:Nat):Env:=fun f fns ls=>none
def H5:=oS Pj H7 F9
def N8:List Nat:=[2,0,0,0,0,0,0,0,1,0,0,0,0,3,3]
def G4 (O:Alg) (x:Ags O):O.M:=let u0:=(lq9 O 0);(O.c (O.f 13 [] (xr x [2,0,0,0,0,0,0,0,1,0,0,0,0,3,3] 0)) fun c0=>let u1:=(O.i c0 23);(O.b (O.z u0 u1) (O.g (O.aa u0 u1 (O.l (x.L 14))) (O.a [.rows (O.an (x.L 14) u0 u1)])) (O.a [.rows (x.L 14)])))
def De (N:Nat):Env:=fun f fns ls=>(cond (Nat.beq f 13&&AR fns []) (CQ N ls) none)
theorem Qh {N ls}:De N 13 [] ls=CQ N ls:=id rfl
def Gk:=oS N8 G4 De
def X4:List Nat:=[3]
def PE (O:Alg) (x:Ags O):O.M:=let u1:=(O.l (x.L 0));let u0:=(O.al (O.m (lq9 O 70) u1) (lq9 O 70) u1);(O.g (O.aa (lq9 O 0) u0 u1) (O.a [.rows (O.an (x.L 0) (lq9 O 0) u0)]))
def Kd (N:Nat):Env:=fun f fns ls=>none
def Ot:=oS X4 PE Kd
def bL:List Nat:=[2,0,0,0,0,0,0,0,1,0,0,0,0,3,3,0]
def Q9 (O:Alg) (x:Ags O):O.M:=let u1:=(O.p ⟨#[]⟩);let u0:=(lq9 O 0);(O.c (O.f 8 [] (xr x kR 0)) fun c0=>(O.b (O.d (O.e (O.i c0 0) u0)) (O.a [.str u1,.int u0,.int u0,.int u0,.int u0,.int u0,.int u0,.int u0,.bool O.h,.int u0,.int u0,.int u0,.int u0,.rows O.x,.int (O.lit .u8 0),.int u0,.bool O.h,.rows O.x,.int u0,.int u0,.int (O.lit .u8 0),.int u0,.int u0,.int (O.i c0 0)]) (O.b (O.j (O.m (x.I 15) u0) O.k (O.m (O.l (x.L 14)) (x.I 15))) (O.a [.str u1,.int u0,.int u0,.int u0,.int u0,.int u0,.int u0,.int u0,.bool O.h,.int u0,.int u0,.int u0,.int u0,.rows O.x,.int (O.lit .u8 0),.int u0,.bool O.h,.rows O.x,.int u0,.int u0,.int (O.lit .u8 0),.int u0,.int u0,.int (lq9 O 2)]) (O.g (O.aa u0 (x.I 15) (O.l (x.L 14))) (O.c (O.f 13 [] (ap O (xr x kR 0) [.rows (O.an (x.L 14) u0 (x.I 15))])) fun c1=>(O.b (O.d (O.e (O.i c1 24) u0)) (O.a [.str u1,.int u0,.int u0,.int u0,.int u0,.int u0,.int u0,.int u0,.bool O.h,.int u0,.int u0,.int u0,.int u0,.rows O.x,.int (O.lit .u8 0),.int u0,.bool O.h,.rows O.x,.int u0,.int u0,.int (O.lit .u8 0),.int u0,.int u0,.int (lq9 O 10)]) (O.a (ap O (cr O c1 kM 0) [.int u0]))))))))
def HX (N:Nat):Env:=fun f fns ls=>(cond (Nat.beq f 8&&AR fns []) (AP N ls) (cond (Nat.beq f 13&&AR fns []) (CQ N ls) none))
theorem V5 {N ls}:HX N 8 [] ls=AP N ls:=id rfl
theorem Ng {N ls}:HX N 13 [] ls=CQ N ls:=id rfl
def Ny:=oS bL Q9 HX
def UJ:List Nat:=[2,0,0,0,0,0,0,0,1,0,0,0,0,3,3]
def Kr (O:Alg) (x:Ags O):O.M:=let u0:=(lq9 O 0);(O.c (O.f 8 [] (xr x kR 0)) fun c0=>(O.b (O.d (O.e (O.i c0 0) u0)) (O.a [.int (O.i c0 0)]) (O.b (O.m (lq9 O 4000) (O.l (x.L 14))) (O.a [.int (lq9 O 9)]) (O.c (O.f 13 [] (xr x [2,0,0,0,0,0,0,0,1,0,0,0,0,3,3] 0)) fun c1=>(O.b (O.d (O.e (O.i c1 24) u0)) (O.a [.int (lq9 O 10)]) (O.a [.int u0]))))))
def EG (N:Nat):Env:=fun f fns ls=>(cond (Nat.beq f 8&&AR fns []) (AP N ls) (cond (Nat.beq f 13&&AR fns []) (CQ N ls) none))
theorem Sb {N ls}:EG N 8 [] ls=AP N ls:=id rfl
theorem UM {N ls}:EG N 13 [] ls=CQ N ls:=id rfl
def IL:=oS UJ Kr EG
def Ur:List Nat:=[3]
def KE (O:Alg) (x:Ags O):O.M:=let u4:=(O.l (x.L 0));(O.c (O.ab (fun s0 c0=>let u6:=(O.o c0 0);let u5:=(O.i c0 1);let u3:=(O.l u6);let u2:=(O.u .i64 u5 (lq9 O 1));let u1:=(O.y .i64 u3 (lq9 O 1));(O.b (O.m u5 u4) (O.g (O.q u5 u4) (O.b (O.d (O.e (O.v (x.L 0) u5 0) (O.lit .u8 2))) (s0 [.rows u6,.int u2]) (O.c (O.b (O.m (lq9 O 0) u3) (O.g (O.q u1 u3) (O.a [.rows (O.ah u6 u1 1 [.int u5])])) (O.a [.rows u6])) fun c1=>let u0:=(O.af (O.o c1 0) (O.ac [[.int u5,.int u4]]));(O.g (O.t (O.l u0) 16) (s0 [.rows u0,.int u2]))))) (O.a [.rows u6]))) [.rows O.x,.int (lq9 O 0)]) fun c0=>(O.a [.rows (O.o c0 0)]))
def RE:Nat→Env:=eL []
def C7:=oS Ur KE RE
def W9:List Nat:=[3]
def LO (O:Alg) (x:Ags O):O.M:=let u2:=(lq9 O 1);let u1:=(lq9 O 0);(O.c (O.ab (fun s0 c0=>let u3:=(O.i c0 0);let u0:=(O.v (x.L 0) u3 1);(O.b (O.m u3 (O.l (x.L 0))) (O.g (O.q u3 (O.l (x.L 0))) (O.b (O.e (O.v (x.L 0) u3 0) (O.lit .u8 1)) (O.b (O.rB (x.L 0) u3 4) (O.a [.int u1,.int u0]) (O.a [.int u1,.int (O.y .i64 (lq9 O 3) u0)])) (s0 [.int (O.u .i64 u3 u2)]))) (O.a [.int u2]))) [.int u1]) fun c0=>(O.b (O.ak c0 0) (O.a [.int (O.i c0 1)]) (O.a [.int u2])))
def Sp:Nat→Env:=eL []
def Hs:=oS W9 LO Sp
def WT:List Nat:=[3]
def LH (O:Alg) (x:Ags O):O.M:=let u4:=(lq9 O 3);let u3:=(lq9 O 1);(O.c (O.f 37 [] [.rows (x.L 0)]) fun c0=>(O.c (O.ab (fun s1 c1=>let u5:=(O.i c1 1);(O.b (O.m u5 (O.l (x.L 0))) (O.g (O.q u5 (O.l (x.L 0))) (s1 [.bool (O.j (O.n c1 0) O.k (O.j (O.e (O.v (x.L 0) u5 0) (O.lit .u8 12)) (O.rB (x.L 0) u5 4) O.h)),.int (O.u .i64 u5 u3)])) (O.a [.bool (O.n c1 0)]))) [.bool O.h,.int (lq9 O 0)]) fun c1=>(O.c (O.f 21 [] [.rows (x.L 0)]) fun c2=>(O.c (O.ab (fun s3 c3=>let u7:=(O.o c3 0);let u6:=(O.i c3 1);let u2:=(O.u .i64 u6 u3);(O.b (O.m u6 (O.l (O.o c2 0))) (O.c (O.b (O.e (O.au .i64 u6 (lq9 O 2)) u3) (O.a [.int (O.y .i64 u4 (O.i c0 0))]) (O.a [.int (O.i c0 0)])) fun c4=>let u1:=(O.af u7 (O.ac [[.int (O.i c4 0)]]));let u0:=(O.af u7 (O.ac [[.int (O.y .i64 u4 (O.i c4 0))]]));(O.b (O.j (O.n c1 0) (O.j (O.e u6 (lq9 O 2)) O.k (O.e u6 u4)) O.h) (O.g (O.t (O.l u0) 8) (s3 [.rows u0,.int u2])) (O.g (O.t (O.l u1) 8) (s3 [.rows u1,.int u2])))) (O.a [.rows u7]))) [.rows O.x,.int (lq9 O 0)]) fun c3=>(O.a [.rows (O.o c3 0)])))))
def Ip:Nat→Env:=eL [(21,C7),(37,Hs)]
theorem Ps {N ls}:Ip N 21 [] ls=C7 N ls:=id rfl
theorem Qj {N ls}:Ip N 37 [] ls=Hs N ls:=id rfl
def Hu:=oS WT LH Ip
def Z6:List Nat:=[0,0,0,0,1,0,0,0,0,0,0,0,1,0,0,0,0,1,0]
def Oq (O:Alg) (x:Ags O):O.M:=(O.b (O.e (x.I 0) (O.lit .u8 4)) (O.a [.bool (O.d (O.e (x.I 13) (O.lit .u8 0)))]) (O.b (O.e (x.I 0) (O.lit .u8 5)) (O.a [.bool (x.B 4)]) (O.b (O.e (x.I 0) (O.lit .u8 6)) (O.a [.bool (O.d (x.B 4))]) (O.a [.bool O.h]))))
def WV:Nat→Env:=eL []
def Ki:=oS Z6 Oq WV
def Z9:List Nat:=[3,0,0]
def Od (O:Alg) (x:Ags O):O.M:=let u2:=(lq9 O 0);let u1:=(lq9 O 1);let u0:=(O.l (x.L 0));(O.c (O.ab (fun s0 c0=>let u3:=(O.i c0 0);(O.b (O.z u2 u3) (O.g (O.q u3 u0) (O.b (O.e (O.v (x.L 0) u3 0) (x.I 2)) (O.a [.int u2,.int u3]) (s0 [.int (O.y .i64 u3 u1)]))) (O.a [.int u1]))) [.int (x.I 1)]) fun c0=>(O.b (O.ak c0 0) (O.a [.int (O.i c0 1)]) (O.c (O.ab (fun s1 c1=>let u4:=(O.i c1 0);(O.b (O.m u4 u0) (O.g (O.q u4 u0) (O.b (O.e (O.v (x.L 0) u4 0) (x.I 2)) (O.a [.int u2,.int u4]) (s1 [.int (O.u .i64 u4 u1)]))) (O.a [.int u1]))) [.int (O.u .i64 (x.I 1) u1)]) fun c1=>(O.b (O.ak c1 0) (O.a [.int (O.i c1 1)]) (O.a [.int (lq9 O (-1))])))))
def Wm:Nat→Env:=eL []
def ID:=oS Z9 Od Wm
def Uu:List Nat:=[2,0,0,0,0,0,0,0,1,0,0,0,0,3,3]
def Jq (O:Alg) (x:Ags O):O.M:=let u17:=(lq9 O 1);let u16:=(lq9 O 0);(O.c (O.f 19 [] (xr x [2,0,0,0,0,0,0,0,1,0,0,0,0,3,3] 0)) fun c0=>(O.b (O.d (O.e (O.i c0 0) u16)) (O.a [.rows O.x,.int (O.i c0 0)]) (O.c (O.f 20 [] [.rows (x.L 14)]) fun c1=>let u14:=(O.l (O.o c1 0));(O.g (O.t u14 80) (O.c (O.f 21 [] [.rows (x.L 14)]) fun c2=>let u15:=(O.l (O.o c2 0));(O.c (O.ab (fun s3 c3=>let u18:=(O.i c3 1);let u13:=(O.v (O.o c2 0) u18 1);let u12:=(O.v (O.o c2 0) u18 0);let u9:=(O.an (x.L 14) u12 u13);let u8:=(O.l u9);(O.b (O.m u18 u15) (O.g (O.q u18 u15) (O.g (O.q u18 (O.l (O.o c3 0))) (O.g (O.q u18 u14) (O.g (O.aa u12 u13 (O.l (x.L 14))) (O.c (O.ab (fun s4 c4=>let u22:=(O.o c4 0);let u19:=(O.i c4 1);let u11:=(O.u .i64 u19 u17);let u5:=(O.v u9 u19 0);(O.b (O.m u19 u8) (O.g (O.q u19 u8) (O.c (O.f 22 [] (rr O u9 u19 [0,0,0,0,1,0,0,0,0,0,0,0,1,0,0,0,0,1,0] 0)) fun c5=>(O.c (O.b (O.n c5 0) (O.a [.rows (O.ah u22 u18 2 [.int (O.u .i64 (O.v u22 u18 2) u17)])]) (O.a [.rows u22])) fun c6=>let u20:=(O.o c6 0);(O.b (O.e u5 (O.lit .u8 4)) (O.c (O.f 23 [] (ap O (xr x kR 0) (rr O u9 u19 [0,0,0,0,0,1,0,0,0,0,1,0] 7))) fun c7=>(O.c (O.f 24 [] (cr O c7 [0,0,0,0,0,0,1,1,1,1] 0)) fun c8=>let u7:=(O.ah u20 u18 1 [.int (O.u .i64 (O.v u20 u18 1) (O.i c8 0))]);let u3:=(O.ah u7 u18 4 [.int (O.u .i64 (O.v u7 u18 4) (O.i c7 1))]);let u2:=(O.ah u3 u18 5 [.int (O.u .i64 (O.v u3 u18 5) (O.i c7 2))]);let u1:=(O.ah u2 u18 6 [.int (O.u .i64 (O.v u2 u18 6) (O.i c7 3))]);let u0:=(O.ah u1 u18 7 [.int (O.u .i64 (O.v u1 u18 7) (O.i c7 4))]);(O.b (O.n c7 6) (s4 [.rows (O.ah u0 u18 3 [.int (O.u .i64 (O.v u0 u18 3) u17)]),.int u11]) (s4 [.rows u0,.int u11])))) (O.b (O.e u5 (O.lit .u8 13)) (O.c (O.f 25 [] [.rows (O.o c1 0),.int u18,.int (O.v u9 u19 1)]) fun c7=>let u21:=(O.i c7 0);let u10:=(O.q u21 (O.l u20));let u6:=(O.ah u20 u21 1 [.int (O.u .i64 (O.v u20 u21 1) (lq9 O 5))]);let u4:=(O.q u21 (O.l u6));(O.b (O.z u16 u21) (O.g u10 (O.g u10 (O.g u4 (O.g u4 (s4 [.rows (O.ah u6 u21 8 [.int (O.u .i64 (O.v u6 u21 8) (lq9 O 5))]),.int u11]))))) (s4 [.rows u20,.int u11]))) (s4 [.rows u20,.int u11])))))) (O.a [.rows u22,.int u19]))) [.rows (O.ah (O.o c3 0) u18 0 [.int (O.v (O.o c1 0) u18 0)]),.int u16]) fun c4=>(s3 [.rows (O.o c4 0),.int (O.u .i64 u18 u17)])))))) (O.a [.rows (O.o c3 0)]))) [.rows (O.ar u14 [.int u16,.int u16,.int u16,.int u16,.int u16,.int u16,.int u16,.int u16,.int u16,.int (O.lit .u8 0)]),.int u16]) fun c3=>(O.a [.rows (O.o c3 0),.int u16])))))))
def Bw:Nat→Env:=eL [(19,IL),(20,Hu),(21,C7),(22,Ki),(23,BP),(24,CO),(25,ID)]
theorem RZ {N ls}:Bw N 19 [] ls=IL N ls:=id rfl
theorem Pt {N ls}:Bw N 20 [] ls=Hu N ls:=id rfl
theorem PI {N ls}:Bw N 21 [] ls=C7 N ls:=id rfl
theorem JJ {N ls}:Bw N 22 [] ls=Ki N ls:=id rfl
theorem Fw {N ls}:Bw N 23 [] ls=BP N ls:=id rfl
theorem GR {N ls}:Bw N 24 [] ls=CO N ls:=id rfl
theorem R5 {N ls}:Bw N 25 [] ls=ID N ls:=id rfl
def Gr:=oS Uu Jq Bw
def Pc:List Nat:=[2,0,0,0,0,0,0,0,1,0,0,0,0,3,3,0]
def H1 (O:Alg) (x:Ags O):O.M:=let u6:=(lq9 O 1);let u5:=(lq9 O 0);(O.c (O.f 4 [] []) fun c0=>(O.b (O.d (O.n c0 0)) (O.a [.bool O.h]) (O.c (O.f 5 [] (xr x kR 0)) fun c1=>(O.c (O.f 7 [] [.rows (x.L 14)]) fun c2=>(O.c (O.f 6 [] (ap O (cr O c1 kR 0) [.rows (O.o c2 0)])) fun c3=>let u4:=(O.l (O.o c3 0));let u2:=(O.u .i64 u4 u6);let u1:=(O.au .i64 (O.ao .i64 (x.I 15)) u2);let u0:=(O.an (O.o c3 0) u5 u1);(O.c (O.f 8 [] (cr O c1 kR 0)) fun c4=>(O.b (O.d (O.e (O.i c4 0) u5)) (O.a [.bool O.k]) (O.g (O.d (O.e u2 u5)) (O.g (O.aa u5 u1 u4) (O.c (O.f 9 [] (ap O (cr O c1 kR 0) [.rows u0,.int (O.l u0)])) fun c5=>(O.c (O.f 10 [] (ap O (cr O c1 kR 0) [.rows u0])) fun c6=>let u10:=(O.o c6 0);let u3:=(O.l u10);(O.c (O.f 11 [] (cr O c5 kM 0)) fun c7=>(O.b (O.j (O.j (O.d (O.e (O.i c5 23) u5)) O.k (O.d (O.e (O.i c6 1) u5))) O.k (O.d (O.e u3 (O.l (O.o c7 0))))) (O.a [.bool O.h]) (O.c (O.ab (fun s8 c8=>let u8:=(O.o c8 0);let u7:=(O.i c8 1);let u9:=(O.ah u8 u7 9 [.int (O.lit .u8 0)]);(O.b (O.m u7 u3) (O.g (O.q u7 (O.l u8)) (O.g (O.q u7 u3) (O.g (O.q u7 (O.l u9)) (O.b (O.d (O.w (O.e (O.v u10 u7 0) (O.v u9 u7 0)) (O.w (O.e (O.v u10 u7 1) (O.v u9 u7 1)) (O.w (O.e (O.v u10 u7 2) (O.v u9 u7 2)) (O.w (O.e (O.v u10 u7 3) (O.v u9 u7 3)) (O.w (O.e (O.v u10 u7 4) (O.v u9 u7 4)) (O.w (O.e (O.v u10 u7 5) (O.v u9 u7 5)) (O.w (O.e (O.v u10 u7 6) (O.v u9 u7 6)) (O.w (O.e (O.v u10 u7 7) (O.v u9 u7 7)) (O.w (O.e (O.v u10 u7 8) (O.v u9 u7 8)) (O.e (O.v u10 u7 9) (O.v u9 u7 9)))))))))))) (O.a [.int u5,.bool O.h]) (s8 [.rows u9,.int (O.u .i64 u7 u6)]))))) (O.a [.int u6]))) [.rows (O.o c7 0),.int u5]) fun c8=>(O.b (O.ak c8 0) (O.a [.bool (O.n c8 1)]) (O.a [.bool O.k]))))))))))))))))
def BL (N:Nat):Env:=fun f fns ls=>(cond (Nat.beq f 4&&AR fns []) (D7 N ls) (cond (Nat.beq f 5&&AR fns []) (H5 N ls) (cond (Nat.beq f 6&&AR fns []) (Gk N ls) (cond (Nat.beq f 7&&AR fns []) (Ot N ls) (cond (Nat.beq f 8&&AR fns []) (AP N ls) (cond (Nat.beq f 9&&AR fns []) (Ny N ls) (cond (Nat.beq f 10&&AR fns []) (Gr N ls) (cond (Nat.beq f 11&&AR fns []) (Er N ls) none))))))))
theorem PB {N ls}:BL N 4 [] ls=D7 N ls:=id rfl
theorem Qr {N ls}:BL N 5 [] ls=H5 N ls:=id rfl
theorem PR {N ls}:BL N 6 [] ls=Gk N ls:=id rfl
theorem US {N ls}:BL N 7 [] ls=Ot N ls:=id rfl
theorem Qa {N ls}:BL N 8 [] ls=AP N ls:=id rfl
theorem WQ {N ls}:BL N 9 [] ls=Ny N ls:=id rfl
theorem Pm {N ls}:BL N 10 [] ls=Gr N ls:=id rfl
theorem Pb {N ls}:BL N 11 [] ls=Er N ls:=id rfl
def H8:=oS Pc H1 BL
def Ae (xs:List Inn):Rows:=xs.map Inn.ls
def dI:Inn:=⟨0,0,0,0,0,0,0,0,0,0,0,0,0,0,[],0,[],[],false,[],false,0,0,0,[],0,0,0⟩
def inn (xs:List Inn) (i:Nat):Inn:=xs.getD i dI
structure Mat where
 rules:Rul
 stage:Int
 first:Int
 follow:Bool
 inns:List Inn
 pen1:Int
 pen2:Int
 win:Int
 wside:Int
 margin:Int
def Mat.ls (m:Mat):List PV:=[.str m.rules.name,.int m.rules.side,.int m.rules.innings,.int m.rules.overs,.int m.rules.balls,.int m.rules.quota,.int m.rules.wide,.int m.rules.noball,.bool m.rules.freehit,.int m.rules.newball,.int m.rules.followon,.int m.rules.reviews,.int m.rules.outside,.rows m.rules.power,.int m.stage,.int m.first,.bool m.follow,.rows (Ae m.inns),.int m.pen1,.int m.pen2,.int m.win,.int m.wside,.int m.margin]
def LM (x:Mat×Int):List PV:=[.str x.1.rules.name,.int x.1.rules.side,.int x.1.rules.innings,.int x.1.rules.overs,.int x.1.rules.balls,.int x.1.rules.quota,.int x.1.rules.wide,.int x.1.rules.noball,.bool x.1.rules.freehit,.int x.1.rules.newball,.int x.1.rules.followon,.int x.1.rules.reviews,.int x.1.rules.outside,.rows x.1.rules.power,.int x.1.stage,.int x.1.first,.bool x.1.follow,.rows (Ae x.1.inns),.int x.1.pen1,.int x.1.pen2,.int x.1.win,.int x.1.wside,.int x.1.margin,.int x.2]
theorem gE (xs:List Inn) (i:Nat):AK (Ae xs) i=(match xs[i]? with | some s=>s.ls | none=>[]):=by
 unfold AK Ae;rw [zzl,List.getElem?_map];cases xs[i]?<;>rfl
theorem Kw (xs:List Inn) (i:Nat):inn xs i=(match xs[i]? with | some s=>s | none=>dI):=by
 unfold inn;rw [zzl];cases xs[i]?<;>rfl
theorem bK (xs:List Inn):(Ae xs).length=xs.length:=List.length_map _
theorem PXi : (∀ xs : List Inn, (Ae xs).length = xs.length) ∧ (∀ (xs : List Inn) (i : Nat), pvI (AB (Ae xs) i 0) = (inn xs i).side) ∧ (∀ (xs : List Inn) (i : Nat), pvI (AB (Ae xs) i 1) = (inn xs i).target) ∧ (∀ (xs : List Inn) (i : Nat), pvI (AB (Ae xs) i 2) = (inn xs i).overs) ∧ (∀ (xs : List Inn) (i : Nat), pvI (AB (Ae xs) i 3) = (inn xs i).runs) ∧
    (∀ (xs:List Inn) (i:Nat),pvI (AB (Ae xs) i 4)=(inn xs i).wickets)∧(∀ (xs:List Inn) (i:Nat),pvI (AB (Ae xs) i 5)=(inn xs i).wides)∧(∀ (xs:List Inn) (i:Nat),pvI (AB (Ae xs) i 6)=(inn xs i).noballs)∧(∀ (xs:List Inn) (i:Nat),pvI (AB (Ae xs) i 7)=(inn xs i).byes)∧(∀ (xs:List Inn) (i:Nat),pvI (AB (Ae xs) i 8)=(inn xs i).legbyes) ∧
    (∀ (xs:List Inn) (i:Nat),pvI (AB (Ae xs) i 9)=(inn xs i).pens)∧(∀ (xs:List Inn) (i:Nat),pvI (AB (Ae xs) i 10)=(inn xs i).complete)∧(∀ (xs:List Inn) (i:Nat),pvI (AB (Ae xs) i 11)=(inn xs i).inover)∧(∀ (xs:List Inn) (i:Nat),pvI (AB (Ae xs) i 12)=(inn xs i).striker)∧(∀ (xs:List Inn) (i:Nat),pvI (AB (Ae xs) i 13)=(inn xs i).other) ∧
    (∀ (xs:List Inn) (i:Nat),pvL (AB (Ae xs) i 14)=(inn xs i).batters)∧(∀ (xs:List Inn) (i:Nat),pvI (AB (Ae xs) i 15)=(inn xs i).bowler)∧(∀ (xs:List Inn) (i:Nat),pvL (AB (Ae xs) i 16)=(inn xs i).bowlers)∧(∀ (xs:List Inn) (i:Nat),pvL (AB (Ae xs) i 17)=(inn xs i).before)∧(∀ (xs:List Inn) (i:Nat),pvB (AB (Ae xs) i 18)=(inn xs i).fresh) ∧
    (∀ (xs:List Inn) (i:Nat),pvL (AB (Ae xs) i 19)=(inn xs i).bowled)∧(∀ (xs:List Inn) (i:Nat),pvB (AB (Ae xs) i 20)=(inn xs i).freehit)∧(∀ (xs:List Inn) (i:Nat),pvI (AB (Ae xs) i 21)=(inn xs i).ballage)∧(∀ (xs:List Inn) (i:Nat),pvI (AB (Ae xs) i 22)=(inn xs i).keeper)∧(∀ (xs:List Inn) (i:Nat),pvI (AB (Ae xs) i 23)=(inn xs i).outside) ∧
    (∀ (xs:List Inn) (i:Nat),pvL (AB (Ae xs) i 24)=(inn xs i).subs)∧(∀ (xs:List Inn) (i:Nat),pvI (AB (Ae xs) i 25)=(inn xs i).rev1)∧(∀ (xs:List Inn) (i:Nat),pvI (AB (Ae xs) i 26)=(inn xs i).rev2)∧(∀ (xs:List Inn) (i:Nat),pvI (AB (Ae xs) i 27)=(inn xs i).ending):=by
  refine ⟨bK,?_,?_,?_,?_,?_,?_,?_,?_,?_,?_,?_,?_,?_,?_,?_,?_,?_,?_,?_,?_,?_,?_,?_,?_,?_,?_,?_,?_⟩
  all_goals (intro xs i;rw [Kw];unfold AB;rw [gE];cases xs[i]?<;>rfl)
theorem Mat.eta (m:Mat):Mat.mk m.rules m.stage m.first m.follow m.inns m.pen1 m.pen2 m.win m.wside m.margin=m:=rfl
theorem PXk : (∀ m : Mat, m.ls = [.str m.rules.name, .int m.rules.side, .int m.rules.innings, .int m.rules.overs, .int m.rules.balls, .int m.rules.quota, .int m.rules.wide, .int m.rules.noball, .bool m.rules.freehit, .int m.rules.newball, .int m.rules.followon, .int m.rules.reviews, .int m.rules.outside, .rows m.rules.power, .int m.stage, .int m.first, .bool m.follow, .rows (Ae m.inns), .int m.pen1, .int m.pen2, .int m.win, .int m.wside, .int m.margin]) ∧
    (∀ x:Mat×Int,LM x=[.str x.1.rules.name,.int x.1.rules.side,.int x.1.rules.innings,.int x.1.rules.overs,.int x.1.rules.balls,.int x.1.rules.quota,.int x.1.rules.wide,.int x.1.rules.noball,.bool x.1.rules.freehit,.int x.1.rules.newball,.int x.1.rules.followon,.int x.1.rules.reviews,.int x.1.rules.outside,.rows x.1.rules.power,.int x.1.stage,.int x.1.first,.bool x.1.follow,.rows (Ae x.1.inns),.int x.1.pen1,.int x.1.pen2,.int x.1.win,.int x.1.wside,.int x.1.margin,.int x.2]) ∧
    (∀ m:Mat,Mat.mk m.rules m.stage m.first m.follow m.inns m.pen1 m.pen2 m.win m.wside m.margin=m):=⟨fun _=>rfl,fun _=>rfl,fun _=>rfl⟩
theorem np:∀ (ps r pre:List PV),r.length=ps.length→BF (pre++r) pre.length ps=pre++ps
 | [],r,pre,h=>by
  have:r=[]:=List.eq_nil_of_length_eq_zero h;subst this;rfl
 | p::ps,[],pre,h=>by cases h
 | p::ps,a::r,pre,h=>by
  have ih:=np ps r (pre++[p]) (by simpa using h);simp only [List.length_append,List.length_cons,List.length_nil,List.append_assoc,List.cons_append,List.nil_append] at ih;unfold BF;rw [List.set_append_right _ _ (Nat.le_refl _),Nat.sub_self];exact ih
theorem wU (a s:Inn):BF a.ls 0 s.ls=s.ls:=np s.ls a.ls [] rfl
theorem vj (a:Inn) (e:Int):BF a.ls 27 [.int e]=Inn.ls { a with ending:=e }:=by
 show a.ls.set 27 (.int e)=_;rfl
theorem vI {xs:List Inn} {i:Nat} (h:i<xs.length) (s:Inn):(Ae xs).set i (BF (AK (Ae xs) i) 0 s.ls)=Ae (xs.set i s):=by
 have e:AK (Ae xs) i=(xs[i]).ls:=by rw [gE,zzo h]
 rw [e,wU];exact List.map_set.symm
theorem wG {xs:List Inn} {i:Nat} (h:i<xs.length) (e:Int):(Ae xs).set i (BF (AK (Ae xs) i) 27 [.int e])=Ae (xs.set i { inn xs i with ending:=e }):=by
 have e1:AK (Ae xs) i=(inn xs i).ls:=by rw [gE,Kw,zzo h]
 rw [e1,vj];exact List.map_set.symm
theorem vR (xs:List Inn) (s:Inn):Ae xs++[s.ls]=Ae (xs++[s]):=by
 show List.map Inn.ls xs++List.map Inn.ls [s]=List.map Inn.ls (xs++[s]);exact List.map_append.symm
theorem wA (xs:List Inn) (i:Nat) (s:Inn):(Ae xs).set i (BF (AK (Ae xs) i) 0 s.ls)=Ae (xs.set i s):=by
 by_cases h:i<xs.length
 ·exact vI h s
 ·rw [List.set_eq_of_length_le (by rw [bK];omega),List.set_eq_of_length_le (by omega)]
theorem mh (xs:List Inn) (i:Nat) (e:Int):(Ae xs).set i (BF (AK (Ae xs) i) 27 [.int e])=Ae (xs.set i { inn xs i with ending:=e }):=by
 by_cases h:i<xs.length
 ·exact wG h e
 ·rw [List.set_eq_of_length_le (by rw [bK];omega),List.set_eq_of_length_le (by omega)]
theorem PXr : (∀ (xs : List Inn) (x0 x1 x2 x3 x4 x5 x6 x7 x8 x9 x10 x11 x12 x13 x15 x21 x22 x23 x25 x26 x27 : Int) (x18 x20 : Bool) (x14 x16 x17 x19 x24 : Rows), Ae xs ++ [([.int x0, .int x1, .int x2, .int x3, .int x4, .int x5, .int x6, .int x7, .int x8, .int x9, .int x10, .int x11, .int x12, .int x13, .rows x14, .int x15, .rows x16, .rows x17, .bool x18, .rows x19, .bool x20, .int x21, .int x22, .int x23, .rows x24, .int x25, .int x26, .int x27] : List PV)] = Ae (xs ++ [⟨x0, x1, x2, x3, x4, x5, x6, x7, x8, x9, x10, x11, x12, x13, x14, x15, x16, x17, x18, x19, x20, x21, x22, x23, x24, x25, x26, x27⟩])) ∧ (∀ (xs : List Inn) (i : Nat) (x0 x1 x2 x3 x4 x5 x6 x7 x8 x9 x10 x11 x12 x13 x15 x21 x22 x23 x25 x26 x27 : Int) (x18 x20 : Bool) (x14 x16 x17 x19 x24 : Rows), (Ae xs).set i (BF (AK (Ae xs) i) 0 [.int x0, .int x1, .int x2, .int x3, .int x4, .int x5, .int x6, .int x7, .int x8, .int x9, .int x10, .int x11, .int x12, .int x13, .rows x14, .int x15, .rows x16, .rows x17, .bool x18, .rows x19, .bool x20, .int x21, .int x22, .int x23, .rows x24, .int x25, .int x26, .int x27]) = Ae (xs.set i ⟨x0, x1, x2, x3, x4, x5, x6, x7, x8, x9, x10, x11, x12, x13, x14, x15, x16, x17, x18, x19, x20, x21, x22, x23, x24, x25, x26, x27⟩)) ∧
    (∀ (xs:List Inn) (i:Nat) (e:Int),(Ae xs).set i (BF (AK (Ae xs) i) 27 [.int e])=Ae (xs.set i { inn xs i with ending:=e })) :=
  ⟨fun xs x0 x1 x2 x3 x4 x5 x6 x7 x8 x9 x10 x11 x12 x13 x15 x21 x22 x23 x25 x26 x27 x18 x20 x14 x16 x17 x19 x24=>vR xs ⟨x0,x1,x2,x3,x4,x5,x6,x7,x8,x9,x10,x11,x12,x13,x14,x15,x16,x17,x18,x19,x20,x21,x22,x23,x24,x25,x26,x27⟩,fun xs i x0 x1 x2 x3 x4 x5 x6 x7 x8 x9 x10 x11 x12 x13 x15 x21 x22 x23 x25 x26 x27 x18 x20 x14 x16 x17 x19 x24=>wA xs i ⟨x0,x1,x2,x3,x4,x5,x6,x7,x8,x9,x10,x11,x12,x13,x14,x15,x16,x17,x18,x19,x20,x21,x22,x23,x24,x25,x26,x27⟩,mh⟩
theorem G5 {N:Nat} {s18 s20:Bool} (h:Fit s14 s16 s17 s19 s24):A3 N [.int s0,.int s1,.int s2,.int s3,.int s4,.int s5,.int s6,.int s7,.int s8,.int s9,.int s10,.int s11,.int s12,.int s13,.rows s14,.int s15,.rows s16,.rows s17,.bool s18,.rows s19,.bool s20,.int s21,.int s22,.int s23,.rows s24,.int s25,.int s26,.int s27]=some [.int s0,.int s1,.int s2,.int s3,.int s4,.int s5,.int s6,.int s7,.int s8,.int s9,.int s10,.int s11,.int s12,.int s13,.rows s14,.int s15,.rows s16,.rows s17,.bool s18,.rows s19,.bool s20,.int s21,.int s22,.int s23,.rows s24,.int s25,.int s26,.int s27]:=by
 show MZ (std (HE N) N) (xOf _)=_;simp only [MZ,LU,NO,Mx,lq9,std,xOf,PXb,PXc,PXn,PXm,Nat.reduceAdd,Int.reduceBEq,AX,Ad,Ab,Bi h.bt (show 1≤4096 by omega),Bi h.bw' (show 8≤4096 by omega),Bi h.bf (show 8≤4096 by omega),Bi h.bd (show 8≤4096 by omega),Bi h.sb (show 1≤4096 by omega)]
theorem HH {N:Nat} {s18 s20:Bool} {p:Int}  : A0 N [.int s0,.int s1,.int s2,.int s3,.int s4,.int s5,.int s6,.int s7,.int s8,.int s9,.int s10,.int s11,.int s12,.int s13,.rows s14,.int s15,.rows s16,.rows s17,.bool s18,.rows s19,.bool s20,.int s21,.int s22,.int s23,.rows s24,.int s25,.int s26,.int s27,.int p]=some [.bool (inR p s14.length)]:=by
 show KA (std (SC N) N) (xOf _)=_;simp only [KA,lq9,std,xOf,PXb,PXc,PXn,PXm,Nat.reduceAdd,Int.reduceBEq];rfl
def Ah (s:Inn) (d:Del):Inn :=
  let odd := !(d.runs.tmod 2==0) != d.crossed
  let t:Inn:=cond odd { s with striker:=s.other,other:=s.striker } s
  let k:Bool:=d.how==0
  cond (!k&&(d.victim==1 && !(s.striker==0)))
    { t with striker:=cond odd t.striker 0,other:=cond odd 0 t.other,batters:=cond (inR s.striker s.batters.length) (N3 s.batters s.striker 2) s.batters,wickets:=IntKind.i64.wrap (s.wickets+1) }
    (cond (!k&&(d.victim==2 && !(s.other==0)))
      { t with striker:=cond odd 0 t.striker,other:=cond odd t.other 0,batters:=cond (inR s.other s.batters.length) (N3 s.batters s.other 2) s.batters,wickets:=IntKind.i64.wrap (s.wickets+1) }
      t)
theorem mJ {N:Nat} {s18 s20:Bool} {d0 d1 d2 d3 d4 d6 d7 d8 d9 d11:Int} {d5 d10:Bool} (h:Fit s14 s16 s17 s19 s24):JU N [.int s0,.int s1,.int s2,.int s3,.int s4,.int s5,.int s6,.int s7,.int s8,.int s9,.int s10,.int s11,.int s12,.int s13,.rows s14,.int s15,.rows s16,.rows s17,.bool s18,.rows s19,.bool s20,.int s21,.int s22,.int s23,.rows s24,.int s25,.int s26,.int s27,.int d0,.int d1,.int d2,.int d3,.int d4,.bool d5,.int d6,.int d7,.int d8,.int d9,.bool d10,.int d11]=some (Ah (⟨s0,s1,s2,s3,s4,s5,s6,s7,s8,s9,s10,s11,s12,s13,s14,s15,s16,s17,s18,s19,s20,s21,s22,s23,s24,s25,s26,s27⟩:Inn) (⟨d0,d1,d2,d3,d4,d5,d6,d7,d8,d9,d10,d11⟩:Del)).ls:=by
 show Mr (std (J6 N) N) (xOf _)=_;simp only [Mr,Sc,Qt,lq9,std,xOf,PXb,PXc,PXn,PXm,Nat.reduceAdd,Int.reduceBEq,G5 h,HH,wm h.bt];unfold Ah;cases d5<;>cases d2.tmod 2==0<;>cases d6==0<;>cases d7==1<;>cases d7==2<;>cases s12==0<;>cases s13==0<;>rfl
def IK (s:Inn):Inn:={ s with striker:=s.other,other:=s.striker }
theorem eB {N:Nat} {s18 s20:Bool} (h:Fit s14 s16 s17 s19 s24):F2 N [.int s0,.int s1,.int s2,.int s3,.int s4,.int s5,.int s6,.int s7,.int s8,.int s9,.int s10,.int s11,.int s12,.int s13,.rows s14,.int s15,.rows s16,.rows s17,.bool s18,.rows s19,.bool s20,.int s21,.int s22,.int s23,.rows s24,.int s25,.int s26,.int s27]=some (IK (⟨s0,s1,s2,s3,s4,s5,s6,s7,s8,s9,s10,s11,s12,s13,s14,s15,s16,s17,s18,s19,s20,s21,s22,s23,s24,s25,s26,s27⟩:Inn)).ls:=by
 show Ii (std (Ka N) N) (xOf _)=_;simp only [Ii,Pw,lq9,std,xOf,PXb,PXc,PXn,PXm,Nat.reduceAdd,Int.reduceBEq,G5 h];rfl
theorem aH {N:Nat} {v:Int}  : Cz N [.int v]=some [.bool (!(v==0))]:=by
 show Ln (std (O1 N) N) (xOf _)=_;rfl
theorem ZT {N:Nat} {v:Int}  : EX N [.int v]=some [.bool (!(v==0))]:=by
 show KS (std (NY N) N) (xOf _)=_;rfl
theorem VF {N:Nat} {s18 s20:Bool} (h:s14.length≤1048576) (hN:2097152<N):B9 N [.int s0,.int s1,.int s2,.int s3,.int s4,.int s5,.int s6,.int s7,.int s8,.int s9,.int s10,.int s11,.int s12,.int s13,.rows s14,.int s15,.rows s16,.rows s17,.bool s18,.rows s19,.bool s20,.int s21,.int s22,.int s23,.rows s24,.int s25,.int s26,.int s27]=some [.bool (DF s14)]:=by
 show Ep (std (Ew N) N) (xOf _)=_;simp only [Ep,GQ,lq9,std,xOf,PXb,PXc,PXn,AJ];rw [show DF s14=iLe 0 (Pi (fun i => !(atI s14 i 0==0)) s14.length) from (J9 _ _).symm];rw [Option.bind_assoc];refine Ak (Ci (len:=s14.length) (GH fun i => !(atI s14 i 0==0)) ?_ ?_ s14.length 0 N (by omega) (by omega)) ?_
 ·intro self;simp only [PXb,PXc,PXn,AJ,Bg]
 ·intro i self hi;simp only [PXb,PXc,PXn,AJ,BA (show i≤1099511627776 by omega),BQ hi,Ap hi,GH,Ca,GQ,aH];cases atI s14 i 0==0<;>rfl
 ·unfold Pi;cases BO (GH fun i => !(atI s14 i 0==0)) s14.length 0<;>rfl
theorem ed {N:Nat} {s18 s20:Bool} (h:s14.length≤1048576) (hN:2097152<N):Fh N [.int s0,.int s1,.int s2,.int s3,.int s4,.int s5,.int s6,.int s7,.int s8,.int s9,.int s10,.int s11,.int s12,.int s13,.rows s14,.int s15,.rows s16,.rows s17,.bool s18,.rows s19,.bool s20,.int s21,.int s22,.int s23,.rows s24,.int s25,.int s26,.int s27]=some [.bool (DF s14)]:=by
 show Ij (std (KU N) N) (xOf _)=_;simp only [Ij,FR,lq9,std,xOf,PXb,PXc,PXn,AJ];rw [show DF s14=iLe 0 (Pi (fun i => !(atI s14 i 0==0)) s14.length) from (J9 _ _).symm];rw [Option.bind_assoc];refine Ak (Ci (len:=s14.length) (GH fun i => !(atI s14 i 0==0)) ?_ ?_ s14.length 0 N (by omega) (by omega)) ?_
 ·intro self;simp only [PXb,PXc,PXn,AJ,Bg]
 ·intro i self hi;simp only [PXb,PXc,PXn,AJ,BA (show i≤1099511627776 by omega),BQ hi,Ap hi,GH,Ca,FR,ZT];cases atI s14 i 0==0<;>rfl
 ·unfold Pi;cases BO (GH fun i => !(atI s14 i 0==0)) s14.length 0<;>rfl
theorem TY {N:Nat} {s18 s20:Bool} (h:s14.length≤1048576) (hN:2097152<N):BT N [.int s0,.int s1,.int s2,.int s3,.int s4,.int s5,.int s6,.int s7,.int s8,.int s9,.int s10,.int s11,.int s12,.int s13,.rows s14,.int s15,.rows s16,.rows s17,.bool s18,.rows s19,.bool s20,.int s21,.int s22,.int s23,.rows s24,.int s25,.int s26,.int s27]=some [.bool (Gx s14 s12 s13)]:=by
 show EB (std (ET N) N) (xOf _)=_;simp only [EB,OA,lq9,std,xOf,PXb,PXc,PXn,PXm,Nat.reduceAdd,Int.reduceBEq,VF h hN];rfl
theorem jC {N:Nat} {s18 s20:Bool} (h:s14.length≤1048576) (hN:2097152<N):Cy N [.int s0,.int s1,.int s2,.int s3,.int s4,.int s5,.int s6,.int s7,.int s8,.int s9,.int s10,.int s11,.int s12,.int s13,.rows s14,.int s15,.rows s16,.rows s17,.bool s18,.rows s19,.bool s20,.int s21,.int s22,.int s23,.rows s24,.int s25,.int s26,.int s27]=some [.rows (Ec s14 s14.length)]:=by
 show Fb (std (MN N) N) (xOf _)=_;simp only [Fb,lq9,std,xOf,PXb,PXc,PXn,AJ];refine Ak (EI (len:=s14.length) (fun i=>[.rows (Ec s14 i),.int (i:Int)]) [.rows (Ec s14 s14.length)] ?_ ?_ N (by omega)) rfl
 ·intro self;simp only [PXb,PXc,PXn,AJ,Bg]
 ·intro i self hi;have h2:(Ec s14 i++[[PV.int ((i:Int)+1)]]).length≤4194304:=by have:=bN s14 i;simp;omega
  simp only [PXb,PXc,PXn,AJ,BA (show i≤1099511627776 by omega),BQ hi,Ap hi,Ca,Ec,GT h2 (show 8≤4096 by omega)];cases (atI s14 i 0==0||atI s14 i 0==3)<;>rfl
def V3 (s:Inn) (p q:Int):Inn×Int :=
  cond (DF s.batters) (s,1) (cond (!inR p s.batters.length || !inR q s.batters.length) (s,3) (cond (p==q) (s,4)
    ({ s with batters:=N3 (N3 s.batters p 1) q 1,striker:=p,other:=q },0)))
theorem ic {N:Nat} {s18 s20:Bool} {p:Int} {q:Int} (h:Fit s14 s16 s17 s19 s24) (hN:2097152<N):Hv N [.int s0,.int s1,.int s2,.int s3,.int s4,.int s5,.int s6,.int s7,.int s8,.int s9,.int s10,.int s11,.int s12,.int s13,.rows s14,.int s15,.rows s16,.rows s17,.bool s18,.rows s19,.bool s20,.int s21,.int s22,.int s23,.rows s24,.int s25,.int s26,.int s27,.int p,.int q]=some (BU (V3 (⟨s0,s1,s2,s3,s4,s5,s6,s7,s8,s9,s10,s11,s12,s13,s14,s15,s16,s17,s18,s19,s20,s21,s22,s23,s24,s25,s26,s27⟩:Inn) p q)):=by
 show LC (std (F7 N) N) (xOf _)=_;generalize hres:(some (BU (V3 (⟨s0,s1,s2,s3,s4,s5,s6,s7,s8,s9,s10,s11,s12,s13,s14,s15,s16,s17,s18,s19,s20,s21,s22,s23,s24,s25,s26,s27⟩:Inn) p q)):Option (List PV))=RR;simp only [LC,SE,Pq,Pd,lq9,std,xOf,PXb,PXc,PXn,PXm,Nat.reduceAdd,Int.reduceBEq,G5 h,VF h.bt hN,HH];subst hres;simp only [V3];cases DF s14<;>try rfl
 cases hp:inR p s14.length<;>cases hq:inR q s14.length<;>try rfl
 rw [K4 hp h.bt,K4 hq h.bt];cases p==q<;>rfl
def OY (s:Inn) (p:Int):Int :=
 cond (!inR p s.batters.length) 3 (cond (!Gx s.batters s.striker s.other||atI s.batters (ix p) 0==1) 4 (cond (atI s.batters (ix p) 0==2) 5 0))
theorem XX {N:Nat} {s18 s20:Bool} {p:Int} (h:s14.length≤1048576) (hN:2097152<N):Dv N [.int s0,.int s1,.int s2,.int s3,.int s4,.int s5,.int s6,.int s7,.int s8,.int s9,.int s10,.int s11,.int s12,.int s13,.rows s14,.int s15,.rows s16,.rows s17,.bool s18,.rows s19,.bool s20,.int s21,.int s22,.int s23,.rows s24,.int s25,.int s26,.int s27,.int p]=some [.int (OY (⟨s0,s1,s2,s3,s4,s5,s6,s7,s8,s9,s10,s11,s12,s13,s14,s15,s16,s17,s18,s19,s20,s21,s22,s23,s24,s25,s26,s27⟩:Inn) p)]:=by
 show NE (std (Jx N) N) (xOf _)=_;generalize hres:(some [.int (OY (⟨s0,s1,s2,s3,s4,s5,s6,s7,s8,s9,s10,s11,s12,s13,s14,s15,s16,s17,s18,s19,s20,s21,s22,s23,s24,s25,s26,s27⟩:Inn) p)]:Option (List PV))=RR;simp only [NE,Pg,Qi,lq9,std,xOf,PXb,PXc,PXn,PXm,Nat.reduceAdd,Int.reduceBEq,HH,TY h hN];subst hres;simp only [OY];cases hp:inR p s14.length<;>try rfl
 rw [K4 hp h];cases Gx s14 s12 s13<;>try rfl
 simp only [PXb,PXc,PXn,PXm,Nat.reduceAdd,Int.reduceBEq,atI,ix]
theorem gz {s:Inn} {p:Int} (h:(OY s p==0)=true):inR p s.batters.length=true:=by
 unfold OY at h;cases hp:inR p s.batters.length with
 | true=>rfl
 | false=>rw [hp] at h;cases h
def PN (s:Inn) (p:Int):Inn×Int :=
 cond (OY s p==0) ({ s with batters:=N3 s.batters p 1,striker:=cond (s.striker==0) p s.striker,other:=cond (s.striker==0) s.other p },0) (s,OY s p)
def HT (s:Inn) (p:Int):Inn×Int :=
 cond (OY s p==0) ({ s with batters:=N3 s.batters p 2,wickets:=IntKind.i64.wrap (s.wickets+1) },0) (s,OY s p)
theorem fj {N:Nat} {s18 s20:Bool} {p:Int} (h:Fit s14 s16 s17 s19 s24) (hN:2097152<N):G7 N [.int s0,.int s1,.int s2,.int s3,.int s4,.int s5,.int s6,.int s7,.int s8,.int s9,.int s10,.int s11,.int s12,.int s13,.rows s14,.int s15,.rows s16,.rows s17,.bool s18,.rows s19,.bool s20,.int s21,.int s22,.int s23,.rows s24,.int s25,.int s26,.int s27,.int p]=some (BU (PN (⟨s0,s1,s2,s3,s4,s5,s6,s7,s8,s9,s10,s11,s12,s13,s14,s15,s16,s17,s18,s19,s20,s21,s22,s23,s24,s25,s26,s27⟩:Inn) p)):=by
 show KF (std (Hm N) N) (xOf _)=_;generalize hres:(some (BU (PN (⟨s0,s1,s2,s3,s4,s5,s6,s7,s8,s9,s10,s11,s12,s13,s14,s15,s16,s17,s18,s19,s20,s21,s22,s23,s24,s25,s26,s27⟩:Inn) p)):Option (List PV))=RR;simp only [KF,Qw,Qf,lq9,std,xOf,PXb,PXc,PXn,PXm,Nat.reduceAdd,Int.reduceBEq,G5 h,XX h.bt hN];subst hres;simp only [PN];cases hm:OY (⟨s0,s1,s2,s3,s4,s5,s6,s7,s8,s9,s10,s11,s12,s13,s14,s15,s16,s17,s18,s19,s20,s21,s22,s23,s24,s25,s26,s27⟩:Inn) p==0<;>try rfl
 rw [K4 (gz hm) h.bt];cases s12==0<;>rfl
theorem aR {N:Nat} {s18 s20:Bool} {p:Int} (h:Fit s14 s16 s17 s19 s24) (hN:2097152<N):FA N [.int s0,.int s1,.int s2,.int s3,.int s4,.int s5,.int s6,.int s7,.int s8,.int s9,.int s10,.int s11,.int s12,.int s13,.rows s14,.int s15,.rows s16,.rows s17,.bool s18,.rows s19,.bool s20,.int s21,.int s22,.int s23,.rows s24,.int s25,.int s26,.int s27,.int p]=some (BU (HT (⟨s0,s1,s2,s3,s4,s5,s6,s7,s8,s9,s10,s11,s12,s13,s14,s15,s16,s17,s18,s19,s20,s21,s22,s23,s24,s25,s26,s27⟩:Inn) p)):=by
 show Hh (std (Dx N) N) (xOf _)=_;generalize hres:(some (BU (HT (⟨s0,s1,s2,s3,s4,s5,s6,s7,s8,s9,s10,s11,s12,s13,s14,s15,s16,s17,s18,s19,s20,s21,s22,s23,s24,s25,s26,s27⟩:Inn) p)):Option (List PV))=RR;simp only [Hh,Ov,NQ,Ow,lq9,std,xOf,PXb,PXc,PXn,PXm,Nat.reduceAdd,Int.reduceBEq,G5 h,XX h.bt hN,HH];subst hres;simp only [HT];cases hm:OY (⟨s0,s1,s2,s3,s4,s5,s6,s7,s8,s9,s10,s11,s12,s13,s14,s15,s16,s17,s18,s19,s20,s21,s22,s23,s24,s25,s26,s27⟩:Inn) p==0<;>try rfl
 have hk:inR p s14.length=true:=gz hm;rw [K4 hk h.bt,hk];rfl
def J4 (s:Inn) (p:Int) (hurt:Bool):Inn×Int :=
  cond (!inR p s.batters.length) (s,3) (cond (s.striker==0||s.other==0) (s,6) (cond (!(p==s.striker) && !(p==s.other)) (s,4)
    (cond (hurt&&((Ec s.batters s.batters.length).length:Int)==0) (s,19)
      ({ s with striker:=cond (p==s.striker) 0 s.striker,other:=cond (p==s.striker) s.other 0,batters:=N3 s.batters p (cond hurt 3 2),wickets:=cond hurt s.wickets (IntKind.i64.wrap (s.wickets+1)) },0))))
theorem eY {N:Nat} {s18 s20:Bool} {p:Int} {b:Bool} (h:Fit s14 s16 s17 s19 s24) (hN:2097152<N):Fn N [.int s0,.int s1,.int s2,.int s3,.int s4,.int s5,.int s6,.int s7,.int s8,.int s9,.int s10,.int s11,.int s12,.int s13,.rows s14,.int s15,.rows s16,.rows s17,.bool s18,.rows s19,.bool s20,.int s21,.int s22,.int s23,.rows s24,.int s25,.int s26,.int s27,.int p,.bool b]=some (BU (J4 (⟨s0,s1,s2,s3,s4,s5,s6,s7,s8,s9,s10,s11,s12,s13,s14,s15,s16,s17,s18,s19,s20,s21,s22,s23,s24,s25,s26,s27⟩:Inn) p b)):=by
 show Im (std (EU N) N) (xOf _)=_;generalize hres:(some (BU (J4 (⟨s0,s1,s2,s3,s4,s5,s6,s7,s8,s9,s10,s11,s12,s13,s14,s15,s16,s17,s18,s19,s20,s21,s22,s23,s24,s25,s26,s27⟩:Inn) p b)):Option (List PV))=RR;simp only [Im,PO,Pf,Ni,lq9,std,xOf,PXb,PXc,PXn,PXm,Nat.reduceAdd,Int.reduceBEq,G5 h,HH,jC h.bt hN];subst hres;simp only [J4];cases hp:inR p s14.length<;>try rfl
 rw [K4 hp h.bt];cases s12==0<;>cases s13==0<;>try rfl
 cases p==s12<;>cases p==s13<;>cases b<;>try rfl
 all_goals (simp only [PXb,PXc,PXn,PXm,Nat.reduceAdd,Int.reduceBEq];cases ((Ec s14 s14.length).length:Int)==0<;>rfl)
def btw (a b c:Int):Bool:=iLe b a&&iLe a c
theorem D4 (N:Nat) (a b c:Int):Aj N [.int a,.int b,.int c]=some [.bool (btw a b c)]:=by
 show some [PV.bool (cond (iLe b a) (iLe a c) false)]=_;rw [dX];rfl
theorem LZ (N:Nat) (a b c:Int):Ck N [.int a,.int b,.int c]=some [.bool (btw a b c)]:=by
 show some [PV.bool (cond (iLe b a) (iLe a c) false)]=_;rw [dX];rfl
def OJ (x1 x2 x3 x4 x5 x6 x7 x9 x10 x11 x12:Int):Bool:=btw x1 2 11&&btw x2 1 2&&btw x3 0 90&&btw x4 4 8&&btw x5 0 90&&btw x6 1 5&&btw x7 1 5&&btw x9 0 200&&btw x10 0 1000&&btw x11 0 9&&btw x12 0 11
theorem cC (N : Nat) (x0 : ByteArray) (x1 x2 x3 x4 x5 x6 x7 x9 x10 x11 x12 : Int) (x8 : Bool) (x13 : Rows) :
   Fo N [.str x0,.int x1,.int x2,.int x3,.int x4,.int x5,.int x6,.int x7,.bool x8,.int x9,.int x10,.int x11,.int x12,.rows x13]=some [.bool (OJ x1 x2 x3 x4 x5 x6 x7 x9 x10 x11 x12)]:=by
  show Iu (std (KY N) N) (xOf _)=_;have e:∀ ls,KY N 36 [] ls=Ck N ls:=fun ls=>rfl
  simp only [Iu,lq9,std,xOf,e,LZ,PXb,PXc,PXn,AJ,OJ]
def Y6 (s:ByteArray) (i:Nat):Bool := !(iLe 65 (Om s i)&&iLe (Om s i) 90)&&((i:Int)==0||((!(Om s i==95) && !(Om s i==45))&&(iLt (Om s i) 48||iLt 57 (Om s i))))
def YJ (s:ByteArray):Bool := !Bo (Y6 s) s.size 0&&(iLe 1 s.size&&iLe s.size 16)
theorem wc (s:ByteArray):(CY s).length=s.size:=by
 simp only [CY,List.length_map,Array.length_toList];rfl
theorem xm (s:ByteArray) (i:Nat) (h:i<s.size):pvI (AB (CY s) i 0)=Om s i:=by
 unfold AB AK AG CY Om;simp only [zzl,List.getElem?_map];have:i<s.data.toList.length:=by simpa using h
 rw [zzo this];simp [zzo this]
theorem lA (N:Nat) (s:ByteArray) (hN:s.size<N) (hs:s.size≤1048576):Kx N [.str s]=some [.bool (YJ s)]:=by
 show Of (std (W5 N) N) (xOf _)=_;simp only [Of,lq9,std,xOf,wc,PXb,PXc,PXn,AJ];refine Ak (Li (len:=s.size) (Y6 s) [.bool false] ?_ ?_ N hN) ?_
 ·intro self;simp only [PXb,PXc,PXn,AJ,Bg]
 ·intro i self hi;simp only [PXb,PXc,PXn,AJ,Int.toNat_natCast,xm s i hi,BA (show i≤1099511627776 by omega),BQ hi,Ap hi,Y6]
 ·unfold YJ;cases Bo (Y6 s) s.size 0<;>rfl
theorem vq {i len:Nat} (h:i<len) (hl:len≤1099511627776):(!iLt 0 (i:Int)||iIn (IntKind.i64.wrap ((i:Int) - 1)) (len:Int))=true:=by
 rw [DG (by omega) (by omega)];simp only [iLt,iIn,Bool.or_eq_true,Bool.not_eq_true',decide_eq_false_iff_not,decide_eq_true_eq];omega
def uk (L:Rows) (ov:Int) (i:Nat):Bool:=(iLt (atI L i 0) 1||iLt (atI L i 1) (atI L i 0)||iLt ov (atI L i 1)) || !btw (atI L i 2) 0 11
def rX (L:Rows) (i:Nat):Bool:=iLt 0 (i:Int)&&iLe (atI L i 0) (pvI (AB L (IntKind.i64.wrap ((i:Int) - 1)).toNat 1))
def oc (L:Rows) (ov:Int) (i:Nat):Option (List PV):=cond (uk L ov i) (some [.int 2]) (cond (rX L i) (some [.int 8]) none)
def qp:Option (List PV)→Int
 | none=>0
 | some r=>pvI (AG r 0)
def lD (L:Rows) (ov:Int):Int:=cond (iLt 8 (L.length:Int)) 9 (qp (BO (oc L ov) L.length 0))
theorem dz (o:Option (List PV)):cond (pvI (AG (Qo o) 0)==((0:Nat):Int)) (some [PV.int (pvI (AG (Qo o) 1))]) (some [PV.int 0])=some [PV.int (qp o)]:=by
 cases o<;>rfl
theorem cp (N : Nat) (x0 : ByteArray) (x1 x2 x3 x4 x5 x6 x7 x9 x10 x11 x12 : Int) (x8 : Bool) (L : Rows) (hN : 2097152 < N) :
   HD N [.str x0,.int x1,.int x2,.int x3,.int x4,.int x5,.int x6,.int x7,.bool x8,.int x9,.int x10,.int x11,.int x12,.rows L]=some [.int (lD L x3)]:=by
  show KI (std (Lj N) N) (xOf _)=_;have e:∀ ls,Lj N 36 [] ls=Ck N ls:=fun ls=>rfl
  simp only [KI,lq9,std,xOf,e,LZ,PXb,PXc,PXn,AJ,lD];cases h8:iLt 8 (L.length:Int) with
  | true=>rfl
  | false =>
    have hl:L.length≤8:=by simp [iLt] at h8;omega
    simp only [cond_false];refine Ak (Ci (len:=L.length) (oc L x3) ?_ ?_ L.length 0 N (by omega) (by omega)) ?_
    · intro self;simp only [PXb,PXc,PXn,AJ,Bg]
    · intro i self hi;simp only [PXb,PXc,PXn,AJ,Int.toNat_natCast,BA (show i≤1099511627776 by omega),BQ hi,Ap hi,LZ,e,vq hi (by omega)];simp only [oc,uk,rX,atI];cases (iLt (pvI (AB L i 0)) 1||iLt (pvI (AB L i 1)) (pvI (AB L i 0))||iLt x3 (pvI (AB L i 1)) || !btw (pvI (AB L i 2)) 0 11) <;>
      cases (iLt 0 (i:Int)&&iLe (pvI (AB L i 0)) (pvI (AB L (IntKind.i64.wrap ((i:Int) - 1)).toNat 1)))<;>rfl
    · exact dz _
def L5 (x0:ByteArray) (x1 x2 x3 x4 x5 x6 x7 x9 x10 x11 x12:Int) (L:Rows):Int :=
  cond (!YJ x0) 5 (cond (!OJ x1 x2 x3 x4 x5 x6 x7 x9 x10 x11 x12) 2
    (cond ((!(x10==0)&&x2==1)||((!(x5==0)||iLt 0 (L.length:Int))&&x3==0)) 1
      (cond (!(x5==0)&&iLt (IntKind.i64.wrap (x5 * x1)) x3) 13 (lD L x3))))
theorem VQ (N : Nat) (x0 : ByteArray) (x1 x2 x3 x4 x5 x6 x7 x9 x10 x11 x12 : Int) (x8 : Bool) (L : Rows) (hN : 2097152 < N) (hs : x0.size ≤ 1048576) :
   AP N [.str x0,.int x1,.int x2,.int x3,.int x4,.int x5,.int x6,.int x7,.bool x8,.int x9,.int x10,.int x11,.int x12,.rows L]=some [.int (L5 x0 x1 x2 x3 x4 x5 x6 x7 x9 x10 x11 x12 L)]:=by
  show LP (std (Fj N) N) (xOf _)=_;have e:∀ ls,Fj N 16 [] ls=Kx N ls:=fun ls=>rfl
  have e2:∀ ls,Fj N 17 [] ls=Fo N ls:=fun ls=>rfl
  have e3:∀ ls,Fj N 18 [] ls=HD N ls:=fun ls=>rfl
  simp only [LP,lq9,std,xOf,e,e2,e3,lA N x0 (by omega) hs,cC,cp N _ _ _ _ _ _ _ _ _ _ _ _ _ _ hN,PXb,PXc,AJ,L5];cases YJ x0<;>cases OJ x1 x2 x3 x4 x5 x6 x7 x9 x10 x11 x12<;>try rfl
  simp only [PXb,PXc,AJ,Bool.not_true];cases (!(x10==0)&&x2==1)<;>cases ((!(x5==0)||iLt 0 (L.length:Int))&&x3==0)<;>try rfl
  cases (!(x5==0)&&iLt (IntKind.i64.wrap (x5 * x1)) x3)<;>rfl
theorem XG (N:Nat) (L:Rows) (v:Int) (hN:L.length<N) (hl:L.length≤2097152):D3 N [.rows L,.int v]=some [.int (Pi (fun j=>v==atI L j 0) L.length)]:=by
 show F4 (std (M6 N) N) (xOf _)=_;simp only [F4,lq9,std,xOf,PXb,PXc,PXn,AJ];refine Ak (Ci (len:=L.length) (GH fun j=>v==atI L j 0) ?_ ?_ L.length 0 N (by omega) (by omega)) ?_
 ·intro self;simp only [PXb,PXc,PXn,AJ,Bg]
 ·intro i self hi;simp only [PXb,PXc,PXn,AJ,BA (show i≤1099511627776 by omega),BQ hi,Ap hi,GH,Ca];cases v==atI L i 0<;>rfl
 ·unfold Pi;cases BO (GH fun j=>v==atI L j 0) L.length 0<;>rfl
def KO (L:Rows) (k:Nat) (v:Int):Bool:=Bo (fun j=>v==atI L j 0) k 0
theorem Kp (N:Nat) (L:Rows) (v:Int) (hN:L.length<N) (hl:L.length≤2097152):Aw N [.rows L,.int v]=some [.bool (KO L L.length v)]:=by
 show D8 (std (FV N) N) (xOf _)=_;have e:∀ ls,FV N 126 [] ls=D3 N ls:=fun ls=>rfl
 simp only [D8,lq9,std,xOf,PXb,PXc,PXn,AJ,e,XG N L v hN hl,J9,KO]
theorem uD (L:Rows) (i:Nat) (v:Int) (h:i≤L.length):KO (L.take i) (L.take i).length v=KO L i v:=by
 rw [List.length_take,Nat.min_eq_left h];exact ck i 0 (fun j _ hj=>by rw [tY (by omega)])
def Q5 (L:Rows) (n:Int) (i:Nat):Bool := !btw (atI L i 0) 1 n||KO L i (atI L i 0)
def Kq (L:Rows) (n:Int):Bool := !Bo (Q5 L n) L.length 0
theorem M0 (N:Nat) (L:Rows) (n:Int) (hN:L.length<N) (hl:L.length≤2097152):DZ N [.rows L,.int n]=some [.bool (Kq L n)]:=by
 show FG (std (D9 N) N) (xOf _)=_;have e:∀ ls,D9 N 73 [] ls=Aj N ls:=fun ls=>rfl
 have e2:∀ ls,D9 N 103 [] ls=Aw N ls:=fun ls=>rfl
 simp only [FG,lq9,std,xOf,PXb,PXc,PXn,AJ];refine Ak (Li (len:=L.length) (Q5 L n) [.bool false] ?_ ?_ N hN) ?_
 ·intro self;simp only [PXb,PXc,PXn,AJ,Bg]
 ·intro i self hi;have h1:(L.take i).length≤L.length:=List.length_take_le' i L;simp only [PXb,PXc,PXn,AJ,BA (show i≤1099511627776 by omega),BQ hi,Ap hi,e,e2,D4,xi (Nat.le_of_lt hi),Int.toNat_zero,List.drop_zero,Kp N (L.take i) _ (by omega) (by omega),uD L i _ (by omega),Ca,Q5];cases btw (atI L i 0) 1 n<;>cases KO L i (atI L i 0)<;>rfl
 ·unfold Kq;cases Bo (Q5 L n) L.length 0<;>rfl
theorem ZY (N:Nat) (v:Int):Cz N [.int v]=some [.bool (!(v==0))]:=rfl
def lsI (L14 L16 L17 L19 L24:Rows) (b18 b20:Bool) (x0 x1 x2 x3 x4 x5 x6 x7 x8 x9 x10 x11 x12 x13 x15 x21 x22 x23 x25 x26 x27:Int):List PV :=
 [.int x0,.int x1,.int x2,.int x3,.int x4,.int x5,.int x6,.int x7,.int x8,.int x9,.int x10,.int x11,.int x12,.int x13,.rows L14,.int x15,.rows L16,.rows L17,.bool b18,.rows L19,.bool b20,.int x21,.int x22,.int x23,.rows L24,.int x25,.int x26,.int x27]
section
variable (N:Nat) (L14 L16 L17 L19 L24:Rows) (b18 b20:Bool) (x0 x1 x2 x3 x4 x5 x6 x7 x8 x9 x10 x11 x12 x13 x15 x21 x22 x23 x25 x26 x27:Int)
theorem cV (hN:L14.length<N) (hl:L14.length≤2097152):B9 N (lsI L14 L16 L17 L19 L24 b18 b20 x0 x1 x2 x3 x4 x5 x6 x7 x8 x9 x10 x11 x12 x13 x15 x21 x22 x23 x25 x26 x27)=some [.bool (DF L14)]:=by
 show Ep (std (Ew N) N) (xOf (lsI ..))=_;have e:∀ ls,Ew N 215 [] ls=Cz N ls:=fun ls=>rfl
 simp only [Ep,lq9,std,xOf,lsI,PXb,PXc,PXn,AJ];rw [show DF L14=iLe 0 (Pi (fun i => !(atI L14 i 0==0)) L14.length) from (J9 _ _).symm];rw [Option.bind_assoc];refine Ak (Ci (len:=L14.length) (GH fun i => !(atI L14 i 0==0)) ?_ ?_ L14.length 0 N (by omega) (by omega)) ?_
 ·intro self;simp only [PXb,PXc,PXn,AJ,Bg]
 ·intro i self hi;simp only [PXb,PXc,PXn,AJ,BA (show i≤1099511627776 by omega),BQ hi,Ap hi,GH,Ca,e,ZY];cases atI L14 i 0==0<;>rfl
 ·unfold Pi;cases BO (GH fun i => !(atI L14 i 0==0)) L14.length 0<;>rfl
theorem bA (hN:L14.length<N) (hl:L14.length≤2097152):BT N (lsI L14 L16 L17 L19 L24 b18 b20 x0 x1 x2 x3 x4 x5 x6 x7 x8 x9 x10 x11 x12 x13 x15 x21 x22 x23 x25 x26 x27)=some [.bool (Gx L14 x12 x13)]:=by
 show EB (std (ET N) N) (xOf (lsI ..))=_;have e:∀ ls,ET N 202 [] ls=B9 N ls:=fun ls=>rfl
 have:=cV N L14 L16 L17 L19 L24 b18 b20 x0 x1 x2 x3 x4 x5 x6 x7 x8 x9 x10 x11 x12 x13 x15 x21 x22 x23 x25 x26 x27 hN hl;simp only [lsI] at this;simp only [EB,lq9,std,xOf,lsI,PXb,PXc,PXn,AJ,e,this,Gx]
theorem gK (hN:L14.length<N) (hl:L14.length≤2097152):Cy N (lsI L14 L16 L17 L19 L24 b18 b20 x0 x1 x2 x3 x4 x5 x6 x7 x8 x9 x10 x11 x12 x13 x15 x21 x22 x23 x25 x26 x27)=some [.rows (Ec L14 L14.length)]:=by
 show Fb (std (MN N) N) (xOf (lsI ..))=_;simp only [Fb,lq9,std,xOf,lsI,PXb,PXc,PXn,AJ];refine Ak (EI (len:=L14.length) (fun i=>[.rows (Ec L14 i),.int (i:Int)]) [.rows (Ec L14 L14.length)] ?_ ?_ N hN) rfl
 ·intro self;simp only [PXb,PXc,PXn,AJ,Bg]
 ·intro i self hi;have h2:(Ec L14 i++[[PV.int ((i:Int)+1)]]).length≤4194304:=by have:=bN L14 i;simp;omega
  simp only [PXb,PXc,PXn,AJ,BA (show i≤1099511627776 by omega),BQ hi,Ap hi,Ca,Ec,GT h2 (show 8≤4096 by omega)];cases (atI L14 i 0==0||atI L14 i 0==3)<;>rfl
end
theorem WJ (N:Nat) (v:Int):DW N [.int v]=some [.bool (!btw v 0 1000000000)]:=by
 show FL (std (Gn N) N) (xOf _)=_;have e:∀ ls,Gn N 73 [] ls=Aj N ls:=fun ls=>rfl
 simp only [FL,lq9,std,xOf,PXb,PXc,PXn,AJ,e,D4]
def pIs (L:Rows) (v:Int) (i:Nat):Bool:=atI L i 0==v
def Ym (s n:Int) (i:Nat):Bool:=s==(i:Int)+1||n==(i:Int)+1
def QX (L:Rows) (s n:Int) (i:Nat):Bool:=iLt 3 (atI L i 0)||(pIs L 1 i && !Ym s n i)
def eE (L:Rows) (s n:Int) (i:Nat):Bool:=iLt 3 (atI L i 0) || !(pIs L 1 i==Ym s n i)
def am (L:Rows):Int:=Co (pIs L 2) L.length
def ins (L:Rows):Int:=Co (pIs L 1) L.length
def two (s n:Int):Int:=cond (!(n==0)) (IntKind.i64.wrap (cond (!(s==0)) (IntKind.i64.wrap (0+1)) 0+1)) (cond (!(s==0)) (IntKind.i64.wrap (0+1)) 0)
def jW (L:Rows) (s n wk k:Int):Bool :=
 !Bo (QX L s n) L.length 0&&((btw s 0 k&&btw n 0 k)&&(!(s==n && !(s==0))&&((two s n==ins L&&(!DF L||iLt 0 (two s n)))&&am L==wk)))
def ZC (L:Rows) (s n wk:Int):Bool :=
 !Bo (eE L s n) L.length 0&&(!((DF L&&iLt (ins L) 1)||(!(s==0)&&s==n))&&wk==am L)
def pt (L:Rows):Nat→Bool
 | 0=>false
 | i+1=>pt L i || !(atI L i 0==0)
theorem ni (L:Rows):∀ i,pt L i=Bo (fun j => !(atI L j 0==0)) i 0
 | 0=>rfl
 | i+1=>by rw [Yn,Nat.zero_add,← ni L i];rfl
section
variable (N:Nat) (L14 L16 L17 L19 L24:Rows) (b18 b20:Bool) (x0 x1 x2 x3 x4 x5 x6 x7 x8 x9 x10 x11 x12 x13 x15 x21 x22 x23 x25 x26 x27:Int)
theorem Xw (k:Int) (hN:L14.length<N) (hl:L14.length≤2097152):EM N (lsI L14 L16 L17 L19 L24 b18 b20 x0 x1 x2 x3 x4 x5 x6 x7 x8 x9 x10 x11 x12 x13 x15 x21 x22 x23 x25 x26 x27++[.int k])=some [.bool (jW L14 x12 x13 x4 k)]:=by
  simp only [lsI,List.cons_append,List.nil_append];show GU (std (IM N) N) (xOf _)=_;have e:∀ ls,IM N 73 [] ls=Aj N ls:=fun ls=>rfl
  simp only [GU,lq9,std,xOf,lsI,PXb,PXc,PXn,AJ];refine Ak (lJ (len:=L14.length) (fun i=>[.int (Co (pIs L14 2) i),.int (Co (pIs L14 1) i),.bool (pt L14 i),.int (i:Int)])
    (QX L14 x12 x13) [.int 0,.bool false] [.int 1,.int (am L14),.int (ins L14),.bool (DF L14)] ?_ ?_ N hN) ?_
  · intro self;simp only [PXb,PXc,PXn,AJ,Bg,ni];rfl
  · intro i self hi;simp only [PXb,PXc,AJ,BA (show i≤1099511627776 by omega),BQ hi,Ap hi,Ca,lG (pIs L14 2) (show i≤1099511627776 by omega),lG (pIs L14 1) (show i≤1099511627776 by omega)];unfold QX pIs Ym;simp only [Co,pt];cases h3:iLt 3 (atI L14 i 0) with
    | true=>rfl
    | false =>
      cases h1:atI L14 i 0==1 with
      | true =>
        rw [v7 h1];cases x12==(i:Int)+1<;>cases x13==(i:Int)+1<;>rfl
      | false=>cases h2:atI L14 i 0==2<;>rfl
  · unfold jW;simp only [e,D4];cases Bo (QX L14 x12 x13) L14.length 0 with
    | true=>rfl
    | false =>
      simp only [PXb,PXc,PXn,AJ];unfold two;cases btw x12 0 k<;>cases btw x13 0 k<;>try rfl
      cases x12==0<;>cases x13==0<;>cases x12==x13<;>try rfl
end
theorem vT (s n:Int):two s n=cond (!(s==0)) 1 0+cond (!(n==0)) 1 0:=by
 unfold two;cases s==0<;>cases n==0<;>rfl
theorem vn {s n:Int} {len:Nat} (h1:0≤s∧s≤(len:Int)) (h2:0≤n∧n≤(len:Int)) (hd:(s==n && !(s==0))=false):two s n=Co (Ym s n) len:=by
 have hs:iLe s (len:Int)=true:=by simp only [iLe,decide_eq_true_eq];omega
 have hn:iLe n (len:Int)=true:=by simp only [iLe,decide_eq_true_eq];omega
 unfold Ym;rw [qe (p:=fun i=>s==(i:Int)+1) (q:=fun i=>n==(i:Int)+1) len (fun j _ hp=>by
  have e1:s=(j:Int)+1:=by simpa using hp
  show (n==(j:Int)+1)=false;rw [beq_eq_false_iff_ne];intro e2;have e3:(s==n)=true:=by rw [beq_iff_eq];omega
  have e4:(s==0)=false:=by rw [beq_eq_false_iff_ne];omega
  rw [e3,e4] at hd;cases hd),jh s len h1.1,jh n len h2.1,hs,hn,Bool.and_true,Bool.and_true,vT]
theorem vL (x:Int):iLt 0 x = !iLt x 1:=by
 unfold iLt;rw [Bool.eq_iff_iff];simp only [decide_eq_true_eq,Bool.not_eq_true',decide_eq_false_iff_not];omega
theorem tt {L : Rows} {s n : Int} (h1 : 0 ≤ s ∧ s ≤ (L.length : Int)) (h2 : 0 ≤ n ∧ n ≤ (L.length : Int)) (hd : (s == n && !(s == 0)) = false) :
    (!Bo (QX L s n) L.length 0&&two s n==ins L) = !Bo (eE L s n) L.length 0:=by
  have h2c:=vn h1 h2 hd;rw [Bool.eq_iff_iff];simp only [zzk,Bool.not_eq_true',Jo,beq_iff_eq];constructor
  · intro ⟨ha,hb⟩ j _ hj;have hm:∀ j,j<L.length→pIs L 1 j=true→Ym s n j=true:=fun j hj hp=>by
      have:=ha j (Nat.zero_le _) (by omega);unfold QX at this;rw [hp] at this;simp only [Bool.or_eq_false_iff,Bool.true_and,Bool.not_eq_false'] at this;exact this.2
    have he:=rK L.length hm (by rw [← h2c,hb];rfl) j (by omega);have:=ha j (Nat.zero_le _) hj;unfold QX at this;unfold eE;rw [Bool.or_eq_false_iff] at this ⊢;exact ⟨this.1,by rw [he];simp⟩
  · intro ha;have hm:∀ j,j<L.length→pIs L 1 j=Ym s n j:=fun j hj=>by
      have:=ha j (Nat.zero_le _) (by omega);unfold eE at this;rw [Bool.or_eq_false_iff] at this;simpa using this.2
    refine ⟨fun j h0 hj=>?_,?_⟩
    · have:=ha j h0 hj;unfold eE at this;unfold QX;rw [Bool.or_eq_false_iff] at this ⊢;refine ⟨this.1,?_⟩;rw [hm j (by omega)];cases Ym s n j<;>rfl
    · rw [h2c];exact (ga L.length hm).symm
theorem xK (L:Rows) (s n wk k:Int) (hk:(L.length:Int)=k):jW L s n wk k=(btw s 0 k&&btw n 0 k&&ZC L s n wk):=by
 subst hk;unfold jW ZC;cases hs:btw s 0 (L.length:Int) with
 | false=>simp only [Bool.false_and,Bool.and_false]
 | true =>
  cases hn:btw n 0 (L.length:Int) with
  | false=>simp only [Bool.false_and,Bool.and_false]
  | true =>
   have h1:0≤s∧s≤(L.length:Int):=by simpa [btw,iLe] using hs
   have h2:0≤n∧n≤(L.length:Int):=by simpa [btw,iLe] using hn
   simp only [Bool.true_and];cases hd:(s==n && !(s==0)) with
   | true =>
    have:(!(s==0)&&s==n)=true:=by rw [Bool.and_comm];exact hd
    rw [this];simp only [Bool.or_true,Bool.not_true,Bool.false_and,Bool.and_false]
   | false =>
    have:(!(s==0)&&s==n)=false:=by rw [Bool.and_comm];exact hd
    rw [this,← tt h1 h2 hd];simp only [Bool.or_false,Bool.not_false,Bool.true_and];rw [show (wk==am L)=(am L==wk) from BEq.comm];cases hA:Bo (QX L s n) L.length 0 with
    | true=>rfl
    | false =>
     cases hB:two s n==ins L with
     | false=>rfl
     | true =>
      rw [beq_iff_eq.1 hB,vL];simp only [Bool.true_and,Bool.not_false,Bool.not_and]
def JQ (v:Int):Bool := !btw v 0 1000000000
def j9 (x1 x3 x5 x6 x7 x8 x9 x10 x21 x23 x25 x26:Int):Rows:=[[.int x1],[.int x3],[.int x5],[.int x6],[.int x7],[.int x8],[.int x9],[.int x10],[.int x21],[.int x23],[.int x25],[.int x26]]
section
variable (N:Nat) (L14 L16 L17 L19 L24:Rows) (b18 b20:Bool) (x0 x1 x2 x3 x4 x5 x6 x7 x8 x9 x10 x11 x12 x13 x15 x21 x22 x23 x25 x26 x27:Int)
theorem Yh (hN:2097152<N) (hl:L19.length≤1048576):EN N (lsI L14 L16 L17 L19 L24 b18 b20 x0 x1 x2 x3 x4 x5 x6 x7 x8 x9 x10 x11 x12 x13 x15 x21 x22 x23 x25 x26 x27)=some [.bool (!(KN JQ (j9 x1 x3 x5 x6 x7 x8 x9 x10 x21 x23 x25 x26)||KN JQ L19))]:=by
 show GX (std (IP N) N) (xOf (lsI ..))=_;have e:∀ ls,IP N 105 [] ls=DW N ls:=fun ls=>rfl
 rw [← mS];simp only [GX,lq9,std,xOf,lsI,PXb,PXc,PXn,AJ,j9];generalize hM:([PV.int x1]::[PV.int x3]::[PV.int x5]::[PV.int x6]::[PV.int x7]::[PV.int x8]::[PV.int x9]::[PV.int x10]::[PV.int x21]::[PV.int x23]::[PV.int x25]::[PV.int x26]::L19:Rows)=M;have hM2:M.length≤2097152:=by rw [← hM];simp only [List.length_cons];omega
 rw [GT (n:=M.length) (by omega) (by omega)];simp only [PXb,PXc,PXn,AJ];rw [Option.bind_assoc];refine Ak (Ci (len:=M.length) (GH fun i=>JQ (atI M i 0)) ?_ ?_ M.length 0 N (by omega) (by omega)) ?_
 ·intro self;simp only [PXb,PXc,PXn,AJ,Bg]
 ·intro i self hi;simp only [PXb,PXc,PXn,AJ,BA (show i≤1099511627776 by omega),BQ hi,Ap hi,GH,Ca,e,WJ,JQ];cases btw (atI M i 0) 0 1000000000<;>rfl
 ·unfold KN;rw [← J9];unfold Pi;cases BO (GH fun i=>JQ (atI M i 0)) M.length 0<;>rfl
end
def f9 (a3 x2:Int):Bool:=cond (a3==0) (x2==0) (btw x2 1 a3)
def Ux (s:ByteArray) (a1 a2 a3 a4 a5 a6 a7 a9 a10 a11 a12:Int) (La L14 L16 L17 L19 L24:Rows) (x0 x1 x2 x3 x4 x5 x6 x7 x8 x9 x10 x11 x12 x13 x15 x21 x22 x23 x25 x26 x27:Int):Bool :=
  L5 s a1 a2 a3 a4 a5 a6 a7 a9 a10 a11 a12 La==0&&(btw x0 1 2&&((L14.length:Int)==a1&&((L19.length:Int)==a1&&((L24.length:Int)==a1&&(!iLt 5 x27 &&
    (btw x12 0 a1&&(btw x13 0 a1&&(ZC L14 x12 x13 x4&&(btw x15 0 a1&&(btw x22 0 a1&&(Kq L16 a1&&(Kq L17 a1&&(f9 a3 x2&&(btw x11 0 (IntKind.i64.wrap (a4 - 1)) &&
      (!KN JQ (j9 x1 x3 x5 x6 x7 x8 x9 x10 x21 x23 x25 x26) && !KN JQ L19)))))))))))))))
theorem vf {a:Int} (h:0≤a):iLt 0 a = !(a==0):=by
 unfold iLt;rw [Bool.eq_iff_iff];simp only [decide_eq_true_eq,Bool.not_eq_true',beq_eq_false_iff_ne];omega
section
variable (N:Nat) (s:ByteArray) (a1 a2 a3 a4 a5 a6 a7 a9 a10 a11 a12:Int) (a8:Bool) (La:Rows) (L14 L16 L17 L19 L24:Rows) (b18 b20:Bool) (x0 x1 x2 x3 x4 x5 x6 x7 x8 x9 x10 x11 x12 x13 x15 x21 x22 x23 x25 x26 x27:Int)
theorem SX (hN:2097152<N) (hs:s.size≤1048576) (h14:L14.length≤1048576) (h16:L16.length≤1048576) (h17:L17.length≤1048576) (h19:L19.length≤1048576):BW N ([.str s,.int a1,.int a2,.int a3,.int a4,.int a5,.int a6,.int a7,.bool a8,.int a9,.int a10,.int a11,.int a12,.rows La]++lsI L14 L16 L17 L19 L24 b18 b20 x0 x1 x2 x3 x4 x5 x6 x7 x8 x9 x10 x11 x12 x13 x15 x21 x22 x23 x25 x26 x27)=some [.bool (Ux s a1 a2 a3 a4 a5 a6 a7 a9 a10 a11 a12 La L14 L16 L17 L19 L24 x0 x1 x2 x3 x4 x5 x6 x7 x8 x9 x10 x11 x12 x13 x15 x21 x22 x23 x25 x26 x27)]:=by
 simp only [lsI,List.cons_append,List.nil_append];show Iy (std (Cg N) N) (xOf _)=_;have e1:∀ ls,Cg N 8 [] ls=AP N ls:=fun ls=>rfl
 have e2:∀ ls,Cg N 73 [] ls=Aj N ls:=fun ls=>rfl
 have e3:∀ ls,Cg N 74 [] ls=EM N ls:=fun ls=>rfl
 have e4:∀ ls,Cg N 75 [] ls=DZ N ls:=fun ls=>rfl
 have e5:∀ ls,Cg N 76 [] ls=EN N ls:=fun ls=>rfl
 have l54:=Xw N L14 L16 L17 L19 L24 b18 b20 x0 x1 x2 x3 x4 x5 x6 x7 x8 x9 x10 x11 x12 x13 x15 x21 x22 x23 x25 x26 x27 a1 (by omega) (by omega);have l56:=Yh N L14 L16 L17 L19 L24 b18 b20 x0 x1 x2 x3 x4 x5 x6 x7 x8 x9 x10 x11 x12 x13 x15 x21 x22 x23 x25 x26 x27 (by omega) (by omega);simp only [lsI,List.cons_append,List.nil_append] at l54 l56;simp only [Iy,lq9,std,xOf,PXb,PXc,PXn,AJ,e1,e2,e3,e4,e5,VQ N s _ _ _ _ _ _ _ _ _ _ _ _ _ hN hs,D4,l54,l56,M0 N L16 _ (by omega) (by omega),M0 N L17 _ (by omega) (by omega)];unfold Ux f9;cases hc:L5 s a1 a2 a3 a4 a5 a6 a7 a9 a10 a11 a12 La==0<;>try rfl
 cases btw x0 1 2<;>try rfl
 cases h14:(L14.length:Int)==a1<;>try rfl
 cases (L19.length:Int)==a1<;>try rfl
 cases (L24.length:Int)==a1<;>try rfl
 cases iLt 5 x27<;>try rfl
 rw [xK L14 x12 x13 x4 a1 (beq_iff_eq.1 h14)];cases btw x12 0 a1<;>try rfl
 cases btw x13 0 a1<;>try rfl
 cases ZC L14 x12 x13 x4<;>try rfl
 cases btw x15 0 a1<;>try rfl
 cases btw x22 0 a1<;>try rfl
 cases Kq L16 a1<;>try rfl
 cases Kq L17 a1<;>try rfl
 cases a3==0<;>cases x2==0<;>cases btw x2 1 a3<;>rfl
end
def tJ (v:Bool) (L:Rows) (s n:Int) (x1 x2 x3 x10:Int):Int :=
 cond (!v) 0 (cond (iLt 0 x1&&iLe x1 x3) 3 (cond (Gx L s n&&((Ec L L.length).length:Int)==0) 1 (cond (iLt 0 x2&&iLe x2 x10) 2 0)))
theorem pQ {c:Int} {n:Nat} (hc:0≤c):iRg 0 (cond (iLt c (n:Int)) c (n:Int)) (n:Int)=true:=by
 cases h:iLt c (n:Int) with
 | true=>simp only [iLt,decide_eq_true_eq] at h;simp only [cond_true,iRg,decide_eq_true_eq];omega
 | false=>simp only [cond_false,iRg,decide_eq_true_eq];omega
def cut (L:Rows) (c:Int):Rows:=(L.take (cond (iLt c (L.length:Int)) c (L.length:Int)).toNat).drop (0:Int).toNat
def sR (s:ByteArray) (c:Int):ByteArray:=s.extract (0:Int).toNat (cond (iLt c (s.size:Int)) c (s.size:Int)).toNat
theorem sn (s:ByteArray) (c:Int):(sR s c).size≤s.size:=by
 unfold sR;rw [ByteArray.size_extract];omega
section
variable (N:Nat) (s:ByteArray) (a1 a2 a3 a4 a5 a6 a7 a9 a10 a11 a12:Int) (a8:Bool) (La:Rows) (L14 L16 L17 L19 L24:Rows) (b18 b20:Bool) (x0 x1 x2 x3 x4 x5 x6 x7 x8 x9 x10 x11 x12 x13 x15 x21 x22 x23 x25 x26 x27:Int)
theorem ZZ (hN : 2097152 < N) (hs : s.size ≤ 1048576) (h14 : L14.length ≤ 1048576) (h16 : L16.length ≤ 1048576) (h17 : L17.length ≤ 1048576) (h19 : L19.length ≤ 1048576) : Dh N ([.str s, .int a1, .int a2, .int a3, .int a4, .int a5, .int a6, .int a7, .bool a8, .int a9, .int a10, .int a11, .int a12, .rows La] ++ lsI L14 L16 L17 L19 L24 b18 b20 x0 x1 x2 x3 x4 x5 x6 x7 x8 x9 x10 x11 x12 x13 x15 x21 x22 x23 x25 x26 x27) =
    some [.int (tJ (Ux s a1 a2 a3 a4 a5 a6 a7 a9 a10 a11 a12 La L14 L16 L17 L19 L24 x0 x1 x2 x3 x4 x5 x6 x7 x8 x9 x10 x11 x12 x13 x15 x21 x22 x23 x25 x26 x27) L14 x12 x13 x1 x2 x3 x10)]:=by
  simp only [lsI,List.cons_append,List.nil_append];show Hi (std (Dr N) N) (xOf _)=_;have e1:∀ ls,Dr N 50 [] ls=BW N ls:=fun ls=>rfl
  have e2:∀ ls,Dr N 197 [] ls=BT N ls:=fun ls=>rfl
  have e3:∀ ls,Dr N 198 [] ls=Cy N ls:=fun ls=>rfl
  have l16:=SX N s a1 a2 a3 a4 a5 a6 a7 a9 a10 a11 a12 a8 La L14 L16 L17 L19 L24 b18 b20 x0 x1 x2 x3 x4 x5 x6 x7 x8 x9 x10 x11 x12 x13 x15 x21 x22 x23 x25 x26 x27 hN hs h14 h16 h17 h19;have l61:=bA N L14 L16 L17 L19 L24 b18 b20 x0 x1 x2 x3 x4 x5 x6 x7 x8 x9 x10 x11 x12 x13 x15 x21 x22 x23 x25 x26 x27 (by omega) (by omega);have l62:=gK N L14 L16 L17 L19 L24 b18 b20 x0 x1 x2 x3 x4 x5 x6 x7 x8 x9 x10 x11 x12 x13 x15 x21 x22 x23 x25 x26 x27 (by omega) (by omega);simp only [lsI,List.cons_append,List.nil_append] at l16 l61 l62;simp only [Hi,lq9,std,xOf,PXb,PXc,PXn,AJ,e1,e2,e3,l16,l61,l62,tJ];cases Ux s a1 a2 a3 a4 a5 a6 a7 a9 a10 a11 a12 La L14 L16 L17 L19 L24 x0 x1 x2 x3 x4 x5 x6 x7 x8 x9 x10 x11 x12 x13 x15 x21 x22 x23 x25 x26 x27<;>try rfl
  cases (iLt 0 x1&&iLe x1 x3)<;>try rfl
  cases Gx L14 x12 x13
  · cases (iLt 0 x2&&iLe x2 x10)<;>rfl
  · simp only [PXb,PXc,PXn,AJ];cases ((Ec L14 L14.length).length:Int)==0<;>cases (iLt 0 x2&&iLe x2 x10)<;>rfl
end
section
variable (N:Nat) (s:ByteArray) (a1 a2 a3 a4 a5 a6 a7 a9 a10 a11 a12:Int) (a8:Bool) (La:Rows) (L14 L16 L17 L19 L24:Rows) (b18 b20:Bool) (x0 x1 x2 x3 x4 x5 x6 x7 x8 x9 x10 x11 x12 x13 x15 x21 x22 x23 x25 x26 x27:Int)
def Cp (a4 x10 x11:Int):Int:=IntKind.i64.wrap (IntKind.i64.wrap (x10 * a4)+x11)
end
end Go.Px
end
