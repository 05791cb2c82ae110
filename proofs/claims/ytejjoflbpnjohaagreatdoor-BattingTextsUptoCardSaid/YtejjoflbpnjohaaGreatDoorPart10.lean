/- Part 10. -/
import Derived.Test.YtejjoflbpnjohaaGreatDoorPart07
import Derived.Test.YtejjoflbpnjohaaGreatDoorPart09
import Derived.Test.YtejjoflbpnjohaaGreatDoorPart08
set_option linter.unusedVariables false
set_option linter.unusedSimpArgs false
variable {s0 s1 s2 s3 s4 s5 s6 s7 s8 s9 s10 s11 s12 s13 s15 s21 s22 s23 s25 s26 s27:Int}
variable {s14 s16 s17 s19 s24:Go.Px.Rows}
variable {r1 r2 r3 r4 r5 r6 r7 r9 r10 r11 r12:Int}
variable {d0 d1 d2 d3 d4 d6 d7 d8 d9 d11:Int}
section
namespace Go.Px
set_option maxRecDepth 100000
def ZC:List Nat:=[2,3,0,0,0]
def Og (O:Alg) (x:Ags O):O.M:=let u3:=(O.o ⟨#[32,40,99,41]⟩);let u2:=(O.o ⟨#[32,40,107,41]⟩);let u1:=(O.x .i64 (x.I 4) (lq9 O 1));let u0:=(O.rS (x.L 1) u1 0);(O.b (O.i (O.l (x.I 4) (lq9 O 1)) O.k (O.l (O.m (x.L 1)) (x.I 4))) (O.a [.str (O.o ⟨#[]⟩)]) (O.j (O.t u1 (O.m (x.L 1))) (O.c (O.b (O.d (x.I 4) (x.I 2)) (O.j (O.r (O.u u0) 1) (O.j (O.r (O.u u3) 1) (O.a [.str (O.af u0 u3)]))) (O.a [.str u0])) fun c0=>let u4:=(O.w c0 0);(O.b (O.d (x.I 4) (x.I 3)) (O.j (O.r (O.u u4) 1) (O.j (O.r (O.u u2) 1) (O.a [.str (O.af u4 u2)]))) (O.a [.str u4])))))
def V8:Nat→Env:=eL []
def Kn:=oS ZC Og V8
def Xj:List Nat:=[0,0]
def MP (O:Alg) (x:Ags O):O.M:=let u1:=(O.o ⟨#[48,49,50,51,52,53,54,55,56,57]⟩);let u0:=(O.ai (O.l (lq9 O 20) (x.I 1)) (lq9 O 20) (x.I 1));(O.c (O.b (O.l (x.I 0) (lq9 O 0)) (O.a [.str (O.o ⟨#[45]⟩),.int (O.x .u64 (O.lit .u64 0) (O.au .u64 (x.I 0)))]) (O.a [.str (O.o ⟨#[]⟩),.int (O.au .u64 (x.I 0))])) fun c0=>(O.c (O.y (fun s1 c1=>let u4:=(O.w c1 1);let u3:=(O.g c1 0);let u2:=(O.u u4);(O.b (O.i (O.l (O.lit .u64 0) u3) O.k (O.l u2 (O.ai (O.l (lq9 O 1) u0) u0 (lq9 O 1)))) (O.j (O.al (O.an .u64 u3 (O.lit .u64 10)) (O.s .u64 (O.an .u64 u3 (O.lit .u64 10)) (O.lit .u64 1)) (O.u u1)) (O.j (O.r (O.u (O.ar u1 (O.an .u64 u3 (O.lit .u64 10)) (O.s .u64 (O.an .u64 u3 (O.lit .u64 10)) (O.lit .u64 1)))) 1) (O.j (O.r u2 1) (s1 [.int (O.aw .u64 u3 (O.lit .u64 10)),.str (O.af (O.ar u1 (O.an .u64 u3 (O.lit .u64 10)) (O.s .u64 (O.an .u64 u3 (O.lit .u64 10)) (O.lit .u64 1))) u4)])))) (O.a [.str u4]))) [.int (O.g c0 1),.str (O.o ⟨#[]⟩)]) fun c1=>(O.j (O.r (O.u (O.w c0 0)) 1) (O.j (O.r (O.u (O.w c1 0)) 1) (O.a [.str (O.af (O.w c0 0) (O.w c1 0))])))))
def UQ:Nat→Env:=eL []
def JY:=oS Xj MP UQ
def WG:List Nat:=[0]
def LJ (O:Alg) (x:Ags O):O.M:=(O.c (O.e 81 [] [.int (x.I 0),.int (lq9 O 1)]) fun c0=>(O.a [.str (O.w c0 0)]))
def My:Nat→Env:=eL [(81,JY)]
theorem Rp {N ls}:My N 81 [] ls=JY N ls:=id rfl
def Fc:=oS WG LJ My
def bC:List Nat:=[3,2,3,0,0,2,3,0,0]
def QO (O:Alg) (x:Ags O):O.M:=let u37:=(lq9 O 1);let u36:=(O.o ⟨#[]⟩);let u35:=(lq9 O 0);let u34:=(O.o ⟨#[10]⟩);let u33:=(O.o ⟨#[32,40]⟩);let u32:=(O.o ⟨#[58,32]⟩);let u30:=(O.o ⟨#[32,98,32]⟩);let u29:=(O.o ⟨#[32,99,32]⟩);let u19:=(O.r (O.u u34) 1);let u12:=(O.o ⟨#[32,78,79,84,32,79,85,84,10]⟩);let u8:=(O.o ⟨#[58,32,68,73,68,32,78,79,84,32,66,65,84,10]⟩);(O.c (O.e 46 [] (xr x [2,3,0,0] 1)) fun c0=>(O.b (O.h (O.d (O.g c0 0) u35)) (O.a [.str u36,.int (O.g c0 0)]) (O.c (O.e 46 [] (xr x [2,3,0,0] 5)) fun c1=>(O.b (O.h (O.d (O.g c1 0) u35)) (O.a [.str u36,.int (O.g c1 0)]) (O.c (O.y (fun s2 c2=>let u39:=(O.g c2 1);let u28:=(O.q (x.L 0) u39 6);let u27:=(O.q (x.L 0) u39 2);let u26:=(O.q (x.L 0) u39 1);let u25:=(O.q (x.L 0) u39 0);let u24:=(O.q (x.L 0) u39 8);let u23:=(O.q (x.L 0) u39 7);let u22:=(O.rB (x.L 0) u39 5);let u18:=(O.h u22);let u16:=(O.s .i64 u39 u37);(O.b (O.l u39 (O.m (x.L 0))) (O.j (O.t u39 (O.m (x.L 0))) (O.c (O.e 47 [] (ap O [.int u25,.int u37] (xr x [2,3,0,0] 1))) fun c3=>let u31:=(O.h (O.n c3 0));(O.c (O.b (O.h u31) (O.e 47 [] (ap O [.int u23,.int u35] (xr x [2,3,0,0] 5))) (O.a [.bool O.f])) fun c4=>let u10:=(O.i u31 O.k (O.h (O.n c4 0)));(O.c (O.b (O.h u10) (O.e 47 [] (ap O [.int u24,.int u35] (xr x [2,3,0,0] 5))) (O.a [.bool O.f])) fun c5=>let u6:=(O.i u10 O.k (O.h (O.n c5 0)));(O.c (O.b (O.h u6) (O.e 48 [] [.int u26]) (O.a [.bool O.f])) fun c6=>let u3:=(O.i u6 O.k (O.h (O.n c6 0)));(O.c (O.b (O.h u3) (O.e 48 [] [.int u27]) (O.a [.bool O.f])) fun c7=>(O.b (O.i u3 O.k (O.h (O.n c7 0))) (O.a [.int u35,.str u36,.int (lq9 O 2)]) (O.c (O.b u22 (O.e 49 [] [.int u28]) (O.a [.str u36])) fun c8=>(O.b (O.i u22 (O.aj (O.w c8 0) u36) O.f) (O.a [.int u35,.str u36,.int (lq9 O 3)]) (O.c (O.e 50 [] (ap O (xr x [2,3,0,0] 1) [.int u25])) fun c9=>let u21:=(O.af (O.w c2 0) (O.w c9 0));let u11:=(O.r (O.u u21) 1);(O.j (O.r (O.u (O.w c2 0)) 1) (O.j (O.r (O.u (O.w c9 0)) 1) (O.b (O.i (O.h (O.rB (x.L 0) u39 9)) u18 O.f) (O.j u11 (O.j (O.r (O.u u8) 1) (s2 [.str (O.af u21 u8),.int u16]))) (O.c (O.e 51 [] [.int u26]) fun c10=>let u15:=(O.af u32 (O.w c10 0));let u7:=(O.af u15 u33);(O.j (O.r (O.u u32) 1) (O.j (O.r (O.u (O.w c10 0)) 1) (O.j (O.r (O.u u15) 1) (O.j (O.r (O.u u33) 1) (O.c (O.e 51 [] [.int u27]) fun c11=>let u5:=(O.af u7 (O.w c11 0));let u4:=(O.af u5 (O.o ⟨#[41]⟩));let u2:=(O.af u21 u4);let u1:=(O.r (O.u u2) 1);(O.j (O.r (O.u u7) 1) (O.j (O.r (O.u (O.w c11 0)) 1) (O.j (O.r (O.u u5) 1) (O.j (O.r (O.u (O.o ⟨#[41]⟩)) 1) (O.j u11 (O.j (O.r (O.u u4) 1) (O.b u18 (O.j u1 (O.j (O.r (O.u u12) 1) (s2 [.str (O.af u2 u12),.int u16]))) (O.c (O.e 49 [] [.int u28]) fun c12=>let u17:=(O.af (O.o ⟨#[32]⟩) (O.w c12 0));let u0:=(O.af u2 u17);(O.j (O.r (O.u (O.o ⟨#[32]⟩)) 1) (O.j (O.r (O.u (O.w c12 0)) 1) (O.j u1 (O.j (O.r (O.u u17) 1) (O.c (O.b (O.h (O.d u24 u35)) (O.c (O.e 50 [] (ap O (xr x [2,3,0,0] 5) [.int u24])) fun c13=>let u13:=(O.af u29 (O.w c13 0));(O.j (O.r (O.u u29) 1) (O.j (O.r (O.u (O.w c13 0)) 1) (O.j (O.r (O.u u0) 1) (O.j (O.r (O.u u13) 1) (O.a [.str (O.af u0 u13)])))))) (O.a [.str u0])) fun c13=>let u38:=(O.w c13 0);let u20:=(O.r (O.u u38) 1);(O.b (O.h (O.d u23 u35)) (O.c (O.e 50 [] (ap O (xr x [2,3,0,0] 5) [.int u23])) fun c14=>let u14:=(O.af u30 (O.w c14 0));let u9:=(O.af u38 u14);(O.j (O.r (O.u u30) 1) (O.j (O.r (O.u (O.w c14 0)) 1) (O.j u20 (O.j (O.r (O.u u14) 1) (O.j (O.r (O.u u9) 1) (O.j u19 (s2 [.str (O.af u9 u34),.int u16])))))))) (O.j u20 (O.j u19 (s2 [.str (O.af u38 u34),.int u16])))))))))))))))))))))))))))))))))))) (O.a [.int u37,.str (O.w c2 0)]))) [.str u36,.int u35]) fun c2=>(O.b (O.aa c2 0) (O.a [.str (O.w c2 1),.int (O.g c2 2)]) (O.a [.str (O.w c2 1),.int u35])))))))
def Dc:Nat→Env:=eL [(46,KX),(47,JC),(48,IP),(49,Mq),(50,Kn),(51,Fc)]
theorem Uw {N ls}:Dc N 46 [] ls=KX N ls:=id rfl
theorem Tr {N ls}:Dc N 47 [] ls=JC N ls:=id rfl
theorem U0 {N ls}:Dc N 48 [] ls=IP N ls:=id rfl
theorem Ne {N ls}:Dc N 49 [] ls=Mq N ls:=id rfl
theorem U1 {N ls}:Dc N 50 [] ls=Kn N ls:=id rfl
theorem Km {N ls}:Dc N 51 [] ls=Fc N ls:=id rfl
def Qi:=oS bC QO Dc
def JU:List Nat:=[3,2,3,0,0,2,3,0,0]
def Dm (O:Alg) (x:Ags O):O.M:=(O.c (O.e 8 [] []) fun c0=>(O.b (O.h (O.n c0 0)) (O.a [.bool O.f]) (O.c (O.e 13 [] [.rows (x.L 0)]) fun c1=>(O.c (O.e 15 [] (xr x [2,3,0,0] 1)) fun c2=>(O.c (O.e 15 [] (xr x [2,3,0,0] 5)) fun c3=>(O.c (O.e 14 [] (ap O [.rows (O.p c1 0)] (ap O (cr O c2 [2,3,0,0] 0) (cr O c3 [2,3,0,0] 0)))) fun c4=>(O.c (O.e 15 [] (xr x [2,3,0,0] 1)) fun c5=>(O.c (O.e 15 [] (xr x [2,3,0,0] 5)) fun c6=>(O.c (O.e 16 [] (ap O [.rows (O.p c1 0)] (ap O (cr O c5 [2,3,0,0] 0) (cr O c6 [2,3,0,0] 0)))) fun c7=>(O.a [.bool (O.i (O.aj (O.w c4 0) (O.w c7 0)) (O.d (O.g c4 1) (O.g c7 1)) O.f)]))))))))))
def BC (N:Nat):Env:=fun f fns ls=>(cond (Nat.beq f 8&&Af fns []) (Kh N ls) (cond (Nat.beq f 13&&Af fns []) (O1 N ls) (cond (Nat.beq f 14&&Af fns []) (CJ N ls) (cond (Nat.beq f 15&&Af fns []) (Od N ls) (cond (Nat.beq f 16&&Af fns []) (Qi N ls) none)))))
theorem OY {N ls}:BC N 8 [] ls=Kh N ls:=id rfl
theorem PY {N ls}:BC N 13 [] ls=O1 N ls:=id rfl
theorem MK {N ls}:BC N 14 [] ls=CJ N ls:=id rfl
theorem N9 {N ls}:BC N 15 [] ls=Od N ls:=id rfl
theorem O9 {N ls}:BC N 16 [] ls=Qi N ls:=id rfl
def Dk:=oS JU Dm BC
def Ai (xs:List Inn):Rows:=xs.map Inn.ls
def dI:Inn:=⟨0,0,0,0,0,0,0,0,0,0,0,0,0,0,[],0,[],[],false,[],false,0,0,0,[],0,0,0⟩
def inn (xs:List Inn) (i:Nat):Inn:=xs.getD i dI
structure Mat where
 rules:Rul
 stage:Int
 first:Int
 follow:Bool
 inns:List Inn
 pen1:Int
 pen2:Int
 win:Int
 wside:Int
 margin:Int
def Mat.ls (m:Mat):List PV:=[.str m.rules.name,.int m.rules.side,.int m.rules.innings,.int m.rules.overs,.int m.rules.balls,.int m.rules.quota,.int m.rules.wide,.int m.rules.noball,.bool m.rules.freehit,.int m.rules.newball,.int m.rules.followon,.int m.rules.reviews,.int m.rules.outside,.rows m.rules.power,.int m.stage,.int m.first,.bool m.follow,.rows (Ai m.inns),.int m.pen1,.int m.pen2,.int m.win,.int m.wside,.int m.margin]
def Ul (x:Mat×Int):List PV:=[.str x.1.rules.name,.int x.1.rules.side,.int x.1.rules.innings,.int x.1.rules.overs,.int x.1.rules.balls,.int x.1.rules.quota,.int x.1.rules.wide,.int x.1.rules.noball,.bool x.1.rules.freehit,.int x.1.rules.newball,.int x.1.rules.followon,.int x.1.rules.reviews,.int x.1.rules.outside,.rows x.1.rules.power,.int x.1.stage,.int x.1.first,.bool x.1.follow,.rows (Ai x.1.inns),.int x.1.pen1,.int x.1.pen2,.int x.1.win,.int x.1.wside,.int x.1.margin,.int x.2]
theorem eD (xs:List Inn) (i:Nat):Aa (Ai xs) i=(match xs[i]? with | some s=>s.ls | none=>[]):=by
 unfold Aa Ai;rw [zzk,List.getElem?_map];cases xs[i]?<;>rfl
theorem Me (xs:List Inn) (i:Nat):inn xs i=(match xs[i]? with | some s=>s | none=>dI):=by
 unfold inn;rw [zzk];cases xs[i]?<;>rfl
theorem Z9 (xs:List Inn):(Ai xs).length=xs.length:=List.length_map _
theorem PXi : (∀ xs : List Inn, (Ai xs).length = xs.length) ∧ (∀ (xs : List Inn) (i : Nat), pvI (AB (Ai xs) i 0) = (inn xs i).side) ∧ (∀ (xs : List Inn) (i : Nat), pvI (AB (Ai xs) i 1) = (inn xs i).target) ∧ (∀ (xs : List Inn) (i : Nat), pvI (AB (Ai xs) i 2) = (inn xs i).overs) ∧ (∀ (xs : List Inn) (i : Nat), pvI (AB (Ai xs) i 3) = (inn xs i).runs) ∧
    (∀ (xs:List Inn) (i:Nat),pvI (AB (Ai xs) i 4)=(inn xs i).wickets)∧(∀ (xs:List Inn) (i:Nat),pvI (AB (Ai xs) i 5)=(inn xs i).wides)∧(∀ (xs:List Inn) (i:Nat),pvI (AB (Ai xs) i 6)=(inn xs i).noballs)∧(∀ (xs:List Inn) (i:Nat),pvI (AB (Ai xs) i 7)=(inn xs i).byes)∧(∀ (xs:List Inn) (i:Nat),pvI (AB (Ai xs) i 8)=(inn xs i).legbyes) ∧
    (∀ (xs:List Inn) (i:Nat),pvI (AB (Ai xs) i 9)=(inn xs i).pens)∧(∀ (xs:List Inn) (i:Nat),pvI (AB (Ai xs) i 10)=(inn xs i).complete)∧(∀ (xs:List Inn) (i:Nat),pvI (AB (Ai xs) i 11)=(inn xs i).inover)∧(∀ (xs:List Inn) (i:Nat),pvI (AB (Ai xs) i 12)=(inn xs i).striker)∧(∀ (xs:List Inn) (i:Nat),pvI (AB (Ai xs) i 13)=(inn xs i).other) ∧
    (∀ (xs:List Inn) (i:Nat),pvL (AB (Ai xs) i 14)=(inn xs i).batters)∧(∀ (xs:List Inn) (i:Nat),pvI (AB (Ai xs) i 15)=(inn xs i).bowler)∧(∀ (xs:List Inn) (i:Nat),pvL (AB (Ai xs) i 16)=(inn xs i).bowlers)∧(∀ (xs:List Inn) (i:Nat),pvL (AB (Ai xs) i 17)=(inn xs i).before)∧(∀ (xs:List Inn) (i:Nat),pvB (AB (Ai xs) i 18)=(inn xs i).fresh) ∧
    (∀ (xs:List Inn) (i:Nat),pvL (AB (Ai xs) i 19)=(inn xs i).bowled)∧(∀ (xs:List Inn) (i:Nat),pvB (AB (Ai xs) i 20)=(inn xs i).freehit)∧(∀ (xs:List Inn) (i:Nat),pvI (AB (Ai xs) i 21)=(inn xs i).ballage)∧(∀ (xs:List Inn) (i:Nat),pvI (AB (Ai xs) i 22)=(inn xs i).keeper)∧(∀ (xs:List Inn) (i:Nat),pvI (AB (Ai xs) i 23)=(inn xs i).outside) ∧
    (∀ (xs:List Inn) (i:Nat),pvL (AB (Ai xs) i 24)=(inn xs i).subs)∧(∀ (xs:List Inn) (i:Nat),pvI (AB (Ai xs) i 25)=(inn xs i).rev1)∧(∀ (xs:List Inn) (i:Nat),pvI (AB (Ai xs) i 26)=(inn xs i).rev2)∧(∀ (xs:List Inn) (i:Nat),pvI (AB (Ai xs) i 27)=(inn xs i).ending):=by
  refine ⟨Z9,?_,?_,?_,?_,?_,?_,?_,?_,?_,?_,?_,?_,?_,?_,?_,?_,?_,?_,?_,?_,?_,?_,?_,?_,?_,?_,?_,?_⟩
  all_goals (intro xs i;rw [Me];unfold AB;rw [eD];cases xs[i]?<;>rfl)
theorem Mat.eta (m:Mat):Mat.mk m.rules m.stage m.first m.follow m.inns m.pen1 m.pen2 m.win m.wside m.margin=m:=rfl
theorem PXk : (∀ m : Mat, m.ls = [.str m.rules.name, .int m.rules.side, .int m.rules.innings, .int m.rules.overs, .int m.rules.balls, .int m.rules.quota, .int m.rules.wide, .int m.rules.noball, .bool m.rules.freehit, .int m.rules.newball, .int m.rules.followon, .int m.rules.reviews, .int m.rules.outside, .rows m.rules.power, .int m.stage, .int m.first, .bool m.follow, .rows (Ai m.inns), .int m.pen1, .int m.pen2, .int m.win, .int m.wside, .int m.margin]) ∧
    (∀ x:Mat×Int,Ul x=[.str x.1.rules.name,.int x.1.rules.side,.int x.1.rules.innings,.int x.1.rules.overs,.int x.1.rules.balls,.int x.1.rules.quota,.int x.1.rules.wide,.int x.1.rules.noball,.bool x.1.rules.freehit,.int x.1.rules.newball,.int x.1.rules.followon,.int x.1.rules.reviews,.int x.1.rules.outside,.rows x.1.rules.power,.int x.1.stage,.int x.1.first,.bool x.1.follow,.rows (Ai x.1.inns),.int x.1.pen1,.int x.1.pen2,.int x.1.win,.int x.1.wside,.int x.1.margin,.int x.2]) ∧
    (∀ m:Mat,Mat.mk m.rules m.stage m.first m.follow m.inns m.pen1 m.pen2 m.win m.wside m.margin=m):=⟨fun _=>rfl,fun _=>rfl,fun _=>rfl⟩
theorem mE:∀ (ps r pre:List PV),r.length=ps.length→BE (pre++r) pre.length ps=pre++ps
 | [],r,pre,h=>by
  have:r=[]:=List.eq_nil_of_length_eq_zero h;subst this;rfl
 | p::ps,[],pre,h=>by cases h
 | p::ps,a::r,pre,h=>by
  have ih:=mE ps r (pre++[p]) (by simpa using h);simp only [List.length_append,List.length_cons,List.length_nil,List.append_assoc,List.cons_append,List.nil_append] at ih;unfold BE;rw [List.set_append_right _ _ (Nat.le_refl _),Nat.sub_self];exact ih
theorem vT (a s:Inn):BE a.ls 0 s.ls=s.ls:=mE s.ls a.ls [] rfl
theorem tg (a:Inn) (e:Int):BE a.ls 27 [.int e]=Inn.ls { a with ending:=e }:=by
 show a.ls.set 27 (.int e)=_;rfl
theorem uJ {xs:List Inn} {i:Nat} (h:i<xs.length) (s:Inn):(Ai xs).set i (BE (Aa (Ai xs) i) 0 s.ls)=Ai (xs.set i s):=by
 have e:Aa (Ai xs) i=(xs[i]).ls:=by rw [eD,zzn h]
 rw [e,vT];exact List.map_set.symm
theorem si {xs:List Inn} {i:Nat} (h:i<xs.length) (e:Int):(Ai xs).set i (BE (Aa (Ai xs) i) 27 [.int e])=Ai (xs.set i { inn xs i with ending:=e }):=by
 have e1:Aa (Ai xs) i=(inn xs i).ls:=by rw [eD,Me,zzn h]
 rw [e1,tg];exact List.map_set.symm
theorem tz (xs:List Inn) (s:Inn):Ai xs++[s.ls]=Ai (xs++[s]):=by
 show List.map Inn.ls xs++List.map Inn.ls [s]=List.map Inn.ls (xs++[s]);exact List.map_append.symm
theorem tZ (xs:List Inn) (i:Nat) (s:Inn):(Ai xs).set i (BE (Aa (Ai xs) i) 0 s.ls)=Ai (xs.set i s):=by
 by_cases h:i<xs.length
 ·exact uJ h s
 ·rw [List.set_eq_of_length_le (by rw [Z9];omega),List.set_eq_of_length_le (by omega)]
theorem lF (xs:List Inn) (i:Nat) (e:Int):(Ai xs).set i (BE (Aa (Ai xs) i) 27 [.int e])=Ai (xs.set i { inn xs i with ending:=e }):=by
 by_cases h:i<xs.length
 ·exact si h e
 ·rw [List.set_eq_of_length_le (by rw [Z9];omega),List.set_eq_of_length_le (by omega)]
theorem PXr : (∀ (xs : List Inn) (x0 x1 x2 x3 x4 x5 x6 x7 x8 x9 x10 x11 x12 x13 x15 x21 x22 x23 x25 x26 x27 : Int) (x18 x20 : Bool) (x14 x16 x17 x19 x24 : Rows), Ai xs ++ [([.int x0, .int x1, .int x2, .int x3, .int x4, .int x5, .int x6, .int x7, .int x8, .int x9, .int x10, .int x11, .int x12, .int x13, .rows x14, .int x15, .rows x16, .rows x17, .bool x18, .rows x19, .bool x20, .int x21, .int x22, .int x23, .rows x24, .int x25, .int x26, .int x27] : List PV)] = Ai (xs ++ [⟨x0, x1, x2, x3, x4, x5, x6, x7, x8, x9, x10, x11, x12, x13, x14, x15, x16, x17, x18, x19, x20, x21, x22, x23, x24, x25, x26, x27⟩])) ∧ (∀ (xs : List Inn) (i : Nat) (x0 x1 x2 x3 x4 x5 x6 x7 x8 x9 x10 x11 x12 x13 x15 x21 x22 x23 x25 x26 x27 : Int) (x18 x20 : Bool) (x14 x16 x17 x19 x24 : Rows), (Ai xs).set i (BE (Aa (Ai xs) i) 0 [.int x0, .int x1, .int x2, .int x3, .int x4, .int x5, .int x6, .int x7, .int x8, .int x9, .int x10, .int x11, .int x12, .int x13, .rows x14, .int x15, .rows x16, .rows x17, .bool x18, .rows x19, .bool x20, .int x21, .int x22, .int x23, .rows x24, .int x25, .int x26, .int x27]) = Ai (xs.set i ⟨x0, x1, x2, x3, x4, x5, x6, x7, x8, x9, x10, x11, x12, x13, x14, x15, x16, x17, x18, x19, x20, x21, x22, x23, x24, x25, x26, x27⟩)) ∧
    (∀ (xs:List Inn) (i:Nat) (e:Int),(Ai xs).set i (BE (Aa (Ai xs) i) 27 [.int e])=Ai (xs.set i { inn xs i with ending:=e })) :=
  ⟨fun xs x0 x1 x2 x3 x4 x5 x6 x7 x8 x9 x10 x11 x12 x13 x15 x21 x22 x23 x25 x26 x27 x18 x20 x14 x16 x17 x19 x24=>tz xs ⟨x0,x1,x2,x3,x4,x5,x6,x7,x8,x9,x10,x11,x12,x13,x14,x15,x16,x17,x18,x19,x20,x21,x22,x23,x24,x25,x26,x27⟩,fun xs i x0 x1 x2 x3 x4 x5 x6 x7 x8 x9 x10 x11 x12 x13 x15 x21 x22 x23 x25 x26 x27 x18 x20 x14 x16 x17 x19 x24=>tZ xs i ⟨x0,x1,x2,x3,x4,x5,x6,x7,x8,x9,x10,x11,x12,x13,x14,x15,x16,x17,x18,x19,x20,x21,x22,x23,x24,x25,x26,x27⟩,lF⟩
theorem Gn {N:Nat} {s18 s20:Bool} (h:Fit s14 s16 s17 s19 s24):Ay N [.int s0,.int s1,.int s2,.int s3,.int s4,.int s5,.int s6,.int s7,.int s8,.int s9,.int s10,.int s11,.int s12,.int s13,.rows s14,.int s15,.rows s16,.rows s17,.bool s18,.rows s19,.bool s20,.int s21,.int s22,.int s23,.rows s24,.int s25,.int s26,.int s27]=some [.int s0,.int s1,.int s2,.int s3,.int s4,.int s5,.int s6,.int s7,.int s8,.int s9,.int s10,.int s11,.int s12,.int s13,.rows s14,.int s15,.rows s16,.rows s17,.bool s18,.rows s19,.bool s20,.int s21,.int s22,.int s23,.rows s24,.int s25,.int s26,.int s27]:=by
 show M5 (std (G5 N) N) (xOf _)=_;simp only [M5,Lm,NR,NL,lq9,std,xOf,PXb,PXc,PXn,PXm,Nat.reduceAdd,Int.reduceBEq,AZ,Ag,Ac,Bf h.bt (show 1≤4096 by omega),Bf h.bw' (show 8≤4096 by omega),Bf h.bf (show 8≤4096 by omega),Bf h.bd (show 8≤4096 by omega),Bf h.sb (show 1≤4096 by omega)]
theorem HD {N:Nat} {s18 s20:Bool} {p:Int}  : A0 N [.int s0,.int s1,.int s2,.int s3,.int s4,.int s5,.int s6,.int s7,.int s8,.int s9,.int s10,.int s11,.int s12,.int s13,.rows s14,.int s15,.rows s16,.rows s17,.bool s18,.rows s19,.bool s20,.int s21,.int s22,.int s23,.rows s24,.int s25,.int s26,.int s27,.int p]=some [.bool (inR p s14.length)]:=by
 show Jt (std (Rm N) N) (xOf _)=_;simp only [Jt,lq9,std,xOf,PXb,PXc,PXn,PXm,Nat.reduceAdd,Int.reduceBEq];rfl
def Aj (s:Inn) (d:Del):Inn :=
  let odd := !(d.runs.tmod 2==0) != d.crossed
  let t:Inn:=cond odd { s with striker:=s.other,other:=s.striker } s
  let k:Bool:=d.how==0
  cond (!k&&(d.victim==1 && !(s.striker==0)))
    { t with striker:=cond odd t.striker 0,other:=cond odd 0 t.other,batters:=cond (inR s.striker s.batters.length) (ON s.batters s.striker 2) s.batters,wickets:=IntKind.i64.wrap (s.wickets+1) }
    (cond (!k&&(d.victim==2 && !(s.other==0)))
      { t with striker:=cond odd 0 t.striker,other:=cond odd t.other 0,batters:=cond (inR s.other s.batters.length) (ON s.batters s.other 2) s.batters,wickets:=IntKind.i64.wrap (s.wickets+1) }
      t)
theorem gq {N:Nat} {s18 s20:Bool} {d5 d10:Bool} (h:Fit s14 s16 s17 s19 s24):Jm N [.int s0,.int s1,.int s2,.int s3,.int s4,.int s5,.int s6,.int s7,.int s8,.int s9,.int s10,.int s11,.int s12,.int s13,.rows s14,.int s15,.rows s16,.rows s17,.bool s18,.rows s19,.bool s20,.int s21,.int s22,.int s23,.rows s24,.int s25,.int s26,.int s27,.int d0,.int d1,.int d2,.int d3,.int d4,.bool d5,.int d6,.int d7,.int d8,.int d9,.bool d10,.int d11]=some (Aj (⟨s0,s1,s2,s3,s4,s5,s6,s7,s8,s9,s10,s11,s12,s13,s14,s15,s16,s17,s18,s19,s20,s21,s22,s23,s24,s25,s26,s27⟩:Inn) (⟨d0,d1,d2,d3,d4,d5,d6,d7,d8,d9,d10,d11⟩:Del)).ls:=by
 show M8 (std (Jr N) N) (xOf _)=_;simp only [M8,SJ,QQ,lq9,std,xOf,PXb,PXc,PXn,PXm,Nat.reduceAdd,Int.reduceBEq,Gn h,HD,vR h.bt];unfold Aj;cases d5<;>cases d2.tmod 2==0<;>cases d6==0<;>cases d7==1<;>cases d7==2<;>cases s12==0<;>cases s13==0<;>rfl
def IJ (s:Inn):Inn:={ s with striker:=s.other,other:=s.striker }
theorem aW {N:Nat} {s18 s20:Bool} (h:Fit s14 s16 s17 s19 s24):Fx N [.int s0,.int s1,.int s2,.int s3,.int s4,.int s5,.int s6,.int s7,.int s8,.int s9,.int s10,.int s11,.int s12,.int s13,.rows s14,.int s15,.rows s16,.rows s17,.bool s18,.rows s19,.bool s20,.int s21,.int s22,.int s23,.rows s24,.int s25,.int s26,.int s27]=some (IJ (⟨s0,s1,s2,s3,s4,s5,s6,s7,s8,s9,s10,s11,s12,s13,s14,s15,s16,s17,s18,s19,s20,s21,s22,s23,s24,s25,s26,s27⟩:Inn)).ls:=by
 show I5 (std (KU N) N) (xOf _)=_;simp only [I5,Pa,lq9,std,xOf,PXb,PXc,PXn,PXm,Nat.reduceAdd,Int.reduceBEq,Gn h];rfl
theorem Zq {N:Nat} {v:Int}  : Cp N [.int v]=some [.bool (!(v==0))]:=by
 show Lt (std (O0 N) N) (xOf _)=_;rfl
theorem YL {N:Nat} {v:Int}  : EV N [.int v]=some [.bool (!(v==0))]:=by
 show KQ (std (Nh N) N) (xOf _)=_;rfl
theorem Ua {N:Nat} {s18 s20:Bool} (h:s14.length≤1048576) (hN:2097152<N):B2 N [.int s0,.int s1,.int s2,.int s3,.int s4,.int s5,.int s6,.int s7,.int s8,.int s9,.int s10,.int s11,.int s12,.int s13,.rows s14,.int s15,.rows s16,.rows s17,.bool s18,.rows s19,.bool s20,.int s21,.int s22,.int s23,.rows s24,.int s25,.int s26,.int s27]=some [.bool (Ca s14)]:=by
 show En (std (E5 N) N) (xOf _)=_;simp only [En,GN,lq9,std,xOf,PXb,PXc,PXn,AG];rw [show Ca s14=iLe 0 (NB (fun i => !(atI s14 i 0==0)) s14.length) from (Hp _ _).symm];rw [Option.bind_assoc];refine AU (Bp (len:=s14.length) (Ef fun i => !(atI s14 i 0==0)) ?_ ?_ s14.length 0 N (by omega) (by omega)) ?_
 ·intro self;simp only [PXb,PXc,PXn,AG,A2]
 ·intro i self hi;simp only [PXb,PXc,PXn,AG,Ax (show i≤1099511627776 by omega),Av hi,AN hi,Ef,DU,GN,Zq];cases atI s14 i 0==0<;>rfl
 ·unfold NB;cases A5 (Ef fun i => !(atI s14 i 0==0)) s14.length 0<;>rfl
theorem bK {N:Nat} {s18 s20:Bool} (h:s14.length≤1048576) (hN:2097152<N):Fi N [.int s0,.int s1,.int s2,.int s3,.int s4,.int s5,.int s6,.int s7,.int s8,.int s9,.int s10,.int s11,.int s12,.int s13,.rows s14,.int s15,.rows s16,.rows s17,.bool s18,.rows s19,.bool s20,.int s21,.int s22,.int s23,.rows s24,.int s25,.int s26,.int s27]=some [.bool (Ca s14)]:=by
 show Ig (std (KS N) N) (xOf _)=_;simp only [Ig,FL,lq9,std,xOf,PXb,PXc,PXn,AG];rw [show Ca s14=iLe 0 (NB (fun i => !(atI s14 i 0==0)) s14.length) from (Hp _ _).symm];rw [Option.bind_assoc];refine AU (Bp (len:=s14.length) (Ef fun i => !(atI s14 i 0==0)) ?_ ?_ s14.length 0 N (by omega) (by omega)) ?_
 ·intro self;simp only [PXb,PXc,PXn,AG,A2]
 ·intro i self hi;simp only [PXb,PXc,PXn,AG,Ax (show i≤1099511627776 by omega),Av hi,AN hi,Ef,DU,FL,YL];cases atI s14 i 0==0<;>rfl
 ·unfold NB;cases A5 (Ef fun i => !(atI s14 i 0==0)) s14.length 0<;>rfl
theorem Su {N:Nat} {s18 s20:Bool} (h:s14.length≤1048576) (hN:2097152<N):BO N [.int s0,.int s1,.int s2,.int s3,.int s4,.int s5,.int s6,.int s7,.int s8,.int s9,.int s10,.int s11,.int s12,.int s13,.rows s14,.int s15,.rows s16,.rows s17,.bool s18,.rows s19,.bool s20,.int s21,.int s22,.int s23,.rows s24,.int s25,.int s26,.int s27]=some [.bool (Gq s14 s12 s13)]:=by
 show D3 (std (ES N) N) (xOf _)=_;simp only [D3,OT,lq9,std,xOf,PXb,PXc,PXn,PXm,Nat.reduceAdd,Int.reduceBEq,Ua h hN];rfl
theorem fq {N:Nat} {s18 s20:Bool} (h:s14.length≤1048576) (hN:2097152<N):Ck N [.int s0,.int s1,.int s2,.int s3,.int s4,.int s5,.int s6,.int s7,.int s8,.int s9,.int s10,.int s11,.int s12,.int s13,.rows s14,.int s15,.rows s16,.rows s17,.bool s18,.rows s19,.bool s20,.int s21,.int s22,.int s23,.rows s24,.int s25,.int s26,.int s27]=some [.rows (DW s14 s14.length)]:=by
 show Fa (std (Mz N) N) (xOf _)=_;simp only [Fa,lq9,std,xOf,PXb,PXc,PXn,AG];refine AU (ED (len:=s14.length) (fun i=>[.rows (DW s14 i),.int (i:Int)]) [.rows (DW s14 s14.length)] ?_ ?_ N (by omega)) rfl
 ·intro self;simp only [PXb,PXc,PXn,AG,A2]
 ·intro i self hi;have h2:(DW s14 i++[[PV.int ((i:Int)+1)]]).length≤4194304:=by have:=Z7 s14 i;simp;omega
  simp only [PXb,PXc,PXn,AG,Ax (show i≤1099511627776 by omega),Av hi,AN hi,DU,DW,DV h2 (show 8≤4096 by omega)];cases (atI s14 i 0==0||atI s14 i 0==3)<;>rfl
def Ol (s:Inn) (p q:Int):Inn×Int :=
  cond (Ca s.batters) (s,1) (cond (!inR p s.batters.length || !inR q s.batters.length) (s,3) (cond (p==q) (s,4)
    ({ s with batters:=ON (ON s.batters p 1) q 1,striker:=p,other:=q },0)))
theorem fx {N:Nat} {s18 s20:Bool} {p:Int} {q:Int} (h:Fit s14 s16 s17 s19 s24) (hN:2097152<N):H5 N [.int s0,.int s1,.int s2,.int s3,.int s4,.int s5,.int s6,.int s7,.int s8,.int s9,.int s10,.int s11,.int s12,.int s13,.rows s14,.int s15,.rows s16,.rows s17,.bool s18,.rows s19,.bool s20,.int s21,.int s22,.int s23,.rows s24,.int s25,.int s26,.int s27,.int p,.int q]=some (BM (Ol (⟨s0,s1,s2,s3,s4,s5,s6,s7,s8,s9,s10,s11,s12,s13,s14,s15,s16,s17,s18,s19,s20,s21,s22,s23,s24,s25,s26,s27⟩:Inn) p q)):=by
 show LI (std (F5 N) N) (xOf _)=_;generalize hres:(some (BM (Ol (⟨s0,s1,s2,s3,s4,s5,s6,s7,s8,s9,s10,s11,s12,s13,s14,s15,s16,s17,s18,s19,s20,s21,s22,s23,s24,s25,s26,s27⟩:Inn) p q)):Option (List PV))=RR;simp only [LI,Rj,Pm,Pj,lq9,std,xOf,PXb,PXc,PXn,PXm,Nat.reduceAdd,Int.reduceBEq,Gn h,Ua h.bt hN,HD];subst hres;simp only [Ol];cases Ca s14<;>try rfl
 cases hp:inR p s14.length<;>cases hq:inR q s14.length<;>try rfl
 rw [LO hp h.bt,LO hq h.bt];cases p==q<;>rfl
def Je (s:Inn) (p:Int):Int :=
 cond (!inR p s.batters.length) 3 (cond (!Gq s.batters s.striker s.other||atI s.batters (ix p) 0==1) 4 (cond (atI s.batters (ix p) 0==2) 5 0))
theorem Xh {N:Nat} {s18 s20:Bool} {p:Int} (h:s14.length≤1048576) (hN:2097152<N):Dh N [.int s0,.int s1,.int s2,.int s3,.int s4,.int s5,.int s6,.int s7,.int s8,.int s9,.int s10,.int s11,.int s12,.int s13,.rows s14,.int s15,.rows s16,.rows s17,.bool s18,.rows s19,.bool s20,.int s21,.int s22,.int s23,.rows s24,.int s25,.int s26,.int s27,.int p]=some [.int (Je (⟨s0,s1,s2,s3,s4,s5,s6,s7,s8,s9,s10,s11,s12,s13,s14,s15,s16,s17,s18,s19,s20,s21,s22,s23,s24,s25,s26,s27⟩:Inn) p)]:=by
 show Mt (std (Jv N) N) (xOf _)=_;generalize hres:(some [.int (Je (⟨s0,s1,s2,s3,s4,s5,s6,s7,s8,s9,s10,s11,s12,s13,s14,s15,s16,s17,s18,s19,s20,s21,s22,s23,s24,s25,s26,s27⟩:Inn) p)]:Option (List PV))=RR;simp only [Mt,Pl,QN,lq9,std,xOf,PXb,PXc,PXn,PXm,Nat.reduceAdd,Int.reduceBEq,HD,Su h hN];subst hres;simp only [Je];cases hp:inR p s14.length<;>try rfl
 rw [LO hp h];cases Gq s14 s12 s13<;>try rfl
 simp only [PXb,PXc,PXn,PXm,Nat.reduceAdd,Int.reduceBEq,atI,ix]
theorem We {s:Inn} {p:Int} (h:(Je s p==0)=true):inR p s.batters.length=true:=by
 unfold Je at h;cases hp:inR p s.batters.length with
 | true=>rfl
 | false=>rw [hp] at h;cases h
def Ka (s:Inn) (p:Int):Inn×Int :=
 cond (Je s p==0) ({ s with batters:=ON s.batters p 1,striker:=cond (s.striker==0) p s.striker,other:=cond (s.striker==0) s.other p },0) (s,Je s p)
def E6 (s:Inn) (p:Int):Inn×Int :=
 cond (Je s p==0) ({ s with batters:=ON s.batters p 2,wickets:=IntKind.i64.wrap (s.wickets+1) },0) (s,Je s p)
theorem dr {N:Nat} {s18 s20:Bool} {p:Int} (h:Fit s14 s16 s17 s19 s24) (hN:2097152<N):Gu N [.int s0,.int s1,.int s2,.int s3,.int s4,.int s5,.int s6,.int s7,.int s8,.int s9,.int s10,.int s11,.int s12,.int s13,.rows s14,.int s15,.rows s16,.rows s17,.bool s18,.rows s19,.bool s20,.int s21,.int s22,.int s23,.rows s24,.int s25,.int s26,.int s27,.int p]=some (BM (Ka (⟨s0,s1,s2,s3,s4,s5,s6,s7,s8,s9,s10,s11,s12,s13,s14,s15,s16,s17,s18,s19,s20,s21,s22,s23,s24,s25,s26,s27⟩:Inn) p)):=by
 show Jp (std (Ht N) N) (xOf _)=_;generalize hres:(some (BM (Ka (⟨s0,s1,s2,s3,s4,s5,s6,s7,s8,s9,s10,s11,s12,s13,s14,s15,s16,s17,s18,s19,s20,s21,s22,s23,s24,s25,s26,s27⟩:Inn) p)):Option (List PV))=RR;simp only [Jp,Qq,Qa,lq9,std,xOf,PXb,PXc,PXn,PXm,Nat.reduceAdd,Int.reduceBEq,Gn h,Xh h.bt hN];subst hres;simp only [Ka];cases hm:Je (⟨s0,s1,s2,s3,s4,s5,s6,s7,s8,s9,s10,s11,s12,s13,s14,s15,s16,s17,s18,s19,s20,s21,s22,s23,s24,s25,s26,s27⟩:Inn) p==0<;>try rfl
 rw [LO (We hm) h.bt];cases s12==0<;>rfl
theorem ZZ {N:Nat} {s18 s20:Bool} {p:Int} (h:Fit s14 s16 s17 s19 s24) (hN:2097152<N):E9 N [.int s0,.int s1,.int s2,.int s3,.int s4,.int s5,.int s6,.int s7,.int s8,.int s9,.int s10,.int s11,.int s12,.int s13,.rows s14,.int s15,.rows s16,.rows s17,.bool s18,.rows s19,.bool s20,.int s21,.int s22,.int s23,.rows s24,.int s25,.int s26,.int s27,.int p]=some (BM (E6 (⟨s0,s1,s2,s3,s4,s5,s6,s7,s8,s9,s10,s11,s12,s13,s14,s15,s16,s17,s18,s19,s20,s21,s22,s23,s24,s25,s26,s27⟩:Inn) p)):=by
 show He (std (Ds N) N) (xOf _)=_;generalize hres:(some (BM (E6 (⟨s0,s1,s2,s3,s4,s5,s6,s7,s8,s9,s10,s11,s12,s13,s14,s15,s16,s17,s18,s19,s20,s21,s22,s23,s24,s25,s26,s27⟩:Inn) p)):Option (List PV))=RR;simp only [He,PH,NX,PJ,lq9,std,xOf,PXb,PXc,PXn,PXm,Nat.reduceAdd,Int.reduceBEq,Gn h,Xh h.bt hN,HD];subst hres;simp only [E6];cases hm:Je (⟨s0,s1,s2,s3,s4,s5,s6,s7,s8,s9,s10,s11,s12,s13,s14,s15,s16,s17,s18,s19,s20,s21,s22,s23,s24,s25,s26,s27⟩:Inn) p==0<;>try rfl
 have hk:inR p s14.length=true:=We hm;rw [LO hk h.bt,hk];rfl
def FU (s:Inn) (p:Int) (hurt:Bool):Inn×Int :=
  cond (!inR p s.batters.length) (s,3) (cond (s.striker==0||s.other==0) (s,6) (cond (!(p==s.striker) && !(p==s.other)) (s,4)
    (cond (hurt&&((DW s.batters s.batters.length).length:Int)==0) (s,19)
      ({ s with striker:=cond (p==s.striker) 0 s.striker,other:=cond (p==s.striker) s.other 0,batters:=ON s.batters p (cond hurt 3 2),wickets:=cond hurt s.wickets (IntKind.i64.wrap (s.wickets+1)) },0))))
theorem dA {N:Nat} {s18 s20:Bool} {p:Int} {b:Bool} (h:Fit s14 s16 s17 s19 s24) (hN:2097152<N):Fo N [.int s0,.int s1,.int s2,.int s3,.int s4,.int s5,.int s6,.int s7,.int s8,.int s9,.int s10,.int s11,.int s12,.int s13,.rows s14,.int s15,.rows s16,.rows s17,.bool s18,.rows s19,.bool s20,.int s21,.int s22,.int s23,.rows s24,.int s25,.int s26,.int s27,.int p,.bool b]=some (BM (FU (⟨s0,s1,s2,s3,s4,s5,s6,s7,s8,s9,s10,s11,s12,s13,s14,s15,s16,s17,s18,s19,s20,s21,s22,s23,s24,s25,s26,s27⟩:Inn) p b)):=by
 show Ix (std (ER N) N) (xOf _)=_;generalize hres:(some (BM (FU (⟨s0,s1,s2,s3,s4,s5,s6,s7,s8,s9,s10,s11,s12,s13,s14,s15,s16,s17,s18,s19,s20,s21,s22,s23,s24,s25,s26,s27⟩:Inn) p b)):Option (List PV))=RR;simp only [Ix,PM,Pr,OP,lq9,std,xOf,PXb,PXc,PXn,PXm,Nat.reduceAdd,Int.reduceBEq,Gn h,HD,fq h.bt hN];subst hres;simp only [FU];cases hp:inR p s14.length<;>try rfl
 rw [LO hp h.bt];cases s12==0<;>cases s13==0<;>try rfl
 cases p==s12<;>cases p==s13<;>cases b<;>try rfl
 all_goals (simp only [PXb,PXc,PXn,PXm,Nat.reduceAdd,Int.reduceBEq];cases ((DW s14 s14.length).length:Int)==0<;>rfl)
def btw (a b c:Int):Bool:=iLe b a&&iLe a c
theorem Dq (N:Nat) (a b c:Int):Ak N [.int a,.int b,.int c]=some [.bool (btw a b c)]:=by
 show some [PV.bool (cond (iLe b a) (iLe a c) false)]=_;rw [dC];rfl
theorem Lb (N:Nat) (a b c:Int):CU N [.int a,.int b,.int c]=some [.bool (btw a b c)]:=by
 show some [PV.bool (cond (iLe b a) (iLe a c) false)]=_;rw [dC];rfl
def OV (x1 x2 x3 x4 x5 x6 x7 x9 x10 x11 x12:Int):Bool:=btw x1 2 11&&btw x2 1 2&&btw x3 0 90&&btw x4 4 8&&btw x5 0 90&&btw x6 1 5&&btw x7 1 5&&btw x9 0 200&&btw x10 0 1000&&btw x11 0 9&&btw x12 0 11
theorem Ze (N : Nat) (x0 : ByteArray) (x1 x2 x3 x4 x5 x6 x7 x9 x10 x11 x12 : Int) (x8 : Bool) (x13 : Rows) :
   F2 N [.str x0,.int x1,.int x2,.int x3,.int x4,.int x5,.int x6,.int x7,.bool x8,.int x9,.int x10,.int x11,.int x12,.rows x13]=some [.bool (OV x1 x2 x3 x4 x5 x6 x7 x9 x10 x11 x12)]:=by
  show Ii (std (KO N) N) (xOf _)=_;have e:∀ ls,KO N 104 [] ls=CU N ls:=fun ls=>rfl
  simp only [Ii,lq9,std,xOf,e,Lb,PXb,PXc,PXn,AG,OV]
def N1 (s:ByteArray) (i:Nat):Bool := !(iLe 65 (K8 s i)&&iLe (K8 s i) 90)&&((i:Int)==0||((!(K8 s i==95) && !(K8 s i==45))&&(iLt (K8 s i) 48||iLt 57 (K8 s i))))
def EK (s:ByteArray):Bool := !BI (N1 s) s.size 0&&(iLe 1 s.size&&iLe s.size 16)
theorem vS (s:ByteArray):(Ar s).length=s.size:=by
 simp only [Ar,List.length_map,Array.length_toList];rfl
theorem vn (s:ByteArray) (i:Nat) (h:i<s.size):pvI (AB (Ar s) i 0)=K8 s i:=by
 unfold AB Aa AA Ar K8;simp only [zzk,List.getElem?_map];have:i<s.data.toList.length:=by simpa using h
 rw [zzn this];simp [zzn this]
theorem RN (N:Nat) (s:ByteArray) (hN:s.size<N) (hs:s.size≤1048576):Eh N [.str s]=some [.bool (EK s)]:=by
 show Oh (std (Vp N) N) (xOf _)=_;simp only [Oh,lq9,std,xOf,vS,PXb,PXc,PXn,AG];refine AU (JR (len:=s.size) (N1 s) [.bool false] ?_ ?_ N hN) ?_
 ·intro self;simp only [PXb,PXc,PXn,AG,A2]
 ·intro i self hi;simp only [PXb,PXc,PXn,AG,Int.toNat_natCast,vn s i hi,Ax (show i≤1099511627776 by omega),Av hi,AN hi,N1]
 ·unfold EK;cases BI (N1 s) s.size 0<;>rfl
theorem q9 (bs:ByteArray) (i:Nat) (r:List UInt8):(ByteArray.toList.loop bs i r).length=r.length+(bs.size - i):=by
 induction i,r using ByteArray.toList.loop.induct (bs:=bs) with
 | case1 i r h ih=>unfold ByteArray.toList.loop;rw [if_pos h,ih];simp;omega
 | case2 i r h=>unfold ByteArray.toList.loop;rw [if_neg h];simp;omega
theorem bz (bs:ByteArray):bs.toList.length=bs.size:=by
 unfold ByteArray.toList;rw [q9];simp
theorem Yd (s:ByteArray):(s.toList==(⟨#[]⟩:ByteArray).toList) = !iLe 1 (s.size:Int):=by
 have h:=bz s;have h0:=bz (⟨#[]⟩:ByteArray);rw [Bool.eq_iff_iff];simp only [beq_iff_eq,iLe,Bool.not_eq_true',decide_eq_false_iff_not];constructor
 ·intro e;rw [e,h0] at h;have:(⟨#[]⟩:ByteArray).size=0:=rfl;omega
 ·intro e;have e1:s.toList=[]:=List.eq_nil_of_length_eq_zero (by omega);have e2:(⟨#[]⟩:ByteArray).toList=[]:=List.eq_nil_of_length_eq_zero h0;rw [e1,e2]
theorem YY (N:Nat) (s:ByteArray) (hN:s.size<N) (hs:s.size≤1048576):Mf N [.str s]=some [.bool (EK s)]:=by
 show Qf (std (Wt N) N) (xOf _)=_;simp only [Qf,lq9,std,xOf,PXb,PXc,PXn,AG,Yd];have e:iLe 1 (s.size:Int)=false∨iLe 1 (s.size:Int)=true:=by cases iLe 1 (s.size:Int)<;>simp
 have e2:iLt 16 (s.size:Int) = !iLe (s.size:Int) 16:=by unfold iLt iLe;rw [Bool.eq_iff_iff];simp
 rw [e2];cases h:iLe 1 (s.size:Int)&&iLe (s.size:Int) 16 with
 | false =>
  have:(!iLe 1 (s.size:Int) || !iLe (s.size:Int) 16)=true:=by rw [← Bool.not_and,h];rfl
  simp only [this,cond_true,EK,h,Bool.and_false]
 | true =>
  have:(!iLe 1 (s.size:Int) || !iLe (s.size:Int) 16)=false:=by rw [← Bool.not_and,h];rfl
  simp only [this,cond_false,EK,h,Bool.and_true];refine AU (JR (len:=s.size) (N1 s) [.bool false] ?_ ?_ N hN) ?_
  ·intro self;simp only [PXb,PXc,PXn,AG,A2]
  ·intro i self hi;simp only [PXb,PXc,AG,Int.toNat_natCast,Ax (show i≤1099511627776 by omega),Av hi,AN hi,N1];cases (iLe 65 (K8 s i)&&iLe (K8 s i) 90)<;>rfl
  ·cases BI (N1 s) s.size 0<;>rfl
theorem sY {i len:Nat} (h:i<len) (hl:len≤1099511627776):(!iLt 0 (i:Int)||iIn (IntKind.i64.wrap ((i:Int) - 1)) (len:Int))=true:=by
 rw [CO (by omega) (by omega)];simp only [iLt,iIn,Bool.or_eq_true,Bool.not_eq_true',decide_eq_false_iff_not,decide_eq_true_eq];omega
def sU (L:Rows) (ov:Int) (i:Nat):Bool:=(iLt (atI L i 0) 1||iLt (atI L i 1) (atI L i 0)||iLt ov (atI L i 1)) || !btw (atI L i 2) 0 11
def oQ (L:Rows) (i:Nat):Bool:=iLt 0 (i:Int)&&iLe (atI L i 0) (pvI (AB L (IntKind.i64.wrap ((i:Int) - 1)).toNat 1))
def oE (L:Rows) (ov:Int) (i:Nat):Option (List PV):=cond (sU L ov i) (some [.int 2]) (cond (oQ L i) (some [.int 8]) none)
def pw:Option (List PV)→Int
 | none=>0
 | some r=>pvI (AA r 0)
def jw (L:Rows) (ov:Int):Int:=cond (iLt 8 (L.length:Int)) 9 (pw (A5 (oE L ov) L.length 0))
theorem aQ (o:Option (List PV)):cond (pvI (AA (QX o) 0)==((0:Nat):Int)) (some [PV.int (pvI (AA (QX o) 1))]) (some [PV.int 0])=some [PV.int (pw o)]:=by
 cases o<;>rfl
theorem bG (N : Nat) (x0 : ByteArray) (x1 x2 x3 x4 x5 x6 x7 x9 x10 x11 x12 : Int) (x8 : Bool) (L : Rows) (hN : 2097152 < N) :
   Gg N [.str x0,.int x1,.int x2,.int x3,.int x4,.int x5,.int x6,.int x7,.bool x8,.int x9,.int x10,.int x11,.int x12,.rows L]=some [.int (jw L x3)]:=by
  show Jw (std (Lh N) N) (xOf _)=_;have e:∀ ls,Lh N 104 [] ls=CU N ls:=fun ls=>rfl
  simp only [Jw,lq9,std,xOf,e,Lb,PXb,PXc,PXn,AG,jw];cases h8:iLt 8 (L.length:Int) with
  | true=>rfl
  | false =>
    have hl:L.length≤8:=by simp [iLt] at h8;omega
    simp only [cond_false];refine AU (Bp (len:=L.length) (oE L x3) ?_ ?_ L.length 0 N (by omega) (by omega)) ?_
    · intro self;simp only [PXb,PXc,PXn,AG,A2]
    · intro i self hi;simp only [PXb,PXc,PXn,AG,Int.toNat_natCast,Ax (show i≤1099511627776 by omega),Av hi,AN hi,Lb,e,sY hi (by omega)];simp only [oE,sU,oQ,atI];cases (iLt (pvI (AB L i 0)) 1||iLt (pvI (AB L i 1)) (pvI (AB L i 0))||iLt x3 (pvI (AB L i 1)) || !btw (pvI (AB L i 2)) 0 11) <;>
      cases (iLt 0 (i:Int)&&iLe (pvI (AB L i 0)) (pvI (AB L (IntKind.i64.wrap ((i:Int) - 1)).toNat 1)))<;>rfl
    · exact aQ _
def L6 (x0:ByteArray) (x1 x2 x3 x4 x5 x6 x7 x9 x10 x11 x12:Int) (L:Rows):Int :=
  cond (!EK x0) 5 (cond (!OV x1 x2 x3 x4 x5 x6 x7 x9 x10 x11 x12) 2
    (cond ((!(x10==0)&&x2==1)||((!(x5==0)||iLt 0 (L.length:Int))&&x3==0)) 1
      (cond (!(x5==0)&&iLt (IntKind.i64.wrap (x5 * x1)) x3) 13 (jw L x3))))
theorem UV (N : Nat) (x0 : ByteArray) (x1 x2 x3 x4 x5 x6 x7 x9 x10 x11 x12 : Int) (x8 : Bool) (L : Rows) (hN : 2097152 < N) (hs : x0.size ≤ 1048576) :
   AQ N [.str x0,.int x1,.int x2,.int x3,.int x4,.int x5,.int x6,.int x7,.bool x8,.int x9,.int x10,.int x11,.int x12,.rows L]=some [.int (L6 x0 x1 x2 x3 x4 x5 x6 x7 x9 x10 x11 x12 L)]:=by
  show LC (std (Fe N) N) (xOf _)=_;have e:∀ ls,Fe N 73 [] ls=Eh N ls:=fun ls=>rfl
  have e2:∀ ls,Fe N 89 [] ls=F2 N ls:=fun ls=>rfl
  have e3:∀ ls,Fe N 90 [] ls=Gg N ls:=fun ls=>rfl
  simp only [LC,lq9,std,xOf,e,e2,e3,RN N x0 (by omega) hs,Ze,bG N _ _ _ _ _ _ _ _ _ _ _ _ _ _ hN,PXb,PXc,AG,L6];cases EK x0<;>cases OV x1 x2 x3 x4 x5 x6 x7 x9 x10 x11 x12<;>try rfl
  simp only [PXb,PXc,AG,Bool.not_true];cases (!(x10==0)&&x2==1)<;>cases ((!(x5==0)||iLt 0 (L.length:Int))&&x3==0)<;>try rfl
  cases (!(x5==0)&&iLt (IntKind.i64.wrap (x5 * x1)) x3)<;>rfl
theorem WQ (N:Nat) (L:Rows) (v:Int) (hN:L.length<N) (hl:L.length≤2097152):Dj N [.rows L,.int v]=some [.int (NB (fun j=>v==atI L j 0) L.length)]:=by
 show Fg (std (NC N) N) (xOf _)=_;simp only [Fg,lq9,std,xOf,PXb,PXc,PXn,AG];refine AU (Bp (len:=L.length) (Ef fun j=>v==atI L j 0) ?_ ?_ L.length 0 N (by omega) (by omega)) ?_
 ·intro self;simp only [PXb,PXc,PXn,AG,A2]
 ·intro i self hi;simp only [PXb,PXc,PXn,AG,Ax (show i≤1099511627776 by omega),Av hi,AN hi,Ef,DU];cases v==atI L i 0<;>rfl
 ·unfold NB;cases A5 (Ef fun j=>v==atI L j 0) L.length 0<;>rfl
def KR (L:Rows) (k:Nat) (v:Int):Bool:=BI (fun j=>v==atI L j 0) k 0
theorem KW (N:Nat) (L:Rows) (v:Int) (hN:L.length<N) (hl:L.length≤2097152):Aq N [.rows L,.int v]=some [.bool (KR L L.length v)]:=by
 show Dy (std (FQ N) N) (xOf _)=_;have e:∀ ls,FQ N 198 [] ls=Dj N ls:=fun ls=>rfl
 simp only [Dy,lq9,std,xOf,PXb,PXc,PXn,AG,e,WQ N L v hN hl,Hp,KR]
theorem rC (L:Rows) (i:Nat) (v:Int) (h:i≤L.length):KR (L.take i) (L.take i).length v=KR L i v:=by
 rw [List.length_take,Nat.min_eq_left h];exact QZ i 0 (fun j _ hj=>by rw [ru (by omega)])
def Qr (L:Rows) (n:Int) (i:Nat):Bool := !btw (atI L i 0) 1 n||KR L i (atI L i 0)
def Ko (L:Rows) (n:Int):Bool := !BI (Qr L n) L.length 0
theorem Md (N:Nat) (L:Rows) (n:Int) (hN:L.length<N) (hl:L.length≤2097152):DK N [.rows L,.int n]=some [.bool (Ko L n)]:=by
 show FG (std (D6 N) N) (xOf _)=_;have e:∀ ls,D6 N 159 [] ls=Ak N ls:=fun ls=>rfl
 have e2:∀ ls,D6 N 184 [] ls=Aq N ls:=fun ls=>rfl
 simp only [FG,lq9,std,xOf,PXb,PXc,PXn,AG];refine AU (JR (len:=L.length) (Qr L n) [.bool false] ?_ ?_ N hN) ?_
 ·intro self;simp only [PXb,PXc,PXn,AG,A2]
 ·intro i self hi;have h1:(L.take i).length≤L.length:=List.length_take_le' i L;simp only [PXb,PXc,PXn,AG,Ax (show i≤1099511627776 by omega),Av hi,AN hi,e,e2,Dq,sV (Nat.le_of_lt hi),Int.toNat_zero,List.drop_zero,KW N (L.take i) _ (by omega) (by omega),rC L i _ (by omega),DU,Qr];cases btw (atI L i 0) 1 n<;>cases KR L i (atI L i 0)<;>rfl
 ·unfold Ko;cases BI (Qr L n) L.length 0<;>rfl
theorem YG (N:Nat) (v:Int):Cp N [.int v]=some [.bool (!(v==0))]:=rfl
def lsI (L14 L16 L17 L19 L24:Rows) (b18 b20:Bool) (x0 x1 x2 x3 x4 x5 x6 x7 x8 x9 x10 x11 x12 x13 x15 x21 x22 x23 x25 x26 x27:Int):List PV :=
 [.int x0,.int x1,.int x2,.int x3,.int x4,.int x5,.int x6,.int x7,.int x8,.int x9,.int x10,.int x11,.int x12,.int x13,.rows L14,.int x15,.rows L16,.rows L17,.bool b18,.rows L19,.bool b20,.int x21,.int x22,.int x23,.rows L24,.int x25,.int x26,.int x27]
section
variable (N:Nat) (L14 L16 L17 L19 L24:Rows) (b18 b20:Bool) (x0 x1 x2 x3 x4 x5 x6 x7 x8 x9 x10 x11 x12 x13 x15 x21 x22 x23 x25 x26 x27:Int)
theorem aP (hN:L14.length<N) (hl:L14.length≤2097152):B2 N (lsI L14 L16 L17 L19 L24 b18 b20 x0 x1 x2 x3 x4 x5 x6 x7 x8 x9 x10 x11 x12 x13 x15 x21 x22 x23 x25 x26 x27)=some [.bool (Ca L14)]:=by
 show En (std (E5 N) N) (xOf (lsI ..))=_;have e:∀ ls,E5 N 262 [] ls=Cp N ls:=fun ls=>rfl
 simp only [En,lq9,std,xOf,lsI,PXb,PXc,PXn,AG];rw [show Ca L14=iLe 0 (NB (fun i => !(atI L14 i 0==0)) L14.length) from (Hp _ _).symm];rw [Option.bind_assoc];refine AU (Bp (len:=L14.length) (Ef fun i => !(atI L14 i 0==0)) ?_ ?_ L14.length 0 N (by omega) (by omega)) ?_
 ·intro self;simp only [PXb,PXc,PXn,AG,A2]
 ·intro i self hi;simp only [PXb,PXc,PXn,AG,Ax (show i≤1099511627776 by omega),Av hi,AN hi,Ef,DU,e,YG];cases atI L14 i 0==0<;>rfl
 ·unfold NB;cases A5 (Ef fun i => !(atI L14 i 0==0)) L14.length 0<;>rfl
theorem Zb (hN:L14.length<N) (hl:L14.length≤2097152):BO N (lsI L14 L16 L17 L19 L24 b18 b20 x0 x1 x2 x3 x4 x5 x6 x7 x8 x9 x10 x11 x12 x13 x15 x21 x22 x23 x25 x26 x27)=some [.bool (Gq L14 x12 x13)]:=by
 show D3 (std (ES N) N) (xOf (lsI ..))=_;have e:∀ ls,ES N 235 [] ls=B2 N ls:=fun ls=>rfl
 have:=aP N L14 L16 L17 L19 L24 b18 b20 x0 x1 x2 x3 x4 x5 x6 x7 x8 x9 x10 x11 x12 x13 x15 x21 x22 x23 x25 x26 x27 hN hl;simp only [lsI] at this;simp only [D3,lq9,std,xOf,lsI,PXb,PXc,PXn,AG,e,this,Gq]
theorem dQ (hN:L14.length<N) (hl:L14.length≤2097152):Ck N (lsI L14 L16 L17 L19 L24 b18 b20 x0 x1 x2 x3 x4 x5 x6 x7 x8 x9 x10 x11 x12 x13 x15 x21 x22 x23 x25 x26 x27)=some [.rows (DW L14 L14.length)]:=by
 show Fa (std (Mz N) N) (xOf (lsI ..))=_;simp only [Fa,lq9,std,xOf,lsI,PXb,PXc,PXn,AG];refine AU (ED (len:=L14.length) (fun i=>[.rows (DW L14 i),.int (i:Int)]) [.rows (DW L14 L14.length)] ?_ ?_ N hN) rfl
 ·intro self;simp only [PXb,PXc,PXn,AG,A2]
 ·intro i self hi;have h2:(DW L14 i++[[PV.int ((i:Int)+1)]]).length≤4194304:=by have:=Z7 L14 i;simp;omega
  simp only [PXb,PXc,PXn,AG,Ax (show i≤1099511627776 by omega),Av hi,AN hi,DU,DW,DV h2 (show 8≤4096 by omega)];cases (atI L14 i 0==0||atI L14 i 0==3)<;>rfl
end
theorem VJ (N:Nat) (v:Int):DQ N [.int v]=some [.bool (!btw v 0 1000000000)]:=by
 show FK (std (Gc N) N) (xOf _)=_;have e:∀ ls,Gc N 159 [] ls=Ak N ls:=fun ls=>rfl
 simp only [FK,lq9,std,xOf,PXb,PXc,PXn,AG,e,Dq]
def pIs (L:Rows) (v:Int) (i:Nat):Bool:=atI L i 0==v
def Ws (s n:Int) (i:Nat):Bool:=s==(i:Int)+1||n==(i:Int)+1
def QY (L:Rows) (s n:Int) (i:Nat):Bool:=iLt 3 (atI L i 0)||(pIs L 1 i && !Ws s n i)
def bi (L:Rows) (s n:Int) (i:Nat):Bool:=iLt 3 (atI L i 0) || !(pIs L 1 i==Ws s n i)
def Z8 (L:Rows):Int:=CY (pIs L 2) L.length
def ins (L:Rows):Int:=CY (pIs L 1) L.length
def two (s n:Int):Int:=cond (!(n==0)) (IntKind.i64.wrap (cond (!(s==0)) (IntKind.i64.wrap (0+1)) 0+1)) (cond (!(s==0)) (IntKind.i64.wrap (0+1)) 0)
def gb (L:Rows) (s n wk k:Int):Bool :=
 !BI (QY L s n) L.length 0&&((btw s 0 k&&btw n 0 k)&&(!(s==n && !(s==0))&&((two s n==ins L&&(!Ca L||iLt 0 (two s n)))&&Z8 L==wk)))
def X7 (L:Rows) (s n wk:Int):Bool :=
 !BI (bi L s n) L.length 0&&(!((Ca L&&iLt (ins L) 1)||(!(s==0)&&s==n))&&wk==Z8 L)
def nH (L:Rows):Nat→Bool
 | 0=>false
 | i+1=>nH L i || !(atI L i 0==0)
theorem mT (L:Rows):∀ i,nH L i=BI (fun j => !(atI L j 0==0)) i 0
 | 0=>rfl
 | i+1=>by rw [XY,Nat.zero_add,← mT L i];rfl
section
variable (N:Nat) (L14 L16 L17 L19 L24:Rows) (b18 b20:Bool) (x0 x1 x2 x3 x4 x5 x6 x7 x8 x9 x10 x11 x12 x13 x15 x21 x22 x23 x25 x26 x27:Int)
theorem Wm (k:Int) (hN:L14.length<N) (hl:L14.length≤2097152):EM N (lsI L14 L16 L17 L19 L24 b18 b20 x0 x1 x2 x3 x4 x5 x6 x7 x8 x9 x10 x11 x12 x13 x15 x21 x22 x23 x25 x26 x27++[.int k])=some [.bool (gb L14 x12 x13 x4 k)]:=by
  simp only [lsI,List.cons_append,List.nil_append];show Ga (std (IZ N) N) (xOf _)=_;have e:∀ ls,IZ N 159 [] ls=Ak N ls:=fun ls=>rfl
  simp only [Ga,lq9,std,xOf,lsI,PXb,PXc,PXn,AG];refine AU (iY (len:=L14.length) (fun i=>[.int (CY (pIs L14 2) i),.int (CY (pIs L14 1) i),.bool (nH L14 i),.int (i:Int)])
    (QY L14 x12 x13) [.int 0,.bool false] [.int 1,.int (Z8 L14),.int (ins L14),.bool (Ca L14)] ?_ ?_ N hN) ?_
  · intro self;simp only [PXb,PXc,PXn,AG,A2,mT];rfl
  · intro i self hi;simp only [PXb,PXc,AG,Ax (show i≤1099511627776 by omega),Av hi,AN hi,DU,gl (pIs L14 2) (show i≤1099511627776 by omega),gl (pIs L14 1) (show i≤1099511627776 by omega)];unfold QY pIs Ws;simp only [CY,nH];cases h3:iLt 3 (atI L14 i 0) with
    | true=>rfl
    | false =>
      cases h1:atI L14 i 0==1 with
      | true =>
        rw [tX h1];cases x12==(i:Int)+1<;>cases x13==(i:Int)+1<;>rfl
      | false=>cases h2:atI L14 i 0==2<;>rfl
  · unfold gb;simp only [e,Dq];cases BI (QY L14 x12 x13) L14.length 0 with
    | true=>rfl
    | false =>
      simp only [PXb,PXc,PXn,AG];unfold two;cases btw x12 0 k<;>cases btw x13 0 k<;>try rfl
      cases x12==0<;>cases x13==0<;>cases x12==x13<;>try rfl
end
theorem tW (s n:Int):two s n=cond (!(s==0)) 1 0+cond (!(n==0)) 1 0:=by
 unfold two;cases s==0<;>cases n==0<;>rfl
theorem sZ {s n:Int} {len:Nat} (h1:0≤s∧s≤(len:Int)) (h2:0≤n∧n≤(len:Int)) (hd:(s==n && !(s==0))=false):two s n=CY (Ws s n) len:=by
 have hs:iLe s (len:Int)=true:=by simp only [iLe,decide_eq_true_eq];omega
 have hn:iLe n (len:Int)=true:=by simp only [iLe,decide_eq_true_eq];omega
 unfold Ws;rw [oq (p:=fun i=>s==(i:Int)+1) (q:=fun i=>n==(i:Int)+1) len (fun j _ hp=>by
  have e1:s=(j:Int)+1:=by simpa using hp
  show (n==(j:Int)+1)=false;rw [beq_eq_false_iff_ne];intro e2;have e3:(s==n)=true:=by rw [beq_iff_eq];omega
  have e4:(s==0)=false:=by rw [beq_eq_false_iff_ne];omega
  rw [e3,e4] at hd;cases hd),kF s len h1.1,kF n len h2.1,hs,hn,Bool.and_true,Bool.and_true,tW]
theorem tx (x:Int):iLt 0 x = !iLt x 1:=by
 unfold iLt;rw [Bool.eq_iff_iff];simp only [decide_eq_true_eq,Bool.not_eq_true',decide_eq_false_iff_not];omega
theorem qv {L : Rows} {s n : Int} (h1 : 0 ≤ s ∧ s ≤ (L.length : Int)) (h2 : 0 ≤ n ∧ n ≤ (L.length : Int)) (hd : (s == n && !(s == 0)) = false) :
    (!BI (QY L s n) L.length 0&&two s n==ins L) = !BI (bi L s n) L.length 0:=by
  have h2c:=sZ h1 h2 hd;rw [Bool.eq_iff_iff];simp only [zzj,Bool.not_eq_true',Jq,beq_iff_eq];constructor
  · intro ⟨ha,hb⟩ j _ hj;have hm:∀ j,j<L.length→pIs L 1 j=true→Ws s n j=true:=fun j hj hp=>by
      have:=ha j (Nat.zero_le _) (by omega);unfold QY at this;rw [hp] at this;simp only [Bool.or_eq_false_iff,Bool.true_and,Bool.not_eq_false'] at this;exact this.2
    have he:=oz L.length hm (by rw [← h2c,hb];rfl) j (by omega);have:=ha j (Nat.zero_le _) hj;unfold QY at this;unfold bi;rw [Bool.or_eq_false_iff] at this ⊢;exact ⟨this.1,by rw [he];simp⟩
  · intro ha;have hm:∀ j,j<L.length→pIs L 1 j=Ws s n j:=fun j hj=>by
      have:=ha j (Nat.zero_le _) (by omega);unfold bi at this;rw [Bool.or_eq_false_iff] at this;simpa using this.2
    refine ⟨fun j h0 hj=>?_,?_⟩
    · have:=ha j h0 hj;unfold bi at this;unfold QY;rw [Bool.or_eq_false_iff] at this ⊢;refine ⟨this.1,?_⟩;rw [hm j (by omega)];cases Ws s n j<;>rfl
    · rw [h2c];exact (fJ L.length hm).symm
theorem ui (L:Rows) (s n wk k:Int) (hk:(L.length:Int)=k):gb L s n wk k=(btw s 0 k&&btw n 0 k&&X7 L s n wk):=by
 subst hk;unfold gb X7;cases hs:btw s 0 (L.length:Int) with
 | false=>simp only [Bool.false_and,Bool.and_false]
 | true =>
  cases hn:btw n 0 (L.length:Int) with
  | false=>simp only [Bool.false_and,Bool.and_false]
  | true =>
   have h1:0≤s∧s≤(L.length:Int):=by simpa [btw,iLe] using hs
   have h2:0≤n∧n≤(L.length:Int):=by simpa [btw,iLe] using hn
   simp only [Bool.true_and];cases hd:(s==n && !(s==0)) with
   | true =>
    have:(!(s==0)&&s==n)=true:=by rw [Bool.and_comm];exact hd
    rw [this];simp only [Bool.or_true,Bool.not_true,Bool.false_and,Bool.and_false]
   | false =>
    have:(!(s==0)&&s==n)=false:=by rw [Bool.and_comm];exact hd
    rw [this,← qv h1 h2 hd];simp only [Bool.or_false,Bool.not_false,Bool.true_and];rw [show (wk==Z8 L)=(Z8 L==wk) from BEq.comm];cases hA:BI (QY L s n) L.length 0 with
    | true=>rfl
    | false =>
     cases hB:two s n==ins L with
     | false=>rfl
     | true =>
      rw [beq_iff_eq.1 hB,tx];simp only [Bool.true_and,Bool.not_false,Bool.not_and]
def JT (v:Int):Bool := !btw v 0 1000000000
def iK (x1 x3 x5 x6 x7 x8 x9 x10 x21 x23 x25 x26:Int):Rows:=[[.int x1],[.int x3],[.int x5],[.int x6],[.int x7],[.int x8],[.int x9],[.int x10],[.int x21],[.int x23],[.int x25],[.int x26]]
section
variable (N:Nat) (L14 L16 L17 L19 L24:Rows) (b18 b20:Bool) (x0 x1 x2 x3 x4 x5 x6 x7 x8 x9 x10 x11 x12 x13 x15 x21 x22 x23 x25 x26 x27:Int)
theorem Wy (hN:2097152<N) (hl:L19.length≤1048576):EP N (lsI L14 L16 L17 L19 L24 b18 b20 x0 x1 x2 x3 x4 x5 x6 x7 x8 x9 x10 x11 x12 x13 x15 x21 x22 x23 x25 x26 x27)=some [.bool (!(KM JT (iK x1 x3 x5 x6 x7 x8 x9 x10 x21 x23 x25 x26)||KM JT L19))]:=by
 show GY (std (IW N) N) (xOf (lsI ..))=_;have e:∀ ls,IW N 186 [] ls=DQ N ls:=fun ls=>rfl
 rw [← kQ];simp only [GY,lq9,std,xOf,lsI,PXb,PXc,PXn,AG,iK];generalize hM:([PV.int x1]::[PV.int x3]::[PV.int x5]::[PV.int x6]::[PV.int x7]::[PV.int x8]::[PV.int x9]::[PV.int x10]::[PV.int x21]::[PV.int x23]::[PV.int x25]::[PV.int x26]::L19:Rows)=M;have hM2:M.length≤2097152:=by rw [← hM];simp only [List.length_cons];omega
 rw [DV (n:=M.length) (by omega) (by omega)];simp only [PXb,PXc,PXn,AG];rw [Option.bind_assoc];refine AU (Bp (len:=M.length) (Ef fun i=>JT (atI M i 0)) ?_ ?_ M.length 0 N (by omega) (by omega)) ?_
 ·intro self;simp only [PXb,PXc,PXn,AG,A2]
 ·intro i self hi;simp only [PXb,PXc,PXn,AG,Ax (show i≤1099511627776 by omega),Av hi,AN hi,Ef,DU,e,VJ,JT];cases btw (atI M i 0) 0 1000000000<;>rfl
 ·unfold KM;rw [← Hp];unfold NB;cases A5 (Ef fun i=>JT (atI M i 0)) M.length 0<;>rfl
end
def dS (a3 x2:Int):Bool:=cond (a3==0) (x2==0) (btw x2 1 a3)
def UO (s:ByteArray) (a1 a2 a3 a4 a5 a6 a7 a9 a10 a11 a12:Int) (La L14 L16 L17 L19 L24:Rows) (x0 x1 x2 x3 x4 x5 x6 x7 x8 x9 x10 x11 x12 x13 x15 x21 x22 x23 x25 x26 x27:Int):Bool :=
  L6 s a1 a2 a3 a4 a5 a6 a7 a9 a10 a11 a12 La==0&&(btw x0 1 2&&((L14.length:Int)==a1&&((L19.length:Int)==a1&&((L24.length:Int)==a1&&(!iLt 5 x27 &&
    (btw x12 0 a1&&(btw x13 0 a1&&(X7 L14 x12 x13 x4&&(btw x15 0 a1&&(btw x22 0 a1&&(Ko L16 a1&&(Ko L17 a1&&(dS a3 x2&&(btw x11 0 (IntKind.i64.wrap (a4 - 1)) &&
      (!KM JT (iK x1 x3 x5 x6 x7 x8 x9 x10 x21 x23 x25 x26) && !KM JT L19)))))))))))))))
theorem su {a:Int} (h:0≤a):iLt 0 a = !(a==0):=by
 unfold iLt;rw [Bool.eq_iff_iff];simp only [decide_eq_true_eq,Bool.not_eq_true',beq_eq_false_iff_ne];omega
section
variable (N:Nat) (s:ByteArray) (a1 a2 a3 a4 a5 a6 a7 a9 a10 a11 a12:Int) (a8:Bool) (La:Rows) (L14 L16 L17 L19 L24:Rows) (b18 b20:Bool) (x0 x1 x2 x3 x4 x5 x6 x7 x8 x9 x10 x11 x12 x13 x15 x21 x22 x23 x25 x26 x27:Int)
theorem Rb (hN:2097152<N) (hs:s.size≤1048576) (h14:L14.length≤1048576) (h16:L16.length≤1048576) (h17:L17.length≤1048576) (h19:L19.length≤1048576):BL N ([.str s,.int a1,.int a2,.int a3,.int a4,.int a5,.int a6,.int a7,.bool a8,.int a9,.int a10,.int a11,.int a12,.rows La]++lsI L14 L16 L17 L19 L24 b18 b20 x0 x1 x2 x3 x4 x5 x6 x7 x8 x9 x10 x11 x12 x13 x15 x21 x22 x23 x25 x26 x27)=some [.bool (UO s a1 a2 a3 a4 a5 a6 a7 a9 a10 a11 a12 La L14 L16 L17 L19 L24 x0 x1 x2 x3 x4 x5 x6 x7 x8 x9 x10 x11 x12 x13 x15 x21 x22 x23 x25 x26 x27)]:=by
 simp only [lsI,List.cons_append,List.nil_append];show Ij (std (CS N) N) (xOf _)=_;have e1:∀ ls,CS N 61 [] ls=AQ N ls:=fun ls=>rfl
 have e2:∀ ls,CS N 159 [] ls=Ak N ls:=fun ls=>rfl
 have e3:∀ ls,CS N 160 [] ls=EM N ls:=fun ls=>rfl
 have e4:∀ ls,CS N 161 [] ls=DK N ls:=fun ls=>rfl
 have e5:∀ ls,CS N 162 [] ls=EP N ls:=fun ls=>rfl
 have l54:=Wm N L14 L16 L17 L19 L24 b18 b20 x0 x1 x2 x3 x4 x5 x6 x7 x8 x9 x10 x11 x12 x13 x15 x21 x22 x23 x25 x26 x27 a1 (by omega) (by omega);have l56:=Wy N L14 L16 L17 L19 L24 b18 b20 x0 x1 x2 x3 x4 x5 x6 x7 x8 x9 x10 x11 x12 x13 x15 x21 x22 x23 x25 x26 x27 (by omega) (by omega);simp only [lsI,List.cons_append,List.nil_append] at l54 l56;simp only [Ij,lq9,std,xOf,PXb,PXc,PXn,AG,e1,e2,e3,e4,e5,UV N s _ _ _ _ _ _ _ _ _ _ _ _ _ hN hs,Dq,l54,l56,Md N L16 _ (by omega) (by omega),Md N L17 _ (by omega) (by omega)];unfold UO dS;cases hc:L6 s a1 a2 a3 a4 a5 a6 a7 a9 a10 a11 a12 La==0<;>try rfl
 cases btw x0 1 2<;>try rfl
 cases h14:(L14.length:Int)==a1<;>try rfl
 cases (L19.length:Int)==a1<;>try rfl
 cases (L24.length:Int)==a1<;>try rfl
 cases iLt 5 x27<;>try rfl
 rw [ui L14 x12 x13 x4 a1 (beq_iff_eq.1 h14)];cases btw x12 0 a1<;>try rfl
 cases btw x13 0 a1<;>try rfl
 cases X7 L14 x12 x13 x4<;>try rfl
 cases btw x15 0 a1<;>try rfl
 cases btw x22 0 a1<;>try rfl
 cases Ko L16 a1<;>try rfl
 cases Ko L17 a1<;>try rfl
 cases a3==0<;>cases x2==0<;>cases btw x2 1 a3<;>rfl
end
def rH (v:Bool) (L:Rows) (s n:Int) (x1 x2 x3 x10:Int):Int :=
 cond (!v) 0 (cond (iLt 0 x1&&iLe x1 x3) 3 (cond (Gq L s n&&((DW L L.length).length:Int)==0) 1 (cond (iLt 0 x2&&iLe x2 x10) 2 0)))
theorem gX {c:Int} {n:Nat} (hc:0≤c):iRg 0 (cond (iLt c (n:Int)) c (n:Int)) (n:Int)=true:=by
 cases h:iLt c (n:Int) with
 | true=>simp only [iLt,decide_eq_true_eq] at h;simp only [cond_true,iRg,decide_eq_true_eq];omega
 | false=>simp only [cond_false,iRg,decide_eq_true_eq];omega
def cut (L:Rows) (c:Int):Rows:=(L.take (cond (iLt c (L.length:Int)) c (L.length:Int)).toNat).drop (0:Int).toNat
def OW (s:ByteArray) (c:Int):ByteArray:=s.extract (0:Int).toNat (cond (iLt c (s.size:Int)) c (s.size:Int)).toNat
section
variable (N:Nat) (s:ByteArray) (a1 a2 a3 a4 a5 a6 a7 a9 a10 a11 a12:Int) (a8:Bool) (La:Rows) (L14 L16 L17 L19 L24:Rows) (b18 b20:Bool) (x0 x1 x2 x3 x4 x5 x6 x7 x8 x9 x10 x11 x12 x13 x15 x21 x22 x23 x25 x26 x27:Int)
theorem YF (hN : 2097152 < N) (hs : s.size ≤ 1048576) (h14 : L14.length ≤ 1048576) (h16 : L16.length ≤ 1048576) (h17 : L17.length ≤ 1048576) (h19 : L19.length ≤ 1048576) : DR N ([.str s, .int a1, .int a2, .int a3, .int a4, .int a5, .int a6, .int a7, .bool a8, .int a9, .int a10, .int a11, .int a12, .rows La] ++ lsI L14 L16 L17 L19 L24 b18 b20 x0 x1 x2 x3 x4 x5 x6 x7 x8 x9 x10 x11 x12 x13 x15 x21 x22 x23 x25 x26 x27) =
    some [.int (rH (UO s a1 a2 a3 a4 a5 a6 a7 a9 a10 a11 a12 La L14 L16 L17 L19 L24 x0 x1 x2 x3 x4 x5 x6 x7 x8 x9 x10 x11 x12 x13 x15 x21 x22 x23 x25 x26 x27) L14 x12 x13 x1 x2 x3 x10)]:=by
  simp only [lsI,List.cons_append,List.nil_append];show Hn (std (Dn N) N) (xOf _)=_;have e1:∀ ls,Dn N 127 [] ls=BL N ls:=fun ls=>rfl
  have e2:∀ ls,Dn N 217 [] ls=BO N ls:=fun ls=>rfl
  have e3:∀ ls,Dn N 218 [] ls=Ck N ls:=fun ls=>rfl
  have l16:=Rb N s a1 a2 a3 a4 a5 a6 a7 a9 a10 a11 a12 a8 La L14 L16 L17 L19 L24 b18 b20 x0 x1 x2 x3 x4 x5 x6 x7 x8 x9 x10 x11 x12 x13 x15 x21 x22 x23 x25 x26 x27 hN hs h14 h16 h17 h19;have l61:=Zb N L14 L16 L17 L19 L24 b18 b20 x0 x1 x2 x3 x4 x5 x6 x7 x8 x9 x10 x11 x12 x13 x15 x21 x22 x23 x25 x26 x27 (by omega) (by omega);have l62:=dQ N L14 L16 L17 L19 L24 b18 b20 x0 x1 x2 x3 x4 x5 x6 x7 x8 x9 x10 x11 x12 x13 x15 x21 x22 x23 x25 x26 x27 (by omega) (by omega);simp only [lsI,List.cons_append,List.nil_append] at l16 l61 l62;simp only [Hn,lq9,std,xOf,PXb,PXc,PXn,AG,e1,e2,e3,l16,l61,l62,rH];cases UO s a1 a2 a3 a4 a5 a6 a7 a9 a10 a11 a12 La L14 L16 L17 L19 L24 x0 x1 x2 x3 x4 x5 x6 x7 x8 x9 x10 x11 x12 x13 x15 x21 x22 x23 x25 x26 x27<;>try rfl
  cases (iLt 0 x1&&iLe x1 x3)<;>try rfl
  cases Gq L14 x12 x13
  · cases (iLt 0 x2&&iLe x2 x10)<;>rfl
  · simp only [PXb,PXc,PXn,AG];cases ((DW L14 L14.length).length:Int)==0<;>cases (iLt 0 x2&&iLe x2 x10)<;>rfl
end
section
variable (N:Nat) (s:ByteArray) (a1 a2 a3 a4 a5 a6 a7 a9 a10 a11 a12:Int) (a8:Bool) (La:Rows) (L14 L16 L17 L19 L24:Rows) (b18 b20:Bool) (x0 x1 x2 x3 x4 x5 x6 x7 x8 x9 x10 x11 x12 x13 x15 x21 x22 x23 x25 x26 x27:Int)
def Cf (a4 x10 x11:Int):Int:=IntKind.i64.wrap (IntKind.i64.wrap (x10 * a4)+x11)
end
def BK (r:Rul):Int:=L6 r.name r.side r.innings r.overs r.balls r.quota r.wide r.noball r.newball r.followon r.reviews r.outside r.power
theorem C9 {N:Nat} {r8:Bool} {r0:ByteArray} {r13:Rows} (hN:2097152<N) (hs:r0.size≤1048576):AQ N [.str r0,.int r1,.int r2,.int r3,.int r4,.int r5,.int r6,.int r7,.bool r8,.int r9,.int r10,.int r11,.int r12,.rows r13]=some [.int (BK (⟨r0,r1,r2,r3,r4,r5,r6,r7,r8,r9,r10,r11,r12,r13⟩:Rul))]:=by
 exact UV N _ _ _ _ _ _ _ _ _ _ _ _ _ _ hN hs
theorem TQ {N:Nat} {s18 s20:Bool} (h:Fit s14 s16 s17 s19 s24):Cd N [.int s0,.int s1,.int s2,.int s3,.int s4,.int s5,.int s6,.int s7,.int s8,.int s9,.int s10,.int s11,.int s12,.int s13,.rows s14,.int s15,.rows s16,.rows s17,.bool s18,.rows s19,.bool s20,.int s21,.int s22,.int s23,.rows s24,.int s25,.int s26,.int s27]=some [.int s0,.int s1,.int s2,.int s3,.int s4,.int s5,.int s6,.int s7,.int s8,.int s9,.int s10,.int s11,.int s12,.int s13,.rows s14,.int s15,.rows s16,.rows s17,.bool s18,.rows s19,.bool s20,.int s21,.int s22,.int s23,.rows s24,.int s25,.int s26,.int s27]:=by
 show Om (std (H4 N) N) (xOf _)=_;simp only [Om,MJ,Ny,NZ,lq9,std,xOf,PXb,PXc,PXn,PXm,Nat.reduceAdd,Int.reduceBEq,AZ,Ag,Ac,Bf h.bt (show 1≤4096 by omega),Bf h.bw' (show 8≤4096 by omega),Bf h.bf (show 8≤4096 by omega),Bf h.bd (show 8≤4096 by omega),Bf h.sb (show 1≤4096 by omega)]
theorem TX {N:Nat} {s18 s20:Bool} (h:Fit s14 s16 s17 s19 s24):CX N [.int s0,.int s1,.int s2,.int s3,.int s4,.int s5,.int s6,.int s7,.int s8,.int s9,.int s10,.int s11,.int s12,.int s13,.rows s14,.int s15,.rows s16,.rows s17,.bool s18,.rows s19,.bool s20,.int s21,.int s22,.int s23,.rows s24,.int s25,.int s26,.int s27]=some [.int s0,.int s1,.int s2,.int s3,.int s4,.int s5,.int s6,.int s7,.int s8,.int s9,.int s10,.int s11,.int s12,.int s13,.rows s14,.int s15,.rows s16,.rows s17,.bool s18,.rows s19,.bool s20,.int s21,.int s22,.int s23,.rows s24,.int s25,.int s26,.int s27]:=by
 show Ok (std (H0 N) N) (xOf _)=_;simp only [Ok,ML,OG,NW,lq9,std,xOf,PXb,PXc,PXn,PXm,Nat.reduceAdd,Int.reduceBEq,AZ,Ag,Ac,Bf h.bt (show 1≤4096 by omega),Bf h.bw' (show 8≤4096 by omega),Bf h.bf (show 8≤4096 by omega),Bf h.bd (show 8≤4096 by omega),Bf h.sb (show 1≤4096 by omega)]
theorem B9 {N:Nat} {s18 s20:Bool} (h:Fit s14 s16 s17 s19 s24):AP N [.int s0,.int s1,.int s2,.int s3,.int s4,.int s5,.int s6,.int s7,.int s8,.int s9,.int s10,.int s11,.int s12,.int s13,.rows s14,.int s15,.rows s16,.rows s17,.bool s18,.rows s19,.bool s20,.int s21,.int s22,.int s23,.rows s24,.int s25,.int s26,.int s27]=some [.int s0,.int s1,.int s2,.int s3,.int s4,.int s5,.int s6,.int s7,.int s8,.int s9,.int s10,.int s11,.int s12,.int s13,.rows s14,.int s15,.rows s16,.rows s17,.bool s18,.rows s19,.bool s20,.int s21,.int s22,.int s23,.rows s24,.int s25,.int s26,.int s27]:=by
 show It (std (EZ N) N) (xOf _)=_;simp only [It,Jx,Ls,Kx,lq9,std,xOf,PXb,PXc,PXn,PXm,Nat.reduceAdd,Int.reduceBEq,AZ,Ag,Ac,Bf h.bt (show 1≤4096 by omega),Bf h.bw' (show 8≤4096 by omega),Bf h.bf (show 8≤4096 by omega),Bf h.bd (show 8≤4096 by omega),Bf h.sb (show 1≤4096 by omega)]
theorem Pd {N:Nat} {s18 s20:Bool} {p:Int}  : Bx N [.int s0,.int s1,.int s2,.int s3,.int s4,.int s5,.int s6,.int s7,.int s8,.int s9,.int s10,.int s11,.int s12,.int s13,.rows s14,.int s15,.rows s16,.rows s17,.bool s18,.rows s19,.bool s20,.int s21,.int s22,.int s23,.rows s24,.int s25,.int s26,.int s27,.int p]=some [.bool (inR p s19.length)]:=by
 show LA (std (Ss N) N) (xOf _)=_;simp only [LA,lq9,std,xOf,PXb,PXc,PXn,PXm,Nat.reduceAdd,Int.reduceBEq];rfl
theorem H3 {N:Nat} {s18 s20:Bool} {p:Int}  : A6 N [.int s0,.int s1,.int s2,.int s3,.int s4,.int s5,.int s6,.int s7,.int s8,.int s9,.int s10,.int s11,.int s12,.int s13,.rows s14,.int s15,.rows s16,.rows s17,.bool s18,.rows s19,.bool s20,.int s21,.int s22,.int s23,.rows s24,.int s25,.int s26,.int s27,.int p]=some [.bool (inR p s24.length)]:=by
 show LT (std (Sf N) N) (xOf _)=_;simp only [LT,lq9,std,xOf,PXb,PXc,PXn,PXm,Nat.reduceAdd,Int.reduceBEq];rfl
def atB (L:Rows) (i j:Nat):Bool:=pvB (AB L i j)
theorem uD (L:Rows) (i j:Nat):pvB (AB L i j)=atB L i j:=rfl
def HU (s:Inn) (p:Int):Bool:=inR p s.subs.length&&atB s.subs (ix p) 0
theorem Hi {N:Nat} {s18 s20:Bool} {p:Int} (h:s24.length≤1048576):A4 N [.int s0,.int s1,.int s2,.int s3,.int s4,.int s5,.int s6,.int s7,.int s8,.int s9,.int s10,.int s11,.int s12,.int s13,.rows s14,.int s15,.rows s16,.rows s17,.bool s18,.rows s19,.bool s20,.int s21,.int s22,.int s23,.rows s24,.int s25,.int s26,.int s27,.int p]=some [.bool (HU (⟨s0,s1,s2,s3,s4,s5,s6,s7,s8,s9,s10,s11,s12,s13,s14,s15,s16,s17,s18,s19,s20,s21,s22,s23,s24,s25,s26,s27⟩:Inn) p)]:=by
 show Ho (std (Jh N) N) (xOf _)=_;generalize hres:(some [.bool (HU (⟨s0,s1,s2,s3,s4,s5,s6,s7,s8,s9,s10,s11,s12,s13,s14,s15,s16,s17,s18,s19,s20,s21,s22,s23,s24,s25,s26,s27⟩:Inn) p)]:Option (List PV))=RR;simp only [Ho,OX,lq9,std,xOf,PXb,PXc,PXn,PXm,Nat.reduceAdd,Int.reduceBEq,H3,vR h];subst hres;simp only [HU];cases hp:inR p s24.length with
 | false=>rfl
 | true=>first | rfl | (rw [LO hp h];rfl)
def nK (x:Int):Int:=cond (iLt x 0) 0 x
def bV (r:Rul) (s:Inn) (p:Int):Int :=
 cond (!inR p s.bowled.length || !(BK r==0)) 0 (cond (r.quota==0) (-1) (nK (IntKind.i64.wrap (IntKind.i64.wrap (r.quota * r.balls) - nK (atI s.bowled (ix p) 0)))))
theorem kW {N:Nat} {r8:Bool} {r0:ByteArray} {r13:Rows} {s18 s20:Bool} {p:Int} (h:Fit s14 s16 s17 s19 s24) (hN:2097152<N) (hs:r0.size≤1048576):Jf N [.str r0,.int r1,.int r2,.int r3,.int r4,.int r5,.int r6,.int r7,.bool r8,.int r9,.int r10,.int r11,.int r12,.rows r13,.int s0,.int s1,.int s2,.int s3,.int s4,.int s5,.int s6,.int s7,.int s8,.int s9,.int s10,.int s11,.int s12,.int s13,.rows s14,.int s15,.rows s16,.rows s17,.bool s18,.rows s19,.bool s20,.int s21,.int s22,.int s23,.rows s24,.int s25,.int s26,.int s27,.int p]=some [.int (bV (⟨r0,r1,r2,r3,r4,r5,r6,r7,r8,r9,r10,r11,r12,r13⟩:Rul) (⟨s0,s1,s2,s3,s4,s5,s6,s7,s8,s9,s10,s11,s12,s13,s14,s15,s16,s17,s18,s19,s20,s21,s22,s23,s24,s25,s26,s27⟩:Inn) p)]:=by
 show NJ (std (J0 N) N) (xOf _)=_;generalize hres:(some [.int (bV (⟨r0,r1,r2,r3,r4,r5,r6,r7,r8,r9,r10,r11,r12,r13⟩:Rul) (⟨s0,s1,s2,s3,s4,s5,s6,s7,s8,s9,s10,s11,s12,s13,s14,s15,s16,s17,s18,s19,s20,s21,s22,s23,s24,s25,s26,s27⟩:Inn) p)]:Option (List PV))=RR;simp only [NJ,RH,R1,lq9,std,xOf,PXb,PXc,PXn,PXm,Nat.reduceAdd,Int.reduceBEq,C9 hN hs,Pd];subst hres;simp only [bV];cases hp:inR p s19.length with
 | false=>rfl
 | true=>rw [LO hp h.bd];cases BK (⟨r0,r1,r2,r3,r4,r5,r6,r7,r8,r9,r10,r11,r12,r13⟩:Rul)==0<;>cases r5==0<;>rfl
theorem L0 {N:Nat} {L:Rows} {v:Int} (hN:2097152<N) (hl:L.length≤1048576):Aq N [.rows L,.int v]=some [.bool (KR L L.length v)]:=by
 exact KW N L v (by omega) (by omega)
def OI (r:Rul) (s:Inn) (p:Int):Int :=
  cond (!inR p s.bowled.length || !(BK r==0)) 3 (cond (p==s.keeper||p==s.bowler||HU s p) 7
    (cond (KR s.before s.before.length p) 8 (cond (!(bV r s p == -1)&&iLt s.inover (IntKind.i64.wrap (r.balls - bV r s p))) 9 0)))
theorem qF {p:Int} {n m:Nat} (h:inR p n=true):inR p m=iLe p (m:Int):=by
 unfold inR at h ⊢;rw [zzj] at h;rw [h.1,Bool.true_and]
theorem lg {N:Nat} {r8:Bool} {r0:ByteArray} {r13:Rows} {s18 s20:Bool} {p:Int} (h:Fit s14 s16 s17 s19 s24) (hN:2097152<N) (hs:r0.size≤1048576):Kk N [.str r0,.int r1,.int r2,.int r3,.int r4,.int r5,.int r6,.int r7,.bool r8,.int r9,.int r10,.int r11,.int r12,.rows r13,.int s0,.int s1,.int s2,.int s3,.int s4,.int s5,.int s6,.int s7,.int s8,.int s9,.int s10,.int s11,.int s12,.int s13,.rows s14,.int s15,.rows s16,.rows s17,.bool s18,.rows s19,.bool s20,.int s21,.int s22,.int s23,.rows s24,.int s25,.int s26,.int s27,.int p]=some [.int (OI (⟨r0,r1,r2,r3,r4,r5,r6,r7,r8,r9,r10,r11,r12,r13⟩:Rul) (⟨s0,s1,s2,s3,s4,s5,s6,s7,s8,s9,s10,s11,s12,s13,s14,s15,s16,s17,s18,s19,s20,s21,s22,s23,s24,s25,s26,s27⟩:Inn) p)]:=by
 show Oq (std (FT N) N) (xOf _)=_;generalize hres:(some [.int (OI (⟨r0,r1,r2,r3,r4,r5,r6,r7,r8,r9,r10,r11,r12,r13⟩:Rul) (⟨s0,s1,s2,s3,s4,s5,s6,s7,s8,s9,s10,s11,s12,s13,s14,s15,s16,s17,s18,s19,s20,s21,s22,s23,s24,s25,s26,s27⟩:Inn) p)]:Option (List PV))=RR;simp only [Oq,SE,MB,SH,TP,lq9,std,xOf,PXb,PXc,PXn,PXm,Nat.reduceAdd,Int.reduceBEq,C9 hN hs,Pd,kW h hN hs,L0 hN h.bf];subst hres;simp only [OI,HU];cases hp:inR p s19.length with
 | false=>rfl
 | true =>
  rw [qF (m:=s24.length) hp];have hq:(!(iLe p (s24.length:Int))||iIn (IntKind.i64.wrap (p - 1)) (s24.length:Int))=true:=by
   cases h1:iLe p (s24.length:Int) with
   | false=>rfl
   | true=>rw [LO (by rw [qF hp];exact h1) h.sb];rfl
  rw [hq];cases BK (⟨r0,r1,r2,r3,r4,r5,r6,r7,r8,r9,r10,r11,r12,r13⟩:Rul)==0<;>rfl
def VO (r:Rul) (s:Inn) (p:Int):Inn×Int:=(cond (OI r s p==0) { s with bowler:=p } s,OI r s p)
theorem jE {N:Nat} {r8:Bool} {r0:ByteArray} {r13:Rows} {s18 s20:Bool} {p:Int} (h:Fit s14 s16 s17 s19 s24) (hN:2097152<N) (hs:r0.size≤1048576):Jj N [.str r0,.int r1,.int r2,.int r3,.int r4,.int r5,.int r6,.int r7,.bool r8,.int r9,.int r10,.int r11,.int r12,.rows r13,.int s0,.int s1,.int s2,.int s3,.int s4,.int s5,.int s6,.int s7,.int s8,.int s9,.int s10,.int s11,.int s12,.int s13,.rows s14,.int s15,.rows s16,.rows s17,.bool s18,.rows s19,.bool s20,.int s21,.int s22,.int s23,.rows s24,.int s25,.int s26,.int s27,.int p]=some (BM (VO (⟨r0,r1,r2,r3,r4,r5,r6,r7,r8,r9,r10,r11,r12,r13⟩:Rul) (⟨s0,s1,s2,s3,s4,s5,s6,s7,s8,s9,s10,s11,s12,s13,s14,s15,s16,s17,s18,s19,s20,s21,s22,s23,s24,s25,s26,s27⟩:Inn) p)):=by
 show Mv (std (KE N) N) (xOf _)=_;generalize hres:(some (BM (VO (⟨r0,r1,r2,r3,r4,r5,r6,r7,r8,r9,r10,r11,r12,r13⟩:Rul) (⟨s0,s1,s2,s3,s4,s5,s6,s7,s8,s9,s10,s11,s12,s13,s14,s15,s16,s17,s18,s19,s20,s21,s22,s23,s24,s25,s26,s27⟩:Inn) p)):Option (List PV))=RR;simp only [Mv,TT,TN,lq9,std,xOf,PXb,PXc,PXn,PXm,Nat.reduceAdd,Int.reduceBEq,TQ h,lg h hN hs];subst hres;simp only [VO];cases OI (⟨r0,r1,r2,r3,r4,r5,r6,r7,r8,r9,r10,r11,r12,r13⟩:Rul) (⟨s0,s1,s2,s3,s4,s5,s6,s7,s8,s9,s10,s11,s12,s13,s14,s15,s16,s17,s18,s19,s20,s21,s22,s23,s24,s25,s26,s27⟩:Inn) p==0<;>rfl
def ro (x:Inn×Bool):List PV:=[.int x.1.side,.int x.1.target,.int x.1.overs,.int x.1.runs,.int x.1.wickets,.int x.1.wides,.int x.1.noballs,.int x.1.byes,.int x.1.legbyes,.int x.1.pens,.int x.1.complete,.int x.1.inover,.int x.1.striker,.int x.1.other,.rows x.1.batters,.int x.1.bowler,.rows x.1.bowlers,.rows x.1.before,.bool x.1.fresh,.rows x.1.bowled,.bool x.1.freehit,.int x.1.ballage,.int x.1.keeper,.int x.1.outside,.rows x.1.subs,.int x.1.rev1,.int x.1.rev2,.int x.1.ending,.bool x.2]
def inc (x:Int):Int:=IntKind.i64.wrap (x+1)
def Ao (r:Rul) (s:Inn) (counts:Bool):Inn×Bool :=
  cond (!inR s.bowler s.bowled.length || !(BK r==0)) (s,false)
    (let L:=cond (KR s.bowlers s.bowlers.length s.bowler) s.bowlers (s.bowlers++[[.int s.bowler]])
     let o:=cond counts (inc s.inover) s.inover
     let t:Inn:={ s with bowlers:=L,bowled:=cond counts (ON s.bowled s.bowler (inc (atI s.bowled (ix s.bowler) 0))) s.bowled,inover:=o,ballage:=cond counts (inc s.ballage) s.ballage }
     cond (iLt o r.balls) (t,false) ({ t with complete:=inc s.complete,inover:=0,before:=L,bowlers:=[],bowler:=0 },true))
theorem jW {N:Nat} {r8:Bool} {r0:ByteArray} {r13:Rows} {s18 s20:Bool} {b:Bool} (h:Fit s14 s16 s17 s19 s24) (hw:s16.length≤1048575) (hN:2097152<N) (hs:r0.size≤1048576):JN N [.str r0,.int r1,.int r2,.int r3,.int r4,.int r5,.int r6,.int r7,.bool r8,.int r9,.int r10,.int r11,.int r12,.rows r13,.int s0,.int s1,.int s2,.int s3,.int s4,.int s5,.int s6,.int s7,.int s8,.int s9,.int s10,.int s11,.int s12,.int s13,.rows s14,.int s15,.rows s16,.rows s17,.bool s18,.rows s19,.bool s20,.int s21,.int s22,.int s23,.rows s24,.int s25,.int s26,.int s27,.bool b]=some (ro (Ao (⟨r0,r1,r2,r3,r4,r5,r6,r7,r8,r9,r10,r11,r12,r13⟩:Rul) (⟨s0,s1,s2,s3,s4,s5,s6,s7,s8,s9,s10,s11,s12,s13,s14,s15,s16,s17,s18,s19,s20,s21,s22,s23,s24,s25,s26,s27⟩:Inn) b)):=by
 show Mr (std (Em N) N) (xOf _)=_;generalize hres:(some (ro (Ao (⟨r0,r1,r2,r3,r4,r5,r6,r7,r8,r9,r10,r11,r12,r13⟩:Rul) (⟨s0,s1,s2,s3,s4,s5,s6,s7,s8,s9,s10,s11,s12,s13,s14,s15,s16,s17,s18,s19,s20,s21,s22,s23,s24,s25,s26,s27⟩:Inn) b)):Option (List PV))=RR;have ha:(s16++[[PV.int s15]]).length≤1048576:=by simp;omega
 simp only [Mr,Rh,Lq,TF,Re,lq9,std,xOf,PXb,PXc,PXn,PXm,Nat.reduceAdd,Int.reduceBEq,TQ h,Pd,C9 hN hs,L0 hN h.bw',vF ha (show 8≤4096 by omega)];subst hres;simp only [Ao];cases hp:inR s15 s19.length with
 | false=>rfl
 | true =>
  rw [LO hp h.bd];cases BK (⟨r0,r1,r2,r3,r4,r5,r6,r7,r8,r9,r10,r11,r12,r13⟩:Rul)==0<;>try rfl
  cases KR s16 s16.length s15<;>cases b<;>simp only [PXb,PXc,PXn,PXm,Nat.reduceAdd,Int.reduceBEq,inc]
  all_goals first | (cases iLt s11 r4<;>rfl) | (cases iLt (IntKind.i64.wrap (s11+1)) r4<;>rfl)
def Lj (r:Rul) (s:Inn):Inn×Int :=
 cond (!(BK r==0)||r.newball==0||iLt s.ballage (IntKind.i64.wrap (r.newball * r.balls))) (s,22) ({ s with ballage:=0 },0)
theorem aR {N:Nat} {r8:Bool} {r0:ByteArray} {r13:Rows} {s18 s20:Bool} (h:Fit s14 s16 s17 s19 s24) (hN:2097152<N) (hs:r0.size≤1048576):Fk N [.str r0,.int r1,.int r2,.int r3,.int r4,.int r5,.int r6,.int r7,.bool r8,.int r9,.int r10,.int r11,.int r12,.rows r13,.int s0,.int s1,.int s2,.int s3,.int s4,.int s5,.int s6,.int s7,.int s8,.int s9,.int s10,.int s11,.int s12,.int s13,.rows s14,.int s15,.rows s16,.rows s17,.bool s18,.rows s19,.bool s20,.int s21,.int s22,.int s23,.rows s24,.int s25,.int s26,.int s27]=some (BM (Lj (⟨r0,r1,r2,r3,r4,r5,r6,r7,r8,r9,r10,r11,r12,r13⟩:Rul) (⟨s0,s1,s2,s3,s4,s5,s6,s7,s8,s9,s10,s11,s12,s13,s14,s15,s16,s17,s18,s19,s20,s21,s22,s23,s24,s25,s26,s27⟩:Inn))):=by
 show Ik (std (GO N) N) (xOf _)=_;generalize hres:(some (BM (Lj (⟨r0,r1,r2,r3,r4,r5,r6,r7,r8,r9,r10,r11,r12,r13⟩:Rul) (⟨s0,s1,s2,s3,s4,s5,s6,s7,s8,s9,s10,s11,s12,s13,s14,s15,s16,s17,s18,s19,s20,s21,s22,s23,s24,s25,s26,s27⟩:Inn))):Option (List PV))=RR;simp only [Ik,PG,QR,lq9,std,xOf,PXb,PXc,PXn,PXm,Nat.reduceAdd,Int.reduceBEq,TQ h,C9 hN hs];subst hres;simp only [Lj];cases (!(BK (⟨r0,r1,r2,r3,r4,r5,r6,r7,r8,r9,r10,r11,r12,r13⟩:Rul)==0)||r9==0||iLt s21 (IntKind.i64.wrap (r9 * r4)))<;>rfl
def kN (r:Rul) (over:Int):Int :=
 match A5 (fun i=>cond (iLe (atI r.power i 0) (inc over)&&iLe (inc over) (atI r.power i 1)) (some [.int (atI r.power i 2)]) none) r.power.length 0 with
 | some x=>pvI (AA x 0)
 | none=>r.outside
theorem br {N:Nat} {r8:Bool} {r0:ByteArray} {r13:Rows} {o:Int} (hN:2097152<N) (h13:r13.length≤1048576):Ft N [.str r0,.int r1,.int r2,.int r3,.int r4,.int r5,.int r6,.int r7,.bool r8,.int r9,.int r10,.int r11,.int r12,.rows r13,.int o]=some [.int (kN (⟨r0,r1,r2,r3,r4,r5,r6,r7,r8,r9,r10,r11,r12,r13⟩:Rul) o)]:=by
 show Im (std (P6 N) N) (xOf _)=_;simp only [Im,lq9,std,xOf,PXb,PXc,PXn,AG];refine AU (Bp (len:=r13.length) (fun i=>cond (iLe (atI r13 i 0) (inc o)&&iLe (inc o) (atI r13 i 1)) (some [.int (atI r13 i 2)]) none) ?_ ?_ r13.length 0 N (by omega) (by omega)) ?_
 ·intro self;simp only [PXb,PXc,PXn,AG,A2]
 ·intro i self hi;simp only [PXb,PXc,PXn,AG,Ax (show i≤1099511627776 by omega),Av hi,AN hi];cases hq:iLe (atI r13 i 0) (inc o)&&iLe (inc o) (atI r13 i 1)<;>unfold inc atI at hq<;>rw [hq]<;>rfl
 ·unfold kN;cases A5 (fun i=>cond (iLe (atI r13 i 0) (inc o)&&iLe (inc o) (atI r13 i 1)) (some [.int (atI r13 i 2)]) none) r13.length 0<;>rfl
def N3 (s:Inn) (p:Int):Inn×Int :=
 cond (!inR p s.subs.length) (s,3) (cond (HU s p) (s,18) (cond (p==s.bowler||p==s.keeper) (s,17) ({ s with keeper:=p },0)))
theorem eS {N:Nat} {s18 s20:Bool} {p:Int} (h:Fit s14 s16 s17 s19 s24):Gw N [.int s0,.int s1,.int s2,.int s3,.int s4,.int s5,.int s6,.int s7,.int s8,.int s9,.int s10,.int s11,.int s12,.int s13,.rows s14,.int s15,.rows s16,.rows s17,.bool s18,.rows s19,.bool s20,.int s21,.int s22,.int s23,.rows s24,.int s25,.int s26,.int s27,.int p]=some (BM (N3 (⟨s0,s1,s2,s3,s4,s5,s6,s7,s8,s9,s10,s11,s12,s13,s14,s15,s16,s17,s18,s19,s20,s21,s22,s23,s24,s25,s26,s27⟩:Inn) p)):=by
 show KH (std (E8 N) N) (xOf _)=_;generalize hres:(some (BM (N3 (⟨s0,s1,s2,s3,s4,s5,s6,s7,s8,s9,s10,s11,s12,s13,s14,s15,s16,s17,s18,s19,s20,s21,s22,s23,s24,s25,s26,s27⟩:Inn) p)):Option (List PV))=RR;simp only [KH,RO,Pq,NU,lq9,std,xOf,PXb,PXc,PXn,PXm,Nat.reduceAdd,Int.reduceBEq,TX h,H3,Hi h.sb];subst hres;simp only [N3];cases inR p s24.length<;>cases HU (⟨s0,s1,s2,s3,s4,s5,s6,s7,s8,s9,s10,s11,s12,s13,s14,s15,s16,s17,s18,s19,s20,s21,s22,s23,s24,s25,s26,s27⟩:Inn) p<;>cases p==s15<;>cases p==s22<;>rfl
def Rn (s:Inn) (p:Int) (on:Bool):Inn×Int :=
  cond (!inR p s.subs.length) (s,3) (cond (HU s p==on) (s,18)
    ({ s with subs:=qz s.subs p on,keeper:=cond (on&&s.keeper==p) 0 s.keeper,bowler:=cond (on&&s.bowler==p) 0 s.bowler },0))
theorem W6 {N:Nat} {s18 s20:Bool} {p:Int} {b:Bool} (h:Fit s14 s16 s17 s19 s24):De N [.int s0,.int s1,.int s2,.int s3,.int s4,.int s5,.int s6,.int s7,.int s8,.int s9,.int s10,.int s11,.int s12,.int s13,.rows s14,.int s15,.rows s16,.rows s17,.bool s18,.rows s19,.bool s20,.int s21,.int s22,.int s23,.rows s24,.int s25,.int s26,.int s27,.int p,.bool b]=some (BM (Rn (⟨s0,s1,s2,s3,s4,s5,s6,s7,s8,s9,s10,s11,s12,s13,s14,s15,s16,s17,s18,s19,s20,s21,s22,s23,s24,s25,s26,s27⟩:Inn) p b)):=by
 show Fh (std (C3 N) N) (xOf _)=_;generalize hres:(some (BM (Rn (⟨s0,s1,s2,s3,s4,s5,s6,s7,s8,s9,s10,s11,s12,s13,s14,s15,s16,s17,s18,s19,s20,s21,s22,s23,s24,s25,s26,s27⟩:Inn) p b)):Option (List PV))=RR;simp only [Fh,Nq,Mp,Kc,lq9,std,xOf,PXb,PXc,PXn,PXm,Nat.reduceAdd,Int.reduceBEq,TX h,H3,Hi h.sb];subst hres;simp only [Rn];cases hp:inR p s24.length<;>try rfl
 rw [LO hp h.sb];cases HU (⟨s0,s1,s2,s3,s4,s5,s6,s7,s8,s9,s10,s11,s12,s13,s14,s15,s16,s17,s18,s19,s20,s21,s22,s23,s24,s25,s26,s27⟩:Inn) p==b<;>cases b<;>cases s22==p<;>cases s15==p<;>rfl
def LX (s:Inn) (n:Int):Inn×Int :=
 cond (iLt n 0||iLt (IntKind.i64.wrap ((s.subs.length:Int) - 2)) n) (s,16) ({ s with outside:=n },0)
theorem cm {N:Nat} {s18 s20:Bool} {n:Int} (h:Fit s14 s16 s17 s19 s24):Fy N [.int s0,.int s1,.int s2,.int s3,.int s4,.int s5,.int s6,.int s7,.int s8,.int s9,.int s10,.int s11,.int s12,.int s13,.rows s14,.int s15,.rows s16,.rows s17,.bool s18,.rows s19,.bool s20,.int s21,.int s22,.int s23,.rows s24,.int s25,.int s26,.int s27,.int n]=some (BM (LX (⟨s0,s1,s2,s3,s4,s5,s6,s7,s8,s9,s10,s11,s12,s13,s14,s15,s16,s17,s18,s19,s20,s21,s22,s23,s24,s25,s26,s27⟩:Inn) n)):=by
 show I1 (std (KL N) N) (xOf _)=_;generalize hres:(some (BM (LX (⟨s0,s1,s2,s3,s4,s5,s6,s7,s8,s9,s10,s11,s12,s13,s14,s15,s16,s17,s18,s19,s20,s21,s22,s23,s24,s25,s26,s27⟩:Inn) n)):Option (List PV))=RR;simp only [I1,Qc,lq9,std,xOf,PXb,PXc,PXn,PXm,Nat.reduceAdd,Int.reduceBEq,TX h];subst hres;simp only [LX];cases (iLt n 0||iLt (IntKind.i64.wrap ((s24.length:Int) - 2)) n)<;>rfl
def Rz (r:Rul) (s:Inn):Int :=
 cond (!inR s.keeper s.subs.length||HU s s.keeper||s.keeper==s.bowler) 17 (cond (iLt (kN r s.complete) s.outside) 16 0)
theorem fh {N:Nat} {r8:Bool} {r0:ByteArray} {r13:Rows} {s18 s20:Bool} (h:Fit s14 s16 s17 s19 s24) (hN:2097152<N) (h13:r13.length≤1048576):IC N [.str r0,.int r1,.int r2,.int r3,.int r4,.int r5,.int r6,.int r7,.bool r8,.int r9,.int r10,.int r11,.int r12,.rows r13,.int s0,.int s1,.int s2,.int s3,.int s4,.int s5,.int s6,.int s7,.int s8,.int s9,.int s10,.int s11,.int s12,.int s13,.rows s14,.int s15,.rows s16,.rows s17,.bool s18,.rows s19,.bool s20,.int s21,.int s22,.int s23,.rows s24,.int s25,.int s26,.int s27]=some [.int (Rz (⟨r0,r1,r2,r3,r4,r5,r6,r7,r8,r9,r10,r11,r12,r13⟩:Rul) (⟨s0,s1,s2,s3,s4,s5,s6,s7,s8,s9,s10,s11,s12,s13,s14,s15,s16,s17,s18,s19,s20,s21,s22,s23,s24,s25,s26,s27⟩:Inn))]:=by
 show LF (std (Fq N) N) (xOf _)=_;generalize hres:(some [.int (Rz (⟨r0,r1,r2,r3,r4,r5,r6,r7,r8,r9,r10,r11,r12,r13⟩:Rul) (⟨s0,s1,s2,s3,s4,s5,s6,s7,s8,s9,s10,s11,s12,s13,s14,s15,s16,s17,s18,s19,s20,s21,s22,s23,s24,s25,s26,s27⟩:Inn))]:Option (List PV))=RR;simp only [LF,Qb,Nn,Ov,lq9,std,xOf,PXb,PXc,PXn,PXm,Nat.reduceAdd,Int.reduceBEq,H3,Hi h.sb,br hN h13];subst hres;simp only [Rz];cases inR s22 s24.length<;>cases HU (⟨s0,s1,s2,s3,s4,s5,s6,s7,s8,s9,s10,s11,s12,s13,s14,s15,s16,s17,s18,s19,s20,s21,s22,s23,s24,s25,s26,s27⟩:Inn) s22<;>cases s22==s15<;>rfl
def Q5 (s:Inn) (d:Del):Int :=
  cond (iLt 0 d.fielder && !inR d.fielder s.subs.length) 3 (cond (iLt 0 d.fielder && !(d.sub==HU s d.fielder)) 18
    (cond (iLt 0 d.second && !inR d.second s.subs.length) 3 (cond (iLt 0 d.second&&HU s d.second) 18
      (cond (d.how==4 && !(nK d.fielder==s.keeper)) 17 0))))
theorem gI {N:Nat} {s18 s20:Bool} {d5 d10:Bool} (h:Fit s14 s16 s17 s19 s24):Hx N [.int s0,.int s1,.int s2,.int s3,.int s4,.int s5,.int s6,.int s7,.int s8,.int s9,.int s10,.int s11,.int s12,.int s13,.rows s14,.int s15,.rows s16,.rows s17,.bool s18,.rows s19,.bool s20,.int s21,.int s22,.int s23,.rows s24,.int s25,.int s26,.int s27,.int d0,.int d1,.int d2,.int d3,.int d4,.bool d5,.int d6,.int d7,.int d8,.int d9,.bool d10,.int d11]=some [.int (Q5 (⟨s0,s1,s2,s3,s4,s5,s6,s7,s8,s9,s10,s11,s12,s13,s14,s15,s16,s17,s18,s19,s20,s21,s22,s23,s24,s25,s26,s27⟩:Inn) (⟨d0,d1,d2,d3,d4,d5,d6,d7,d8,d9,d10,d11⟩:Del))]:=by
 show K9 (std (Ie N) N) (xOf _)=_;generalize hres:(some [.int (Q5 (⟨s0,s1,s2,s3,s4,s5,s6,s7,s8,s9,s10,s11,s12,s13,s14,s15,s16,s17,s18,s19,s20,s21,s22,s23,s24,s25,s26,s27⟩:Inn) (⟨d0,d1,d2,d3,d4,d5,d6,d7,d8,d9,d10,d11⟩:Del))]:Option (List PV))=RR;simp only [K9,QT,OK,lq9,std,xOf,PXb,PXc,PXn,PXm,Nat.reduceAdd,Int.reduceBEq,H3,Hi h.sb];subst hres;simp only [Q5,nK,uh];cases iLt 0 d8<;>cases iLt 0 d9<;>cases inR d8 s24.length<;>cases inR d9 s24.length<;>cases d10==HU (⟨s0,s1,s2,s3,s4,s5,s6,s7,s8,s9,s10,s11,s12,s13,s14,s15,s16,s17,s18,s19,s20,s21,s22,s23,s24,s25,s26,s27⟩:Inn) d8<;>cases HU (⟨s0,s1,s2,s3,s4,s5,s6,s7,s8,s9,s10,s11,s12,s13,s14,s15,s16,s17,s18,s19,s20,s21,s22,s23,s24,s25,s26,s27⟩:Inn) d9<;>rfl
structure Cre where
 batter:Int
 wides:Int
 noballs:Int
 byes:Int
 legbyes:Int
 bowler:Int
 counts:Bool
 faced:Bool
 wicket:Bool
 swap:Bool
def Cre.ls (c:Cre):List PV:=[.int c.batter,.int c.wides,.int c.noballs,.int c.byes,.int c.legbyes,.int c.bowler,.bool c.counts,.bool c.faced,.bool c.wicket,.bool c.swap]
def XZ (d:Del):Bool :=
  cond (d.type==2) (d.source==0 && !(d.boundary==6)) (cond (d.source==0) (d.runs==0&&d.boundary==0)
    (cond (d.boundary==0) (iLt 0 d.runs) (cond (d.boundary==6) (d.source==1&&d.runs==0) true)))
def EY (d:Del):Int :=
  cond (iLt d.type 1||iLt 3 d.type||iLt 3 d.source||iLt 10 d.how || !btw d.sector 0 8) 11
    (cond (!btw d.runs 0 7 || !btw d.short 0 d.runs||(!(d.boundary==0) && !(d.boundary==4) && !(d.boundary==6))) 12
      (cond (!XZ d) 11 (cond (!(d.sector==0) && !(d.source==1) && !(d.how==2)) 11 (cond (!(d.boundary==0) && !(d.how==0)) 11
        (cond (d.crossed && !(d.how==6) && !(d.how==8)) 11 0)))))
def Ki (d:Del):Bool :=
  cond (d.type==2) (d.source==0 && !(d.boundary==6)) (cond (d.source==0) (d.runs==0&&d.boundary==0)
    (cond (d.source==1) (!(d.boundary==6)||d.runs==0) (!(d.boundary==6)&&(iLt 0 d.runs || !(d.boundary==0)))))
theorem WW {N:Nat} {d5 d10:Bool}  : DN N [.int d0,.int d1,.int d2,.int d3,.int d4,.bool d5,.int d6,.int d7,.int d8,.int d9,.bool d10,.int d11]=some [.bool (Ki (⟨d0,d1,d2,d3,d4,d5,d6,d7,d8,d9,d10,d11⟩:Del))]:=by
 show FC (std (Ly N) N) (xOf _)=_;generalize hres:(some [.bool (Ki (⟨d0,d1,d2,d3,d4,d5,d6,d7,d8,d9,d10,d11⟩:Del))]:Option (List PV))=RR;simp only [FC,lq9,std,xOf,PXb,PXc,PXn,PXm,Nat.reduceAdd,Int.reduceBEq];subst hres;simp only [Ki]
theorem wF (x a b:Int):(!btw x a b)=(iLt x a||iLt b x):=by
 unfold btw iLe iLt;rw [Bool.eq_iff_iff];simp only [Bool.not_eq_true',Bool.and_eq_false_iff,decide_eq_false_iff_not,Bool.or_eq_true,decide_eq_true_eq];omega
theorem tp {d:Del} (h:0≤d.runs):(!Ki d || !d.type==2&&d.source==1&&d.runs==0&&d.boundary==0) = !XZ d:=by
 unfold Ki XZ;rw [su h];cases h1:d.source==0 with
 | true =>
  rw [dX h1 (c:=1) rfl];cases d.type==2<;>cases d.runs==0<;>cases d.boundary==0<;>cases d.boundary==6<;>rfl
 | false =>
  cases h2:d.boundary==0 with
  | true =>
   rw [dX h2 (c:=6) rfl];cases d.type==2<;>cases d.source==1<;>cases d.runs==0<;>rfl
  | false=>cases d.type==2<;>cases d.source==1<;>cases d.runs==0<;>cases d.boundary==6<;>rfl
theorem Ri {N:Nat} {d5 d10:Bool}  : CE N [.int d0,.int d1,.int d2,.int d3,.int d4,.bool d5,.int d6,.int d7,.int d8,.int d9,.bool d10,.int d11]=some [.int (EY (⟨d0,d1,d2,d3,d4,d5,d6,d7,d8,d9,d10,d11⟩:Del))]:=by
 show Hk (std (Jc N) N) (xOf _)=_;generalize hres:(some [.int (EY (⟨d0,d1,d2,d3,d4,d5,d6,d7,d8,d9,d10,d11⟩:Del))]:Option (List PV))=RR;simp only [Hk,KK,lq9,std,xOf,PXb,PXc,PXn,PXm,Nat.reduceAdd,Int.reduceBEq,WW];subst hres;simp only [EY,wF,Bool.or_assoc];cases h2:(iLt d2 0||(iLt 7 d2||(iLt d3 0||(iLt d2 d3 || !d4==0 && !d4==4 && !d4==6)))) with
 | true=>rfl
 | false =>
  have h3:0≤d2:=by
   rw [Bool.or_eq_false_iff] at h2;have:=h2.1;simp only [iLt,decide_eq_false_iff_not] at this;omega
  have:=tp (d:=(⟨d0,d1,d2,d3,d4,d5,d6,d7,d8,d9,d10,d11⟩:Del)) h3;simp only at this;rw [this]
theorem Zy {N:Nat} {a:Int} {b:Int} {c:Int} {d:Int} {e:Int} {x:Int} {p:Bool} {q:Bool} {u:Bool} {v:Bool}  : E1 N [.int a,.int b,.int c,.int d,.int e,.int x,.bool p,.bool q,.bool u,.bool v]=some [.int (IntKind.i64.wrap (IntKind.i64.wrap (IntKind.i64.wrap (IntKind.i64.wrap (a+b)+c)+d)+e))]:=by
 rfl
def Ew (c:Cre):Int:=IntKind.i64.wrap (IntKind.i64.wrap (IntKind.i64.wrap (IntKind.i64.wrap (c.batter+c.wides)+c.noballs)+c.byes)+c.legbyes)
def eC (h:Int):Bool:=iLe 1 h&&iLe h 5
theorem WR {N:Nat} {h:Int}  : DI N [.int h]=some [.bool (eC h)]:=by
 show FJ (std (L1 N) N) (xOf _)=_;simp only [FJ,lq9,std,xOf,PXb,PXc,PXn,PXm,Nat.reduceAdd,Int.reduceBEq,eC]
def SV (r:Rul) (d:Del):Cre :=
  let n:=IntKind.i64.wrap (IntKind.i64.wrap (d.runs - d.short)+d.boundary)
  let b:=cond (!(d.type==2)&&d.source==1) n 0
  let w:=cond (d.type==2) (IntKind.i64.wrap (r.wide+n)) 0
  let o:=cond (d.type==3) r.noball 0
  { batter:=b,wides:=w,noballs:=o,byes:=cond (!(d.type==2)&&d.source==2) n 0,legbyes:=cond (!(d.type==2)&&d.source==3) n 0,bowler:=IntKind.i64.wrap (IntKind.i64.wrap (b+w)+o),
    counts:=d.type==1,faced := !(d.type==2),wicket:=eC d.how,swap := !((!(d.runs.tmod 2==0))==d.crossed) }
def AE (r:Rul) (d:Del):Cre:=cond (!(EY d==0)) ⟨0,0,0,0,0,0,false,false,false,false⟩ (SV r d)
theorem mo {d:Del} (h:(EY d==0)=true):0≤d.runs∧d.runs≤7:=by
 unfold EY at h;cases h1:(iLt d.type 1||iLt 3 d.type||iLt 3 d.source||iLt 10 d.how || !btw d.sector 0 8) with
 | true=>rw [h1] at h;cases h
 | false =>
  cases h2:(!btw d.runs 0 7 || !btw d.short 0 d.runs||(!(d.boundary==0) && !(d.boundary==4) && !(d.boundary==6))) with
  | true=>rw [h1,h2] at h;cases h
  | false =>
   rw [Bool.or_eq_false_iff,Bool.or_eq_false_iff] at h2;have:=h2.1.1;simp only [btw,iLe,Bool.not_eq_false',zzj,decide_eq_true_eq] at this;exact this
theorem ss {n:Int} (h:0≤n∧n≤7) (b:Bool):((cond b (IntKind.i64.wrap (n+1)) n).tmod 2==1) = !((!(n.tmod 2==0))==b):=by
 obtain ⟨k,rfl⟩:∃ k:Nat,n=k:=⟨n.toNat,by omega⟩;have:k=0∨k=1∨k=2∨k=3∨k=4∨k=5∨k=6∨k=7:=by omega
 rcases this with h | h | h | h | h | h | h | h<;>subst h<;>cases b<;>rfl
theorem P2 {N:Nat} {r8:Bool} {r0:ByteArray} {r13:Rows} {d5 d10:Bool}  : B6 N [.str r0,.int r1,.int r2,.int r3,.int r4,.int r5,.int r6,.int r7,.bool r8,.int r9,.int r10,.int r11,.int r12,.rows r13,.int d0,.int d1,.int d2,.int d3,.int d4,.bool d5,.int d6,.int d7,.int d8,.int d9,.bool d10,.int d11]=some (AE (⟨r0,r1,r2,r3,r4,r5,r6,r7,r8,r9,r10,r11,r12,r13⟩:Rul) (⟨d0,d1,d2,d3,d4,d5,d6,d7,d8,d9,d10,d11⟩:Del)).ls:=by
 show GS (std (FF N) N) (xOf _)=_;generalize hres:(some (AE (⟨r0,r1,r2,r3,r4,r5,r6,r7,r8,r9,r10,r11,r12,r13⟩:Rul) (⟨d0,d1,d2,d3,d4,d5,d6,d7,d8,d9,d10,d11⟩:Del)).ls:Option (List PV))=RR;simp only [GS,Ll,J1,lq9,std,xOf,PXb,PXc,PXn,PXm,Nat.reduceAdd,Int.reduceBEq,Ri,WR];subst hres;simp only [AE,SV];cases hl:EY (⟨d0,d1,d2,d3,d4,d5,d6,d7,d8,d9,d10,d11⟩:Del)==0 with
 | false=>rfl
 | true =>
  have hs:=ss (mo hl) d5;simp only at hs;simp only [PXb,PXc,PXn,PXm,Nat.reduceAdd,Int.reduceBEq,hs];cases h0:d0==2<;>cases h3:d0==3<;>cases h1:d1==1<;>cases h2:d1==2<;>cases h4:d1==3<;>first
   | rfl
   | (rw [dX h0 (c:=3) rfl] at h3;exact absurd h3 (by decide))
   | (rw [dX h1 (c:=2) rfl] at h2;exact absurd h2 (by decide))
   | (rw [dX h1 (c:=3) rfl] at h4;exact absurd h4 (by decide))
   | (rw [dX h2 (c:=3) rfl] at h4;exact absurd h4 (by decide))
end Go.Px
end
