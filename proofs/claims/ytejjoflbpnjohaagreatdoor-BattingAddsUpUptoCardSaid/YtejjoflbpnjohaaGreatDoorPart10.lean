/- Part 10. -/
import Derived.Test.YtejjoflbpnjohaaGreatDoorPart07
import Derived.Test.YtejjoflbpnjohaaGreatDoorPart09
import Derived.Test.YtejjoflbpnjohaaGreatDoorPart08
set_option linter.unusedVariables false
set_option linter.unusedSimpArgs false
variable {s0 s1 s2 s3 s4 s5 s6 s7 s8 s9 s10 s11 s12 s13 s15 s21 s22 s23 s25 s26 s27:Int}
variable {s14 s16 s17 s19 s24:Go.Px.Rows}
variable {r1 r2 r3 r4 r5 r6 r7 r9 r10 r11 r12:Int}
variable {d0 d1 d2 d3 d4 d6 d7 d8 d9 d11:Int}
section
namespace Go.Px
set_option maxRecDepth 100000
def Ty:List Nat:=[2,0,0,0,0,0,0,0,1,0,0,0,0,3,3]
def KQ (O:Alg) (x:Ags O):O.M:=let u17:=(lq9 O 1);let u16:=(lq9 O 0);(O.c (O.g 27 [] (xr x [2,0,0,0,0,0,0,0,1,0,0,0,0,3,3] 0)) fun c0=>(O.b (O.h (O.e (O.d c0 0) u16)) (O.a [.rows O.y,.int (O.d c0 0)]) (O.c (O.g 55 [] [.rows (x.L 14)]) fun c1=>let u14:=(O.l (O.p c1 0));(O.k (O.u u14 80) (O.c (O.g 17 [] [.rows (x.L 14)]) fun c2=>let u15:=(O.l (O.p c2 0));(O.c (O.w (fun s3 c3=>let u18:=(O.d c3 1);let u13:=(O.o (O.p c2 0) u18 1);let u12:=(O.o (O.p c2 0) u18 0);let u9:=(O.ao (x.L 14) u12 u13);let u8:=(O.l u9);(O.b (O.n u18 u15) (O.k (O.r u18 u15) (O.k (O.r u18 (O.l (O.p c3 0))) (O.k (O.r u18 u14) (O.k (O.am u12 u13 (O.l (x.L 14))) (O.c (O.w (fun s4 c4=>let u22:=(O.p c4 0);let u19:=(O.d c4 1);let u11:=(O.q .i64 u19 u17);let u5:=(O.o u9 u19 0);(O.b (O.n u19 u8) (O.k (O.r u19 u8) (O.c (O.g 56 [] (rr O u9 u19 [0,0,0,0,1,0,0,0,0,0,0,0,1,0,0,0,0,1,0] 0)) fun c5=>(O.c (O.b (O.m c5 0) (O.a [.rows (O.x u22 u18 2 [.int (O.q .i64 (O.o u22 u18 2) u17)])]) (O.a [.rows u22])) fun c6=>let u20:=(O.p c6 0);(O.b (O.e u5 (O.lit .u8 4)) (O.c (O.g 57 [] (ap O (xr x kR 0) (rr O u9 u19 [0,0,0,0,0,1,0,0,0,0,1,0] 7))) fun c7=>(O.c (O.g 58 [] (cr O c7 [0,0,0,0,0,0,1,1,1,1] 0)) fun c8=>let u7:=(O.x u20 u18 1 [.int (O.q .i64 (O.o u20 u18 1) (O.d c8 0))]);let u3:=(O.x u7 u18 4 [.int (O.q .i64 (O.o u7 u18 4) (O.d c7 1))]);let u2:=(O.x u3 u18 5 [.int (O.q .i64 (O.o u3 u18 5) (O.d c7 2))]);let u1:=(O.x u2 u18 6 [.int (O.q .i64 (O.o u2 u18 6) (O.d c7 3))]);let u0:=(O.x u1 u18 7 [.int (O.q .i64 (O.o u1 u18 7) (O.d c7 4))]);(O.b (O.m c7 6) (s4 [.rows (O.x u0 u18 3 [.int (O.q .i64 (O.o u0 u18 3) u17)]),.int u11]) (s4 [.rows u0,.int u11])))) (O.b (O.e u5 (O.lit .u8 13)) (O.c (O.g 59 [] [.rows (O.p c1 0),.int u18,.int (O.o u9 u19 1)]) fun c7=>let u21:=(O.d c7 0);let u10:=(O.r u21 (O.l u20));let u6:=(O.x u20 u21 1 [.int (O.q .i64 (O.o u20 u21 1) (lq9 O 5))]);let u4:=(O.r u21 (O.l u6));(O.b (O.t u16 u21) (O.k u10 (O.k u10 (O.k u4 (O.k u4 (s4 [.rows (O.x u6 u21 8 [.int (O.q .i64 (O.o u6 u21 8) (lq9 O 5))]),.int u11]))))) (s4 [.rows u20,.int u11]))) (s4 [.rows u20,.int u11])))))) (O.a [.rows u22,.int u19]))) [.rows (O.x (O.p c3 0) u18 0 [.int (O.o (O.p c1 0) u18 0)]),.int u16]) fun c4=>(s3 [.rows (O.p c4 0),.int (O.q .i64 u18 u17)])))))) (O.a [.rows (O.p c3 0)]))) [.rows (O.aq u14 [.int u16,.int u16,.int u16,.int u16,.int u16,.int u16,.int u16,.int u16,.int u16,.int (O.lit .u8 0)]),.int u16]) fun c3=>(O.a [.rows (O.p c3 0),.int u16])))))))
def CA:Nat→Env:=eL [(17,BR),(27,Cx),(55,Ia),(56,Ky),(57,A1),(58,Ca),(59,Ij)]
theorem O6 {N ls}:CA N 17 [] ls=BR N ls:=id rfl
theorem SB {N ls}:CA N 27 [] ls=Cx N ls:=id rfl
theorem Pv {N ls}:CA N 55 [] ls=Ia N ls:=id rfl
theorem J4 {N ls}:CA N 56 [] ls=Ky N ls:=id rfl
theorem Fz {N ls}:CA N 57 [] ls=A1 N ls:=id rfl
theorem Gp {N ls}:CA N 58 [] ls=Ca N ls:=id rfl
theorem RI {N ls}:CA N 59 [] ls=Ij N ls:=id rfl
def KA:=oS Ty KQ CA
def Sd:List Nat:=[2,0,0,0,0,0,0,0,1,0,0,0,0,3,3,0]
def JC (O:Alg) (x:Ags O):O.M:=let u7:=(lq9 O 0);(O.c (O.g 27 [] (xr x [2,0,0,0,0,0,0,0,1,0,0,0,0,3,3] 0)) fun c0=>(O.b (O.h (O.e (O.d c0 0) u7)) (O.a [.int u7,.int u7,.int u7,.int u7,.int u7,.int u7,.bool O.f,.bool O.f,.bool O.f,.bool O.f,.int (O.d c0 0)]) (O.c (O.g 17 [] [.rows (x.L 14)]) fun c1=>let u9:=(O.p c1 0);let u6:=(O.l u9);let u5:=(O.o u9 (x.I 15) 1);let u4:=(O.o u9 (x.I 15) 0);let u3:=(O.r (x.I 15) u6);let u1:=(O.ao (x.L 14) u4 u5);let u0:=(O.l u1);(O.b (O.i (O.n (x.I 15) u7) O.j (O.t u6 (x.I 15))) (O.a [.int u7,.int u7,.int u7,.int u7,.int u7,.int u7,.bool O.f,.bool O.f,.bool O.f,.bool O.f,.int (lq9 O 2)]) (O.k u3 (O.k u3 (O.k (O.am u4 u5 (O.l (x.L 14))) (O.c (O.w (fun s2 c2=>let u8:=(O.d c2 0);let u2:=(O.q .i64 u8 (lq9 O 1));(O.b (O.n u8 u0) (O.k (O.r u8 u0) (O.b (O.h (O.e (O.o u1 u8 0) (O.lit .u8 4))) (s2 (ap O [.int u2] (cr O c2 [0,0,0,0,0,0,1,1,1,1] 1))) (O.c (O.g 57 [] (ap O (xr x kR 0) (rr O u1 u8 [0,0,0,0,0,1,0,0,0,0,1,0] 7))) fun c3=>(s2 (ap O [.int u2,.int (O.q .i64 (O.d c2 1) (O.d c3 0)),.int (O.q .i64 (O.d c2 2) (O.d c3 1)),.int (O.q .i64 (O.d c2 3) (O.d c3 2)),.int (O.q .i64 (O.d c2 4) (O.d c3 3)),.int (O.q .i64 (O.d c2 5) (O.d c3 4)),.int (O.q .i64 (O.d c2 6) (O.d c3 5))] (cr O c2 [1,1,1,1] 7)))))) (O.a (cr O c2 [0,0,0,0,0,0,1,1,1,1] 1)))) [.int u7,.int u7,.int u7,.int u7,.int u7,.int u7,.int u7,.bool O.f,.bool O.f,.bool O.f,.bool O.f]) fun c2=>(O.a (ap O (cr O c2 [0,0,0,0,0,0,1,1,1,1] 0) [.int u7]))))))))))
def Ee:Nat→Env:=eL [(17,BR),(27,Cx),(57,A1)]
theorem OE {N ls}:Ee N 17 [] ls=BR N ls:=id rfl
theorem Qj {N ls}:Ee N 27 [] ls=Cx N ls:=id rfl
theorem Fi {N ls}:Ee N 57 [] ls=A1 N ls:=id rfl
def JB:=oS Sd JC Ee
def Iu:List Nat:=[2,0,0,0,0,0,0,0,1,0,0,0,0,3,3]
def Df (O:Alg) (x:Ags O):O.M:=let u11:=(lq9 O 1);let u10:=(lq9 O 0);let u5:=(O.q .i64 (x.I 1) u11);(O.c (O.g 8 [] []) fun c0=>(O.b (O.h (O.m c0 0)) (O.a [.bool O.f]) (O.c (O.g 9 [] [.rows (x.L 14)]) fun c1=>(O.c (O.g 23 [] (ap O (xr x kR 0) [.rows (O.p c1 0)])) fun c2=>let u9:=(O.l (O.p c2 0));(O.b (O.h (O.e (O.d c2 1) u10)) (O.a [.bool O.j]) (O.c (O.w (fun s3 c3=>let u14:=(O.d c3 0);(O.b (O.n u14 u9) (O.k (O.r u14 u9) (O.c (O.g 10 [] (ap O (xr x kR 0) [.rows (O.p c1 0),.int u14])) fun c4=>let u13:=(O.p c4 0);let u8:=(O.l u13);(O.c (O.g 24 [] (ap O (xr x kR 0) [.rows (O.p c1 0),.int u14])) fun c5=>let u0:=(O.i (O.i (O.h (O.e (O.d c4 1) u10)) O.j (O.h (O.e (O.d c5 10) u10))) O.j (O.h (O.e u8 (x.I 1))));(O.c (O.b (O.h u0) (O.g 21 [] [.rows u13]) (O.a [.int u10])) fun c6=>(O.b (O.i u0 O.j (O.h (O.e (O.d c6 0) (O.d c5 0)))) (O.a [.int u10,.bool O.f]) (O.k (O.u u5 1) (O.c (O.w (fun s7 c7=>let u12:=(O.d c7 2);let u7:=(O.rB u13 u12 5);let u6:=(O.o u13 u12 0);let u4:=(O.q .i64 u12 u11);let u3:=(O.r u6 (O.l (O.p c7 1)));let u2:=(O.x (O.p c7 1) u6 0 [.bool O.j]);let u1:=(O.i (O.n u6 u11) O.j (O.n (x.I 1) u6));(O.b (O.n u12 u8) (O.k (O.r u12 u8) (O.k (O.h (O.ab (O.h u1) (O.h u3))) (O.b (O.i (O.i (O.i u1 O.j (O.rB (O.p c7 1) u6 0)) O.j (O.h (O.aj u7 (O.h (O.e (O.o u13 u12 6) (O.lit .u8 0)))))) O.j (O.n (O.o u13 u12 1) (O.q .i64 (O.ai .i64 (lq9 O 4) (O.o u13 u12 3)) (O.ai .i64 (lq9 O 6) (O.o u13 u12 4))))) (O.a [.int u10,.bool O.f]) (O.k u3 (O.b u7 (s7 [.int (O.q .i64 (O.d c7 0) u11),.rows u2,.int u4]) (s7 [.int (O.d c7 0),.rows u2,.int u4])))))) (O.a (ap O [.int u11] (cr O c7 [0,3,0] 0))))) [.int u10,.rows (O.aq u5 [.bool O.f]),.int u10]) fun c7=>(O.b (O.z c7 0) (O.a [.int u10,.bool (O.m c7 1)]) (O.b (O.h (O.e (O.d c7 1) (O.o (O.p c2 0) u14 2))) (O.a [.int u10,.bool O.f]) (s3 [.int (O.q .i64 u14 u11)])))))))))) (O.a [.int u11]))) [.int u10]) fun c3=>(O.b (O.z c3 0) (O.a [.bool (O.m c3 1)]) (O.a [.bool O.j]))))))))
def A2 (N:Nat):Env:=fun f fns ls=>(cond (Nat.beq f 8&&Af fns []) (K0 N ls) (cond (Nat.beq f 9&&Af fns []) (Pc N ls) (cond (Nat.beq f 10&&Af fns []) (Cf N ls) (cond (Nat.beq f 21&&Af fns []) (GK N ls) (cond (Nat.beq f 23&&Af fns []) (KA N ls) (cond (Nat.beq f 24&&Af fns []) (JB N ls) none))))))
theorem Nf {N ls}:A2 N 8 [] ls=K0 N ls:=id rfl
theorem PM {N ls}:A2 N 9 [] ls=Pc N ls:=id rfl
theorem FR {N ls}:A2 N 10 [] ls=Cf N ls:=id rfl
theorem K5 {N ls}:A2 N 21 [] ls=GK N ls:=id rfl
theorem L1 {N ls}:A2 N 23 [] ls=KA N ls:=id rfl
theorem Eu {N ls}:A2 N 24 [] ls=JB N ls:=id rfl
def Dh:=oS Iu Df A2
def Am (xs:List Inn):Rows:=xs.map Inn.ls
def dI:Inn:=⟨0,0,0,0,0,0,0,0,0,0,0,0,0,0,[],0,[],[],false,[],false,0,0,0,[],0,0,0⟩
def inn (xs:List Inn) (i:Nat):Inn:=xs.getD i dI
structure Mat where
 rules:Rul
 stage:Int
 first:Int
 follow:Bool
 inns:List Inn
 pen1:Int
 pen2:Int
 win:Int
 wside:Int
 margin:Int
def Mat.ls (m:Mat):List PV:=[.str m.rules.name,.int m.rules.side,.int m.rules.innings,.int m.rules.overs,.int m.rules.balls,.int m.rules.quota,.int m.rules.wide,.int m.rules.noball,.bool m.rules.freehit,.int m.rules.newball,.int m.rules.followon,.int m.rules.reviews,.int m.rules.outside,.rows m.rules.power,.int m.stage,.int m.first,.bool m.follow,.rows (Am m.inns),.int m.pen1,.int m.pen2,.int m.win,.int m.wside,.int m.margin]
def VM (x:Mat×Int):List PV:=[.str x.1.rules.name,.int x.1.rules.side,.int x.1.rules.innings,.int x.1.rules.overs,.int x.1.rules.balls,.int x.1.rules.quota,.int x.1.rules.wide,.int x.1.rules.noball,.bool x.1.rules.freehit,.int x.1.rules.newball,.int x.1.rules.followon,.int x.1.rules.reviews,.int x.1.rules.outside,.rows x.1.rules.power,.int x.1.stage,.int x.1.first,.bool x.1.follow,.rows (Am x.1.inns),.int x.1.pen1,.int x.1.pen2,.int x.1.win,.int x.1.wside,.int x.1.margin,.int x.2]
theorem fB (xs:List Inn) (i:Nat):AK (Am xs) i=(match xs[i]? with | some s=>s.ls | none=>[]):=by
 unfold AK Am;rw [zzk,List.getElem?_map];cases xs[i]?<;>rfl
theorem Mu (xs:List Inn) (i:Nat):inn xs i=(match xs[i]? with | some s=>s | none=>dI):=by
 unfold inn;rw [zzk];cases xs[i]?<;>rfl
theorem Z9 (xs:List Inn):(Am xs).length=xs.length:=List.length_map _
theorem PXi : (∀ xs : List Inn, (Am xs).length = xs.length) ∧ (∀ (xs : List Inn) (i : Nat), pvI (AB (Am xs) i 0) = (inn xs i).side) ∧ (∀ (xs : List Inn) (i : Nat), pvI (AB (Am xs) i 1) = (inn xs i).target) ∧ (∀ (xs : List Inn) (i : Nat), pvI (AB (Am xs) i 2) = (inn xs i).overs) ∧ (∀ (xs : List Inn) (i : Nat), pvI (AB (Am xs) i 3) = (inn xs i).runs) ∧
    (∀ (xs:List Inn) (i:Nat),pvI (AB (Am xs) i 4)=(inn xs i).wickets)∧(∀ (xs:List Inn) (i:Nat),pvI (AB (Am xs) i 5)=(inn xs i).wides)∧(∀ (xs:List Inn) (i:Nat),pvI (AB (Am xs) i 6)=(inn xs i).noballs)∧(∀ (xs:List Inn) (i:Nat),pvI (AB (Am xs) i 7)=(inn xs i).byes)∧(∀ (xs:List Inn) (i:Nat),pvI (AB (Am xs) i 8)=(inn xs i).legbyes) ∧
    (∀ (xs:List Inn) (i:Nat),pvI (AB (Am xs) i 9)=(inn xs i).pens)∧(∀ (xs:List Inn) (i:Nat),pvI (AB (Am xs) i 10)=(inn xs i).complete)∧(∀ (xs:List Inn) (i:Nat),pvI (AB (Am xs) i 11)=(inn xs i).inover)∧(∀ (xs:List Inn) (i:Nat),pvI (AB (Am xs) i 12)=(inn xs i).striker)∧(∀ (xs:List Inn) (i:Nat),pvI (AB (Am xs) i 13)=(inn xs i).other) ∧
    (∀ (xs:List Inn) (i:Nat),pvL (AB (Am xs) i 14)=(inn xs i).batters)∧(∀ (xs:List Inn) (i:Nat),pvI (AB (Am xs) i 15)=(inn xs i).bowler)∧(∀ (xs:List Inn) (i:Nat),pvL (AB (Am xs) i 16)=(inn xs i).bowlers)∧(∀ (xs:List Inn) (i:Nat),pvL (AB (Am xs) i 17)=(inn xs i).before)∧(∀ (xs:List Inn) (i:Nat),pvB (AB (Am xs) i 18)=(inn xs i).fresh) ∧
    (∀ (xs:List Inn) (i:Nat),pvL (AB (Am xs) i 19)=(inn xs i).bowled)∧(∀ (xs:List Inn) (i:Nat),pvB (AB (Am xs) i 20)=(inn xs i).freehit)∧(∀ (xs:List Inn) (i:Nat),pvI (AB (Am xs) i 21)=(inn xs i).ballage)∧(∀ (xs:List Inn) (i:Nat),pvI (AB (Am xs) i 22)=(inn xs i).keeper)∧(∀ (xs:List Inn) (i:Nat),pvI (AB (Am xs) i 23)=(inn xs i).outside) ∧
    (∀ (xs:List Inn) (i:Nat),pvL (AB (Am xs) i 24)=(inn xs i).subs)∧(∀ (xs:List Inn) (i:Nat),pvI (AB (Am xs) i 25)=(inn xs i).rev1)∧(∀ (xs:List Inn) (i:Nat),pvI (AB (Am xs) i 26)=(inn xs i).rev2)∧(∀ (xs:List Inn) (i:Nat),pvI (AB (Am xs) i 27)=(inn xs i).ending):=by
  refine ⟨Z9,?_,?_,?_,?_,?_,?_,?_,?_,?_,?_,?_,?_,?_,?_,?_,?_,?_,?_,?_,?_,?_,?_,?_,?_,?_,?_,?_,?_⟩
  all_goals (intro xs i;rw [Mu];unfold AB;rw [fB];cases xs[i]?<;>rfl)
theorem Mat.eta (m:Mat):Mat.mk m.rules m.stage m.first m.follow m.inns m.pen1 m.pen2 m.win m.wside m.margin=m:=rfl
theorem PXk : (∀ m : Mat, m.ls = [.str m.rules.name, .int m.rules.side, .int m.rules.innings, .int m.rules.overs, .int m.rules.balls, .int m.rules.quota, .int m.rules.wide, .int m.rules.noball, .bool m.rules.freehit, .int m.rules.newball, .int m.rules.followon, .int m.rules.reviews, .int m.rules.outside, .rows m.rules.power, .int m.stage, .int m.first, .bool m.follow, .rows (Am m.inns), .int m.pen1, .int m.pen2, .int m.win, .int m.wside, .int m.margin]) ∧
    (∀ x:Mat×Int,VM x=[.str x.1.rules.name,.int x.1.rules.side,.int x.1.rules.innings,.int x.1.rules.overs,.int x.1.rules.balls,.int x.1.rules.quota,.int x.1.rules.wide,.int x.1.rules.noball,.bool x.1.rules.freehit,.int x.1.rules.newball,.int x.1.rules.followon,.int x.1.rules.reviews,.int x.1.rules.outside,.rows x.1.rules.power,.int x.1.stage,.int x.1.first,.bool x.1.follow,.rows (Am x.1.inns),.int x.1.pen1,.int x.1.pen2,.int x.1.win,.int x.1.wside,.int x.1.margin,.int x.2]) ∧
    (∀ m:Mat,Mat.mk m.rules m.stage m.first m.follow m.inns m.pen1 m.pen2 m.win m.wside m.margin=m):=⟨fun _=>rfl,fun _=>rfl,fun _=>rfl⟩
theorem nH:∀ (ps r pre:List PV),r.length=ps.length→Ah (pre++r) pre.length ps=pre++ps
 | [],r,pre,h=>by
  have:r=[]:=List.eq_nil_of_length_eq_zero h;subst this;rfl
 | p::ps,[],pre,h=>by cases h
 | p::ps,a::r,pre,h=>by
  have ih:=nH ps r (pre++[p]) (by simpa using h);simp only [List.length_append,List.length_cons,List.length_nil,List.append_assoc,List.cons_append,List.nil_append] at ih;unfold Ah;rw [List.set_append_right _ _ (Nat.le_refl _),Nat.sub_self];exact ih
theorem wU (a s:Inn):Ah a.ls 0 s.ls=s.ls:=nH s.ls a.ls [] rfl
theorem uu (a:Inn) (e:Int):Ah a.ls 27 [.int e]=Inn.ls { a with ending:=e }:=by
 show a.ls.set 27 (.int e)=_;rfl
theorem ux {xs:List Inn} {i:Nat} (h:i<xs.length) (s:Inn):(Am xs).set i (Ah (AK (Am xs) i) 0 s.ls)=Am (xs.set i s):=by
 have e:AK (Am xs) i=(xs[i]).ls:=by rw [fB,zzn h]
 rw [e,wU];exact List.map_set.symm
theorem vU {xs:List Inn} {i:Nat} (h:i<xs.length) (e:Int):(Am xs).set i (Ah (AK (Am xs) i) 27 [.int e])=Am (xs.set i { inn xs i with ending:=e }):=by
 have e1:AK (Am xs) i=(inn xs i).ls:=by rw [fB,Mu,zzn h]
 rw [e1,uu];exact List.map_set.symm
theorem vK (xs:List Inn) (s:Inn):Am xs++[s.ls]=Am (xs++[s]):=by
 show List.map Inn.ls xs++List.map Inn.ls [s]=List.map Inn.ls (xs++[s]);exact List.map_append.symm
theorem vP (xs:List Inn) (i:Nat) (s:Inn):(Am xs).set i (Ah (AK (Am xs) i) 0 s.ls)=Am (xs.set i s):=by
 by_cases h:i<xs.length
 ·exact ux h s
 ·rw [List.set_eq_of_length_le (by rw [Z9];omega),List.set_eq_of_length_le (by omega)]
theorem lj (xs:List Inn) (i:Nat) (e:Int):(Am xs).set i (Ah (AK (Am xs) i) 27 [.int e])=Am (xs.set i { inn xs i with ending:=e }):=by
 by_cases h:i<xs.length
 ·exact vU h e
 ·rw [List.set_eq_of_length_le (by rw [Z9];omega),List.set_eq_of_length_le (by omega)]
theorem PXr : (∀ (xs : List Inn) (x0 x1 x2 x3 x4 x5 x6 x7 x8 x9 x10 x11 x12 x13 x15 x21 x22 x23 x25 x26 x27 : Int) (x18 x20 : Bool) (x14 x16 x17 x19 x24 : Rows), Am xs ++ [([.int x0, .int x1, .int x2, .int x3, .int x4, .int x5, .int x6, .int x7, .int x8, .int x9, .int x10, .int x11, .int x12, .int x13, .rows x14, .int x15, .rows x16, .rows x17, .bool x18, .rows x19, .bool x20, .int x21, .int x22, .int x23, .rows x24, .int x25, .int x26, .int x27] : List PV)] = Am (xs ++ [⟨x0, x1, x2, x3, x4, x5, x6, x7, x8, x9, x10, x11, x12, x13, x14, x15, x16, x17, x18, x19, x20, x21, x22, x23, x24, x25, x26, x27⟩])) ∧ (∀ (xs : List Inn) (i : Nat) (x0 x1 x2 x3 x4 x5 x6 x7 x8 x9 x10 x11 x12 x13 x15 x21 x22 x23 x25 x26 x27 : Int) (x18 x20 : Bool) (x14 x16 x17 x19 x24 : Rows), (Am xs).set i (Ah (AK (Am xs) i) 0 [.int x0, .int x1, .int x2, .int x3, .int x4, .int x5, .int x6, .int x7, .int x8, .int x9, .int x10, .int x11, .int x12, .int x13, .rows x14, .int x15, .rows x16, .rows x17, .bool x18, .rows x19, .bool x20, .int x21, .int x22, .int x23, .rows x24, .int x25, .int x26, .int x27]) = Am (xs.set i ⟨x0, x1, x2, x3, x4, x5, x6, x7, x8, x9, x10, x11, x12, x13, x14, x15, x16, x17, x18, x19, x20, x21, x22, x23, x24, x25, x26, x27⟩)) ∧
    (∀ (xs:List Inn) (i:Nat) (e:Int),(Am xs).set i (Ah (AK (Am xs) i) 27 [.int e])=Am (xs.set i { inn xs i with ending:=e })) :=
  ⟨fun xs x0 x1 x2 x3 x4 x5 x6 x7 x8 x9 x10 x11 x12 x13 x15 x21 x22 x23 x25 x26 x27 x18 x20 x14 x16 x17 x19 x24=>vK xs ⟨x0,x1,x2,x3,x4,x5,x6,x7,x8,x9,x10,x11,x12,x13,x14,x15,x16,x17,x18,x19,x20,x21,x22,x23,x24,x25,x26,x27⟩,fun xs i x0 x1 x2 x3 x4 x5 x6 x7 x8 x9 x10 x11 x12 x13 x15 x21 x22 x23 x25 x26 x27 x18 x20 x14 x16 x17 x19 x24=>vP xs i ⟨x0,x1,x2,x3,x4,x5,x6,x7,x8,x9,x10,x11,x12,x13,x14,x15,x16,x17,x18,x19,x20,x21,x22,x23,x24,x25,x26,x27⟩,lj⟩
theorem HF {N:Nat} {s18 s20:Bool} (h:Fit s14 s16 s17 s19 s24):A4 N [.int s0,.int s1,.int s2,.int s3,.int s4,.int s5,.int s6,.int s7,.int s8,.int s9,.int s10,.int s11,.int s12,.int s13,.rows s14,.int s15,.rows s16,.rows s17,.bool s18,.rows s19,.bool s20,.int s21,.int s22,.int s23,.rows s24,.int s25,.int s26,.int s27]=some [.int s0,.int s1,.int s2,.int s3,.int s4,.int s5,.int s6,.int s7,.int s8,.int s9,.int s10,.int s11,.int s12,.int s13,.rows s14,.int s15,.rows s16,.rows s17,.bool s18,.rows s19,.bool s20,.int s21,.int s22,.int s23,.rows s24,.int s25,.int s26,.int s27]:=by
 show NF (std (HE N) N) (xOf _)=_;simp only [NF,MD,Ni,Mo,lq9,std,xOf,PXb,PXc,PXn,PXm,Nat.reduceAdd,Int.reduceBEq,Ab,Ak,Ad,Bp h.bt (show 1≤4096 by omega),Bp h.bw' (show 8≤4096 by omega),Bp h.bf (show 8≤4096 by omega),Bp h.bd (show 8≤4096 by omega),Bp h.sb (show 1≤4096 by omega)]
theorem HJ {N:Nat} {s18 s20:Bool} {p:Int}  : A3 N [.int s0,.int s1,.int s2,.int s3,.int s4,.int s5,.int s6,.int s7,.int s8,.int s9,.int s10,.int s11,.int s12,.int s13,.rows s14,.int s15,.rows s16,.rows s17,.bool s18,.rows s19,.bool s20,.int s21,.int s22,.int s23,.rows s24,.int s25,.int s26,.int s27,.int p]=some [.bool (inR p s14.length)]:=by
 show KI (std (Ry N) N) (xOf _)=_;simp only [KI,lq9,std,xOf,PXb,PXc,PXn,PXm,Nat.reduceAdd,Int.reduceBEq];rfl
def Ag (s:Inn) (d:Del):Inn :=
  let odd := !(d.runs.tmod 2==0) != d.crossed
  let t:Inn:=cond odd { s with striker:=s.other,other:=s.striker } s
  let k:Bool:=d.how==0
  cond (!k&&(d.victim==1 && !(s.striker==0)))
    { t with striker:=cond odd t.striker 0,other:=cond odd 0 t.other,batters:=cond (inR s.striker s.batters.length) (DN s.batters s.striker 2) s.batters,wickets:=IntKind.i64.wrap (s.wickets+1) }
    (cond (!k&&(d.victim==2 && !(s.other==0)))
      { t with striker:=cond odd 0 t.striker,other:=cond odd t.other 0,batters:=cond (inR s.other s.batters.length) (DN s.batters s.other 2) s.batters,wickets:=IntKind.i64.wrap (s.wickets+1) }
      t)
theorem iV {N:Nat} {s18 s20:Bool} {d5 d10:Bool} (h:Fit s14 s16 s17 s19 s24):Jo N [.int s0,.int s1,.int s2,.int s3,.int s4,.int s5,.int s6,.int s7,.int s8,.int s9,.int s10,.int s11,.int s12,.int s13,.rows s14,.int s15,.rows s16,.rows s17,.bool s18,.rows s19,.bool s20,.int s21,.int s22,.int s23,.rows s24,.int s25,.int s26,.int s27,.int d0,.int d1,.int d2,.int d3,.int d4,.bool d5,.int d6,.int d7,.int d8,.int d9,.bool d10,.int d11]=some (Ag (⟨s0,s1,s2,s3,s4,s5,s6,s7,s8,s9,s10,s11,s12,s13,s14,s15,s16,s17,s18,s19,s20,s21,s22,s23,s24,s25,s26,s27⟩:Inn) (⟨d0,d1,d2,d3,d4,d5,d6,d7,d8,d9,d10,d11⟩:Del)).ls:=by
 show NZ (std (KO N) N) (xOf _)=_;simp only [NZ,SO,Qu,lq9,std,xOf,PXb,PXc,PXn,PXm,Nat.reduceAdd,Int.reduceBEq,HF h,HJ,wo h.bt];unfold Ag;cases d5<;>cases d2.tmod 2==0<;>cases d6==0<;>cases d7==1<;>cases d7==2<;>cases s12==0<;>cases s13==0<;>rfl
def Iq (s:Inn):Inn:={ s with striker:=s.other,other:=s.striker }
theorem cD {N:Nat} {s18 s20:Bool} (h:Fit s14 s16 s17 s19 s24):GD N [.int s0,.int s1,.int s2,.int s3,.int s4,.int s5,.int s6,.int s7,.int s8,.int s9,.int s10,.int s11,.int s12,.int s13,.rows s14,.int s15,.rows s16,.rows s17,.bool s18,.rows s19,.bool s20,.int s21,.int s22,.int s23,.rows s24,.int s25,.int s26,.int s27]=some (Iq (⟨s0,s1,s2,s3,s4,s5,s6,s7,s8,s9,s10,s11,s12,s13,s14,s15,s16,s17,s18,s19,s20,s21,s22,s23,s24,s25,s26,s27⟩:Inn)).ls:=by
 show I6 (std (Kl N) N) (xOf _)=_;simp only [I6,Po,lq9,std,xOf,PXb,PXc,PXn,PXm,Nat.reduceAdd,Int.reduceBEq,HF h];rfl
theorem aF {N:Nat} {v:Int}  : C8 N [.int v]=some [.bool (!(v==0))]:=by
 show Ly (std (PR N) N) (xOf _)=_;rfl
theorem Yl {N:Nat} {v:Int}  : EY N [.int v]=some [.bool (!(v==0))]:=by
 show Kn (std (Nv N) N) (xOf _)=_;rfl
theorem UH {N:Nat} {s18 s20:Bool} (h:s14.length≤1048576) (hN:2097152<N):CP N [.int s0,.int s1,.int s2,.int s3,.int s4,.int s5,.int s6,.int s7,.int s8,.int s9,.int s10,.int s11,.int s12,.int s13,.rows s14,.int s15,.rows s16,.rows s17,.bool s18,.rows s19,.bool s20,.int s21,.int s22,.int s23,.rows s24,.int s25,.int s26,.int s27]=some [.bool (CE s14)]:=by
 show E3 (std (FC N) N) (xOf _)=_;simp only [E3,Gq,lq9,std,xOf,PXb,PXc,PXn,AG];rw [show CE s14=iLe 0 (Pl (fun i => !(atI s14 i 0==0)) s14.length) from (KX _ _).symm];rw [Option.bind_assoc];refine Ac (Co (len:=s14.length) (Gh fun i => !(atI s14 i 0==0)) ?_ ?_ s14.length 0 N (by omega) (by omega)) ?_
 ·intro self;simp only [PXb,PXc,PXn,AG,A7]
 ·intro i self hi;simp only [PXb,PXc,PXn,AG,A8 (show i≤1099511627776 by omega),Az hi,AP hi,Gh,Cg,Gq,aF];cases atI s14 i 0==0<;>rfl
 ·unfold Pl;cases BO (Gh fun i => !(atI s14 i 0==0)) s14.length 0<;>rfl
theorem cw {N:Nat} {s18 s20:Bool} (h:s14.length≤1048576) (hN:2097152<N):GQ N [.int s0,.int s1,.int s2,.int s3,.int s4,.int s5,.int s6,.int s7,.int s8,.int s9,.int s10,.int s11,.int s12,.int s13,.rows s14,.int s15,.rows s16,.rows s17,.bool s18,.rows s19,.bool s20,.int s21,.int s22,.int s23,.rows s24,.int s25,.int s26,.int s27]=some [.bool (CE s14)]:=by
 show JQ (std (Ko N) N) (xOf _)=_;simp only [JQ,Fh,lq9,std,xOf,PXb,PXc,PXn,AG];rw [show CE s14=iLe 0 (Pl (fun i => !(atI s14 i 0==0)) s14.length) from (KX _ _).symm];rw [Option.bind_assoc];refine Ac (Co (len:=s14.length) (Gh fun i => !(atI s14 i 0==0)) ?_ ?_ s14.length 0 N (by omega) (by omega)) ?_
 ·intro self;simp only [PXb,PXc,PXn,AG,A7]
 ·intro i self hi;simp only [PXb,PXc,PXn,AG,A8 (show i≤1099511627776 by omega),Az hi,AP hi,Gh,Cg,Fh,Yl];cases atI s14 i 0==0<;>rfl
 ·unfold Pl;cases BO (Gh fun i => !(atI s14 i 0==0)) s14.length 0<;>rfl
theorem Sh {N:Nat} {s18 s20:Bool} (h:s14.length≤1048576) (hN:2097152<N):BT N [.int s0,.int s1,.int s2,.int s3,.int s4,.int s5,.int s6,.int s7,.int s8,.int s9,.int s10,.int s11,.int s12,.int s13,.rows s14,.int s15,.rows s16,.rows s17,.bool s18,.rows s19,.bool s20,.int s21,.int s22,.int s23,.rows s24,.int s25,.int s26,.int s27]=some [.bool (E7 s14 s12 s13)]:=by
 show EE (std (Eg N) N) (xOf _)=_;simp only [EE,Oi,lq9,std,xOf,PXb,PXc,PXn,PXm,Nat.reduceAdd,Int.reduceBEq,UH h hN];rfl
theorem ga {N:Nat} {s18 s20:Bool} (h:s14.length≤1048576) (hN:2097152<N):C7 N [.int s0,.int s1,.int s2,.int s3,.int s4,.int s5,.int s6,.int s7,.int s8,.int s9,.int s10,.int s11,.int s12,.int s13,.rows s14,.int s15,.rows s16,.rows s17,.bool s18,.rows s19,.bool s20,.int s21,.int s22,.int s23,.rows s24,.int s25,.int s26,.int s27]=some [.rows (Ds s14 s14.length)]:=by
 show Fn (std (Mr N) N) (xOf _)=_;simp only [Fn,lq9,std,xOf,PXb,PXc,PXn,AG];refine Ac (CC (len:=s14.length) (fun i=>[.rows (Ds s14 i),.int (i:Int)]) [.rows (Ds s14 s14.length)] ?_ ?_ N (by omega)) rfl
 ·intro self;simp only [PXb,PXc,PXn,AG,A7]
 ·intro i self hi;have h2:(Ds s14 i++[[PV.int ((i:Int)+1)]]).length≤4194304:=by have:=Zw s14 i;simp;omega
  simp only [PXb,PXc,PXn,AG,A8 (show i≤1099511627776 by omega),Az hi,AP hi,Cg,Ds,Gc h2 (show 8≤4096 by omega)];cases (atI s14 i 0==0||atI s14 i 0==3)<;>rfl
def I5 (s:Inn) (p q:Int):Inn×Int :=
  cond (CE s.batters) (s,1) (cond (!inR p s.batters.length || !inR q s.batters.length) (s,3) (cond (p==q) (s,4)
    ({ s with batters:=DN (DN s.batters p 1) q 1,striker:=p,other:=q },0)))
theorem gX {N:Nat} {s18 s20:Bool} {p:Int} {q:Int} (h:Fit s14 s16 s17 s19 s24) (hN:2097152<N):IM N [.int s0,.int s1,.int s2,.int s3,.int s4,.int s5,.int s6,.int s7,.int s8,.int s9,.int s10,.int s11,.int s12,.int s13,.rows s14,.int s15,.rows s16,.rows s17,.bool s18,.rows s19,.bool s20,.int s21,.int s22,.int s23,.rows s24,.int s25,.int s26,.int s27,.int p,.int q]=some (BV (I5 (⟨s0,s1,s2,s3,s4,s5,s6,s7,s8,s9,s10,s11,s12,s13,s14,s15,s16,s17,s18,s19,s20,s21,s22,s23,s24,s25,s26,s27⟩:Inn) p q)):=by
 show LY (std (GV N) N) (xOf _)=_;generalize hres:(some (BV (I5 (⟨s0,s1,s2,s3,s4,s5,s6,s7,s8,s9,s10,s11,s12,s13,s14,s15,s16,s17,s18,s19,s20,s21,s22,s23,s24,s25,s26,s27⟩:Inn) p q)):Option (List PV))=RR;simp only [LY,R8,Pt,P0,lq9,std,xOf,PXb,PXc,PXn,PXm,Nat.reduceAdd,Int.reduceBEq,HF h,UH h.bt hN,HJ];subst hres;simp only [I5];cases CE s14<;>try rfl
 cases hp:inR p s14.length<;>cases hq:inR q s14.length<;>try rfl
 rw [LQ hp h.bt,LQ hq h.bt];cases p==q<;>rfl
def FI (s:Inn) (p:Int):Int :=
 cond (!inR p s.batters.length) 3 (cond (!E7 s.batters s.striker s.other||atI s.batters (ix p) 0==1) 4 (cond (atI s.batters (ix p) 0==2) 5 0))
theorem YD {N:Nat} {s18 s20:Bool} {p:Int} (h:s14.length≤1048576) (hN:2097152<N):D5 N [.int s0,.int s1,.int s2,.int s3,.int s4,.int s5,.int s6,.int s7,.int s8,.int s9,.int s10,.int s11,.int s12,.int s13,.rows s14,.int s15,.rows s16,.rows s17,.bool s18,.rows s19,.bool s20,.int s21,.int s22,.int s23,.rows s24,.int s25,.int s26,.int s27,.int p]=some [.int (FI (⟨s0,s1,s2,s3,s4,s5,s6,s7,s8,s9,s10,s11,s12,s13,s14,s15,s16,s17,s18,s19,s20,s21,s22,s23,s24,s25,s26,s27⟩:Inn) p)]:=by
 show NM (std (Kb N) N) (xOf _)=_;generalize hres:(some [.int (FI (⟨s0,s1,s2,s3,s4,s5,s6,s7,s8,s9,s10,s11,s12,s13,s14,s15,s16,s17,s18,s19,s20,s21,s22,s23,s24,s25,s26,s27⟩:Inn) p)]:Option (List PV))=RR;simp only [NM,Py,Qm,lq9,std,xOf,PXb,PXc,PXn,PXm,Nat.reduceAdd,Int.reduceBEq,HJ,Sh h hN];subst hres;simp only [FI];cases hp:inR p s14.length<;>try rfl
 rw [LQ hp h];cases E7 s14 s12 s13<;>try rfl
 simp only [PXb,PXc,PXn,PXm,Nat.reduceAdd,Int.reduceBEq,atI,ix]
theorem Xb {s:Inn} {p:Int} (h:(FI s p==0)=true):inR p s.batters.length=true:=by
 unfold FI at h;cases hp:inR p s.batters.length with
 | true=>rfl
 | false=>rw [hp] at h;cases h
def GE (s:Inn) (p:Int):Inn×Int :=
 cond (FI s p==0) ({ s with batters:=DN s.batters p 1,striker:=cond (s.striker==0) p s.striker,other:=cond (s.striker==0) s.other p },0) (s,FI s p)
def DA (s:Inn) (p:Int):Inn×Int :=
 cond (FI s p==0) ({ s with batters:=DN s.batters p 2,wickets:=IntKind.i64.wrap (s.wickets+1) },0) (s,FI s p)
theorem dz {N:Nat} {s18 s20:Bool} {p:Int} (h:Fit s14 s16 s17 s19 s24) (hN:2097152<N):HW N [.int s0,.int s1,.int s2,.int s3,.int s4,.int s5,.int s6,.int s7,.int s8,.int s9,.int s10,.int s11,.int s12,.int s13,.rows s14,.int s15,.rows s16,.rows s17,.bool s18,.rows s19,.bool s20,.int s21,.int s22,.int s23,.rows s24,.int s25,.int s26,.int s27,.int p]=some (BV (GE (⟨s0,s1,s2,s3,s4,s5,s6,s7,s8,s9,s10,s11,s12,s13,s14,s15,s16,s17,s18,s19,s20,s21,s22,s23,s24,s25,s26,s27⟩:Inn) p)):=by
 show Ka (std (Hy N) N) (xOf _)=_;generalize hres:(some (BV (GE (⟨s0,s1,s2,s3,s4,s5,s6,s7,s8,s9,s10,s11,s12,s13,s14,s15,s16,s17,s18,s19,s20,s21,s22,s23,s24,s25,s26,s27⟩:Inn) p)):Option (List PV))=RR;simp only [Ka,QU,Qd,lq9,std,xOf,PXb,PXc,PXn,PXm,Nat.reduceAdd,Int.reduceBEq,HF h,YD h.bt hN];subst hres;simp only [GE];cases hm:FI (⟨s0,s1,s2,s3,s4,s5,s6,s7,s8,s9,s10,s11,s12,s13,s14,s15,s16,s17,s18,s19,s20,s21,s22,s23,s24,s25,s26,s27⟩:Inn) p==0<;>try rfl
 rw [LQ (Xb hm) h.bt];cases s12==0<;>rfl
theorem Zd {N:Nat} {s18 s20:Bool} {p:Int} (h:Fit s14 s16 s17 s19 s24) (hN:2097152<N):FO N [.int s0,.int s1,.int s2,.int s3,.int s4,.int s5,.int s6,.int s7,.int s8,.int s9,.int s10,.int s11,.int s12,.int s13,.rows s14,.int s15,.rows s16,.rows s17,.bool s18,.rows s19,.bool s20,.int s21,.int s22,.int s23,.rows s24,.int s25,.int s26,.int s27,.int p]=some (BV (DA (⟨s0,s1,s2,s3,s4,s5,s6,s7,s8,s9,s10,s11,s12,s13,s14,s15,s16,s17,s18,s19,s20,s21,s22,s23,s24,s25,s26,s27⟩:Inn) p)):=by
 show Hs (std (D9 N) N) (xOf _)=_;generalize hres:(some (BV (DA (⟨s0,s1,s2,s3,s4,s5,s6,s7,s8,s9,s10,s11,s12,s13,s14,s15,s16,s17,s18,s19,s20,s21,s22,s23,s24,s25,s26,s27⟩:Inn) p)):Option (List PV))=RR;simp only [Hs,PI,Nj,PJ,lq9,std,xOf,PXb,PXc,PXn,PXm,Nat.reduceAdd,Int.reduceBEq,HF h,YD h.bt hN,HJ];subst hres;simp only [DA];cases hm:FI (⟨s0,s1,s2,s3,s4,s5,s6,s7,s8,s9,s10,s11,s12,s13,s14,s15,s16,s17,s18,s19,s20,s21,s22,s23,s24,s25,s26,s27⟩:Inn) p==0<;>try rfl
 have hk:inR p s14.length=true:=Xb hm;rw [LQ hk h.bt,hk];rfl
def Dq (s:Inn) (p:Int) (hurt:Bool):Inn×Int :=
  cond (!inR p s.batters.length) (s,3) (cond (s.striker==0||s.other==0) (s,6) (cond (!(p==s.striker) && !(p==s.other)) (s,4)
    (cond (hurt&&((Ds s.batters s.batters.length).length:Int)==0) (s,19)
      ({ s with striker:=cond (p==s.striker) 0 s.striker,other:=cond (p==s.striker) s.other 0,batters:=DN s.batters p (cond hurt 3 2),wickets:=cond hurt s.wickets (IntKind.i64.wrap (s.wickets+1)) },0))))
theorem ck {N:Nat} {s18 s20:Bool} {p:Int} {b:Bool} (h:Fit s14 s16 s17 s19 s24) (hN:2097152<N):GN N [.int s0,.int s1,.int s2,.int s3,.int s4,.int s5,.int s6,.int s7,.int s8,.int s9,.int s10,.int s11,.int s12,.int s13,.rows s14,.int s15,.rows s16,.rows s17,.bool s18,.rows s19,.bool s20,.int s21,.int s22,.int s23,.rows s24,.int s25,.int s26,.int s27,.int p,.bool b]=some (BV (Dq (⟨s0,s1,s2,s3,s4,s5,s6,s7,s8,s9,s10,s11,s12,s13,s14,s15,s16,s17,s18,s19,s20,s21,s22,s23,s24,s25,s26,s27⟩:Inn) p b)):=by
 show JA (std (Ei N) N) (xOf _)=_;generalize hres:(some (BV (Dq (⟨s0,s1,s2,s3,s4,s5,s6,s7,s8,s9,s10,s11,s12,s13,s14,s15,s16,s17,s18,s19,s20,s21,s22,s23,s24,s25,s26,s27⟩:Inn) p b)):Option (List PV))=RR;simp only [JA,PH,Pz,Oj,lq9,std,xOf,PXb,PXc,PXn,PXm,Nat.reduceAdd,Int.reduceBEq,HF h,HJ,ga h.bt hN];subst hres;simp only [Dq];cases hp:inR p s14.length<;>try rfl
 rw [LQ hp h.bt];cases s12==0<;>cases s13==0<;>try rfl
 cases p==s12<;>cases p==s13<;>cases b<;>try rfl
 all_goals (simp only [PXb,PXc,PXn,PXm,Nat.reduceAdd,Int.reduceBEq];cases ((Ds s14 s14.length).length:Int)==0<;>rfl)
def btw (a b c:Int):Bool:=iLe b a&&iLe a c
theorem D2 (N:Nat) (a b c:Int):Ao N [.int a,.int b,.int c]=some [.bool (btw a b c)]:=by
 show some [PV.bool (cond (iLe b a) (iLe a c) false)]=_;rw [cY];rfl
theorem MA (N:Nat) (a b c:Int):Cq N [.int a,.int b,.int c]=some [.bool (btw a b c)]:=by
 show some [PV.bool (cond (iLe b a) (iLe a c) false)]=_;rw [cY];rfl
def Og (x1 x2 x3 x4 x5 x6 x7 x9 x10 x11 x12:Int):Bool:=btw x1 2 11&&btw x2 1 2&&btw x3 0 90&&btw x4 4 8&&btw x5 0 90&&btw x6 1 5&&btw x7 1 5&&btw x9 0 200&&btw x10 0 1000&&btw x11 0 9&&btw x12 0 11
theorem Zz (N : Nat) (x0 : ByteArray) (x1 x2 x3 x4 x5 x6 x7 x9 x10 x11 x12 : Int) (x8 : Bool) (x13 : Rows) :
   GX N [.str x0,.int x1,.int x2,.int x3,.int x4,.int x5,.int x6,.int x7,.bool x8,.int x9,.int x10,.int x11,.int x12,.rows x13]=some [.bool (Og x1 x2 x3 x4 x5 x6 x7 x9 x10 x11 x12)]:=by
  show I9 (std (Kt N) N) (xOf _)=_;have e:∀ ls,Kt N 104 [] ls=Cq N ls:=fun ls=>rfl
  simp only [I9,lq9,std,xOf,e,MA,PXb,PXc,PXn,AG,Og]
def YT (s:ByteArray) (i:Nat):Bool := !(iLe 65 (Ox s i)&&iLe (Ox s i) 90)&&((i:Int)==0||((!(Ox s i==95) && !(Ox s i==45))&&(iLt (Ox s i) 48||iLt 57 (Ox s i))))
def Xe (s:ByteArray):Bool := !B1 (YT s) s.size 0&&(iLe 1 s.size&&iLe s.size 16)
theorem vw (s:ByteArray):(Ch s).length=s.size:=by
 simp only [Ch,List.length_map,Array.length_toList];rfl
theorem xX (s:ByteArray) (i:Nat) (h:i<s.size):pvI (AB (Ch s) i 0)=Ox s i:=by
 unfold AB AK AA Ch Ox;simp only [zzk,List.getElem?_map];have:i<s.data.toList.length:=by simpa using h
 rw [zzn this];simp [zzn this]
theorem ir (N:Nat) (s:ByteArray) (hN:s.size<N) (hs:s.size≤1048576):Gk N [.str s]=some [.bool (Xe s)]:=by
 show Om (std (WZ N) N) (xOf _)=_;simp only [Om,lq9,std,xOf,vw,PXb,PXc,PXn,AG];refine Ac (L9 (len:=s.size) (YT s) [.bool false] ?_ ?_ N hN) ?_
 ·intro self;simp only [PXb,PXc,PXn,AG,A7]
 ·intro i self hi;simp only [PXb,PXc,PXn,AG,Int.toNat_natCast,xX s i hi,A8 (show i≤1099511627776 by omega),Az hi,AP hi,YT]
 ·unfold Xe;cases B1 (YT s) s.size 0<;>rfl
theorem uv {i len:Nat} (h:i<len) (hl:len≤1099511627776):(!iLt 0 (i:Int)||iIn (IntKind.i64.wrap ((i:Int) - 1)) (len:Int))=true:=by
 rw [BQ (by omega) (by omega)];simp only [iLt,iIn,Bool.or_eq_true,Bool.not_eq_true',decide_eq_false_iff_not,decide_eq_true_eq];omega
def tU (L:Rows) (ov:Int) (i:Nat):Bool:=(iLt (atI L i 0) 1||iLt (atI L i 1) (atI L i 0)||iLt ov (atI L i 1)) || !btw (atI L i 2) 0 11
def qA (L:Rows) (i:Nat):Bool:=iLt 0 (i:Int)&&iLe (atI L i 0) (pvI (AB L (IntKind.i64.wrap ((i:Int) - 1)).toNat 1))
def o7 (L:Rows) (ov:Int) (i:Nat):Option (List PV):=cond (tU L ov i) (some [.int 2]) (cond (qA L i) (some [.int 8]) none)
def pe:Option (List PV)→Int
 | none=>0
 | some r=>pvI (AA r 0)
def iH (L:Rows) (ov:Int):Int:=cond (iLt 8 (L.length:Int)) 9 (pe (BO (o7 L ov) L.length 0))
theorem dT (o:Option (List PV)):cond (pvI (AA (Qy o) 0)==((0:Nat):Int)) (some [PV.int (pvI (AA (Qy o) 1))]) (some [PV.int 0])=some [PV.int (pe o)]:=by
 cases o<;>rfl
theorem dP (N : Nat) (x0 : ByteArray) (x1 x2 x3 x4 x5 x6 x7 x9 x10 x11 x12 : Int) (x8 : Bool) (L : Rows) (hN : 2097152 < N) :
   HM N [.str x0,.int x1,.int x2,.int x3,.int x4,.int x5,.int x6,.int x7,.bool x8,.int x9,.int x10,.int x11,.int x12,.rows L]=some [.int (iH L x3)]:=by
  show KC (std (L8 N) N) (xOf _)=_;have e:∀ ls,L8 N 104 [] ls=Cq N ls:=fun ls=>rfl
  simp only [KC,lq9,std,xOf,e,MA,PXb,PXc,PXn,AG,iH];cases h8:iLt 8 (L.length:Int) with
  | true=>rfl
  | false =>
    have hl:L.length≤8:=by simp [iLt] at h8;omega
    simp only [cond_false];refine Ac (Co (len:=L.length) (o7 L x3) ?_ ?_ L.length 0 N (by omega) (by omega)) ?_
    · intro self;simp only [PXb,PXc,PXn,AG,A7]
    · intro i self hi;simp only [PXb,PXc,PXn,AG,Int.toNat_natCast,A8 (show i≤1099511627776 by omega),Az hi,AP hi,MA,e,uv hi (by omega)];simp only [o7,tU,qA,atI];cases (iLt (pvI (AB L i 0)) 1||iLt (pvI (AB L i 1)) (pvI (AB L i 0))||iLt x3 (pvI (AB L i 1)) || !btw (pvI (AB L i 2)) 0 11) <;>
      cases (iLt 0 (i:Int)&&iLe (pvI (AB L i 0)) (pvI (AB L (IntKind.i64.wrap ((i:Int) - 1)).toNat 1)))<;>rfl
    · exact dT _
def MI (x0:ByteArray) (x1 x2 x3 x4 x5 x6 x7 x9 x10 x11 x12:Int) (L:Rows):Int :=
  cond (!Xe x0) 5 (cond (!Og x1 x2 x3 x4 x5 x6 x7 x9 x10 x11 x12) 2
    (cond ((!(x10==0)&&x2==1)||((!(x5==0)||iLt 0 (L.length:Int))&&x3==0)) 1
      (cond (!(x5==0)&&iLt (IntKind.i64.wrap (x5 * x1)) x3) 13 (iH L x3))))
theorem Ud (N : Nat) (x0 : ByteArray) (x1 x2 x3 x4 x5 x6 x7 x9 x10 x11 x12 : Int) (x8 : Bool) (L : Rows) (hN : 2097152 < N) (hs : x0.size ≤ 1048576) :
   AY N [.str x0,.int x1,.int x2,.int x3,.int x4,.int x5,.int x6,.int x7,.bool x8,.int x9,.int x10,.int x11,.int x12,.rows L]=some [.int (MI x0 x1 x2 x3 x4 x5 x6 x7 x9 x10 x11 x12 L)]:=by
  show Lc (std (GA N) N) (xOf _)=_;have e:∀ ls,GA N 73 [] ls=Gk N ls:=fun ls=>rfl
  have e2:∀ ls,GA N 89 [] ls=GX N ls:=fun ls=>rfl
  have e3:∀ ls,GA N 90 [] ls=HM N ls:=fun ls=>rfl
  simp only [Lc,lq9,std,xOf,e,e2,e3,ir N x0 (by omega) hs,Zz,dP N _ _ _ _ _ _ _ _ _ _ _ _ _ _ hN,PXb,PXc,AG,MI];cases Xe x0<;>cases Og x1 x2 x3 x4 x5 x6 x7 x9 x10 x11 x12<;>try rfl
  simp only [PXb,PXc,AG,Bool.not_true];cases (!(x10==0)&&x2==1)<;>cases ((!(x5==0)||iLt 0 (L.length:Int))&&x3==0)<;>try rfl
  cases (!(x5==0)&&iLt (IntKind.i64.wrap (x5 * x1)) x3)<;>rfl
theorem Wv (N:Nat) (L:Rows) (v:Int) (hN:L.length<N) (hl:L.length≤2097152):EA N [.rows L,.int v]=some [.int (Pl (fun j=>v==atI L j 0) L.length)]:=by
 show GL (std (Mq N) N) (xOf _)=_;simp only [GL,lq9,std,xOf,PXb,PXc,PXn,AG];refine Ac (Co (len:=L.length) (Gh fun j=>v==atI L j 0) ?_ ?_ L.length 0 N (by omega) (by omega)) ?_
 ·intro self;simp only [PXb,PXc,PXn,AG,A7]
 ·intro i self hi;simp only [PXb,PXc,PXn,AG,A8 (show i≤1099511627776 by omega),Az hi,AP hi,Gh,Cg];cases v==atI L i 0<;>rfl
 ·unfold Pl;cases BO (Gh fun j=>v==atI L j 0) L.length 0<;>rfl
def Km (L:Rows) (k:Nat) (v:Int):Bool:=B1 (fun j=>v==atI L j 0) k 0
theorem LB (N:Nat) (L:Rows) (v:Int) (hN:L.length<N) (hl:L.length≤2097152):Au N [.rows L,.int v]=some [.bool (Km L L.length v)]:=by
 show EK (std (Fm N) N) (xOf _)=_;have e:∀ ls,Fm N 198 [] ls=EA N ls:=fun ls=>rfl
 simp only [EK,lq9,std,xOf,PXb,PXc,PXn,AG,e,Wv N L v hN hl,KX,Km]
theorem sT (L:Rows) (i:Nat) (v:Int) (h:i≤L.length):Km (L.take i) (L.take i).length v=Km L i v:=by
 rw [List.length_take,Nat.min_eq_left h];exact cT i 0 (fun j _ hj=>by rw [rA (by omega)])
def Q1 (L:Rows) (n:Int) (i:Nat):Bool := !btw (atI L i 0) 1 n||Km L i (atI L i 0)
def LH (L:Rows) (n:Int):Bool := !B1 (Q1 L n) L.length 0
theorem Nc (N:Nat) (L:Rows) (n:Int) (hN:L.length<N) (hl:L.length≤2097152):Da N [.rows L,.int n]=some [.bool (LH L n)]:=by
 show FW (std (EH N) N) (xOf _)=_;have e:∀ ls,EH N 159 [] ls=Ao N ls:=fun ls=>rfl
 have e2:∀ ls,EH N 184 [] ls=Au N ls:=fun ls=>rfl
 simp only [FW,lq9,std,xOf,PXb,PXc,PXn,AG];refine Ac (L9 (len:=L.length) (Q1 L n) [.bool false] ?_ ?_ N hN) ?_
 ·intro self;simp only [PXb,PXc,PXn,AG,A7]
 ·intro i self hi;have h1:(L.take i).length≤L.length:=List.length_take_le' i L;simp only [PXb,PXc,PXn,AG,A8 (show i≤1099511627776 by omega),Az hi,AP hi,e,e2,D2,xA (Nat.le_of_lt hi),Int.toNat_zero,List.drop_zero,LB N (L.take i) _ (by omega) (by omega),sT L i _ (by omega),Cg,Q1];cases btw (atI L i 0) 1 n<;>cases Km L i (atI L i 0)<;>rfl
 ·unfold LH;cases B1 (Q1 L n) L.length 0<;>rfl
theorem Yu (N:Nat) (v:Int):C8 N [.int v]=some [.bool (!(v==0))]:=rfl
def lsI (L14 L16 L17 L19 L24:Rows) (b18 b20:Bool) (x0 x1 x2 x3 x4 x5 x6 x7 x8 x9 x10 x11 x12 x13 x15 x21 x22 x23 x25 x26 x27:Int):List PV :=
 [.int x0,.int x1,.int x2,.int x3,.int x4,.int x5,.int x6,.int x7,.int x8,.int x9,.int x10,.int x11,.int x12,.int x13,.rows L14,.int x15,.rows L16,.rows L17,.bool b18,.rows L19,.bool b20,.int x21,.int x22,.int x23,.rows L24,.int x25,.int x26,.int x27]
section
variable (N:Nat) (L14 L16 L17 L19 L24:Rows) (b18 b20:Bool) (x0 x1 x2 x3 x4 x5 x6 x7 x8 x9 x10 x11 x12 x13 x15 x21 x22 x23 x25 x26 x27:Int)
theorem bq (hN:L14.length<N) (hl:L14.length≤2097152):CP N (lsI L14 L16 L17 L19 L24 b18 b20 x0 x1 x2 x3 x4 x5 x6 x7 x8 x9 x10 x11 x12 x13 x15 x21 x22 x23 x25 x26 x27)=some [.bool (CE L14)]:=by
 show E3 (std (FC N) N) (xOf (lsI ..))=_;have e:∀ ls,FC N 262 [] ls=C8 N ls:=fun ls=>rfl
 simp only [E3,lq9,std,xOf,lsI,PXb,PXc,PXn,AG];rw [show CE L14=iLe 0 (Pl (fun i => !(atI L14 i 0==0)) L14.length) from (KX _ _).symm];rw [Option.bind_assoc];refine Ac (Co (len:=L14.length) (Gh fun i => !(atI L14 i 0==0)) ?_ ?_ L14.length 0 N (by omega) (by omega)) ?_
 ·intro self;simp only [PXb,PXc,PXn,AG,A7]
 ·intro i self hi;simp only [PXb,PXc,PXn,AG,A8 (show i≤1099511627776 by omega),Az hi,AP hi,Gh,Cg,e,Yu];cases atI L14 i 0==0<;>rfl
 ·unfold Pl;cases BO (Gh fun i => !(atI L14 i 0==0)) L14.length 0<;>rfl
theorem ZZ (hN:L14.length<N) (hl:L14.length≤2097152):BT N (lsI L14 L16 L17 L19 L24 b18 b20 x0 x1 x2 x3 x4 x5 x6 x7 x8 x9 x10 x11 x12 x13 x15 x21 x22 x23 x25 x26 x27)=some [.bool (E7 L14 x12 x13)]:=by
 show EE (std (Eg N) N) (xOf (lsI ..))=_;have e:∀ ls,Eg N 235 [] ls=CP N ls:=fun ls=>rfl
 have:=bq N L14 L16 L17 L19 L24 b18 b20 x0 x1 x2 x3 x4 x5 x6 x7 x8 x9 x10 x11 x12 x13 x15 x21 x22 x23 x25 x26 x27 hN hl;simp only [lsI] at this;simp only [EE,lq9,std,xOf,lsI,PXb,PXc,PXn,AG,e,this,E7]
theorem eC (hN:L14.length<N) (hl:L14.length≤2097152):C7 N (lsI L14 L16 L17 L19 L24 b18 b20 x0 x1 x2 x3 x4 x5 x6 x7 x8 x9 x10 x11 x12 x13 x15 x21 x22 x23 x25 x26 x27)=some [.rows (Ds L14 L14.length)]:=by
 show Fn (std (Mr N) N) (xOf (lsI ..))=_;simp only [Fn,lq9,std,xOf,lsI,PXb,PXc,PXn,AG];refine Ac (CC (len:=L14.length) (fun i=>[.rows (Ds L14 i),.int (i:Int)]) [.rows (Ds L14 L14.length)] ?_ ?_ N hN) rfl
 ·intro self;simp only [PXb,PXc,PXn,AG,A7]
 ·intro i self hi;have h2:(Ds L14 i++[[PV.int ((i:Int)+1)]]).length≤4194304:=by have:=Zw L14 i;simp;omega
  simp only [PXb,PXc,PXn,AG,A8 (show i≤1099511627776 by omega),Az hi,AP hi,Cg,Ds,Gc h2 (show 8≤4096 by omega)];cases (atI L14 i 0==0||atI L14 i 0==3)<;>rfl
end
theorem Vw (N:Nat) (v:Int):Dd N [.int v]=some [.bool (!btw v 0 1000000000)]:=by
 show Fb (std (HH N) N) (xOf _)=_;have e:∀ ls,HH N 159 [] ls=Ao N ls:=fun ls=>rfl
 simp only [Fb,lq9,std,xOf,PXb,PXc,PXn,AG,e,D2]
def pIs (L:Rows) (v:Int) (i:Nat):Bool:=atI L i 0==v
def SD (s n:Int) (i:Nat):Bool:=s==(i:Int)+1||n==(i:Int)+1
def QY (L:Rows) (s n:Int) (i:Nat):Bool:=iLt 3 (atI L i 0)||(pIs L 1 i && !SD s n i)
def S7 (L:Rows) (s n:Int) (i:Nat):Bool:=iLt 3 (atI L i 0) || !(pIs L 1 i==SD s n i)
def FQ (L:Rows):Int:=Ba (pIs L 2) L.length
def ins (L:Rows):Int:=Ba (pIs L 1) L.length
def two (s n:Int):Int:=cond (!(n==0)) (IntKind.i64.wrap (cond (!(s==0)) (IntKind.i64.wrap (0+1)) 0+1)) (cond (!(s==0)) (IntKind.i64.wrap (0+1)) 0)
def gl (L:Rows) (s n wk k:Int):Bool :=
 !B1 (QY L s n) L.length 0&&((btw s 0 k&&btw n 0 k)&&(!(s==n && !(s==0))&&((two s n==ins L&&(!CE L||iLt 0 (two s n)))&&FQ L==wk)))
def Sx (L:Rows) (s n wk:Int):Bool :=
 !B1 (S7 L s n) L.length 0&&(!((CE L&&iLt (ins L) 1)||(!(s==0)&&s==n))&&wk==FQ L)
def oa (L:Rows):Nat→Bool
 | 0=>false
 | i+1=>oa L i || !(atI L i 0==0)
theorem mV (L:Rows):∀ i,oa L i=B1 (fun j => !(atI L j 0==0)) i 0
 | 0=>rfl
 | i+1=>by rw [XC,Nat.zero_add,← mV L i];rfl
section
variable (N:Nat) (L14 L16 L17 L19 L24:Rows) (b18 b20:Bool) (x0 x1 x2 x3 x4 x5 x6 x7 x8 x9 x10 x11 x12 x13 x15 x21 x22 x23 x25 x26 x27:Int)
theorem Xz (k:Int) (hN:L14.length<N) (hl:L14.length≤2097152):Eb N (lsI L14 L16 L17 L19 L24 b18 b20 x0 x1 x2 x3 x4 x5 x6 x7 x8 x9 x10 x11 x12 x13 x15 x21 x22 x23 x25 x26 x27++[.int k])=some [.bool (gl L14 x12 x13 x4 k)]:=by
  simp only [lsI,List.cons_append,List.nil_append];show G2 (std (Iw N) N) (xOf _)=_;have e:∀ ls,Iw N 159 [] ls=Ao N ls:=fun ls=>rfl
  simp only [G2,lq9,std,xOf,lsI,PXb,PXc,PXn,AG];refine Ac (iX (len:=L14.length) (fun i=>[.int (Ba (pIs L14 2) i),.int (Ba (pIs L14 1) i),.bool (oa L14 i),.int (i:Int)])
    (QY L14 x12 x13) [.int 0,.bool false] [.int 1,.int (FQ L14),.int (ins L14),.bool (CE L14)] ?_ ?_ N hN) ?_
  · intro self;simp only [PXb,PXc,PXn,AG,A7,mV];rfl
  · intro i self hi;simp only [PXb,PXc,AG,A8 (show i≤1099511627776 by omega),Az hi,AP hi,Cg,kW (pIs L14 2) (show i≤1099511627776 by omega),kW (pIs L14 1) (show i≤1099511627776 by omega)];unfold QY pIs SD;simp only [Ba,oa];cases h3:iLt 3 (atI L14 i 0) with
    | true=>rfl
    | false =>
      cases h1:atI L14 i 0==1 with
      | true =>
        rw [vg h1];cases x12==(i:Int)+1<;>cases x13==(i:Int)+1<;>rfl
      | false=>cases h2:atI L14 i 0==2<;>rfl
  · unfold gl;simp only [e,D2];cases B1 (QY L14 x12 x13) L14.length 0 with
    | true=>rfl
    | false =>
      simp only [PXb,PXc,PXn,AG];unfold two;cases btw x12 0 k<;>cases btw x13 0 k<;>try rfl
      cases x12==0<;>cases x13==0<;>cases x12==x13<;>try rfl
end
theorem nD (s n:Int):two s n=cond (!(s==0)) 1 0+cond (!(n==0)) 1 0:=by
 unfold two;cases s==0<;>cases n==0<;>rfl
theorem mT {s n:Int} {len:Nat} (h1:0≤s∧s≤(len:Int)) (h2:0≤n∧n≤(len:Int)) (hd:(s==n && !(s==0))=false):two s n=Ba (SD s n) len:=by
 have hs:iLe s (len:Int)=true:=by simp only [iLe,decide_eq_true_eq];omega
 have hn:iLe n (len:Int)=true:=by simp only [iLe,decide_eq_true_eq];omega
 unfold SD;rw [qZ (p:=fun i=>s==(i:Int)+1) (q:=fun i=>n==(i:Int)+1) len (fun j _ hp=>by
  have e1:s=(j:Int)+1:=by simpa using hp
  show (n==(j:Int)+1)=false;rw [beq_eq_false_iff_ne];intro e2;have e3:(s==n)=true:=by rw [beq_iff_eq];omega
  have e4:(s==0)=false:=by rw [beq_eq_false_iff_ne];omega
  rw [e3,e4] at hd;cases hd),jo s len h1.1,jo n len h2.1,hs,hn,Bool.and_true,Bool.and_true,nD]
theorem uk (x:Int):iLt 0 x = !iLt x 1:=by
 unfold iLt;rw [Bool.eq_iff_iff];simp only [decide_eq_true_eq,Bool.not_eq_true',decide_eq_false_iff_not];omega
theorem rI {L : Rows} {s n : Int} (h1 : 0 ≤ s ∧ s ≤ (L.length : Int)) (h2 : 0 ≤ n ∧ n ≤ (L.length : Int)) (hd : (s == n && !(s == 0)) = false) :
    (!B1 (QY L s n) L.length 0&&two s n==ins L) = !B1 (S7 L s n) L.length 0:=by
  have h2c:=mT h1 h2 hd;rw [Bool.eq_iff_iff];simp only [zzj,Bool.not_eq_true',Eo,beq_iff_eq];constructor
  · intro ⟨ha,hb⟩ j _ hj;have hm:∀ j,j<L.length→pIs L 1 j=true→SD s n j=true:=fun j hj hp=>by
      have:=ha j (Nat.zero_le _) (by omega);unfold QY at this;rw [hp] at this;simp only [Bool.or_eq_false_iff,Bool.true_and,Bool.not_eq_false'] at this;exact this.2
    have he:=qU L.length hm (by rw [← h2c,hb];rfl) j (by omega);have:=ha j (Nat.zero_le _) hj;unfold QY at this;unfold S7;rw [Bool.or_eq_false_iff] at this ⊢;exact ⟨this.1,by rw [he];simp⟩
  · intro ha;have hm:∀ j,j<L.length→pIs L 1 j=SD s n j:=fun j hj=>by
      have:=ha j (Nat.zero_le _) (by omega);unfold S7 at this;rw [Bool.or_eq_false_iff] at this;simpa using this.2
    refine ⟨fun j h0 hj=>?_,?_⟩
    · have:=ha j h0 hj;unfold S7 at this;unfold QY;rw [Bool.or_eq_false_iff] at this ⊢;refine ⟨this.1,?_⟩;rw [hm j (by omega)];cases SD s n j<;>rfl
    · rw [h2c];exact (MY L.length hm).symm
theorem wq (L:Rows) (s n wk k:Int) (hk:(L.length:Int)=k):gl L s n wk k=(btw s 0 k&&btw n 0 k&&Sx L s n wk):=by
 subst hk;unfold gl Sx;cases hs:btw s 0 (L.length:Int) with
 | false=>simp only [Bool.false_and,Bool.and_false]
 | true =>
  cases hn:btw n 0 (L.length:Int) with
  | false=>simp only [Bool.false_and,Bool.and_false]
  | true =>
   have h1:0≤s∧s≤(L.length:Int):=by simpa [btw,iLe] using hs
   have h2:0≤n∧n≤(L.length:Int):=by simpa [btw,iLe] using hn
   simp only [Bool.true_and];cases hd:(s==n && !(s==0)) with
   | true =>
    have:(!(s==0)&&s==n)=true:=by rw [Bool.and_comm];exact hd
    rw [this];simp only [Bool.or_true,Bool.not_true,Bool.false_and,Bool.and_false]
   | false =>
    have:(!(s==0)&&s==n)=false:=by rw [Bool.and_comm];exact hd
    rw [this,← rI h1 h2 hd];simp only [Bool.or_false,Bool.not_false,Bool.true_and];rw [show (wk==FQ L)=(FQ L==wk) from BEq.comm];cases hA:B1 (QY L s n) L.length 0 with
    | true=>rfl
    | false =>
     cases hB:two s n==ins L with
     | false=>rfl
     | true =>
      rw [beq_iff_eq.1 hB,uk];simp only [Bool.true_and,Bool.not_false,Bool.not_and]
def Ji (v:Int):Bool := !btw v 0 1000000000
def jR (x1 x3 x5 x6 x7 x8 x9 x10 x21 x23 x25 x26:Int):Rows:=[[.int x1],[.int x3],[.int x5],[.int x6],[.int x7],[.int x8],[.int x9],[.int x10],[.int x21],[.int x23],[.int x25],[.int x26]]
section
variable (N:Nat) (L14 L16 L17 L19 L24:Rows) (b18 b20:Bool) (x0 x1 x2 x3 x4 x5 x6 x7 x8 x9 x10 x11 x12 x13 x15 x21 x22 x23 x25 x26 x27:Int)
theorem XB (hN:2097152<N) (hl:L19.length≤1048576):Ed N (lsI L14 L16 L17 L19 L24 b18 b20 x0 x1 x2 x3 x4 x5 x6 x7 x8 x9 x10 x11 x12 x13 x15 x21 x22 x23 x25 x26 x27)=some [.bool (!(Kp Ji (jR x1 x3 x5 x6 x7 x8 x9 x10 x21 x23 x25 x26)||Kp Ji L19))]:=by
 show Gz (std (Ix N) N) (xOf (lsI ..))=_;have e:∀ ls,Ix N 186 [] ls=Dd N ls:=fun ls=>rfl
 rw [← kY];simp only [Gz,lq9,std,xOf,lsI,PXb,PXc,PXn,AG,jR];generalize hM:([PV.int x1]::[PV.int x3]::[PV.int x5]::[PV.int x6]::[PV.int x7]::[PV.int x8]::[PV.int x9]::[PV.int x10]::[PV.int x21]::[PV.int x23]::[PV.int x25]::[PV.int x26]::L19:Rows)=M;have hM2:M.length≤2097152:=by rw [← hM];simp only [List.length_cons];omega
 rw [Gc (n:=M.length) (by omega) (by omega)];simp only [PXb,PXc,PXn,AG];rw [Option.bind_assoc];refine Ac (Co (len:=M.length) (Gh fun i=>Ji (atI M i 0)) ?_ ?_ M.length 0 N (by omega) (by omega)) ?_
 ·intro self;simp only [PXb,PXc,PXn,AG,A7]
 ·intro i self hi;simp only [PXb,PXc,PXn,AG,A8 (show i≤1099511627776 by omega),Az hi,AP hi,Gh,Cg,e,Vw,Ji];cases btw (atI M i 0) 0 1000000000<;>rfl
 ·unfold Kp;rw [← KX];unfold Pl;cases BO (Gh fun i=>Ji (atI M i 0)) M.length 0<;>rfl
end
def di (a3 x2:Int):Bool:=cond (a3==0) (x2==0) (btw x2 1 a3)
def UJ (s:ByteArray) (a1 a2 a3 a4 a5 a6 a7 a9 a10 a11 a12:Int) (La L14 L16 L17 L19 L24:Rows) (x0 x1 x2 x3 x4 x5 x6 x7 x8 x9 x10 x11 x12 x13 x15 x21 x22 x23 x25 x26 x27:Int):Bool :=
  MI s a1 a2 a3 a4 a5 a6 a7 a9 a10 a11 a12 La==0&&(btw x0 1 2&&((L14.length:Int)==a1&&((L19.length:Int)==a1&&((L24.length:Int)==a1&&(!iLt 5 x27 &&
    (btw x12 0 a1&&(btw x13 0 a1&&(Sx L14 x12 x13 x4&&(btw x15 0 a1&&(btw x22 0 a1&&(LH L16 a1&&(LH L17 a1&&(di a3 x2&&(btw x11 0 (IntKind.i64.wrap (a4 - 1)) &&
      (!Kp Ji (jR x1 x3 x5 x6 x7 x8 x9 x10 x21 x23 x25 x26) && !Kp Ji L19)))))))))))))))
theorem vd {a:Int} (h:0≤a):iLt 0 a = !(a==0):=by
 unfold iLt;rw [Bool.eq_iff_iff];simp only [decide_eq_true_eq,Bool.not_eq_true',beq_eq_false_iff_ne];omega
section
variable (N:Nat) (s:ByteArray) (a1 a2 a3 a4 a5 a6 a7 a9 a10 a11 a12:Int) (a8:Bool) (La:Rows) (L14 L16 L17 L19 L24:Rows) (b18 b20:Bool) (x0 x1 x2 x3 x4 x5 x6 x7 x8 x9 x10 x11 x12 x13 x15 x21 x22 x23 x25 x26 x27:Int)
theorem R5 (hN:2097152<N) (hs:s.size≤1048576) (h14:L14.length≤1048576) (h16:L16.length≤1048576) (h17:L17.length≤1048576) (h19:L19.length≤1048576):BS N ([.str s,.int a1,.int a2,.int a3,.int a4,.int a5,.int a6,.int a7,.bool a8,.int a9,.int a10,.int a11,.int a12,.rows La]++lsI L14 L16 L17 L19 L24 b18 b20 x0 x1 x2 x3 x4 x5 x6 x7 x8 x9 x10 x11 x12 x13 x15 x21 x22 x23 x25 x26 x27)=some [.bool (UJ s a1 a2 a3 a4 a5 a6 a7 a9 a10 a11 a12 La L14 L16 L17 L19 L24 x0 x1 x2 x3 x4 x5 x6 x7 x8 x9 x10 x11 x12 x13 x15 x21 x22 x23 x25 x26 x27)]:=by
 simp only [lsI,List.cons_append,List.nil_append];show JO (std (Cm N) N) (xOf _)=_;have e1:∀ ls,Cm N 61 [] ls=AY N ls:=fun ls=>rfl
 have e2:∀ ls,Cm N 159 [] ls=Ao N ls:=fun ls=>rfl
 have e3:∀ ls,Cm N 160 [] ls=Eb N ls:=fun ls=>rfl
 have e4:∀ ls,Cm N 161 [] ls=Da N ls:=fun ls=>rfl
 have e5:∀ ls,Cm N 162 [] ls=Ed N ls:=fun ls=>rfl
 have l54:=Xz N L14 L16 L17 L19 L24 b18 b20 x0 x1 x2 x3 x4 x5 x6 x7 x8 x9 x10 x11 x12 x13 x15 x21 x22 x23 x25 x26 x27 a1 (by omega) (by omega);have l56:=XB N L14 L16 L17 L19 L24 b18 b20 x0 x1 x2 x3 x4 x5 x6 x7 x8 x9 x10 x11 x12 x13 x15 x21 x22 x23 x25 x26 x27 (by omega) (by omega);simp only [lsI,List.cons_append,List.nil_append] at l54 l56;simp only [JO,lq9,std,xOf,PXb,PXc,PXn,AG,e1,e2,e3,e4,e5,Ud N s _ _ _ _ _ _ _ _ _ _ _ _ _ hN hs,D2,l54,l56,Nc N L16 _ (by omega) (by omega),Nc N L17 _ (by omega) (by omega)];unfold UJ di;cases hc:MI s a1 a2 a3 a4 a5 a6 a7 a9 a10 a11 a12 La==0<;>try rfl
 cases btw x0 1 2<;>try rfl
 cases h14:(L14.length:Int)==a1<;>try rfl
 cases (L19.length:Int)==a1<;>try rfl
 cases (L24.length:Int)==a1<;>try rfl
 cases iLt 5 x27<;>try rfl
 rw [wq L14 x12 x13 x4 a1 (beq_iff_eq.1 h14)];cases btw x12 0 a1<;>try rfl
 cases btw x13 0 a1<;>try rfl
 cases Sx L14 x12 x13 x4<;>try rfl
 cases btw x15 0 a1<;>try rfl
 cases btw x22 0 a1<;>try rfl
 cases LH L16 a1<;>try rfl
 cases LH L17 a1<;>try rfl
 cases a3==0<;>cases x2==0<;>cases btw x2 1 a3<;>rfl
end
def sS (v:Bool) (L:Rows) (s n:Int) (x1 x2 x3 x10:Int):Int :=
 cond (!v) 0 (cond (iLt 0 x1&&iLe x1 x3) 3 (cond (E7 L s n&&((Ds L L.length).length:Int)==0) 1 (cond (iLt 0 x2&&iLe x2 x10) 2 0)))
theorem xR {c:Int} {n:Nat} (hc:0≤c):iRg 0 (cond (iLt c (n:Int)) c (n:Int)) (n:Int)=true:=by
 cases h:iLt c (n:Int) with
 | true=>simp only [iLt,decide_eq_true_eq] at h;simp only [cond_true,iRg,decide_eq_true_eq];omega
 | false=>simp only [cond_false,iRg,decide_eq_true_eq];omega
def cut (L:Rows) (c:Int):Rows:=(L.take (cond (iLt c (L.length:Int)) c (L.length:Int)).toNat).drop (0:Int).toNat
section
variable (N:Nat) (s:ByteArray) (a1 a2 a3 a4 a5 a6 a7 a9 a10 a11 a12:Int) (a8:Bool) (La:Rows) (L14 L16 L17 L19 L24:Rows) (b18 b20:Bool) (x0 x1 x2 x3 x4 x5 x6 x7 x8 x9 x10 x11 x12 x13 x15 x21 x22 x23 x25 x26 x27:Int)
theorem Yf (hN : 2097152 < N) (hs : s.size ≤ 1048576) (h14 : L14.length ≤ 1048576) (h16 : L16.length ≤ 1048576) (h17 : L17.length ≤ 1048576) (h19 : L19.length ≤ 1048576) : Dp N ([.str s, .int a1, .int a2, .int a3, .int a4, .int a5, .int a6, .int a7, .bool a8, .int a9, .int a10, .int a11, .int a12, .rows La] ++ lsI L14 L16 L17 L19 L24 b18 b20 x0 x1 x2 x3 x4 x5 x6 x7 x8 x9 x10 x11 x12 x13 x15 x21 x22 x23 x25 x26 x27) =
    some [.int (sS (UJ s a1 a2 a3 a4 a5 a6 a7 a9 a10 a11 a12 La L14 L16 L17 L19 L24 x0 x1 x2 x3 x4 x5 x6 x7 x8 x9 x10 x11 x12 x13 x15 x21 x22 x23 x25 x26 x27) L14 x12 x13 x1 x2 x3 x10)]:=by
  simp only [lsI,List.cons_append,List.nil_append];show Hv (std (D6 N) N) (xOf _)=_;have e1:∀ ls,D6 N 127 [] ls=BS N ls:=fun ls=>rfl
  have e2:∀ ls,D6 N 217 [] ls=BT N ls:=fun ls=>rfl
  have e3:∀ ls,D6 N 218 [] ls=C7 N ls:=fun ls=>rfl
  have l16:=R5 N s a1 a2 a3 a4 a5 a6 a7 a9 a10 a11 a12 a8 La L14 L16 L17 L19 L24 b18 b20 x0 x1 x2 x3 x4 x5 x6 x7 x8 x9 x10 x11 x12 x13 x15 x21 x22 x23 x25 x26 x27 hN hs h14 h16 h17 h19;have l61:=ZZ N L14 L16 L17 L19 L24 b18 b20 x0 x1 x2 x3 x4 x5 x6 x7 x8 x9 x10 x11 x12 x13 x15 x21 x22 x23 x25 x26 x27 (by omega) (by omega);have l62:=eC N L14 L16 L17 L19 L24 b18 b20 x0 x1 x2 x3 x4 x5 x6 x7 x8 x9 x10 x11 x12 x13 x15 x21 x22 x23 x25 x26 x27 (by omega) (by omega);simp only [lsI,List.cons_append,List.nil_append] at l16 l61 l62;simp only [Hv,lq9,std,xOf,PXb,PXc,PXn,AG,e1,e2,e3,l16,l61,l62,sS];cases UJ s a1 a2 a3 a4 a5 a6 a7 a9 a10 a11 a12 La L14 L16 L17 L19 L24 x0 x1 x2 x3 x4 x5 x6 x7 x8 x9 x10 x11 x12 x13 x15 x21 x22 x23 x25 x26 x27<;>try rfl
  cases (iLt 0 x1&&iLe x1 x3)<;>try rfl
  cases E7 L14 x12 x13
  · cases (iLt 0 x2&&iLe x2 x10)<;>rfl
  · simp only [PXb,PXc,PXn,AG];cases ((Ds L14 L14.length).length:Int)==0<;>cases (iLt 0 x2&&iLe x2 x10)<;>rfl
end
section
variable (N:Nat) (s:ByteArray) (a1 a2 a3 a4 a5 a6 a7 a9 a10 a11 a12:Int) (a8:Bool) (La:Rows) (L14 L16 L17 L19 L24:Rows) (b18 b20:Bool) (x0 x1 x2 x3 x4 x5 x6 x7 x8 x9 x10 x11 x12 x13 x15 x21 x22 x23 x25 x26 x27:Int)
def C0 (a4 x10 x11:Int):Int:=IntKind.i64.wrap (IntKind.i64.wrap (x10 * a4)+x11)
end
def BL (r:Rul):Int:=MI r.name r.side r.innings r.overs r.balls r.quota r.wide r.noball r.newball r.followon r.reviews r.outside r.power
theorem DS {N:Nat} {r8:Bool} {r0:ByteArray} {r13:Rows} (hN:2097152<N) (hs:r0.size≤1048576):AY N [.str r0,.int r1,.int r2,.int r3,.int r4,.int r5,.int r6,.int r7,.bool r8,.int r9,.int r10,.int r11,.int r12,.rows r13]=some [.int (BL (⟨r0,r1,r2,r3,r4,r5,r6,r7,r8,r9,r10,r11,r12,r13⟩:Rul))]:=by
 exact Ud N _ _ _ _ _ _ _ _ _ _ _ _ _ _ hN hs
theorem Tl {N:Nat} {s18 s20:Bool} (h:Fit s14 s16 s17 s19 s24):C1 N [.int s0,.int s1,.int s2,.int s3,.int s4,.int s5,.int s6,.int s7,.int s8,.int s9,.int s10,.int s11,.int s12,.int s13,.rows s14,.int s15,.rows s16,.rows s17,.bool s18,.rows s19,.bool s20,.int s21,.int s22,.int s23,.rows s24,.int s25,.int s26,.int s27]=some [.int s0,.int s1,.int s2,.int s3,.int s4,.int s5,.int s6,.int s7,.int s8,.int s9,.int s10,.int s11,.int s12,.int s13,.rows s14,.int s15,.rows s16,.rows s17,.bool s18,.rows s19,.bool s20,.int s21,.int s22,.int s23,.rows s24,.int s25,.int s26,.int s27]:=by
 show O0 (std (IP N) N) (xOf _)=_;simp only [O0,Mc,Oc,Nn,lq9,std,xOf,PXb,PXc,PXn,PXm,Nat.reduceAdd,Int.reduceBEq,Ab,Ak,Ad,Bp h.bt (show 1≤4096 by omega),Bp h.bw' (show 8≤4096 by omega),Bp h.bf (show 8≤4096 by omega),Bp h.bd (show 8≤4096 by omega),Bp h.sb (show 1≤4096 by omega)]
theorem TR {N:Nat} {s18 s20:Bool} (h:Fit s14 s16 s17 s19 s24):Cu N [.int s0,.int s1,.int s2,.int s3,.int s4,.int s5,.int s6,.int s7,.int s8,.int s9,.int s10,.int s11,.int s12,.int s13,.rows s14,.int s15,.rows s16,.rows s17,.bool s18,.rows s19,.bool s20,.int s21,.int s22,.int s23,.rows s24,.int s25,.int s26,.int s27]=some [.int s0,.int s1,.int s2,.int s3,.int s4,.int s5,.int s6,.int s7,.int s8,.int s9,.int s10,.int s11,.int s12,.int s13,.rows s14,.int s15,.rows s16,.rows s17,.bool s18,.rows s19,.bool s20,.int s21,.int s22,.int s23,.rows s24,.int s25,.int s26,.int s27]:=by
 show Ot (std (IL N) N) (xOf _)=_;simp only [Ot,Ma,OC,Ng,lq9,std,xOf,PXb,PXc,PXn,PXm,Nat.reduceAdd,Int.reduceBEq,Ab,Ak,Ad,Bp h.bt (show 1≤4096 by omega),Bp h.bw' (show 8≤4096 by omega),Bp h.bf (show 8≤4096 by omega),Bp h.bd (show 8≤4096 by omega),Bp h.sb (show 1≤4096 by omega)]
theorem CV {N:Nat} {s18 s20:Bool} (h:Fit s14 s16 s17 s19 s24):AX N [.int s0,.int s1,.int s2,.int s3,.int s4,.int s5,.int s6,.int s7,.int s8,.int s9,.int s10,.int s11,.int s12,.int s13,.rows s14,.int s15,.rows s16,.rows s17,.bool s18,.rows s19,.bool s20,.int s21,.int s22,.int s23,.rows s24,.int s25,.int s26,.int s27]=some [.int s0,.int s1,.int s2,.int s3,.int s4,.int s5,.int s6,.int s7,.int s8,.int s9,.int s10,.int s11,.int s12,.int s13,.rows s14,.int s15,.rows s16,.rows s17,.bool s18,.rows s19,.bool s20,.int s21,.int s22,.int s23,.rows s24,.int s25,.int s26,.int s27]:=by
 show I8 (std (Ef N) N) (xOf _)=_;simp only [I8,KL,MB,K4,lq9,std,xOf,PXb,PXc,PXn,PXm,Nat.reduceAdd,Int.reduceBEq,Ab,Ak,Ad,Bp h.bt (show 1≤4096 by omega),Bp h.bw' (show 8≤4096 by omega),Bp h.bf (show 8≤4096 by omega),Bp h.bd (show 8≤4096 by omega),Bp h.sb (show 1≤4096 by omega)]
theorem Pu {N:Nat} {s18 s20:Bool} {p:Int}  : CH N [.int s0,.int s1,.int s2,.int s3,.int s4,.int s5,.int s6,.int s7,.int s8,.int s9,.int s10,.int s11,.int s12,.int s13,.rows s14,.int s15,.rows s16,.rows s17,.bool s18,.rows s19,.bool s20,.int s21,.int s22,.int s23,.rows s24,.int s25,.int s26,.int s27,.int p]=some [.bool (inR p s19.length)]:=by
 show Lb (std (Sg N) N) (xOf _)=_;simp only [Lb,lq9,std,xOf,PXb,PXc,PXn,PXm,Nat.reduceAdd,Int.reduceBEq];rfl
theorem IY {N:Nat} {s18 s20:Bool} {p:Int}  : BB N [.int s0,.int s1,.int s2,.int s3,.int s4,.int s5,.int s6,.int s7,.int s8,.int s9,.int s10,.int s11,.int s12,.int s13,.rows s14,.int s15,.rows s16,.rows s17,.bool s18,.rows s19,.bool s20,.int s21,.int s22,.int s23,.rows s24,.int s25,.int s26,.int s27,.int p]=some [.bool (inR p s24.length)]:=by
 show Lh (std (Sv N) N) (xOf _)=_;simp only [Lh,lq9,std,xOf,PXb,PXc,PXn,PXm,Nat.reduceAdd,Int.reduceBEq];rfl
def atB (L:Rows) (i j:Nat):Bool:=pvB (AB L i j)
theorem eh (L:Rows) (i j:Nat):pvB (AB L i j)=atB L i j:=rfl
def Hr (s:Inn) (p:Int):Bool:=inR p s.subs.length&&atB s.subs (ix p) 0
theorem Ht {N:Nat} {s18 s20:Bool} {p:Int} (h:s24.length≤1048576):BA N [.int s0,.int s1,.int s2,.int s3,.int s4,.int s5,.int s6,.int s7,.int s8,.int s9,.int s10,.int s11,.int s12,.int s13,.rows s14,.int s15,.rows s16,.rows s17,.bool s18,.rows s19,.bool s20,.int s21,.int s22,.int s23,.rows s24,.int s25,.int s26,.int s27,.int p]=some [.bool (Hr (⟨s0,s1,s2,s3,s4,s5,s6,s7,s8,s9,s10,s11,s12,s13,s14,s15,s16,s17,s18,s19,s20,s21,s22,s23,s24,s25,s26,s27⟩:Inn) p)]:=by
 show H0 (std (Jh N) N) (xOf _)=_;generalize hres:(some [.bool (Hr (⟨s0,s1,s2,s3,s4,s5,s6,s7,s8,s9,s10,s11,s12,s13,s14,s15,s16,s17,s18,s19,s20,s21,s22,s23,s24,s25,s26,s27⟩:Inn) p)]:Option (List PV))=RR;simp only [H0,N3,lq9,std,xOf,PXb,PXc,PXn,PXm,Nat.reduceAdd,Int.reduceBEq,IY,wo h];subst hres;simp only [Hr];cases hp:inR p s24.length with
 | false=>rfl
 | true=>first | rfl | (rw [LQ hp h];rfl)
def oZ (x:Int):Int:=cond (iLt x 0) 0 x
def cq (r:Rul) (s:Inn) (p:Int):Int :=
 cond (!inR p s.bowled.length || !(BL r==0)) 0 (cond (r.quota==0) (-1) (oZ (IntKind.i64.wrap (IntKind.i64.wrap (r.quota * r.balls) - oZ (atI s.bowled (ix p) 0)))))
theorem j9 {N:Nat} {r8:Bool} {r0:ByteArray} {r13:Rows} {s18 s20:Bool} {p:Int} (h:Fit s14 s16 s17 s19 s24) (hN:2097152<N) (hs:r0.size≤1048576):Jj N [.str r0,.int r1,.int r2,.int r3,.int r4,.int r5,.int r6,.int r7,.bool r8,.int r9,.int r10,.int r11,.int r12,.rows r13,.int s0,.int s1,.int s2,.int s3,.int s4,.int s5,.int s6,.int s7,.int s8,.int s9,.int s10,.int s11,.int s12,.int s13,.rows s14,.int s15,.rows s16,.rows s17,.bool s18,.rows s19,.bool s20,.int s21,.int s22,.int s23,.rows s24,.int s25,.int s26,.int s27,.int p]=some [.int (cq (⟨r0,r1,r2,r3,r4,r5,r6,r7,r8,r9,r10,r11,r12,r13⟩:Rul) (⟨s0,s1,s2,s3,s4,s5,s6,s7,s8,s9,s10,s11,s12,s13,s14,s15,s16,s17,s18,s19,s20,s21,s22,s23,s24,s25,s26,s27⟩:Inn) p)]:=by
 show NA (std (KK N) N) (xOf _)=_;generalize hres:(some [.int (cq (⟨r0,r1,r2,r3,r4,r5,r6,r7,r8,r9,r10,r11,r12,r13⟩:Rul) (⟨s0,s1,s2,s3,s4,s5,s6,s7,s8,s9,s10,s11,s12,s13,s14,s15,s16,s17,s18,s19,s20,s21,s22,s23,s24,s25,s26,s27⟩:Inn) p)]:Option (List PV))=RR;simp only [NA,SA,Rf,lq9,std,xOf,PXb,PXc,PXn,PXm,Nat.reduceAdd,Int.reduceBEq,DS hN hs,Pu];subst hres;simp only [cq];cases hp:inR p s19.length with
 | false=>rfl
 | true=>rw [LQ hp h.bd];cases BL (⟨r0,r1,r2,r3,r4,r5,r6,r7,r8,r9,r10,r11,r12,r13⟩:Rul)==0<;>cases r5==0<;>rfl
theorem MF {N:Nat} {L:Rows} {v:Int} (hN:2097152<N) (hl:L.length≤1048576):Au N [.rows L,.int v]=some [.bool (Km L L.length v)]:=by
 exact LB N L v (by omega) (by omega)
def OW (r:Rul) (s:Inn) (p:Int):Int :=
  cond (!inR p s.bowled.length || !(BL r==0)) 3 (cond (p==s.keeper||p==s.bowler||Hr s p) 7
    (cond (Km s.before s.before.length p) 8 (cond (!(cq r s p == -1)&&iLt s.inover (IntKind.i64.wrap (r.balls - cq r s p))) 9 0)))
theorem qV {p:Int} {n m:Nat} (h:inR p n=true):inR p m=iLe p (m:Int):=by
 unfold inR at h ⊢;rw [zzj] at h;rw [h.1,Bool.true_and]
theorem lI {N:Nat} {r8:Bool} {r0:ByteArray} {r13:Rows} {s18 s20:Bool} {p:Int} (h:Fit s14 s16 s17 s19 s24) (hN:2097152<N) (hs:r0.size≤1048576):K6 N [.str r0,.int r1,.int r2,.int r3,.int r4,.int r5,.int r6,.int r7,.bool r8,.int r9,.int r10,.int r11,.int r12,.rows r13,.int s0,.int s1,.int s2,.int s3,.int s4,.int s5,.int s6,.int s7,.int s8,.int s9,.int s10,.int s11,.int s12,.int s13,.rows s14,.int s15,.rows s16,.rows s17,.bool s18,.rows s19,.bool s20,.int s21,.int s22,.int s23,.rows s24,.int s25,.int s26,.int s27,.int p]=some [.int (OW (⟨r0,r1,r2,r3,r4,r5,r6,r7,r8,r9,r10,r11,r12,r13⟩:Rul) (⟨s0,s1,s2,s3,s4,s5,s6,s7,s8,s9,s10,s11,s12,s13,s14,s15,s16,s17,s18,s19,s20,s21,s22,s23,s24,s25,s26,s27⟩:Inn) p)]:=by
 show O2 (std (Fv N) N) (xOf _)=_;generalize hres:(some [.int (OW (⟨r0,r1,r2,r3,r4,r5,r6,r7,r8,r9,r10,r11,r12,r13⟩:Rul) (⟨s0,s1,s2,s3,s4,s5,s6,s7,s8,s9,s10,s11,s12,s13,s14,s15,s16,s17,s18,s19,s20,s21,s22,s23,s24,s25,s26,s27⟩:Inn) p)]:Option (List PV))=RR;simp only [O2,SP,Md,SK,Tt,lq9,std,xOf,PXb,PXc,PXn,PXm,Nat.reduceAdd,Int.reduceBEq,DS hN hs,Pu,j9 h hN hs,MF hN h.bf];subst hres;simp only [OW,Hr];cases hp:inR p s19.length with
 | false=>rfl
 | true =>
  rw [qV (m:=s24.length) hp];have hq:(!(iLe p (s24.length:Int))||iIn (IntKind.i64.wrap (p - 1)) (s24.length:Int))=true:=by
   cases h1:iLe p (s24.length:Int) with
   | false=>rfl
   | true=>rw [LQ (by rw [qV hp];exact h1) h.sb];rfl
  rw [hq];cases BL (⟨r0,r1,r2,r3,r4,r5,r6,r7,r8,r9,r10,r11,r12,r13⟩:Rul)==0<;>rfl
def S8 (r:Rul) (s:Inn) (p:Int):Inn×Int:=(cond (OW r s p==0) { s with bowler:=p } s,OW r s p)
theorem jg {N:Nat} {r8:Bool} {r0:ByteArray} {r13:Rows} {s18 s20:Bool} {p:Int} (h:Fit s14 s16 s17 s19 s24) (hN:2097152<N) (hs:r0.size≤1048576):JU N [.str r0,.int r1,.int r2,.int r3,.int r4,.int r5,.int r6,.int r7,.bool r8,.int r9,.int r10,.int r11,.int r12,.rows r13,.int s0,.int s1,.int s2,.int s3,.int s4,.int s5,.int s6,.int s7,.int s8,.int s9,.int s10,.int s11,.int s12,.int s13,.rows s14,.int s15,.rows s16,.rows s17,.bool s18,.rows s19,.bool s20,.int s21,.int s22,.int s23,.rows s24,.int s25,.int s26,.int s27,.int p]=some (BV (S8 (⟨r0,r1,r2,r3,r4,r5,r6,r7,r8,r9,r10,r11,r12,r13⟩:Rul) (⟨s0,s1,s2,s3,s4,s5,s6,s7,s8,s9,s10,s11,s12,s13,s14,s15,s16,s17,s18,s19,s20,s21,s22,s23,s24,s25,s26,s27⟩:Inn) p)):=by
 show M5 (std (KP N) N) (xOf _)=_;generalize hres:(some (BV (S8 (⟨r0,r1,r2,r3,r4,r5,r6,r7,r8,r9,r10,r11,r12,r13⟩:Rul) (⟨s0,s1,s2,s3,s4,s5,s6,s7,s8,s9,s10,s11,s12,s13,s14,s15,s16,s17,s18,s19,s20,s21,s22,s23,s24,s25,s26,s27⟩:Inn) p)):Option (List PV))=RR;simp only [M5,Ta,Tj,lq9,std,xOf,PXb,PXc,PXn,PXm,Nat.reduceAdd,Int.reduceBEq,Tl h,lI h hN hs];subst hres;simp only [S8];cases OW (⟨r0,r1,r2,r3,r4,r5,r6,r7,r8,r9,r10,r11,r12,r13⟩:Rul) (⟨s0,s1,s2,s3,s4,s5,s6,s7,s8,s9,s10,s11,s12,s13,s14,s15,s16,s17,s18,s19,s20,s21,s22,s23,s24,s25,s26,s27⟩:Inn) p==0<;>rfl
def rE (x:Inn×Bool):List PV:=[.int x.1.side,.int x.1.target,.int x.1.overs,.int x.1.runs,.int x.1.wickets,.int x.1.wides,.int x.1.noballs,.int x.1.byes,.int x.1.legbyes,.int x.1.pens,.int x.1.complete,.int x.1.inover,.int x.1.striker,.int x.1.other,.rows x.1.batters,.int x.1.bowler,.rows x.1.bowlers,.rows x.1.before,.bool x.1.fresh,.rows x.1.bowled,.bool x.1.freehit,.int x.1.ballage,.int x.1.keeper,.int x.1.outside,.rows x.1.subs,.int x.1.rev1,.int x.1.rev2,.int x.1.ending,.bool x.2]
def inc (x:Int):Int:=IntKind.i64.wrap (x+1)
def Aq (r:Rul) (s:Inn) (counts:Bool):Inn×Bool :=
  cond (!inR s.bowler s.bowled.length || !(BL r==0)) (s,false)
    (let L:=cond (Km s.bowlers s.bowlers.length s.bowler) s.bowlers (s.bowlers++[[.int s.bowler]])
     let o:=cond counts (inc s.inover) s.inover
     let t:Inn:={ s with bowlers:=L,bowled:=cond counts (DN s.bowled s.bowler (inc (atI s.bowled (ix s.bowler) 0))) s.bowled,inover:=o,ballage:=cond counts (inc s.ballage) s.ballage }
     cond (iLt o r.balls) (t,false) ({ t with complete:=inc s.complete,inover:=0,before:=L,bowlers:=[],bowler:=0 },true))
theorem kw {N:Nat} {r8:Bool} {r0:ByteArray} {r13:Rows} {s18 s20:Bool} {b:Bool} (h:Fit s14 s16 s17 s19 s24) (hw:s16.length≤1048575) (hN:2097152<N) (hs:r0.size≤1048576):Jq N [.str r0,.int r1,.int r2,.int r3,.int r4,.int r5,.int r6,.int r7,.bool r8,.int r9,.int r10,.int r11,.int r12,.rows r13,.int s0,.int s1,.int s2,.int s3,.int s4,.int s5,.int s6,.int s7,.int s8,.int s9,.int s10,.int s11,.int s12,.int s13,.rows s14,.int s15,.rows s16,.rows s17,.bool s18,.rows s19,.bool s20,.int s21,.int s22,.int s23,.rows s24,.int s25,.int s26,.int s27,.bool b]=some (rE (Aq (⟨r0,r1,r2,r3,r4,r5,r6,r7,r8,r9,r10,r11,r12,r13⟩:Rul) (⟨s0,s1,s2,s3,s4,s5,s6,s7,s8,s9,s10,s11,s12,s13,s14,s15,s16,s17,s18,s19,s20,s21,s22,s23,s24,s25,s26,s27⟩:Inn) b)):=by
 show M6 (std (E2 N) N) (xOf _)=_;generalize hres:(some (rE (Aq (⟨r0,r1,r2,r3,r4,r5,r6,r7,r8,r9,r10,r11,r12,r13⟩:Rul) (⟨s0,s1,s2,s3,s4,s5,s6,s7,s8,s9,s10,s11,s12,s13,s14,s15,s16,s17,s18,s19,s20,s21,s22,s23,s24,s25,s26,s27⟩:Inn) b)):Option (List PV))=RR;have ha:(s16++[[PV.int s15]]).length≤1048576:=by simp;omega
 simp only [M6,R0,Lw,TW,Ra,lq9,std,xOf,PXb,PXc,PXn,PXm,Nat.reduceAdd,Int.reduceBEq,Tl h,Pu,DS hN hs,MF hN h.bw',wn ha (show 8≤4096 by omega)];subst hres;simp only [Aq];cases hp:inR s15 s19.length with
 | false=>rfl
 | true =>
  rw [LQ hp h.bd];cases BL (⟨r0,r1,r2,r3,r4,r5,r6,r7,r8,r9,r10,r11,r12,r13⟩:Rul)==0<;>try rfl
  cases Km s16 s16.length s15<;>cases b<;>simp only [PXb,PXc,PXn,PXm,Nat.reduceAdd,Int.reduceBEq,inc]
  all_goals first | (cases iLt s11 r4<;>rfl) | (cases iLt (IntKind.i64.wrap (s11+1)) r4<;>rfl)
def JV (r:Rul) (s:Inn):Inn×Int :=
 cond (!(BL r==0)||r.newball==0||iLt s.ballage (IntKind.i64.wrap (r.newball * r.balls))) (s,22) ({ s with ballage:=0 },0)
theorem bp {N:Nat} {r8:Bool} {r0:ByteArray} {r13:Rows} {s18 s20:Bool} (h:Fit s14 s16 s17 s19 s24) (hN:2097152<N) (hs:r0.size≤1048576):Gb N [.str r0,.int r1,.int r2,.int r3,.int r4,.int r5,.int r6,.int r7,.bool r8,.int r9,.int r10,.int r11,.int r12,.rows r13,.int s0,.int s1,.int s2,.int s3,.int s4,.int s5,.int s6,.int s7,.int s8,.int s9,.int s10,.int s11,.int s12,.int s13,.rows s14,.int s15,.rows s16,.rows s17,.bool s18,.rows s19,.bool s20,.int s21,.int s22,.int s23,.rows s24,.int s25,.int s26,.int s27]=some (BV (JV (⟨r0,r1,r2,r3,r4,r5,r6,r7,r8,r9,r10,r11,r12,r13⟩:Rul) (⟨s0,s1,s2,s3,s4,s5,s6,s7,s8,s9,s10,s11,s12,s13,s14,s15,s16,s17,s18,s19,s20,s21,s22,s23,s24,s25,s26,s27⟩:Inn))):=by
 show JI (std (G4 N) N) (xOf _)=_;generalize hres:(some (BV (JV (⟨r0,r1,r2,r3,r4,r5,r6,r7,r8,r9,r10,r11,r12,r13⟩:Rul) (⟨s0,s1,s2,s3,s4,s5,s6,s7,s8,s9,s10,s11,s12,s13,s14,s15,s16,s17,s18,s19,s20,s21,s22,s23,s24,s25,s26,s27⟩:Inn))):Option (List PV))=RR;simp only [JI,PK,Qp,lq9,std,xOf,PXb,PXc,PXn,PXm,Nat.reduceAdd,Int.reduceBEq,Tl h,DS hN hs];subst hres;simp only [JV];cases (!(BL (⟨r0,r1,r2,r3,r4,r5,r6,r7,r8,r9,r10,r11,r12,r13⟩:Rul)==0)||r9==0||iLt s21 (IntKind.i64.wrap (r9 * r4)))<;>rfl
def js (r:Rul) (over:Int):Int :=
 match BO (fun i=>cond (iLe (atI r.power i 0) (inc over)&&iLe (inc over) (atI r.power i 1)) (some [.int (atI r.power i 2)]) none) r.power.length 0 with
 | some x=>pvI (AA x 0)
 | none=>r.outside
theorem bv {N:Nat} {r8:Bool} {r0:ByteArray} {r13:Rows} {o:Int} (hN:2097152<N) (h13:r13.length≤1048576):GJ N [.str r0,.int r1,.int r2,.int r3,.int r4,.int r5,.int r6,.int r7,.bool r8,.int r9,.int r10,.int r11,.int r12,.rows r13,.int o]=some [.int (js (⟨r0,r1,r2,r3,r4,r5,r6,r7,r8,r9,r10,r11,r12,r13⟩:Rul) o)]:=by
 show I2 (std (QT N) N) (xOf _)=_;simp only [I2,lq9,std,xOf,PXb,PXc,PXn,AG];refine Ac (Co (len:=r13.length) (fun i=>cond (iLe (atI r13 i 0) (inc o)&&iLe (inc o) (atI r13 i 1)) (some [.int (atI r13 i 2)]) none) ?_ ?_ r13.length 0 N (by omega) (by omega)) ?_
 ·intro self;simp only [PXb,PXc,PXn,AG,A7]
 ·intro i self hi;simp only [PXb,PXc,PXn,AG,A8 (show i≤1099511627776 by omega),Az hi,AP hi];cases hq:iLe (atI r13 i 0) (inc o)&&iLe (inc o) (atI r13 i 1)<;>unfold inc atI at hq<;>rw [hq]<;>rfl
 ·unfold js;cases BO (fun i=>cond (iLe (atI r13 i 0) (inc o)&&iLe (inc o) (atI r13 i 1)) (some [.int (atI r13 i 2)]) none) r13.length 0<;>rfl
def MH (s:Inn) (p:Int):Inn×Int :=
 cond (!inR p s.subs.length) (s,3) (cond (Hr s p) (s,18) (cond (p==s.bowler||p==s.keeper) (s,17) ({ s with keeper:=p },0)))
theorem eJ {N:Nat} {s18 s20:Bool} {p:Int} (h:Fit s14 s16 s17 s19 s24):HR N [.int s0,.int s1,.int s2,.int s3,.int s4,.int s5,.int s6,.int s7,.int s8,.int s9,.int s10,.int s11,.int s12,.int s13,.rows s14,.int s15,.rows s16,.rows s17,.bool s18,.rows s19,.bool s20,.int s21,.int s22,.int s23,.rows s24,.int s25,.int s26,.int s27,.int p]=some (BV (MH (⟨s0,s1,s2,s3,s4,s5,s6,s7,s8,s9,s10,s11,s12,s13,s14,s15,s16,s17,s18,s19,s20,s21,s22,s23,s24,s25,s26,s27⟩:Inn) p)):=by
 show KV (std (FD N) N) (xOf _)=_;generalize hres:(some (BV (MH (⟨s0,s1,s2,s3,s4,s5,s6,s7,s8,s9,s10,s11,s12,s13,s14,s15,s16,s17,s18,s19,s20,s21,s22,s23,s24,s25,s26,s27⟩:Inn) p)):Option (List PV))=RR;simp only [KV,R3,Ps,Nl,lq9,std,xOf,PXb,PXc,PXn,PXm,Nat.reduceAdd,Int.reduceBEq,TR h,IY,Ht h.sb];subst hres;simp only [MH];cases inR p s24.length<;>cases Hr (⟨s0,s1,s2,s3,s4,s5,s6,s7,s8,s9,s10,s11,s12,s13,s14,s15,s16,s17,s18,s19,s20,s21,s22,s23,s24,s25,s26,s27⟩:Inn) p<;>cases p==s15<;>cases p==s22<;>rfl
def PS (s:Inn) (p:Int) (on:Bool):Inn×Int :=
  cond (!inR p s.subs.length) (s,3) (cond (Hr s p==on) (s,18)
    ({ s with subs:=rR s.subs p on,keeper:=cond (on&&s.keeper==p) 0 s.keeper,bowler:=cond (on&&s.bowler==p) 0 s.bowler },0))
theorem Xm {N:Nat} {s18 s20:Bool} {p:Int} {b:Bool} (h:Fit s14 s16 s17 s19 s24):D8 N [.int s0,.int s1,.int s2,.int s3,.int s4,.int s5,.int s6,.int s7,.int s8,.int s9,.int s10,.int s11,.int s12,.int s13,.rows s14,.int s15,.rows s16,.rows s17,.bool s18,.rows s19,.bool s20,.int s21,.int s22,.int s23,.rows s24,.int s25,.int s26,.int s27,.int p,.bool b]=some (BV (PS (⟨s0,s1,s2,s3,s4,s5,s6,s7,s8,s9,s10,s11,s12,s13,s14,s15,s16,s17,s18,s19,s20,s21,s22,s23,s24,s25,s26,s27⟩:Inn) p b)):=by
 show Fy (std (DL N) N) (xOf _)=_;generalize hres:(some (BV (PS (⟨s0,s1,s2,s3,s4,s5,s6,s7,s8,s9,s10,s11,s12,s13,s14,s15,s16,s17,s18,s19,s20,s21,s22,s23,s24,s25,s26,s27⟩:Inn) p b)):Option (List PV))=RR;simp only [Fy,N5,M8,Kv,lq9,std,xOf,PXb,PXc,PXn,PXm,Nat.reduceAdd,Int.reduceBEq,TR h,IY,Ht h.sb];subst hres;simp only [PS];cases hp:inR p s24.length<;>try rfl
 rw [LQ hp h.sb];cases Hr (⟨s0,s1,s2,s3,s4,s5,s6,s7,s8,s9,s10,s11,s12,s13,s14,s15,s16,s17,s18,s19,s20,s21,s22,s23,s24,s25,s26,s27⟩:Inn) p==b<;>cases b<;>cases s22==p<;>cases s15==p<;>rfl
def Ja (s:Inn) (n:Int):Inn×Int :=
 cond (iLt n 0||iLt (IntKind.i64.wrap ((s.subs.length:Int) - 2)) n) (s,16) ({ s with outside:=n },0)
theorem cz {N:Nat} {s18 s20:Bool} {n:Int} (h:Fit s14 s16 s17 s19 s24):GH N [.int s0,.int s1,.int s2,.int s3,.int s4,.int s5,.int s6,.int s7,.int s8,.int s9,.int s10,.int s11,.int s12,.int s13,.rows s14,.int s15,.rows s16,.rows s17,.bool s18,.rows s19,.bool s20,.int s21,.int s22,.int s23,.rows s24,.int s25,.int s26,.int s27,.int n]=some (BV (Ja (⟨s0,s1,s2,s3,s4,s5,s6,s7,s8,s9,s10,s11,s12,s13,s14,s15,s16,s17,s18,s19,s20,s21,s22,s23,s24,s25,s26,s27⟩:Inn) n)):=by
 show JL (std (Kq N) N) (xOf _)=_;generalize hres:(some (BV (Ja (⟨s0,s1,s2,s3,s4,s5,s6,s7,s8,s9,s10,s11,s12,s13,s14,s15,s16,s17,s18,s19,s20,s21,s22,s23,s24,s25,s26,s27⟩:Inn) n)):Option (List PV))=RR;simp only [JL,Qh,lq9,std,xOf,PXb,PXc,PXn,PXm,Nat.reduceAdd,Int.reduceBEq,TR h];subst hres;simp only [Ja];cases (iLt n 0||iLt (IntKind.i64.wrap ((s24.length:Int) - 2)) n)<;>rfl
def RA (r:Rul) (s:Inn):Int :=
 cond (!inR s.keeper s.subs.length||Hr s s.keeper||s.keeper==s.bowler) 17 (cond (iLt (js r s.complete) s.outside) 16 0)
theorem gW {N:Nat} {r8:Bool} {r0:ByteArray} {r13:Rows} {s18 s20:Bool} (h:Fit s14 s16 s17 s19 s24) (hN:2097152<N) (h13:r13.length≤1048576):IZ N [.str r0,.int r1,.int r2,.int r3,.int r4,.int r5,.int r6,.int r7,.bool r8,.int r9,.int r10,.int r11,.int r12,.rows r13,.int s0,.int s1,.int s2,.int s3,.int s4,.int s5,.int s6,.int s7,.int s8,.int s9,.int s10,.int s11,.int s12,.int s13,.rows s14,.int s15,.rows s16,.rows s17,.bool s18,.rows s19,.bool s20,.int s21,.int s22,.int s23,.rows s24,.int s25,.int s26,.int s27]=some [.int (RA (⟨r0,r1,r2,r3,r4,r5,r6,r7,r8,r9,r10,r11,r12,r13⟩:Rul) (⟨s0,s1,s2,s3,s4,s5,s6,s7,s8,s9,s10,s11,s12,s13,s14,s15,s16,s17,s18,s19,s20,s21,s22,s23,s24,s25,s26,s27⟩:Inn))]:=by
 show Ls (std (GM N) N) (xOf _)=_;generalize hres:(some [.int (RA (⟨r0,r1,r2,r3,r4,r5,r6,r7,r8,r9,r10,r11,r12,r13⟩:Rul) (⟨s0,s1,s2,s3,s4,s5,s6,s7,s8,s9,s10,s11,s12,s13,s14,s15,s16,s17,s18,s19,s20,s21,s22,s23,s24,s25,s26,s27⟩:Inn))]:Option (List PV))=RR;simp only [Ls,Qn,OA,Pe,lq9,std,xOf,PXb,PXc,PXn,PXm,Nat.reduceAdd,Int.reduceBEq,IY,Ht h.sb,bv hN h13];subst hres;simp only [RA];cases inR s22 s24.length<;>cases Hr (⟨s0,s1,s2,s3,s4,s5,s6,s7,s8,s9,s10,s11,s12,s13,s14,s15,s16,s17,s18,s19,s20,s21,s22,s23,s24,s25,s26,s27⟩:Inn) s22<;>cases s22==s15<;>rfl
def R9 (s:Inn) (d:Del):Int :=
  cond (iLt 0 d.fielder && !inR d.fielder s.subs.length) 3 (cond (iLt 0 d.fielder && !(d.sub==Hr s d.fielder)) 18
    (cond (iLt 0 d.second && !inR d.second s.subs.length) 3 (cond (iLt 0 d.second&&Hr s d.second) 18
      (cond (d.how==4 && !(oZ d.fielder==s.keeper)) 17 0))))
theorem gh {N:Nat} {s18 s20:Bool} {d5 d10:Bool} (h:Fit s14 s16 s17 s19 s24):IX N [.int s0,.int s1,.int s2,.int s3,.int s4,.int s5,.int s6,.int s7,.int s8,.int s9,.int s10,.int s11,.int s12,.int s13,.rows s14,.int s15,.rows s16,.rows s17,.bool s18,.rows s19,.bool s20,.int s21,.int s22,.int s23,.rows s24,.int s25,.int s26,.int s27,.int d0,.int d1,.int d2,.int d3,.int d4,.bool d5,.int d6,.int d7,.int d8,.int d9,.bool d10,.int d11]=some [.int (R9 (⟨s0,s1,s2,s3,s4,s5,s6,s7,s8,s9,s10,s11,s12,s13,s14,s15,s16,s17,s18,s19,s20,s21,s22,s23,s24,s25,s26,s27⟩:Inn) (⟨d0,d1,d2,d3,d4,d5,d6,d7,d8,d9,d10,d11⟩:Del))]:=by
 show LP (std (JS N) N) (xOf _)=_;generalize hres:(some [.int (R9 (⟨s0,s1,s2,s3,s4,s5,s6,s7,s8,s9,s10,s11,s12,s13,s14,s15,s16,s17,s18,s19,s20,s21,s22,s23,s24,s25,s26,s27⟩:Inn) (⟨d0,d1,d2,d3,d4,d5,d6,d7,d8,d9,d10,d11⟩:Del))]:Option (List PV))=RR;simp only [LP,Qq,ON,lq9,std,xOf,PXb,PXc,PXn,PXm,Nat.reduceAdd,Int.reduceBEq,IY,Ht h.sb];subst hres;simp only [R9,oZ,wE];cases iLt 0 d8<;>cases iLt 0 d9<;>cases inR d8 s24.length<;>cases inR d9 s24.length<;>cases d10==Hr (⟨s0,s1,s2,s3,s4,s5,s6,s7,s8,s9,s10,s11,s12,s13,s14,s15,s16,s17,s18,s19,s20,s21,s22,s23,s24,s25,s26,s27⟩:Inn) d8<;>cases Hr (⟨s0,s1,s2,s3,s4,s5,s6,s7,s8,s9,s10,s11,s12,s13,s14,s15,s16,s17,s18,s19,s20,s21,s22,s23,s24,s25,s26,s27⟩:Inn) d9<;>rfl
structure Cre where
 batter:Int
 wides:Int
 noballs:Int
 byes:Int
 legbyes:Int
 bowler:Int
 counts:Bool
 faced:Bool
 wicket:Bool
 swap:Bool
def Cre.ls (c:Cre):List PV:=[.int c.batter,.int c.wides,.int c.noballs,.int c.byes,.int c.legbyes,.int c.bowler,.bool c.counts,.bool c.faced,.bool c.wicket,.bool c.swap]
def PY (d:Del):Bool :=
  cond (d.type==2) (d.source==0 && !(d.boundary==6)) (cond (d.source==0) (d.runs==0&&d.boundary==0)
    (cond (d.boundary==0) (iLt 0 d.runs) (cond (d.boundary==6) (d.source==1&&d.runs==0) true)))
def Db (d:Del):Int :=
  cond (iLt d.type 1||iLt 3 d.type||iLt 3 d.source||iLt 10 d.how || !btw d.sector 0 8) 11
    (cond (!btw d.runs 0 7 || !btw d.short 0 d.runs||(!(d.boundary==0) && !(d.boundary==4) && !(d.boundary==6))) 12
      (cond (!PY d) 11 (cond (!(d.sector==0) && !(d.source==1) && !(d.how==2)) 11 (cond (!(d.boundary==0) && !(d.how==0)) 11
        (cond (d.crossed && !(d.how==6) && !(d.how==8)) 11 0)))))
def Kw (d:Del):Bool :=
  cond (d.type==2) (d.source==0 && !(d.boundary==6)) (cond (d.source==0) (d.runs==0&&d.boundary==0)
    (cond (d.source==1) (!(d.boundary==6)||d.runs==0) (!(d.boundary==6)&&(iLt 0 d.runs || !(d.boundary==0)))))
theorem Wm {N:Nat} {d5 d10:Bool}  : Dl N [.int d0,.int d1,.int d2,.int d3,.int d4,.bool d5,.int d6,.int d7,.int d8,.int d9,.bool d10,.int d11]=some [.bool (Kw (⟨d0,d1,d2,d3,d4,d5,d6,d7,d8,d9,d10,d11⟩:Del))]:=by
 show Fd (std (MM N) N) (xOf _)=_;generalize hres:(some [.bool (Kw (⟨d0,d1,d2,d3,d4,d5,d6,d7,d8,d9,d10,d11⟩:Del))]:Option (List PV))=RR;simp only [Fd,lq9,std,xOf,PXb,PXc,PXn,PXm,Nat.reduceAdd,Int.reduceBEq];subst hres;simp only [Kw]
theorem xm (x a b:Int):(!btw x a b)=(iLt x a||iLt b x):=by
 unfold btw iLe iLt;rw [Bool.eq_iff_iff];simp only [Bool.not_eq_true',Bool.and_eq_false_iff,decide_eq_false_iff_not,Bool.or_eq_true,decide_eq_true_eq];omega
theorem ug {d:Del} (h:0≤d.runs):(!Kw d || !d.type==2&&d.source==1&&d.runs==0&&d.boundary==0) = !PY d:=by
 unfold Kw PY;rw [vd h];cases h1:d.source==0 with
 | true =>
  rw [dk h1 (c:=1) rfl];cases d.type==2<;>cases d.runs==0<;>cases d.boundary==0<;>cases d.boundary==6<;>rfl
 | false =>
  cases h2:d.boundary==0 with
  | true =>
   rw [dk h2 (c:=6) rfl];cases d.type==2<;>cases d.source==1<;>cases d.runs==0<;>rfl
  | false=>cases d.type==2<;>cases d.source==1<;>cases d.runs==0<;>cases d.boundary==6<;>rfl
theorem SH {N:Nat} {d5 d10:Bool}  : Cd N [.int d0,.int d1,.int d2,.int d3,.int d4,.bool d5,.int d6,.int d7,.int d8,.int d9,.bool d10,.int d11]=some [.int (Db (⟨d0,d1,d2,d3,d4,d5,d6,d7,d8,d9,d10,d11⟩:Del))]:=by
 show Hp (std (Jw N) N) (xOf _)=_;generalize hres:(some [.int (Db (⟨d0,d1,d2,d3,d4,d5,d6,d7,d8,d9,d10,d11⟩:Del))]:Option (List PV))=RR;simp only [Hp,Ku,lq9,std,xOf,PXb,PXc,PXn,PXm,Nat.reduceAdd,Int.reduceBEq,Wm];subst hres;simp only [Db,xm,Bool.or_assoc];cases h2:(iLt d2 0||(iLt 7 d2||(iLt d3 0||(iLt d2 d3 || !d4==0 && !d4==4 && !d4==6)))) with
 | true=>rfl
 | false =>
  have h3:0≤d2:=by
   rw [Bool.or_eq_false_iff] at h2;have:=h2.1;simp only [iLt,decide_eq_false_iff_not] at this;omega
  have:=ug (d:=(⟨d0,d1,d2,d3,d4,d5,d6,d7,d8,d9,d10,d11⟩:Del)) h3;simp only at this;rw [this]
theorem RT {N:Nat} {a:Int} {b:Int} {c:Int} {d:Int} {e:Int} {x:Int} {p:Bool} {q:Bool} {u:Bool} {v:Bool}  : Ca N [.int a,.int b,.int c,.int d,.int e,.int x,.bool p,.bool q,.bool u,.bool v]=some [.int (IntKind.i64.wrap (IntKind.i64.wrap (IntKind.i64.wrap (IntKind.i64.wrap (a+b)+c)+d)+e))]:=by
 rfl
def B8 (c:Cre):Int:=IntKind.i64.wrap (IntKind.i64.wrap (IntKind.i64.wrap (IntKind.i64.wrap (c.batter+c.wides)+c.noballs)+c.byes)+c.legbyes)
def eX (h:Int):Bool:=iLe 1 h&&iLe h 5
theorem Wi {N:Nat} {h:Int}  : Dg N [.int h]=some [.bool (eX h)]:=by
 show FX (std (MW N) N) (xOf _)=_;simp only [FX,lq9,std,xOf,PXb,PXc,PXn,PXm,Nat.reduceAdd,Int.reduceBEq,eX]
def Ok (r:Rul) (d:Del):Cre :=
  let n:=IntKind.i64.wrap (IntKind.i64.wrap (d.runs - d.short)+d.boundary)
  let b:=cond (!(d.type==2)&&d.source==1) n 0
  let w:=cond (d.type==2) (IntKind.i64.wrap (r.wide+n)) 0
  let o:=cond (d.type==3) r.noball 0
  { batter:=b,wides:=w,noballs:=o,byes:=cond (!(d.type==2)&&d.source==2) n 0,legbyes:=cond (!(d.type==2)&&d.source==3) n 0,bowler:=IntKind.i64.wrap (IntKind.i64.wrap (b+w)+o),
    counts:=d.type==1,faced := !(d.type==2),wicket:=eX d.how,swap := !((!(d.runs.tmod 2==0))==d.crossed) }
def AE (r:Rul) (d:Del):Cre:=cond (!(Db d==0)) ⟨0,0,0,0,0,0,false,false,false,false⟩ (Ok r d)
theorem oA {d:Del} (h:(Db d==0)=true):0≤d.runs∧d.runs≤7:=by
 unfold Db at h;cases h1:(iLt d.type 1||iLt 3 d.type||iLt 3 d.source||iLt 10 d.how || !btw d.sector 0 8) with
 | true=>rw [h1] at h;cases h
 | false =>
  cases h2:(!btw d.runs 0 7 || !btw d.short 0 d.runs||(!(d.boundary==0) && !(d.boundary==4) && !(d.boundary==6))) with
  | true=>rw [h1,h2] at h;cases h
  | false =>
   rw [Bool.or_eq_false_iff,Bool.or_eq_false_iff] at h2;have:=h2.1.1;simp only [btw,iLe,Bool.not_eq_false',zzj,decide_eq_true_eq] at this;exact this
theorem uL {n:Int} (h:0≤n∧n≤7) (b:Bool):((cond b (IntKind.i64.wrap (n+1)) n).tmod 2==1) = !((!(n.tmod 2==0))==b):=by
 obtain ⟨k,rfl⟩:∃ k:Nat,n=k:=⟨n.toNat,by omega⟩;have:k=0∨k=1∨k=2∨k=3∨k=4∨k=5∨k=6∨k=7:=by omega
 rcases this with h | h | h | h | h | h | h | h<;>subst h<;>cases b<;>rfl
theorem G3 {N:Nat} {r8:Bool} {r0:ByteArray} {r13:Rows} {d5 d10:Bool}  : A1 N [.str r0,.int r1,.int r2,.int r3,.int r4,.int r5,.int r6,.int r7,.bool r8,.int r9,.int r10,.int r11,.int r12,.rows r13,.int d0,.int d1,.int d2,.int d3,.int d4,.bool d5,.int d6,.int d7,.int d8,.int d9,.bool d10,.int d11]=some (AE (⟨r0,r1,r2,r3,r4,r5,r6,r7,r8,r9,r10,r11,r12,r13⟩:Rul) (⟨d0,d1,d2,d3,d4,d5,d6,d7,d8,d9,d10,d11⟩:Del)).ls:=by
 show Gw (std (FY N) N) (xOf _)=_;generalize hres:(some (AE (⟨r0,r1,r2,r3,r4,r5,r6,r7,r8,r9,r10,r11,r12,r13⟩:Rul) (⟨d0,d1,d2,d3,d4,d5,d6,d7,d8,d9,d10,d11⟩:Del)).ls:Option (List PV))=RR;simp only [Gw,L5,Kf,lq9,std,xOf,PXb,PXc,PXn,PXm,Nat.reduceAdd,Int.reduceBEq,SH,Wi];subst hres;simp only [AE,Ok];cases hl:Db (⟨d0,d1,d2,d3,d4,d5,d6,d7,d8,d9,d10,d11⟩:Del)==0 with
 | false=>rfl
 | true =>
  have hs:=uL (oA hl) d5;simp only at hs;simp only [PXb,PXc,PXn,PXm,Nat.reduceAdd,Int.reduceBEq,hs];cases h0:d0==2<;>cases h3:d0==3<;>cases h1:d1==1<;>cases h2:d1==2<;>cases h4:d1==3<;>first
   | rfl
   | (rw [dk h0 (c:=3) rfl] at h3;exact absurd h3 (by decide))
   | (rw [dk h1 (c:=2) rfl] at h2;exact absurd h2 (by decide))
   | (rw [dk h1 (c:=3) rfl] at h4;exact absurd h4 (by decide))
   | (rw [dk h2 (c:=3) rfl] at h4;exact absurd h4 (by decide))
end Go.Px
end
