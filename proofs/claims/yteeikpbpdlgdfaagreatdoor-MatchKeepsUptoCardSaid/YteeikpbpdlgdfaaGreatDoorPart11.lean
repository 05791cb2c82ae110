/- Part 11. -/
import Derived.Test.YteeikpbpdlgdfaaGreatDoorPart09
import Derived.Test.YteeikpbpdlgdfaaGreatDoorPart10
set_option linter.unusedVariables false
set_option linter.unusedSimpArgs false
variable {s0 s1 s2 s3 s4 s5 s6 s7 s8 s9 s10 s11 s12 s13 s15 s21 s22 s23 s25 s26 s27:Int}
variable {s14 s16 s17 s19 s24:Go.Px.Rows}
section
namespace Go.Px
set_option maxRecDepth 100000
def BC (N:Nat):Env:=fun f fns ls=>(cond (Nat.beq f 4&&A6 fns []) (FG N ls) (cond (Nat.beq f 5&&A6 fns []) (Fw N ls) (cond (Nat.beq f 6&&A6 fns []) (FE N ls) (cond (Nat.beq f 7&&A6 fns []) (Ce N ls) (cond (Nat.beq f 8&&A6 fns []) (DL N ls) (cond (Nat.beq f 9&&A6 fns []) (Gw N ls) none))))))
theorem IQ {N ls}:BC N 4 [] ls=FG N ls:=id rfl
theorem Ji {N ls}:BC N 5 [] ls=Fw N ls:=id rfl
theorem IW {N ls}:BC N 6 [] ls=FE N ls:=id rfl
theorem HX {N ls}:BC N 7 [] ls=Ce N ls:=id rfl
theorem IA {N ls}:BC N 8 [] ls=DL N ls:=id rfl
theorem JE {N ls}:BC N 9 [] ls=Gw N ls:=id rfl
def Di (N:Nat) (ls:List PV):Option (List PV):=QR (BC N) ls
def Ac (xs:List Inn):Rows:=xs.map Inn.ls
def dI:Inn:=⟨0,0,0,0,0,0,0,0,0,0,0,0,0,0,[],0,[],[],false,[],false,0,0,0,[],0,0,0⟩
def inn (xs:List Inn) (i:Nat):Inn:=xs.getD i dI
structure Mat where
 rules:Rul
 stage:Int
 first:Int
 follow:Bool
 inns:List Inn
 pen1:Int
 pen2:Int
 win:Int
 wside:Int
 margin:Int
def Mat.ls (m:Mat):List PV:=[.str m.rules.name,.int m.rules.side,.int m.rules.innings,.int m.rules.overs,.int m.rules.balls,.int m.rules.quota,.int m.rules.wide,.int m.rules.noball,.bool m.rules.freehit,.int m.rules.newball,.int m.rules.followon,.int m.rules.reviews,.int m.rules.outside,.rows m.rules.power,.int m.stage,.int m.first,.bool m.follow,.rows (Ac m.inns),.int m.pen1,.int m.pen2,.int m.win,.int m.wside,.int m.margin]
theorem U8 (xs:List Inn) (i:Nat):AR (Ac xs) i=(match xs[i]? with | some s=>s.ls | none=>[]):=by
 unfold AR Ac;rw [zzl,List.getElem?_map];cases xs[i]?<;>rfl
theorem L5 (xs:List Inn) (i:Nat):inn xs i=(match xs[i]? with | some s=>s | none=>dI):=by
 unfold inn;rw [zzl];cases xs[i]?<;>rfl
theorem SK (xs:List Inn):(Ac xs).length=xs.length:=List.length_map _
theorem PXi : (∀ xs : List Inn, (Ac xs).length = xs.length) ∧ (∀ (xs : List Inn) (i : Nat), pvI (AP (Ac xs) i 0) = (inn xs i).side) ∧ (∀ (xs : List Inn) (i : Nat), pvI (AP (Ac xs) i 1) = (inn xs i).target) ∧ (∀ (xs : List Inn) (i : Nat), pvI (AP (Ac xs) i 2) = (inn xs i).overs) ∧ (∀ (xs : List Inn) (i : Nat), pvI (AP (Ac xs) i 3) = (inn xs i).runs) ∧
    (∀ (xs:List Inn) (i:Nat),pvI (AP (Ac xs) i 4)=(inn xs i).wickets)∧(∀ (xs:List Inn) (i:Nat),pvI (AP (Ac xs) i 5)=(inn xs i).wides)∧(∀ (xs:List Inn) (i:Nat),pvI (AP (Ac xs) i 6)=(inn xs i).noballs)∧(∀ (xs:List Inn) (i:Nat),pvI (AP (Ac xs) i 7)=(inn xs i).byes)∧(∀ (xs:List Inn) (i:Nat),pvI (AP (Ac xs) i 8)=(inn xs i).legbyes) ∧
    (∀ (xs:List Inn) (i:Nat),pvI (AP (Ac xs) i 9)=(inn xs i).pens)∧(∀ (xs:List Inn) (i:Nat),pvI (AP (Ac xs) i 10)=(inn xs i).complete)∧(∀ (xs:List Inn) (i:Nat),pvI (AP (Ac xs) i 11)=(inn xs i).inover)∧(∀ (xs:List Inn) (i:Nat),pvI (AP (Ac xs) i 12)=(inn xs i).striker)∧(∀ (xs:List Inn) (i:Nat),pvI (AP (Ac xs) i 13)=(inn xs i).other) ∧
    (∀ (xs:List Inn) (i:Nat),pvL (AP (Ac xs) i 14)=(inn xs i).batters)∧(∀ (xs:List Inn) (i:Nat),pvI (AP (Ac xs) i 15)=(inn xs i).bowler)∧(∀ (xs:List Inn) (i:Nat),pvL (AP (Ac xs) i 16)=(inn xs i).bowlers)∧(∀ (xs:List Inn) (i:Nat),pvL (AP (Ac xs) i 17)=(inn xs i).before)∧(∀ (xs:List Inn) (i:Nat),pvB (AP (Ac xs) i 18)=(inn xs i).fresh) ∧
    (∀ (xs:List Inn) (i:Nat),pvL (AP (Ac xs) i 19)=(inn xs i).bowled)∧(∀ (xs:List Inn) (i:Nat),pvB (AP (Ac xs) i 20)=(inn xs i).freehit)∧(∀ (xs:List Inn) (i:Nat),pvI (AP (Ac xs) i 21)=(inn xs i).ballage)∧(∀ (xs:List Inn) (i:Nat),pvI (AP (Ac xs) i 22)=(inn xs i).keeper)∧(∀ (xs:List Inn) (i:Nat),pvI (AP (Ac xs) i 23)=(inn xs i).outside) ∧
    (∀ (xs:List Inn) (i:Nat),pvL (AP (Ac xs) i 24)=(inn xs i).subs)∧(∀ (xs:List Inn) (i:Nat),pvI (AP (Ac xs) i 25)=(inn xs i).rev1)∧(∀ (xs:List Inn) (i:Nat),pvI (AP (Ac xs) i 26)=(inn xs i).rev2)∧(∀ (xs:List Inn) (i:Nat),pvI (AP (Ac xs) i 27)=(inn xs i).ending):=by
  refine ⟨SK,?_,?_,?_,?_,?_,?_,?_,?_,?_,?_,?_,?_,?_,?_,?_,?_,?_,?_,?_,?_,?_,?_,?_,?_,?_,?_,?_,?_⟩
  all_goals (intro xs i;rw [L5];unfold AP;rw [U8];cases xs[i]?<;>rfl)
theorem Mat.eta (m:Mat):Mat.mk m.rules m.stage m.first m.follow m.inns m.pen1 m.pen2 m.win m.wside m.margin=m:=rfl
theorem YE:∀ (ps r pre:List PV),r.length=ps.length→Bj (pre++r) pre.length ps=pre++ps
 | [],r,pre,h=>by
  have:r=[]:=List.eq_nil_of_length_eq_zero h;subst this;rfl
 | p::ps,[],pre,h=>by cases h
 | p::ps,a::r,pre,h=>by
  have ih:=YE ps r (pre++[p]) (by simpa using h);simp only [List.length_append,List.length_cons,List.length_nil,List.append_assoc,List.cons_append,List.nil_append] at ih;unfold Bj;rw [List.set_append_right _ _ (Nat.le_refl _),Nat.sub_self];exact ih
theorem dq (a s:Inn):Bj a.ls 0 s.ls=s.ls:=YE s.ls a.ls [] rfl
theorem cR (a:Inn) (e:Int):Bj a.ls 27 [.int e]=Inn.ls { a with ending:=e }:=by
 show a.ls.set 27 (.int e)=_;rfl
theorem ce {xs:List Inn} {i:Nat} (h:i<xs.length) (s:Inn):(Ac xs).set i (Bj (AR (Ac xs) i) 0 s.ls)=Ac (xs.set i s):=by
 have e:AR (Ac xs) i=(xs[i]).ls:=by rw [U8,zzo h]
 rw [e,dq];exact List.map_set.symm
theorem cd {xs:List Inn} {i:Nat} (h:i<xs.length) (e:Int):(Ac xs).set i (Bj (AR (Ac xs) i) 27 [.int e])=Ac (xs.set i { inn xs i with ending:=e }):=by
 have e1:AR (Ac xs) i=(inn xs i).ls:=by rw [U8,L5,zzo h]
 rw [e1,cR];exact List.map_set.symm
theorem cV (xs:List Inn) (s:Inn):Ac xs++[s.ls]=Ac (xs++[s]):=by
 show List.map Inn.ls xs++List.map Inn.ls [s]=List.map Inn.ls (xs++[s]);exact List.map_append.symm
theorem cL (xs:List Inn) (i:Nat) (s:Inn):(Ac xs).set i (Bj (AR (Ac xs) i) 0 s.ls)=Ac (xs.set i s):=by
 by_cases h:i<xs.length
 ·exact ce h s
 ·rw [List.set_eq_of_length_le (by rw [SK];omega),List.set_eq_of_length_le (by omega)]
theorem X6 (xs:List Inn) (i:Nat) (e:Int):(Ac xs).set i (Bj (AR (Ac xs) i) 27 [.int e])=Ac (xs.set i { inn xs i with ending:=e }):=by
 by_cases h:i<xs.length
 ·exact cd h e
 ·rw [List.set_eq_of_length_le (by rw [SK];omega),List.set_eq_of_length_le (by omega)]
theorem PXr : (∀ (xs : List Inn) (x0 x1 x2 x3 x4 x5 x6 x7 x8 x9 x10 x11 x12 x13 x15 x21 x22 x23 x25 x26 x27 : Int) (x18 x20 : Bool) (x14 x16 x17 x19 x24 : Rows), Ac xs ++ [([.int x0, .int x1, .int x2, .int x3, .int x4, .int x5, .int x6, .int x7, .int x8, .int x9, .int x10, .int x11, .int x12, .int x13, .rows x14, .int x15, .rows x16, .rows x17, .bool x18, .rows x19, .bool x20, .int x21, .int x22, .int x23, .rows x24, .int x25, .int x26, .int x27] : List PV)] = Ac (xs ++ [⟨x0, x1, x2, x3, x4, x5, x6, x7, x8, x9, x10, x11, x12, x13, x14, x15, x16, x17, x18, x19, x20, x21, x22, x23, x24, x25, x26, x27⟩])) ∧ (∀ (xs : List Inn) (i : Nat) (x0 x1 x2 x3 x4 x5 x6 x7 x8 x9 x10 x11 x12 x13 x15 x21 x22 x23 x25 x26 x27 : Int) (x18 x20 : Bool) (x14 x16 x17 x19 x24 : Rows), (Ac xs).set i (Bj (AR (Ac xs) i) 0 [.int x0, .int x1, .int x2, .int x3, .int x4, .int x5, .int x6, .int x7, .int x8, .int x9, .int x10, .int x11, .int x12, .int x13, .rows x14, .int x15, .rows x16, .rows x17, .bool x18, .rows x19, .bool x20, .int x21, .int x22, .int x23, .rows x24, .int x25, .int x26, .int x27]) = Ac (xs.set i ⟨x0, x1, x2, x3, x4, x5, x6, x7, x8, x9, x10, x11, x12, x13, x14, x15, x16, x17, x18, x19, x20, x21, x22, x23, x24, x25, x26, x27⟩)) ∧
    (∀ (xs:List Inn) (i:Nat) (e:Int),(Ac xs).set i (Bj (AR (Ac xs) i) 27 [.int e])=Ac (xs.set i { inn xs i with ending:=e })) :=
  ⟨fun xs x0 x1 x2 x3 x4 x5 x6 x7 x8 x9 x10 x11 x12 x13 x15 x21 x22 x23 x25 x26 x27 x18 x20 x14 x16 x17 x19 x24=>cV xs ⟨x0,x1,x2,x3,x4,x5,x6,x7,x8,x9,x10,x11,x12,x13,x14,x15,x16,x17,x18,x19,x20,x21,x22,x23,x24,x25,x26,x27⟩,fun xs i x0 x1 x2 x3 x4 x5 x6 x7 x8 x9 x10 x11 x12 x13 x15 x21 x22 x23 x25 x26 x27 x18 x20 x14 x16 x17 x19 x24=>cL xs i ⟨x0,x1,x2,x3,x4,x5,x6,x7,x8,x9,x10,x11,x12,x13,x14,x15,x16,x17,x18,x19,x20,x21,x22,x23,x24,x25,x26,x27⟩,X6⟩
theorem Xr {N:Nat} {s18 s20:Bool} (h:Fit s14 s16 s17 s19 s24):FH N [.int s0,.int s1,.int s2,.int s3,.int s4,.int s5,.int s6,.int s7,.int s8,.int s9,.int s10,.int s11,.int s12,.int s13,.rows s14,.int s15,.rows s16,.rows s17,.bool s18,.rows s19,.bool s20,.int s21,.int s22,.int s23,.rows s24,.int s25,.int s26,.int s27]=some [.int s0,.int s1,.int s2,.int s3,.int s4,.int s5,.int s6,.int s7,.int s8,.int s9,.int s10,.int s11,.int s12,.int s13,.rows s14,.int s15,.rows s16,.rows s17,.bool s18,.rows s19,.bool s20,.int s21,.int s22,.int s23,.rows s24,.int s25,.int s26,.int s27]:=by
 show Hn (std (Ny N) N) (xOf _)=_;simp only [Hn,q9,std,xOf,PXb,PXc,PXn,PXm,Nat.reduceAdd,Int.reduceBEq,Mn h.bt (show 1≤4096 by omega),Mn h.bw' (show 8≤4096 by omega),Mn h.bf (show 8≤4096 by omega),Mn h.bd (show 8≤4096 by omega),Mn h.sb (show 1≤4096 by omega)]
def btw (a b c:Int):Bool:=iLe b a&&iLe a c
def al (x1 x2 x3 x4 x5 x6 x7 x9 x10 x11 x12:Int):Bool:=btw x1 2 11&&btw x2 1 2&&btw x3 0 90&&btw x4 4 8&&btw x5 0 90&&btw x6 1 5&&btw x7 1 5&&btw x9 0 200&&btw x10 0 1000&&btw x11 0 9&&btw x12 0 11
def cx (s:ByteArray) (i:Nat):Bool := !(iLe 65 (LF s i)&&iLe (LF s i) 90)&&((i:Int)==0||((!(LF s i==95) && !(LF s i==45))&&(iLt (LF s i) 48||iLt 57 (LF s i))))
def di (s:ByteArray):Bool := !CH (cx s) s.size 0&&(iLe 1 s.size&&iLe s.size 16)
def eK (L:Rows) (ov:Int) (i:Nat):Bool:=(iLt (atI L i 0) 1||iLt (atI L i 1) (atI L i 0)||iLt ov (atI L i 1)) || !btw (atI L i 2) 0 11
def dH (L:Rows) (i:Nat):Bool:=iLt 0 (i:Int)&&iLe (atI L i 0) (pvI (AP L (IntKind.i64.wrap ((i:Int) - 1)).toNat 1))
def eM (L:Rows) (ov:Int) (i:Nat):Option (List PV):=cond (eK L ov i) (some [.int 2]) (cond (dH L i) (some [.int 8]) none)
def dg:Option (List PV)→Int
 | none=>0
 | some r=>pvI (AE r 0)
def dT (L:Rows) (ov:Int):Int:=cond (iLt 8 (L.length:Int)) 9 (dg (Qb (eM L ov) L.length 0))
def Vb (x0:ByteArray) (x1 x2 x3 x4 x5 x6 x7 x9 x10 x11 x12:Int) (L:Rows):Int :=
  cond (!di x0) 5 (cond (!al x1 x2 x3 x4 x5 x6 x7 x9 x10 x11 x12) 2
    (cond ((!(x10==0)&&x2==1)||((!(x5==0)||iLt 0 (L.length:Int))&&x3==0)) 1
      (cond (!(x5==0)&&iLt (IntKind.i64.wrap (x5 * x1)) x3) 13 (dT L x3))))
def ef (L:Rows) (k:Nat) (v:Int):Bool:=CH (fun j=>v==atI L j 0) k 0
def cZ (L:Rows) (n:Int) (i:Nat):Bool := !btw (atI L i 0) 1 n||ef L i (atI L i 0)
def Ty (L:Rows) (n:Int):Bool := !CH (cZ L n) L.length 0
def pIs (L:Rows) (v:Int) (i:Nat):Bool:=atI L i 0==v
def ez (s n:Int) (i:Nat):Bool:=s==(i:Int)+1||n==(i:Int)+1
def eG (L:Rows) (s n:Int) (i:Nat):Bool:=iLt 3 (atI L i 0) || !(pIs L 1 i==ez s n i)
def d0 (L:Rows):Int:=YU (pIs L 2) L.length
def ins (L:Rows):Int:=YU (pIs L 1) L.length
def two (s n:Int):Int:=cond (!(n==0)) (IntKind.i64.wrap (cond (!(s==0)) (IntKind.i64.wrap (0+1)) 0+1)) (cond (!(s==0)) (IntKind.i64.wrap (0+1)) 0)
def b9 (L:Rows) (s n wk:Int):Bool :=
 !CH (eG L s n) L.length 0&&(!((Z8 L&&iLt (ins L) 1)||(!(s==0)&&s==n))&&wk==d0 L)
def XV (v:Int):Bool := !btw v 0 1000000000
def ec (x1 x3 x5 x6 x7 x8 x9 x10 x21 x23 x25 x26:Int):Rows:=[[.int x1],[.int x3],[.int x5],[.int x6],[.int x7],[.int x8],[.int x9],[.int x10],[.int x21],[.int x23],[.int x25],[.int x26]]
def YI (a3 x2:Int):Bool:=cond (a3==0) (x2==0) (btw x2 1 a3)
def d7 (s:ByteArray) (a1 a2 a3 a4 a5 a6 a7 a9 a10 a11 a12:Int) (La L14 L16 L17 L19 L24:Rows) (x0 x1 x2 x3 x4 x5 x6 x7 x8 x9 x10 x11 x12 x13 x15 x21 x22 x23 x25 x26 x27:Int):Bool :=
  Vb s a1 a2 a3 a4 a5 a6 a7 a9 a10 a11 a12 La==0&&(btw x0 1 2&&((L14.length:Int)==a1&&((L19.length:Int)==a1&&((L24.length:Int)==a1&&(!iLt 5 x27 &&
    (btw x12 0 a1&&(btw x13 0 a1&&(b9 L14 x12 x13 x4&&(btw x15 0 a1&&(btw x22 0 a1&&(Ty L16 a1&&(Ty L17 a1&&(YI a3 x2&&(btw x11 0 (IntKind.i64.wrap (a4 - 1)) &&
      (!bB XV (ec x1 x3 x5 x6 x7 x8 x9 x10 x21 x23 x25 x26) && !bB XV L19)))))))))))))))
theorem Ys {c:Int} {n:Nat} (hc:0≤c):iRg 0 (cond (iLt c (n:Int)) c (n:Int)) (n:Int)=true:=by
 cases h:iLt c (n:Int) with
 | true=>simp only [iLt,decide_eq_true_eq] at h;simp only [cond_true,iRg,decide_eq_true_eq];omega
 | false=>simp only [cond_false,iRg,decide_eq_true_eq];omega
def cut (L:Rows) (c:Int):Rows:=(L.take (cond (iLt c (L.length:Int)) c (L.length:Int)).toNat).drop (0:Int).toNat
def eh (s:ByteArray) (c:Int):ByteArray:=s.extract (0:Int).toNat (cond (iLt c (s.size:Int)) c (s.size:Int)).toNat
def cC (r:Rul):Int:=Vb r.name r.side r.innings r.overs r.balls r.quota r.wide r.noball r.newball r.followon r.reviews r.outside r.power
theorem TR {N:Nat} {s18 s20:Bool} (h:Fit s14 s16 s17 s19 s24):Ad N [.int s0,.int s1,.int s2,.int s3,.int s4,.int s5,.int s6,.int s7,.int s8,.int s9,.int s10,.int s11,.int s12,.int s13,.rows s14,.int s15,.rows s16,.rows s17,.bool s18,.rows s19,.bool s20,.int s21,.int s22,.int s23,.rows s24,.int s25,.int s26,.int s27]=some [.int s0,.int s1,.int s2,.int s3,.int s4,.int s5,.int s6,.int s7,.int s8,.int s9,.int s10,.int s11,.int s12,.int s13,.rows s14,.int s15,.rows s16,.rows s17,.bool s18,.rows s19,.bool s20,.int s21,.int s22,.int s23,.rows s24,.int s25,.int s26,.int s27]:=by
 show EE (std (Ch N) N) (xOf _)=_;simp only [EE,Ej,Fn,FF,q9,std,xOf,PXb,PXc,PXn,PXm,Nat.reduceAdd,Int.reduceBEq,Ai,Av,Ap,Hd h.bt (show 1≤4096 by omega),Hd h.bw' (show 8≤4096 by omega),Hd h.bf (show 8≤4096 by omega),Hd h.bd (show 8≤4096 by omega),Hd h.sb (show 1≤4096 by omega)]
theorem Xn {N:Nat} {s18 s20:Bool} (h:Fit s14 s16 s17 s19 s24):FB N [.int s0,.int s1,.int s2,.int s3,.int s4,.int s5,.int s6,.int s7,.int s8,.int s9,.int s10,.int s11,.int s12,.int s13,.rows s14,.int s15,.rows s16,.rows s17,.bool s18,.rows s19,.bool s20,.int s21,.int s22,.int s23,.rows s24,.int s25,.int s26,.int s27]=some [.int s0,.int s1,.int s2,.int s3,.int s4,.int s5,.int s6,.int s7,.int s8,.int s9,.int s10,.int s11,.int s12,.int s13,.rows s14,.int s15,.rows s16,.rows s17,.bool s18,.rows s19,.bool s20,.int s21,.int s22,.int s23,.rows s24,.int s25,.int s26,.int s27]:=by
 show Hl (std (Ie N) N) (xOf _)=_;simp only [Hl,L9,q9,std,xOf,PXb,PXc,PXn,PXm,Nat.reduceAdd,Int.reduceBEq,Xr h]
def atB (L:Rows) (i j:Nat):Bool:=pvB (AP L i j)
theorem YS (L:Rows) (i j:Nat):pvB (AP L i j)=atB L i j:=rfl
def inc (x:Int):Int:=IntKind.i64.wrap (x+1)
structure Cre where
 batter:Int
 wides:Int
 noballs:Int
 byes:Int
 legbyes:Int
 bowler:Int
 counts:Bool
 faced:Bool
 wicket:Bool
 swap:Bool
def Cre.ls (c:Cre):List PV:=[.int c.batter,.int c.wides,.int c.noballs,.int c.byes,.int c.legbyes,.int c.bowler,.bool c.counts,.bool c.faced,.bool c.wicket,.bool c.swap]
end Go.Px
end
