/- Part 11. -/
import Derived.Test.YteolngdncakekaaGreatPart07
import Derived.Test.YteolngdncakekaaGreatPart10
set_option linter.unusedVariables false
set_option linter.unusedSimpArgs false
section
namespace Go.Px
def AL (xs:List Inn):Rows:=xs.map Inn.ls
def dI:Inn:=⟨0,0,0,0,0,0,0,0,0,0,0,0,0,0,[],0,[],[],false,[],false,0,0,0,[],0,0,0⟩
def inn (xs:List Inn) (i:Nat):Inn:=xs.getD i dI
structure Mat where
 rules:Rul
 stage:Int
 first:Int
 follow:Bool
 inns:List Inn
 pen1:Int
 pen2:Int
 win:Int
 wside:Int
 margin:Int
def Mat.ls (m:Mat):List PV:=[.str m.rules.name,.int m.rules.side,.int m.rules.innings,.int m.rules.overs,.int m.rules.balls,.int m.rules.quota,.int m.rules.wide,.int m.rules.noball,.bool m.rules.freehit,.int m.rules.newball,.int m.rules.followon,.int m.rules.reviews,.int m.rules.outside,.rows m.rules.power,.int m.stage,.int m.first,.bool m.follow,.rows (AL m.inns),.int m.pen1,.int m.pen2,.int m.win,.int m.wside,.int m.margin]
def QI (x:Mat×Int):List PV:=[.str x.1.rules.name,.int x.1.rules.side,.int x.1.rules.innings,.int x.1.rules.overs,.int x.1.rules.balls,.int x.1.rules.quota,.int x.1.rules.wide,.int x.1.rules.noball,.bool x.1.rules.freehit,.int x.1.rules.newball,.int x.1.rules.followon,.int x.1.rules.reviews,.int x.1.rules.outside,.rows x.1.rules.power,.int x.1.stage,.int x.1.first,.bool x.1.follow,.rows (AL x.1.inns),.int x.1.pen1,.int x.1.pen2,.int x.1.win,.int x.1.wside,.int x.1.margin,.int x.2]
theorem Vj (xs:List Inn) (i:Nat):Ar (AL xs) i=(match xs[i]? with | some s=>s.ls | none=>[]):=by
 unfold Ar AL
 rw [List.getD_eq_getElem?_getD,List.getElem?_map]
 cases xs[i]?<;>rfl
theorem Nk (xs:List Inn) (i:Nat):inn xs i=(match xs[i]? with | some s=>s | none=>dI):=by
 unfold inn
 rw [List.getD_eq_getElem?_getD]
 cases xs[i]?<;>rfl
theorem Tg (xs:List Inn):(AL xs).length=xs.length:=List.length_map _
theorem PXi : (∀ xs : List Inn, (AL xs).length = xs.length) ∧ (∀ (xs : List Inn) (i : Nat), pvI (AD (AL xs) i 0) = (inn xs i).side) ∧ (∀ (xs : List Inn) (i : Nat), pvI (AD (AL xs) i 1) = (inn xs i).target) ∧ (∀ (xs : List Inn) (i : Nat), pvI (AD (AL xs) i 2) = (inn xs i).overs) ∧ (∀ (xs : List Inn) (i : Nat), pvI (AD (AL xs) i 3) = (inn xs i).runs) ∧
    (∀ (xs:List Inn) (i:Nat),pvI (AD (AL xs) i 4)=(inn xs i).wickets)∧(∀ (xs:List Inn) (i:Nat),pvI (AD (AL xs) i 5)=(inn xs i).wides)∧(∀ (xs:List Inn) (i:Nat),pvI (AD (AL xs) i 6)=(inn xs i).noballs)∧(∀ (xs:List Inn) (i:Nat),pvI (AD (AL xs) i 7)=(inn xs i).byes)∧(∀ (xs:List Inn) (i:Nat),pvI (AD (AL xs) i 8)=(inn xs i).legbyes) ∧
    (∀ (xs:List Inn) (i:Nat),pvI (AD (AL xs) i 9)=(inn xs i).pens)∧(∀ (xs:List Inn) (i:Nat),pvI (AD (AL xs) i 10)=(inn xs i).complete)∧(∀ (xs:List Inn) (i:Nat),pvI (AD (AL xs) i 11)=(inn xs i).inover)∧(∀ (xs:List Inn) (i:Nat),pvI (AD (AL xs) i 12)=(inn xs i).striker)∧(∀ (xs:List Inn) (i:Nat),pvI (AD (AL xs) i 13)=(inn xs i).other) ∧
    (∀ (xs:List Inn) (i:Nat),pvL (AD (AL xs) i 14)=(inn xs i).batters)∧(∀ (xs:List Inn) (i:Nat),pvI (AD (AL xs) i 15)=(inn xs i).bowler)∧(∀ (xs:List Inn) (i:Nat),pvL (AD (AL xs) i 16)=(inn xs i).bowlers)∧(∀ (xs:List Inn) (i:Nat),pvL (AD (AL xs) i 17)=(inn xs i).before)∧(∀ (xs:List Inn) (i:Nat),pvB (AD (AL xs) i 18)=(inn xs i).fresh) ∧
    (∀ (xs:List Inn) (i:Nat),pvL (AD (AL xs) i 19)=(inn xs i).bowled)∧(∀ (xs:List Inn) (i:Nat),pvB (AD (AL xs) i 20)=(inn xs i).freehit)∧(∀ (xs:List Inn) (i:Nat),pvI (AD (AL xs) i 21)=(inn xs i).ballage)∧(∀ (xs:List Inn) (i:Nat),pvI (AD (AL xs) i 22)=(inn xs i).keeper)∧(∀ (xs:List Inn) (i:Nat),pvI (AD (AL xs) i 23)=(inn xs i).outside) ∧
    (∀ (xs:List Inn) (i:Nat),pvL (AD (AL xs) i 24)=(inn xs i).subs)∧(∀ (xs:List Inn) (i:Nat),pvI (AD (AL xs) i 25)=(inn xs i).rev1)∧(∀ (xs:List Inn) (i:Nat),pvI (AD (AL xs) i 26)=(inn xs i).rev2)∧(∀ (xs:List Inn) (i:Nat),pvI (AD (AL xs) i 27)=(inn xs i).ending):=by
  refine ⟨Tg,?_,?_,?_,?_,?_,?_,?_,?_,?_,?_,?_,?_,?_,?_,?_,?_,?_,?_,?_,?_,?_,?_,?_,?_,?_,?_,?_,?_⟩
  all_goals (intro xs i;rw [Nk];unfold AD;rw [Vj];cases xs[i]?<;>rfl)
theorem Mat.eta (m:Mat):Mat.mk m.rules m.stage m.first m.follow m.inns m.pen1 m.pen2 m.win m.wside m.margin=m:=rfl
theorem PXk : (∀ m : Mat, m.ls = [.str m.rules.name, .int m.rules.side, .int m.rules.innings, .int m.rules.overs, .int m.rules.balls, .int m.rules.quota, .int m.rules.wide, .int m.rules.noball, .bool m.rules.freehit, .int m.rules.newball, .int m.rules.followon, .int m.rules.reviews, .int m.rules.outside, .rows m.rules.power, .int m.stage, .int m.first, .bool m.follow, .rows (AL m.inns), .int m.pen1, .int m.pen2, .int m.win, .int m.wside, .int m.margin]) ∧
    (∀ x:Mat×Int,QI x=[.str x.1.rules.name,.int x.1.rules.side,.int x.1.rules.innings,.int x.1.rules.overs,.int x.1.rules.balls,.int x.1.rules.quota,.int x.1.rules.wide,.int x.1.rules.noball,.bool x.1.rules.freehit,.int x.1.rules.newball,.int x.1.rules.followon,.int x.1.rules.reviews,.int x.1.rules.outside,.rows x.1.rules.power,.int x.1.stage,.int x.1.first,.bool x.1.follow,.rows (AL x.1.inns),.int x.1.pen1,.int x.1.pen2,.int x.1.win,.int x.1.wside,.int x.1.margin,.int x.2]) ∧
    (∀ m:Mat,Mat.mk m.rules m.stage m.first m.follow m.inns m.pen1 m.pen2 m.win m.wside m.margin=m):=⟨fun _=>rfl,fun _=>rfl,fun _=>rfl⟩
theorem ZN:∀ (ps r pre:List PV),r.length=ps.length→Bt (pre++r) pre.length ps=pre++ps
 | [],r,pre,h=>by
  have:r=[]:=List.eq_nil_of_length_eq_zero h
  subst this
  rfl
 | p::ps,[],pre,h=>by cases h
 | p::ps,a::r,pre,h=>by
  have ih:=ZN ps r (pre++[p]) (by simpa using h)
  simp only [List.length_append,List.length_cons,List.length_nil,List.append_assoc,List.cons_append,List.nil_append] at ih
  unfold Bt
  rw [List.set_append_right _ _ (Nat.le_refl _),Nat.sub_self]
  exact ih
theorem dr (a s:Inn):Bt a.ls 0 s.ls=s.ls:=ZN s.ls a.ls [] rfl
theorem dG (a:Inn) (e:Int):Bt a.ls 27 [.int e]=Inn.ls { a with ending:=e }:=by
 show a.ls.set 27 (.int e)=_
 rfl
theorem dA {xs:List Inn} {i:Nat} (h:i<xs.length) (s:Inn):(AL xs).set i (Bt (Ar (AL xs) i) 0 s.ls)=AL (xs.set i s):=by
 have e:Ar (AL xs) i=(xs[i]).ls:=by rw [Vj,List.getElem?_eq_getElem h]
 rw [e,dr]
 exact List.map_set.symm
theorem dW {xs:List Inn} {i:Nat} (h:i<xs.length) (e:Int):(AL xs).set i (Bt (Ar (AL xs) i) 27 [.int e])=AL (xs.set i { inn xs i with ending:=e }):=by
 have e1:Ar (AL xs) i=(inn xs i).ls:=by rw [Vj,Nk,List.getElem?_eq_getElem h]
 rw [e1,dG]
 exact List.map_set.symm
theorem cy (xs:List Inn) (s:Inn):AL xs++[s.ls]=AL (xs++[s]):=by
 show List.map Inn.ls xs++List.map Inn.ls [s]=List.map Inn.ls (xs++[s])
 exact List.map_append.symm
theorem dS (xs:List Inn) (i:Nat) (s:Inn):(AL xs).set i (Bt (Ar (AL xs) i) 0 s.ls)=AL (xs.set i s):=by
 by_cases h:i<xs.length
 ·exact dA h s
 ·rw [List.set_eq_of_length_le (by rw [Tg];omega),List.set_eq_of_length_le (by omega)]
theorem Ym (xs:List Inn) (i:Nat) (e:Int):(AL xs).set i (Bt (Ar (AL xs) i) 27 [.int e])=AL (xs.set i { inn xs i with ending:=e }):=by
 by_cases h:i<xs.length
 ·exact dW h e
 ·rw [List.set_eq_of_length_le (by rw [Tg];omega),List.set_eq_of_length_le (by omega)]
theorem PXr : (∀ (xs : List Inn) (x0 x1 x2 x3 x4 x5 x6 x7 x8 x9 x10 x11 x12 x13 x15 x21 x22 x23 x25 x26 x27 : Int) (x18 x20 : Bool) (x14 x16 x17 x19 x24 : Rows), AL xs ++ [([.int x0, .int x1, .int x2, .int x3, .int x4, .int x5, .int x6, .int x7, .int x8, .int x9, .int x10, .int x11, .int x12, .int x13, .rows x14, .int x15, .rows x16, .rows x17, .bool x18, .rows x19, .bool x20, .int x21, .int x22, .int x23, .rows x24, .int x25, .int x26, .int x27] : List PV)] = AL (xs ++ [⟨x0, x1, x2, x3, x4, x5, x6, x7, x8, x9, x10, x11, x12, x13, x14, x15, x16, x17, x18, x19, x20, x21, x22, x23, x24, x25, x26, x27⟩])) ∧ (∀ (xs : List Inn) (i : Nat) (x0 x1 x2 x3 x4 x5 x6 x7 x8 x9 x10 x11 x12 x13 x15 x21 x22 x23 x25 x26 x27 : Int) (x18 x20 : Bool) (x14 x16 x17 x19 x24 : Rows), (AL xs).set i (Bt (Ar (AL xs) i) 0 [.int x0, .int x1, .int x2, .int x3, .int x4, .int x5, .int x6, .int x7, .int x8, .int x9, .int x10, .int x11, .int x12, .int x13, .rows x14, .int x15, .rows x16, .rows x17, .bool x18, .rows x19, .bool x20, .int x21, .int x22, .int x23, .rows x24, .int x25, .int x26, .int x27]) = AL (xs.set i ⟨x0, x1, x2, x3, x4, x5, x6, x7, x8, x9, x10, x11, x12, x13, x14, x15, x16, x17, x18, x19, x20, x21, x22, x23, x24, x25, x26, x27⟩)) ∧
    (∀ (xs:List Inn) (i:Nat) (e:Int),(AL xs).set i (Bt (Ar (AL xs) i) 27 [.int e])=AL (xs.set i { inn xs i with ending:=e })) :=
  ⟨fun xs x0 x1 x2 x3 x4 x5 x6 x7 x8 x9 x10 x11 x12 x13 x15 x21 x22 x23 x25 x26 x27 x18 x20 x14 x16 x17 x19 x24=>cy xs ⟨x0,x1,x2,x3,x4,x5,x6,x7,x8,x9,x10,x11,x12,x13,x14,x15,x16,x17,x18,x19,x20,x21,x22,x23,x24,x25,x26,x27⟩,fun xs i x0 x1 x2 x3 x4 x5 x6 x7 x8 x9 x10 x11 x12 x13 x15 x21 x22 x23 x25 x26 x27 x18 x20 x14 x16 x17 x19 x24=>dS xs i ⟨x0,x1,x2,x3,x4,x5,x6,x7,x8,x9,x10,x11,x12,x13,x14,x15,x16,x17,x18,x19,x20,x21,x22,x23,x24,x25,x26,x27⟩,Ym⟩
end Go.Px
end
section
namespace Go.Px
set_option maxRecDepth 100000
def Da (n:Int):Int:=IntKind.i64.wrap (3 - n)
theorem GH {N:Nat} {n:Int}  : Ax N [.int n]=some [.int (Da n)]:=by
 show Ij (std (OC N) N) (xOf _)=_
 simp only [Ij,std,xOf,PXb,PXc,PXn,PXm,Nat.reduceAdd,Int.reduceBEq,Da]
def GG (m:Mat) (i:Int):Int:=cond (cond (m.follow&&iLe 2 i) (i==2) (i.tmod 2==1)) (Da m.first) m.first
theorem L7 {N:Nat} {m1 m2 m3 m4 m5 m6 m7 m9 m10 m11 m12 m14 m15 m18 m19 m20 m21 m22:Int} {m8 m16:Bool} {m0:ByteArray} {m13:Rows} {m17:List Inn} {i:Int}  : CO N [.str m0,.int m1,.int m2,.int m3,.int m4,.int m5,.int m6,.int m7,.bool m8,.int m9,.int m10,.int m11,.int m12,.rows m13,.int m14,.int m15,.bool m16,.rows (AL m17),.int m18,.int m19,.int m20,.int m21,.int m22,.int i]=some [.int (GG (⟨⟨m0,m1,m2,m3,m4,m5,m6,m7,m8,m9,m10,m11,m12,m13⟩,m14,m15,m16,m17,m18,m19,m20,m21,m22⟩:Mat) i)]:=by
 show IV (std (JU N) N) (xOf _)=_
 generalize hres:(some [.int (GG (⟨⟨m0,m1,m2,m3,m4,m5,m6,m7,m8,m9,m10,m11,m12,m13⟩,m14,m15,m16,m17,m18,m19,m20,m21,m22⟩:Mat) i)]:Option (List PV))=RR
 simp only [IV,Mg,std,xOf,PXb,PXc,PXn,PXm,Nat.reduceAdd,Int.reduceBEq,GH]
 subst hres;simp only [GG]
def L0 (xs:List Inn) (side:Int):Nat→Int
 | 0=>0
 | i+1=>cond ((inn xs i).side==side) (IntKind.i64.wrap (L0 xs side i+(inn xs i).runs)) (L0 xs side i)
def DG (m:Mat) (side:Int):Int:=L0 m.inns side m.inns.length
theorem L9 {N:Nat} {m1 m2 m3 m4 m5 m6 m7 m9 m10 m11 m12 m14 m15 m18 m19 m20 m21 m22:Int} {m8 m16:Bool} {m0:ByteArray} {m13:Rows} {m17:List Inn} {n:Int} (hN:2097152<N) (hl:m17.length≤1048576):BM N [.str m0,.int m1,.int m2,.int m3,.int m4,.int m5,.int m6,.int m7,.bool m8,.int m9,.int m10,.int m11,.int m12,.rows m13,.int m14,.int m15,.bool m16,.rows (AL m17),.int m18,.int m19,.int m20,.int m21,.int m22,.int n]=some [.int (DG (⟨⟨m0,m1,m2,m3,m4,m5,m6,m7,m8,m9,m10,m11,m12,m13⟩,m14,m15,m16,m17,m18,m19,m20,m21,m22⟩:Mat) n)]:=by
 show IR (std (OS N) N) (xOf _)=_
 generalize hres:(some [.int (DG (⟨⟨m0,m1,m2,m3,m4,m5,m6,m7,m8,m9,m10,m11,m12,m13⟩,m14,m15,m16,m17,m18,m19,m20,m21,m22⟩:Mat) n)]:Option (List PV))=RR
 simp only [IR,std,xOf,PXb,PXi]
 subst hres;simp only [DG]
 refine Aa (C2 (len:=m17.length) (fun i=>[.int (L0 m17 n i),.int (i:Int)]) [.int (L0 m17 n m17.length)] ?_ ?_ N (by omega)) rfl
 ·intro self
  simp only [PXb,PXc,PXn,AF,Ba]
 ·intro i self hi
  simp only [PXb,PXc,AF,As (show i≤1099511627776 by omega),A9 hi,Ak hi,PXi,L0]
  cases (inn m17 i).side==n<;>rfl
def HX (m:Mat) (side:Int):Int :=
 cond (iLt (IntKind.i64.wrap ((m.inns.length:Int)+1)) (IntKind.i64.wrap (2 * m.rules.innings))) 0 (IntKind.i64.wrap (IntKind.i64.wrap (DG m (Da side) - DG m side)+1))
theorem Pm {N:Nat} {m1 m2 m3 m4 m5 m6 m7 m9 m10 m11 m12 m14 m15 m18 m19 m20 m21 m22:Int} {m8 m16:Bool} {m0:ByteArray} {m13:Rows} {m17:List Inn} {n:Int} (hN:2097152<N) (hl:m17.length≤1048576):FG N [.str m0,.int m1,.int m2,.int m3,.int m4,.int m5,.int m6,.int m7,.bool m8,.int m9,.int m10,.int m11,.int m12,.rows m13,.int m14,.int m15,.bool m16,.rows (AL m17),.int m18,.int m19,.int m20,.int m21,.int m22,.int n]=some [.int (HX (⟨⟨m0,m1,m2,m3,m4,m5,m6,m7,m8,m9,m10,m11,m12,m13⟩,m14,m15,m16,m17,m18,m19,m20,m21,m22⟩:Mat) n)]:=by
 show Hf (std (Fv N) N) (xOf _)=_
 generalize hres:(some [.int (HX (⟨⟨m0,m1,m2,m3,m4,m5,m6,m7,m8,m9,m10,m11,m12,m13⟩,m14,m15,m16,m17,m18,m19,m20,m21,m22⟩:Mat) n)]:Option (List PV))=RR
 simp only [Hf,Lx,Lw,std,xOf,PXb,PXc,PXn,PXm,Nat.reduceAdd,Int.reduceBEq,PXi,GH,L9 hN hl]
 subst hres;simp only [HX]
def VY (stage:Int) (xs:List Inn) (i:Nat):Bool := !(((inn xs i).ending==0)==(stage==3&&((i:Int)==IntKind.i64.wrap ((xs.length:Int) - 1))))
def SG (m:Mat):Bool := !BF (VY m.stage m.inns) m.inns.length 0&&(!(m.stage==3)||iLt 0 (m.inns.length:Int))
theorem Wv {N:Nat} {m1 m2 m3 m4 m5 m6 m7 m9 m10 m11 m12 m14 m15 m18 m19 m20 m21 m22:Int} {m8 m16:Bool} {m0:ByteArray} {m13:Rows} {m17:List Inn} (hN:2097152<N) (hl:m17.length≤1048576):F9 N [.str m0,.int m1,.int m2,.int m3,.int m4,.int m5,.int m6,.int m7,.bool m8,.int m9,.int m10,.int m11,.int m12,.rows m13,.int m14,.int m15,.bool m16,.rows (AL m17),.int m18,.int m19,.int m20,.int m21,.int m22]=some [.bool (SG (⟨⟨m0,m1,m2,m3,m4,m5,m6,m7,m8,m9,m10,m11,m12,m13⟩,m14,m15,m16,m17,m18,m19,m20,m21,m22⟩:Mat))]:=by
 show Ig (std (Oa N) N) (xOf _)=_
 generalize hres:(some [.bool (SG (⟨⟨m0,m1,m2,m3,m4,m5,m6,m7,m8,m9,m10,m11,m12,m13⟩,m14,m15,m16,m17,m18,m19,m20,m21,m22⟩:Mat))]:Option (List PV))=RR
 simp only [Ig,std,xOf,PXb,PXi]
 subst hres;simp only [SG]
 refine Aa (It (len:=m17.length) (VY m14 m17) [.bool false] ?_ ?_ N (by omega)) ?_
 ·intro self
  simp only [PXb,PXc,PXn,AF,Ba]
 ·intro i self hi
  simp only [PXb,PXc,AF,As (show i≤1099511627776 by omega),A9 hi,Ak hi,PXi,VY]
 ·cases BF (VY m14 m17) m17.length 0 with
  | true=>rfl
  | false=>simp only [PXb,PXc,PXn,PXm,Nat.reduceAdd,Int.reduceBEq]
end Go.Px
end
section
namespace Go.Px
set_option maxRecDepth 100000
def HP (xs:List Inn):Prop:=∀ i,i<xs.length→(inn xs i).Fit
theorem Qd {N:Nat} {r1 r2 r3 r4 r5 r6 r7 r9 r10 r11 r12:Int} {r8:Bool} {r0:ByteArray} {r13:Rows} (hl:r13.length≤1048576):CL N [.str r0,.int r1,.int r2,.int r3,.int r4,.int r5,.int r6,.int r7,.bool r8,.int r9,.int r10,.int r11,.int r12,.rows r13]=some [.str r0,.int r1,.int r2,.int r3,.int r4,.int r5,.int r6,.int r7,.bool r8,.int r9,.int r10,.int r11,.int r12,.rows r13]:=by
 show IZ (std (JR N) N) (xOf _)=_
 simp only [IZ,I6,std,xOf,PXb,PXc,PXn,PXm,Nat.reduceAdd,Int.reduceBEq,CH,A8 hl (show 24≤4096 by omega)]
theorem Wo {xs:List Inn} {i:Nat} (h:i<xs.length):xs.take i++[inn xs i]=xs.take (i+1):=by
 rw [List.take_add_one,Nk,List.getElem?_eq_getElem h]
 rfl
theorem W2 {N:Nat} {m1 m2 m3 m4 m5 m6 m7 m9 m10 m11 m12 m14 m15 m18 m19 m20 m21 m22:Int} {m8 m16:Bool} {m0:ByteArray} {m13:Rows} {m17:List Inn} (hf:HP m17) (hN:2097152<N) (hl:m17.length≤1000000) (h13:m13.length≤1048576):GD N [.str m0,.int m1,.int m2,.int m3,.int m4,.int m5,.int m6,.int m7,.bool m8,.int m9,.int m10,.int m11,.int m12,.rows m13,.int m14,.int m15,.bool m16,.rows (AL m17),.int m18,.int m19,.int m20,.int m21,.int m22]=some [.str m0,.int m1,.int m2,.int m3,.int m4,.int m5,.int m6,.int m7,.bool m8,.int m9,.int m10,.int m11,.int m12,.rows m13,.int m14,.int m15,.bool m16,.rows (AL m17),.int m18,.int m19,.int m20,.int m21,.int m22]:=by
 show Ii (std (Gk N) N) (xOf _)=_
 simp only [Ii,Mt,Fh,std,xOf,PXb,Qd h13,PXi]
 refine Aa (C2 (len:=m17.length) (fun i=>[.rows (AL (m17.take i)),.int (i:Int)]) [.rows (AL m17)] ?_ ?_ N (by omega)) rfl
 ·intro self
  simp only [PXb,PXc,PXn,AF,Ba,List.take_length]
 ·intro i self hi
  have h2:(m17.take (i+1)).length≤1048576:=by rw [List.length_take];omega
  have h3:iSm ((m17.take (i+1)).length:Int) 304=true:=Ha (by omega) (by omega)
  simp only [PXb,PXc,AF,As (show i≤1099511627776 by omega),A9 hi,Ak hi,PXi,Fh,BX (hf i hi),PXr,Inn.eta,h3,Wo hi,Nat.reduceAdd]
  rfl
def ee:Rul:=⟨⟨#[]⟩,0,0,0,0,0,0,0,false,0,0,0,0,[]⟩
def eX:Mat:=⟨ee,0,0,false,[],0,0,0,0,0⟩
def X0 (r:Rul):Mat×Int:=cond (!(B8 r==0)) (eX,B8 r) (⟨r,1,0,false,[],0,0,0,0,0⟩,0)
theorem Yl {N:Nat} {r1 r2 r3 r4 r5 r6 r7 r9 r10 r11 r12:Int} {r8:Bool} {r0:ByteArray} {r13:Rows} (hN:2097152<N) (hs:r0.size≤1048576) (h13:r13.length≤1048576):Es N [.str r0,.int r1,.int r2,.int r3,.int r4,.int r5,.int r6,.int r7,.bool r8,.int r9,.int r10,.int r11,.int r12,.rows r13]=some (QI (X0 (⟨r0,r1,r2,r3,r4,r5,r6,r7,r8,r9,r10,r11,r12,r13⟩:Rul))):=by
 show LH (std (Ik N) N) (xOf _)=_
 generalize hres:(some (QI (X0 (⟨r0,r1,r2,r3,r4,r5,r6,r7,r8,r9,r10,r11,r12,r13⟩:Rul))):Option (List PV))=RR
 simp only [LH,Nv,Nx,std,xOf,PXb,PXc,PXn,PXm,Nat.reduceAdd,Int.reduceBEq,C3 hN hs,Qd h13]
 subst hres;simp only [X0]
 cases B8 (⟨r0,r1,r2,r3,r4,r5,r6,r7,r8,r9,r10,r11,r12,r13⟩:Rul)==0<;>rfl
def XW (m:Mat):Bool:=(iLt m.pen1 0||iLt 1000000 m.pen1)||(iLt m.pen2 0||iLt 1000000 m.pen2)
def Ru (m:Mat) (i:Nat):Bool := !H5 m.rules (inn m.inns i) || !((inn m.inns i).side==GG m (i:Int))
def Zo (m:Mat):Bool :=
  let n:Int:=m.inns.length
  let most:=IntKind.i64.wrap (2 * m.rules.innings)
  B8 m.rules==0&&(!(iLt m.stage 1)&&(!(iLt 5 m.stage)&&(!XW m&&(!(iLt m.first 0||iLt 2 m.first||iLt most n)&&(!(m.first==0&&(iLt 0 n||(!(m.stage==1) && !(m.stage==5)))) &&
    (!(m.stage==1 && !(m.first==0))&&(!(m.stage==2&&n==most)&&(!(m.stage==4&&(!(m.rules.innings==2) || !(n==2))) && !(m.follow&&(!(m.rules.innings==2)||iLt n 2))))))))))
def Ek (m:Mat):Bool:=Zo m&&(!BF (Ru m) m.inns.length 0&&SG m)
set_option maxHeartbeats 4000000 in
theorem MG {N:Nat} {m1 m2 m3 m4 m5 m6 m7 m9 m10 m11 m12 m14 m15 m18 m19 m20 m21 m22:Int} {m8 m16:Bool} {m0:ByteArray} {m13:Rows} {m17:List Inn} (hf:HP m17) (hN:2097152<N) (hl:m17.length≤1000000) (hs:m0.size≤1048576):Bh N [.str m0,.int m1,.int m2,.int m3,.int m4,.int m5,.int m6,.int m7,.bool m8,.int m9,.int m10,.int m11,.int m12,.rows m13,.int m14,.int m15,.bool m16,.rows (AL m17),.int m18,.int m19,.int m20,.int m21,.int m22]=some [.bool (Ek (⟨⟨m0,m1,m2,m3,m4,m5,m6,m7,m8,m9,m10,m11,m12,m13⟩,m14,m15,m16,m17,m18,m19,m20,m21,m22⟩:Mat))]:=by
 show Ie (std (Cw N) N) (xOf _)=_
 generalize hres:(some [.bool (Ek (⟨⟨m0,m1,m2,m3,m4,m5,m6,m7,m8,m9,m10,m11,m12,m13⟩,m14,m15,m16,m17,m18,m19,m20,m21,m22⟩:Mat))]:Option (List PV))=RR
 simp only [Ie,M0,Fl,Gq,Gy,std,xOf,PXb,C3 hN hs,PXi]
 subst hres;simp only [Ek,Zo]
 cases hc:B8 (⟨⟨m0,m1,m2,m3,m4,m5,m6,m7,m8,m9,m10,m11,m12,m13⟩,m14,m15,m16,m17,m18,m19,m20,m21,m22⟩:Mat).rules==0<;>(try rfl)
 cases h1:iLt m14 1<;>(try rfl)
 cases h5:iLt 5 m14<;>(try rfl)
 simp only [PXb]
 refine Aa (It (len:=2) (fun i=>iLt (cond ((i:Int)==1) m19 m18) 0||iLt 1000000 (cond ((i:Int)==1) m19 m18)) [.bool false] ?_ ?_ N (by omega)) ?_
 ·intro self
  rfl
 ·intro i self hi
  simp only [PXb,As (show i≤1099511627776 by omega),show iLt (i:Int) 2=true from A9 (len:=2) hi,show iIn (i:Int) 2=true from Ak (len:=2) hi]
 ·have hp:BF (fun i=>iLt (cond ((i:Int)==1) m19 m18) 0||iLt 1000000 (cond ((i:Int)==1) m19 m18)) 2 0=XW (⟨⟨m0,m1,m2,m3,m4,m5,m6,m7,m8,m9,m10,m11,m12,m13⟩,m14,m15,m16,m17,m18,m19,m20,m21,m22⟩:Mat):=by
   simp only [BV,HM,Bool.or_false]
   rfl
  rw [hp]
  cases XW (⟨⟨m0,m1,m2,m3,m4,m5,m6,m7,m8,m9,m10,m11,m12,m13⟩,m14,m15,m16,m17,m18,m19,m20,m21,m22⟩:Mat)
  case true=>rfl
  simp only [PXb,IH,Int.reduceBEq]
  cases iLt m15 0<;>try rfl
  cases iLt 2 m15<;>try rfl
  cases iLt (IntKind.i64.wrap (2 * m2)) (m17.length:Int)<;>try rfl
  cases (m15==0&&(iLt 0 (m17.length:Int)||(!(m14==1) && !(m14==5))))<;>try rfl
  cases (m14==1 && !(m15==0))<;>try rfl
  cases (m14==2&&(m17.length:Int)==IntKind.i64.wrap (2 * m2))<;>try rfl
  cases (m14==4&&(!(m2==2) || !((m17.length:Int)==2)))<;>try rfl
  cases (m16&&(!(m2==2)||iLt (m17.length:Int) 2))<;>try rfl
  simp only [PXb]
  refine Aa (It (len:=m17.length) (Ru (⟨⟨m0,m1,m2,m3,m4,m5,m6,m7,m8,m9,m10,m11,m12,m13⟩,m14,m15,m16,m17,m18,m19,m20,m21,m22⟩:Mat)) [.bool false] ?_ ?_ N (by omega)) ?_
  ·intro self
   simp only [PXb,PXc,PXn,AF,Ba]
  ·intro i self hi
   simp only [PXb,PXc,PXn,PXm,Nat.reduceAdd,Int.reduceBEq,As (show i≤1099511627776 by omega),A9 hi,Ak hi,PXi,Fl,Gq,N9 (hf i hi) hN hs,L7,Ru]
   cases H5 (⟨⟨m0,m1,m2,m3,m4,m5,m6,m7,m8,m9,m10,m11,m12,m13⟩,m14,m15,m16,m17,m18,m19,m20,m21,m22⟩:Mat).rules (inn m17 i)<;>first | rfl | simp only [PXb,PXc,PXn,PXm,Nat.reduceAdd,Int.reduceBEq]
  ·cases BF (Ru (⟨⟨m0,m1,m2,m3,m4,m5,m6,m7,m8,m9,m10,m11,m12,m13⟩,m14,m15,m16,m17,m18,m19,m20,m21,m22⟩:Mat)) m17.length 0
   case true=>rfl
   simp only [PXb,PXc,PXn,PXm,Nat.reduceAdd,Int.reduceBEq,Gy,Wv hN (show m17.length≤1048576 by omega)]
end Go.Px
end
section
namespace Go.Px
set_option maxRecDepth 100000
def lnx (xs:List Inn):Nat:=(IntKind.i64.wrap ((xs.length:Int) - 1)).toNat
def E5 (m:Mat):Inn:=inn m.inns (lnx m.inns)
theorem Sk {n:Nat} (h:((n:Int)==0)=false) (hl:n≤1000000):iIn (IntKind.i64.wrap ((n:Int) - 1)) (n:Int)=true:=by
 rw [beq_eq_false_iff_ne] at h
 rw [F8 (by omega) (by omega)]
 simp only [iIn,decide_eq_true_eq];omega
theorem YF {xs:List Inn} (h:((xs.length:Int)==0)=false) (hl:xs.length≤1000000):lnx xs<xs.length:=by
 rw [beq_eq_false_iff_ne] at h
 unfold lnx
 rw [F8 (by omega) (by omega)]
 omega
def Uv (r:Rul):Int:=cond (r.overs==0) 5 6
theorem G1 {N:Nat} {r1 r2 r3 r4 r5 r6 r7 r9 r10 r11 r12:Int} {r8:Bool} {r0:ByteArray} {r13:Rows}  : BI N [.str r0,.int r1,.int r2,.int r3,.int r4,.int r5,.int r6,.int r7,.bool r8,.int r9,.int r10,.int r11,.int r12,.rows r13]=some [.int (Uv (⟨r0,r1,r2,r3,r4,r5,r6,r7,r8,r9,r10,r11,r12,r13⟩:Rul))]:=by
 show EI (std (J3 N) N) (xOf _)=_
 simp only [EI,std,xOf,PXb,PXc,PXn,PXm,Nat.reduceAdd,Int.reduceBEq,Uv]
def cZ (x:Int×Int×Int):List PV:=[.int x.1,.int x.2.1,.int x.2.2]
def P0 (m:Mat):Int×Int×Int :=
  let n:Int:=m.inns.length
  let most:=IntKind.i64.wrap (2 * m.rules.innings)
  let x:=E5 m
  cond (!Ek m||n==0) (0,0,0) (cond (x.ending==5) (Uv m.rules,0,0) (cond (x.ending==0) (0,0,0)
    (cond (n==most&&iLe x.target x.runs) (2,x.side,IntKind.i64.wrap (IntKind.i64.wrap (m.rules.side - 1) - x.wickets)) (cond (n==most&&x.runs==IntKind.i64.wrap (x.target - 1)) (4,0,0)
      (cond (n==most) (1,Da x.side,IntKind.i64.wrap (IntKind.i64.wrap (x.target - 1) - x.runs))
        (cond (n==3&&iLt (DG m x.side) (DG m (Da x.side))) (3,Da x.side,IntKind.i64.wrap (DG m (Da x.side) - DG m x.side)) (0,0,0)))))))
set_option maxHeartbeats 4000000 in
theorem Ug {N:Nat} {m1 m2 m3 m4 m5 m6 m7 m9 m10 m11 m12 m14 m15 m18 m19 m20 m21 m22:Int} {m8 m16:Bool} {m0:ByteArray} {m13:Rows} {m17:List Inn} (hf:HP m17) (hN:2097152<N) (hl:m17.length≤1000000) (hs:m0.size≤1048576):Eg N [.str m0,.int m1,.int m2,.int m3,.int m4,.int m5,.int m6,.int m7,.bool m8,.int m9,.int m10,.int m11,.int m12,.rows m13,.int m14,.int m15,.bool m16,.rows (AL m17),.int m18,.int m19,.int m20,.int m21,.int m22]=some (cZ (P0 (⟨⟨m0,m1,m2,m3,m4,m5,m6,m7,m8,m9,m10,m11,m12,m13⟩,m14,m15,m16,m17,m18,m19,m20,m21,m22⟩:Mat))):=by
 show Gv (std (CJ N) N) (xOf _)=_
 generalize hres:(some (cZ (P0 (⟨⟨m0,m1,m2,m3,m4,m5,m6,m7,m8,m9,m10,m11,m12,m13⟩,m14,m15,m16,m17,m18,m19,m20,m21,m22⟩:Mat))):Option (List PV))=RR
 simp only [Gv,LX,LW,Li,Iy,std,xOf,PXb,PXi,MG hf hN hl hs,GH,G1,L9 hN (show m17.length≤1048576 by omega)]
 subst hres;simp only [P0,E5,lnx]
 cases hv:Ek (⟨⟨m0,m1,m2,m3,m4,m5,m6,m7,m8,m9,m10,m11,m12,m13⟩,m14,m15,m16,m17,m18,m19,m20,m21,m22⟩:Mat)
 case false=>rfl
 cases h0:(m17.length:Int)==0
 case true=>rfl
 simp only [PXb,Sk h0 hl]
 generalize inn m17 (IntKind.i64.wrap ((m17.length:Int) - 1)).toNat=x
 cases x.ending==5
 case true=>rfl
 cases x.ending==0
 case true=>rfl
 cases (m17.length:Int)==IntKind.i64.wrap (2 * m2)<;>cases iLe x.target x.runs<;>cases x.runs==IntKind.i64.wrap (x.target - 1)<;>try rfl
 all_goals (cases (m17.length:Int)==3<;>try rfl)
 all_goals (simp only [PXb];cases iLt (DG (⟨⟨m0,m1,m2,m3,m4,m5,m6,m7,m8,m9,m10,m11,m12,m13⟩,m14,m15,m16,m17,m18,m19,m20,m21,m22⟩:Mat) x.side) (DG (⟨⟨m0,m1,m2,m3,m4,m5,m6,m7,m8,m9,m10,m11,m12,m13⟩,m14,m15,m16,m17,m18,m19,m20,m21,m22⟩:Mat) (Da x.side))<;>rfl)
theorem Xw:∀ (n k:Nat) (f:Nat→Nat),(∀ i,i<k→1≤f i∧f i≤n)→(∀ i j,i<j→j<k→f i≠f j)→k≤n
 | 0,k,f,h,_=>by
  rcases Nat.eq_zero_or_pos k with e | e
  ·omega
  ·have:=h 0 e;omega
 | n+1,0,f,_,_=>by omega
 | n+1,k+1,f,h,hi=>by
  by_cases he:∃ j,j<k+1∧f j=n+1
  ·obtain ⟨j,hj,hfj⟩:=he
   have:=Xw n k (fun i=>if i=j then f k else f i) (fun i hik=>by
    show 1≤(if i=j then f k else f i)∧(if i=j then f k else f i)≤n
    by_cases e:i=j
    ·rw [if_pos e]
     have h1:=h k (by omega)
     have:f k≠f j:=fun e2=>hi j k (by omega) (by omega) e2.symm
     omega
    ·rw [if_neg e]
     have h1:=h i (by omega)
     have:f i≠f j:=by
      rcases Nat.lt_or_gt_of_ne e with e2 | e2
      ·exact hi i j e2 hj
      ·exact fun e3=>hi j i e2 (by omega) e3.symm
     omega) (fun a b hab hb=>by
    show (if a=j then f k else f a)≠(if b=j then f k else f b)
    by_cases e1:a=j
    ·have e2:b≠j:=by omega
     rw [if_pos e1,if_neg e2]
     exact fun e3=>hi b k hb (by omega) e3.symm
    ·rw [if_neg e1]
     by_cases e2:b=j
     ·rw [if_pos e2];exact hi a k (by omega) (by omega)
     ·rw [if_neg e2];exact hi a b hab (by omega))
   omega
  ·have:=Xw n (k+1) f (fun i hik=>by
    have h1:=h i hik
    have:f i≠n+1:=fun e=>he ⟨i,hik,e⟩
    omega) hi
   omega
theorem Xa {L:Rows} {n:Int} (h:H1 L n=true) (hn:0≤n):(L.length:Int)≤n:=by
 unfold H1 at h
 rw [Bool.not_eq_true',HZ] at h
 have hb:∀ i,i<L.length→1≤atI L i 0∧atI L i 0≤n:=fun i hi=>by
  have:=h i (by omega) (by omega)
  unfold M8 at this
  rw [Bool.or_eq_false_iff,Bool.not_eq_false',SV] at this
  exact this.1
 have:=Xw n.toNat L.length (fun i=>(atI L i 0).toNat) (fun i hi=>by have:=hb i hi;show 1≤(atI L i 0).toNat∧(atI L i 0).toNat≤n.toNat;omega) (fun i j hij hj=>by
  show (atI L i 0).toNat≠(atI L j 0).toNat
  have h1:=hb i (by omega)
  have h2:=hb j hj
  have h3:=h j (by omega) (by omega)
  unfold M8 at h3
  rw [Bool.or_eq_false_iff] at h3
  have h4:=HZ.1 h3.2 i (by omega) (by omega)
  rw [beq_eq_false_iff_ne] at h4
  omega)
 omega
theorem Py {r:Rul} {s:Inn} (h:H5 r s=true):s.bowlers.length≤11∧s.before.length≤11∧s.Fit:=by
 have ok:=aI.1 h
 have hs:=dJ ok
 have h1:=Xa ok.dw (by omega)
 have h2:=Xa ok.df (by omega)
 have h3:=ok.lb
 have h4:=ok.ld
 have h5:=ok.lz
 exact ⟨by omega,by omega,by omega,by omega,by omega,by omega,by omega⟩
end Go.Px
end
section
namespace Go.Px
set_option maxRecDepth 100000
def W5 (m:Mat) (e:Ev):Mat×Int :=
  let sd:=GG m (m.inns.length:Int)
  let b:=DK m.rules sd (HX m sd) (cond (sd==2) m.pen2 m.pen1)
  let t:=E6 m.rules b.1 e
  cond (!(b.2==0)) (m,1) (cond (!(t.2==0)) (m,t.2)
    ({ m with stage:=3,inns:=m.inns++[t.1],pen1:=cond (sd==1) 0 m.pen1,pen2:=cond (sd==2) 0 m.pen2 },0))
def OH (xs:List Inn) (sd:Int):Nat→Option Nat
 | 0=>none
 | k+1=>cond ((inn xs k).side==sd) (some k) (OH xs sd k)
def KB (m:Mat) (sd:Int):Mat:=match OH m.inns sd m.inns.length with
 | some k=>{ m with inns:=m.inns.set k (Rl (inn m.inns k)) }
 | none=>{ m with pen1:=cond (sd==1) (IntKind.i64.wrap (m.pen1+5)) m.pen1,pen2:=cond (sd==2) (IntKind.i64.wrap (m.pen2+5)) m.pen2 }
def Z5 (m:Mat) (e:Ev):Mat×Int :=
 let t:=E6 m.rules (E5 m) e
 cond (!(t.2==0)) (m,t.2) (cond (e.kind==13 && !(e.side==t.1.side)) (KB { m with inns:=m.inns.set (lnx m.inns) t.1 } e.side) { m with inns:=m.inns.set (lnx m.inns) t.1 },0)
def ZR (m:Mat):Mat:={ m with inns:=cond (m.stage==3) (m.inns.set (lnx m.inns) { E5 m with ending:=5 }) m.inns,stage:=5,win:=Uv m.rules,wside:=0,margin:=0 }
def QN (m:Mat) (e:Ev):Mat×Int :=
  cond (e.kind==1) (cond (!(m.stage==1)) (m,1) ({ m with first:=cond e.yes e.side (Da e.side),stage:=2 },0))
    (cond (e.kind==2) (cond (!(m.stage==2)) (m,1) (W5 m e))
      (cond (e.kind==12) (cond (!(m.stage==4)) (m,1) (cond (!(e.side==m.first)) (m,2) ({ m with follow:=e.yes,stage:=2 },0)))
        (cond (e.kind==16) (ZR m,0) (cond (!(m.stage==3)) (m,1) (Z5 m e)))))
def ZJ (m:Mat):Mat :=
  let n:Int:=m.inns.length
  let sd:=(E5 m).side
  let o:=P0 { m with stage:=5 }
  cond (n==IntKind.i64.wrap (2 * m.rules.innings)||(n==3&&iLt (DG m sd) (DG m (Da sd)))) { m with stage:=5,win:=o.1,wside:=o.2.1,margin:=o.2.2 }
    (cond (n==2&&iLt 0 m.rules.followon&&iLe m.rules.followon (IntKind.i64.wrap (DG m m.first - DG m (Da m.first)))) { m with stage:=4 } { m with stage:=2 })
def ae (m:Mat):Mat:=cond (m.stage==3 && !((E5 m).ending==0)) (ZJ m) m
def Gp (m:Mat) (e:Ev):Mat×Int :=
 cond (!Ek m || !(evS e==0)) (m,1) (cond (m.stage==5) (m,26) (cond (!((QN m e).2==0)) (m,(QN m e).2) (ae (QN m e).1,0)))
theorem bind_ok {X:Option (List PV)} {r:List PV} {k:List PV→Option (List PV)} {g:Option (List PV)} (h:X=some r) (hk:k r=g):X.bind k=g:=by rw [h];exact hk
structure MatOk (m:Mat):Prop where
 code:B8 m.rules=0
 len:m.inns.length≤4
 innv:∀ i,i<m.inns.length→H5 m.rules (inn m.inns i)=true∧(inn m.inns i).side=GG m (i:Int)
 begun:(m.stage==3)=true→((m.inns.length:Int)==0)=false
 toss:(m.stage==2)=true→m.first=1∨m.first=2
 room:(m.stage==2)=true→(m.inns.length:Int)<2 * m.rules.innings
 most:IntKind.i64.wrap (2 * m.rules.innings)=2 * m.rules.innings∧(m.inns.length:Int)≤2 * m.rules.innings
theorem eG {m:Mat} (h:Ek m=true):MatOk m:=by
 unfold Ek Zo at h
 simp only [Bool.and_eq_true,Bool.not_eq_true'] at h
 obtain ⟨⟨h1,h2,h3,h4,h5,h6,h7,h8,h9,h10⟩,h11,h12⟩:=h
 have hc:=beq_iff_eq.1 h1
 have rk:=(M4 hc).innings
 have e2:IntKind.i64.wrap (2 * m.rules.innings)=2 * m.rules.innings:=F8 (by omega) (by omega)
 rw [e2] at h5 h8
 rw [Bool.or_eq_false_iff,Bool.or_eq_false_iff] at h5
 have hn:=h5.2
 have hf1:=h5.1.1
 have hf2:=h5.1.2
 simp only [iLt,decide_eq_false_iff_not] at hn hf1 hf2
 refine ⟨hc,by omega,fun i hi=>?_,fun hs=>?_,fun hs=>?_,fun hs=>?_,e2,by omega⟩
 ·have:=HZ.1 h11 i (by omega) (by omega)
  unfold Ru at this
  rw [Bool.or_eq_false_iff,Bool.not_eq_false',Bool.not_eq_false',beq_iff_eq] at this
  exact this
 ·unfold SG at h12
  rw [hs,Bool.and_eq_true] at h12
  have:=h12.2
  simp only [iLt,Bool.not_true,Bool.false_or,decide_eq_true_eq] at this
  exact beq_false_of_ne (by omega)
 ·rw [beq_iff_eq.1 hs] at h6
  cases h0:m.first==0 with
  | true=>rw [h0] at h6;simp at h6
  | false =>
   rw [beq_eq_false_iff_ne] at h0
   omega
 ·rw [hs,Bool.true_and,beq_eq_false_iff_ne] at h8
  omega
theorem cG {m:Mat} (h:m.first=1∨m.first=2) (i:Int):GG m i=1∨GG m i=2:=by
 unfold GG
 cases cond (m.follow&&iLe 2 i) (i==2) (i.tmod 2==1) with
 | false=>exact h
 | true=>rcases h with h | h<;>rw [h]<;>decide
theorem aX {m:Mat} (h:MatOk m):HP m.inns:=fun i hi=>(Py (h.innv i hi).1).2.2
theorem Ub {F : (List AW → Option (List PV)) → List PV → Option (List PV)} {len : Nat} (enc : Nat → List AW) (ans : Nat → Option (List PV))
    (h0:∀ self,F self ((enc len).map Leaf.pv)=some [.int 1]) (h1:∀ i self,i<len→F self ((enc i).map Leaf.pv)=match ans i with | some r=>some (.int 0::r) | none=>self (enc (i+1))) :
    ∀ (k i n:Nat),i+k=len→k<n→Gc F n ((enc i).map Leaf.pv)=some (SZ (Bc ans k i))
  | 0,i,n,hk,hn=>by
    obtain ⟨n,rfl⟩:∃ m,n=m+1:=⟨n - 1,by omega⟩
    obtain rfl:i=len:=by omega
    exact h0 _
  | k+1,i,n,hk,hn=>by
    obtain ⟨n,rfl⟩:∃ m,n=m+1:=⟨n - 1,by omega⟩
    show F _ _=_
    rw [h1 i _ (by omega)]
    simp only [Bc]
    cases ans i with
    | some r=>rfl
    | none=>exact Ub enc ans h0 h1 k (i+1) n (by omega) (by omega)
theorem ZG (ys:List Inn) (sd:Int) (g:Nat→List PV) (n:Nat):∀ k,k≤n→Bc (fun j=>cond ((inn ys (n - 1 - j)).side==sd) (some (g (n - 1 - j))) none) k (n - k)=(OH ys sd k).map g
 | 0,_=>rfl
 | k+1,h=>by
  have ih:=ZG ys sd g n k (by omega)
  have e:n - 1 - (n - (k+1))=k:=by omega
  have e2:n - (k+1)+1=n - k:=by omega
  simp only [Bc,OH,e,e2,ih]
  cases (inn ys k).side==sd<;>rfl
theorem dK (xs:List Inn) (k:Nat) (s:Inn) (i:Nat) (hi:i<xs.length):inn (xs.set k s) i=(if k=i then s else inn xs i):=by
 rw [Nk,Nk,List.getElem?_set]
 by_cases h:k=i
 ·subst h
  rw [if_pos rfl,if_pos rfl,if_pos hi]
 ·rw [if_neg h,if_neg h]
theorem QS {xs:List Inn} {s:Inn} (k:Nat) (h:HP xs) (hs:s.Fit):HP (xs.set k s):=fun i hi=>by
 rw [List.length_set] at hi
 rw [dK xs k s i hi]
 by_cases e:k=i
 ·rw [if_pos e];exact hs
 ·rw [if_neg e];exact h i hi
theorem aa {e:Ev} (h:(evS e==0)=true) (hk:(e.kind==13)=true):e.side=1∨e.side=2:=by
 have h0:=WG h
 rw [beq_iff_eq] at hk
 unfold evS at h
 rw [h0] at h
 cases h1:YU e with
 | true=>rw [h1] at h;cases h
 | false =>
  cases h2:UK e with
  | true=>rw [h1,h2] at h;cases h
  | false =>
   unfold UK at h2
   rw [Bool.or_eq_false_iff] at h2
   have h3:=h2.1
   rw [hk,show uS 13=true from rfl,Bool.and_true] at h3
   simp only [btw,iLe,Bool.not_eq_false',Bool.and_eq_true,decide_eq_true_eq] at h3
   omega
theorem cw (xs:List Inn) (s:Inn) (i:Nat) (hi:i<xs.length+1):inn (xs++[s]) i=(if i<xs.length then inn xs i else s):=by
 rw [Nk,Nk]
 by_cases h:i<xs.length
 ·rw [if_pos h,List.getElem?_append_left h]
 ·have:i=xs.length:=by omega
  subst this
  rw [if_neg h,List.getElem?_append_right (Nat.le_refl _),Nat.sub_self]
  rfl
theorem cM {xs:List Inn} {s:Inn} (h:HP xs) (hs:s.Fit):HP (xs++[s]):=fun i hi=>by
 rw [List.length_append] at hi
 rw [cw xs s i hi]
 by_cases e:i<xs.length
 ·rw [if_pos e];exact h i e
 ·rw [if_neg e];exact hs
theorem V4 (r:Rul) (a b c:Int) (e:Ev):(E6 r (DK r a b c).1 e).1.Fit:=by
 obtain ⟨f,h1,h2⟩:=Mq r a b c
 exact Pa (Rv r _ e) f (by rw [h1,h2];exact Nat.zero_le _)
structure ActOk (m:Mat) (x:Mat×Int):Prop where
 rules:x.1.rules=m.rules
 fit:HP x.1.inns
 len:x.1.inns.length≤5
 some':(x.2==0)=true→(x.1.stage==3)=true→((x.1.inns.length:Int)==0)=false
theorem A_c {m:Mat} (b:Bool) (x y:Mat×Int) (hx:ActOk m x) (hy:ActOk m y):ActOk m (cond b x y):=by cases b<;>assumption
theorem cK {m:Mat} (sd:Int) (hf:HP m.inns):(KB m sd).rules=m.rules∧HP (KB m sd).inns∧(KB m sd).inns.length=m.inns.length∧(KB m sd).stage=m.stage:=by
 unfold KB
 cases h:OH m.inns sd m.inns.length with
 | none=>exact ⟨rfl,hf,rfl,rfl⟩
 | some k =>
  have hk:k<m.inns.length:=by
   have:∀ n,OH m.inns sd n=some k→k<n:=by
    intro n
    induction n with
    | zero=>intro h;cases h
    | succ n ih =>
     intro h
     unfold OH at h
     cases hq:(inn m.inns n).side==sd with
     | true=>rw [hq] at h;cases h;omega
     | false=>rw [hq] at h;have:=ih h;omega
   exact this _ h
  exact ⟨rfl,QS k hf (dT (hf k hk)),List.length_set,rfl⟩
theorem eR {m:Mat} (ok:MatOk m) (e:Ev):ActOk m (QN m e):=by
 have hf:=aX ok
 have hl:=ok.len
 have self:∀ n:Int,(n==0)=false→ActOk m (m,n):=fun n hn=>⟨rfl,hf,by show m.inns.length≤5;omega,fun h=>by rw [hn] at h;cases h⟩
 unfold QN
 refine A_c _ _ _ (A_c _ _ _ (self 1 rfl) ⟨rfl,hf,by show m.inns.length≤5;omega,fun _ h=>by cases h⟩) (A_c _ _ _ ?_ (A_c _ _ _ ?_ (A_c _ _ _ ?_ ?_)))
 ·refine A_c _ _ _ (self 1 rfl) ?_
  unfold W5
  refine A_c _ _ _ (self 1 rfl) ?_
  cases hq:(E6 m.rules (DK m.rules (GG m (m.inns.length:Int)) (HX m (GG m (m.inns.length:Int))) (cond (GG m (m.inns.length:Int)==2) m.pen2 m.pen1)).1 e).2==0 with
  | false =>
   simp only [Bool.not_false,cond_true]
   exact self _ hq
  | true =>
   simp only [Bool.not_true,cond_false]
   exact ⟨rfl,cM hf (V4 _ _ _ _ e),by simp;omega,fun _ _=>by
    show ((((m.inns++[_]).length:Nat):Int)==0)=false
    rw [List.length_append]
    exact beq_false_of_ne (by simp;omega)⟩
 ·exact A_c _ _ _ (self 1 rfl) (A_c _ _ _ (self 2 rfl) ⟨rfl,hf,by show m.inns.length≤5;omega,fun _ h=>by cases h⟩)
 ·unfold ZR
  cases h3:m.stage==3 with
  | false=>exact ⟨rfl,hf,by show m.inns.length≤5;omega,fun _ h=>by cases h⟩
  | true =>
   have h0:=ok.begun h3
   have fl:=hf (lnx m.inns) (YF h0 (by omega))
   exact ⟨rfl,QS _ hf ⟨fl.bt,fl.bw,fl.bf,fl.bd,fl.sb⟩,by show (m.inns.set _ _).length≤5;rw [List.length_set];omega,fun _ h=>by cases h⟩
 ·cases h3:m.stage==3 with
  | false=>exact self 1 rfl
  | true =>
   have h0:=ok.begun h3
   have lv:=Py (ok.innv (lnx m.inns) (YF h0 (by omega))).1
   have h1:=lv.1
   have h2:=lv.2.1
   have ft:=Pa (Rv m.rules (E5 m) e) lv.2.2 (show (inn m.inns (lnx m.inns)).before.length+(inn m.inns (lnx m.inns)).bowlers.length≤1048575 by omega)
   simp only [Bool.not_true,cond_false,Z5]
   cases hq:(E6 m.rules (E5 m) e).2==0 with
   | false =>
    simp only [Bool.not_false,Bool.not_true,cond_true,cond_false]
    exact self _ hq
   | true =>
    have fs:=QS (lnx m.inns) hf ft
    have ln:(m.inns.set (lnx m.inns) (E6 m.rules (E5 m) e).1).length=m.inns.length:=List.length_set
    simp only [Bool.not_true,cond_false]
    cases (e.kind==13 && !(e.side==(E6 m.rules (E5 m) e).1.side)) with
    | false =>
     exact ⟨rfl,fs,by show (m.inns.set _ _).length≤5;omega,fun _ _=>by
      show ((((m.inns.set _ _).length:Nat):Int)==0)=false
      rw [ln];exact h0⟩
    | true =>
     obtain ⟨a1,a2,a3,a4⟩:=cK (m:={ m with inns:=m.inns.set (lnx m.inns) (E6 m.rules (E5 m) e).1 }) e.side fs
     exact ⟨a1,a2,by show (KB _ _).inns.length≤5;rw [a3];show (m.inns.set _ _).length≤5;omega,fun _ _=>by
      show ((((KB _ _).inns.length:Nat):Int)==0)=false
      rw [a3]
      show ((((m.inns.set _ _).length:Nat):Int)==0)=false
      rw [ln];exact h0⟩
end Go.Px
end
section
namespace Go.Px
set_option maxRecDepth 100000
set_option maxHeartbeats 8000000 in
theorem RY {N:Nat} {m1 m2 m3 m4 m5 m6 m7 m9 m10 m11 m12 m14 m15 m18 m19 m20 m21 m22:Int} {m8 m16:Bool} {m0:ByteArray} {m13:Rows} {m17:List Inn} {e0 e1 e2 e3 e5 e6 e7 e8 e9 e10 e11 e13 e14 e15 e16 e18:Int} {e4 e12 e17:Bool} (hN:2097152<N) (hf:HP m17) (hl:m17.length≤1000000) (hs:m0.size≤1048576) (h13:m13.length≤1048576):Bs N [.str m0,.int m1,.int m2,.int m3,.int m4,.int m5,.int m6,.int m7,.bool m8,.int m9,.int m10,.int m11,.int m12,.rows m13,.int m14,.int m15,.bool m16,.rows (AL m17),.int m18,.int m19,.int m20,.int m21,.int m22,.int e0,.int e1,.int e2,.int e3,.bool e4,.int e5,.int e6,.int e7,.int e8,.int e9,.int e10,.int e11,.bool e12,.int e13,.int e14,.int e15,.int e16,.bool e17,.int e18]=some (QI (Gp (⟨⟨m0,m1,m2,m3,m4,m5,m6,m7,m8,m9,m10,m11,m12,m13⟩,m14,m15,m16,m17,m18,m19,m20,m21,m22⟩:Mat) (⟨e0,e1,e2,e3,e4,e5,e6,⟨e7,e8,e9,e10,e11,e12,e13,e14,e15,e16,e17,e18⟩⟩:Ev))):=by
 show Jv (std (Ao N) N) (xOf _)=_
 generalize hres:(some (QI (Gp (⟨⟨m0,m1,m2,m3,m4,m5,m6,m7,m8,m9,m10,m11,m12,m13⟩,m14,m15,m16,m17,m18,m19,m20,m21,m22⟩:Mat) (⟨e0,e1,e2,e3,e4,e5,e6,⟨e7,e8,e9,e10,e11,e12,e13,e14,e15,e16,e17,e18⟩⟩:Ev))):Option (List PV))=RR
 simp only [Jv,NP,NQ,Nn,Df,Dj,G7,GK,C4,DQ,B7,CR,Fa,std,xOf,PXb,MG hf hN hl hs,Qt hN,W2 hf hN hl h13]
 subst hres;simp only [Gp]
 cases hv:Ek (⟨⟨m0,m1,m2,m3,m4,m5,m6,m7,m8,m9,m10,m11,m12,m13⟩,m14,m15,m16,m17,m18,m19,m20,m21,m22⟩:Mat)
 case false=>rfl
 cases he:evS (⟨e0,e1,e2,e3,e4,e5,e6,⟨e7,e8,e9,e10,e11,e12,e13,e14,e15,e16,e17,e18⟩⟩:Ev)==0
 case false=>simp only [PXb,he];rfl
 simp only [PXb,he]
 cases h5:m14==5
 case true=>rfl
 simp only [PXb]
 have ok:=eG hv
 refine bind_ok (r:=.int (QN (⟨⟨m0,m1,m2,m3,m4,m5,m6,m7,m8,m9,m10,m11,m12,m13⟩,m14,m15,m16,m17,m18,m19,m20,m21,m22⟩:Mat) (⟨e0,e1,e2,e3,e4,e5,e6,⟨e7,e8,e9,e10,e11,e12,e13,e14,e15,e16,e17,e18⟩⟩:Ev)).2::(QN (⟨⟨m0,m1,m2,m3,m4,m5,m6,m7,m8,m9,m10,m11,m12,m13⟩,m14,m15,m16,m17,m18,m19,m20,m21,m22⟩:Mat) (⟨e0,e1,e2,e3,e4,e5,e6,⟨e7,e8,e9,e10,e11,e12,e13,e14,e15,e16,e17,e18⟩⟩:Ev)).1.ls) ?_ ?_
 ·unfold QN
  cases hk1:e0==1
  case true =>
   simp only [PXb,Dj,GH]
   cases m14==1<;>cases e4<;>rfl
  cases hk2:e0==2
  case true =>
   simp only [PXb]
   cases hs2:m14==2
   case false=>rfl
   have hl2:m17.length≤1048576:=by omega
   have h304:iSm ((m17.length+1:Nat):Int) 304=true:=Ha (by omega) (by omega)
   have fb:=fun a b c=>(Mq (⟨⟨m0,m1,m2,m3,m4,m5,m6,m7,m8,m9,m10,m11,m12,m13⟩,m14,m15,m16,m17,m18,m19,m20,m21,m22⟩:Mat).rules a b c).1
   have wb:∀ a b c,(DK (⟨⟨m0,m1,m2,m3,m4,m5,m6,m7,m8,m9,m10,m11,m12,m13⟩,m14,m15,m16,m17,m18,m19,m20,m21,m22⟩:Mat).rules a b c).1.before.length+(DK (⟨⟨m0,m1,m2,m3,m4,m5,m6,m7,m8,m9,m10,m11,m12,m13⟩,m14,m15,m16,m17,m18,m19,m20,m21,m22⟩:Mat).rules a b c).1.bowlers.length≤1000000:=fun a b c=>by
    rw [(Mq (⟨⟨m0,m1,m2,m3,m4,m5,m6,m7,m8,m9,m10,m11,m12,m13⟩,m14,m15,m16,m17,m18,m19,m20,m21,m22⟩:Mat).rules a b c).2.1,(Mq (⟨⟨m0,m1,m2,m3,m4,m5,m6,m7,m8,m9,m10,m11,m12,m13⟩,m14,m15,m16,m17,m18,m19,m20,m21,m22⟩:Mat).rules a b c).2.2]
    exact Nat.zero_le _
   rcases cG (m:=(⟨⟨m0,m1,m2,m3,m4,m5,m6,m7,m8,m9,m10,m11,m12,m13⟩,m14,m15,m16,m17,m18,m19,m20,m21,m22⟩:Mat)) (ok.toss hs2) (m17.length:Int) with ho | ho
   ·simp only [PXb,PXc,IH,YO,Nat.reduceAdd,Int.reduceBEq,PXi,PXr,Inn.eta,Az,List.length_append,List.length_cons,List.length_nil,h304,W5,Df,DQ,C4,B7,L7,Pm hN hl2,OX hN hs,Kq (fb _ _ _) (wb _ _ _) hN hs h13,ho,wr1,wr2,Xt,YW]
    cases (DK (⟨⟨m0,m1,m2,m3,m4,m5,m6,m7,m8,m9,m10,m11,m12,m13⟩,m14,m15,m16,m17,m18,m19,m20,m21,m22⟩:Mat).rules 1 (HX (⟨⟨m0,m1,m2,m3,m4,m5,m6,m7,m8,m9,m10,m11,m12,m13⟩,m14,m15,m16,m17,m18,m19,m20,m21,m22⟩:Mat) 1) m18).2==0<;>try rfl
    cases (E6 (⟨⟨m0,m1,m2,m3,m4,m5,m6,m7,m8,m9,m10,m11,m12,m13⟩,m14,m15,m16,m17,m18,m19,m20,m21,m22⟩:Mat).rules (DK (⟨⟨m0,m1,m2,m3,m4,m5,m6,m7,m8,m9,m10,m11,m12,m13⟩,m14,m15,m16,m17,m18,m19,m20,m21,m22⟩:Mat).rules 1 (HX (⟨⟨m0,m1,m2,m3,m4,m5,m6,m7,m8,m9,m10,m11,m12,m13⟩,m14,m15,m16,m17,m18,m19,m20,m21,m22⟩:Mat) 1) m18).1 (⟨e0,e1,e2,e3,e4,e5,e6,⟨e7,e8,e9,e10,e11,e12,e13,e14,e15,e16,e17,e18⟩⟩:Ev)).2==0<;>rfl
   ·simp only [PXb,PXc,IH,YO,Nat.reduceAdd,Int.reduceBEq,PXi,PXr,Inn.eta,Az,List.length_append,List.length_cons,List.length_nil,h304,W5,Df,DQ,C4,B7,L7,Pm hN hl2,OX hN hs,Kq (fb _ _ _) (wb _ _ _) hN hs h13,ho,wr1,wr2,Xt,YW]
    cases (DK (⟨⟨m0,m1,m2,m3,m4,m5,m6,m7,m8,m9,m10,m11,m12,m13⟩,m14,m15,m16,m17,m18,m19,m20,m21,m22⟩:Mat).rules 2 (HX (⟨⟨m0,m1,m2,m3,m4,m5,m6,m7,m8,m9,m10,m11,m12,m13⟩,m14,m15,m16,m17,m18,m19,m20,m21,m22⟩:Mat) 2) m19).2==0<;>try rfl
    cases (E6 (⟨⟨m0,m1,m2,m3,m4,m5,m6,m7,m8,m9,m10,m11,m12,m13⟩,m14,m15,m16,m17,m18,m19,m20,m21,m22⟩:Mat).rules (DK (⟨⟨m0,m1,m2,m3,m4,m5,m6,m7,m8,m9,m10,m11,m12,m13⟩,m14,m15,m16,m17,m18,m19,m20,m21,m22⟩:Mat).rules 2 (HX (⟨⟨m0,m1,m2,m3,m4,m5,m6,m7,m8,m9,m10,m11,m12,m13⟩,m14,m15,m16,m17,m18,m19,m20,m21,m22⟩:Mat) 2) m19).1 (⟨e0,e1,e2,e3,e4,e5,e6,⟨e7,e8,e9,e10,e11,e12,e13,e14,e15,e16,e17,e18⟩⟩:Ev)).2==0<;>rfl
  cases hk3:e0==12
  case true =>
   simp only [PXb]
   cases m14==4<;>cases e1==m15<;>rfl
  cases hk4:e0==16
  case true =>
   simp only [PXb,ZR]
   cases h3:m14==3
   case false=>simp only [PXb,PXc,PXi,PXr,IH,Nat.reduceAdd,CR,G1];rfl
   simp only [PXb,PXc,PXi,PXr,IH,Nat.reduceAdd,Sk (ok.begun h3) hl,CR,G1]
   rfl
  simp only [PXb]
  cases h3:m14==3
  case false=>rfl
  have h0:=ok.begun h3
  have lv:=Py (ok.innv (lnx m17) (YF h0 hl)).1
  have fl:(inn m17 (IntKind.i64.wrap ((m17.length:Int) - 1)).toNat).Fit:=lv.2.2
  have wl:(inn m17 (IntKind.i64.wrap ((m17.length:Int) - 1)).toNat).before.length+(inn m17 (IntKind.i64.wrap ((m17.length:Int) - 1)).toNat).bowlers.length≤1000000:=by
   have h1:=lv.1
   have h2:=lv.2.1
   change (inn m17 (IntKind.i64.wrap ((m17.length:Int) - 1)).toNat).bowlers.length≤11 at h1
   change (inn m17 (IntKind.i64.wrap ((m17.length:Int) - 1)).toNat).before.length≤11 at h2
   omega
  have f1:=Pa (Rv (⟨⟨m0,m1,m2,m3,m4,m5,m6,m7,m8,m9,m10,m11,m12,m13⟩,m14,m15,m16,m17,m18,m19,m20,m21,m22⟩:Mat).rules (inn m17 (IntKind.i64.wrap ((m17.length:Int) - 1)).toNat) (⟨e0,e1,e2,e3,e4,e5,e6,⟨e7,e8,e9,e10,e11,e12,e13,e14,e15,e16,e17,e18⟩⟩:Ev)) fl (by omega)
  simp only [PXb,PXc,PXi,PXr,Az,Inn.eta,IH,Nat.reduceAdd,List.length_set,Sk h0 hl,B7,Kq fl wl hN hs h13,Z5,E5,lnx]
  generalize hX:E6 (⟨⟨m0,m1,m2,m3,m4,m5,m6,m7,m8,m9,m10,m11,m12,m13⟩,m14,m15,m16,m17,m18,m19,m20,m21,m22⟩:Mat).rules (inn m17 (IntKind.i64.wrap ((m17.length:Int) - 1)).toNat) (⟨e0,e1,e2,e3,e4,e5,e6,⟨e7,e8,e9,e10,e11,e12,e13,e14,e15,e16,e17,e18⟩⟩:Ev)=X at f1
  have fy:=QS (IntKind.i64.wrap ((m17.length:Int) - 1)).toNat hf f1
  generalize hy:m17.set (IntKind.i64.wrap ((m17.length:Int) - 1)).toNat X.1=ys at fy
  have ly:ys.length=m17.length:=by rw [← hy,List.length_set]
  cases X.2==0<;>try rfl
  cases h13k:e0==13
  case false=>rfl
  cases hsd:e1==X.1.side
  case true=>rfl
  simp only [PXb,Option.bind_assoc]
  have e0w:IntKind.i64.wrap ((m17.length:Int) - 1)=(m17.length:Int) - 1 - ((0:Nat):Int):=by
   rw [beq_eq_false_iff_ne] at h0
   rw [F8 (by omega) (by omega)];omega
  rw [e0w]
  have hside:=aa (e:=(⟨e0,e1,e2,e3,e4,e5,e6,⟨e7,e8,e9,e10,e11,e12,e13,e14,e15,e16,e17,e18⟩⟩:Ev)) he h13k
  simp only at hside
  refine Aa (Ub (len:=m17.length) (fun j=>[.int ((m17.length:Int) - 1 - (j:Int))]) (fun j=>cond ((inn ys (m17.length - 1 - j)).side==e1) (some [PV.str m0,PV.int m1,PV.int m2,PV.int m3,PV.int m4,PV.int m5,PV.int m6,PV.int m7,PV.bool m8,PV.int m9,PV.int m10,PV.int m11,PV.int m12,PV.rows m13,PV.int m14,PV.int m15,PV.bool m16,PV.rows (AL (ys.set (m17.length - 1 - j) (Rl (inn ys (m17.length - 1 - j))))),PV.int m18,PV.int m19,PV.int m20,PV.int m21,PV.int m22]) none) ?_ ?_ m17.length 0 N (by omega) (by omega)) ?_
  ·intro self
   have q1:iLe 0 ((m17.length:Int) - 1 - (m17.length:Int))=false:=by simp only [iLe,decide_eq_false_iff_not];omega
   simp only [PXb,q1]
  ·intro i self hi
   have q1:iLe 0 ((m17.length:Int) - 1 - (i:Int))=true:=by simp only [iLe,decide_eq_true_eq];omega
   have q2:iIn ((m17.length:Int) - 1 - (i:Int)) (m17.length:Int)=true:=by simp only [iIn,decide_eq_true_eq];omega
   have q3:((m17.length:Int) - 1 - (i:Int)).toNat=m17.length - 1 - i:=by omega
   have q4:IntKind.i64.wrap ((m17.length:Int) - 1 - (i:Int) - 1)=(m17.length:Int) - 1 - ((i+1:Nat):Int):=by rw [F8 (by omega) (by omega)];omega
   have q5:=fy (m17.length - 1 - i) (by omega)
   simp only [PXb,PXc,q1,q2,q3,q4,Fa,MU q5,PXm]
   cases (inn ys (m17.length - 1 - i)).side==e1<;>rfl
  ·have hfa:=ZG ys e1 (fun k=>[PV.str m0,PV.int m1,PV.int m2,PV.int m3,PV.int m4,PV.int m5,PV.int m6,PV.int m7,PV.bool m8,PV.int m9,PV.int m10,PV.int m11,PV.int m12,PV.rows m13,PV.int m14,PV.int m15,PV.bool m16,PV.rows (AL (ys.set k (Rl (inn ys k)))),PV.int m18,PV.int m19,PV.int m20,PV.int m21,PV.int m22]) m17.length m17.length (Nat.le_refl _)
   rw [Nat.sub_self] at hfa
   rw [hfa]
   unfold KB
   simp only [ly]
   cases OH ys e1 m17.length with
   | some k=>rfl
   | none =>
    rcases hside with h | h<;>subst h
    ·simp only [Option.map_none,SZ,PXb,PXc,IH,Int.reduceBEq,wr1,Xt]
     rfl
    ·simp only [Option.map_none,SZ,PXb,PXc,IH,Int.reduceBEq,wr2,YW]
     rfl
 ·have ak:=eR ok (⟨e0,e1,e2,e3,e4,e5,e6,⟨e7,e8,e9,e10,e11,e12,e13,e14,e15,e16,e17,e18⟩⟩:Ev)
  generalize QN (⟨⟨m0,m1,m2,m3,m4,m5,m6,m7,m8,m9,m10,m11,m12,m13⟩,m14,m15,m16,m17,m18,m19,m20,m21,m22⟩:Mat) (⟨e0,e1,e2,e3,e4,e5,e6,⟨e7,e8,e9,e10,e11,e12,e13,e14,e15,e16,e17,e18⟩⟩:Ev)=A at ak
  obtain ⟨⟨⟨a0,a1,a2,a3,a4,a5,a6,a7,a8,a9,a10,a11,a12,a13⟩,a14,a15,a16,a17,a18,a19,a20,a21,a22⟩,l⟩:=A
  obtain ⟨k1,k2,k3,k4⟩:=ak
  simp only at k1 k2 k3 k4
  have hl5:a17.length≤1048576:=by omega
  have hs5:a0.size≤1048576:=by
   have:=congrArg Rul.name k1
   simp only at this
   rw [this];exact hs
  simp only [PXb,PXc,PXk,PXi,IH,Nat.reduceAdd]
  cases hl0:l==0
  case false=>rfl
  simp only [PXb,ae]
  cases h3:a14==3
  case false=>rfl
  have h0:=k4 hl0 h3
  have li:=Sk h0 (show a17.length≤1000000 by omega)
  simp only [PXb,PXc,PXi,li]
  cases he2:(inn a17 (IntKind.i64.wrap ((a17.length:Int) - 1)).toNat).ending==0
  case true=>simp only [PXb,E5,lnx,he2]
  simp only [PXb,PXc,PXi,E5,lnx,he2,G7,Dj,GK,L9 hN hl5,GH,Ug k2 hN (show a17.length≤1000000 by omega) hs5]
  unfold ZJ
  simp only [E5,lnx]
  simp only [DG,E5,lnx]
  cases hq1:((a17.length:Int)==IntKind.i64.wrap (2 * a2))
  case true=>rfl
  cases hq2:((a17.length:Int)==3)
  case true =>
   simp only [PXb]
   cases iLt (L0 a17 (inn a17 (IntKind.i64.wrap ((a17.length:Int) - 1)).toNat).side a17.length) (L0 a17 (Da (inn a17 (IntKind.i64.wrap ((a17.length:Int) - 1)).toNat).side) a17.length)
   case true=>rfl
   simp only [PXb]
   cases ((a17.length:Int)==2)&&iLt 0 a10&&iLe a10 (IntKind.i64.wrap (L0 a17 a15 a17.length - L0 a17 (Da a15) a17.length))<;>rfl
  simp only [PXb]
  cases ((a17.length:Int)==2)&&iLt 0 a10&&iLe a10 (IntKind.i64.wrap (L0 a17 a15 a17.length - L0 a17 (Da a15) a17.length))<;>rfl
end Go.Px
end
section
namespace Go.Px
set_option maxRecDepth 100000
structure StepOk (r:Rul) (m:Mat):Prop where
 rules:m.rules=r
 fit:HP m.inns
 len:m.inns.length≤5
end Go.Px
end
section
namespace Go.Px
set_option maxRecDepth 100000
def fm (f:Int→Rows) (lo:Int):Nat→Rows
 | 0=>[]
 | n+1=>fm f lo n++f (lo+(n:Int))
theorem ZB (f:Int→Rows) (lo:Int) (n:Nat):fm f lo (n+1)=fm f lo n++f (lo+(n:Int)):=rfl
theorem Xl {f:Int→Rows} {lo:Int} {c:Nat}:∀ n:Nat,(∀ i,(f i).length≤c)→(fm f lo n).length≤n * c
 | 0,_=>Nat.zero_le _
 | n+1,h=>by
  have ih:=Xl (lo:=lo) n h
  have:=h (lo+(n:Int))
  rw [ZB,List.length_append,Nat.succ_mul]
  omega
def evK (k s p o:Int) (y:Bool) (n:Int):Ev:=⟨k,s,p,o,y,n,0,⟨0,0,0,0,0,false,0,0,0,0,false,0⟩⟩
def yF (b:Bool) (f:Bool→Rows):Rows:=f false++cond b (f true) []
def bP (g:Int→Int→Int→Bool→Int→Rows) (b:Bool) (sl pl ol rl:Int) (sn pn on rn:Nat):Rows :=
 fm (fun s=>fm (fun p=>fm (fun o=>yF b fun y=>fm (fun n=>g s p o y n) rl rn) ol on) pl pn) sl sn
end Go.Px
end
section
namespace Go.Px
set_option maxRecDepth 100000
structure AccE (e:Ev):Prop where
 kind:1≤e.kind∧e.kind≤16
 side:cond (uS e.kind) (1≤e.side∧e.side≤2) (e.side=0)
 player:cond (uP e.kind) (1≤e.player∧e.player≤11) (e.player=0)
 other:cond (uO e.kind) (1≤e.other∧e.other≤11) (e.other=0)
 yes:e.yes=true→uY e.kind=true
 runs:cond (uR e.kind) (loS e.kind≤e.runs∧e.runs≤hiS e.kind) (e.runs=0)
 pen:e.kind=13→e.runs=5
 overs:uV e.kind=false→e.overs=0
 ball:uB e.kind=false→W6 e.ball=true
def eY (e:Ev):List PV:=[.int e.kind,.int e.side,.int e.player,.int e.other,.bool e.yes,.int e.runs,.int e.overs]++e.ball.ls
def B9 (m:Mat) (k s p o:Int) (y:Bool) (n:Int):Rows:=cond ((Gp m (evK k s p o y n)).2==0) [eY (evK k s p o y n)] []
def RU (m:Mat) (k:Int):Rows:=bP (B9 m k) (uY k) (cond (uS k) 1 0) (cond (uP k) 1 0) (cond (uO k) 1 0) (cond (k==13) 1 0) (cond (uS k) 2 1) (cond (uP k) 11 1) (cond (uO k) 11 1) (cond (k==7) 12 (cond (k==13) 99 1))
end Go.Px
end
section
namespace Go.Px
set_option maxRecDepth 100000
def upL (a:Int) (n:Nat):Rows:=fm (fun v=>[[PV.int v]]) a n
theorem DV (a:Int):∀ n,(upL a n).length=n
 | 0=>rfl
 | n+1=>by
  show (upL a n++[[PV.int (a+(n:Int))]]).length=n+1
  rw [List.length_append,DV a n]
  rfl
theorem Y7 (a:Int):∀ n i:Nat,i<n→Ar (upL a n) i=[PV.int (a+(i:Int))]
 | 0,i,h=>absurd h (Nat.not_lt_zero _)
 | n+1,i,h=>by
  show Ar (upL a n++[[PV.int (a+(n:Int))]]) i=_
  unfold Ar
  rw [List.getD_eq_getElem?_getD,List.getElem?_append,DV]
  by_cases e:i<n
  ·rw [if_pos e]
   have:=Y7 a n i e
   unfold Ar at this
   rw [List.getD_eq_getElem?_getD] at this
   exact this
  ·rw [if_neg e]
   have:i=n:=by omega
   rw [this,Nat.sub_self]
   rfl
theorem RZ {a:Int} {n i:Nat} (h:i<n):pvI (AD (upL a n) i 0)=a+(i:Int):=by
 unfold AD
 rw [Y7 a n i h]
 rfl
theorem dL {F : (List AW → Option (List PV)) → List PV → Option (List PV)} {len : Nat} (enc : Nat → List AW) (fin : List PV) {x : List PV} (hx : x = (enc 0).map Leaf.pv)
    (h0:∀ self,F self ((enc len).map Leaf.pv)=some fin) (h1:∀ i self,i<len→F self ((enc i).map Leaf.pv)=self (enc (i+1))) (n:Nat) (hn:len<n):Gc F n x=some fin:=by
  rw [hx]
  exact C2 enc fin h0 h1 n hn
set_option maxHeartbeats 1000000 in
theorem Jw {N:Nat} {a b:Int} {n:Nat} (hN:2097152<N) (ha:0≤a) (hb:b=a+(n:Int) - 1) (hc:a+(n:Int)≤1000):Ci N [.int a,.int b]=some [.rows (upL a n)]:=by
 show J1 (std (Ps N) N) (xOf _)=_
 simp only [J1,std,xOf,PXb]
 refine Aa (dL (len:=n) (fun i=>[.rows (upL a i),.int (a+(i:Int))]) [.rows (upL a n)] (by show [PV.rows [],PV.int a]=[PV.rows [],PV.int (a+((0:Nat):Int))];rw [show a+((0:Nat):Int)=a by omega]) ?_ ?_ N (by omega)) ?_
 ·intro self
  have:iLe (a+(n:Int)) b=false:=by simp only [iLe,decide_eq_false_iff_not];omega
  simp only [PXb,PXc,PXn,AF,this]
 ·intro i self hi
  have l:iLe (a+(i:Int)) b=true:=by simp only [iLe,decide_eq_true_eq];omega
  have w:IntKind.i64.wrap (a+(i:Int)+1)=a+((i+1:Nat):Int):=by rw [F8 (by omega) (by omega)];omega
  have sm:iSm ((i+1:Nat):Int) 8=true:=Ha (by omega) (by omega)
  simp only [PXb,PXc,PXn,AF,l,w,List.length_append,DV,List.length_cons,List.length_nil,Nat.zero_add,sm]
  rfl
 ·rfl
def okK (k:Int):Bool:=k==1||k==12||k==14||k==2||k==3||k==8||k==5||k==6||k==9||k==7||k==11||k==13||k==10||k==16
def Zs (k:Int):Rows:=upL (cond (uS k) 1 0) (cond (uS k) 2 1)
def ZU (k:Int):Rows:=upL (cond (uP k) 1 0) (cond (uP k) 11 1)
def cE (k:Int):Rows:=upL (cond (uO k) 1 0) (cond (uO k) 11 1)
def ba (k:Int):Rows:=upL (cond (k==13) 1 0) (cond (k==7) 12 (cond (k==13) 99 1))
set_option maxHeartbeats 4000000 in
theorem Vw {N:Nat} {k:Int} (hN:2097152<N):FM N [.int k]=some [.rows (Zs k),.rows (ZU k),.rows (cE k),.rows (ba k),.bool (uY k),.bool (okK k)]:=by
 show FC (std (Ca N) N) (xOf _)=_
 have u1:Ci N [.int 1,.int 2]=some [.rows (upL 1 2)]:=Jw (n:=2) hN (by omega) rfl (by omega)
 have u2:Ci N [.int 1,.int 11]=some [.rows (upL 1 11)]:=Jw (n:=11) hN (by omega) rfl (by omega)
 have u3:Ci N [.int 0,.int 11]=some [.rows (upL 0 12)]:=Jw (n:=12) hN (by omega) rfl (by omega)
 have u4:Ci N [.int 1,.int 99]=some [.rows (upL 1 99)]:=Jw (n:=99) hN (by omega) rfl (by omega)
 simp only [FC,My,std,xOf,PXb,u1,u2,u3,u4]
 cases hk:(iLt k 1||iLt 16 k) with
 | false=>rcases Sg hk with h | h | h | h | h | h | h | h | h | h | h | h | h | h | h | h<;>subst h<;>rfl
 | true =>
  have no:=fun n h1 h2=>bX hk n h1 h2
  have e:∀ n:Int,1≤n→n≤16→(k==n)=false:=no
  unfold Zs ZU cE ba uS uP uO uY okK
  simp only [PXb,e 1 (by omega) (by omega),e 2 (by omega) (by omega),e 3 (by omega) (by omega),e 5 (by omega) (by omega),e 6 (by omega) (by omega),e 7 (by omega) (by omega),e 8 (by omega) (by omega),e 9 (by omega) (by omega),e 10 (by omega) (by omega),e 11 (by omega) (by omega),e 12 (by omega) (by omega),e 13 (by omega) (by omega),e 14 (by omega) (by omega),e 16 (by omega) (by omega)]
  rfl
set_option maxHeartbeats 1000000 in
theorem TF {N:Nat} {m1 m2 m3 m4 m5 m6 m7 m9 m10 m11 m12 m14 m15 m18 m19 m20 m21 m22:Int} {m8 m16:Bool} {m0:ByteArray} {m13:Rows} {m17:List Inn} {e0 e1 e2 e3 e5 e6 e7 e8 e9 e10 e11 e13 e14 e15 e16 e18:Int} {e4 e12 e17:Bool} (hN:2097152<N) (hf:HP m17) (hl:m17.length≤1000000) (hs:m0.size≤1048576) (h13:m13.length≤1048576):CB N [.str m0,.int m1,.int m2,.int m3,.int m4,.int m5,.int m6,.int m7,.bool m8,.int m9,.int m10,.int m11,.int m12,.rows m13,.int m14,.int m15,.bool m16,.rows (AL m17),.int m18,.int m19,.int m20,.int m21,.int m22,.int e0,.int e1,.int e2,.int e3,.bool e4,.int e5,.int e6,.int e7,.int e8,.int e9,.int e10,.int e11,.bool e12,.int e13,.int e14,.int e15,.int e16,.bool e17,.int e18]=some [.int (Gp (⟨⟨m0,m1,m2,m3,m4,m5,m6,m7,m8,m9,m10,m11,m12,m13⟩,m14,m15,m16,m17,m18,m19,m20,m21,m22⟩:Mat) (⟨e0,e1,e2,e3,e4,e5,e6,⟨e7,e8,e9,e10,e11,e12,e13,e14,e15,e16,e17,e18⟩⟩:Ev)).2]:=by
 show LC (std (MD N) N) (xOf _)=_
 simp only [LC,PA,std,xOf,PXb,RY hN hf hl hs h13]
 rfl
end Go.Px
end
section
namespace Go.Px
set_option maxRecDepth 100000
theorem Po {i:Nat} (h:i≤1099511627776):IntKind.i64.wrap ((i:Int)+1)=((i+1:Nat):Int):=As h
def fmo (out:Rows) (f:Int→Rows) (lo:Int):Nat→Rows
 | 0=>out
 | n+1=>fmo out f lo n++f (lo+(n:Int))
theorem NW (out:Rows) (f:Int→Rows) (lo:Int) (n:Nat):fmo out f lo (n+1)=fmo out f lo n++f (lo+(n:Int)):=rfl
theorem Pg (out:Rows) (f:Int→Rows) (lo:Int):∀ n,fmo out f lo n=out++fm f lo n
 | 0=>(List.append_nil _).symm
 | n+1=>by rw [NW,ZB,Pg out f lo n,List.append_assoc]
theorem ZA (f:Int→Rows) (lo:Int) (n:Nat):fmo [] f lo n=fm f lo n:=Pg [] f lo n
theorem PW {out:Rows} {f:Int→Rows} {lo:Int} {c k n:Nat} (h:∀ i,(f i).length≤c) (hk:n≤k):(fmo out f lo n).length≤out.length+k * c:=by
 have:=Xl (f:=f) (lo:=lo) n h
 have:=Nat.mul_le_mul_right c hk
 rw [Pg,List.length_append]
 omega
theorem Kp {f:Int→Rows} {lo:Int} {c k n:Nat} (h:∀ i,(f i).length≤c) (hk:n≤k):(fm f lo n).length≤k * c :=
 Nat.le_trans (Xl n h) (Nat.mul_le_mul_right c hk)
theorem ay {b:Bool} {f:Bool→Rows} {c:Nat} (h:∀ y,(f y).length≤c):(yF b f).length≤2 * c:=by
 unfold yF
 have h1:=h false
 have h2:=h true
 rw [List.length_append]
 cases b
 ·show (f false).length+0≤_
  omega
 ·show (f false).length+(f true).length≤_
  omega
theorem ZH (m:Mat) (k s p o:Int) (y:Bool) (n:Int):(B9 m k s p o y n).length≤1:=by
 unfold B9
 cases (Gp m (evK k s p o y n)).2==0
 ·exact Nat.zero_le _
 ·exact Nat.le_refl _
def yfo (b:Bool) (f:Bool→Rows) (out:Rows):Nat→Rows
 | 0=>out
 | 1=>out++f false
 | _=>out++f false++cond b (f true) []
theorem dc (b:Bool) (f:Bool→Rows) (out:Rows):yfo b f out 2=out++yF b f:=List.append_assoc _ _ _
theorem lt2 {i:Nat} (h:i<2):i=0∨i=1:=by omega
set_option maxHeartbeats 8000000 in
theorem Zp {N:Nat} {m1 m2 m3 m4 m5 m6 m7 m9 m10 m11 m12 m14 m15 m18 m19 m20 m21 m22:Int} {m8 m16:Bool} {m0:ByteArray} {m13:Rows} {m17:List Inn} {k:Int} (hN:2097152<N) (hf:HP m17) (hl:m17.length≤1000000) (hs:m0.size≤1048576) (h13:m13.length≤1048576):F2 N [.str m0,.int m1,.int m2,.int m3,.int m4,.int m5,.int m6,.int m7,.bool m8,.int m9,.int m10,.int m11,.int m12,.rows m13,.int m14,.int m15,.bool m16,.rows (AL m17),.int m18,.int m19,.int m20,.int m21,.int m22,.int k]=some [.rows (cond (okK k&&Ek (⟨⟨m0,m1,m2,m3,m4,m5,m6,m7,m8,m9,m10,m11,m12,m13⟩,m14,m15,m16,m17,m18,m19,m20,m21,m22⟩:Mat)) (RU (⟨⟨m0,m1,m2,m3,m4,m5,m6,m7,m8,m9,m10,m11,m12,m13⟩,m14,m15,m16,m17,m18,m19,m20,m21,m22⟩:Mat) k) [])]:=by
  show Jx (std (Cr N) N) (xOf _)=_
  generalize hres:(some [.rows (cond (okK k&&Ek (⟨⟨m0,m1,m2,m3,m4,m5,m6,m7,m8,m9,m10,m11,m12,m13⟩,m14,m15,m16,m17,m18,m19,m20,m21,m22⟩:Mat)) (RU (⟨⟨m0,m1,m2,m3,m4,m5,m6,m7,m8,m9,m10,m11,m12,m13⟩,m14,m15,m16,m17,m18,m19,m20,m21,m22⟩:Mat) k) [])]:Option (List PV))=RR
  simp only [Jx,O1,QO,N1,std,xOf,PXb,Vw hN,MG hf hN hl hs]
  subst hres;simp only [RU]
  cases hk:okK k with
  | false=>rfl
  | true =>
    cases hv:Ek (⟨⟨m0,m1,m2,m3,m4,m5,m6,m7,m8,m9,m10,m11,m12,m13⟩,m14,m15,m16,m17,m18,m19,m20,m21,m22⟩:Mat) with
    | false=>rfl
    | true =>
      have c1:(cond (uS k) 2 1:Nat)≤2:=by cases uS k<;>decide
      have c2:(cond (uP k) 11 1:Nat)≤11:=by cases uP k<;>decide
      have c3:(cond (uO k) 11 1:Nat)≤11:=by cases uO k<;>decide
      have c4:(cond (k==7) 12 (cond (k==13) 99 1):Nat)≤99:=by cases k==7<;>cases k==13<;>decide
      unfold Zs ZU cE ba bP
      generalize (cond (uS k) 2 1:Nat)=sn at *
      generalize (cond (uP k) 11 1:Nat)=pn at *
      generalize (cond (uO k) 11 1:Nat)=on at *
      generalize (cond (k==7) 12 (cond (k==13) 99 1):Nat)=rn at *
      generalize (cond (uS k) 1 0:Int)=sl at *
      generalize (cond (uP k) 1 0:Int)=pl at *
      generalize (cond (uO k) 1 0:Int)=ol at *
      generalize (cond (k==13) 1 0:Int)=rl at *
      generalize uY k=yb at *
      have WHY:∀ s p o:Int,∀ y:Bool,∀ n:Int,CB N [.str m0,.int m1,.int m2,.int m3,.int m4,.int m5,.int m6,.int m7,.bool m8,.int m9,.int m10,.int m11,.int m12,.rows m13,.int m14,.int m15,.bool m16,.rows (AL m17),.int m18,.int m19,.int m20,.int m21,.int m22,.int k,.int s,.int p,.int o,.bool y,.int n,.int 0,.int 0,.int 0,.int 0,.int 0,.int 0,.bool false,.int 0,.int 0,.int 0,.int 0,.bool false,.int 0]=some [.int (Gp (⟨⟨m0,m1,m2,m3,m4,m5,m6,m7,m8,m9,m10,m11,m12,m13⟩,m14,m15,m16,m17,m18,m19,m20,m21,m22⟩:Mat) (evK k s p o y n)).2]:=fun s p o y n=>TF hN hf hl hs h13
      have ONE:∀ s p o:Int,∀ y:Bool,∀ n:Int,B9 (⟨⟨m0,m1,m2,m3,m4,m5,m6,m7,m8,m9,m10,m11,m12,m13⟩,m14,m15,m16,m17,m18,m19,m20,m21,m22⟩:Mat) k s p o y n=cond ((Gp (⟨⟨m0,m1,m2,m3,m4,m5,m6,m7,m8,m9,m10,m11,m12,m13⟩,m14,m15,m16,m17,m18,m19,m20,m21,m22⟩:Mat) (evK k s p o y n)).2==0) [[.int k,.int s,.int p,.int o,.bool y,.int n,.int 0,.int 0,.int 0,.int 0,.int 0,.int 0,.bool false,.int 0,.int 0,.int 0,.int 0,.bool false,.int 0]] []:=fun s p o y n=>rfl
      have l1:∀ s p o:Int,∀ y:Bool,∀ n:Int,(B9 (⟨⟨m0,m1,m2,m3,m4,m5,m6,m7,m8,m9,m10,m11,m12,m13⟩,m14,m15,m16,m17,m18,m19,m20,m21,m22⟩:Mat) k s p o y n).length≤1:=fun s p o y n=>ZH _ k s p o y n
      have l2:∀ s p o:Int,∀ y:Bool,(fm (fun n=>B9 (⟨⟨m0,m1,m2,m3,m4,m5,m6,m7,m8,m9,m10,m11,m12,m13⟩,m14,m15,m16,m17,m18,m19,m20,m21,m22⟩:Mat) k s p o y n) rl rn).length≤99 * 1:=fun s p o y=>Kp (l1 s p o y) c4
      have l3:∀ s p o:Int,(yF yb fun y=>fm (fun n=>B9 (⟨⟨m0,m1,m2,m3,m4,m5,m6,m7,m8,m9,m10,m11,m12,m13⟩,m14,m15,m16,m17,m18,m19,m20,m21,m22⟩:Mat) k s p o y n) rl rn).length≤2 * (99 * 1):=fun s p o=>ay (l2 s p o)
      have l4:∀ s p:Int,(fm (fun o=>yF yb fun y=>fm (fun n=>B9 (⟨⟨m0,m1,m2,m3,m4,m5,m6,m7,m8,m9,m10,m11,m12,m13⟩,m14,m15,m16,m17,m18,m19,m20,m21,m22⟩:Mat) k s p o y n) rl rn) ol on).length≤11 * (2 * (99 * 1)):=fun s p=>Kp (l3 s p) c3
      have l5:∀ s:Int,(fm (fun p=>fm (fun o=>yF yb fun y=>fm (fun n=>B9 (⟨⟨m0,m1,m2,m3,m4,m5,m6,m7,m8,m9,m10,m11,m12,m13⟩,m14,m15,m16,m17,m18,m19,m20,m21,m22⟩:Mat) k s p o y n) rl rn) ol on) pl pn).length≤11 * (11 * (2 * (99 * 1))):=fun s=>Kp (l4 s) c2
      simp only [PXb,Bool.not_true,Bool.and_true]
      refine Aa (C2 (len:=sn) (fun i=>[.int (i:Int),.str m0,.int m1,.int m2,.int m3,.int m4,.int m5,.int m6,.int m7,.bool m8,.int m9,.int m10,.int m11,.int m12,.rows m13,.int m14,.int m15,.bool m16,.rows (AL m17),.int m18,.int m19,.int m20,.int m21,.int m22,.rows (fmo [] (fun s=>fm (fun p=>fm (fun o=>yF yb fun y=>fm (fun n=>B9 (⟨⟨m0,m1,m2,m3,m4,m5,m6,m7,m8,m9,m10,m11,m12,m13⟩,m14,m15,m16,m17,m18,m19,m20,m21,m22⟩:Mat) k s p o y n) rl rn) ol on) pl pn) sl i)]) [.str m0,.int m1,.int m2,.int m3,.int m4,.int m5,.int m6,.int m7,.bool m8,.int m9,.int m10,.int m11,.int m12,.rows m13,.int m14,.int m15,.bool m16,.rows (AL m17),.int m18,.int m19,.int m20,.int m21,.int m22,.rows (fmo [] (fun s=>fm (fun p=>fm (fun o=>yF yb fun y=>fm (fun n=>B9 (⟨⟨m0,m1,m2,m3,m4,m5,m6,m7,m8,m9,m10,m11,m12,m13⟩,m14,m15,m16,m17,m18,m19,m20,m21,m22⟩:Mat) k s p o y n) rl rn) ol on) pl pn) sl sn)] ?_ ?_ N (by omega)) ?_
      · intro self
        simp only [PXb,PXc,PXn,AF,DV,Ba]
      · intro i self hi
        have b1:=PW (out:=[]) (lo:=sl) (n:=i) l5 (k:=2) (by omega)
        rw [List.length_nil,Nat.zero_add] at b1
        rw [NW]
        generalize fmo [] (fun s=>fm (fun p=>fm (fun o=>yF yb fun y=>fm (fun n=>B9 (⟨⟨m0,m1,m2,m3,m4,m5,m6,m7,m8,m9,m10,m11,m12,m13⟩,m14,m15,m16,m17,m18,m19,m20,m21,m22⟩:Mat) k s p o y n) rl rn) ol on) pl pn) sl i=out1 at *
        rw [← Pg]
        simp only [PXb,PXc,PXn,AF,DV,A9 hi,Ak hi,Int.toNat_natCast,RZ hi]
        generalize sl+(i:Int)=s at *
        refine Aa (C2 (len:=pn) (fun j=>[.int (j:Int),.str m0,.int m1,.int m2,.int m3,.int m4,.int m5,.int m6,.int m7,.bool m8,.int m9,.int m10,.int m11,.int m12,.rows m13,.int m14,.int m15,.bool m16,.rows (AL m17),.int m18,.int m19,.int m20,.int m21,.int m22,.rows (fmo out1 (fun p=>fm (fun o=>yF yb fun y=>fm (fun n=>B9 (⟨⟨m0,m1,m2,m3,m4,m5,m6,m7,m8,m9,m10,m11,m12,m13⟩,m14,m15,m16,m17,m18,m19,m20,m21,m22⟩:Mat) k s p o y n) rl rn) ol on) pl j)]) [.int (pn:Int),.str m0,.int m1,.int m2,.int m3,.int m4,.int m5,.int m6,.int m7,.bool m8,.int m9,.int m10,.int m11,.int m12,.rows m13,.int m14,.int m15,.bool m16,.rows (AL m17),.int m18,.int m19,.int m20,.int m21,.int m22,.rows (fmo out1 (fun p=>fm (fun o=>yF yb fun y=>fm (fun n=>B9 (⟨⟨m0,m1,m2,m3,m4,m5,m6,m7,m8,m9,m10,m11,m12,m13⟩,m14,m15,m16,m17,m18,m19,m20,m21,m22⟩:Mat) k s p o y n) rl rn) ol on) pl pn)] ?_ ?_ N (by omega)) ?_
        · intro self
          simp only [PXb,PXc,PXn,AF,DV,Ba]
        · intro j self hj
          have b2:=PW (out:=out1) (lo:=pl) (n:=j) (l4 s) (k:=11) (by omega)
          rw [NW]
          generalize fmo out1 (fun p=>fm (fun o=>yF yb fun y=>fm (fun n=>B9 (⟨⟨m0,m1,m2,m3,m4,m5,m6,m7,m8,m9,m10,m11,m12,m13⟩,m14,m15,m16,m17,m18,m19,m20,m21,m22⟩:Mat) k s p o y n) rl rn) ol on) pl j=out2 at *
          rw [← Pg]
          simp only [PXb,PXc,PXn,AF,DV,A9 hj,Ak hj,Int.toNat_natCast,RZ hj]
          generalize pl+(j:Int)=p at *
          refine Aa (C2 (len:=on) (fun q=>[.int (q:Int),.str m0,.int m1,.int m2,.int m3,.int m4,.int m5,.int m6,.int m7,.bool m8,.int m9,.int m10,.int m11,.int m12,.rows m13,.int m14,.int m15,.bool m16,.rows (AL m17),.int m18,.int m19,.int m20,.int m21,.int m22,.rows (fmo out2 (fun o=>yF yb fun y=>fm (fun n=>B9 (⟨⟨m0,m1,m2,m3,m4,m5,m6,m7,m8,m9,m10,m11,m12,m13⟩,m14,m15,m16,m17,m18,m19,m20,m21,m22⟩:Mat) k s p o y n) rl rn) ol q)]) [.int (on:Int),.str m0,.int m1,.int m2,.int m3,.int m4,.int m5,.int m6,.int m7,.bool m8,.int m9,.int m10,.int m11,.int m12,.rows m13,.int m14,.int m15,.bool m16,.rows (AL m17),.int m18,.int m19,.int m20,.int m21,.int m22,.rows (fmo out2 (fun o=>yF yb fun y=>fm (fun n=>B9 (⟨⟨m0,m1,m2,m3,m4,m5,m6,m7,m8,m9,m10,m11,m12,m13⟩,m14,m15,m16,m17,m18,m19,m20,m21,m22⟩:Mat) k s p o y n) rl rn) ol on)] ?_ ?_ N (by omega)) ?_
          · intro self
            simp only [PXb,PXc,PXn,AF,DV,Ba]
          · intro q self hq
            have b3:=PW (out:=out2) (lo:=ol) (n:=q) (l3 s p) (k:=11) (by omega)
            rw [NW]
            generalize fmo out2 (fun o=>yF yb fun y=>fm (fun n=>B9 (⟨⟨m0,m1,m2,m3,m4,m5,m6,m7,m8,m9,m10,m11,m12,m13⟩,m14,m15,m16,m17,m18,m19,m20,m21,m22⟩:Mat) k s p o y n) rl rn) ol q=out3 at *
            rw [← dc]
            simp only [PXb,PXc,PXn,AF,DV,A9 hq,Ak hq,Int.toNat_natCast,RZ hq]
            generalize ol+(q:Int)=o at *
            refine Aa (C2 (len:=2) (fun u=>[.int (u:Int),.str m0,.int m1,.int m2,.int m3,.int m4,.int m5,.int m6,.int m7,.bool m8,.int m9,.int m10,.int m11,.int m12,.rows m13,.int m14,.int m15,.bool m16,.rows (AL m17),.int m18,.int m19,.int m20,.int m21,.int m22,.rows (yfo yb (fun y=>fm (fun n=>B9 (⟨⟨m0,m1,m2,m3,m4,m5,m6,m7,m8,m9,m10,m11,m12,m13⟩,m14,m15,m16,m17,m18,m19,m20,m21,m22⟩:Mat) k s p o y n) rl rn) out3 u)]) [.int 2,.str m0,.int m1,.int m2,.int m3,.int m4,.int m5,.int m6,.int m7,.bool m8,.int m9,.int m10,.int m11,.int m12,.rows m13,.int m14,.int m15,.bool m16,.rows (AL m17),.int m18,.int m19,.int m20,.int m21,.int m22,.rows (yfo yb (fun y=>fm (fun n=>B9 (⟨⟨m0,m1,m2,m3,m4,m5,m6,m7,m8,m9,m10,m11,m12,m13⟩,m14,m15,m16,m17,m18,m19,m20,m21,m22⟩:Mat) k s p o y n) rl rn) out3 2)] ?_ ?_ N (by omega)) ?_
            · intro self
              rfl
            · intro u self hu
              have INNER : ∀ (y : Bool) (out4 : Rows), out4.length ≤ 1000000 → ∀ (F : (List AW → Option (List PV)) → List PV → Option (List PV)), (∀ out self, F self [.int (rn : Int), .str m0, .int m1, .int m2, .int m3, .int m4, .int m5, .int m6, .int m7, .bool m8, .int m9, .int m10, .int m11, .int m12, .rows m13, .int m14, .int m15, .bool m16, .rows (AL m17), .int m18, .int m19, .int m20, .int m21, .int m22, .rows out] = some [.int (rn : Int), .str m0, .int m1, .int m2, .int m3, .int m4, .int m5, .int m6, .int m7, .bool m8, .int m9, .int m10, .int m11, .int m12, .rows m13, .int m14, .int m15, .bool m16, .rows (AL m17), .int m18, .int m19, .int m20, .int m21, .int m22, .rows out]) →
                  (∀ (v:Nat) out self,v<rn→out.length≤1000099→F self [.int (v:Int),.str m0,.int m1,.int m2,.int m3,.int m4,.int m5,.int m6,.int m7,.bool m8,.int m9,.int m10,.int m11,.int m12,.rows m13,.int m14,.int m15,.bool m16,.rows (AL m17),.int m18,.int m19,.int m20,.int m21,.int m22,.rows out]=self [.int ((v+1:Nat):Int),.str m0,.int m1,.int m2,.int m3,.int m4,.int m5,.int m6,.int m7,.bool m8,.int m9,.int m10,.int m11,.int m12,.rows m13,.int m14,.int m15,.bool m16,.rows (AL m17),.int m18,.int m19,.int m20,.int m21,.int m22,.rows (out++B9 (⟨⟨m0,m1,m2,m3,m4,m5,m6,m7,m8,m9,m10,m11,m12,m13⟩,m14,m15,m16,m17,m18,m19,m20,m21,m22⟩:Mat) k s p o y (rl+(v:Int)))]) →
                  Gc F N [.int 0,.str m0,.int m1,.int m2,.int m3,.int m4,.int m5,.int m6,.int m7,.bool m8,.int m9,.int m10,.int m11,.int m12,.rows m13,.int m14,.int m15,.bool m16,.rows (AL m17),.int m18,.int m19,.int m20,.int m21,.int m22,.rows out4]=some [.int (rn:Int),.str m0,.int m1,.int m2,.int m3,.int m4,.int m5,.int m6,.int m7,.bool m8,.int m9,.int m10,.int m11,.int m12,.rows m13,.int m14,.int m15,.bool m16,.rows (AL m17),.int m18,.int m19,.int m20,.int m21,.int m22,.rows (out4++fm (fun n=>B9 (⟨⟨m0,m1,m2,m3,m4,m5,m6,m7,m8,m9,m10,m11,m12,m13⟩,m14,m15,m16,m17,m18,m19,m20,m21,m22⟩:Mat) k s p o y n) rl rn)]:=fun y out4 ho F h0 h1=>by
                have:=C2 (F:=F) (len:=rn) (fun v=>[.int (v:Int),.str m0,.int m1,.int m2,.int m3,.int m4,.int m5,.int m6,.int m7,.bool m8,.int m9,.int m10,.int m11,.int m12,.rows m13,.int m14,.int m15,.bool m16,.rows (AL m17),.int m18,.int m19,.int m20,.int m21,.int m22,.rows (fmo out4 (fun n=>B9 (⟨⟨m0,m1,m2,m3,m4,m5,m6,m7,m8,m9,m10,m11,m12,m13⟩,m14,m15,m16,m17,m18,m19,m20,m21,m22⟩:Mat) k s p o y n) rl v)]) [.int (rn:Int),.str m0,.int m1,.int m2,.int m3,.int m4,.int m5,.int m6,.int m7,.bool m8,.int m9,.int m10,.int m11,.int m12,.rows m13,.int m14,.int m15,.bool m16,.rows (AL m17),.int m18,.int m19,.int m20,.int m21,.int m22,.rows (fmo out4 (fun n=>B9 (⟨⟨m0,m1,m2,m3,m4,m5,m6,m7,m8,m9,m10,m11,m12,m13⟩,m14,m15,m16,m17,m18,m19,m20,m21,m22⟩:Mat) k s p o y n) rl rn)] (fun self=>h0 _ self) (fun v self hv=>h1 v _ self hv (by
                  have:=PW (out:=out4) (f:=fun n=>B9 (⟨⟨m0,m1,m2,m3,m4,m5,m6,m7,m8,m9,m10,m11,m12,m13⟩,m14,m15,m16,m17,m18,m19,m20,m21,m22⟩:Mat) k s p o y n) (lo:=rl) (n:=v) (l1 s p o y) (k:=99) (by omega)
                  omega)) N (by omega)
                rw [Pg out4 (fun n=>B9 (⟨⟨m0,m1,m2,m3,m4,m5,m6,m7,m8,m9,m10,m11,m12,m13⟩,m14,m15,m16,m17,m18,m19,m20,m21,m22⟩:Mat) k s p o y n) rl rn] at this
                exact this
              have STEP:∀ (y:Bool) (n:Int) (out:Rows),out.length≤1000099→(cond ((Gp (⟨⟨m0,m1,m2,m3,m4,m5,m6,m7,m8,m9,m10,m11,m12,m13⟩,m14,m15,m16,m17,m18,m19,m20,m21,m22⟩:Mat) (evK k s p o y n)).2==0) (cond (iSm ((out++[[PV.int k,.int s,.int p,.int o,.bool y,.int n,.int 0,.int 0,.int 0,.int 0,.int 0,.int 0,.bool false,.int 0,.int 0,.int 0,.int 0,.bool false,.int 0]]).length:Int) 136) (some [PV.rows (out++[[PV.int k,.int s,.int p,.int o,.bool y,.int n,.int 0,.int 0,.int 0,.int 0,.int 0,.int 0,.bool false,.int 0,.int 0,.int 0,.int 0,.bool false,.int 0]])]) none) (some [PV.rows out]))=some [PV.rows (out++B9 (⟨⟨m0,m1,m2,m3,m4,m5,m6,m7,m8,m9,m10,m11,m12,m13⟩,m14,m15,m16,m17,m18,m19,m20,m21,m22⟩:Mat) k s p o y n)]:=fun y n out ho=>by
                have sm:iSm ((out.length+1:Nat):Int) 136=true:=Ha (by omega) (by omega)
                rw [ONE]
                cases (Gp (⟨⟨m0,m1,m2,m3,m4,m5,m6,m7,m8,m9,m10,m11,m12,m13⟩,m14,m15,m16,m17,m18,m19,m20,m21,m22⟩:Mat) (evK k s p o y n)).2==0 with
                | false=>rw [cond_false,cond_false,List.append_nil]
                | true=>rw [cond_true,cond_true,List.length_append,List.length_cons,List.length_nil,Nat.zero_add,sm,cond_true]
              rcases lt2 hu with e | e
              · subst e
                simp only [PXb,PXc,PXn,AF]
                refine Aa (INNER false out3 (by omega) _ ?_ ?_) ?_
                · intro out self
                  simp only [PXb,PXc,PXn,AF,DV,Ba]
                · intro v out self hv ho
                  simp only [PXb,PXc,PXn,AF,DV,A9 hv,Ak hv,Int.toNat_natCast,RZ hv,WHY,Po (show v≤1099511627776 by omega)]
                  refine bind_ok (STEP false (rl+(v:Int)) out ho) rfl
                · rfl
              · subst e
                cases hy:yb with
                | false =>
                  subst hy
                  have y21:yfo false (fun y=>fm (fun n=>B9 (⟨⟨m0,m1,m2,m3,m4,m5,m6,m7,m8,m9,m10,m11,m12,m13⟩,m14,m15,m16,m17,m18,m19,m20,m21,m22⟩:Mat) k s p o y n) rl rn) out3 (1+1)=yfo false (fun y=>fm (fun n=>B9 (⟨⟨m0,m1,m2,m3,m4,m5,m6,m7,m8,m9,m10,m11,m12,m13⟩,m14,m15,m16,m17,m18,m19,m20,m21,m22⟩:Mat) k s p o y n) rl rn) out3 1:=List.append_nil _
                  rw [y21]
                  rfl
                | true =>
                  subst hy
                  simp only [PXb,PXc,PXn,AF]
                  refine Aa (INNER true _ ?_ _ ?_ ?_) ?_
                  · show (out3++fm (fun n=>B9 (⟨⟨m0,m1,m2,m3,m4,m5,m6,m7,m8,m9,m10,m11,m12,m13⟩,m14,m15,m16,m17,m18,m19,m20,m21,m22⟩:Mat) k s p o false n) rl rn).length≤1000000
                    have:=l2 s p o false
                    rw [List.length_append]
                    omega
                  · intro out self
                    simp only [PXb,PXc,PXn,AF,DV,Ba]
                  · intro v out self hv ho
                    simp only [PXb,PXc,PXn,AF,DV,A9 hv,Ak hv,Int.toNat_natCast,RZ hv,WHY,Po (show v≤1099511627776 by omega)]
                    refine bind_ok (STEP true (rl+(v:Int)) out ho) rfl
                  · rfl
            · simp only [PXb,PXc,PXn,AF,Po (show q≤1099511627776 by omega)]
          · simp only [PXb,PXc,PXn,AF,Po (show j≤1099511627776 by omega)]
        · simp only [PXb,PXc,PXn,AF,Po (show i≤1099511627776 by omega)]
      · rw [ZA]
        rfl
end Go.Px
end
section
namespace Go.Px
set_option maxRecDepth 100000
theorem eW {i:Int} (h0:0≤i) (h:i≤254):IntKind.u8.wrap (i+1)=i+1:=by
 show (i+1) % 256=i+1
 omega
theorem bv (m:Mat) (k:Int):(RU m k).length≤2 * (11 * (11 * (2 * (99 * 1)))):=by
 unfold RU bP
 exact Kp (fun s=>Kp (fun p=>Kp (fun o=>ay fun y=>Kp (fun n=>ZH m k s p o y n) (by cases k==7<;>cases k==13<;>decide)) (by cases uO k<;>decide)) (by cases uP k<;>decide)) (by cases uS k<;>decide)
def LQ (m:Mat) (k:Int):Rows:=cond (okK k&&Ek m) (RU m k) []
def Sa (m:Mat):Rows:=fm (LQ m) 1 16
theorem Wf (m:Mat) (k:Int):(LQ m k).length≤47916:=by
 unfold LQ
 cases okK k&&Ek m
 ·exact Nat.zero_le _
 ·exact bv m k
set_option maxHeartbeats 4000000 in
theorem Rg {N:Nat} {m1 m2 m3 m4 m5 m6 m7 m9 m10 m11 m12 m14 m15 m18 m19 m20 m21 m22:Int} {m8 m16:Bool} {m0:ByteArray} {m13:Rows} {m17:List Inn} (hN:2097152<N) (hf:HP m17) (hl:m17.length≤1000000) (hs:m0.size≤1048576) (h13:m13.length≤1048576):CD N [.str m0,.int m1,.int m2,.int m3,.int m4,.int m5,.int m6,.int m7,.bool m8,.int m9,.int m10,.int m11,.int m12,.rows m13,.int m14,.int m15,.bool m16,.rows (AL m17),.int m18,.int m19,.int m20,.int m21,.int m22]=some [.rows (Sa (⟨⟨m0,m1,m2,m3,m4,m5,m6,m7,m8,m9,m10,m11,m12,m13⟩,m14,m15,m16,m17,m18,m19,m20,m21,m22⟩:Mat))]:=by
 show Ju (std (K9 N) N) (xOf _)=_
 simp only [Ju,I9,std,xOf,PXb]
 have OF:∀ k:Int,F2 N [.str m0,.int m1,.int m2,.int m3,.int m4,.int m5,.int m6,.int m7,.bool m8,.int m9,.int m10,.int m11,.int m12,.rows m13,.int m14,.int m15,.bool m16,.rows (AL m17),.int m18,.int m19,.int m20,.int m21,.int m22,.int k]=some [.rows (LQ (⟨⟨m0,m1,m2,m3,m4,m5,m6,m7,m8,m9,m10,m11,m12,m13⟩,m14,m15,m16,m17,m18,m19,m20,m21,m22⟩:Mat) k)]:=fun k=>Zp hN hf hl hs h13
 have b0:∀ i:Nat,i≤16→(fmo [] (LQ (⟨⟨m0,m1,m2,m3,m4,m5,m6,m7,m8,m9,m10,m11,m12,m13⟩,m14,m15,m16,m17,m18,m19,m20,m21,m22⟩:Mat)) 1 i).length≤([]:Rows).length+16 * 47916:=fun i hi=>PW (Wf (⟨⟨m0,m1,m2,m3,m4,m5,m6,m7,m8,m9,m10,m11,m12,m13⟩,m14,m15,m16,m17,m18,m19,m20,m21,m22⟩:Mat)) hi
 have e:=ZA (LQ (⟨⟨m0,m1,m2,m3,m4,m5,m6,m7,m8,m9,m10,m11,m12,m13⟩,m14,m15,m16,m17,m18,m19,m20,m21,m22⟩:Mat)) 1 16
 unfold Sa
 rw [← e]
 refine Aa (C2 (len:=16) (fun i=>[.rows (fmo [] (LQ (⟨⟨m0,m1,m2,m3,m4,m5,m6,m7,m8,m9,m10,m11,m12,m13⟩,m14,m15,m16,m17,m18,m19,m20,m21,m22⟩:Mat)) 1 i),.int (1+(i:Int))]) [.rows (fmo [] (LQ (⟨⟨m0,m1,m2,m3,m4,m5,m6,m7,m8,m9,m10,m11,m12,m13⟩,m14,m15,m16,m17,m18,m19,m20,m21,m22⟩:Mat)) 1 16)] ?_ ?_ N (by omega)) ?_
 ·intro self
  rfl
 ·intro i self hi
  have l:iLe (1+(i:Int)) 16=true:=by simp only [iLe,decide_eq_true_eq];omega
  have w:IntKind.u8.wrap (1+(i:Int)+1)=1+((i+1:Nat):Int):=by rw [eW (by omega) (by omega)];omega
  have b1:=b0 i (by omega)
  have b2:=Wf (⟨⟨m0,m1,m2,m3,m4,m5,m6,m7,m8,m9,m10,m11,m12,m13⟩,m14,m15,m16,m17,m18,m19,m20,m21,m22⟩:Mat) (1+(i:Int))
  rw [NW]
  generalize fmo [] (LQ (⟨⟨m0,m1,m2,m3,m4,m5,m6,m7,m8,m9,m10,m11,m12,m13⟩,m14,m15,m16,m17,m18,m19,m20,m21,m22⟩:Mat)) 1 i=out at *
  have sm:iSm ((out.length+(LQ (⟨⟨m0,m1,m2,m3,m4,m5,m6,m7,m8,m9,m10,m11,m12,m13⟩,m14,m15,m16,m17,m18,m19,m20,m21,m22⟩:Mat) (1+(i:Int))).length:Nat):Int) 136=true:=Ha (by simp only [List.length_nil] at b1;omega) (by omega)
  simp only [PXb,PXc,PXn,AF,l,w,I9,OF,List.length_append,sm]
 ·rfl
end Go.Px
end
