/- Part 11. -/
import Derived.Test.YteolngdncakekaaGreatPart07
import Derived.Test.YteolngdncakekaaGreatPart10
set_option linter.unusedVariables false
set_option linter.unusedSimpArgs false
section
namespace Go.Px
def AL (xs:List Inn):Rows:=xs.map Inn.ls
def dI:Inn:=⟨0,0,0,0,0,0,0,0,0,0,0,0,0,0,[],0,[],[],false,[],false,0,0,0,[],0,0,0⟩
def inn (xs:List Inn) (i:Nat):Inn:=xs.getD i dI
structure Mat where
 rules:Rul
 stage:Int
 first:Int
 follow:Bool
 inns:List Inn
 pen1:Int
 pen2:Int
 win:Int
 wside:Int
 margin:Int
def Mat.ls (m:Mat):List PV:=[.str m.rules.name,.int m.rules.side,.int m.rules.innings,.int m.rules.overs,.int m.rules.balls,.int m.rules.quota,.int m.rules.wide,.int m.rules.noball,.bool m.rules.freehit,.int m.rules.newball,.int m.rules.followon,.int m.rules.reviews,.int m.rules.outside,.rows m.rules.power,.int m.stage,.int m.first,.bool m.follow,.rows (AL m.inns),.int m.pen1,.int m.pen2,.int m.win,.int m.wside,.int m.margin]
def PH (x:Mat×Int):List PV:=[.str x.1.rules.name,.int x.1.rules.side,.int x.1.rules.innings,.int x.1.rules.overs,.int x.1.rules.balls,.int x.1.rules.quota,.int x.1.rules.wide,.int x.1.rules.noball,.bool x.1.rules.freehit,.int x.1.rules.newball,.int x.1.rules.followon,.int x.1.rules.reviews,.int x.1.rules.outside,.rows x.1.rules.power,.int x.1.stage,.int x.1.first,.bool x.1.follow,.rows (AL x.1.inns),.int x.1.pen1,.int x.1.pen2,.int x.1.win,.int x.1.wside,.int x.1.margin,.int x.2]
theorem W0 (xs:List Inn) (i:Nat):Am (AL xs) i=(match xs[i]? with | some s=>s.ls | none=>[]):=by
 unfold Am AL
 rw [List.getD_eq_getElem?_getD,List.getElem?_map]
 cases xs[i]?<;>rfl
theorem IW (xs:List Inn) (i:Nat):inn xs i=(match xs[i]? with | some s=>s | none=>dI):=by
 unfold inn
 rw [List.getD_eq_getElem?_getD]
 cases xs[i]?<;>rfl
theorem U1 (xs:List Inn):(AL xs).length=xs.length:=List.length_map _
theorem PXi : (∀ xs : List Inn, (AL xs).length = xs.length) ∧ (∀ (xs : List Inn) (i : Nat), pvI (AA (AL xs) i 0) = (inn xs i).side) ∧ (∀ (xs : List Inn) (i : Nat), pvI (AA (AL xs) i 1) = (inn xs i).target) ∧ (∀ (xs : List Inn) (i : Nat), pvI (AA (AL xs) i 2) = (inn xs i).overs) ∧ (∀ (xs : List Inn) (i : Nat), pvI (AA (AL xs) i 3) = (inn xs i).runs) ∧
    (∀ (xs:List Inn) (i:Nat),pvI (AA (AL xs) i 4)=(inn xs i).wickets)∧(∀ (xs:List Inn) (i:Nat),pvI (AA (AL xs) i 5)=(inn xs i).wides)∧(∀ (xs:List Inn) (i:Nat),pvI (AA (AL xs) i 6)=(inn xs i).noballs)∧(∀ (xs:List Inn) (i:Nat),pvI (AA (AL xs) i 7)=(inn xs i).byes)∧(∀ (xs:List Inn) (i:Nat),pvI (AA (AL xs) i 8)=(inn xs i).legbyes) ∧
    (∀ (xs:List Inn) (i:Nat),pvI (AA (AL xs) i 9)=(inn xs i).pens)∧(∀ (xs:List Inn) (i:Nat),pvI (AA (AL xs) i 10)=(inn xs i).complete)∧(∀ (xs:List Inn) (i:Nat),pvI (AA (AL xs) i 11)=(inn xs i).inover)∧(∀ (xs:List Inn) (i:Nat),pvI (AA (AL xs) i 12)=(inn xs i).striker)∧(∀ (xs:List Inn) (i:Nat),pvI (AA (AL xs) i 13)=(inn xs i).other) ∧
    (∀ (xs:List Inn) (i:Nat),pvL (AA (AL xs) i 14)=(inn xs i).batters)∧(∀ (xs:List Inn) (i:Nat),pvI (AA (AL xs) i 15)=(inn xs i).bowler)∧(∀ (xs:List Inn) (i:Nat),pvL (AA (AL xs) i 16)=(inn xs i).bowlers)∧(∀ (xs:List Inn) (i:Nat),pvL (AA (AL xs) i 17)=(inn xs i).before)∧(∀ (xs:List Inn) (i:Nat),pvB (AA (AL xs) i 18)=(inn xs i).fresh) ∧
    (∀ (xs:List Inn) (i:Nat),pvL (AA (AL xs) i 19)=(inn xs i).bowled)∧(∀ (xs:List Inn) (i:Nat),pvB (AA (AL xs) i 20)=(inn xs i).freehit)∧(∀ (xs:List Inn) (i:Nat),pvI (AA (AL xs) i 21)=(inn xs i).ballage)∧(∀ (xs:List Inn) (i:Nat),pvI (AA (AL xs) i 22)=(inn xs i).keeper)∧(∀ (xs:List Inn) (i:Nat),pvI (AA (AL xs) i 23)=(inn xs i).outside) ∧
    (∀ (xs:List Inn) (i:Nat),pvL (AA (AL xs) i 24)=(inn xs i).subs)∧(∀ (xs:List Inn) (i:Nat),pvI (AA (AL xs) i 25)=(inn xs i).rev1)∧(∀ (xs:List Inn) (i:Nat),pvI (AA (AL xs) i 26)=(inn xs i).rev2)∧(∀ (xs:List Inn) (i:Nat),pvI (AA (AL xs) i 27)=(inn xs i).ending):=by
  refine ⟨U1,?_,?_,?_,?_,?_,?_,?_,?_,?_,?_,?_,?_,?_,?_,?_,?_,?_,?_,?_,?_,?_,?_,?_,?_,?_,?_,?_,?_⟩
  all_goals (intro xs i;rw [IW];unfold AA;rw [W0];cases xs[i]?<;>rfl)
theorem Mat.eta (m:Mat):Mat.mk m.rules m.stage m.first m.follow m.inns m.pen1 m.pen2 m.win m.wside m.margin=m:=rfl
theorem PXk : (∀ m : Mat, m.ls = [.str m.rules.name, .int m.rules.side, .int m.rules.innings, .int m.rules.overs, .int m.rules.balls, .int m.rules.quota, .int m.rules.wide, .int m.rules.noball, .bool m.rules.freehit, .int m.rules.newball, .int m.rules.followon, .int m.rules.reviews, .int m.rules.outside, .rows m.rules.power, .int m.stage, .int m.first, .bool m.follow, .rows (AL m.inns), .int m.pen1, .int m.pen2, .int m.win, .int m.wside, .int m.margin]) ∧
    (∀ x:Mat×Int,PH x=[.str x.1.rules.name,.int x.1.rules.side,.int x.1.rules.innings,.int x.1.rules.overs,.int x.1.rules.balls,.int x.1.rules.quota,.int x.1.rules.wide,.int x.1.rules.noball,.bool x.1.rules.freehit,.int x.1.rules.newball,.int x.1.rules.followon,.int x.1.rules.reviews,.int x.1.rules.outside,.rows x.1.rules.power,.int x.1.stage,.int x.1.first,.bool x.1.follow,.rows (AL x.1.inns),.int x.1.pen1,.int x.1.pen2,.int x.1.win,.int x.1.wside,.int x.1.margin,.int x.2]) ∧
    (∀ m:Mat,Mat.mk m.rules m.stage m.first m.follow m.inns m.pen1 m.pen2 m.win m.wside m.margin=m):=⟨fun _=>rfl,fun _=>rfl,fun _=>rfl⟩
theorem Z3:∀ (ps r pre:List PV),r.length=ps.length→B1 (pre++r) pre.length ps=pre++ps
 | [],r,pre,h=>by
  have:r=[]:=List.eq_nil_of_length_eq_zero h
  subst this
  rfl
 | p::ps,[],pre,h=>by cases h
 | p::ps,a::r,pre,h=>by
  have ih:=Z3 ps r (pre++[p]) (by simpa using h)
  simp only [List.length_append,List.length_cons,List.length_nil,List.append_assoc,List.cons_append,List.nil_append] at ih
  unfold B1
  rw [List.set_append_right _ _ (Nat.le_refl _),Nat.sub_self]
  exact ih
theorem gU (a s:Inn):B1 a.ls 0 s.ls=s.ls:=Z3 s.ls a.ls [] rfl
theorem fC (a:Inn) (e:Int):B1 a.ls 27 [.int e]=Inn.ls { a with ending:=e }:=by
 show a.ls.set 27 (.int e)=_
 rfl
theorem eR {xs:List Inn} {i:Nat} (h:i<xs.length) (s:Inn):(AL xs).set i (B1 (Am (AL xs) i) 0 s.ls)=AL (xs.set i s):=by
 have e:Am (AL xs) i=(xs[i]).ls:=by rw [W0,List.getElem?_eq_getElem h]
 rw [e,gU]
 exact List.map_set.symm
theorem fL {xs:List Inn} {i:Nat} (h:i<xs.length) (e:Int):(AL xs).set i (B1 (Am (AL xs) i) 27 [.int e])=AL (xs.set i { inn xs i with ending:=e }):=by
 have e1:Am (AL xs) i=(inn xs i).ls:=by rw [W0,IW,List.getElem?_eq_getElem h]
 rw [e1,fC]
 exact List.map_set.symm
theorem ed (xs:List Inn) (s:Inn):AL xs++[s.ls]=AL (xs++[s]):=by
 show List.map Inn.ls xs++List.map Inn.ls [s]=List.map Inn.ls (xs++[s])
 exact List.map_append.symm
theorem ez (xs:List Inn) (i:Nat) (s:Inn):(AL xs).set i (B1 (Am (AL xs) i) 0 s.ls)=AL (xs.set i s):=by
 by_cases h:i<xs.length
 ·exact eR h s
 ·rw [List.set_eq_of_length_le (by rw [U1];omega),List.set_eq_of_length_le (by omega)]
theorem Zj (xs:List Inn) (i:Nat) (e:Int):(AL xs).set i (B1 (Am (AL xs) i) 27 [.int e])=AL (xs.set i { inn xs i with ending:=e }):=by
 by_cases h:i<xs.length
 ·exact fL h e
 ·rw [List.set_eq_of_length_le (by rw [U1];omega),List.set_eq_of_length_le (by omega)]
theorem PXr : (∀ (xs : List Inn) (x0 x1 x2 x3 x4 x5 x6 x7 x8 x9 x10 x11 x12 x13 x15 x21 x22 x23 x25 x26 x27 : Int) (x18 x20 : Bool) (x14 x16 x17 x19 x24 : Rows), AL xs ++ [([.int x0, .int x1, .int x2, .int x3, .int x4, .int x5, .int x6, .int x7, .int x8, .int x9, .int x10, .int x11, .int x12, .int x13, .rows x14, .int x15, .rows x16, .rows x17, .bool x18, .rows x19, .bool x20, .int x21, .int x22, .int x23, .rows x24, .int x25, .int x26, .int x27] : List PV)] = AL (xs ++ [⟨x0, x1, x2, x3, x4, x5, x6, x7, x8, x9, x10, x11, x12, x13, x14, x15, x16, x17, x18, x19, x20, x21, x22, x23, x24, x25, x26, x27⟩])) ∧ (∀ (xs : List Inn) (i : Nat) (x0 x1 x2 x3 x4 x5 x6 x7 x8 x9 x10 x11 x12 x13 x15 x21 x22 x23 x25 x26 x27 : Int) (x18 x20 : Bool) (x14 x16 x17 x19 x24 : Rows), (AL xs).set i (B1 (Am (AL xs) i) 0 [.int x0, .int x1, .int x2, .int x3, .int x4, .int x5, .int x6, .int x7, .int x8, .int x9, .int x10, .int x11, .int x12, .int x13, .rows x14, .int x15, .rows x16, .rows x17, .bool x18, .rows x19, .bool x20, .int x21, .int x22, .int x23, .rows x24, .int x25, .int x26, .int x27]) = AL (xs.set i ⟨x0, x1, x2, x3, x4, x5, x6, x7, x8, x9, x10, x11, x12, x13, x14, x15, x16, x17, x18, x19, x20, x21, x22, x23, x24, x25, x26, x27⟩)) ∧
    (∀ (xs:List Inn) (i:Nat) (e:Int),(AL xs).set i (B1 (Am (AL xs) i) 27 [.int e])=AL (xs.set i { inn xs i with ending:=e })) :=
  ⟨fun xs x0 x1 x2 x3 x4 x5 x6 x7 x8 x9 x10 x11 x12 x13 x15 x21 x22 x23 x25 x26 x27 x18 x20 x14 x16 x17 x19 x24=>ed xs ⟨x0,x1,x2,x3,x4,x5,x6,x7,x8,x9,x10,x11,x12,x13,x14,x15,x16,x17,x18,x19,x20,x21,x22,x23,x24,x25,x26,x27⟩,fun xs i x0 x1 x2 x3 x4 x5 x6 x7 x8 x9 x10 x11 x12 x13 x15 x21 x22 x23 x25 x26 x27 x18 x20 x14 x16 x17 x19 x24=>ez xs i ⟨x0,x1,x2,x3,x4,x5,x6,x7,x8,x9,x10,x11,x12,x13,x14,x15,x16,x17,x18,x19,x20,x21,x22,x23,x24,x25,x26,x27⟩,Zj⟩
end Go.Px
end
section
namespace Go.Px
set_option maxRecDepth 100000
def Dx (n:Int):Int:=IntKind.i64.wrap (3 - n)
theorem GK {N:Nat} {n:Int}  : A1 N [.int n]=some [.int (Dx n)]:=by
 show I3 (std (O8 N) N) (xOf _)=_
 simp only [I3,std,xOf,PXb,PXc,PXn,PXm,Nat.reduceAdd,Int.reduceBEq,Dx]
def GQ (m:Mat) (i:Int):Int:=cond (cond (m.follow&&iLe 2 i) (i==2) (i.tmod 2==1)) (Dx m.first) m.first
theorem MY {N:Nat} {m1 m2 m3 m4 m5 m6 m7 m9 m10 m11 m12 m14 m15 m18 m19 m20 m21 m22:Int} {m8 m16:Bool} {m0:ByteArray} {m13:Rows} {m17:List Inn} {i:Int}  : CV N [.str m0,.int m1,.int m2,.int m3,.int m4,.int m5,.int m6,.int m7,.bool m8,.int m9,.int m10,.int m11,.int m12,.rows m13,.int m14,.int m15,.bool m16,.rows (AL m17),.int m18,.int m19,.int m20,.int m21,.int m22,.int i]=some [.int (GQ (⟨⟨m0,m1,m2,m3,m4,m5,m6,m7,m8,m9,m10,m11,m12,m13⟩,m14,m15,m16,m17,m18,m19,m20,m21,m22⟩:Mat) i)]:=by
 show I0 (std (KV N) N) (xOf _)=_
 generalize hres:(some [.int (GQ (⟨⟨m0,m1,m2,m3,m4,m5,m6,m7,m8,m9,m10,m11,m12,m13⟩,m14,m15,m16,m17,m18,m19,m20,m21,m22⟩:Mat) i)]:Option (List PV))=RR
 simp only [I0,M3,std,xOf,PXb,PXc,PXn,PXm,Nat.reduceAdd,Int.reduceBEq,GK]
 subst hres;simp only [GQ]
def MN (xs:List Inn) (side:Int):Nat→Int
 | 0=>0
 | i+1=>cond ((inn xs i).side==side) (IntKind.i64.wrap (MN xs side i+(inn xs i).runs)) (MN xs side i)
def DQ (m:Mat) (side:Int):Int:=MN m.inns side m.inns.length
theorem MR {N:Nat} {m1 m2 m3 m4 m5 m6 m7 m9 m10 m11 m12 m14 m15 m18 m19 m20 m21 m22:Int} {m8 m16:Bool} {m0:ByteArray} {m13:Rows} {m17:List Inn} {n:Int} (hN:2097152<N) (hl:m17.length≤1048576):BV N [.str m0,.int m1,.int m2,.int m3,.int m4,.int m5,.int m6,.int m7,.bool m8,.int m9,.int m10,.int m11,.int m12,.rows m13,.int m14,.int m15,.bool m16,.rows (AL m17),.int m18,.int m19,.int m20,.int m21,.int m22,.int n]=some [.int (DQ (⟨⟨m0,m1,m2,m3,m4,m5,m6,m7,m8,m9,m10,m11,m12,m13⟩,m14,m15,m16,m17,m18,m19,m20,m21,m22⟩:Mat) n)]:=by
 show Iu (std (O1 N) N) (xOf _)=_
 generalize hres:(some [.int (DQ (⟨⟨m0,m1,m2,m3,m4,m5,m6,m7,m8,m9,m10,m11,m12,m13⟩,m14,m15,m16,m17,m18,m19,m20,m21,m22⟩:Mat) n)]:Option (List PV))=RR
 simp only [Iu,std,xOf,PXb,PXi]
 subst hres;simp only [DQ]
 refine AZ (CO (len:=m17.length) (fun i=>[.int (MN m17 n i),.int (i:Int)]) [.int (MN m17 n m17.length)] ?_ ?_ N (by omega)) rfl
 ·intro self
  simp only [PXb,PXc,PXn,AG,BT]
 ·intro i self hi
  simp only [PXb,PXc,AG,Av (show i≤1099511627776 by omega),A9 hi,Ak hi,PXi,MN]
  cases (inn m17 i).side==n<;>rfl
def Hp (m:Mat) (side:Int):Int :=
 cond (iLt (IntKind.i64.wrap ((m.inns.length:Int)+1)) (IntKind.i64.wrap (2 * m.rules.innings))) 0 (IntKind.i64.wrap (IntKind.i64.wrap (DQ m (Dx side) - DQ m side)+1))
theorem Pm {N:Nat} {m1 m2 m3 m4 m5 m6 m7 m9 m10 m11 m12 m14 m15 m18 m19 m20 m21 m22:Int} {m8 m16:Bool} {m0:ByteArray} {m13:Rows} {m17:List Inn} {n:Int} (hN:2097152<N) (hl:m17.length≤1048576):FK N [.str m0,.int m1,.int m2,.int m3,.int m4,.int m5,.int m6,.int m7,.bool m8,.int m9,.int m10,.int m11,.int m12,.rows m13,.int m14,.int m15,.bool m16,.rows (AL m17),.int m18,.int m19,.int m20,.int m21,.int m22,.int n]=some [.int (Hp (⟨⟨m0,m1,m2,m3,m4,m5,m6,m7,m8,m9,m10,m11,m12,m13⟩,m14,m15,m16,m17,m18,m19,m20,m21,m22⟩:Mat) n)]:=by
 show Hs (std (GC N) N) (xOf _)=_
 generalize hres:(some [.int (Hp (⟨⟨m0,m1,m2,m3,m4,m5,m6,m7,m8,m9,m10,m11,m12,m13⟩,m14,m15,m16,m17,m18,m19,m20,m21,m22⟩:Mat) n)]:Option (List PV))=RR
 simp only [Hs,MQ,MZ,std,xOf,PXb,PXc,PXn,PXm,Nat.reduceAdd,Int.reduceBEq,PXi,GK,MR hN hl]
 subst hres;simp only [Hp]
def WA (stage:Int) (xs:List Inn) (i:Nat):Bool := !(((inn xs i).ending==0)==(stage==3&&((i:Int)==IntKind.i64.wrap ((xs.length:Int) - 1))))
def Sg (m:Mat):Bool := !BL (WA m.stage m.inns) m.inns.length 0&&(!(m.stage==3)||iLt 0 (m.inns.length:Int))
theorem Xk {N:Nat} {m1 m2 m3 m4 m5 m6 m7 m9 m10 m11 m12 m14 m15 m18 m19 m20 m21 m22:Int} {m8 m16:Bool} {m0:ByteArray} {m13:Rows} {m17:List Inn} (hN:2097152<N) (hl:m17.length≤1048576):GN N [.str m0,.int m1,.int m2,.int m3,.int m4,.int m5,.int m6,.int m7,.bool m8,.int m9,.int m10,.int m11,.int m12,.rows m13,.int m14,.int m15,.bool m16,.rows (AL m17),.int m18,.int m19,.int m20,.int m21,.int m22]=some [.bool (Sg (⟨⟨m0,m1,m2,m3,m4,m5,m6,m7,m8,m9,m10,m11,m12,m13⟩,m14,m15,m16,m17,m18,m19,m20,m21,m22⟩:Mat))]:=by
 show Ij (std (O6 N) N) (xOf _)=_
 generalize hres:(some [.bool (Sg (⟨⟨m0,m1,m2,m3,m4,m5,m6,m7,m8,m9,m10,m11,m12,m13⟩,m14,m15,m16,m17,m18,m19,m20,m21,m22⟩:Mat))]:Option (List PV))=RR
 simp only [Ij,std,xOf,PXb,PXi]
 subst hres;simp only [Sg]
 refine AZ (I9 (len:=m17.length) (WA m14 m17) [.bool false] ?_ ?_ N (by omega)) ?_
 ·intro self
  simp only [PXb,PXc,PXn,AG,BT]
 ·intro i self hi
  simp only [PXb,PXc,AG,Av (show i≤1099511627776 by omega),A9 hi,Ak hi,PXi,WA]
 ·cases BL (WA m14 m17) m17.length 0 with
  | true=>rfl
  | false=>simp only [PXb,PXc,PXn,PXm,Nat.reduceAdd,Int.reduceBEq]
end Go.Px
end
section
namespace Go.Px
set_option maxRecDepth 100000
def Gl (xs:List Inn):Prop:=∀ i,i<xs.length→(inn xs i).Fit
theorem RW {N:Nat} {r1 r2 r3 r4 r5 r6 r7 r9 r10 r11 r12:Int} {r8:Bool} {r0:ByteArray} {r13:Rows} (hl:r13.length≤1048576):CS N [.str r0,.int r1,.int r2,.int r3,.int r4,.int r5,.int r6,.int r7,.bool r8,.int r9,.int r10,.int r11,.int r12,.rows r13]=some [.str r0,.int r1,.int r2,.int r3,.int r4,.int r5,.int r6,.int r7,.bool r8,.int r9,.int r10,.int r11,.int r12,.rows r13]:=by
 show Iq (std (J0 N) N) (xOf _)=_
 simp only [Iq,JL,std,xOf,PXb,PXc,PXn,PXm,Nat.reduceAdd,Int.reduceBEq,CL,BE hl (show 24≤4096 by omega)]
theorem Xl {xs:List Inn} {i:Nat} (h:i<xs.length):xs.take i++[inn xs i]=xs.take (i+1):=by
 rw [List.take_add_one,IW,List.getElem?_eq_getElem h]
 rfl
theorem Xp {N:Nat} {m1 m2 m3 m4 m5 m6 m7 m9 m10 m11 m12 m14 m15 m18 m19 m20 m21 m22:Int} {m8 m16:Bool} {m0:ByteArray} {m13:Rows} {m17:List Inn} (hf:Gl m17) (hN:2097152<N) (hl:m17.length≤1000000) (h13:m13.length≤1048576):GX N [.str m0,.int m1,.int m2,.int m3,.int m4,.int m5,.int m6,.int m7,.bool m8,.int m9,.int m10,.int m11,.int m12,.rows m13,.int m14,.int m15,.bool m16,.rows (AL m17),.int m18,.int m19,.int m20,.int m21,.int m22]=some [.str m0,.int m1,.int m2,.int m3,.int m4,.int m5,.int m6,.int m7,.bool m8,.int m9,.int m10,.int m11,.int m12,.rows m13,.int m14,.int m15,.bool m16,.rows (AL m17),.int m18,.int m19,.int m20,.int m21,.int m22]:=by
 show Ii (std (Gv N) N) (xOf _)=_
 simp only [Ii,NR,Ft,std,xOf,PXb,RW h13,PXi]
 refine AZ (CO (len:=m17.length) (fun i=>[.rows (AL (m17.take i)),.int (i:Int)]) [.rows (AL m17)] ?_ ?_ N (by omega)) rfl
 ·intro self
  simp only [PXb,PXc,PXn,AG,BT,List.take_length]
 ·intro i self hi
  have h2:(m17.take (i+1)).length≤1048576:=by rw [List.length_take];omega
  have h3:iSm ((m17.take (i+1)).length:Int) 304=true:=G7 (by omega) (by omega)
  simp only [PXb,PXc,AG,Av (show i≤1099511627776 by omega),A9 hi,Ak hi,PXi,Ft,Bg (hf i hi),PXr,Inn.eta,h3,Xl hi,Nat.reduceAdd]
  rfl
def ge:Rul:=⟨⟨#[]⟩,0,0,0,0,0,0,0,false,0,0,0,0,[]⟩
def gt:Mat:=⟨ge,0,0,false,[],0,0,0,0,0⟩
def Yl (r:Rul):Mat×Int:=cond (!(CD r==0)) (gt,CD r) (⟨r,1,0,false,[],0,0,0,0,0⟩,0)
theorem Zb {N:Nat} {r1 r2 r3 r4 r5 r6 r7 r9 r10 r11 r12:Int} {r8:Bool} {r0:ByteArray} {r13:Rows} (hN:2097152<N) (hs:r0.size≤1048576) (h13:r13.length≤1048576):E4 N [.str r0,.int r1,.int r2,.int r3,.int r4,.int r5,.int r6,.int r7,.bool r8,.int r9,.int r10,.int r11,.int r12,.rows r13]=some (PH (Yl (⟨r0,r1,r2,r3,r4,r5,r6,r7,r8,r9,r10,r11,r12,r13⟩:Rul))):=by
 show Ld (std (I2 N) N) (xOf _)=_
 generalize hres:(some (PH (Yl (⟨r0,r1,r2,r3,r4,r5,r6,r7,r8,r9,r10,r11,r12,r13⟩:Rul))):Option (List PV))=RR
 simp only [Ld,OW,OP,std,xOf,PXb,PXc,PXn,PXm,Nat.reduceAdd,Int.reduceBEq,DB hN hs,RW h13]
 subst hres;simp only [Yl]
 cases CD (⟨r0,r1,r2,r3,r4,r5,r6,r7,r8,r9,r10,r11,r12,r13⟩:Rul)==0<;>rfl
def Y3 (m:Mat):Bool:=(iLt m.pen1 0||iLt 1000000 m.pen1)||(iLt m.pen2 0||iLt 1000000 m.pen2)
def S7 (m:Mat) (i:Nat):Bool := !GP m.rules (inn m.inns i) || !((inn m.inns i).side==GQ m (i:Int))
def aP (m:Mat):Bool :=
  let n:Int:=m.inns.length
  let most:=IntKind.i64.wrap (2 * m.rules.innings)
  CD m.rules==0&&(!(iLt m.stage 1)&&(!(iLt 5 m.stage)&&(!Y3 m&&(!(iLt m.first 0||iLt 2 m.first||iLt most n)&&(!(m.first==0&&(iLt 0 n||(!(m.stage==1) && !(m.stage==5)))) &&
    (!(m.stage==1 && !(m.first==0))&&(!(m.stage==2&&n==most)&&(!(m.stage==4&&(!(m.rules.innings==2) || !(n==2))) && !(m.follow&&(!(m.rules.innings==2)||iLt n 2))))))))))
def Bk (m:Mat):Bool:=aP m&&(!BL (S7 m) m.inns.length 0&&Sg m)
set_option maxHeartbeats 4000000 in
theorem Ip {N:Nat} {m1 m2 m3 m4 m5 m6 m7 m9 m10 m11 m12 m14 m15 m18 m19 m20 m21 m22:Int} {m8 m16:Bool} {m0:ByteArray} {m13:Rows} {m17:List Inn} (hf:Gl m17) (hN:2097152<N) (hl:m17.length≤1000000) (hs:m0.size≤1048576):BK N [.str m0,.int m1,.int m2,.int m3,.int m4,.int m5,.int m6,.int m7,.bool m8,.int m9,.int m10,.int m11,.int m12,.rows m13,.int m14,.int m15,.bool m16,.rows (AL m17),.int m18,.int m19,.int m20,.int m21,.int m22]=some [.bool (Bk (⟨⟨m0,m1,m2,m3,m4,m5,m6,m7,m8,m9,m10,m11,m12,m13⟩,m14,m15,m16,m17,m18,m19,m20,m21,m22⟩:Mat))]:=by
 show Ig (std (C8 N) N) (xOf _)=_
 generalize hres:(some [.bool (Bk (⟨⟨m0,m1,m2,m3,m4,m5,m6,m7,m8,m9,m10,m11,m12,m13⟩,m14,m15,m16,m17,m18,m19,m20,m21,m22⟩:Mat))]:Option (List PV))=RR
 simp only [Ig,NN,Fu,Gz,G2,std,xOf,PXb,DB hN hs,PXi]
 subst hres;simp only [Bk,aP]
 cases hc:CD (⟨⟨m0,m1,m2,m3,m4,m5,m6,m7,m8,m9,m10,m11,m12,m13⟩,m14,m15,m16,m17,m18,m19,m20,m21,m22⟩:Mat).rules==0<;>(try rfl)
 cases h1:iLt m14 1<;>(try rfl)
 cases h5:iLt 5 m14<;>(try rfl)
 simp only [PXb]
 refine AZ (I9 (len:=2) (fun i=>iLt (cond ((i:Int)==1) m19 m18) 0||iLt 1000000 (cond ((i:Int)==1) m19 m18)) [.bool false] ?_ ?_ N (by omega)) ?_
 ·intro self
  rfl
 ·intro i self hi
  simp only [PXb,Av (show i≤1099511627776 by omega),show iLt (i:Int) 2=true from A9 (len:=2) hi,show iIn (i:Int) 2=true from Ak (len:=2) hi]
 ·have hp:BL (fun i=>iLt (cond ((i:Int)==1) m19 m18) 0||iLt 1000000 (cond ((i:Int)==1) m19 m18)) 2 0=Y3 (⟨⟨m0,m1,m2,m3,m4,m5,m6,m7,m8,m9,m10,m11,m12,m13⟩,m14,m15,m16,m17,m18,m19,m20,m21,m22⟩:Mat):=by
   simp only [Bd,Ha,Bool.or_false]
   rfl
  rw [hp]
  cases Y3 (⟨⟨m0,m1,m2,m3,m4,m5,m6,m7,m8,m9,m10,m11,m12,m13⟩,m14,m15,m16,m17,m18,m19,m20,m21,m22⟩:Mat)
  case true=>rfl
  simp only [PXb,Ib,Int.reduceBEq]
  cases iLt m15 0<;>try rfl
  cases iLt 2 m15<;>try rfl
  cases iLt (IntKind.i64.wrap (2 * m2)) (m17.length:Int)<;>try rfl
  cases (m15==0&&(iLt 0 (m17.length:Int)||(!(m14==1) && !(m14==5))))<;>try rfl
  cases (m14==1 && !(m15==0))<;>try rfl
  cases (m14==2&&(m17.length:Int)==IntKind.i64.wrap (2 * m2))<;>try rfl
  cases (m14==4&&(!(m2==2) || !((m17.length:Int)==2)))<;>try rfl
  cases (m16&&(!(m2==2)||iLt (m17.length:Int) 2))<;>try rfl
  simp only [PXb]
  refine AZ (I9 (len:=m17.length) (S7 (⟨⟨m0,m1,m2,m3,m4,m5,m6,m7,m8,m9,m10,m11,m12,m13⟩,m14,m15,m16,m17,m18,m19,m20,m21,m22⟩:Mat)) [.bool false] ?_ ?_ N (by omega)) ?_
  ·intro self
   simp only [PXb,PXc,PXn,AG,BT]
  ·intro i self hi
   simp only [PXb,PXc,PXn,PXm,Nat.reduceAdd,Int.reduceBEq,Av (show i≤1099511627776 by omega),A9 hi,Ak hi,PXi,Fu,Gz,O2 (hf i hi) hN hs,MY,S7]
   cases GP (⟨⟨m0,m1,m2,m3,m4,m5,m6,m7,m8,m9,m10,m11,m12,m13⟩,m14,m15,m16,m17,m18,m19,m20,m21,m22⟩:Mat).rules (inn m17 i)<;>first | rfl | simp only [PXb,PXc,PXn,PXm,Nat.reduceAdd,Int.reduceBEq]
  ·cases BL (S7 (⟨⟨m0,m1,m2,m3,m4,m5,m6,m7,m8,m9,m10,m11,m12,m13⟩,m14,m15,m16,m17,m18,m19,m20,m21,m22⟩:Mat)) m17.length 0
   case true=>rfl
   simp only [PXb,PXc,PXn,PXm,Nat.reduceAdd,Int.reduceBEq,G2,Xk hN (show m17.length≤1048576 by omega)]
end Go.Px
end
section
namespace Go.Px
set_option maxRecDepth 100000
def lnx (xs:List Inn):Nat:=(IntKind.i64.wrap ((xs.length:Int) - 1)).toNat
def Cl (m:Mat):Inn:=inn m.inns (lnx m.inns)
theorem TJ {n:Nat} (h:((n:Int)==0)=false) (hl:n≤1000000):iIn (IntKind.i64.wrap ((n:Int) - 1)) (n:Int)=true:=by
 rw [beq_eq_false_iff_ne] at h
 rw [HI (by omega) (by omega)]
 simp only [iIn,decide_eq_true_eq];omega
theorem X8 {xs:List Inn} (h:((xs.length:Int)==0)=false) (hl:xs.length≤1000000):lnx xs<xs.length:=by
 rw [beq_eq_false_iff_ne] at h
 unfold lnx
 rw [HI (by omega) (by omega)]
 omega
def VG (r:Rul):Int:=cond (r.overs==0) 5 6
theorem Hc {N:Nat} {r1 r2 r3 r4 r5 r6 r7 r9 r10 r11 r12:Int} {r8:Bool} {r0:ByteArray} {r13:Rows}  : BP N [.str r0,.int r1,.int r2,.int r3,.int r4,.int r5,.int r6,.int r7,.bool r8,.int r9,.int r10,.int r11,.int r12,.rows r13]=some [.int (VG (⟨r0,r1,r2,r3,r4,r5,r6,r7,r8,r9,r10,r11,r12,r13⟩:Rul))]:=by
 show Eu (std (KQ N) N) (xOf _)=_
 simp only [Eu,std,xOf,PXb,PXc,PXn,PXm,Nat.reduceAdd,Int.reduceBEq,VG]
def dy (x:Int×Int×Int):List PV:=[.int x.1,.int x.2.1,.int x.2.2]
def Qw (m:Mat):Int×Int×Int :=
  let n:Int:=m.inns.length
  let most:=IntKind.i64.wrap (2 * m.rules.innings)
  let x:=Cl m
  cond (!Bk m||n==0) (0,0,0) (cond (x.ending==5) (VG m.rules,0,0) (cond (x.ending==0) (0,0,0)
    (cond (n==most&&iLe x.target x.runs) (2,x.side,IntKind.i64.wrap (IntKind.i64.wrap (m.rules.side - 1) - x.wickets)) (cond (n==most&&x.runs==IntKind.i64.wrap (x.target - 1)) (4,0,0)
      (cond (n==most) (1,Dx x.side,IntKind.i64.wrap (IntKind.i64.wrap (x.target - 1) - x.runs))
        (cond (n==3&&iLt (DQ m x.side) (DQ m (Dx x.side))) (3,Dx x.side,IntKind.i64.wrap (DQ m (Dx x.side) - DQ m x.side)) (0,0,0)))))))
set_option maxHeartbeats 4000000 in
theorem WD {N:Nat} {m1 m2 m3 m4 m5 m6 m7 m9 m10 m11 m12 m14 m15 m18 m19 m20 m21 m22:Int} {m8 m16:Bool} {m0:ByteArray} {m13:Rows} {m17:List Inn} (hf:Gl m17) (hN:2097152<N) (hl:m17.length≤1000000) (hs:m0.size≤1048576):Ef N [.str m0,.int m1,.int m2,.int m3,.int m4,.int m5,.int m6,.int m7,.bool m8,.int m9,.int m10,.int m11,.int m12,.rows m13,.int m14,.int m15,.bool m16,.rows (AL m17),.int m18,.int m19,.int m20,.int m21,.int m22]=some (dy (Qw (⟨⟨m0,m1,m2,m3,m4,m5,m6,m7,m8,m9,m10,m11,m12,m13⟩,m14,m15,m16,m17,m18,m19,m20,m21,m22⟩:Mat))):=by
 show G1 (std (CQ N) N) (xOf _)=_
 generalize hres:(some (dy (Qw (⟨⟨m0,m1,m2,m3,m4,m5,m6,m7,m8,m9,m10,m11,m12,m13⟩,m14,m15,m16,m17,m18,m19,m20,m21,m22⟩:Mat))):Option (List PV))=RR
 simp only [G1,L9,L0,Ls,JN,std,xOf,PXb,PXi,Ip hf hN hl hs,GK,Hc,MR hN (show m17.length≤1048576 by omega)]
 subst hres;simp only [Qw,Cl,lnx]
 cases hv:Bk (⟨⟨m0,m1,m2,m3,m4,m5,m6,m7,m8,m9,m10,m11,m12,m13⟩,m14,m15,m16,m17,m18,m19,m20,m21,m22⟩:Mat)
 case false=>rfl
 cases h0:(m17.length:Int)==0
 case true=>rfl
 simp only [PXb,TJ h0 hl]
 generalize inn m17 (IntKind.i64.wrap ((m17.length:Int) - 1)).toNat=x
 cases x.ending==5
 case true=>rfl
 cases x.ending==0
 case true=>rfl
 cases (m17.length:Int)==IntKind.i64.wrap (2 * m2)<;>cases iLe x.target x.runs<;>cases x.runs==IntKind.i64.wrap (x.target - 1)<;>try rfl
 all_goals (cases (m17.length:Int)==3<;>try rfl)
 all_goals (simp only [PXb];cases iLt (DQ (⟨⟨m0,m1,m2,m3,m4,m5,m6,m7,m8,m9,m10,m11,m12,m13⟩,m14,m15,m16,m17,m18,m19,m20,m21,m22⟩:Mat) x.side) (DQ (⟨⟨m0,m1,m2,m3,m4,m5,m6,m7,m8,m9,m10,m11,m12,m13⟩,m14,m15,m16,m17,m18,m19,m20,m21,m22⟩:Mat) (Dx x.side))<;>rfl)
theorem Y2:∀ (n k:Nat) (f:Nat→Nat),(∀ i,i<k→1≤f i∧f i≤n)→(∀ i j,i<j→j<k→f i≠f j)→k≤n
 | 0,k,f,h,_=>by
  rcases Nat.eq_zero_or_pos k with e | e
  ·omega
  ·have:=h 0 e;omega
 | n+1,0,f,_,_=>by omega
 | n+1,k+1,f,h,hi=>by
  by_cases he:∃ j,j<k+1∧f j=n+1
  ·obtain ⟨j,hj,hfj⟩:=he
   have:=Y2 n k (fun i=>if i=j then f k else f i) (fun i hik=>by
    show 1≤(if i=j then f k else f i)∧(if i=j then f k else f i)≤n
    by_cases e:i=j
    ·rw [if_pos e]
     have h1:=h k (by omega)
     have:f k≠f j:=fun e2=>hi j k (by omega) (by omega) e2.symm
     omega
    ·rw [if_neg e]
     have h1:=h i (by omega)
     have:f i≠f j:=by
      rcases Nat.lt_or_gt_of_ne e with e2 | e2
      ·exact hi i j e2 hj
      ·exact fun e3=>hi j i e2 (by omega) e3.symm
     omega) (fun a b hab hb=>by
    show (if a=j then f k else f a)≠(if b=j then f k else f b)
    by_cases e1:a=j
    ·have e2:b≠j:=by omega
     rw [if_pos e1,if_neg e2]
     exact fun e3=>hi b k hb (by omega) e3.symm
    ·rw [if_neg e1]
     by_cases e2:b=j
     ·rw [if_pos e2];exact hi a k (by omega) (by omega)
     ·rw [if_neg e2];exact hi a b hab (by omega))
   omega
  ·have:=Y2 n (k+1) f (fun i hik=>by
    have h1:=h i hik
    have:f i≠n+1:=fun e=>he ⟨i,hik,e⟩
    omega) hi
   omega
theorem YH {L:Rows} {n:Int} (h:Ic L n=true) (hn:0≤n):(L.length:Int)≤n:=by
 unfold Ic at h
 rw [Bool.not_eq_true',Ht] at h
 have hb:∀ i,i<L.length→1≤atI L i 0∧atI L i 0≤n:=fun i hi=>by
  have:=h i (by omega) (by omega)
  unfold NX at this
  rw [Bool.or_eq_false_iff,Bool.not_eq_false',TS] at this
  exact this.1
 have:=Y2 n.toNat L.length (fun i=>(atI L i 0).toNat) (fun i hi=>by have:=hb i hi;show 1≤(atI L i 0).toNat∧(atI L i 0).toNat≤n.toNat;omega) (fun i j hij hj=>by
  show (atI L i 0).toNat≠(atI L j 0).toNat
  have h1:=hb i (by omega)
  have h2:=hb j hj
  have h3:=h j (by omega) (by omega)
  unfold NX at h3
  rw [Bool.or_eq_false_iff] at h3
  have h4:=Ht.1 h3.2 i (by omega) (by omega)
  rw [beq_eq_false_iff_ne] at h4
  omega)
 omega
theorem Qd {r:Rul} {s:Inn} (h:GP r s=true):s.bowlers.length≤11∧s.before.length≤11∧s.Fit:=by
 have ok:=cX.1 h
 have hs:=eU ok
 have h1:=YH ok.dw (by omega)
 have h2:=YH ok.df (by omega)
 have h3:=ok.lb
 have h4:=ok.ld
 have h5:=ok.lz
 exact ⟨by omega,by omega,by omega,by omega,by omega,by omega,by omega⟩
end Go.Px
end
section
namespace Go.Px
set_option maxRecDepth 100000
def Xz (m:Mat) (e:Ev):Mat×Int :=
  let sd:=GQ m (m.inns.length:Int)
  let b:=DG m.rules sd (Hp m sd) (cond (sd==2) m.pen2 m.pen1)
  let t:=Ci m.rules b.1 e
  cond (!(b.2==0)) (m,1) (cond (!(t.2==0)) (m,t.2)
    ({ m with stage:=3,inns:=m.inns++[t.1],pen1:=cond (sd==1) 0 m.pen1,pen2:=cond (sd==2) 0 m.pen2 },0))
def Oc (xs:List Inn) (sd:Int):Nat→Option Nat
 | 0=>none
 | k+1=>cond ((inn xs k).side==sd) (some k) (Oc xs sd k)
def Jt (m:Mat) (sd:Int):Mat:=match Oc m.inns sd m.inns.length with
 | some k=>{ m with inns:=m.inns.set k (Si (inn m.inns k)) }
 | none=>{ m with pen1:=cond (sd==1) (IntKind.i64.wrap (m.pen1+5)) m.pen1,pen2:=cond (sd==2) (IntKind.i64.wrap (m.pen2+5)) m.pen2 }
def TF (m:Mat) (e:Ev):Mat×Int :=
 let t:=Ci m.rules (Cl m) e
 cond (!(t.2==0)) (m,t.2) (cond (e.kind==13 && !(e.side==t.1.side)) (Jt { m with inns:=m.inns.set (lnx m.inns) t.1 } e.side) { m with inns:=m.inns.set (lnx m.inns) t.1 },0)
def bG (m:Mat):Mat:={ m with inns:=cond (m.stage==3) (m.inns.set (lnx m.inns) { Cl m with ending:=5 }) m.inns,stage:=5,win:=VG m.rules,wside:=0,margin:=0 }
def JC (m:Mat) (e:Ev):Mat×Int :=
  cond (e.kind==1) (cond (!(m.stage==1)) (m,1) ({ m with first:=cond e.yes e.side (Dx e.side),stage:=2 },0))
    (cond (e.kind==2) (cond (!(m.stage==2)) (m,1) (Xz m e))
      (cond (e.kind==12) (cond (!(m.stage==4)) (m,1) (cond (!(e.side==m.first)) (m,2) ({ m with follow:=e.yes,stage:=2 },0)))
        (cond (e.kind==16) (bG m,0) (cond (!(m.stage==3)) (m,1) (TF m e)))))
def Zz (m:Mat):Mat :=
  let n:Int:=m.inns.length
  let sd:=(Cl m).side
  let o:=Qw { m with stage:=5 }
  cond (n==IntKind.i64.wrap (2 * m.rules.innings)||(n==3&&iLt (DQ m sd) (DQ m (Dx sd)))) { m with stage:=5,win:=o.1,wside:=o.2.1,margin:=o.2.2 }
    (cond (n==2&&iLt 0 m.rules.followon&&iLe m.rules.followon (IntKind.i64.wrap (DQ m m.first - DQ m (Dx m.first)))) { m with stage:=4 } { m with stage:=2 })
def ZP (m:Mat):Mat:=cond (m.stage==3 && !((Cl m).ending==0)) (Zz m) m
def BF (m:Mat) (e:Ev):Mat×Int :=
 cond (!Bk m || !(evS e==0)) (m,1) (cond (m.stage==5) (m,26) (cond (!((JC m e).2==0)) (m,(JC m e).2) (ZP (JC m e).1,0)))
theorem bind_ok {X:Option (List PV)} {r:List PV} {k:List PV→Option (List PV)} {g:Option (List PV)} (h:X=some r) (hk:k r=g):X.bind k=g:=by rw [h];exact hk
structure MatOk (m:Mat):Prop where
 code:CD m.rules=0
 len:m.inns.length≤4
 innv:∀ i,i<m.inns.length→GP m.rules (inn m.inns i)=true∧(inn m.inns i).side=GQ m (i:Int)
 begun:(m.stage==3)=true→((m.inns.length:Int)==0)=false
 toss:(m.stage==2)=true→m.first=1∨m.first=2
 room:(m.stage==2)=true→(m.inns.length:Int)<2 * m.rules.innings
 most:IntKind.i64.wrap (2 * m.rules.innings)=2 * m.rules.innings∧(m.inns.length:Int)≤2 * m.rules.innings
theorem fc {m:Mat} (h:Bk m=true):MatOk m:=by
 unfold Bk aP at h
 simp only [Bool.and_eq_true,Bool.not_eq_true'] at h
 obtain ⟨⟨h1,h2,h3,h4,h5,h6,h7,h8,h9,h10⟩,h11,h12⟩:=h
 have hc:=beq_iff_eq.1 h1
 have rk:=(NT hc).innings
 have e2:IntKind.i64.wrap (2 * m.rules.innings)=2 * m.rules.innings:=HI (by omega) (by omega)
 rw [e2] at h5 h8
 rw [Bool.or_eq_false_iff,Bool.or_eq_false_iff] at h5
 have hn:=h5.2
 have hf1:=h5.1.1
 have hf2:=h5.1.2
 simp only [iLt,decide_eq_false_iff_not] at hn hf1 hf2
 refine ⟨hc,by omega,fun i hi=>?_,fun hs=>?_,fun hs=>?_,fun hs=>?_,e2,by omega⟩
 ·have:=Ht.1 h11 i (by omega) (by omega)
  unfold S7 at this
  rw [Bool.or_eq_false_iff,Bool.not_eq_false',Bool.not_eq_false',beq_iff_eq] at this
  exact this
 ·unfold Sg at h12
  rw [hs,Bool.and_eq_true] at h12
  have:=h12.2
  simp only [iLt,Bool.not_true,Bool.false_or,decide_eq_true_eq] at this
  exact beq_false_of_ne (by omega)
 ·rw [beq_iff_eq.1 hs] at h6
  cases h0:m.first==0 with
  | true=>rw [h0] at h6;simp at h6
  | false =>
   rw [beq_eq_false_iff_ne] at h0
   omega
 ·rw [hs,Bool.true_and,beq_eq_false_iff_ne] at h8
  omega
theorem dl {m:Mat} (h:m.first=1∨m.first=2) (i:Int):GQ m i=1∨GQ m i=2:=by
 unfold GQ
 cases cond (m.follow&&iLe 2 i) (i==2) (i.tmod 2==1) with
 | false=>exact h
 | true=>rcases h with h | h<;>rw [h]<;>decide
theorem bl {m:Mat} (h:MatOk m):Gl m.inns:=fun i hi=>(Qd (h.innv i hi).1).2.2
theorem V2 {F : (List AW → Option (List PV)) → List PV → Option (List PV)} {len : Nat} (enc : Nat → List AW) (ans : Nat → Option (List PV))
    (h0:∀ self,F self ((enc len).map Leaf.pv)=some [.int 1]) (h1:∀ i self,i<len→F self ((enc i).map Leaf.pv)=match ans i with | some r=>some (.int 0::r) | none=>self (enc (i+1))) :
    ∀ (k i n:Nat),i+k=len→k<n→Gk F n ((enc i).map Leaf.pv)=some (TH (Bj ans k i))
  | 0,i,n,hk,hn=>by
    obtain ⟨n,rfl⟩:∃ m,n=m+1:=⟨n - 1,by omega⟩
    obtain rfl:i=len:=by omega
    exact h0 _
  | k+1,i,n,hk,hn=>by
    obtain ⟨n,rfl⟩:∃ m,n=m+1:=⟨n - 1,by omega⟩
    show F _ _=_
    rw [h1 i _ (by omega)]
    simp only [Bj]
    cases ans i with
    | some r=>rfl
    | none=>exact V2 enc ans h0 h1 k (i+1) n (by omega) (by omega)
theorem Zt (ys:List Inn) (sd:Int) (g:Nat→List PV) (n:Nat):∀ k,k≤n→Bj (fun j=>cond ((inn ys (n - 1 - j)).side==sd) (some (g (n - 1 - j))) none) k (n - k)=(Oc ys sd k).map g
 | 0,_=>rfl
 | k+1,h=>by
  have ih:=Zt ys sd g n k (by omega)
  have e:n - 1 - (n - (k+1))=k:=by omega
  have e2:n - (k+1)+1=n - k:=by omega
  simp only [Bj,Oc,e,e2,ih]
  cases (inn ys k).side==sd<;>rfl
theorem eS (xs:List Inn) (k:Nat) (s:Inn) (i:Nat) (hi:i<xs.length):inn (xs.set k s) i=(if k=i then s else inn xs i):=by
 rw [IW,IW,List.getElem?_set]
 by_cases h:k=i
 ·subst h
  rw [if_pos rfl,if_pos rfl,if_pos hi]
 ·rw [if_neg h,if_neg h]
theorem Q4 {xs:List Inn} {s:Inn} (k:Nat) (h:Gl xs) (hs:s.Fit):Gl (xs.set k s):=fun i hi=>by
 rw [List.length_set] at hi
 rw [eS xs k s i hi]
 by_cases e:k=i
 ·rw [if_pos e];exact hs
 ·rw [if_neg e];exact h i hi
theorem cO {e:Ev} (h:(evS e==0)=true) (hk:(e.kind==13)=true):e.side=1∨e.side=2:=by
 have h0:=WM h
 rw [beq_iff_eq] at hk
 unfold evS at h
 rw [h0] at h
 cases h1:Uy e with
 | true=>rw [h1] at h;cases h
 | false =>
  cases h2:RC e with
  | true=>rw [h1,h2] at h;cases h
  | false =>
   unfold RC at h2
   rw [Bool.or_eq_false_iff] at h2
   have h3:=h2.1
   rw [hk,show uS 13=true from rfl,Bool.and_true] at h3
   simp only [btw,iLe,Bool.not_eq_false',Bool.and_eq_true,decide_eq_true_eq] at h3
   omega
theorem ec (xs:List Inn) (s:Inn) (i:Nat) (hi:i<xs.length+1):inn (xs++[s]) i=(if i<xs.length then inn xs i else s):=by
 rw [IW,IW]
 by_cases h:i<xs.length
 ·rw [if_pos h,List.getElem?_append_left h]
 ·have:i=xs.length:=by omega
  subst this
  rw [if_neg h,List.getElem?_append_right (Nat.le_refl _),Nat.sub_self]
  rfl
theorem cq {xs:List Inn} {s:Inn} (h:Gl xs) (hs:s.Fit):Gl (xs++[s]):=fun i hi=>by
 rw [List.length_append] at hi
 rw [ec xs s i hi]
 by_cases e:i<xs.length
 ·rw [if_pos e];exact h i e
 ·rw [if_neg e];exact hs
theorem Wp (r:Rul) (a b c:Int) (e:Ev):(Ci r (DG r a b c).1 e).1.Fit:=by
 obtain ⟨f,h1,h2⟩:=NF r a b c
 exact QE (SH r _ e) f (by rw [h1,h2];exact Nat.zero_le _)
structure ActOk (m:Mat) (x:Mat×Int):Prop where
 rules:x.1.rules=m.rules
 fit:Gl x.1.inns
 len:x.1.inns.length≤5
 some':(x.2==0)=true→(x.1.stage==3)=true→((x.1.inns.length:Int)==0)=false
theorem A_c {m:Mat} (b:Bool) (x y:Mat×Int) (hx:ActOk m x) (hy:ActOk m y):ActOk m (cond b x y):=by cases b<;>assumption
theorem dC {m:Mat} (sd:Int) (hf:Gl m.inns):(Jt m sd).rules=m.rules∧Gl (Jt m sd).inns∧(Jt m sd).inns.length=m.inns.length∧(Jt m sd).stage=m.stage:=by
 unfold Jt
 cases h:Oc m.inns sd m.inns.length with
 | none=>exact ⟨rfl,hf,rfl,rfl⟩
 | some k =>
  have hk:k<m.inns.length:=by
   have:∀ n,Oc m.inns sd n=some k→k<n:=by
    intro n
    induction n with
    | zero=>intro h;cases h
    | succ n ih =>
     intro h
     unfold Oc at h
     cases hq:(inn m.inns n).side==sd with
     | true=>rw [hq] at h;cases h;omega
     | false=>rw [hq] at h;have:=ih h;omega
   exact this _ h
  exact ⟨rfl,Q4 k hf (fQ (hf k hk)),List.length_set,rfl⟩
theorem fp {m:Mat} (ok:MatOk m) (e:Ev):ActOk m (JC m e):=by
 have hf:=bl ok
 have hl:=ok.len
 have self:∀ n:Int,(n==0)=false→ActOk m (m,n):=fun n hn=>⟨rfl,hf,by show m.inns.length≤5;omega,fun h=>by rw [hn] at h;cases h⟩
 unfold JC
 refine A_c _ _ _ (A_c _ _ _ (self 1 rfl) ⟨rfl,hf,by show m.inns.length≤5;omega,fun _ h=>by cases h⟩) (A_c _ _ _ ?_ (A_c _ _ _ ?_ (A_c _ _ _ ?_ ?_)))
 ·refine A_c _ _ _ (self 1 rfl) ?_
  unfold Xz
  refine A_c _ _ _ (self 1 rfl) ?_
  cases hq:(Ci m.rules (DG m.rules (GQ m (m.inns.length:Int)) (Hp m (GQ m (m.inns.length:Int))) (cond (GQ m (m.inns.length:Int)==2) m.pen2 m.pen1)).1 e).2==0 with
  | false =>
   simp only [Bool.not_false,cond_true]
   exact self _ hq
  | true =>
   simp only [Bool.not_true,cond_false]
   exact ⟨rfl,cq hf (Wp _ _ _ _ e),by simp;omega,fun _ _=>by
    show ((((m.inns++[_]).length:Nat):Int)==0)=false
    rw [List.length_append]
    exact beq_false_of_ne (by simp;omega)⟩
 ·exact A_c _ _ _ (self 1 rfl) (A_c _ _ _ (self 2 rfl) ⟨rfl,hf,by show m.inns.length≤5;omega,fun _ h=>by cases h⟩)
 ·unfold bG
  cases h3:m.stage==3 with
  | false=>exact ⟨rfl,hf,by show m.inns.length≤5;omega,fun _ h=>by cases h⟩
  | true =>
   have h0:=ok.begun h3
   have fl:=hf (lnx m.inns) (X8 h0 (by omega))
   exact ⟨rfl,Q4 _ hf ⟨fl.bt,fl.bw,fl.bf,fl.bd,fl.sb⟩,by show (m.inns.set _ _).length≤5;rw [List.length_set];omega,fun _ h=>by cases h⟩
 ·cases h3:m.stage==3 with
  | false=>exact self 1 rfl
  | true =>
   have h0:=ok.begun h3
   have lv:=Qd (ok.innv (lnx m.inns) (X8 h0 (by omega))).1
   have h1:=lv.1
   have h2:=lv.2.1
   have ft:=QE (SH m.rules (Cl m) e) lv.2.2 (show (inn m.inns (lnx m.inns)).before.length+(inn m.inns (lnx m.inns)).bowlers.length≤1048575 by omega)
   simp only [Bool.not_true,cond_false,TF]
   cases hq:(Ci m.rules (Cl m) e).2==0 with
   | false =>
    simp only [Bool.not_false,Bool.not_true,cond_true,cond_false]
    exact self _ hq
   | true =>
    have fs:=Q4 (lnx m.inns) hf ft
    have ln:(m.inns.set (lnx m.inns) (Ci m.rules (Cl m) e).1).length=m.inns.length:=List.length_set
    simp only [Bool.not_true,cond_false]
    cases (e.kind==13 && !(e.side==(Ci m.rules (Cl m) e).1.side)) with
    | false =>
     exact ⟨rfl,fs,by show (m.inns.set _ _).length≤5;omega,fun _ _=>by
      show ((((m.inns.set _ _).length:Nat):Int)==0)=false
      rw [ln];exact h0⟩
    | true =>
     obtain ⟨a1,a2,a3,a4⟩:=dC (m:={ m with inns:=m.inns.set (lnx m.inns) (Ci m.rules (Cl m) e).1 }) e.side fs
     exact ⟨a1,a2,by show (Jt _ _).inns.length≤5;rw [a3];show (m.inns.set _ _).length≤5;omega,fun _ _=>by
      show ((((Jt _ _).inns.length:Nat):Int)==0)=false
      rw [a3]
      show ((((m.inns.set _ _).length:Nat):Int)==0)=false
      rw [ln];exact h0⟩
end Go.Px
end
section
namespace Go.Px
set_option maxRecDepth 100000
set_option maxHeartbeats 8000000 in
theorem OK {N:Nat} {m1 m2 m3 m4 m5 m6 m7 m9 m10 m11 m12 m14 m15 m18 m19 m20 m21 m22:Int} {m8 m16:Bool} {m0:ByteArray} {m13:Rows} {m17:List Inn} {e0 e1 e2 e3 e5 e6 e7 e8 e9 e10 e11 e13 e14 e15 e16 e18:Int} {e4 e12 e17:Bool} (hN:2097152<N) (hf:Gl m17) (hl:m17.length≤1000000) (hs:m0.size≤1048576) (h13:m13.length≤1048576):BS N [.str m0,.int m1,.int m2,.int m3,.int m4,.int m5,.int m6,.int m7,.bool m8,.int m9,.int m10,.int m11,.int m12,.rows m13,.int m14,.int m15,.bool m16,.rows (AL m17),.int m18,.int m19,.int m20,.int m21,.int m22,.int e0,.int e1,.int e2,.int e3,.bool e4,.int e5,.int e6,.int e7,.int e8,.int e9,.int e10,.int e11,.bool e12,.int e13,.int e14,.int e15,.int e16,.bool e17,.int e18]=some (PH (BF (⟨⟨m0,m1,m2,m3,m4,m5,m6,m7,m8,m9,m10,m11,m12,m13⟩,m14,m15,m16,m17,m18,m19,m20,m21,m22⟩:Mat) (⟨e0,e1,e2,e3,e4,e5,e6,⟨e7,e8,e9,e10,e11,e12,e13,e14,e15,e16,e17,e18⟩⟩:Ev))):=by
 show KG (std (Ar N) N) (xOf _)=_
 generalize hres:(some (PH (BF (⟨⟨m0,m1,m2,m3,m4,m5,m6,m7,m8,m9,m10,m11,m12,m13⟩,m14,m15,m16,m17,m18,m19,m20,m21,m22⟩:Mat) (⟨e0,e1,e2,e3,e4,e5,e6,⟨e7,e8,e9,e10,e11,e12,e13,e14,e15,e16,e17,e18⟩⟩:Ev))):Option (List PV))=RR
 simp only [KG,ON,N8,Ny,Ds,Di,HC,GJ,DC,DX,CE,CX,Fk,std,xOf,PXb,Ip hf hN hl hs,RU hN,Xp hf hN hl h13]
 subst hres;simp only [BF]
 cases hv:Bk (⟨⟨m0,m1,m2,m3,m4,m5,m6,m7,m8,m9,m10,m11,m12,m13⟩,m14,m15,m16,m17,m18,m19,m20,m21,m22⟩:Mat)
 case false=>rfl
 cases he:evS (⟨e0,e1,e2,e3,e4,e5,e6,⟨e7,e8,e9,e10,e11,e12,e13,e14,e15,e16,e17,e18⟩⟩:Ev)==0
 case false=>simp only [PXb,he];rfl
 simp only [PXb,he]
 cases h5:m14==5
 case true=>rfl
 simp only [PXb]
 have ok:=fc hv
 refine bind_ok (r:=.int (JC (⟨⟨m0,m1,m2,m3,m4,m5,m6,m7,m8,m9,m10,m11,m12,m13⟩,m14,m15,m16,m17,m18,m19,m20,m21,m22⟩:Mat) (⟨e0,e1,e2,e3,e4,e5,e6,⟨e7,e8,e9,e10,e11,e12,e13,e14,e15,e16,e17,e18⟩⟩:Ev)).2::(JC (⟨⟨m0,m1,m2,m3,m4,m5,m6,m7,m8,m9,m10,m11,m12,m13⟩,m14,m15,m16,m17,m18,m19,m20,m21,m22⟩:Mat) (⟨e0,e1,e2,e3,e4,e5,e6,⟨e7,e8,e9,e10,e11,e12,e13,e14,e15,e16,e17,e18⟩⟩:Ev)).1.ls) ?_ ?_
 ·unfold JC
  cases hk1:e0==1
  case true =>
   simp only [PXb,Di,GK]
   cases m14==1<;>cases e4<;>rfl
  cases hk2:e0==2
  case true =>
   simp only [PXb]
   cases hs2:m14==2
   case false=>rfl
   have hl2:m17.length≤1048576:=by omega
   have h304:iSm ((m17.length+1:Nat):Int) 304=true:=G7 (by omega) (by omega)
   have fb:=fun a b c=>(NF (⟨⟨m0,m1,m2,m3,m4,m5,m6,m7,m8,m9,m10,m11,m12,m13⟩,m14,m15,m16,m17,m18,m19,m20,m21,m22⟩:Mat).rules a b c).1
   have wb:∀ a b c,(DG (⟨⟨m0,m1,m2,m3,m4,m5,m6,m7,m8,m9,m10,m11,m12,m13⟩,m14,m15,m16,m17,m18,m19,m20,m21,m22⟩:Mat).rules a b c).1.before.length+(DG (⟨⟨m0,m1,m2,m3,m4,m5,m6,m7,m8,m9,m10,m11,m12,m13⟩,m14,m15,m16,m17,m18,m19,m20,m21,m22⟩:Mat).rules a b c).1.bowlers.length≤1000000:=fun a b c=>by
    rw [(NF (⟨⟨m0,m1,m2,m3,m4,m5,m6,m7,m8,m9,m10,m11,m12,m13⟩,m14,m15,m16,m17,m18,m19,m20,m21,m22⟩:Mat).rules a b c).2.1,(NF (⟨⟨m0,m1,m2,m3,m4,m5,m6,m7,m8,m9,m10,m11,m12,m13⟩,m14,m15,m16,m17,m18,m19,m20,m21,m22⟩:Mat).rules a b c).2.2]
    exact Nat.zero_le _
   rcases dl (m:=(⟨⟨m0,m1,m2,m3,m4,m5,m6,m7,m8,m9,m10,m11,m12,m13⟩,m14,m15,m16,m17,m18,m19,m20,m21,m22⟩:Mat)) (ok.toss hs2) (m17.length:Int) with ho | ho
   ·simp only [PXb,PXc,Ib,X7,Nat.reduceAdd,Int.reduceBEq,PXi,PXr,Inn.eta,A2,List.length_append,List.length_cons,List.length_nil,h304,Xz,Ds,DX,DC,CE,MY,Pm hN hl2,O3 hN hs,LA (fb _ _ _) (wb _ _ _) hN hs h13,ho,wr1,wr2,ZI,Yu]
    cases (DG (⟨⟨m0,m1,m2,m3,m4,m5,m6,m7,m8,m9,m10,m11,m12,m13⟩,m14,m15,m16,m17,m18,m19,m20,m21,m22⟩:Mat).rules 1 (Hp (⟨⟨m0,m1,m2,m3,m4,m5,m6,m7,m8,m9,m10,m11,m12,m13⟩,m14,m15,m16,m17,m18,m19,m20,m21,m22⟩:Mat) 1) m18).2==0<;>try rfl
    cases (Ci (⟨⟨m0,m1,m2,m3,m4,m5,m6,m7,m8,m9,m10,m11,m12,m13⟩,m14,m15,m16,m17,m18,m19,m20,m21,m22⟩:Mat).rules (DG (⟨⟨m0,m1,m2,m3,m4,m5,m6,m7,m8,m9,m10,m11,m12,m13⟩,m14,m15,m16,m17,m18,m19,m20,m21,m22⟩:Mat).rules 1 (Hp (⟨⟨m0,m1,m2,m3,m4,m5,m6,m7,m8,m9,m10,m11,m12,m13⟩,m14,m15,m16,m17,m18,m19,m20,m21,m22⟩:Mat) 1) m18).1 (⟨e0,e1,e2,e3,e4,e5,e6,⟨e7,e8,e9,e10,e11,e12,e13,e14,e15,e16,e17,e18⟩⟩:Ev)).2==0<;>rfl
   ·simp only [PXb,PXc,Ib,X7,Nat.reduceAdd,Int.reduceBEq,PXi,PXr,Inn.eta,A2,List.length_append,List.length_cons,List.length_nil,h304,Xz,Ds,DX,DC,CE,MY,Pm hN hl2,O3 hN hs,LA (fb _ _ _) (wb _ _ _) hN hs h13,ho,wr1,wr2,ZI,Yu]
    cases (DG (⟨⟨m0,m1,m2,m3,m4,m5,m6,m7,m8,m9,m10,m11,m12,m13⟩,m14,m15,m16,m17,m18,m19,m20,m21,m22⟩:Mat).rules 2 (Hp (⟨⟨m0,m1,m2,m3,m4,m5,m6,m7,m8,m9,m10,m11,m12,m13⟩,m14,m15,m16,m17,m18,m19,m20,m21,m22⟩:Mat) 2) m19).2==0<;>try rfl
    cases (Ci (⟨⟨m0,m1,m2,m3,m4,m5,m6,m7,m8,m9,m10,m11,m12,m13⟩,m14,m15,m16,m17,m18,m19,m20,m21,m22⟩:Mat).rules (DG (⟨⟨m0,m1,m2,m3,m4,m5,m6,m7,m8,m9,m10,m11,m12,m13⟩,m14,m15,m16,m17,m18,m19,m20,m21,m22⟩:Mat).rules 2 (Hp (⟨⟨m0,m1,m2,m3,m4,m5,m6,m7,m8,m9,m10,m11,m12,m13⟩,m14,m15,m16,m17,m18,m19,m20,m21,m22⟩:Mat) 2) m19).1 (⟨e0,e1,e2,e3,e4,e5,e6,⟨e7,e8,e9,e10,e11,e12,e13,e14,e15,e16,e17,e18⟩⟩:Ev)).2==0<;>rfl
  cases hk3:e0==12
  case true =>
   simp only [PXb]
   cases m14==4<;>cases e1==m15<;>rfl
  cases hk4:e0==16
  case true =>
   simp only [PXb,bG]
   cases h3:m14==3
   case false=>simp only [PXb,PXc,PXi,PXr,Ib,Nat.reduceAdd,CX,Hc];rfl
   simp only [PXb,PXc,PXi,PXr,Ib,Nat.reduceAdd,TJ (ok.begun h3) hl,CX,Hc]
   rfl
  simp only [PXb]
  cases h3:m14==3
  case false=>rfl
  have h0:=ok.begun h3
  have lv:=Qd (ok.innv (lnx m17) (X8 h0 hl)).1
  have fl:(inn m17 (IntKind.i64.wrap ((m17.length:Int) - 1)).toNat).Fit:=lv.2.2
  have wl:(inn m17 (IntKind.i64.wrap ((m17.length:Int) - 1)).toNat).before.length+(inn m17 (IntKind.i64.wrap ((m17.length:Int) - 1)).toNat).bowlers.length≤1000000:=by
   have h1:=lv.1
   have h2:=lv.2.1
   change (inn m17 (IntKind.i64.wrap ((m17.length:Int) - 1)).toNat).bowlers.length≤11 at h1
   change (inn m17 (IntKind.i64.wrap ((m17.length:Int) - 1)).toNat).before.length≤11 at h2
   omega
  have f1:=QE (SH (⟨⟨m0,m1,m2,m3,m4,m5,m6,m7,m8,m9,m10,m11,m12,m13⟩,m14,m15,m16,m17,m18,m19,m20,m21,m22⟩:Mat).rules (inn m17 (IntKind.i64.wrap ((m17.length:Int) - 1)).toNat) (⟨e0,e1,e2,e3,e4,e5,e6,⟨e7,e8,e9,e10,e11,e12,e13,e14,e15,e16,e17,e18⟩⟩:Ev)) fl (by omega)
  simp only [PXb,PXc,PXi,PXr,A2,Inn.eta,Ib,Nat.reduceAdd,List.length_set,TJ h0 hl,CE,LA fl wl hN hs h13,TF,Cl,lnx]
  generalize hX:Ci (⟨⟨m0,m1,m2,m3,m4,m5,m6,m7,m8,m9,m10,m11,m12,m13⟩,m14,m15,m16,m17,m18,m19,m20,m21,m22⟩:Mat).rules (inn m17 (IntKind.i64.wrap ((m17.length:Int) - 1)).toNat) (⟨e0,e1,e2,e3,e4,e5,e6,⟨e7,e8,e9,e10,e11,e12,e13,e14,e15,e16,e17,e18⟩⟩:Ev)=X at f1
  have fy:=Q4 (IntKind.i64.wrap ((m17.length:Int) - 1)).toNat hf f1
  generalize hy:m17.set (IntKind.i64.wrap ((m17.length:Int) - 1)).toNat X.1=ys at fy
  have ly:ys.length=m17.length:=by rw [← hy,List.length_set]
  cases X.2==0<;>try rfl
  cases h13k:e0==13
  case false=>rfl
  cases hsd:e1==X.1.side
  case true=>rfl
  simp only [PXb,Option.bind_assoc]
  have e0w:IntKind.i64.wrap ((m17.length:Int) - 1)=(m17.length:Int) - 1 - ((0:Nat):Int):=by
   rw [beq_eq_false_iff_ne] at h0
   rw [HI (by omega) (by omega)];omega
  rw [e0w]
  have hside:=cO (e:=(⟨e0,e1,e2,e3,e4,e5,e6,⟨e7,e8,e9,e10,e11,e12,e13,e14,e15,e16,e17,e18⟩⟩:Ev)) he h13k
  simp only at hside
  refine AZ (V2 (len:=m17.length) (fun j=>[.int ((m17.length:Int) - 1 - (j:Int))]) (fun j=>cond ((inn ys (m17.length - 1 - j)).side==e1) (some [PV.str m0,PV.int m1,PV.int m2,PV.int m3,PV.int m4,PV.int m5,PV.int m6,PV.int m7,PV.bool m8,PV.int m9,PV.int m10,PV.int m11,PV.int m12,PV.rows m13,PV.int m14,PV.int m15,PV.bool m16,PV.rows (AL (ys.set (m17.length - 1 - j) (Si (inn ys (m17.length - 1 - j))))),PV.int m18,PV.int m19,PV.int m20,PV.int m21,PV.int m22]) none) ?_ ?_ m17.length 0 N (by omega) (by omega)) ?_
  ·intro self
   have q1:iLe 0 ((m17.length:Int) - 1 - (m17.length:Int))=false:=by simp only [iLe,decide_eq_false_iff_not];omega
   simp only [PXb,q1]
  ·intro i self hi
   have q1:iLe 0 ((m17.length:Int) - 1 - (i:Int))=true:=by simp only [iLe,decide_eq_true_eq];omega
   have q2:iIn ((m17.length:Int) - 1 - (i:Int)) (m17.length:Int)=true:=by simp only [iIn,decide_eq_true_eq];omega
   have q3:((m17.length:Int) - 1 - (i:Int)).toNat=m17.length - 1 - i:=by omega
   have q4:IntKind.i64.wrap ((m17.length:Int) - 1 - (i:Int) - 1)=(m17.length:Int) - 1 - ((i+1:Nat):Int):=by rw [HI (by omega) (by omega)];omega
   have q5:=fy (m17.length - 1 - i) (by omega)
   simp only [PXb,PXc,q1,q2,q3,q4,Fk,Mo q5,PXm]
   cases (inn ys (m17.length - 1 - i)).side==e1<;>rfl
  ·have hfa:=Zt ys e1 (fun k=>[PV.str m0,PV.int m1,PV.int m2,PV.int m3,PV.int m4,PV.int m5,PV.int m6,PV.int m7,PV.bool m8,PV.int m9,PV.int m10,PV.int m11,PV.int m12,PV.rows m13,PV.int m14,PV.int m15,PV.bool m16,PV.rows (AL (ys.set k (Si (inn ys k)))),PV.int m18,PV.int m19,PV.int m20,PV.int m21,PV.int m22]) m17.length m17.length (Nat.le_refl _)
   rw [Nat.sub_self] at hfa
   rw [hfa]
   unfold Jt
   simp only [ly]
   cases Oc ys e1 m17.length with
   | some k=>rfl
   | none =>
    rcases hside with h | h<;>subst h
    ·simp only [Option.map_none,TH,PXb,PXc,Ib,Int.reduceBEq,wr1,ZI]
     rfl
    ·simp only [Option.map_none,TH,PXb,PXc,Ib,Int.reduceBEq,wr2,Yu]
     rfl
 ·have ak:=fp ok (⟨e0,e1,e2,e3,e4,e5,e6,⟨e7,e8,e9,e10,e11,e12,e13,e14,e15,e16,e17,e18⟩⟩:Ev)
  generalize JC (⟨⟨m0,m1,m2,m3,m4,m5,m6,m7,m8,m9,m10,m11,m12,m13⟩,m14,m15,m16,m17,m18,m19,m20,m21,m22⟩:Mat) (⟨e0,e1,e2,e3,e4,e5,e6,⟨e7,e8,e9,e10,e11,e12,e13,e14,e15,e16,e17,e18⟩⟩:Ev)=A at ak
  obtain ⟨⟨⟨a0,a1,a2,a3,a4,a5,a6,a7,a8,a9,a10,a11,a12,a13⟩,a14,a15,a16,a17,a18,a19,a20,a21,a22⟩,l⟩:=A
  obtain ⟨k1,k2,k3,k4⟩:=ak
  simp only at k1 k2 k3 k4
  have hl5:a17.length≤1048576:=by omega
  have hs5:a0.size≤1048576:=by
   have:=congrArg Rul.name k1
   simp only at this
   rw [this];exact hs
  simp only [PXb,PXc,PXk,PXi,Ib,Nat.reduceAdd]
  cases hl0:l==0
  case false=>rfl
  simp only [PXb,ZP]
  cases h3:a14==3
  case false=>rfl
  have h0:=k4 hl0 h3
  have li:=TJ h0 (show a17.length≤1000000 by omega)
  simp only [PXb,PXc,PXi,li]
  cases he2:(inn a17 (IntKind.i64.wrap ((a17.length:Int) - 1)).toNat).ending==0
  case true=>simp only [PXb,Cl,lnx,he2]
  simp only [PXb,PXc,PXi,Cl,lnx,he2,HC,Di,GJ,MR hN hl5,GK,WD k2 hN (show a17.length≤1000000 by omega) hs5]
  unfold Zz
  simp only [Cl,lnx]
  simp only [DQ,Cl,lnx]
  cases hq1:((a17.length:Int)==IntKind.i64.wrap (2 * a2))
  case true=>rfl
  cases hq2:((a17.length:Int)==3)
  case true =>
   simp only [PXb]
   cases iLt (MN a17 (inn a17 (IntKind.i64.wrap ((a17.length:Int) - 1)).toNat).side a17.length) (MN a17 (Dx (inn a17 (IntKind.i64.wrap ((a17.length:Int) - 1)).toNat).side) a17.length)
   case true=>rfl
   simp only [PXb]
   cases ((a17.length:Int)==2)&&iLt 0 a10&&iLe a10 (IntKind.i64.wrap (MN a17 a15 a17.length - MN a17 (Dx a15) a17.length))<;>rfl
  simp only [PXb]
  cases ((a17.length:Int)==2)&&iLt 0 a10&&iLe a10 (IntKind.i64.wrap (MN a17 a15 a17.length - MN a17 (Dx a15) a17.length))<;>rfl
end Go.Px
end
section
namespace Go.Px
set_option maxRecDepth 100000
structure StepOk (r:Rul) (m:Mat):Prop where
 rules:m.rules=r
 fit:Gl m.inns
 len:m.inns.length≤5
theorem UR {m:Mat} {e:Ev} (h:((BF m e).2==0)=true):Bk m=true∧(evS e==0)=true∧(m.stage==5)=false∧((JC m e).2==0)=true∧(BF m e).1=ZP (JC m e).1:=by
 unfold BF at h ⊢
 cases hv:Bk m with
 | false=>rw [hv] at h;exact absurd (show ((1:Int)==0)=true from h) (by decide)
 | true =>
  cases he:evS e==0 with
  | false=>rw [hv,he] at h;exact absurd (show ((1:Int)==0)=true from h) (by decide)
  | true =>
   cases h5:m.stage==5 with
   | true=>rw [hv,he,h5] at h;exact absurd (show ((26:Int)==0)=true from h) (by decide)
   | false =>
    cases hx:(JC m e).2==0 with
    | false=>rw [hv,he,h5,hx] at h;exact absurd (show ((JC m e).2==0)=true from h) (by rw [hx];decide)
    | true=>exact ⟨rfl,rfl,rfl,rfl,rfl⟩
end Go.Px
end
section
namespace Go.Px
set_option maxRecDepth 100000
def FW (m:Mat):Mat:={ m with rules:=Qy m.rules,inns:=(m.inns.take 5).map Q5 }
theorem dR (xs:List Inn):((xs.take 5).map Q5).length≤5:=by rw [List.length_map,List.length_take];omega
theorem fE (xs:List Inn):∀ i,i<(xs.map Q5).length→inn (xs.map Q5) i=Q5 (inn xs i):=fun i hi=>by
 rw [List.length_map] at hi
 rw [IW,IW,List.getElem?_map,List.getElem?_eq_getElem hi]
 rfl
theorem eN {m:Mat}:StepOk (Qy m.rules) (FW m):=⟨rfl,fun i hi=>by
 show (inn ((m.inns.take 5).map Q5) i).Fit
 rw [fE _ i hi]
 exact fP _,dR _⟩
theorem cm {xs:List Inn} {i:Nat} (h:i<xs.length):xs.take (i+1)=xs.take i++[inn xs i]:=by
 rw [List.take_succ_eq_append_getElem h,IW,List.getElem?_eq_getElem h]
set_option maxHeartbeats 2000000 in
theorem cj {N:Nat} {m1 m2 m3 m4 m5 m6 m7 m9 m10 m11 m12 m14 m15 m18 m19 m20 m21 m22:Int} {m8 m16:Bool} {m0:ByteArray} {m13:Rows} {m17:List Inn} (hN:2097152<N):MA N [.str m0,.int m1,.int m2,.int m3,.int m4,.int m5,.int m6,.int m7,.bool m8,.int m9,.int m10,.int m11,.int m12,.rows m13,.int m14,.int m15,.bool m16,.rows (AL m17),.int m18,.int m19,.int m20,.int m21,.int m22]=some (FW (⟨⟨m0,m1,m2,m3,m4,m5,m6,m7,m8,m9,m10,m11,m12,m13⟩,m14,m15,m16,m17,m18,m19,m20,m21,m22⟩:Mat)).ls:=by
 show Lr (std (IZ N) N) (xOf _)=_
 have e5:m17.take (min m17.length 5)=m17.take 5:=by
  by_cases h:m17.length≤5
  ·rw [Nat.min_eq_left h,List.take_length,List.take_of_length_le h]
  ·rw [Nat.min_eq_right (by omega)]
 simp only [Lr,std,xOf,PXb,ao (show (0:Int)≤20 by omega),ao (show (0:Int)≤10 by omega),PXi]
 refine AZ (CO (len:=min m17.length 5) (fun i=>[.rows (AL ((m17.take i).map Q5)),.int (i:Int)]) [.rows (AL ((m17.take 5).map Q5))] ?_ ?_ N (by omega)) rfl
 ·intro self
  have:(iLt ((min m17.length 5:Nat):Int) (m17.length:Int)&&iLt ((min m17.length 5:Nat):Int) 5)=false:=by
   rw [Bool.and_eq_false_iff]
   simp only [iLt,decide_eq_false_iff_not]
   omega
  simp only [PXb,PXc,PXn,AG,this,e5]
 ·intro i self hi
  have h1:i<m17.length:=by omega
  have h5:iLt (i:Int) 5=true:=by simp only [iLt,decide_eq_true_eq];omega
  have h304:iSm (((m17.take i).length+1:Nat):Int) 304=true:=G7 (by rw [List.length_take];omega) (by omega)
  have c13:∀ n:Nat,iRg 0 (cond (iLt 13 (n:Int)) 13 (n:Int)) (n:Int)=true:=fun n=>ao (show (0:Int)≤13 by omega)
  simp only [PXb,PXc,PXn,AG,Av (show i≤1099511627776 by omega),A9 h1,Ak h1,h5,PXi,c13,List.length_append,List.length_cons,List.length_nil,List.length_map,Nat.zero_add,Nat.reduceAdd,h304,PXr,cm h1,List.map_append]
  rfl
end Go.Px
end
section
namespace Go.Px
set_option maxRecDepth 100000
def fm (f:Int→Rows) (lo:Int):Nat→Rows
 | 0=>[]
 | n+1=>fm f lo n++f (lo+(n:Int))
theorem Gc (f:Int→Rows) (lo:Int) (n:Nat):fm f lo (n+1)=fm f lo n++f (lo+(n:Int)):=rfl
theorem P3 {f g:Int→Rows} {lo:Int}:∀ n:Nat,(∀ i,lo≤i→i<lo+(n:Int)→f i=g i)→fm f lo n=fm g lo n
 | 0,_=>rfl
 | n+1,h=>by
  rw [Gc,Gc,P3 n (fun i h1 h2=>h i h1 (by omega)),h _ (by omega) (by omega)]
theorem El {f:Int→Rows} {lo:Int}:∀ n:Nat,(∀ i,lo≤i→i<lo+(n:Int)→f i=[])→fm f lo n=[]
 | 0,_=>rfl
 | n+1,h=>by
  rw [Gc,El n (fun i h1 h2=>h i h1 (by omega)),h _ (by omega) (by omega)]
  rfl
theorem S5 (f:Int→Rows) (lo:Int) (n:Nat):∀ m:Nat,fm f lo (n+m)=fm f lo n++fm f (lo+(n:Int)) m
 | 0=>(List.append_nil _).symm
 | m+1=>by
  rw [show n+(m+1)=(n+m)+1 by omega,Gc,Gc,S5 f lo n m,List.append_assoc,show lo+((n+m:Nat):Int)=lo+(n:Int)+(m:Int) by omega]
theorem Vl {f:Int→Rows} {lo a:Int} {N n:Nat} (h1:lo≤a) (h2:a+(n:Int)≤lo+(N:Int)) (hz:∀ i,i<a∨a+(n:Int)≤i→f i=[]):fm f lo N=fm f a n:=by
 obtain ⟨u,hu⟩:∃ u:Nat,lo+(u:Int)=a:=⟨(a - lo).toNat,by omega⟩
 obtain ⟨v,hv⟩:∃ v:Nat,N=u+(n+v):=⟨N - u - n,by omega⟩
 rw [hv,S5,S5,hu,El u (fun i i1 i2=>hz i (by omega)),El v (fun i i1 i2=>hz i (by omega)),List.nil_append,List.append_nil]
theorem ZD {f:Int→Rows} {lo:Int} {c:Nat}:∀ n:Nat,(∀ i,(f i).length≤c)→(fm f lo n).length≤n * c
 | 0,_=>Nat.zero_le _
 | n+1,h=>by
  have ih:=ZD (lo:=lo) n h
  have:=h (lo+(n:Int))
  rw [Gc,List.length_append,Nat.succ_mul]
  omega
theorem HT {f:Int→Rows} {lo:Int} {x:List PV}:∀ n:Nat,x∈fm f lo n→∃ i,lo≤i∧i<lo+(n:Int)∧x∈f i
 | 0,h=>absurd h List.not_mem_nil
 | n+1,h=>by
  rw [Gc] at h
  rcases List.mem_append.1 h with h | h
  ·obtain ⟨i,h1,h2,h3⟩:=HT n h
   exact ⟨i,h1,by omega,h3⟩
  ·exact ⟨_,by omega,by omega,h⟩
def ofI (q:List PV→Bool):Rows→Nat
 | []=>0
 | x::D=>cond (q x) 1 0+ofI q D
theorem NZ (q:List PV→Bool):∀ A B,ofI q (A++B)=ofI q A+ofI q B
 | [],B=>(Nat.zero_add _).symm
 | x::A,B=>by
  show cond (q x) 1 0+ofI q (A++B)=cond (q x) 1 0+ofI q A+ofI q B
  rw [NZ q A B,Nat.add_assoc]
theorem Uz {q:List PV→Bool} {f:Int→Rows} {lo:Int}:∀ n:Nat,(∀ i,lo≤i→i<lo+(n:Int)→ofI q (f i)=0)→ofI q (fm f lo n)=0
 | 0,_=>rfl
 | n+1,h=>by
  rw [Gc,NZ,Uz n (fun i h1 h2=>h i h1 (by omega)),h _ (by omega) (by omega)]
theorem L3 {q:List PV→Bool} {f:Int→Rows} {lo:Int} {n:Nat} {i:Int} (h1:lo≤i) (h2:i<lo+(n:Int)) (hz:∀ j,j≠i→ofI q (f j)=0):ofI q (fm f lo n)=ofI q (f i):=by
 obtain ⟨u,hu⟩:∃ u:Nat,lo+(u:Int)=i:=⟨(i - lo).toNat,by omega⟩
 obtain ⟨v,hv⟩:∃ v:Nat,n=u+(1+v):=⟨n - u - 1,by omega⟩
 rw [hv,S5,S5,NZ,NZ,hu,Uz u (fun j j1 j2=>hz j (by omega)),Uz v (fun j j1 j2=>hz j (by omega)),Gc,show i+((0:Nat):Int)=i by omega]
 show 0+(ofI q ([]++f i)+0)=_
 rw [List.nil_append]
 omega
def evK (k s p o:Int) (y:Bool) (n:Int):Ev:=⟨k,s,p,o,y,n,0,⟨0,0,0,0,0,false,0,0,0,0,false,0⟩⟩
def yF (b:Bool) (f:Bool→Rows):Rows:=f false++cond b (f true) []
def MV (g:Int→Int→Int→Bool→Int→Rows) (b:Bool) (sl pl ol rl:Int) (sn pn on rn:Nat):Rows :=
 fm (fun s=>fm (fun p=>fm (fun o=>yF b fun y=>fm (fun n=>g s p o y n) rl rn) ol on) pl pn) sl sn
theorem VE {b:Bool} {f:Bool→Rows} (h:∀ y,f y=[]):yF b f=[]:=by
 unfold yF
 rw [h,h]
 cases b<;>rfl
theorem bg {g : Int → Int → Int → Bool → Int → Rows} {b : Bool} {sl pl ol rl : Int} {sn pn on rn : Nat} (c : 0 ≤ sl ∧ sl + (sn : Int) ≤ 3 ∧ 0 ≤ pl ∧ pl + (pn : Int) ≤ 12 ∧ 0 ≤ ol ∧ ol + (on : Int) ≤ 12 ∧ 0 ≤ rl ∧ rl + (rn : Int) ≤ 100)
    (h:∀ s p o y n,¬ (sl≤s∧s<sl+(sn:Int)∧pl≤p∧p<pl+(pn:Int)∧ol≤o∧o<ol+(on:Int)∧(y=true→b=true)∧rl≤n∧n<rl+(rn:Int))→g s p o y n=[]):MV g b sl pl ol rl sn pn on rn=MV g true 0 0 0 0 3 12 12 100:=by
  unfold MV
  refine Eq.trans ?_ (Vl (a:=sl) (n:=sn) (by omega) (by omega) (fun s hs=>?_)).symm
  · refine P3 sn fun s s1 s2=>?_
    refine Eq.trans ?_ (Vl (a:=pl) (n:=pn) (by omega) (by omega) (fun p hp=>?_)).symm
    · refine P3 pn fun p p1 p2=>?_
      refine Eq.trans ?_ (Vl (a:=ol) (n:=on) (by omega) (by omega) (fun o ho=>?_)).symm
      · refine P3 on fun o o1 o2=>?_
        have e:∀ y,fm (fun n=>g s p o y n) 0 100=fm (fun n=>g s p o y n) rl rn:=fun y=>Vl (by omega) (by omega) (fun n hn=>h s p o y n (by omega))
        show fm (fun n=>g s p o false n) rl rn++cond b (fm (fun n=>g s p o true n) rl rn) []=fm (fun n=>g s p o false n) 0 100++fm (fun n=>g s p o true n) 0 100
        rw [e,e]
        cases hb:b with
        | true=>rfl
        | false =>
          rw [El (f:=fun n=>g s p o true n) rn (fun n _ _=>h s p o true n (fun hh=>by have:=hh.2.2.2.2.2.2.1 rfl;rw [hb] at this;cases this))]
          rfl
      · exact VE fun y=>El _ fun n _ _=>h s p o y n (by omega)
    · exact El _ fun o _ _=>VE fun y=>El _ fun n _ _=>h s p o y n (by omega)
  · exact El _ fun p _ _=>El _ fun o _ _=>VE fun y=>El _ fun n _ _=>h s p o y n (by omega)
end Go.Px
end
section
namespace Go.Px
set_option maxRecDepth 100000
structure AccE (e:Ev):Prop where
 kind:1≤e.kind∧e.kind≤16
 side:cond (uS e.kind) (1≤e.side∧e.side≤2) (e.side=0)
 player:cond (uP e.kind) (1≤e.player∧e.player≤11) (e.player=0)
 other:cond (uO e.kind) (1≤e.other∧e.other≤11) (e.other=0)
 yes:e.yes=true→uY e.kind=true
 runs:cond (uR e.kind) (loS e.kind≤e.runs∧e.runs≤hiS e.kind) (e.runs=0)
 pen:e.kind=13→e.runs=5
 overs:uV e.kind=false→e.overs=0
 ball:uB e.kind=false→Qf e.ball=true
theorem fld {x:Int} {u b:Bool} (h1:(!(x==0) && !u)=false) (h2:(!b&&u)=false) {P:Prop} (hb:b=true→P):cond u P (x=0):=by
 cases u with
 | true =>
  cases b with
  | true=>exact hb rfl
  | false=>cases h2
 | false =>
  cases h:x==0 with
  | true=>exact beq_iff_eq.1 h
  | false=>rw [h] at h1;cases h1
theorem Vb {a b c:Int} (h:btw a b c=true):b≤a∧a≤c:=by
 simp only [btw,iLe,Bool.and_eq_true,decide_eq_true_eq] at h
 exact h
theorem eH {m:Mat} {e:Ev} (h:((BF m e).2==0)=true):AccE e:=by
 obtain ⟨h1,h2,h3,h4,h5⟩:=UR h
 have he:=beq_iff_eq.1 h2
 unfold evS at he
 cases k:iLt e.kind 1||iLt 16 e.kind with
 | true=>rw [k] at he;cases he
 | false =>
  cases e1:Uy e with
  | true=>rw [k,e1] at he;cases he
  | false =>
   cases e2:RC e with
   | true=>rw [k,e1,e2] at he;cases he
   | false =>
    unfold Uy at e1
    unfold RC at e2
    simp only [Bool.or_eq_false_iff] at e1 e2
    obtain ⟨a1,a2,a3,a4,a5,a6,a7⟩:=e1
    obtain ⟨b1,b2,b3,b4,b5⟩:=e2
    have kb:1≤e.kind∧e.kind≤16:=by
     simp only [Bool.or_eq_false_iff,iLt,decide_eq_false_iff_not] at k
     omega
    refine ⟨kb,fld a1 b1 Vb,fld a2 b2 Vb,fld a3 b3 Vb,?_,fld a5 b4 Vb,?_,?_,?_⟩
    ·intro y
     rw [y] at a4
     cases u:uY e.kind with
     | true=>rfl
     | false=>rw [u] at a4;cases a4
    ·intro k13
     have ha:JC m e=cond (!(m.stage==3)) (m,1) (TF m e):=by unfold JC;rw [k13];rfl
     rw [ha] at h4
     cases s3:m.stage==3 with
     | false=>rw [s3] at h4;cases h4
     | true =>
      rw [s3] at h4
      change ((TF m e).2==0)=true at h4
      unfold TF at h4
      dsimp only at h4
      cases t0:(Ci m.rules (Cl m) e).2==0 with
      | false=>rw [t0] at h4;exact absurd (show ((Ci m.rules (Cl m) e).2==0)=true from h4) (by rw [t0];decide)
      | true =>
       obtain ⟨hv,he',hn,hw,hp,hs⟩:=ek t0
       have hpb:CM m.rules (Cl m) e=HK (Cl m) e.side e.runs:=by unfold CM;rw [k13];rfl
       rw [hpb] at hp
       unfold HK at hp
       cases r5:e.runs==5 with
       | true=>exact beq_iff_eq.1 r5
       | false=>rw [r5] at hp;cases hp
    ·intro u
     rw [u] at a6
     cases o:e.overs==0 with
     | true=>exact beq_iff_eq.1 o
     | false=>rw [o] at a6;cases a6
    ·intro u
     rw [u] at a7
     cases o:Qf e.ball with
     | true=>rfl
     | false=>rw [o] at a7;cases a7
def PI (e:Ev):List PV:=[.int e.kind,.int e.side,.int e.player,.int e.other,.bool e.yes,.int e.runs,.int e.overs]++e.ball.ls
def A7 (m:Mat) (k s p o:Int) (y:Bool) (n:Int):Rows:=cond ((BF m (evK k s p o y n)).2==0) [PI (evK k s p o y n)] []
def UU (m:Mat) (k:Int):Rows:=MV (A7 m k) true 0 0 0 0 3 12 12 100
theorem Z7 {m:Mat} {k s p o:Int} {y:Bool} {n:Int} (h:¬ AccE (evK k s p o y n)):A7 m k s p o y n=[]:=by
 unfold A7
 cases hx:(BF m (evK k s p o y n)).2==0 with
 | false=>rfl
 | true=>exact absurd (eH hx) h
def Qc (m:Mat) (k:Int):Rows:=MV (A7 m k) (uY k) (cond (uS k) 1 0) (cond (uP k) 1 0) (cond (uO k) 1 0) (cond (k==13) 1 0) (cond (uS k) 2 1) (cond (uP k) 11 1) (cond (uO k) 11 1) (cond (k==7) 12 (cond (k==13) 99 1))
def aE (m:Mat) (k:Int):Rows:=MV (A7 m k) (uY k) 0 0 0 0 (cond (uS k) 3 1) (cond (uP k) 12 1) (cond (uO k) 12 1) (cond (uR k) 12 1)
theorem bP (m:Mat) {k:Int} (h15:¬ k=15):Qc m k=UU m k∧aE m k=UU m k:=by
 refine ⟨bg ?_ fun s p o y n h=>Z7 fun a=>h ?_,bg ?_ fun s p o y n h=>Z7 fun a=>h ?_⟩
 ·cases uS k<;>cases uP k<;>cases uO k<;>cases k==13<;>cases k==7<;>simp only [cond_true,cond_false]<;>omega
 ·have a1:=a.side
  have a2:=a.player
  have a3:=a.other
  have a4:=a.yes
  have a5:=a.runs
  have a6:=a.pen
  change cond (uS k) (1≤s∧s≤2) (s=0) at a1
  change cond (uP k) (1≤p∧p≤11) (p=0) at a2
  change cond (uO k) (1≤o∧o≤11) (o=0) at a3
  change y=true→uY k=true at a4
  change cond (uR k) (loS k≤n∧n≤hiS k) (n=0) at a5
  change k=13→n=5 at a6
  have c1:(cond (uS k) 1 0:Int)≤s∧s<(cond (uS k) 1 0:Int)+((cond (uS k) 2 1:Nat):Int):=by
   cases h:uS k<;>rw [h] at a1<;>simp only [cond_true,cond_false] at a1 ⊢<;>omega
  have c2:(cond (uP k) 1 0:Int)≤p∧p<(cond (uP k) 1 0:Int)+((cond (uP k) 11 1:Nat):Int):=by
   cases h:uP k<;>rw [h] at a2<;>simp only [cond_true,cond_false] at a2 ⊢<;>omega
  have c3:(cond (uO k) 1 0:Int)≤o∧o<(cond (uO k) 1 0:Int)+((cond (uO k) 11 1:Nat):Int):=by
   cases h:uO k<;>rw [h] at a3<;>simp only [cond_true,cond_false] at a3 ⊢<;>omega
  have c4:(cond (k==13) 1 0:Int)≤n∧n<(cond (k==13) 1 0:Int)+((cond (k==7) 12 (cond (k==13) 99 1):Nat):Int):=by
   unfold uR loS hiS at a5
   cases h7:k==7 with
   | true =>
    rw [beq_iff_eq.1 h7] at a5 ⊢
    change 0≤n∧n≤11 at a5
    show (0:Int)≤n∧n<0+((12:Nat):Int)
    omega
   | false =>
    cases h13:k==13 with
    | true =>
     have:=a6 (beq_iff_eq.1 h13)
     show (1:Int)≤n∧n<1+((99:Nat):Int)
     omega
    | false =>
     rw [h7,h13,beq_false_of_ne h15] at a5
     change n=0 at a5
     show (0:Int)≤n∧n<0+((1:Nat):Int)
     omega
  exact ⟨c1.1,c1.2,c2.1,c2.2,c3.1,c3.2,a4,c4.1,c4.2⟩
 ·cases uS k<;>cases uP k<;>cases uO k<;>cases uR k<;>simp only [cond_true,cond_false]<;>omega
 ·have a1:=a.side
  have a2:=a.player
  have a3:=a.other
  have a4:=a.yes
  have a5:=a.runs
  have a6:=a.pen
  change cond (uS k) (1≤s∧s≤2) (s=0) at a1
  change cond (uP k) (1≤p∧p≤11) (p=0) at a2
  change cond (uO k) (1≤o∧o≤11) (o=0) at a3
  change y=true→uY k=true at a4
  change cond (uR k) (loS k≤n∧n≤hiS k) (n=0) at a5
  change k=13→n=5 at a6
  have c1:0≤s∧s<0+((cond (uS k) 3 1:Nat):Int):=by
   cases h:uS k<;>rw [h] at a1<;>simp only [cond_true,cond_false] at a1 ⊢<;>omega
  have c2:0≤p∧p<0+((cond (uP k) 12 1:Nat):Int):=by
   cases h:uP k<;>rw [h] at a2<;>simp only [cond_true,cond_false] at a2 ⊢<;>omega
  have c3:0≤o∧o<0+((cond (uO k) 12 1:Nat):Int):=by
   cases h:uO k<;>rw [h] at a3<;>simp only [cond_true,cond_false] at a3 ⊢<;>omega
  have c4:0≤n∧n<0+((cond (uR k) 12 1:Nat):Int):=by
   cases h:uR k with
   | false =>
    rw [h] at a5
    change n=0 at a5
    show (0:Int)≤n∧n<0+((1:Nat):Int)
    omega
   | true =>
    rw [h] at a5
    show (0:Int)≤n∧n<0+((12:Nat):Int)
    unfold uR at h
    simp only [Bool.or_eq_true,beq_iff_eq] at h
    rcases h with (h | h) | h
    ·rw [h] at a5
     change 0≤n∧n≤11 at a5
     omega
    ·have:=a6 h
     omega
    ·exact absurd h h15
  exact ⟨c1.1,c1.2,c2.1,c2.2,c3.1,c3.2,a4,c4.1,c4.2⟩
def Ep (m:Mat):Rows:=fm (fun k=>cond (k==4||k==15) [] (UU m k)) 1 16
end Go.Px
end
section
namespace Go.Px
set_option maxRecDepth 100000
def upL (a:Int) (n:Nat):Rows:=fm (fun v=>[[PV.int v]]) a n
theorem Dh (a:Int):∀ n,(upL a n).length=n
 | 0=>rfl
 | n+1=>by
  show (upL a n++[[PV.int (a+(n:Int))]]).length=n+1
  rw [List.length_append,Dh a n]
  rfl
theorem Zu (a:Int):∀ n i:Nat,i<n→Am (upL a n) i=[PV.int (a+(i:Int))]
 | 0,i,h=>absurd h (Nat.not_lt_zero _)
 | n+1,i,h=>by
  show Am (upL a n++[[PV.int (a+(n:Int))]]) i=_
  unfold Am
  rw [List.getD_eq_getElem?_getD,List.getElem?_append,Dh]
  by_cases e:i<n
  ·rw [if_pos e]
   have:=Zu a n i e
   unfold Am at this
   rw [List.getD_eq_getElem?_getD] at this
   exact this
  ·rw [if_neg e]
   have:i=n:=by omega
   rw [this,Nat.sub_self]
   rfl
theorem SM {a:Int} {n i:Nat} (h:i<n):pvI (AA (upL a n) i 0)=a+(i:Int):=by
 unfold AA
 rw [Zu a n i h]
 rfl
theorem eY {F : (List AW → Option (List PV)) → List PV → Option (List PV)} {len : Nat} (enc : Nat → List AW) (fin : List PV) {x : List PV} (hx : x = (enc 0).map Leaf.pv)
    (h0:∀ self,F self ((enc len).map Leaf.pv)=some fin) (h1:∀ i self,i<len→F self ((enc i).map Leaf.pv)=self (enc (i+1))) (n:Nat) (hn:len<n):Gk F n x=some fin:=by
  rw [hx]
  exact CO enc fin h0 h1 n hn
set_option maxHeartbeats 1000000 in
theorem KY {N:Nat} {a b:Int} {n:Nat} (hN:2097152<N) (ha:0≤a) (hb:b=a+(n:Int) - 1) (hc:a+(n:Int)≤1000):Cr N [.int a,.int b]=some [.rows (upL a n)]:=by
 show KF (std (QT N) N) (xOf _)=_
 simp only [KF,std,xOf,PXb]
 refine AZ (eY (len:=n) (fun i=>[.rows (upL a i),.int (a+(i:Int))]) [.rows (upL a n)] (by show [PV.rows [],PV.int a]=[PV.rows [],PV.int (a+((0:Nat):Int))];rw [show a+((0:Nat):Int)=a by omega]) ?_ ?_ N (by omega)) ?_
 ·intro self
  have:iLe (a+(n:Int)) b=false:=by simp only [iLe,decide_eq_false_iff_not];omega
  simp only [PXb,PXc,PXn,AG,this]
 ·intro i self hi
  have l:iLe (a+(i:Int)) b=true:=by simp only [iLe,decide_eq_true_eq];omega
  have w:IntKind.i64.wrap (a+(i:Int)+1)=a+((i+1:Nat):Int):=by rw [HI (by omega) (by omega)];omega
  have sm:iSm ((i+1:Nat):Int) 8=true:=G7 (by omega) (by omega)
  simp only [PXb,PXc,PXn,AG,l,w,List.length_append,Dh,List.length_cons,List.length_nil,Nat.zero_add,sm]
  rfl
 ·rfl
def okK (k:Int):Bool:=k==1||k==12||k==14||k==2||k==3||k==8||k==5||k==6||k==9||k==7||k==11||k==13||k==10||k==16
def aV (k:Int):Rows:=upL (cond (uS k) 1 0) (cond (uS k) 2 1)
def au (k:Int):Rows:=upL (cond (uP k) 1 0) (cond (uP k) 11 1)
def ck (k:Int):Rows:=upL (cond (uO k) 1 0) (cond (uO k) 11 1)
def dL (k:Int):Rows:=upL (cond (k==13) 1 0) (cond (k==7) 12 (cond (k==13) 99 1))
set_option maxHeartbeats 4000000 in
theorem Wd {N:Nat} {k:Int} (hN:2097152<N):Fn N [.int k]=some [.rows (aV k),.rows (au k),.rows (ck k),.rows (dL k),.bool (uY k),.bool (okK k)]:=by
 show Fm (std (Ch N) N) (xOf _)=_
 have u1:Cr N [.int 1,.int 2]=some [.rows (upL 1 2)]:=KY (n:=2) hN (by omega) rfl (by omega)
 have u2:Cr N [.int 1,.int 11]=some [.rows (upL 1 11)]:=KY (n:=11) hN (by omega) rfl (by omega)
 have u3:Cr N [.int 0,.int 11]=some [.rows (upL 0 12)]:=KY (n:=12) hN (by omega) rfl (by omega)
 have u4:Cr N [.int 1,.int 99]=some [.rows (upL 1 99)]:=KY (n:=99) hN (by omega) rfl (by omega)
 simp only [Fm,NJ,std,xOf,PXb,u1,u2,u3,u4]
 cases hk:(iLt k 1||iLt 16 k) with
 | false=>rcases QR hk with h | h | h | h | h | h | h | h | h | h | h | h | h | h | h | h<;>subst h<;>rfl
 | true =>
  have no:=fun n h1 h2=>dE hk n h1 h2
  have e:∀ n:Int,1≤n→n≤16→(k==n)=false:=no
  unfold aV au ck dL uS uP uO uY okK
  simp only [PXb,e 1 (by omega) (by omega),e 2 (by omega) (by omega),e 3 (by omega) (by omega),e 5 (by omega) (by omega),e 6 (by omega) (by omega),e 7 (by omega) (by omega),e 8 (by omega) (by omega),e 9 (by omega) (by omega),e 10 (by omega) (by omega),e 11 (by omega) (by omega),e 12 (by omega) (by omega),e 13 (by omega) (by omega),e 14 (by omega) (by omega),e 16 (by omega) (by omega)]
  rfl
set_option maxHeartbeats 1000000 in
theorem Ts {N:Nat} {m1 m2 m3 m4 m5 m6 m7 m9 m10 m11 m12 m14 m15 m18 m19 m20 m21 m22:Int} {m8 m16:Bool} {m0:ByteArray} {m13:Rows} {m17:List Inn} {e0 e1 e2 e3 e5 e6 e7 e8 e9 e10 e11 e13 e14 e15 e16 e18:Int} {e4 e12 e17:Bool} (hN:2097152<N) (hf:Gl m17) (hl:m17.length≤1000000) (hs:m0.size≤1048576) (h13:m13.length≤1048576):CG N [.str m0,.int m1,.int m2,.int m3,.int m4,.int m5,.int m6,.int m7,.bool m8,.int m9,.int m10,.int m11,.int m12,.rows m13,.int m14,.int m15,.bool m16,.rows (AL m17),.int m18,.int m19,.int m20,.int m21,.int m22,.int e0,.int e1,.int e2,.int e3,.bool e4,.int e5,.int e6,.int e7,.int e8,.int e9,.int e10,.int e11,.bool e12,.int e13,.int e14,.int e15,.int e16,.bool e17,.int e18]=some [.int (BF (⟨⟨m0,m1,m2,m3,m4,m5,m6,m7,m8,m9,m10,m11,m12,m13⟩,m14,m15,m16,m17,m18,m19,m20,m21,m22⟩:Mat) (⟨e0,e1,e2,e3,e4,e5,e6,⟨e7,e8,e9,e10,e11,e12,e13,e14,e15,e16,e17,e18⟩⟩:Ev)).2]:=by
 show Lk (std (MP N) N) (xOf _)=_
 simp only [Lk,Pd,std,xOf,PXb,OK hN hf hl hs h13]
 rfl
end Go.Px
end
section
namespace Go.Px
set_option maxRecDepth 100000
theorem K1 {i:Nat} (h:i≤1099511627776):IntKind.i64.wrap ((i:Int)+1)=((i+1:Nat):Int):=Av h
def fmo (out:Rows) (f:Int→Rows) (lo:Int):Nat→Rows
 | 0=>out
 | n+1=>fmo out f lo n++f (lo+(n:Int))
theorem Nq (out:Rows) (f:Int→Rows) (lo:Int) (n:Nat):fmo out f lo (n+1)=fmo out f lo n++f (lo+(n:Int)):=rfl
theorem Pq (out:Rows) (f:Int→Rows) (lo:Int):∀ n,fmo out f lo n=out++fm f lo n
 | 0=>(List.append_nil _).symm
 | n+1=>by rw [Nq,Gc,Pq out f lo n,List.append_assoc]
theorem Zw (f:Int→Rows) (lo:Int) (n:Nat):fmo [] f lo n=fm f lo n:=Pq [] f lo n
theorem QP {out:Rows} {f:Int→Rows} {lo:Int} {c k n:Nat} (h:∀ i,(f i).length≤c) (hk:n≤k):(fmo out f lo n).length≤out.length+k * c:=by
 have:=ZD (f:=f) (lo:=lo) n h
 have:=Nat.mul_le_mul_right c hk
 rw [Pq,List.length_append]
 omega
theorem ER {f:Int→Rows} {lo:Int} {c k n:Nat} (h:∀ i,(f i).length≤c) (hk:n≤k):(fm f lo n).length≤k * c :=
 Nat.le_trans (ZD n h) (Nat.mul_le_mul_right c hk)
theorem Y9 {b:Bool} {f:Bool→Rows} {c:Nat} (h:∀ y,(f y).length≤c):(yF b f).length≤2 * c:=by
 unfold yF
 have h1:=h false
 have h2:=h true
 rw [List.length_append]
 cases b
 ·show (f false).length+0≤_
  omega
 ·show (f false).length+(f true).length≤_
  omega
theorem WO (m:Mat) (k s p o:Int) (y:Bool) (n:Int):(A7 m k s p o y n).length≤1:=by
 unfold A7
 cases (BF m (evK k s p o y n)).2==0
 ·exact Nat.zero_le _
 ·exact Nat.le_refl _
def yfo (b:Bool) (f:Bool→Rows) (out:Rows):Nat→Rows
 | 0=>out
 | 1=>out++f false
 | _=>out++f false++cond b (f true) []
theorem gJ (b:Bool) (f:Bool→Rows) (out:Rows):yfo b f out 2=out++yF b f:=List.append_assoc _ _ _
theorem lt2 {i:Nat} (h:i<2):i=0∨i=1:=by omega
set_option maxHeartbeats 8000000 in
theorem aN {N:Nat} {m1 m2 m3 m4 m5 m6 m7 m9 m10 m11 m12 m14 m15 m18 m19 m20 m21 m22:Int} {m8 m16:Bool} {m0:ByteArray} {m13:Rows} {m17:List Inn} {k:Int} (hN:2097152<N) (hf:Gl m17) (hl:m17.length≤1000000) (hs:m0.size≤1048576) (h13:m13.length≤1048576):F7 N [.str m0,.int m1,.int m2,.int m3,.int m4,.int m5,.int m6,.int m7,.bool m8,.int m9,.int m10,.int m11,.int m12,.rows m13,.int m14,.int m15,.bool m16,.rows (AL m17),.int m18,.int m19,.int m20,.int m21,.int m22,.int k]=some [.rows (cond (okK k&&Bk (⟨⟨m0,m1,m2,m3,m4,m5,m6,m7,m8,m9,m10,m11,m12,m13⟩,m14,m15,m16,m17,m18,m19,m20,m21,m22⟩:Mat)) (Qc (⟨⟨m0,m1,m2,m3,m4,m5,m6,m7,m8,m9,m10,m11,m12,m13⟩,m14,m15,m16,m17,m18,m19,m20,m21,m22⟩:Mat) k) [])]:=by
  show J2 (std (Cw N) N) (xOf _)=_
  generalize hres:(some [.rows (cond (okK k&&Bk (⟨⟨m0,m1,m2,m3,m4,m5,m6,m7,m8,m9,m10,m11,m12,m13⟩,m14,m15,m16,m17,m18,m19,m20,m21,m22⟩:Mat)) (Qc (⟨⟨m0,m1,m2,m3,m4,m5,m6,m7,m8,m9,m10,m11,m12,m13⟩,m14,m15,m16,m17,m18,m19,m20,m21,m22⟩:Mat) k) [])]:Option (List PV))=RR
  simp only [J2,Pg,Q1,OV,std,xOf,PXb,Wd hN,Ip hf hN hl hs]
  subst hres;simp only [Qc]
  cases hk:okK k with
  | false=>rfl
  | true =>
    cases hv:Bk (⟨⟨m0,m1,m2,m3,m4,m5,m6,m7,m8,m9,m10,m11,m12,m13⟩,m14,m15,m16,m17,m18,m19,m20,m21,m22⟩:Mat) with
    | false=>rfl
    | true =>
      have c1:(cond (uS k) 2 1:Nat)≤2:=by cases uS k<;>decide
      have c2:(cond (uP k) 11 1:Nat)≤11:=by cases uP k<;>decide
      have c3:(cond (uO k) 11 1:Nat)≤11:=by cases uO k<;>decide
      have c4:(cond (k==7) 12 (cond (k==13) 99 1):Nat)≤99:=by cases k==7<;>cases k==13<;>decide
      unfold aV au ck dL MV
      generalize (cond (uS k) 2 1:Nat)=sn at *
      generalize (cond (uP k) 11 1:Nat)=pn at *
      generalize (cond (uO k) 11 1:Nat)=on at *
      generalize (cond (k==7) 12 (cond (k==13) 99 1):Nat)=rn at *
      generalize (cond (uS k) 1 0:Int)=sl at *
      generalize (cond (uP k) 1 0:Int)=pl at *
      generalize (cond (uO k) 1 0:Int)=ol at *
      generalize (cond (k==13) 1 0:Int)=rl at *
      generalize uY k=yb at *
      have WHY:∀ s p o:Int,∀ y:Bool,∀ n:Int,CG N [.str m0,.int m1,.int m2,.int m3,.int m4,.int m5,.int m6,.int m7,.bool m8,.int m9,.int m10,.int m11,.int m12,.rows m13,.int m14,.int m15,.bool m16,.rows (AL m17),.int m18,.int m19,.int m20,.int m21,.int m22,.int k,.int s,.int p,.int o,.bool y,.int n,.int 0,.int 0,.int 0,.int 0,.int 0,.int 0,.bool false,.int 0,.int 0,.int 0,.int 0,.bool false,.int 0]=some [.int (BF (⟨⟨m0,m1,m2,m3,m4,m5,m6,m7,m8,m9,m10,m11,m12,m13⟩,m14,m15,m16,m17,m18,m19,m20,m21,m22⟩:Mat) (evK k s p o y n)).2]:=fun s p o y n=>Ts hN hf hl hs h13
      have ONE:∀ s p o:Int,∀ y:Bool,∀ n:Int,A7 (⟨⟨m0,m1,m2,m3,m4,m5,m6,m7,m8,m9,m10,m11,m12,m13⟩,m14,m15,m16,m17,m18,m19,m20,m21,m22⟩:Mat) k s p o y n=cond ((BF (⟨⟨m0,m1,m2,m3,m4,m5,m6,m7,m8,m9,m10,m11,m12,m13⟩,m14,m15,m16,m17,m18,m19,m20,m21,m22⟩:Mat) (evK k s p o y n)).2==0) [[.int k,.int s,.int p,.int o,.bool y,.int n,.int 0,.int 0,.int 0,.int 0,.int 0,.int 0,.bool false,.int 0,.int 0,.int 0,.int 0,.bool false,.int 0]] []:=fun s p o y n=>rfl
      have l1:∀ s p o:Int,∀ y:Bool,∀ n:Int,(A7 (⟨⟨m0,m1,m2,m3,m4,m5,m6,m7,m8,m9,m10,m11,m12,m13⟩,m14,m15,m16,m17,m18,m19,m20,m21,m22⟩:Mat) k s p o y n).length≤1:=fun s p o y n=>WO _ k s p o y n
      have l2:∀ s p o:Int,∀ y:Bool,(fm (fun n=>A7 (⟨⟨m0,m1,m2,m3,m4,m5,m6,m7,m8,m9,m10,m11,m12,m13⟩,m14,m15,m16,m17,m18,m19,m20,m21,m22⟩:Mat) k s p o y n) rl rn).length≤99 * 1:=fun s p o y=>ER (l1 s p o y) c4
      have l3:∀ s p o:Int,(yF yb fun y=>fm (fun n=>A7 (⟨⟨m0,m1,m2,m3,m4,m5,m6,m7,m8,m9,m10,m11,m12,m13⟩,m14,m15,m16,m17,m18,m19,m20,m21,m22⟩:Mat) k s p o y n) rl rn).length≤2 * (99 * 1):=fun s p o=>Y9 (l2 s p o)
      have l4:∀ s p:Int,(fm (fun o=>yF yb fun y=>fm (fun n=>A7 (⟨⟨m0,m1,m2,m3,m4,m5,m6,m7,m8,m9,m10,m11,m12,m13⟩,m14,m15,m16,m17,m18,m19,m20,m21,m22⟩:Mat) k s p o y n) rl rn) ol on).length≤11 * (2 * (99 * 1)):=fun s p=>ER (l3 s p) c3
      have l5:∀ s:Int,(fm (fun p=>fm (fun o=>yF yb fun y=>fm (fun n=>A7 (⟨⟨m0,m1,m2,m3,m4,m5,m6,m7,m8,m9,m10,m11,m12,m13⟩,m14,m15,m16,m17,m18,m19,m20,m21,m22⟩:Mat) k s p o y n) rl rn) ol on) pl pn).length≤11 * (11 * (2 * (99 * 1))):=fun s=>ER (l4 s) c2
      simp only [PXb,Bool.not_true,Bool.and_true]
      refine AZ (CO (len:=sn) (fun i=>[.int (i:Int),.str m0,.int m1,.int m2,.int m3,.int m4,.int m5,.int m6,.int m7,.bool m8,.int m9,.int m10,.int m11,.int m12,.rows m13,.int m14,.int m15,.bool m16,.rows (AL m17),.int m18,.int m19,.int m20,.int m21,.int m22,.rows (fmo [] (fun s=>fm (fun p=>fm (fun o=>yF yb fun y=>fm (fun n=>A7 (⟨⟨m0,m1,m2,m3,m4,m5,m6,m7,m8,m9,m10,m11,m12,m13⟩,m14,m15,m16,m17,m18,m19,m20,m21,m22⟩:Mat) k s p o y n) rl rn) ol on) pl pn) sl i)]) [.str m0,.int m1,.int m2,.int m3,.int m4,.int m5,.int m6,.int m7,.bool m8,.int m9,.int m10,.int m11,.int m12,.rows m13,.int m14,.int m15,.bool m16,.rows (AL m17),.int m18,.int m19,.int m20,.int m21,.int m22,.rows (fmo [] (fun s=>fm (fun p=>fm (fun o=>yF yb fun y=>fm (fun n=>A7 (⟨⟨m0,m1,m2,m3,m4,m5,m6,m7,m8,m9,m10,m11,m12,m13⟩,m14,m15,m16,m17,m18,m19,m20,m21,m22⟩:Mat) k s p o y n) rl rn) ol on) pl pn) sl sn)] ?_ ?_ N (by omega)) ?_
      · intro self
        simp only [PXb,PXc,PXn,AG,Dh,BT]
      · intro i self hi
        have b1:=QP (out:=[]) (lo:=sl) (n:=i) l5 (k:=2) (by omega)
        rw [List.length_nil,Nat.zero_add] at b1
        rw [Nq]
        generalize fmo [] (fun s=>fm (fun p=>fm (fun o=>yF yb fun y=>fm (fun n=>A7 (⟨⟨m0,m1,m2,m3,m4,m5,m6,m7,m8,m9,m10,m11,m12,m13⟩,m14,m15,m16,m17,m18,m19,m20,m21,m22⟩:Mat) k s p o y n) rl rn) ol on) pl pn) sl i=out1 at *
        rw [← Pq]
        simp only [PXb,PXc,PXn,AG,Dh,A9 hi,Ak hi,Int.toNat_natCast,SM hi]
        generalize sl+(i:Int)=s at *
        refine AZ (CO (len:=pn) (fun j=>[.int (j:Int),.str m0,.int m1,.int m2,.int m3,.int m4,.int m5,.int m6,.int m7,.bool m8,.int m9,.int m10,.int m11,.int m12,.rows m13,.int m14,.int m15,.bool m16,.rows (AL m17),.int m18,.int m19,.int m20,.int m21,.int m22,.rows (fmo out1 (fun p=>fm (fun o=>yF yb fun y=>fm (fun n=>A7 (⟨⟨m0,m1,m2,m3,m4,m5,m6,m7,m8,m9,m10,m11,m12,m13⟩,m14,m15,m16,m17,m18,m19,m20,m21,m22⟩:Mat) k s p o y n) rl rn) ol on) pl j)]) [.int (pn:Int),.str m0,.int m1,.int m2,.int m3,.int m4,.int m5,.int m6,.int m7,.bool m8,.int m9,.int m10,.int m11,.int m12,.rows m13,.int m14,.int m15,.bool m16,.rows (AL m17),.int m18,.int m19,.int m20,.int m21,.int m22,.rows (fmo out1 (fun p=>fm (fun o=>yF yb fun y=>fm (fun n=>A7 (⟨⟨m0,m1,m2,m3,m4,m5,m6,m7,m8,m9,m10,m11,m12,m13⟩,m14,m15,m16,m17,m18,m19,m20,m21,m22⟩:Mat) k s p o y n) rl rn) ol on) pl pn)] ?_ ?_ N (by omega)) ?_
        · intro self
          simp only [PXb,PXc,PXn,AG,Dh,BT]
        · intro j self hj
          have b2:=QP (out:=out1) (lo:=pl) (n:=j) (l4 s) (k:=11) (by omega)
          rw [Nq]
          generalize fmo out1 (fun p=>fm (fun o=>yF yb fun y=>fm (fun n=>A7 (⟨⟨m0,m1,m2,m3,m4,m5,m6,m7,m8,m9,m10,m11,m12,m13⟩,m14,m15,m16,m17,m18,m19,m20,m21,m22⟩:Mat) k s p o y n) rl rn) ol on) pl j=out2 at *
          rw [← Pq]
          simp only [PXb,PXc,PXn,AG,Dh,A9 hj,Ak hj,Int.toNat_natCast,SM hj]
          generalize pl+(j:Int)=p at *
          refine AZ (CO (len:=on) (fun q=>[.int (q:Int),.str m0,.int m1,.int m2,.int m3,.int m4,.int m5,.int m6,.int m7,.bool m8,.int m9,.int m10,.int m11,.int m12,.rows m13,.int m14,.int m15,.bool m16,.rows (AL m17),.int m18,.int m19,.int m20,.int m21,.int m22,.rows (fmo out2 (fun o=>yF yb fun y=>fm (fun n=>A7 (⟨⟨m0,m1,m2,m3,m4,m5,m6,m7,m8,m9,m10,m11,m12,m13⟩,m14,m15,m16,m17,m18,m19,m20,m21,m22⟩:Mat) k s p o y n) rl rn) ol q)]) [.int (on:Int),.str m0,.int m1,.int m2,.int m3,.int m4,.int m5,.int m6,.int m7,.bool m8,.int m9,.int m10,.int m11,.int m12,.rows m13,.int m14,.int m15,.bool m16,.rows (AL m17),.int m18,.int m19,.int m20,.int m21,.int m22,.rows (fmo out2 (fun o=>yF yb fun y=>fm (fun n=>A7 (⟨⟨m0,m1,m2,m3,m4,m5,m6,m7,m8,m9,m10,m11,m12,m13⟩,m14,m15,m16,m17,m18,m19,m20,m21,m22⟩:Mat) k s p o y n) rl rn) ol on)] ?_ ?_ N (by omega)) ?_
          · intro self
            simp only [PXb,PXc,PXn,AG,Dh,BT]
          · intro q self hq
            have b3:=QP (out:=out2) (lo:=ol) (n:=q) (l3 s p) (k:=11) (by omega)
            rw [Nq]
            generalize fmo out2 (fun o=>yF yb fun y=>fm (fun n=>A7 (⟨⟨m0,m1,m2,m3,m4,m5,m6,m7,m8,m9,m10,m11,m12,m13⟩,m14,m15,m16,m17,m18,m19,m20,m21,m22⟩:Mat) k s p o y n) rl rn) ol q=out3 at *
            rw [← gJ]
            simp only [PXb,PXc,PXn,AG,Dh,A9 hq,Ak hq,Int.toNat_natCast,SM hq]
            generalize ol+(q:Int)=o at *
            refine AZ (CO (len:=2) (fun u=>[.int (u:Int),.str m0,.int m1,.int m2,.int m3,.int m4,.int m5,.int m6,.int m7,.bool m8,.int m9,.int m10,.int m11,.int m12,.rows m13,.int m14,.int m15,.bool m16,.rows (AL m17),.int m18,.int m19,.int m20,.int m21,.int m22,.rows (yfo yb (fun y=>fm (fun n=>A7 (⟨⟨m0,m1,m2,m3,m4,m5,m6,m7,m8,m9,m10,m11,m12,m13⟩,m14,m15,m16,m17,m18,m19,m20,m21,m22⟩:Mat) k s p o y n) rl rn) out3 u)]) [.int 2,.str m0,.int m1,.int m2,.int m3,.int m4,.int m5,.int m6,.int m7,.bool m8,.int m9,.int m10,.int m11,.int m12,.rows m13,.int m14,.int m15,.bool m16,.rows (AL m17),.int m18,.int m19,.int m20,.int m21,.int m22,.rows (yfo yb (fun y=>fm (fun n=>A7 (⟨⟨m0,m1,m2,m3,m4,m5,m6,m7,m8,m9,m10,m11,m12,m13⟩,m14,m15,m16,m17,m18,m19,m20,m21,m22⟩:Mat) k s p o y n) rl rn) out3 2)] ?_ ?_ N (by omega)) ?_
            · intro self
              rfl
            · intro u self hu
              have INNER : ∀ (y : Bool) (out4 : Rows), out4.length ≤ 1000000 → ∀ (F : (List AW → Option (List PV)) → List PV → Option (List PV)), (∀ out self, F self [.int (rn : Int), .str m0, .int m1, .int m2, .int m3, .int m4, .int m5, .int m6, .int m7, .bool m8, .int m9, .int m10, .int m11, .int m12, .rows m13, .int m14, .int m15, .bool m16, .rows (AL m17), .int m18, .int m19, .int m20, .int m21, .int m22, .rows out] = some [.int (rn : Int), .str m0, .int m1, .int m2, .int m3, .int m4, .int m5, .int m6, .int m7, .bool m8, .int m9, .int m10, .int m11, .int m12, .rows m13, .int m14, .int m15, .bool m16, .rows (AL m17), .int m18, .int m19, .int m20, .int m21, .int m22, .rows out]) →
                  (∀ (v:Nat) out self,v<rn→out.length≤1000099→F self [.int (v:Int),.str m0,.int m1,.int m2,.int m3,.int m4,.int m5,.int m6,.int m7,.bool m8,.int m9,.int m10,.int m11,.int m12,.rows m13,.int m14,.int m15,.bool m16,.rows (AL m17),.int m18,.int m19,.int m20,.int m21,.int m22,.rows out]=self [.int ((v+1:Nat):Int),.str m0,.int m1,.int m2,.int m3,.int m4,.int m5,.int m6,.int m7,.bool m8,.int m9,.int m10,.int m11,.int m12,.rows m13,.int m14,.int m15,.bool m16,.rows (AL m17),.int m18,.int m19,.int m20,.int m21,.int m22,.rows (out++A7 (⟨⟨m0,m1,m2,m3,m4,m5,m6,m7,m8,m9,m10,m11,m12,m13⟩,m14,m15,m16,m17,m18,m19,m20,m21,m22⟩:Mat) k s p o y (rl+(v:Int)))]) →
                  Gk F N [.int 0,.str m0,.int m1,.int m2,.int m3,.int m4,.int m5,.int m6,.int m7,.bool m8,.int m9,.int m10,.int m11,.int m12,.rows m13,.int m14,.int m15,.bool m16,.rows (AL m17),.int m18,.int m19,.int m20,.int m21,.int m22,.rows out4]=some [.int (rn:Int),.str m0,.int m1,.int m2,.int m3,.int m4,.int m5,.int m6,.int m7,.bool m8,.int m9,.int m10,.int m11,.int m12,.rows m13,.int m14,.int m15,.bool m16,.rows (AL m17),.int m18,.int m19,.int m20,.int m21,.int m22,.rows (out4++fm (fun n=>A7 (⟨⟨m0,m1,m2,m3,m4,m5,m6,m7,m8,m9,m10,m11,m12,m13⟩,m14,m15,m16,m17,m18,m19,m20,m21,m22⟩:Mat) k s p o y n) rl rn)]:=fun y out4 ho F h0 h1=>by
                have:=CO (F:=F) (len:=rn) (fun v=>[.int (v:Int),.str m0,.int m1,.int m2,.int m3,.int m4,.int m5,.int m6,.int m7,.bool m8,.int m9,.int m10,.int m11,.int m12,.rows m13,.int m14,.int m15,.bool m16,.rows (AL m17),.int m18,.int m19,.int m20,.int m21,.int m22,.rows (fmo out4 (fun n=>A7 (⟨⟨m0,m1,m2,m3,m4,m5,m6,m7,m8,m9,m10,m11,m12,m13⟩,m14,m15,m16,m17,m18,m19,m20,m21,m22⟩:Mat) k s p o y n) rl v)]) [.int (rn:Int),.str m0,.int m1,.int m2,.int m3,.int m4,.int m5,.int m6,.int m7,.bool m8,.int m9,.int m10,.int m11,.int m12,.rows m13,.int m14,.int m15,.bool m16,.rows (AL m17),.int m18,.int m19,.int m20,.int m21,.int m22,.rows (fmo out4 (fun n=>A7 (⟨⟨m0,m1,m2,m3,m4,m5,m6,m7,m8,m9,m10,m11,m12,m13⟩,m14,m15,m16,m17,m18,m19,m20,m21,m22⟩:Mat) k s p o y n) rl rn)] (fun self=>h0 _ self) (fun v self hv=>h1 v _ self hv (by
                  have:=QP (out:=out4) (f:=fun n=>A7 (⟨⟨m0,m1,m2,m3,m4,m5,m6,m7,m8,m9,m10,m11,m12,m13⟩,m14,m15,m16,m17,m18,m19,m20,m21,m22⟩:Mat) k s p o y n) (lo:=rl) (n:=v) (l1 s p o y) (k:=99) (by omega)
                  omega)) N (by omega)
                rw [Pq out4 (fun n=>A7 (⟨⟨m0,m1,m2,m3,m4,m5,m6,m7,m8,m9,m10,m11,m12,m13⟩,m14,m15,m16,m17,m18,m19,m20,m21,m22⟩:Mat) k s p o y n) rl rn] at this
                exact this
              have STEP:∀ (y:Bool) (n:Int) (out:Rows),out.length≤1000099→(cond ((BF (⟨⟨m0,m1,m2,m3,m4,m5,m6,m7,m8,m9,m10,m11,m12,m13⟩,m14,m15,m16,m17,m18,m19,m20,m21,m22⟩:Mat) (evK k s p o y n)).2==0) (cond (iSm ((out++[[PV.int k,.int s,.int p,.int o,.bool y,.int n,.int 0,.int 0,.int 0,.int 0,.int 0,.int 0,.bool false,.int 0,.int 0,.int 0,.int 0,.bool false,.int 0]]).length:Int) 136) (some [PV.rows (out++[[PV.int k,.int s,.int p,.int o,.bool y,.int n,.int 0,.int 0,.int 0,.int 0,.int 0,.int 0,.bool false,.int 0,.int 0,.int 0,.int 0,.bool false,.int 0]])]) none) (some [PV.rows out]))=some [PV.rows (out++A7 (⟨⟨m0,m1,m2,m3,m4,m5,m6,m7,m8,m9,m10,m11,m12,m13⟩,m14,m15,m16,m17,m18,m19,m20,m21,m22⟩:Mat) k s p o y n)]:=fun y n out ho=>by
                have sm:iSm ((out.length+1:Nat):Int) 136=true:=G7 (by omega) (by omega)
                rw [ONE]
                cases (BF (⟨⟨m0,m1,m2,m3,m4,m5,m6,m7,m8,m9,m10,m11,m12,m13⟩,m14,m15,m16,m17,m18,m19,m20,m21,m22⟩:Mat) (evK k s p o y n)).2==0 with
                | false=>rw [cond_false,cond_false,List.append_nil]
                | true=>rw [cond_true,cond_true,List.length_append,List.length_cons,List.length_nil,Nat.zero_add,sm,cond_true]
              rcases lt2 hu with e | e
              · subst e
                simp only [PXb,PXc,PXn,AG]
                refine AZ (INNER false out3 (by omega) _ ?_ ?_) ?_
                · intro out self
                  simp only [PXb,PXc,PXn,AG,Dh,BT]
                · intro v out self hv ho
                  simp only [PXb,PXc,PXn,AG,Dh,A9 hv,Ak hv,Int.toNat_natCast,SM hv,WHY,K1 (show v≤1099511627776 by omega)]
                  refine bind_ok (STEP false (rl+(v:Int)) out ho) rfl
                · rfl
              · subst e
                cases hy:yb with
                | false =>
                  subst hy
                  have y21:yfo false (fun y=>fm (fun n=>A7 (⟨⟨m0,m1,m2,m3,m4,m5,m6,m7,m8,m9,m10,m11,m12,m13⟩,m14,m15,m16,m17,m18,m19,m20,m21,m22⟩:Mat) k s p o y n) rl rn) out3 (1+1)=yfo false (fun y=>fm (fun n=>A7 (⟨⟨m0,m1,m2,m3,m4,m5,m6,m7,m8,m9,m10,m11,m12,m13⟩,m14,m15,m16,m17,m18,m19,m20,m21,m22⟩:Mat) k s p o y n) rl rn) out3 1:=List.append_nil _
                  rw [y21]
                  rfl
                | true =>
                  subst hy
                  simp only [PXb,PXc,PXn,AG]
                  refine AZ (INNER true _ ?_ _ ?_ ?_) ?_
                  · show (out3++fm (fun n=>A7 (⟨⟨m0,m1,m2,m3,m4,m5,m6,m7,m8,m9,m10,m11,m12,m13⟩,m14,m15,m16,m17,m18,m19,m20,m21,m22⟩:Mat) k s p o false n) rl rn).length≤1000000
                    have:=l2 s p o false
                    rw [List.length_append]
                    omega
                  · intro out self
                    simp only [PXb,PXc,PXn,AG,Dh,BT]
                  · intro v out self hv ho
                    simp only [PXb,PXc,PXn,AG,Dh,A9 hv,Ak hv,Int.toNat_natCast,SM hv,WHY,K1 (show v≤1099511627776 by omega)]
                    refine bind_ok (STEP true (rl+(v:Int)) out ho) rfl
                  · rfl
            · simp only [PXb,PXc,PXn,AG,K1 (show q≤1099511627776 by omega)]
          · simp only [PXb,PXc,PXn,AG,K1 (show j≤1099511627776 by omega)]
        · simp only [PXb,PXc,PXn,AG,K1 (show i≤1099511627776 by omega)]
      · rw [Zw]
        rfl
end Go.Px
end
section
namespace Go.Px
set_option maxRecDepth 100000
theorem gY {i:Int} (h0:0≤i) (h:i≤254):IntKind.u8.wrap (i+1)=i+1:=by
 show (i+1) % 256=i+1
 omega
theorem cu (m:Mat) (k:Int):(Qc m k).length≤2 * (11 * (11 * (2 * (99 * 1)))):=by
 unfold Qc MV
 exact ER (fun s=>ER (fun p=>ER (fun o=>Y9 fun y=>ER (fun n=>WO m k s p o y n) (by cases k==7<;>cases k==13<;>decide)) (by cases uO k<;>decide)) (by cases uP k<;>decide)) (by cases uS k<;>decide)
theorem dJ (m:Mat) (k:Int):(aE m k).length≤3 * (12 * (12 * (2 * (12 * 1)))):=by
 unfold aE MV
 exact ER (fun s=>ER (fun p=>ER (fun o=>Y9 fun y=>ER (fun n=>WO m k s p o y n) (by cases uR k<;>decide)) (by cases uO k<;>decide)) (by cases uP k<;>decide)) (by cases uS k<;>decide)
def KA (m:Mat) (k:Int):Rows:=cond (okK k&&Bk m) (Qc m k) []
def Oi (m:Mat):Rows:=fm (KA m) 1 16
theorem XW (m:Mat) (k:Int):(KA m k).length≤47916:=by
 unfold KA
 cases okK k&&Bk m
 ·exact Nat.zero_le _
 ·exact cu m k
theorem et {m:Mat} (h:Bk m=false) (k:Int):UU m k=[]:=by
 unfold UU MV
 refine El _ fun s _ _=>El _ fun p _ _=>El _ fun o _ _=>VE fun y=>El _ fun n _ _=>?_
 unfold A7
 cases hx:(BF m (evK k s p o y n)).2==0 with
 | false=>rfl
 | true =>
  have:=(UR hx).1
  rw [h] at this
  cases this
theorem fw {k:Int} (h1:1≤k) (h2:k≤16):okK k = !(k==4||k==15):=by
 have hk:(iLt k 1||iLt 16 k)=false:=by simp only [iLt,Bool.or_eq_false_iff,decide_eq_false_iff_not];omega
 rcases QR hk with h | h | h | h | h | h | h | h | h | h | h | h | h | h | h | h<;>subst h<;>rfl
theorem eZ (m:Mat):Oi m=Ep m:=by
 unfold Oi Ep
 refine P3 _ fun k k1 k2=>?_
 unfold KA
 rw [fw (by omega) (by omega)]
 cases h:(k==4||k==15) with
 | true=>rfl
 | false =>
  have n15:¬ k=15:=fun e=>by rw [e] at h;cases h
  cases hv:Bk m with
  | true=>exact (bP m n15).1
  | false=>exact (et hv k).symm
set_option maxHeartbeats 4000000 in
theorem N4 {N:Nat} {m1 m2 m3 m4 m5 m6 m7 m9 m10 m11 m12 m14 m15 m18 m19 m20 m21 m22:Int} {m8 m16:Bool} {m0:ByteArray} {m13:Rows} {m17:List Inn} (hN:2097152<N) (hf:Gl m17) (hl:m17.length≤1000000) (hs:m0.size≤1048576) (h13:m13.length≤1048576):Bm N [.str m0,.int m1,.int m2,.int m3,.int m4,.int m5,.int m6,.int m7,.bool m8,.int m9,.int m10,.int m11,.int m12,.rows m13,.int m14,.int m15,.bool m16,.rows (AL m17),.int m18,.int m19,.int m20,.int m21,.int m22]=some [.rows (Oi (⟨⟨m0,m1,m2,m3,m4,m5,m6,m7,m8,m9,m10,m11,m12,m13⟩,m14,m15,m16,m17,m18,m19,m20,m21,m22⟩:Mat))]:=by
 show J6 (std (Ky N) N) (xOf _)=_
 simp only [J6,JT,std,xOf,PXb]
 have OF:∀ k:Int,F7 N [.str m0,.int m1,.int m2,.int m3,.int m4,.int m5,.int m6,.int m7,.bool m8,.int m9,.int m10,.int m11,.int m12,.rows m13,.int m14,.int m15,.bool m16,.rows (AL m17),.int m18,.int m19,.int m20,.int m21,.int m22,.int k]=some [.rows (KA (⟨⟨m0,m1,m2,m3,m4,m5,m6,m7,m8,m9,m10,m11,m12,m13⟩,m14,m15,m16,m17,m18,m19,m20,m21,m22⟩:Mat) k)]:=fun k=>aN hN hf hl hs h13
 have b0:∀ i:Nat,i≤16→(fmo [] (KA (⟨⟨m0,m1,m2,m3,m4,m5,m6,m7,m8,m9,m10,m11,m12,m13⟩,m14,m15,m16,m17,m18,m19,m20,m21,m22⟩:Mat)) 1 i).length≤([]:Rows).length+16 * 47916:=fun i hi=>QP (XW (⟨⟨m0,m1,m2,m3,m4,m5,m6,m7,m8,m9,m10,m11,m12,m13⟩,m14,m15,m16,m17,m18,m19,m20,m21,m22⟩:Mat)) hi
 have e:=Zw (KA (⟨⟨m0,m1,m2,m3,m4,m5,m6,m7,m8,m9,m10,m11,m12,m13⟩,m14,m15,m16,m17,m18,m19,m20,m21,m22⟩:Mat)) 1 16
 unfold Oi
 rw [← e]
 refine AZ (CO (len:=16) (fun i=>[.rows (fmo [] (KA (⟨⟨m0,m1,m2,m3,m4,m5,m6,m7,m8,m9,m10,m11,m12,m13⟩,m14,m15,m16,m17,m18,m19,m20,m21,m22⟩:Mat)) 1 i),.int (1+(i:Int))]) [.rows (fmo [] (KA (⟨⟨m0,m1,m2,m3,m4,m5,m6,m7,m8,m9,m10,m11,m12,m13⟩,m14,m15,m16,m17,m18,m19,m20,m21,m22⟩:Mat)) 1 16)] ?_ ?_ N (by omega)) ?_
 ·intro self
  rfl
 ·intro i self hi
  have l:iLe (1+(i:Int)) 16=true:=by simp only [iLe,decide_eq_true_eq];omega
  have w:IntKind.u8.wrap (1+(i:Int)+1)=1+((i+1:Nat):Int):=by rw [gY (by omega) (by omega)];omega
  have b1:=b0 i (by omega)
  have b2:=XW (⟨⟨m0,m1,m2,m3,m4,m5,m6,m7,m8,m9,m10,m11,m12,m13⟩,m14,m15,m16,m17,m18,m19,m20,m21,m22⟩:Mat) (1+(i:Int))
  rw [Nq]
  generalize fmo [] (KA (⟨⟨m0,m1,m2,m3,m4,m5,m6,m7,m8,m9,m10,m11,m12,m13⟩,m14,m15,m16,m17,m18,m19,m20,m21,m22⟩:Mat)) 1 i=out at *
  have sm:iSm ((out.length+(KA (⟨⟨m0,m1,m2,m3,m4,m5,m6,m7,m8,m9,m10,m11,m12,m13⟩,m14,m15,m16,m17,m18,m19,m20,m21,m22⟩:Mat) (1+(i:Int))).length:Nat):Int) 136=true:=G7 (by simp only [List.length_nil] at b1;omega) (by omega)
  simp only [PXb,PXc,PXn,AG,l,w,JT,OF,List.length_append,sm]
 ·rfl
def V1 (m:Mat) (k:Int):Rows:=cond (k==4||k==15) [] (aE m k)
theorem cF (m:Mat) (k:Int):(V1 m k).length≤10368:=by
 unfold V1
 cases k==4||k==15
 ·exact dJ m k
 ·exact Nat.zero_le _
theorem cn (m:Mat):fm (V1 m) 1 16=Ep m:=by
 unfold Ep
 refine P3 _ fun k k1 k2=>?_
 unfold V1
 cases h:(k==4||k==15) with
 | true=>rw [cond_true,cond_true]
 | false =>
  have n15:¬ k=15:=fun e=>by rw [e] at h;cases h
  have ob:=(bP m n15).2
  rw [cond_false,cond_false,ob]
end Go.Px
end
