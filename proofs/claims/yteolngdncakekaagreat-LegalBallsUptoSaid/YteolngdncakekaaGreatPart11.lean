/- Part 11. -/
import Derived.Test.YteolngdncakekaaGreatPart07
import Derived.Test.YteolngdncakekaaGreatPart10
set_option linter.unusedVariables false
set_option linter.unusedSimpArgs false
section
namespace Go.Px
def AK (xs:List Inn):Rows:=xs.map Inn.ls
def dI:Inn:=⟨0,0,0,0,0,0,0,0,0,0,0,0,0,0,[],0,[],[],false,[],false,0,0,0,[],0,0,0⟩
def inn (xs:List Inn) (i:Nat):Inn:=xs.getD i dI
structure Mat where
 rules:Rul
 stage:Int
 first:Int
 follow:Bool
 inns:List Inn
 pen1:Int
 pen2:Int
 win:Int
 wside:Int
 margin:Int
def Mat.ls (m:Mat):List PV:=[.str m.rules.name,.int m.rules.side,.int m.rules.innings,.int m.rules.overs,.int m.rules.balls,.int m.rules.quota,.int m.rules.wide,.int m.rules.noball,.bool m.rules.freehit,.int m.rules.newball,.int m.rules.followon,.int m.rules.reviews,.int m.rules.outside,.rows m.rules.power,.int m.stage,.int m.first,.bool m.follow,.rows (AK m.inns),.int m.pen1,.int m.pen2,.int m.win,.int m.wside,.int m.margin]
def Pp (x:Mat×Int):List PV:=[.str x.1.rules.name,.int x.1.rules.side,.int x.1.rules.innings,.int x.1.rules.overs,.int x.1.rules.balls,.int x.1.rules.quota,.int x.1.rules.wide,.int x.1.rules.noball,.bool x.1.rules.freehit,.int x.1.rules.newball,.int x.1.rules.followon,.int x.1.rules.reviews,.int x.1.rules.outside,.rows x.1.rules.power,.int x.1.stage,.int x.1.first,.bool x.1.follow,.rows (AK x.1.inns),.int x.1.pen1,.int x.1.pen2,.int x.1.win,.int x.1.wside,.int x.1.margin,.int x.2]
theorem Xk (xs:List Inn) (i:Nat):Ac (AK xs) i=(match xs[i]? with | some s=>s.ls | none=>[]):=by
 unfold Ac AK
 rw [List.getD_eq_getElem?_getD,List.getElem?_map]
 cases xs[i]?<;>rfl
theorem I8 (xs:List Inn) (i:Nat):inn xs i=(match xs[i]? with | some s=>s | none=>dI):=by
 unfold inn
 rw [List.getD_eq_getElem?_getD]
 cases xs[i]?<;>rfl
theorem VM (xs:List Inn):(AK xs).length=xs.length:=List.length_map _
theorem PXi : (∀ xs : List Inn, (AK xs).length = xs.length) ∧ (∀ (xs : List Inn) (i : Nat), pvI (AB (AK xs) i 0) = (inn xs i).side) ∧ (∀ (xs : List Inn) (i : Nat), pvI (AB (AK xs) i 1) = (inn xs i).target) ∧ (∀ (xs : List Inn) (i : Nat), pvI (AB (AK xs) i 2) = (inn xs i).overs) ∧ (∀ (xs : List Inn) (i : Nat), pvI (AB (AK xs) i 3) = (inn xs i).runs) ∧
    (∀ (xs:List Inn) (i:Nat),pvI (AB (AK xs) i 4)=(inn xs i).wickets)∧(∀ (xs:List Inn) (i:Nat),pvI (AB (AK xs) i 5)=(inn xs i).wides)∧(∀ (xs:List Inn) (i:Nat),pvI (AB (AK xs) i 6)=(inn xs i).noballs)∧(∀ (xs:List Inn) (i:Nat),pvI (AB (AK xs) i 7)=(inn xs i).byes)∧(∀ (xs:List Inn) (i:Nat),pvI (AB (AK xs) i 8)=(inn xs i).legbyes) ∧
    (∀ (xs:List Inn) (i:Nat),pvI (AB (AK xs) i 9)=(inn xs i).pens)∧(∀ (xs:List Inn) (i:Nat),pvI (AB (AK xs) i 10)=(inn xs i).complete)∧(∀ (xs:List Inn) (i:Nat),pvI (AB (AK xs) i 11)=(inn xs i).inover)∧(∀ (xs:List Inn) (i:Nat),pvI (AB (AK xs) i 12)=(inn xs i).striker)∧(∀ (xs:List Inn) (i:Nat),pvI (AB (AK xs) i 13)=(inn xs i).other) ∧
    (∀ (xs:List Inn) (i:Nat),pvL (AB (AK xs) i 14)=(inn xs i).batters)∧(∀ (xs:List Inn) (i:Nat),pvI (AB (AK xs) i 15)=(inn xs i).bowler)∧(∀ (xs:List Inn) (i:Nat),pvL (AB (AK xs) i 16)=(inn xs i).bowlers)∧(∀ (xs:List Inn) (i:Nat),pvL (AB (AK xs) i 17)=(inn xs i).before)∧(∀ (xs:List Inn) (i:Nat),pvB (AB (AK xs) i 18)=(inn xs i).fresh) ∧
    (∀ (xs:List Inn) (i:Nat),pvL (AB (AK xs) i 19)=(inn xs i).bowled)∧(∀ (xs:List Inn) (i:Nat),pvB (AB (AK xs) i 20)=(inn xs i).freehit)∧(∀ (xs:List Inn) (i:Nat),pvI (AB (AK xs) i 21)=(inn xs i).ballage)∧(∀ (xs:List Inn) (i:Nat),pvI (AB (AK xs) i 22)=(inn xs i).keeper)∧(∀ (xs:List Inn) (i:Nat),pvI (AB (AK xs) i 23)=(inn xs i).outside) ∧
    (∀ (xs:List Inn) (i:Nat),pvL (AB (AK xs) i 24)=(inn xs i).subs)∧(∀ (xs:List Inn) (i:Nat),pvI (AB (AK xs) i 25)=(inn xs i).rev1)∧(∀ (xs:List Inn) (i:Nat),pvI (AB (AK xs) i 26)=(inn xs i).rev2)∧(∀ (xs:List Inn) (i:Nat),pvI (AB (AK xs) i 27)=(inn xs i).ending):=by
  refine ⟨VM,?_,?_,?_,?_,?_,?_,?_,?_,?_,?_,?_,?_,?_,?_,?_,?_,?_,?_,?_,?_,?_,?_,?_,?_,?_,?_,?_,?_⟩
  all_goals (intro xs i;rw [I8];unfold AB;rw [Xk];cases xs[i]?<;>rfl)
theorem Mat.eta (m:Mat):Mat.mk m.rules m.stage m.first m.follow m.inns m.pen1 m.pen2 m.win m.wside m.margin=m:=rfl
theorem PXk : (∀ m : Mat, m.ls = [.str m.rules.name, .int m.rules.side, .int m.rules.innings, .int m.rules.overs, .int m.rules.balls, .int m.rules.quota, .int m.rules.wide, .int m.rules.noball, .bool m.rules.freehit, .int m.rules.newball, .int m.rules.followon, .int m.rules.reviews, .int m.rules.outside, .rows m.rules.power, .int m.stage, .int m.first, .bool m.follow, .rows (AK m.inns), .int m.pen1, .int m.pen2, .int m.win, .int m.wside, .int m.margin]) ∧
    (∀ x:Mat×Int,Pp x=[.str x.1.rules.name,.int x.1.rules.side,.int x.1.rules.innings,.int x.1.rules.overs,.int x.1.rules.balls,.int x.1.rules.quota,.int x.1.rules.wide,.int x.1.rules.noball,.bool x.1.rules.freehit,.int x.1.rules.newball,.int x.1.rules.followon,.int x.1.rules.reviews,.int x.1.rules.outside,.rows x.1.rules.power,.int x.1.stage,.int x.1.first,.bool x.1.follow,.rows (AK x.1.inns),.int x.1.pen1,.int x.1.pen2,.int x.1.win,.int x.1.wside,.int x.1.margin,.int x.2]) ∧
    (∀ m:Mat,Mat.mk m.rules m.stage m.first m.follow m.inns m.pen1 m.pen2 m.win m.wside m.margin=m):=⟨fun _=>rfl,fun _=>rfl,fun _=>rfl⟩
theorem bA:∀ (ps r pre:List PV),r.length=ps.length→CF (pre++r) pre.length ps=pre++ps
 | [],r,pre,h=>by
  have:r=[]:=List.eq_nil_of_length_eq_zero h
  subst this
  rfl
 | p::ps,[],pre,h=>by cases h
 | p::ps,a::r,pre,h=>by
  have ih:=bA ps r (pre++[p]) (by simpa using h)
  simp only [List.length_append,List.length_cons,List.length_nil,List.append_assoc,List.cons_append,List.nil_append] at ih
  unfold CF
  rw [List.set_append_right _ _ (Nat.le_refl _),Nat.sub_self]
  exact ih
theorem ir (a s:Inn):CF a.ls 0 s.ls=s.ls:=bA s.ls a.ls [] rfl
theorem gy (a:Inn) (e:Int):CF a.ls 27 [.int e]=Inn.ls { a with ending:=e }:=by
 show a.ls.set 27 (.int e)=_
 rfl
theorem gK {xs:List Inn} {i:Nat} (h:i<xs.length) (s:Inn):(AK xs).set i (CF (Ac (AK xs) i) 0 s.ls)=AK (xs.set i s):=by
 have e:Ac (AK xs) i=(xs[i]).ls:=by rw [Xk,List.getElem?_eq_getElem h]
 rw [e,ir]
 exact List.map_set.symm
theorem g8 {xs:List Inn} {i:Nat} (h:i<xs.length) (e:Int):(AK xs).set i (CF (Ac (AK xs) i) 27 [.int e])=AK (xs.set i { inn xs i with ending:=e }):=by
 have e1:Ac (AK xs) i=(inn xs i).ls:=by rw [Xk,I8,List.getElem?_eq_getElem h]
 rw [e1,gy]
 exact List.map_set.symm
theorem gd (xs:List Inn) (s:Inn):AK xs++[s.ls]=AK (xs++[s]):=by
 show List.map Inn.ls xs++List.map Inn.ls [s]=List.map Inn.ls (xs++[s])
 exact List.map_append.symm
theorem ge (xs:List Inn) (i:Nat) (s:Inn):(AK xs).set i (CF (Ac (AK xs) i) 0 s.ls)=AK (xs.set i s):=by
 by_cases h:i<xs.length
 ·exact gK h s
 ·rw [List.set_eq_of_length_le (by rw [VM];omega),List.set_eq_of_length_le (by omega)]
theorem aQ (xs:List Inn) (i:Nat) (e:Int):(AK xs).set i (CF (Ac (AK xs) i) 27 [.int e])=AK (xs.set i { inn xs i with ending:=e }):=by
 by_cases h:i<xs.length
 ·exact g8 h e
 ·rw [List.set_eq_of_length_le (by rw [VM];omega),List.set_eq_of_length_le (by omega)]
theorem PXr : (∀ (xs : List Inn) (x0 x1 x2 x3 x4 x5 x6 x7 x8 x9 x10 x11 x12 x13 x15 x21 x22 x23 x25 x26 x27 : Int) (x18 x20 : Bool) (x14 x16 x17 x19 x24 : Rows), AK xs ++ [([.int x0, .int x1, .int x2, .int x3, .int x4, .int x5, .int x6, .int x7, .int x8, .int x9, .int x10, .int x11, .int x12, .int x13, .rows x14, .int x15, .rows x16, .rows x17, .bool x18, .rows x19, .bool x20, .int x21, .int x22, .int x23, .rows x24, .int x25, .int x26, .int x27] : List PV)] = AK (xs ++ [⟨x0, x1, x2, x3, x4, x5, x6, x7, x8, x9, x10, x11, x12, x13, x14, x15, x16, x17, x18, x19, x20, x21, x22, x23, x24, x25, x26, x27⟩])) ∧ (∀ (xs : List Inn) (i : Nat) (x0 x1 x2 x3 x4 x5 x6 x7 x8 x9 x10 x11 x12 x13 x15 x21 x22 x23 x25 x26 x27 : Int) (x18 x20 : Bool) (x14 x16 x17 x19 x24 : Rows), (AK xs).set i (CF (Ac (AK xs) i) 0 [.int x0, .int x1, .int x2, .int x3, .int x4, .int x5, .int x6, .int x7, .int x8, .int x9, .int x10, .int x11, .int x12, .int x13, .rows x14, .int x15, .rows x16, .rows x17, .bool x18, .rows x19, .bool x20, .int x21, .int x22, .int x23, .rows x24, .int x25, .int x26, .int x27]) = AK (xs.set i ⟨x0, x1, x2, x3, x4, x5, x6, x7, x8, x9, x10, x11, x12, x13, x14, x15, x16, x17, x18, x19, x20, x21, x22, x23, x24, x25, x26, x27⟩)) ∧
    (∀ (xs:List Inn) (i:Nat) (e:Int),(AK xs).set i (CF (Ac (AK xs) i) 27 [.int e])=AK (xs.set i { inn xs i with ending:=e })) :=
  ⟨fun xs x0 x1 x2 x3 x4 x5 x6 x7 x8 x9 x10 x11 x12 x13 x15 x21 x22 x23 x25 x26 x27 x18 x20 x14 x16 x17 x19 x24=>gd xs ⟨x0,x1,x2,x3,x4,x5,x6,x7,x8,x9,x10,x11,x12,x13,x14,x15,x16,x17,x18,x19,x20,x21,x22,x23,x24,x25,x26,x27⟩,fun xs i x0 x1 x2 x3 x4 x5 x6 x7 x8 x9 x10 x11 x12 x13 x15 x21 x22 x23 x25 x26 x27 x18 x20 x14 x16 x17 x19 x24=>ge xs i ⟨x0,x1,x2,x3,x4,x5,x6,x7,x8,x9,x10,x11,x12,x13,x14,x15,x16,x17,x18,x19,x20,x21,x22,x23,x24,x25,x26,x27⟩,aQ⟩
end Go.Px
end
section
namespace Go.Px
set_option maxRecDepth 100000
def DD (n:Int):Int:=IntKind.i64.wrap (3 - n)
theorem Gj {N:Nat} {n:Int}  : A7 N [.int n]=some [.int (DD n)]:=by
 show JU (std (Pn N) N) (xOf _)=_
 simp only [JU,std,xOf,PXb,PXc,PXn,PXm,Nat.reduceAdd,Int.reduceBEq,DD]
def Gu (m:Mat) (i:Int):Int:=cond (cond (m.follow&&iLe 2 i) (i==2) (i.tmod 2==1)) (DD m.first) m.first
theorem M2 {N:Nat} {m1 m2 m3 m4 m5 m6 m7 m9 m10 m11 m12 m14 m15 m18 m19 m20 m21 m22:Int} {m8 m16:Bool} {m0:ByteArray} {m13:Rows} {m17:List Inn} {i:Int}  : Ch N [.str m0,.int m1,.int m2,.int m3,.int m4,.int m5,.int m6,.int m7,.bool m8,.int m9,.int m10,.int m11,.int m12,.rows m13,.int m14,.int m15,.bool m16,.rows (AK m17),.int m18,.int m19,.int m20,.int m21,.int m22,.int i]=some [.int (Gu (⟨⟨m0,m1,m2,m3,m4,m5,m6,m7,m8,m9,m10,m11,m12,m13⟩,m14,m15,m16,m17,m18,m19,m20,m21,m22⟩:Mat) i)]:=by
 show Ja (std (Kv N) N) (xOf _)=_
 generalize hres:(some [.int (Gu (⟨⟨m0,m1,m2,m3,m4,m5,m6,m7,m8,m9,m10,m11,m12,m13⟩,m14,m15,m16,m17,m18,m19,m20,m21,m22⟩:Mat) i)]:Option (List PV))=RR
 simp only [Ja,Ny,std,xOf,PXb,PXc,PXn,PXm,Nat.reduceAdd,Int.reduceBEq,Gj]
 subst hres;simp only [Gu]
def Mw (xs:List Inn) (side:Int):Nat→Int
 | 0=>0
 | i+1=>cond ((inn xs i).side==side) (IntKind.i64.wrap (Mw xs side i+(inn xs i).runs)) (Mw xs side i)
def CS (m:Mat) (side:Int):Int:=Mw m.inns side m.inns.length
theorem Mx {N:Nat} {m1 m2 m3 m4 m5 m6 m7 m9 m10 m11 m12 m14 m15 m18 m19 m20 m21 m22:Int} {m8 m16:Bool} {m0:ByteArray} {m13:Rows} {m17:List Inn} {n:Int} (hN:2097152<N) (hl:m17.length≤1048576):Bf N [.str m0,.int m1,.int m2,.int m3,.int m4,.int m5,.int m6,.int m7,.bool m8,.int m9,.int m10,.int m11,.int m12,.rows m13,.int m14,.int m15,.bool m16,.rows (AK m17),.int m18,.int m19,.int m20,.int m21,.int m22,.int n]=some [.int (CS (⟨⟨m0,m1,m2,m3,m4,m5,m6,m7,m8,m9,m10,m11,m12,m13⟩,m14,m15,m16,m17,m18,m19,m20,m21,m22⟩:Mat) n)]:=by
 show JG (std (PP N) N) (xOf _)=_
 generalize hres:(some [.int (CS (⟨⟨m0,m1,m2,m3,m4,m5,m6,m7,m8,m9,m10,m11,m12,m13⟩,m14,m15,m16,m17,m18,m19,m20,m21,m22⟩:Mat) n)]:Option (List PV))=RR
 simp only [JG,std,xOf,PXb,PXi]
 subst hres;simp only [CS]
 refine AM (BE (len:=m17.length) (fun i=>[.int (Mw m17 n i),.int (i:Int)]) [.int (Mw m17 n m17.length)] ?_ ?_ N (by omega)) rfl
 ·intro self
  simp only [PXb,PXc,PXn,AF,BX]
 ·intro i self hi
  simp only [PXb,PXc,AF,Aw (show i≤1099511627776 by omega),Az hi,Ag hi,PXi,Mw]
  cases (inn m17 i).side==n<;>rfl
def IG (m:Mat) (side:Int):Int :=
 cond (iLt (IntKind.i64.wrap ((m.inns.length:Int)+1)) (IntKind.i64.wrap (2 * m.rules.innings))) 0 (IntKind.i64.wrap (IntKind.i64.wrap (CS m (DD side) - CS m side)+1))
theorem QX {N:Nat} {m1 m2 m3 m4 m5 m6 m7 m9 m10 m11 m12 m14 m15 m18 m19 m20 m21 m22:Int} {m8 m16:Bool} {m0:ByteArray} {m13:Rows} {m17:List Inn} {n:Int} (hN:2097152<N) (hl:m17.length≤1048576):Fx N [.str m0,.int m1,.int m2,.int m3,.int m4,.int m5,.int m6,.int m7,.bool m8,.int m9,.int m10,.int m11,.int m12,.rows m13,.int m14,.int m15,.bool m16,.rows (AK m17),.int m18,.int m19,.int m20,.int m21,.int m22,.int n]=some [.int (IG (⟨⟨m0,m1,m2,m3,m4,m5,m6,m7,m8,m9,m10,m11,m12,m13⟩,m14,m15,m16,m17,m18,m19,m20,m21,m22⟩:Mat) n)]:=by
 show Ia (std (Gb N) N) (xOf _)=_
 generalize hres:(some [.int (IG (⟨⟨m0,m1,m2,m3,m4,m5,m6,m7,m8,m9,m10,m11,m12,m13⟩,m14,m15,m16,m17,m18,m19,m20,m21,m22⟩:Mat) n)]:Option (List PV))=RR
 simp only [Ia,My,NE,std,xOf,PXb,PXc,PXn,PXm,Nat.reduceAdd,Int.reduceBEq,PXi,Gj,Mx hN hl]
 subst hres;simp only [IG]
def Wo (stage:Int) (xs:List Inn) (i:Nat):Bool := !(((inn xs i).ending==0)==(stage==3&&((i:Int)==IntKind.i64.wrap ((xs.length:Int) - 1))))
def TS (m:Mat):Bool := !BS (Wo m.stage m.inns) m.inns.length 0&&(!(m.stage==3)||iLt 0 (m.inns.length:Int))
theorem YT {N:Nat} {m1 m2 m3 m4 m5 m6 m7 m9 m10 m11 m12 m14 m15 m18 m19 m20 m21 m22:Int} {m8 m16:Bool} {m0:ByteArray} {m13:Rows} {m17:List Inn} (hN:2097152<N) (hl:m17.length≤1048576):Gm N [.str m0,.int m1,.int m2,.int m3,.int m4,.int m5,.int m6,.int m7,.bool m8,.int m9,.int m10,.int m11,.int m12,.rows m13,.int m14,.int m15,.bool m16,.rows (AK m17),.int m18,.int m19,.int m20,.int m21,.int m22]=some [.bool (TS (⟨⟨m0,m1,m2,m3,m4,m5,m6,m7,m8,m9,m10,m11,m12,m13⟩,m14,m15,m16,m17,m18,m19,m20,m21,m22⟩:Mat))]:=by
 show JQ (std (Pr N) N) (xOf _)=_
 generalize hres:(some [.bool (TS (⟨⟨m0,m1,m2,m3,m4,m5,m6,m7,m8,m9,m10,m11,m12,m13⟩,m14,m15,m16,m17,m18,m19,m20,m21,m22⟩:Mat))]:Option (List PV))=RR
 simp only [JQ,std,xOf,PXb,PXi]
 subst hres;simp only [TS]
 refine AM (Ju (len:=m17.length) (Wo m14 m17) [.bool false] ?_ ?_ N (by omega)) ?_
 ·intro self
  simp only [PXb,PXc,PXn,AF,BX]
 ·intro i self hi
  simp only [PXb,PXc,AF,Aw (show i≤1099511627776 by omega),Az hi,Ag hi,PXi,Wo]
 ·cases BS (Wo m14 m17) m17.length 0 with
  | true=>rfl
  | false=>simp only [PXb,PXc,PXn,PXm,Nat.reduceAdd,Int.reduceBEq]
end Go.Px
end
section
namespace Go.Px
set_option maxRecDepth 100000
def Gh (xs:List Inn):Prop:=∀ i,i<xs.length→(inn xs i).Fit
theorem SJ {N:Nat} {r1 r2 r3 r4 r5 r6 r7 r9 r10 r11 r12:Int} {r8:Bool} {r0:ByteArray} {r13:Rows} (hl:r13.length≤1048576):Cm N [.str r0,.int r1,.int r2,.int r3,.int r4,.int r5,.int r6,.int r7,.bool r8,.int r9,.int r10,.int r11,.int r12,.rows r13]=some [.str r0,.int r1,.int r2,.int r3,.int r4,.int r5,.int r6,.int r7,.bool r8,.int r9,.int r10,.int r11,.int r12,.rows r13]:=by
 show JI (std (Kb N) N) (xOf _)=_
 simp only [JI,Jw,std,xOf,PXb,PXc,PXn,PXm,Nat.reduceAdd,Int.reduceBEq,Ca,BK hl (show 24≤4096 by omega)]
theorem YR {xs:List Inn} {i:Nat} (h:i<xs.length):xs.take i++[inn xs i]=xs.take (i+1):=by
 rw [List.take_add_one,I8,List.getElem?_eq_getElem h]
 rfl
theorem YI {N:Nat} {m1 m2 m3 m4 m5 m6 m7 m9 m10 m11 m12 m14 m15 m18 m19 m20 m21 m22:Int} {m8 m16:Bool} {m0:ByteArray} {m13:Rows} {m17:List Inn} (hf:Gh m17) (hN:2097152<N) (hl:m17.length≤1000000) (h13:m13.length≤1048576):Gy N [.str m0,.int m1,.int m2,.int m3,.int m4,.int m5,.int m6,.int m7,.bool m8,.int m9,.int m10,.int m11,.int m12,.rows m13,.int m14,.int m15,.bool m16,.rows (AK m17),.int m18,.int m19,.int m20,.int m21,.int m22]=some [.str m0,.int m1,.int m2,.int m3,.int m4,.int m5,.int m6,.int m7,.bool m8,.int m9,.int m10,.int m11,.int m12,.rows m13,.int m14,.int m15,.bool m16,.rows (AK m17),.int m18,.int m19,.int m20,.int m21,.int m22]:=by
 show JK (std (HN N) N) (xOf _)=_
 simp only [JK,Nl,GL,std,xOf,PXb,SJ h13,PXi]
 refine AM (BE (len:=m17.length) (fun i=>[.rows (AK (m17.take i)),.int (i:Int)]) [.rows (AK m17)] ?_ ?_ N (by omega)) rfl
 ·intro self
  simp only [PXb,PXc,PXn,AF,BX,List.take_length]
 ·intro i self hi
  have h2:(m17.take (i+1)).length≤1048576:=by rw [List.length_take];omega
  have h3:iSm ((m17.take (i+1)).length:Int) 304=true:=Fj (by omega) (by omega)
  simp only [PXb,PXc,AF,Aw (show i≤1099511627776 by omega),Az hi,Ag hi,PXi,GL,Bq (hf i hi),PXr,Inn.eta,h3,YR hi,Nat.reduceAdd]
  rfl
def jg:Rul:=⟨⟨#[]⟩,0,0,0,0,0,0,0,false,0,0,0,0,[]⟩
def jJ:Mat:=⟨jg,0,0,false,[],0,0,0,0,0⟩
def Yl (r:Rul):Mat×Int:=cond (!(CW r==0)) (jJ,CW r) (⟨r,1,0,false,[],0,0,0,0,0⟩,0)
theorem aY {N:Nat} {r1 r2 r3 r4 r5 r6 r7 r9 r10 r11 r12:Int} {r8:Bool} {r0:ByteArray} {r13:Rows} (hN:2097152<N) (hs:r0.size≤1048576) (h13:r13.length≤1048576):FU N [.str r0,.int r1,.int r2,.int r3,.int r4,.int r5,.int r6,.int r7,.bool r8,.int r9,.int r10,.int r11,.int r12,.rows r13]=some (Pp (Yl (⟨r0,r1,r2,r3,r4,r5,r6,r7,r8,r9,r10,r11,r12,r13⟩:Rul))):=by
 show MA (std (JH N) N) (xOf _)=_
 generalize hres:(some (Pp (Yl (⟨r0,r1,r2,r3,r4,r5,r6,r7,r8,r9,r10,r11,r12,r13⟩:Rul))):Option (List PV))=RR
 simp only [MA,O2,O5,std,xOf,PXb,PXc,PXn,PXm,Nat.reduceAdd,Int.reduceBEq,DY hN hs,SJ h13]
 subst hres;simp only [Yl]
 cases CW (⟨r0,r1,r2,r3,r4,r5,r6,r7,r8,r9,r10,r11,r12,r13⟩:Rul)==0<;>rfl
def Zs (m:Mat):Bool:=(iLt m.pen1 0||iLt 1000000 m.pen1)||(iLt m.pen2 0||iLt 1000000 m.pen2)
def TC (m:Mat) (i:Nat):Bool := !Gr m.rules (inn m.inns i) || !((inn m.inns i).side==Gu m (i:Int))
def cP (m:Mat):Bool :=
  let n:Int:=m.inns.length
  let most:=IntKind.i64.wrap (2 * m.rules.innings)
  CW m.rules==0&&(!(iLt m.stage 1)&&(!(iLt 5 m.stage)&&(!Zs m&&(!(iLt m.first 0||iLt 2 m.first||iLt most n)&&(!(m.first==0&&(iLt 0 n||(!(m.stage==1) && !(m.stage==5)))) &&
    (!(m.stage==1 && !(m.first==0))&&(!(m.stage==2&&n==most)&&(!(m.stage==4&&(!(m.rules.innings==2) || !(n==2))) && !(m.follow&&(!(m.rules.innings==2)||iLt n 2))))))))))
def Cw (m:Mat):Bool:=cP m&&(!BS (TC m) m.inns.length 0&&TS m)
set_option maxHeartbeats 4000000 in
theorem JY {N:Nat} {m1 m2 m3 m4 m5 m6 m7 m9 m10 m11 m12 m14 m15 m18 m19 m20 m21 m22:Int} {m8 m16:Bool} {m0:ByteArray} {m13:Rows} {m17:List Inn} (hf:Gh m17) (hN:2097152<N) (hl:m17.length≤1000000) (hs:m0.size≤1048576):BR N [.str m0,.int m1,.int m2,.int m3,.int m4,.int m5,.int m6,.int m7,.bool m8,.int m9,.int m10,.int m11,.int m12,.rows m13,.int m14,.int m15,.bool m16,.rows (AK m17),.int m18,.int m19,.int m20,.int m21,.int m22]=some [.bool (Cw (⟨⟨m0,m1,m2,m3,m4,m5,m6,m7,m8,m9,m10,m11,m12,m13⟩,m14,m15,m16,m17,m18,m19,m20,m21,m22⟩:Mat))]:=by
 show JN (std (DJ N) N) (xOf _)=_
 generalize hres:(some [.bool (Cw (⟨⟨m0,m1,m2,m3,m4,m5,m6,m7,m8,m9,m10,m11,m12,m13⟩,m14,m15,m16,m17,m18,m19,m20,m21,m22⟩:Mat))]:Option (List PV))=RR
 simp only [JN,Nt,GM,HM,Hc,std,xOf,PXb,DY hN hs,PXi]
 subst hres;simp only [Cw,cP]
 cases hc:CW (⟨⟨m0,m1,m2,m3,m4,m5,m6,m7,m8,m9,m10,m11,m12,m13⟩,m14,m15,m16,m17,m18,m19,m20,m21,m22⟩:Mat).rules==0<;>(try rfl)
 cases h1:iLt m14 1<;>(try rfl)
 cases h5:iLt 5 m14<;>(try rfl)
 simp only [PXb]
 refine AM (Ju (len:=2) (fun i=>iLt (cond ((i:Int)==1) m19 m18) 0||iLt 1000000 (cond ((i:Int)==1) m19 m18)) [.bool false] ?_ ?_ N (by omega)) ?_
 ·intro self
  rfl
 ·intro i self hi
  simp only [PXb,Aw (show i≤1099511627776 by omega),show iLt (i:Int) 2=true from Az (len:=2) hi,show iIn (i:Int) 2=true from Ag (len:=2) hi]
 ·have hp:BS (fun i=>iLt (cond ((i:Int)==1) m19 m18) 0||iLt 1000000 (cond ((i:Int)==1) m19 m18)) 2 0=Zs (⟨⟨m0,m1,m2,m3,m4,m5,m6,m7,m8,m9,m10,m11,m12,m13⟩,m14,m15,m16,m17,m18,m19,m20,m21,m22⟩:Mat):=by
   simp only [Bo,H7,Bool.or_false]
   rfl
  rw [hp]
  cases Zs (⟨⟨m0,m1,m2,m3,m4,m5,m6,m7,m8,m9,m10,m11,m12,m13⟩,m14,m15,m16,m17,m18,m19,m20,m21,m22⟩:Mat)
  case true=>rfl
  simp only [PXb,JA,Int.reduceBEq]
  cases iLt m15 0<;>try rfl
  cases iLt 2 m15<;>try rfl
  cases iLt (IntKind.i64.wrap (2 * m2)) (m17.length:Int)<;>try rfl
  cases (m15==0&&(iLt 0 (m17.length:Int)||(!(m14==1) && !(m14==5))))<;>try rfl
  cases (m14==1 && !(m15==0))<;>try rfl
  cases (m14==2&&(m17.length:Int)==IntKind.i64.wrap (2 * m2))<;>try rfl
  cases (m14==4&&(!(m2==2) || !((m17.length:Int)==2)))<;>try rfl
  cases (m16&&(!(m2==2)||iLt (m17.length:Int) 2))<;>try rfl
  simp only [PXb]
  refine AM (Ju (len:=m17.length) (TC (⟨⟨m0,m1,m2,m3,m4,m5,m6,m7,m8,m9,m10,m11,m12,m13⟩,m14,m15,m16,m17,m18,m19,m20,m21,m22⟩:Mat)) [.bool false] ?_ ?_ N (by omega)) ?_
  ·intro self
   simp only [PXb,PXc,PXn,AF,BX]
  ·intro i self hi
   simp only [PXb,PXc,PXn,PXm,Nat.reduceAdd,Int.reduceBEq,Aw (show i≤1099511627776 by omega),Az hi,Ag hi,PXi,GM,HM,PQ (hf i hi) hN hs,M2,TC]
   cases Gr (⟨⟨m0,m1,m2,m3,m4,m5,m6,m7,m8,m9,m10,m11,m12,m13⟩,m14,m15,m16,m17,m18,m19,m20,m21,m22⟩:Mat).rules (inn m17 i)<;>first | rfl | simp only [PXb,PXc,PXn,PXm,Nat.reduceAdd,Int.reduceBEq]
  ·cases BS (TC (⟨⟨m0,m1,m2,m3,m4,m5,m6,m7,m8,m9,m10,m11,m12,m13⟩,m14,m15,m16,m17,m18,m19,m20,m21,m22⟩:Mat)) m17.length 0
   case true=>rfl
   simp only [PXb,PXc,PXn,PXm,Nat.reduceAdd,Int.reduceBEq,Hc,YT hN (show m17.length≤1048576 by omega)]
end Go.Px
end
section
namespace Go.Px
set_option maxRecDepth 100000
def lnx (xs:List Inn):Nat:=(IntKind.i64.wrap ((xs.length:Int) - 1)).toNat
def BB (m:Mat):Inn:=inn m.inns (lnx m.inns)
theorem Qv {n:Nat} (h:((n:Int)==0)=false) (hl:n≤1000000):iIn (IntKind.i64.wrap ((n:Int) - 1)) (n:Int)=true:=by
 rw [beq_eq_false_iff_ne] at h
 rw [Hv (by omega) (by omega)]
 simp only [iIn,decide_eq_true_eq];omega
theorem Zd {xs:List Inn} (h:((xs.length:Int)==0)=false) (hl:xs.length≤1000000):lnx xs<xs.length:=by
 rw [beq_eq_false_iff_ne] at h
 unfold lnx
 rw [Hv (by omega) (by omega)]
 omega
def Ww (r:Rul):Int:=cond (r.overs==0) 5 6
theorem H0 {N:Nat} {r1 r2 r3 r4 r5 r6 r7 r9 r10 r11 r12:Int} {r8:Bool} {r0:ByteArray} {r13:Rows}  : BW N [.str r0,.int r1,.int r2,.int r3,.int r4,.int r5,.int r6,.int r7,.bool r8,.int r9,.int r10,.int r11,.int r12,.rows r13]=some [.int (Ww (⟨r0,r1,r2,r3,r4,r5,r6,r7,r8,r9,r10,r11,r12,r13⟩:Rul))]:=by
 show FK (std (Kc N) N) (xOf _)=_
 simp only [FK,std,xOf,PXb,PXc,PXn,PXm,Nat.reduceAdd,Int.reduceBEq,Ww]
def fk (x:Int×Int×Int):List PV:=[.int x.1,.int x.2.1,.int x.2.2]
def RV (m:Mat):Int×Int×Int :=
  let n:Int:=m.inns.length
  let most:=IntKind.i64.wrap (2 * m.rules.innings)
  let x:=BB m
  cond (!Cw m||n==0) (0,0,0) (cond (x.ending==5) (Ww m.rules,0,0) (cond (x.ending==0) (0,0,0)
    (cond (n==most&&iLe x.target x.runs) (2,x.side,IntKind.i64.wrap (IntKind.i64.wrap (m.rules.side - 1) - x.wickets)) (cond (n==most&&x.runs==IntKind.i64.wrap (x.target - 1)) (4,0,0)
      (cond (n==most) (1,DD x.side,IntKind.i64.wrap (IntKind.i64.wrap (x.target - 1) - x.runs))
        (cond (n==3&&iLt (CS m x.side) (CS m (DD x.side))) (3,DD x.side,IntKind.i64.wrap (CS m (DD x.side) - CS m x.side)) (0,0,0)))))))
set_option maxHeartbeats 4000000 in
theorem WJ {N:Nat} {m1 m2 m3 m4 m5 m6 m7 m9 m10 m11 m12 m14 m15 m18 m19 m20 m21 m22:Int} {m8 m16:Bool} {m0:ByteArray} {m13:Rows} {m17:List Inn} (hf:Gh m17) (hN:2097152<N) (hl:m17.length≤1000000) (hs:m0.size≤1048576):E3 N [.str m0,.int m1,.int m2,.int m3,.int m4,.int m5,.int m6,.int m7,.bool m8,.int m9,.int m10,.int m11,.int m12,.rows m13,.int m14,.int m15,.bool m16,.rows (AK m17),.int m18,.int m19,.int m20,.int m21,.int m22]=some (fk (RV (⟨⟨m0,m1,m2,m3,m4,m5,m6,m7,m8,m9,m10,m11,m12,m13⟩,m14,m15,m16,m17,m18,m19,m20,m21,m22⟩:Mat))):=by
 show HZ (std (Cf N) N) (xOf _)=_
 generalize hres:(some (fk (RV (⟨⟨m0,m1,m2,m3,m4,m5,m6,m7,m8,m9,m10,m11,m12,m13⟩,m14,m15,m16,m17,m18,m19,m20,m21,m22⟩:Mat))):Option (List PV))=RR
 simp only [HZ,Mu,Mf,Mj,Jq,std,xOf,PXb,PXi,JY hf hN hl hs,Gj,H0,Mx hN (show m17.length≤1048576 by omega)]
 subst hres;simp only [RV,BB,lnx]
 cases hv:Cw (⟨⟨m0,m1,m2,m3,m4,m5,m6,m7,m8,m9,m10,m11,m12,m13⟩,m14,m15,m16,m17,m18,m19,m20,m21,m22⟩:Mat)
 case false=>rfl
 cases h0:(m17.length:Int)==0
 case true=>rfl
 simp only [PXb,Qv h0 hl]
 generalize inn m17 (IntKind.i64.wrap ((m17.length:Int) - 1)).toNat=x
 cases x.ending==5
 case true=>rfl
 cases x.ending==0
 case true=>rfl
 cases (m17.length:Int)==IntKind.i64.wrap (2 * m2)<;>cases iLe x.target x.runs<;>cases x.runs==IntKind.i64.wrap (x.target - 1)<;>try rfl
 all_goals (cases (m17.length:Int)==3<;>try rfl)
 all_goals (simp only [PXb];cases iLt (CS (⟨⟨m0,m1,m2,m3,m4,m5,m6,m7,m8,m9,m10,m11,m12,m13⟩,m14,m15,m16,m17,m18,m19,m20,m21,m22⟩:Mat) x.side) (CS (⟨⟨m0,m1,m2,m3,m4,m5,m6,m7,m8,m9,m10,m11,m12,m13⟩,m14,m15,m16,m17,m18,m19,m20,m21,m22⟩:Mat) (DD x.side))<;>rfl)
theorem ZE:∀ (n k:Nat) (f:Nat→Nat),(∀ i,i<k→1≤f i∧f i≤n)→(∀ i j,i<j→j<k→f i≠f j)→k≤n
 | 0,k,f,h,_=>by
  rcases Nat.eq_zero_or_pos k with e | e
  ·omega
  ·have:=h 0 e;omega
 | n+1,0,f,_,_=>by omega
 | n+1,k+1,f,h,hi=>by
  by_cases he:∃ j,j<k+1∧f j=n+1
  ·obtain ⟨j,hj,hfj⟩:=he
   have:=ZE n k (fun i=>if i=j then f k else f i) (fun i hik=>by
    show 1≤(if i=j then f k else f i)∧(if i=j then f k else f i)≤n
    by_cases e:i=j
    ·rw [if_pos e]
     have h1:=h k (by omega)
     have:f k≠f j:=fun e2=>hi j k (by omega) (by omega) e2.symm
     omega
    ·rw [if_neg e]
     have h1:=h i (by omega)
     have:f i≠f j:=by
      rcases Nat.lt_or_gt_of_ne e with e2 | e2
      ·exact hi i j e2 hj
      ·exact fun e3=>hi j i e2 (by omega) e3.symm
     omega) (fun a b hab hb=>by
    show (if a=j then f k else f a)≠(if b=j then f k else f b)
    by_cases e1:a=j
    ·have e2:b≠j:=by omega
     rw [if_pos e1,if_neg e2]
     exact fun e3=>hi b k hb (by omega) e3.symm
    ·rw [if_neg e1]
     by_cases e2:b=j
     ·rw [if_pos e2];exact hi a k (by omega) (by omega)
     ·rw [if_neg e2];exact hi a b hab (by omega))
   omega
  ·have:=ZE n (k+1) f (fun i hik=>by
    have h1:=h i hik
    have:f i≠n+1:=fun e=>he ⟨i,hik,e⟩
    omega) hi
   omega
theorem ZY {L:Rows} {n:Int} (h:I5 L n=true) (hn:0≤n):(L.length:Int)≤n:=by
 unfold I5 at h
 rw [Bool.not_eq_true',IP] at h
 have hb:∀ i,i<L.length→1≤atI L i 0∧atI L i 0≤n:=fun i hi=>by
  have:=h i (by omega) (by omega)
  unfold N7 at this
  rw [Bool.or_eq_false_iff,Bool.not_eq_false',T8] at this
  exact this.1
 have:=ZE n.toNat L.length (fun i=>(atI L i 0).toNat) (fun i hi=>by have:=hb i hi;show 1≤(atI L i 0).toNat∧(atI L i 0).toNat≤n.toNat;omega) (fun i j hij hj=>by
  show (atI L i 0).toNat≠(atI L j 0).toNat
  have h1:=hb i (by omega)
  have h2:=hb j hj
  have h3:=h j (by omega) (by omega)
  unfold N7 at h3
  rw [Bool.or_eq_false_iff] at h3
  have h4:=IP.1 h3.2 i (by omega) (by omega)
  rw [beq_eq_false_iff_ne] at h4
  omega)
 omega
theorem RL {r:Rul} {s:Inn} (h:Gr r s=true):s.bowlers.length≤11∧s.before.length≤11∧s.Fit:=by
 have ok:=dV.1 h
 have hs:=gZ ok
 have h1:=ZY ok.dw (by omega)
 have h2:=ZY ok.df (by omega)
 have h3:=ok.lb
 have h4:=ok.ld
 have h5:=ok.lz
 exact ⟨by omega,by omega,by omega,by omega,by omega,by omega,by omega⟩
end Go.Px
end
section
namespace Go.Px
set_option maxRecDepth 100000
def Yg (m:Mat) (e:Ev):Mat×Int :=
  let sd:=Gu m (m.inns.length:Int)
  let b:=Dq m.rules sd (IG m sd) (cond (sd==2) m.pen2 m.pen1)
  let t:=CU m.rules b.1 e
  cond (!(b.2==0)) (m,1) (cond (!(t.2==0)) (m,t.2)
    ({ m with stage:=3,inns:=m.inns++[t.1],pen1:=cond (sd==1) 0 m.pen1,pen2:=cond (sd==2) 0 m.pen2 },0))
def PO (xs:List Inn) (sd:Int):Nat→Option Nat
 | 0=>none
 | k+1=>cond ((inn xs k).side==sd) (some k) (PO xs sd k)
def KX (m:Mat) (sd:Int):Mat:=match PO m.inns sd m.inns.length with
 | some k=>{ m with inns:=m.inns.set k (Sh (inn m.inns k)) }
 | none=>{ m with pen1:=cond (sd==1) (IntKind.i64.wrap (m.pen1+5)) m.pen1,pen2:=cond (sd==2) (IntKind.i64.wrap (m.pen2+5)) m.pen2 }
def Rg (m:Mat) (e:Ev):Mat×Int :=
 let t:=CU m.rules (BB m) e
 cond (!(t.2==0)) (m,t.2) (cond (e.kind==13 && !(e.side==t.1.side)) (KX { m with inns:=m.inns.set (lnx m.inns) t.1 } e.side) { m with inns:=m.inns.set (lnx m.inns) t.1 },0)
def cE (m:Mat):Mat:={ m with inns:=cond (m.stage==3) (m.inns.set (lnx m.inns) { BB m with ending:=5 }) m.inns,stage:=5,win:=Ww m.rules,wside:=0,margin:=0 }
def Il (m:Mat) (e:Ev):Mat×Int :=
  cond (e.kind==1) (cond (!(m.stage==1)) (m,1) ({ m with first:=cond e.yes e.side (DD e.side),stage:=2 },0))
    (cond (e.kind==2) (cond (!(m.stage==2)) (m,1) (Yg m e))
      (cond (e.kind==12) (cond (!(m.stage==4)) (m,1) (cond (!(e.side==m.first)) (m,2) ({ m with follow:=e.yes,stage:=2 },0)))
        (cond (e.kind==16) (cE m,0) (cond (!(m.stage==3)) (m,1) (Rg m e)))))
def Qs (m:Mat):Mat :=
  let n:Int:=m.inns.length
  let sd:=(BB m).side
  let o:=RV { m with stage:=5 }
  cond (n==IntKind.i64.wrap (2 * m.rules.innings)||(n==3&&iLt (CS m sd) (CS m (DD sd)))) { m with stage:=5,win:=o.1,wside:=o.2.1,margin:=o.2.2 }
    (cond (n==2&&iLt 0 m.rules.followon&&iLe m.rules.followon (IntKind.i64.wrap (CS m m.first - CS m (DD m.first)))) { m with stage:=4 } { m with stage:=2 })
def Q3 (m:Mat):Mat:=cond (m.stage==3 && !((BB m).ending==0)) (Qs m) m
def Bb (m:Mat) (e:Ev):Mat×Int :=
 cond (!Cw m || !(evS e==0)) (m,1) (cond (m.stage==5) (m,26) (cond (!((Il m e).2==0)) (m,(Il m e).2) (Q3 (Il m e).1,0)))
theorem bind_ok {X:Option (List PV)} {r:List PV} {k:List PV→Option (List PV)} {g:Option (List PV)} (h:X=some r) (hk:k r=g):X.bind k=g:=by rw [h];exact hk
structure MatOk (m:Mat):Prop where
 code:CW m.rules=0
 len:m.inns.length≤4
 innv:∀ i,i<m.inns.length→Gr m.rules (inn m.inns i)=true∧(inn m.inns i).side=Gu m (i:Int)
 begun:(m.stage==3)=true→((m.inns.length:Int)==0)=false
 toss:(m.stage==2)=true→m.first=1∨m.first=2
 room:(m.stage==2)=true→(m.inns.length:Int)<2 * m.rules.innings
 most:IntKind.i64.wrap (2 * m.rules.innings)=2 * m.rules.innings∧(m.inns.length:Int)≤2 * m.rules.innings
theorem dY {m:Mat} (h:Cw m=true):MatOk m:=by
 unfold Cw cP at h
 simp only [Bool.and_eq_true,Bool.not_eq_true'] at h
 obtain ⟨⟨h1,h2,h3,h4,h5,h6,h7,h8,h9,h10⟩,h11,h12⟩:=h
 have hc:=beq_iff_eq.1 h1
 have rk:=(N5 hc).innings
 have e2:IntKind.i64.wrap (2 * m.rules.innings)=2 * m.rules.innings:=Hv (by omega) (by omega)
 rw [e2] at h5 h8
 rw [Bool.or_eq_false_iff,Bool.or_eq_false_iff] at h5
 have hn:=h5.2
 have hf1:=h5.1.1
 have hf2:=h5.1.2
 simp only [iLt,decide_eq_false_iff_not] at hn hf1 hf2
 refine ⟨hc,by omega,fun i hi=>?_,fun hs=>?_,fun hs=>?_,fun hs=>?_,e2,by omega⟩
 ·have:=IP.1 h11 i (by omega) (by omega)
  unfold TC at this
  rw [Bool.or_eq_false_iff,Bool.not_eq_false',Bool.not_eq_false',beq_iff_eq] at this
  exact this
 ·unfold TS at h12
  rw [hs,Bool.and_eq_true] at h12
  have:=h12.2
  simp only [iLt,Bool.not_true,Bool.false_or,decide_eq_true_eq] at this
  exact beq_false_of_ne (by omega)
 ·rw [beq_iff_eq.1 hs] at h6
  cases h0:m.first==0 with
  | true=>rw [h0] at h6;simp at h6
  | false =>
   rw [beq_eq_false_iff_ne] at h0
   omega
 ·rw [hs,Bool.true_and,beq_eq_false_iff_ne] at h8
  omega
theorem eS {m:Mat} (h:m.first=1∨m.first=2) (i:Int):Gu m i=1∨Gu m i=2:=by
 unfold Gu
 cases cond (m.follow&&iLe 2 i) (i==2) (i.tmod 2==1) with
 | false=>exact h
 | true=>rcases h with h | h<;>rw [h]<;>decide
theorem du {m:Mat} (h:MatOk m):Gh m.inns:=fun i hi=>(RL (h.innv i hi).1).2.2
theorem WN {F : (List AY → Option (List PV)) → List PV → Option (List PV)} {len : Nat} (enc : Nat → List AY) (ans : Nat → Option (List PV))
    (h0:∀ self,F self ((enc len).map Leaf.pv)=some [.int 1]) (h1:∀ i self,i<len→F self ((enc i).map Leaf.pv)=match ans i with | some r=>some (.int 0::r) | none=>self (enc (i+1))) :
    ∀ (k i n:Nat),i+k=len→k<n→Gc F n ((enc i).map Leaf.pv)=some (Tq (Bu ans k i))
  | 0,i,n,hk,hn=>by
    obtain ⟨n,rfl⟩:∃ m,n=m+1:=⟨n - 1,by omega⟩
    obtain rfl:i=len:=by omega
    exact h0 _
  | k+1,i,n,hk,hn=>by
    obtain ⟨n,rfl⟩:∃ m,n=m+1:=⟨n - 1,by omega⟩
    show F _ _=_
    rw [h1 i _ (by omega)]
    simp only [Bu]
    cases ans i with
    | some r=>rfl
    | none=>exact WN enc ans h0 h1 k (i+1) n (by omega) (by omega)
theorem au (ys:List Inn) (sd:Int) (g:Nat→List PV) (n:Nat):∀ k,k≤n→Bu (fun j=>cond ((inn ys (n - 1 - j)).side==sd) (some (g (n - 1 - j))) none) k (n - k)=(PO ys sd k).map g
 | 0,_=>rfl
 | k+1,h=>by
  have ih:=au ys sd g n k (by omega)
  have e:n - 1 - (n - (k+1))=k:=by omega
  have e2:n - (k+1)+1=n - k:=by omega
  simp only [Bu,PO,e,e2,ih]
  cases (inn ys k).side==sd<;>rfl
theorem go (xs:List Inn) (k:Nat) (s:Inn) (i:Nat) (hi:i<xs.length):inn (xs.set k s) i=(if k=i then s else inn xs i):=by
 rw [I8,I8,List.getElem?_set]
 by_cases h:k=i
 ·subst h
  rw [if_pos rfl,if_pos rfl,if_pos hi]
 ·rw [if_neg h,if_neg h]
theorem RG {xs:List Inn} {s:Inn} (k:Nat) (h:Gh xs) (hs:s.Fit):Gh (xs.set k s):=fun i hi=>by
 rw [List.length_set] at hi
 rw [go xs k s i hi]
 by_cases e:k=i
 ·rw [if_pos e];exact hs
 ·rw [if_neg e];exact h i hi
theorem dC {e:Ev} (h:(evS e==0)=true) (hk:(e.kind==13)=true):e.side=1∨e.side=2:=by
 have h0:=Xj h
 rw [beq_iff_eq] at hk
 unfold evS at h
 rw [h0] at h
 cases h1:Rm e with
 | true=>rw [h1] at h;cases h
 | false =>
  cases h2:OQ e with
  | true=>rw [h1,h2] at h;cases h
  | false =>
   unfold OQ at h2
   rw [Bool.or_eq_false_iff] at h2
   have h3:=h2.1
   rw [hk,show uS 13=true from rfl,Bool.and_true] at h3
   simp only [btw,iLe,Bool.not_eq_false',Bool.and_eq_true,decide_eq_true_eq] at h3
   omega
theorem gU (xs:List Inn) (s:Inn) (i:Nat) (hi:i<xs.length+1):inn (xs++[s]) i=(if i<xs.length then inn xs i else s):=by
 rw [I8,I8]
 by_cases h:i<xs.length
 ·rw [if_pos h,List.getElem?_append_left h]
 ·have:i=xs.length:=by omega
  subst this
  rw [if_neg h,List.getElem?_append_right (Nat.le_refl _),Nat.sub_self]
  rfl
theorem fN {xs:List Inn} {s:Inn} (h:Gh xs) (hs:s.Fit):Gh (xs++[s]):=fun i hi=>by
 rw [List.length_append] at hi
 rw [gU xs s i hi]
 by_cases e:i<xs.length
 ·rw [if_pos e];exact h i e
 ·rw [if_neg e];exact hs
theorem W5 (r:Rul) (a b c:Int) (e:Ev):(CU r (Dq r a b c).1 e).1.Fit:=by
 obtain ⟨f,h1,h2⟩:=Nv r a b c
 exact QW (S4 r _ e) f (by rw [h1,h2];exact Nat.zero_le _)
structure ActOk (m:Mat) (x:Mat×Int):Prop where
 rules:x.1.rules=m.rules
 fit:Gh x.1.inns
 len:x.1.inns.length≤5
 some':(x.2==0)=true→(x.1.stage==3)=true→((x.1.inns.length:Int)==0)=false
theorem A_c {m:Mat} (b:Bool) (x y:Mat×Int) (hx:ActOk m x) (hy:ActOk m y):ActOk m (cond b x y):=by cases b<;>assumption
theorem fK {m:Mat} (sd:Int) (hf:Gh m.inns):(KX m sd).rules=m.rules∧Gh (KX m sd).inns∧(KX m sd).inns.length=m.inns.length∧(KX m sd).stage=m.stage:=by
 unfold KX
 cases h:PO m.inns sd m.inns.length with
 | none=>exact ⟨rfl,hf,rfl,rfl⟩
 | some k =>
  have hk:k<m.inns.length:=by
   have:∀ n,PO m.inns sd n=some k→k<n:=by
    intro n
    induction n with
    | zero=>intro h;cases h
    | succ n ih =>
     intro h
     unfold PO at h
     cases hq:(inn m.inns n).side==sd with
     | true=>rw [hq] at h;cases h;omega
     | false=>rw [hq] at h;have:=ih h;omega
   exact this _ h
  exact ⟨rfl,RG k hf (gl (hf k hk)),List.length_set,rfl⟩
theorem i7 {m:Mat} (ok:MatOk m) (e:Ev):ActOk m (Il m e):=by
 have hf:=du ok
 have hl:=ok.len
 have self:∀ n:Int,(n==0)=false→ActOk m (m,n):=fun n hn=>⟨rfl,hf,by show m.inns.length≤5;omega,fun h=>by rw [hn] at h;cases h⟩
 unfold Il
 refine A_c _ _ _ (A_c _ _ _ (self 1 rfl) ⟨rfl,hf,by show m.inns.length≤5;omega,fun _ h=>by cases h⟩) (A_c _ _ _ ?_ (A_c _ _ _ ?_ (A_c _ _ _ ?_ ?_)))
 ·refine A_c _ _ _ (self 1 rfl) ?_
  unfold Yg
  refine A_c _ _ _ (self 1 rfl) ?_
  cases hq:(CU m.rules (Dq m.rules (Gu m (m.inns.length:Int)) (IG m (Gu m (m.inns.length:Int))) (cond (Gu m (m.inns.length:Int)==2) m.pen2 m.pen1)).1 e).2==0 with
  | false =>
   simp only [Bool.not_false,cond_true]
   exact self _ hq
  | true =>
   simp only [Bool.not_true,cond_false]
   exact ⟨rfl,fN hf (W5 _ _ _ _ e),by simp;omega,fun _ _=>by
    show ((((m.inns++[_]).length:Nat):Int)==0)=false
    rw [List.length_append]
    exact beq_false_of_ne (by simp;omega)⟩
 ·exact A_c _ _ _ (self 1 rfl) (A_c _ _ _ (self 2 rfl) ⟨rfl,hf,by show m.inns.length≤5;omega,fun _ h=>by cases h⟩)
 ·unfold cE
  cases h3:m.stage==3 with
  | false=>exact ⟨rfl,hf,by show m.inns.length≤5;omega,fun _ h=>by cases h⟩
  | true =>
   have h0:=ok.begun h3
   have fl:=hf (lnx m.inns) (Zd h0 (by omega))
   exact ⟨rfl,RG _ hf ⟨fl.bt,fl.bw,fl.bf,fl.bd,fl.sb⟩,by show (m.inns.set _ _).length≤5;rw [List.length_set];omega,fun _ h=>by cases h⟩
 ·cases h3:m.stage==3 with
  | false=>exact self 1 rfl
  | true =>
   have h0:=ok.begun h3
   have lv:=RL (ok.innv (lnx m.inns) (Zd h0 (by omega))).1
   have h1:=lv.1
   have h2:=lv.2.1
   have ft:=QW (S4 m.rules (BB m) e) lv.2.2 (show (inn m.inns (lnx m.inns)).before.length+(inn m.inns (lnx m.inns)).bowlers.length≤1048575 by omega)
   simp only [Bool.not_true,cond_false,Rg]
   cases hq:(CU m.rules (BB m) e).2==0 with
   | false =>
    simp only [Bool.not_false,Bool.not_true,cond_true,cond_false]
    exact self _ hq
   | true =>
    have fs:=RG (lnx m.inns) hf ft
    have ln:(m.inns.set (lnx m.inns) (CU m.rules (BB m) e).1).length=m.inns.length:=List.length_set
    simp only [Bool.not_true,cond_false]
    cases (e.kind==13 && !(e.side==(CU m.rules (BB m) e).1.side)) with
    | false =>
     exact ⟨rfl,fs,by show (m.inns.set _ _).length≤5;omega,fun _ _=>by
      show ((((m.inns.set _ _).length:Nat):Int)==0)=false
      rw [ln];exact h0⟩
    | true =>
     obtain ⟨a1,a2,a3,a4⟩:=fK (m:={ m with inns:=m.inns.set (lnx m.inns) (CU m.rules (BB m) e).1 }) e.side fs
     exact ⟨a1,a2,by show (KX _ _).inns.length≤5;rw [a3];show (m.inns.set _ _).length≤5;omega,fun _ _=>by
      show ((((KX _ _).inns.length:Nat):Int)==0)=false
      rw [a3]
      show ((((m.inns.set _ _).length:Nat):Int)==0)=false
      rw [ln];exact h0⟩
end Go.Px
end
section
namespace Go.Px
set_option maxRecDepth 100000
set_option maxHeartbeats 8000000 in
theorem Ou {N:Nat} {m1 m2 m3 m4 m5 m6 m7 m9 m10 m11 m12 m14 m15 m18 m19 m20 m21 m22:Int} {m8 m16:Bool} {m0:ByteArray} {m13:Rows} {m17:List Inn} {e0 e1 e2 e3 e5 e6 e7 e8 e9 e10 e11 e13 e14 e15 e16 e18:Int} {e4 e12 e17:Bool} (hN:2097152<N) (hf:Gh m17) (hl:m17.length≤1000000) (hs:m0.size≤1048576) (h13:m13.length≤1048576):Bd N [.str m0,.int m1,.int m2,.int m3,.int m4,.int m5,.int m6,.int m7,.bool m8,.int m9,.int m10,.int m11,.int m12,.rows m13,.int m14,.int m15,.bool m16,.rows (AK m17),.int m18,.int m19,.int m20,.int m21,.int m22,.int e0,.int e1,.int e2,.int e3,.bool e4,.int e5,.int e6,.int e7,.int e8,.int e9,.int e10,.int e11,.bool e12,.int e13,.int e14,.int e15,.int e16,.bool e17,.int e18]=some (Pp (Bb (⟨⟨m0,m1,m2,m3,m4,m5,m6,m7,m8,m9,m10,m11,m12,m13⟩,m14,m15,m16,m17,m18,m19,m20,m21,m22⟩:Mat) (⟨e0,e1,e2,e3,e4,e5,e6,⟨e7,e8,e9,e10,e11,e12,e13,e14,e15,e16,e17,e18⟩⟩:Ev))):=by
 show KW (std (Au N) N) (xOf _)=_
 generalize hres:(some (Pp (Bb (⟨⟨m0,m1,m2,m3,m4,m5,m6,m7,m8,m9,m10,m11,m12,m13⟩,m14,m15,m16,m17,m18,m19,m20,m21,m22⟩:Mat) (⟨e0,e1,e2,e3,e4,e5,e6,⟨e7,e8,e9,e10,e11,e12,e13,e14,e15,e16,e17,e18⟩⟩:Ev))):Option (List PV))=RR
 simp only [KW,Oo,OH,OT,EI,EL,Hy,Gt,DW,Dv,CV,Co,Fn,std,xOf,PXb,JY hf hN hl hs,SE hN,YI hf hN hl h13]
 subst hres;simp only [Bb]
 cases hv:Cw (⟨⟨m0,m1,m2,m3,m4,m5,m6,m7,m8,m9,m10,m11,m12,m13⟩,m14,m15,m16,m17,m18,m19,m20,m21,m22⟩:Mat)
 case false=>rfl
 cases he:evS (⟨e0,e1,e2,e3,e4,e5,e6,⟨e7,e8,e9,e10,e11,e12,e13,e14,e15,e16,e17,e18⟩⟩:Ev)==0
 case false=>simp only [PXb,he];rfl
 simp only [PXb,he]
 cases h5:m14==5
 case true=>rfl
 simp only [PXb]
 have ok:=dY hv
 refine bind_ok (r:=.int (Il (⟨⟨m0,m1,m2,m3,m4,m5,m6,m7,m8,m9,m10,m11,m12,m13⟩,m14,m15,m16,m17,m18,m19,m20,m21,m22⟩:Mat) (⟨e0,e1,e2,e3,e4,e5,e6,⟨e7,e8,e9,e10,e11,e12,e13,e14,e15,e16,e17,e18⟩⟩:Ev)).2::(Il (⟨⟨m0,m1,m2,m3,m4,m5,m6,m7,m8,m9,m10,m11,m12,m13⟩,m14,m15,m16,m17,m18,m19,m20,m21,m22⟩:Mat) (⟨e0,e1,e2,e3,e4,e5,e6,⟨e7,e8,e9,e10,e11,e12,e13,e14,e15,e16,e17,e18⟩⟩:Ev)).1.ls) ?_ ?_
 ·unfold Il
  cases hk1:e0==1
  case true =>
   simp only [PXb,EL,Gj]
   cases m14==1<;>cases e4<;>rfl
  cases hk2:e0==2
  case true =>
   simp only [PXb]
   cases hs2:m14==2
   case false=>rfl
   have hl2:m17.length≤1048576:=by omega
   have h304:iSm ((m17.length+1:Nat):Int) 304=true:=Fj (by omega) (by omega)
   have fb:=fun a b c=>(Nv (⟨⟨m0,m1,m2,m3,m4,m5,m6,m7,m8,m9,m10,m11,m12,m13⟩,m14,m15,m16,m17,m18,m19,m20,m21,m22⟩:Mat).rules a b c).1
   have wb:∀ a b c,(Dq (⟨⟨m0,m1,m2,m3,m4,m5,m6,m7,m8,m9,m10,m11,m12,m13⟩,m14,m15,m16,m17,m18,m19,m20,m21,m22⟩:Mat).rules a b c).1.before.length+(Dq (⟨⟨m0,m1,m2,m3,m4,m5,m6,m7,m8,m9,m10,m11,m12,m13⟩,m14,m15,m16,m17,m18,m19,m20,m21,m22⟩:Mat).rules a b c).1.bowlers.length≤1000000:=fun a b c=>by
    rw [(Nv (⟨⟨m0,m1,m2,m3,m4,m5,m6,m7,m8,m9,m10,m11,m12,m13⟩,m14,m15,m16,m17,m18,m19,m20,m21,m22⟩:Mat).rules a b c).2.1,(Nv (⟨⟨m0,m1,m2,m3,m4,m5,m6,m7,m8,m9,m10,m11,m12,m13⟩,m14,m15,m16,m17,m18,m19,m20,m21,m22⟩:Mat).rules a b c).2.2]
    exact Nat.zero_le _
   rcases eS (m:=(⟨⟨m0,m1,m2,m3,m4,m5,m6,m7,m8,m9,m10,m11,m12,m13⟩,m14,m15,m16,m17,m18,m19,m20,m21,m22⟩:Mat)) (ok.toss hs2) (m17.length:Int) with ho | ho
   ·simp only [PXb,PXc,JA,Yo,Nat.reduceAdd,Int.reduceBEq,PXi,PXr,Inn.eta,A8,List.length_append,List.length_cons,List.length_nil,h304,Yg,EI,Dv,DW,CV,M2,QX hN hl2,Pu hN hs,Le (fb _ _ _) (wb _ _ _) hN hs h13,ho,wr1,wr2,aA,ZG]
    cases (Dq (⟨⟨m0,m1,m2,m3,m4,m5,m6,m7,m8,m9,m10,m11,m12,m13⟩,m14,m15,m16,m17,m18,m19,m20,m21,m22⟩:Mat).rules 1 (IG (⟨⟨m0,m1,m2,m3,m4,m5,m6,m7,m8,m9,m10,m11,m12,m13⟩,m14,m15,m16,m17,m18,m19,m20,m21,m22⟩:Mat) 1) m18).2==0<;>try rfl
    cases (CU (⟨⟨m0,m1,m2,m3,m4,m5,m6,m7,m8,m9,m10,m11,m12,m13⟩,m14,m15,m16,m17,m18,m19,m20,m21,m22⟩:Mat).rules (Dq (⟨⟨m0,m1,m2,m3,m4,m5,m6,m7,m8,m9,m10,m11,m12,m13⟩,m14,m15,m16,m17,m18,m19,m20,m21,m22⟩:Mat).rules 1 (IG (⟨⟨m0,m1,m2,m3,m4,m5,m6,m7,m8,m9,m10,m11,m12,m13⟩,m14,m15,m16,m17,m18,m19,m20,m21,m22⟩:Mat) 1) m18).1 (⟨e0,e1,e2,e3,e4,e5,e6,⟨e7,e8,e9,e10,e11,e12,e13,e14,e15,e16,e17,e18⟩⟩:Ev)).2==0<;>rfl
   ·simp only [PXb,PXc,JA,Yo,Nat.reduceAdd,Int.reduceBEq,PXi,PXr,Inn.eta,A8,List.length_append,List.length_cons,List.length_nil,h304,Yg,EI,Dv,DW,CV,M2,QX hN hl2,Pu hN hs,Le (fb _ _ _) (wb _ _ _) hN hs h13,ho,wr1,wr2,aA,ZG]
    cases (Dq (⟨⟨m0,m1,m2,m3,m4,m5,m6,m7,m8,m9,m10,m11,m12,m13⟩,m14,m15,m16,m17,m18,m19,m20,m21,m22⟩:Mat).rules 2 (IG (⟨⟨m0,m1,m2,m3,m4,m5,m6,m7,m8,m9,m10,m11,m12,m13⟩,m14,m15,m16,m17,m18,m19,m20,m21,m22⟩:Mat) 2) m19).2==0<;>try rfl
    cases (CU (⟨⟨m0,m1,m2,m3,m4,m5,m6,m7,m8,m9,m10,m11,m12,m13⟩,m14,m15,m16,m17,m18,m19,m20,m21,m22⟩:Mat).rules (Dq (⟨⟨m0,m1,m2,m3,m4,m5,m6,m7,m8,m9,m10,m11,m12,m13⟩,m14,m15,m16,m17,m18,m19,m20,m21,m22⟩:Mat).rules 2 (IG (⟨⟨m0,m1,m2,m3,m4,m5,m6,m7,m8,m9,m10,m11,m12,m13⟩,m14,m15,m16,m17,m18,m19,m20,m21,m22⟩:Mat) 2) m19).1 (⟨e0,e1,e2,e3,e4,e5,e6,⟨e7,e8,e9,e10,e11,e12,e13,e14,e15,e16,e17,e18⟩⟩:Ev)).2==0<;>rfl
  cases hk3:e0==12
  case true =>
   simp only [PXb]
   cases m14==4<;>cases e1==m15<;>rfl
  cases hk4:e0==16
  case true =>
   simp only [PXb,cE]
   cases h3:m14==3
   case false=>simp only [PXb,PXc,PXi,PXr,JA,Nat.reduceAdd,Co,H0];rfl
   simp only [PXb,PXc,PXi,PXr,JA,Nat.reduceAdd,Qv (ok.begun h3) hl,Co,H0]
   rfl
  simp only [PXb]
  cases h3:m14==3
  case false=>rfl
  have h0:=ok.begun h3
  have lv:=RL (ok.innv (lnx m17) (Zd h0 hl)).1
  have fl:(inn m17 (IntKind.i64.wrap ((m17.length:Int) - 1)).toNat).Fit:=lv.2.2
  have wl:(inn m17 (IntKind.i64.wrap ((m17.length:Int) - 1)).toNat).before.length+(inn m17 (IntKind.i64.wrap ((m17.length:Int) - 1)).toNat).bowlers.length≤1000000:=by
   have h1:=lv.1
   have h2:=lv.2.1
   change (inn m17 (IntKind.i64.wrap ((m17.length:Int) - 1)).toNat).bowlers.length≤11 at h1
   change (inn m17 (IntKind.i64.wrap ((m17.length:Int) - 1)).toNat).before.length≤11 at h2
   omega
  have f1:=QW (S4 (⟨⟨m0,m1,m2,m3,m4,m5,m6,m7,m8,m9,m10,m11,m12,m13⟩,m14,m15,m16,m17,m18,m19,m20,m21,m22⟩:Mat).rules (inn m17 (IntKind.i64.wrap ((m17.length:Int) - 1)).toNat) (⟨e0,e1,e2,e3,e4,e5,e6,⟨e7,e8,e9,e10,e11,e12,e13,e14,e15,e16,e17,e18⟩⟩:Ev)) fl (by omega)
  simp only [PXb,PXc,PXi,PXr,A8,Inn.eta,JA,Nat.reduceAdd,List.length_set,Qv h0 hl,CV,Le fl wl hN hs h13,Rg,BB,lnx]
  generalize hX:CU (⟨⟨m0,m1,m2,m3,m4,m5,m6,m7,m8,m9,m10,m11,m12,m13⟩,m14,m15,m16,m17,m18,m19,m20,m21,m22⟩:Mat).rules (inn m17 (IntKind.i64.wrap ((m17.length:Int) - 1)).toNat) (⟨e0,e1,e2,e3,e4,e5,e6,⟨e7,e8,e9,e10,e11,e12,e13,e14,e15,e16,e17,e18⟩⟩:Ev)=X at f1
  have fy:=RG (IntKind.i64.wrap ((m17.length:Int) - 1)).toNat hf f1
  generalize hy:m17.set (IntKind.i64.wrap ((m17.length:Int) - 1)).toNat X.1=ys at fy
  have ly:ys.length=m17.length:=by rw [← hy,List.length_set]
  cases X.2==0<;>try rfl
  cases h13k:e0==13
  case false=>rfl
  cases hsd:e1==X.1.side
  case true=>rfl
  simp only [PXb,Option.bind_assoc]
  have e0w:IntKind.i64.wrap ((m17.length:Int) - 1)=(m17.length:Int) - 1 - ((0:Nat):Int):=by
   rw [beq_eq_false_iff_ne] at h0
   rw [Hv (by omega) (by omega)];omega
  rw [e0w]
  have hside:=dC (e:=(⟨e0,e1,e2,e3,e4,e5,e6,⟨e7,e8,e9,e10,e11,e12,e13,e14,e15,e16,e17,e18⟩⟩:Ev)) he h13k
  simp only at hside
  refine AM (WN (len:=m17.length) (fun j=>[.int ((m17.length:Int) - 1 - (j:Int))]) (fun j=>cond ((inn ys (m17.length - 1 - j)).side==e1) (some [PV.str m0,PV.int m1,PV.int m2,PV.int m3,PV.int m4,PV.int m5,PV.int m6,PV.int m7,PV.bool m8,PV.int m9,PV.int m10,PV.int m11,PV.int m12,PV.rows m13,PV.int m14,PV.int m15,PV.bool m16,PV.rows (AK (ys.set (m17.length - 1 - j) (Sh (inn ys (m17.length - 1 - j))))),PV.int m18,PV.int m19,PV.int m20,PV.int m21,PV.int m22]) none) ?_ ?_ m17.length 0 N (by omega) (by omega)) ?_
  ·intro self
   have q1:iLe 0 ((m17.length:Int) - 1 - (m17.length:Int))=false:=by simp only [iLe,decide_eq_false_iff_not];omega
   simp only [PXb,q1]
  ·intro i self hi
   have q1:iLe 0 ((m17.length:Int) - 1 - (i:Int))=true:=by simp only [iLe,decide_eq_true_eq];omega
   have q2:iIn ((m17.length:Int) - 1 - (i:Int)) (m17.length:Int)=true:=by simp only [iIn,decide_eq_true_eq];omega
   have q3:((m17.length:Int) - 1 - (i:Int)).toNat=m17.length - 1 - i:=by omega
   have q4:IntKind.i64.wrap ((m17.length:Int) - 1 - (i:Int) - 1)=(m17.length:Int) - 1 - ((i+1:Nat):Int):=by rw [Hv (by omega) (by omega)];omega
   have q5:=fy (m17.length - 1 - i) (by omega)
   simp only [PXb,PXc,q1,q2,q3,q4,Fn,NJ q5,PXm]
   cases (inn ys (m17.length - 1 - i)).side==e1<;>rfl
  ·have hfa:=au ys e1 (fun k=>[PV.str m0,PV.int m1,PV.int m2,PV.int m3,PV.int m4,PV.int m5,PV.int m6,PV.int m7,PV.bool m8,PV.int m9,PV.int m10,PV.int m11,PV.int m12,PV.rows m13,PV.int m14,PV.int m15,PV.bool m16,PV.rows (AK (ys.set k (Sh (inn ys k)))),PV.int m18,PV.int m19,PV.int m20,PV.int m21,PV.int m22]) m17.length m17.length (Nat.le_refl _)
   rw [Nat.sub_self] at hfa
   rw [hfa]
   unfold KX
   simp only [ly]
   cases PO ys e1 m17.length with
   | some k=>rfl
   | none =>
    rcases hside with h | h<;>subst h
    ·simp only [Option.map_none,Tq,PXb,PXc,JA,Int.reduceBEq,wr1,aA]
     rfl
    ·simp only [Option.map_none,Tq,PXb,PXc,JA,Int.reduceBEq,wr2,ZG]
     rfl
 ·have ak:=i7 ok (⟨e0,e1,e2,e3,e4,e5,e6,⟨e7,e8,e9,e10,e11,e12,e13,e14,e15,e16,e17,e18⟩⟩:Ev)
  generalize Il (⟨⟨m0,m1,m2,m3,m4,m5,m6,m7,m8,m9,m10,m11,m12,m13⟩,m14,m15,m16,m17,m18,m19,m20,m21,m22⟩:Mat) (⟨e0,e1,e2,e3,e4,e5,e6,⟨e7,e8,e9,e10,e11,e12,e13,e14,e15,e16,e17,e18⟩⟩:Ev)=A at ak
  obtain ⟨⟨⟨a0,a1,a2,a3,a4,a5,a6,a7,a8,a9,a10,a11,a12,a13⟩,a14,a15,a16,a17,a18,a19,a20,a21,a22⟩,l⟩:=A
  obtain ⟨k1,k2,k3,k4⟩:=ak
  simp only at k1 k2 k3 k4
  have hl5:a17.length≤1048576:=by omega
  have hs5:a0.size≤1048576:=by
   have:=congrArg Rul.name k1
   simp only at this
   rw [this];exact hs
  simp only [PXb,PXc,PXk,PXi,JA,Nat.reduceAdd]
  cases hl0:l==0
  case false=>rfl
  simp only [PXb,Q3]
  cases h3:a14==3
  case false=>rfl
  have h0:=k4 hl0 h3
  have li:=Qv h0 (show a17.length≤1000000 by omega)
  simp only [PXb,PXc,PXi,li]
  cases he2:(inn a17 (IntKind.i64.wrap ((a17.length:Int) - 1)).toNat).ending==0
  case true=>simp only [PXb,BB,lnx,he2]
  simp only [PXb,PXc,PXi,BB,lnx,he2,Hy,EL,Gt,Mx hN hl5,Gj,WJ k2 hN (show a17.length≤1000000 by omega) hs5]
  unfold Qs
  simp only [BB,lnx]
  simp only [CS,BB,lnx]
  cases hq1:((a17.length:Int)==IntKind.i64.wrap (2 * a2))
  case true=>rfl
  cases hq2:((a17.length:Int)==3)
  case true =>
   simp only [PXb]
   cases iLt (Mw a17 (inn a17 (IntKind.i64.wrap ((a17.length:Int) - 1)).toNat).side a17.length) (Mw a17 (DD (inn a17 (IntKind.i64.wrap ((a17.length:Int) - 1)).toNat).side) a17.length)
   case true=>rfl
   simp only [PXb]
   cases ((a17.length:Int)==2)&&iLt 0 a10&&iLe a10 (IntKind.i64.wrap (Mw a17 a15 a17.length - Mw a17 (DD a15) a17.length))<;>rfl
  simp only [PXb]
  cases ((a17.length:Int)==2)&&iLt 0 a10&&iLe a10 (IntKind.i64.wrap (Mw a17 a15 a17.length - Mw a17 (DD a15) a17.length))<;>rfl
end Go.Px
end
section
namespace Go.Px
set_option maxRecDepth 100000
theorem aj (m:Mat):(Qs m).rules=m.rules∧(Qs m).inns=m.inns:=by
 unfold Qs
 dsimp only
 cases ((m.inns.length:Int)==IntKind.i64.wrap (2 * m.rules.innings)||((m.inns.length:Int)==3&&iLt (CS m (BB m).side) (CS m (DD (BB m).side)))) with
 | true=>exact ⟨rfl,rfl⟩
 | false =>
  cases ((m.inns.length:Int)==2&&iLt 0 m.rules.followon&&iLe m.rules.followon (IntKind.i64.wrap (CS m m.first - CS m (DD m.first))))<;>exact ⟨rfl,rfl⟩
theorem cG (m:Mat):(Q3 m).rules=m.rules∧(Q3 m).inns=m.inns:=by
 unfold Q3
 cases (m.stage==3 && !((BB m).ending==0)) with
 | true=>exact aj m
 | false=>exact ⟨rfl,rfl⟩
structure StepOk (r:Rul) (m:Mat):Prop where
 rules:m.rules=r
 fit:Gh m.inns
 len:m.inns.length≤5
theorem VE {m:Mat} {e:Ev} (h:((Bb m e).2==0)=true):Cw m=true∧(evS e==0)=true∧(m.stage==5)=false∧((Il m e).2==0)=true∧(Bb m e).1=Q3 (Il m e).1:=by
 unfold Bb at h ⊢
 cases hv:Cw m with
 | false=>rw [hv] at h;exact absurd (show ((1:Int)==0)=true from h) (by decide)
 | true =>
  cases he:evS e==0 with
  | false=>rw [hv,he] at h;exact absurd (show ((1:Int)==0)=true from h) (by decide)
  | true =>
   cases h5:m.stage==5 with
   | true=>rw [hv,he,h5] at h;exact absurd (show ((26:Int)==0)=true from h) (by decide)
   | false =>
    cases hx:(Il m e).2==0 with
    | false=>rw [hv,he,h5,hx] at h;exact absurd (show ((Il m e).2==0)=true from h) (by rw [hx];decide)
    | true=>exact ⟨rfl,rfl,rfl,rfl,rfl⟩
theorem bq {m:Mat} {e:Ev} (h:((Bb m e).2==0)=true) (hk:(e.kind==4)=true):(m.stage==3)=true∧((m.inns.length:Int)==0)=false∧((CU m.rules (BB m) e).2==0)=true∧(Bb m e).1.inns=m.inns.set (lnx m.inns) (CU m.rules (BB m) e).1:=by
 obtain ⟨hv,he,h5,ha,hs⟩:=VE h
 have hk4:=beq_iff_eq.1 hk
 rw [hs,(cG _).2]
 unfold Il at ha ⊢
 simp only [hk4,Int.reduceBEq,cond_false] at ha ⊢
 cases h3:m.stage==3 with
 | false=>rw [h3] at ha;exact absurd (show ((1:Int)==0)=true from ha) (by decide)
 | true =>
  rw [h3] at ha
  simp only [Bool.not_true,cond_false] at ha ⊢
  unfold Rg at ha ⊢
  cases hq:(CU m.rules (BB m) e).2==0 with
  | false=>simp only [hq,Bool.not_false,cond_true] at ha;exact absurd ha Bool.false_ne_true
  | true =>
   simp only [hk4,Int.reduceBEq,Bool.false_and,hq,Bool.not_true,cond_false]
   exact ⟨trivial,(dY hv).begun h3,trivial,trivial⟩
end Go.Px
end
section
namespace Go.Px
set_option maxRecDepth 100000
def Bv (m:Mat):Mat:={ m with rules:=Ro m.rules,inns:=(m.inns.take 5).map RT }
theorem fI (xs:List Inn):((xs.take 5).map RT).length≤5:=by rw [List.length_map,List.length_take];omega
theorem hP (xs:List Inn):∀ i,i<(xs.map RT).length→inn (xs.map RT) i=RT (inn xs i):=fun i hi=>by
 rw [List.length_map] at hi
 rw [I8,I8,List.getElem?_map,List.getElem?_eq_getElem hi]
 rfl
theorem gb {m:Mat}:StepOk (Ro m.rules) (Bv m):=⟨rfl,fun i hi=>by
 show (inn ((m.inns.take 5).map RT) i).Fit
 rw [hP _ i hi]
 exact gj _,fI _⟩
theorem ei {xs:List Inn} {i:Nat} (h:i<xs.length):xs.take (i+1)=xs.take i++[inn xs i]:=by
 rw [List.take_succ_eq_append_getElem h,I8,List.getElem?_eq_getElem h]
set_option maxHeartbeats 2000000 in
theorem cg {N:Nat} {m1 m2 m3 m4 m5 m6 m7 m9 m10 m11 m12 m14 m15 m18 m19 m20 m21 m22:Int} {m8 m16:Bool} {m0:ByteArray} {m13:Rows} {m17:List Inn} (hN:2097152<N):Mk N [.str m0,.int m1,.int m2,.int m3,.int m4,.int m5,.int m6,.int m7,.bool m8,.int m9,.int m10,.int m11,.int m12,.rows m13,.int m14,.int m15,.bool m16,.rows (AK m17),.int m18,.int m19,.int m20,.int m21,.int m22]=some (Bv (⟨⟨m0,m1,m2,m3,m4,m5,m6,m7,m8,m9,m10,m11,m12,m13⟩,m14,m15,m16,m17,m18,m19,m20,m21,m22⟩:Mat)).ls:=by
 show Mp (std (Ix N) N) (xOf _)=_
 have e5:m17.take (min m17.length 5)=m17.take 5:=by
  by_cases h:m17.length≤5
  ·rw [Nat.min_eq_left h,List.take_length,List.take_of_length_le h]
  ·rw [Nat.min_eq_right (by omega)]
 simp only [Mp,std,xOf,PXb,bu (show (0:Int)≤20 by omega),bu (show (0:Int)≤10 by omega),PXi]
 refine AM (BE (len:=min m17.length 5) (fun i=>[.rows (AK ((m17.take i).map RT)),.int (i:Int)]) [.rows (AK ((m17.take 5).map RT))] ?_ ?_ N (by omega)) rfl
 ·intro self
  have:(iLt ((min m17.length 5:Nat):Int) (m17.length:Int)&&iLt ((min m17.length 5:Nat):Int) 5)=false:=by
   rw [Bool.and_eq_false_iff]
   simp only [iLt,decide_eq_false_iff_not]
   omega
  simp only [PXb,PXc,PXn,AF,this,e5]
 ·intro i self hi
  have h1:i<m17.length:=by omega
  have h5:iLt (i:Int) 5=true:=by simp only [iLt,decide_eq_true_eq];omega
  have h304:iSm (((m17.take i).length+1:Nat):Int) 304=true:=Fj (by rw [List.length_take];omega) (by omega)
  have c13:∀ n:Nat,iRg 0 (cond (iLt 13 (n:Int)) 13 (n:Int)) (n:Int)=true:=fun n=>bu (show (0:Int)≤13 by omega)
  simp only [PXb,PXc,PXn,AF,Aw (show i≤1099511627776 by omega),Az h1,Ag h1,h5,PXi,c13,List.length_append,List.length_cons,List.length_nil,List.length_map,Nat.zero_add,Nat.reduceAdd,h304,PXr,ei h1,List.map_append]
  rfl
end Go.Px
end
section
namespace Go.Px
set_option maxRecDepth 100000
def fm (f:Int→Rows) (lo:Int):Nat→Rows
 | 0=>[]
 | n+1=>fm f lo n++f (lo+(n:Int))
theorem Ep (f:Int→Rows) (lo:Int) (n:Nat):fm f lo (n+1)=fm f lo n++f (lo+(n:Int)):=rfl
theorem On {f g:Int→Rows} {lo:Int}:∀ n:Nat,(∀ i,lo≤i→i<lo+(n:Int)→f i=g i)→fm f lo n=fm g lo n
 | 0,_=>rfl
 | n+1,h=>by
  rw [Ep,Ep,On n (fun i h1 h2=>h i h1 (by omega)),h _ (by omega) (by omega)]
theorem Hs {f:Int→Rows} {lo:Int}:∀ n:Nat,(∀ i,lo≤i→i<lo+(n:Int)→f i=[])→fm f lo n=[]
 | 0,_=>rfl
 | n+1,h=>by
  rw [Ep,Hs n (fun i h1 h2=>h i h1 (by omega)),h _ (by omega) (by omega)]
  rfl
theorem ZN (f:Int→Rows) (lo:Int) (n:Nat):∀ m:Nat,fm f lo (n+m)=fm f lo n++fm f (lo+(n:Int)) m
 | 0=>(List.append_nil _).symm
 | m+1=>by
  rw [show n+(m+1)=(n+m)+1 by omega,Ep,Ep,ZN f lo n m,List.append_assoc,show lo+((n+m:Nat):Int)=lo+(n:Int)+(m:Int) by omega]
theorem Yp {f:Int→Rows} {lo:Int} {c:Nat}:∀ n:Nat,(∀ i,(f i).length≤c)→(fm f lo n).length≤n * c
 | 0,_=>Nat.zero_le _
 | n+1,h=>by
  have ih:=Yp (lo:=lo) n h
  have:=h (lo+(n:Int))
  rw [Ep,List.length_append,Nat.succ_mul]
  omega
theorem CD {f:Int→Rows} {lo:Int} {x:List PV}:∀ n:Nat,x∈fm f lo n→∃ i,lo≤i∧i<lo+(n:Int)∧x∈f i
 | 0,h=>absurd h List.not_mem_nil
 | n+1,h=>by
  rw [Ep] at h
  rcases List.mem_append.1 h with h | h
  ·obtain ⟨i,h1,h2,h3⟩:=CD n h
   exact ⟨i,h1,by omega,h3⟩
  ·exact ⟨_,by omega,by omega,h⟩
def ofI (q:List PV→Bool):Rows→Nat
 | []=>0
 | x::D=>cond (q x) 1 0+ofI q D
theorem Lt (q:List PV→Bool):∀ A B,ofI q (A++B)=ofI q A+ofI q B
 | [],B=>(Nat.zero_add _).symm
 | x::A,B=>by
  show cond (q x) 1 0+ofI q (A++B)=cond (q x) 1 0+ofI q A+ofI q B
  rw [Lt q A B,Nat.add_assoc]
theorem VS {q:List PV→Bool} {f:Int→Rows} {lo:Int}:∀ n:Nat,(∀ i,lo≤i→i<lo+(n:Int)→ofI q (f i)=0)→ofI q (fm f lo n)=0
 | 0,_=>rfl
 | n+1,h=>by
  rw [Ep,Lt,VS n (fun i h1 h2=>h i h1 (by omega)),h _ (by omega) (by omega)]
theorem Ck {q:List PV→Bool} {f:Int→Rows} {lo:Int} {n:Nat} {i:Int} (h1:lo≤i) (h2:i<lo+(n:Int)) (hz:∀ j,j≠i→ofI q (f j)=0):ofI q (fm f lo n)=ofI q (f i):=by
 obtain ⟨u,hu⟩:∃ u:Nat,lo+(u:Int)=i:=⟨(i - lo).toNat,by omega⟩
 obtain ⟨v,hv⟩:∃ v:Nat,n=u+(1+v):=⟨n - u - 1,by omega⟩
 rw [hv,ZN,ZN,Lt,Lt,hu,VS u (fun j j1 j2=>hz j (by omega)),VS v (fun j j1 j2=>hz j (by omega)),Ep,show i+((0:Nat):Int)=i by omega]
 show 0+(ofI q ([]++f i)+0)=_
 rw [List.nil_append]
 omega
def evK (k s p o:Int) (y:Bool) (n:Int):Ev:=⟨k,s,p,o,y,n,0,⟨0,0,0,0,0,false,0,0,0,0,false,0⟩⟩
def yF (b:Bool) (f:Bool→Rows):Rows:=f false++cond b (f true) []
def Xh (g:Int→Int→Int→Bool→Int→Rows) (b:Bool) (sl pl ol rl:Int) (sn pn on rn:Nat):Rows :=
 fm (fun s=>fm (fun p=>fm (fun o=>yF b fun y=>fm (fun n=>g s p o y n) rl rn) ol on) pl pn) sl sn
theorem dk {b:Bool} {f:Bool→Rows} (h:∀ y,f y=[]):yF b f=[]:=by
 unfold yF
 rw [h,h]
 cases b<;>rfl
end Go.Px
end
section
namespace Go.Px
set_option maxRecDepth 100000
structure AccE (e:Ev):Prop where
 kind:1≤e.kind∧e.kind≤16
 side:cond (uS e.kind) (1≤e.side∧e.side≤2) (e.side=0)
 player:cond (uP e.kind) (1≤e.player∧e.player≤11) (e.player=0)
 other:cond (uO e.kind) (1≤e.other∧e.other≤11) (e.other=0)
 yes:e.yes=true→uY e.kind=true
 runs:cond (uR e.kind) (loS e.kind≤e.runs∧e.runs≤hiS e.kind) (e.runs=0)
 pen:e.kind=13→e.runs=5
 overs:uV e.kind=false→e.overs=0
 ball:uB e.kind=false→RH e.ball=true
theorem fld {x:Int} {u b:Bool} (h1:(!(x==0) && !u)=false) (h2:(!b&&u)=false) {P:Prop} (hb:b=true→P):cond u P (x=0):=by
 cases u with
 | true =>
  cases b with
  | true=>exact hb rfl
  | false=>cases h2
 | false =>
  cases h:x==0 with
  | true=>exact beq_iff_eq.1 h
  | false=>rw [h] at h1;cases h1
theorem V5 {a b c:Int} (h:btw a b c=true):b≤a∧a≤c:=by
 simp only [btw,iLe,Bool.and_eq_true,decide_eq_true_eq] at h
 exact h
theorem jY {m:Mat} {e:Ev} (h:((Bb m e).2==0)=true):AccE e:=by
 obtain ⟨h1,h2,h3,h4,h5⟩:=VE h
 have he:=beq_iff_eq.1 h2
 unfold evS at he
 cases k:iLt e.kind 1||iLt 16 e.kind with
 | true=>rw [k] at he;cases he
 | false =>
  cases e1:Rm e with
  | true=>rw [k,e1] at he;cases he
  | false =>
   cases e2:OQ e with
   | true=>rw [k,e1,e2] at he;cases he
   | false =>
    unfold Rm at e1
    unfold OQ at e2
    simp only [Bool.or_eq_false_iff] at e1 e2
    obtain ⟨a1,a2,a3,a4,a5,a6,a7⟩:=e1
    obtain ⟨b1,b2,b3,b4,b5⟩:=e2
    have kb:1≤e.kind∧e.kind≤16:=by
     simp only [Bool.or_eq_false_iff,iLt,decide_eq_false_iff_not] at k
     omega
    refine ⟨kb,fld a1 b1 V5,fld a2 b2 V5,fld a3 b3 V5,?_,fld a5 b4 V5,?_,?_,?_⟩
    ·intro y
     rw [y] at a4
     cases u:uY e.kind with
     | true=>rfl
     | false=>rw [u] at a4;cases a4
    ·intro k13
     have ha:Il m e=cond (!(m.stage==3)) (m,1) (Rg m e):=by unfold Il;rw [k13];rfl
     rw [ha] at h4
     cases s3:m.stage==3 with
     | false=>rw [s3] at h4;cases h4
     | true =>
      rw [s3] at h4
      change ((Rg m e).2==0)=true at h4
      unfold Rg at h4
      dsimp only at h4
      cases t0:(CU m.rules (BB m) e).2==0 with
      | false=>rw [t0] at h4;exact absurd (show ((CU m.rules (BB m) e).2==0)=true from h4) (by rw [t0];decide)
      | true =>
       obtain ⟨hv,he',hn,hw,hp,hs⟩:=ao t0
       have hpb:CO m.rules (BB m) e=H6 (BB m) e.side e.runs:=by unfold CO;rw [k13];rfl
       rw [hpb] at hp
       unfold H6 at hp
       cases r5:e.runs==5 with
       | true=>exact beq_iff_eq.1 r5
       | false=>rw [r5] at hp;cases hp
    ·intro u
     rw [u] at a6
     cases o:e.overs==0 with
     | true=>exact beq_iff_eq.1 o
     | false=>rw [o] at a6;cases a6
    ·intro u
     rw [u] at a7
     cases o:RH e.ball with
     | true=>rfl
     | false=>rw [o] at a7;cases a7
def RU (e:Ev):List PV:=[.int e.kind,.int e.side,.int e.player,.int e.other,.bool e.yes,.int e.runs,.int e.overs]++e.ball.ls
def BL (m:Mat) (k s p o:Int) (y:Bool) (n:Int):Rows:=cond ((Bb m (evK k s p o y n)).2==0) [RU (evK k s p o y n)] []
def eI (m:Mat) (k:Int):Rows:=Xh (BL m k) true 0 0 0 0 3 12 12 100
def TY (m:Mat) (k:Int):Rows:=Xh (BL m k) (uY k) (cond (uS k) 1 0) (cond (uP k) 1 0) (cond (uO k) 1 0) (cond (k==13) 1 0) (cond (uS k) 2 1) (cond (uP k) 11 1) (cond (uO k) 11 1) (cond (k==7) 12 (cond (k==13) 99 1))
def Yb (m:Mat):Rows:=fm (fun k=>cond (k==4||k==15) [] (eI m k)) 1 16
end Go.Px
end
section
namespace Go.Px
set_option maxRecDepth 100000
def upL (a:Int) (n:Nat):Rows:=fm (fun v=>[[PV.int v]]) a n
theorem Dz (a:Int):∀ n,(upL a n).length=n
 | 0=>rfl
 | n+1=>by
  show (upL a n++[[PV.int (a+(n:Int))]]).length=n+1
  rw [List.length_append,Dz a n]
  rfl
theorem bC (a:Int):∀ n i:Nat,i<n→Ac (upL a n) i=[PV.int (a+(i:Int))]
 | 0,i,h=>absurd h (Nat.not_lt_zero _)
 | n+1,i,h=>by
  show Ac (upL a n++[[PV.int (a+(n:Int))]]) i=_
  unfold Ac
  rw [List.getD_eq_getElem?_getD,List.getElem?_append,Dz]
  by_cases e:i<n
  ·rw [if_pos e]
   have:=bC a n i e
   unfold Ac at this
   rw [List.getD_eq_getElem?_getD] at this
   exact this
  ·rw [if_neg e]
   have:i=n:=by omega
   rw [this,Nat.sub_self]
   rfl
theorem Sk {a:Int} {n i:Nat} (h:i<n):pvI (AB (upL a n) i 0)=a+(i:Int):=by
 unfold AB
 rw [bC a n i h]
 rfl
theorem bE {F : (List AY → Option (List PV)) → List PV → Option (List PV)} {len : Nat} (enc : Nat → List AY) (fin : List PV) {x : List PV} (hx : x = (enc 0).map Leaf.pv)
    (h0:∀ self,F self ((enc len).map Leaf.pv)=some fin) (h1:∀ i self,i<len→F self ((enc i).map Leaf.pv)=self (enc (i+1))) (n:Nat) (hn:len<n):Gc F n x=some fin:=by
  rw [hx]
  exact BE enc fin h0 h1 n hn
set_option maxHeartbeats 1000000 in
theorem K7 {N:Nat} {a b:Int} {n:Nat} (hN:2097152<N) (ha:0≤a) (hb:b=a+(n:Int) - 1) (hc:a+(n:Int)≤1000):DG N [.int a,.int b]=some [.rows (upL a n)]:=by
 show K0 (std (Qh N) N) (xOf _)=_
 simp only [K0,std,xOf,PXb]
 refine AM (bE (len:=n) (fun i=>[.rows (upL a i),.int (a+(i:Int))]) [.rows (upL a n)] (by show [PV.rows [],PV.int a]=[PV.rows [],PV.int (a+((0:Nat):Int))];rw [show a+((0:Nat):Int)=a by omega]) ?_ ?_ N (by omega)) ?_
 ·intro self
  have:iLe (a+(n:Int)) b=false:=by simp only [iLe,decide_eq_false_iff_not];omega
  simp only [PXb,PXc,PXn,AF,this]
 ·intro i self hi
  have l:iLe (a+(i:Int)) b=true:=by simp only [iLe,decide_eq_true_eq];omega
  have w:IntKind.i64.wrap (a+(i:Int)+1)=a+((i+1:Nat):Int):=by rw [Hv (by omega) (by omega)];omega
  have sm:iSm ((i+1:Nat):Int) 8=true:=Fj (by omega) (by omega)
  simp only [PXb,PXc,PXn,AF,l,w,List.length_append,Dz,List.length_cons,List.length_nil,Nat.zero_add,sm]
  rfl
 ·rfl
def okK (k:Int):Bool:=k==1||k==12||k==14||k==2||k==3||k==8||k==5||k==6||k==9||k==7||k==11||k==13||k==10||k==16
def bQ (k:Int):Rows:=upL (cond (uS k) 1 0) (cond (uS k) 2 1)
def bh (k:Int):Rows:=upL (cond (uP k) 1 0) (cond (uP k) 11 1)
def ew (k:Int):Rows:=upL (cond (uO k) 1 0) (cond (uO k) 11 1)
def eM (k:Int):Rows:=upL (cond (k==13) 1 0) (cond (k==7) 12 (cond (k==13) 99 1))
set_option maxHeartbeats 4000000 in
theorem W3 {N:Nat} {k:Int} (hN:2097152<N):Ft N [.int k]=some [.rows (bQ k),.rows (bh k),.rows (ew k),.rows (eM k),.bool (uY k),.bool (okK k)]:=by
 show F5 (std (Cx N) N) (xOf _)=_
 have u1:DG N [.int 1,.int 2]=some [.rows (upL 1 2)]:=K7 (n:=2) hN (by omega) rfl (by omega)
 have u2:DG N [.int 1,.int 11]=some [.rows (upL 1 11)]:=K7 (n:=11) hN (by omega) rfl (by omega)
 have u3:DG N [.int 0,.int 11]=some [.rows (upL 0 12)]:=K7 (n:=12) hN (by omega) rfl (by omega)
 have u4:DG N [.int 1,.int 99]=some [.rows (upL 1 99)]:=K7 (n:=99) hN (by omega) rfl (by omega)
 simp only [F5,Ns,std,xOf,PXb,u1,u2,u3,u4]
 cases hk:(iLt k 1||iLt 16 k) with
 | false=>rcases Ts hk with h | h | h | h | h | h | h | h | h | h | h | h | h | h | h | h<;>subst h<;>rfl
 | true =>
  have no:=fun n h1 h2=>eE hk n h1 h2
  have e:∀ n:Int,1≤n→n≤16→(k==n)=false:=no
  unfold bQ bh ew eM uS uP uO uY okK
  simp only [PXb,e 1 (by omega) (by omega),e 2 (by omega) (by omega),e 3 (by omega) (by omega),e 5 (by omega) (by omega),e 6 (by omega) (by omega),e 7 (by omega) (by omega),e 8 (by omega) (by omega),e 9 (by omega) (by omega),e 10 (by omega) (by omega),e 11 (by omega) (by omega),e 12 (by omega) (by omega),e 13 (by omega) (by omega),e 14 (by omega) (by omega),e 16 (by omega) (by omega)]
  rfl
set_option maxHeartbeats 1000000 in
theorem P7 {N:Nat} {m1 m2 m3 m4 m5 m6 m7 m9 m10 m11 m12 m14 m15 m18 m19 m20 m21 m22:Int} {m8 m16:Bool} {m0:ByteArray} {m13:Rows} {m17:List Inn} {e0 e1 e2 e3 e5 e6 e7 e8 e9 e10 e11 e13 e14 e15 e16 e18:Int} {e4 e12 e17:Bool} (hN:2097152<N) (hf:Gh m17) (hl:m17.length≤1000000) (hs:m0.size≤1048576) (h13:m13.length≤1048576):Bj N [.str m0,.int m1,.int m2,.int m3,.int m4,.int m5,.int m6,.int m7,.bool m8,.int m9,.int m10,.int m11,.int m12,.rows m13,.int m14,.int m15,.bool m16,.rows (AK m17),.int m18,.int m19,.int m20,.int m21,.int m22,.int e0,.int e1,.int e2,.int e3,.bool e4,.int e5,.int e6,.int e7,.int e8,.int e9,.int e10,.int e11,.bool e12,.int e13,.int e14,.int e15,.int e16,.bool e17,.int e18]=some [.int (Bb (⟨⟨m0,m1,m2,m3,m4,m5,m6,m7,m8,m9,m10,m11,m12,m13⟩,m14,m15,m16,m17,m18,m19,m20,m21,m22⟩:Mat) (⟨e0,e1,e2,e3,e4,e5,e6,⟨e7,e8,e9,e10,e11,e12,e13,e14,e15,e16,e17,e18⟩⟩:Ev)).2]:=by
 show MK (std (M4 N) N) (xOf _)=_
 simp only [MK,QC,std,xOf,PXb,Ou hN hf hl hs h13]
 rfl
end Go.Px
end
section
namespace Go.Px
set_option maxRecDepth 100000
theorem D3 {i:Nat} (h:i≤1099511627776):IntKind.i64.wrap ((i:Int)+1)=((i+1:Nat):Int):=Aw h
def fmo (out:Rows) (f:Int→Rows) (lo:Int):Nat→Rows
 | 0=>out
 | n+1=>fmo out f lo n++f (lo+(n:Int))
theorem D9 (out:Rows) (f:Int→Rows) (lo:Int) (n:Nat):fmo out f lo (n+1)=fmo out f lo n++f (lo+(n:Int)):=rfl
theorem It (out:Rows) (f:Int→Rows) (lo:Int):∀ n,fmo out f lo n=out++fm f lo n
 | 0=>(List.append_nil _).symm
 | n+1=>by rw [D9,Ep,It out f lo n,List.append_assoc]
theorem Tz (f:Int→Rows) (lo:Int) (n:Nat):fmo [] f lo n=fm f lo n:=It [] f lo n
theorem Fl {out:Rows} {f:Int→Rows} {lo:Int} {c k n:Nat} (h:∀ i,(f i).length≤c) (hk:n≤k):(fmo out f lo n).length≤out.length+k * c:=by
 have:=Yp (f:=f) (lo:=lo) n h
 have:=Nat.mul_le_mul_right c hk
 rw [It,List.length_append]
 omega
theorem BZ {f:Int→Rows} {lo:Int} {c k n:Nat} (h:∀ i,(f i).length≤c) (hk:n≤k):(fm f lo n).length≤k * c :=
 Nat.le_trans (Yp n h) (Nat.mul_le_mul_right c hk)
theorem Yy {b:Bool} {f:Bool→Rows} {c:Nat} (h:∀ y,(f y).length≤c):(yF b f).length≤2 * c:=by
 unfold yF
 have h1:=h false
 have h2:=h true
 rw [List.length_append]
 cases b
 ·show (f false).length+0≤_
  omega
 ·show (f false).length+(f true).length≤_
  omega
theorem al (m:Mat) (k s p o:Int) (y:Bool) (n:Int):(BL m k s p o y n).length≤1:=by
 unfold BL
 cases (Bb m (evK k s p o y n)).2==0
 ·exact Nat.zero_le _
 ·exact Nat.le_refl _
def yfo (b:Bool) (f:Bool→Rows) (out:Rows):Nat→Rows
 | 0=>out
 | 1=>out++f false
 | _=>out++f false++cond b (f true) []
theorem cm (b:Bool) (f:Bool→Rows) (out:Rows):yfo b f out 2=out++yF b f:=List.append_assoc _ _ _
theorem lt2 {i:Nat} (h:i<2):i=0∨i=1:=by omega
set_option maxHeartbeats 8000000 in
theorem bc {N:Nat} {m1 m2 m3 m4 m5 m6 m7 m9 m10 m11 m12 m14 m15 m18 m19 m20 m21 m22:Int} {m8 m16:Bool} {m0:ByteArray} {m13:Rows} {m17:List Inn} {k:Int} (hN:2097152<N) (hf:Gh m17) (hl:m17.length≤1000000) (hs:m0.size≤1048576) (h13:m13.length≤1048576):Ga N [.str m0,.int m1,.int m2,.int m3,.int m4,.int m5,.int m6,.int m7,.bool m8,.int m9,.int m10,.int m11,.int m12,.rows m13,.int m14,.int m15,.bool m16,.rows (AK m17),.int m18,.int m19,.int m20,.int m21,.int m22,.int k]=some [.rows (cond (okK k&&Cw (⟨⟨m0,m1,m2,m3,m4,m5,m6,m7,m8,m9,m10,m11,m12,m13⟩,m14,m15,m16,m17,m18,m19,m20,m21,m22⟩:Mat)) (TY (⟨⟨m0,m1,m2,m3,m4,m5,m6,m7,m8,m9,m10,m11,m12,m13⟩,m14,m15,m16,m17,m18,m19,m20,m21,m22⟩:Mat) k) [])]:=by
  show KV (std (C5 N) N) (xOf _)=_
  generalize hres:(some [.rows (cond (okK k&&Cw (⟨⟨m0,m1,m2,m3,m4,m5,m6,m7,m8,m9,m10,m11,m12,m13⟩,m14,m15,m16,m17,m18,m19,m20,m21,m22⟩:Mat)) (TY (⟨⟨m0,m1,m2,m3,m4,m5,m6,m7,m8,m9,m10,m11,m12,m13⟩,m14,m15,m16,m17,m18,m19,m20,m21,m22⟩:Mat) k) [])]:Option (List PV))=RR
  simp only [KV,QG,RZ,O8,std,xOf,PXb,W3 hN,JY hf hN hl hs]
  subst hres;simp only [TY]
  cases hk:okK k with
  | false=>rfl
  | true =>
    cases hv:Cw (⟨⟨m0,m1,m2,m3,m4,m5,m6,m7,m8,m9,m10,m11,m12,m13⟩,m14,m15,m16,m17,m18,m19,m20,m21,m22⟩:Mat) with
    | false=>rfl
    | true =>
      have c1:(cond (uS k) 2 1:Nat)≤2:=by cases uS k<;>decide
      have c2:(cond (uP k) 11 1:Nat)≤11:=by cases uP k<;>decide
      have c3:(cond (uO k) 11 1:Nat)≤11:=by cases uO k<;>decide
      have c4:(cond (k==7) 12 (cond (k==13) 99 1):Nat)≤99:=by cases k==7<;>cases k==13<;>decide
      unfold bQ bh ew eM Xh
      generalize (cond (uS k) 2 1:Nat)=sn at *
      generalize (cond (uP k) 11 1:Nat)=pn at *
      generalize (cond (uO k) 11 1:Nat)=on at *
      generalize (cond (k==7) 12 (cond (k==13) 99 1):Nat)=rn at *
      generalize (cond (uS k) 1 0:Int)=sl at *
      generalize (cond (uP k) 1 0:Int)=pl at *
      generalize (cond (uO k) 1 0:Int)=ol at *
      generalize (cond (k==13) 1 0:Int)=rl at *
      generalize uY k=yb at *
      have WHY:∀ s p o:Int,∀ y:Bool,∀ n:Int,Bj N [.str m0,.int m1,.int m2,.int m3,.int m4,.int m5,.int m6,.int m7,.bool m8,.int m9,.int m10,.int m11,.int m12,.rows m13,.int m14,.int m15,.bool m16,.rows (AK m17),.int m18,.int m19,.int m20,.int m21,.int m22,.int k,.int s,.int p,.int o,.bool y,.int n,.int 0,.int 0,.int 0,.int 0,.int 0,.int 0,.bool false,.int 0,.int 0,.int 0,.int 0,.bool false,.int 0]=some [.int (Bb (⟨⟨m0,m1,m2,m3,m4,m5,m6,m7,m8,m9,m10,m11,m12,m13⟩,m14,m15,m16,m17,m18,m19,m20,m21,m22⟩:Mat) (evK k s p o y n)).2]:=fun s p o y n=>P7 hN hf hl hs h13
      have ONE:∀ s p o:Int,∀ y:Bool,∀ n:Int,BL (⟨⟨m0,m1,m2,m3,m4,m5,m6,m7,m8,m9,m10,m11,m12,m13⟩,m14,m15,m16,m17,m18,m19,m20,m21,m22⟩:Mat) k s p o y n=cond ((Bb (⟨⟨m0,m1,m2,m3,m4,m5,m6,m7,m8,m9,m10,m11,m12,m13⟩,m14,m15,m16,m17,m18,m19,m20,m21,m22⟩:Mat) (evK k s p o y n)).2==0) [[.int k,.int s,.int p,.int o,.bool y,.int n,.int 0,.int 0,.int 0,.int 0,.int 0,.int 0,.bool false,.int 0,.int 0,.int 0,.int 0,.bool false,.int 0]] []:=fun s p o y n=>rfl
      have l1:∀ s p o:Int,∀ y:Bool,∀ n:Int,(BL (⟨⟨m0,m1,m2,m3,m4,m5,m6,m7,m8,m9,m10,m11,m12,m13⟩,m14,m15,m16,m17,m18,m19,m20,m21,m22⟩:Mat) k s p o y n).length≤1:=fun s p o y n=>al _ k s p o y n
      have l2:∀ s p o:Int,∀ y:Bool,(fm (fun n=>BL (⟨⟨m0,m1,m2,m3,m4,m5,m6,m7,m8,m9,m10,m11,m12,m13⟩,m14,m15,m16,m17,m18,m19,m20,m21,m22⟩:Mat) k s p o y n) rl rn).length≤99 * 1:=fun s p o y=>BZ (l1 s p o y) c4
      have l3:∀ s p o:Int,(yF yb fun y=>fm (fun n=>BL (⟨⟨m0,m1,m2,m3,m4,m5,m6,m7,m8,m9,m10,m11,m12,m13⟩,m14,m15,m16,m17,m18,m19,m20,m21,m22⟩:Mat) k s p o y n) rl rn).length≤2 * (99 * 1):=fun s p o=>Yy (l2 s p o)
      have l4:∀ s p:Int,(fm (fun o=>yF yb fun y=>fm (fun n=>BL (⟨⟨m0,m1,m2,m3,m4,m5,m6,m7,m8,m9,m10,m11,m12,m13⟩,m14,m15,m16,m17,m18,m19,m20,m21,m22⟩:Mat) k s p o y n) rl rn) ol on).length≤11 * (2 * (99 * 1)):=fun s p=>BZ (l3 s p) c3
      have l5:∀ s:Int,(fm (fun p=>fm (fun o=>yF yb fun y=>fm (fun n=>BL (⟨⟨m0,m1,m2,m3,m4,m5,m6,m7,m8,m9,m10,m11,m12,m13⟩,m14,m15,m16,m17,m18,m19,m20,m21,m22⟩:Mat) k s p o y n) rl rn) ol on) pl pn).length≤11 * (11 * (2 * (99 * 1))):=fun s=>BZ (l4 s) c2
      simp only [PXb,Bool.not_true,Bool.and_true]
      refine AM (BE (len:=sn) (fun i=>[.int (i:Int),.str m0,.int m1,.int m2,.int m3,.int m4,.int m5,.int m6,.int m7,.bool m8,.int m9,.int m10,.int m11,.int m12,.rows m13,.int m14,.int m15,.bool m16,.rows (AK m17),.int m18,.int m19,.int m20,.int m21,.int m22,.rows (fmo [] (fun s=>fm (fun p=>fm (fun o=>yF yb fun y=>fm (fun n=>BL (⟨⟨m0,m1,m2,m3,m4,m5,m6,m7,m8,m9,m10,m11,m12,m13⟩,m14,m15,m16,m17,m18,m19,m20,m21,m22⟩:Mat) k s p o y n) rl rn) ol on) pl pn) sl i)]) [.str m0,.int m1,.int m2,.int m3,.int m4,.int m5,.int m6,.int m7,.bool m8,.int m9,.int m10,.int m11,.int m12,.rows m13,.int m14,.int m15,.bool m16,.rows (AK m17),.int m18,.int m19,.int m20,.int m21,.int m22,.rows (fmo [] (fun s=>fm (fun p=>fm (fun o=>yF yb fun y=>fm (fun n=>BL (⟨⟨m0,m1,m2,m3,m4,m5,m6,m7,m8,m9,m10,m11,m12,m13⟩,m14,m15,m16,m17,m18,m19,m20,m21,m22⟩:Mat) k s p o y n) rl rn) ol on) pl pn) sl sn)] ?_ ?_ N (by omega)) ?_
      · intro self
        simp only [PXb,PXc,PXn,AF,Dz,BX]
      · intro i self hi
        have b1:=Fl (out:=[]) (lo:=sl) (n:=i) l5 (k:=2) (by omega)
        rw [List.length_nil,Nat.zero_add] at b1
        rw [D9]
        generalize fmo [] (fun s=>fm (fun p=>fm (fun o=>yF yb fun y=>fm (fun n=>BL (⟨⟨m0,m1,m2,m3,m4,m5,m6,m7,m8,m9,m10,m11,m12,m13⟩,m14,m15,m16,m17,m18,m19,m20,m21,m22⟩:Mat) k s p o y n) rl rn) ol on) pl pn) sl i=out1 at *
        rw [← It]
        simp only [PXb,PXc,PXn,AF,Dz,Az hi,Ag hi,Int.toNat_natCast,Sk hi]
        generalize sl+(i:Int)=s at *
        refine AM (BE (len:=pn) (fun j=>[.int (j:Int),.str m0,.int m1,.int m2,.int m3,.int m4,.int m5,.int m6,.int m7,.bool m8,.int m9,.int m10,.int m11,.int m12,.rows m13,.int m14,.int m15,.bool m16,.rows (AK m17),.int m18,.int m19,.int m20,.int m21,.int m22,.rows (fmo out1 (fun p=>fm (fun o=>yF yb fun y=>fm (fun n=>BL (⟨⟨m0,m1,m2,m3,m4,m5,m6,m7,m8,m9,m10,m11,m12,m13⟩,m14,m15,m16,m17,m18,m19,m20,m21,m22⟩:Mat) k s p o y n) rl rn) ol on) pl j)]) [.int (pn:Int),.str m0,.int m1,.int m2,.int m3,.int m4,.int m5,.int m6,.int m7,.bool m8,.int m9,.int m10,.int m11,.int m12,.rows m13,.int m14,.int m15,.bool m16,.rows (AK m17),.int m18,.int m19,.int m20,.int m21,.int m22,.rows (fmo out1 (fun p=>fm (fun o=>yF yb fun y=>fm (fun n=>BL (⟨⟨m0,m1,m2,m3,m4,m5,m6,m7,m8,m9,m10,m11,m12,m13⟩,m14,m15,m16,m17,m18,m19,m20,m21,m22⟩:Mat) k s p o y n) rl rn) ol on) pl pn)] ?_ ?_ N (by omega)) ?_
        · intro self
          simp only [PXb,PXc,PXn,AF,Dz,BX]
        · intro j self hj
          have b2:=Fl (out:=out1) (lo:=pl) (n:=j) (l4 s) (k:=11) (by omega)
          rw [D9]
          generalize fmo out1 (fun p=>fm (fun o=>yF yb fun y=>fm (fun n=>BL (⟨⟨m0,m1,m2,m3,m4,m5,m6,m7,m8,m9,m10,m11,m12,m13⟩,m14,m15,m16,m17,m18,m19,m20,m21,m22⟩:Mat) k s p o y n) rl rn) ol on) pl j=out2 at *
          rw [← It]
          simp only [PXb,PXc,PXn,AF,Dz,Az hj,Ag hj,Int.toNat_natCast,Sk hj]
          generalize pl+(j:Int)=p at *
          refine AM (BE (len:=on) (fun q=>[.int (q:Int),.str m0,.int m1,.int m2,.int m3,.int m4,.int m5,.int m6,.int m7,.bool m8,.int m9,.int m10,.int m11,.int m12,.rows m13,.int m14,.int m15,.bool m16,.rows (AK m17),.int m18,.int m19,.int m20,.int m21,.int m22,.rows (fmo out2 (fun o=>yF yb fun y=>fm (fun n=>BL (⟨⟨m0,m1,m2,m3,m4,m5,m6,m7,m8,m9,m10,m11,m12,m13⟩,m14,m15,m16,m17,m18,m19,m20,m21,m22⟩:Mat) k s p o y n) rl rn) ol q)]) [.int (on:Int),.str m0,.int m1,.int m2,.int m3,.int m4,.int m5,.int m6,.int m7,.bool m8,.int m9,.int m10,.int m11,.int m12,.rows m13,.int m14,.int m15,.bool m16,.rows (AK m17),.int m18,.int m19,.int m20,.int m21,.int m22,.rows (fmo out2 (fun o=>yF yb fun y=>fm (fun n=>BL (⟨⟨m0,m1,m2,m3,m4,m5,m6,m7,m8,m9,m10,m11,m12,m13⟩,m14,m15,m16,m17,m18,m19,m20,m21,m22⟩:Mat) k s p o y n) rl rn) ol on)] ?_ ?_ N (by omega)) ?_
          · intro self
            simp only [PXb,PXc,PXn,AF,Dz,BX]
          · intro q self hq
            have b3:=Fl (out:=out2) (lo:=ol) (n:=q) (l3 s p) (k:=11) (by omega)
            rw [D9]
            generalize fmo out2 (fun o=>yF yb fun y=>fm (fun n=>BL (⟨⟨m0,m1,m2,m3,m4,m5,m6,m7,m8,m9,m10,m11,m12,m13⟩,m14,m15,m16,m17,m18,m19,m20,m21,m22⟩:Mat) k s p o y n) rl rn) ol q=out3 at *
            rw [← cm]
            simp only [PXb,PXc,PXn,AF,Dz,Az hq,Ag hq,Int.toNat_natCast,Sk hq]
            generalize ol+(q:Int)=o at *
            refine AM (BE (len:=2) (fun u=>[.int (u:Int),.str m0,.int m1,.int m2,.int m3,.int m4,.int m5,.int m6,.int m7,.bool m8,.int m9,.int m10,.int m11,.int m12,.rows m13,.int m14,.int m15,.bool m16,.rows (AK m17),.int m18,.int m19,.int m20,.int m21,.int m22,.rows (yfo yb (fun y=>fm (fun n=>BL (⟨⟨m0,m1,m2,m3,m4,m5,m6,m7,m8,m9,m10,m11,m12,m13⟩,m14,m15,m16,m17,m18,m19,m20,m21,m22⟩:Mat) k s p o y n) rl rn) out3 u)]) [.int 2,.str m0,.int m1,.int m2,.int m3,.int m4,.int m5,.int m6,.int m7,.bool m8,.int m9,.int m10,.int m11,.int m12,.rows m13,.int m14,.int m15,.bool m16,.rows (AK m17),.int m18,.int m19,.int m20,.int m21,.int m22,.rows (yfo yb (fun y=>fm (fun n=>BL (⟨⟨m0,m1,m2,m3,m4,m5,m6,m7,m8,m9,m10,m11,m12,m13⟩,m14,m15,m16,m17,m18,m19,m20,m21,m22⟩:Mat) k s p o y n) rl rn) out3 2)] ?_ ?_ N (by omega)) ?_
            · intro self
              rfl
            · intro u self hu
              have INNER : ∀ (y : Bool) (out4 : Rows), out4.length ≤ 1000000 → ∀ (F : (List AY → Option (List PV)) → List PV → Option (List PV)), (∀ out self, F self [.int (rn : Int), .str m0, .int m1, .int m2, .int m3, .int m4, .int m5, .int m6, .int m7, .bool m8, .int m9, .int m10, .int m11, .int m12, .rows m13, .int m14, .int m15, .bool m16, .rows (AK m17), .int m18, .int m19, .int m20, .int m21, .int m22, .rows out] = some [.int (rn : Int), .str m0, .int m1, .int m2, .int m3, .int m4, .int m5, .int m6, .int m7, .bool m8, .int m9, .int m10, .int m11, .int m12, .rows m13, .int m14, .int m15, .bool m16, .rows (AK m17), .int m18, .int m19, .int m20, .int m21, .int m22, .rows out]) →
                  (∀ (v:Nat) out self,v<rn→out.length≤1000099→F self [.int (v:Int),.str m0,.int m1,.int m2,.int m3,.int m4,.int m5,.int m6,.int m7,.bool m8,.int m9,.int m10,.int m11,.int m12,.rows m13,.int m14,.int m15,.bool m16,.rows (AK m17),.int m18,.int m19,.int m20,.int m21,.int m22,.rows out]=self [.int ((v+1:Nat):Int),.str m0,.int m1,.int m2,.int m3,.int m4,.int m5,.int m6,.int m7,.bool m8,.int m9,.int m10,.int m11,.int m12,.rows m13,.int m14,.int m15,.bool m16,.rows (AK m17),.int m18,.int m19,.int m20,.int m21,.int m22,.rows (out++BL (⟨⟨m0,m1,m2,m3,m4,m5,m6,m7,m8,m9,m10,m11,m12,m13⟩,m14,m15,m16,m17,m18,m19,m20,m21,m22⟩:Mat) k s p o y (rl+(v:Int)))]) →
                  Gc F N [.int 0,.str m0,.int m1,.int m2,.int m3,.int m4,.int m5,.int m6,.int m7,.bool m8,.int m9,.int m10,.int m11,.int m12,.rows m13,.int m14,.int m15,.bool m16,.rows (AK m17),.int m18,.int m19,.int m20,.int m21,.int m22,.rows out4]=some [.int (rn:Int),.str m0,.int m1,.int m2,.int m3,.int m4,.int m5,.int m6,.int m7,.bool m8,.int m9,.int m10,.int m11,.int m12,.rows m13,.int m14,.int m15,.bool m16,.rows (AK m17),.int m18,.int m19,.int m20,.int m21,.int m22,.rows (out4++fm (fun n=>BL (⟨⟨m0,m1,m2,m3,m4,m5,m6,m7,m8,m9,m10,m11,m12,m13⟩,m14,m15,m16,m17,m18,m19,m20,m21,m22⟩:Mat) k s p o y n) rl rn)]:=fun y out4 ho F h0 h1=>by
                have:=BE (F:=F) (len:=rn) (fun v=>[.int (v:Int),.str m0,.int m1,.int m2,.int m3,.int m4,.int m5,.int m6,.int m7,.bool m8,.int m9,.int m10,.int m11,.int m12,.rows m13,.int m14,.int m15,.bool m16,.rows (AK m17),.int m18,.int m19,.int m20,.int m21,.int m22,.rows (fmo out4 (fun n=>BL (⟨⟨m0,m1,m2,m3,m4,m5,m6,m7,m8,m9,m10,m11,m12,m13⟩,m14,m15,m16,m17,m18,m19,m20,m21,m22⟩:Mat) k s p o y n) rl v)]) [.int (rn:Int),.str m0,.int m1,.int m2,.int m3,.int m4,.int m5,.int m6,.int m7,.bool m8,.int m9,.int m10,.int m11,.int m12,.rows m13,.int m14,.int m15,.bool m16,.rows (AK m17),.int m18,.int m19,.int m20,.int m21,.int m22,.rows (fmo out4 (fun n=>BL (⟨⟨m0,m1,m2,m3,m4,m5,m6,m7,m8,m9,m10,m11,m12,m13⟩,m14,m15,m16,m17,m18,m19,m20,m21,m22⟩:Mat) k s p o y n) rl rn)] (fun self=>h0 _ self) (fun v self hv=>h1 v _ self hv (by
                  have:=Fl (out:=out4) (f:=fun n=>BL (⟨⟨m0,m1,m2,m3,m4,m5,m6,m7,m8,m9,m10,m11,m12,m13⟩,m14,m15,m16,m17,m18,m19,m20,m21,m22⟩:Mat) k s p o y n) (lo:=rl) (n:=v) (l1 s p o y) (k:=99) (by omega)
                  omega)) N (by omega)
                rw [It out4 (fun n=>BL (⟨⟨m0,m1,m2,m3,m4,m5,m6,m7,m8,m9,m10,m11,m12,m13⟩,m14,m15,m16,m17,m18,m19,m20,m21,m22⟩:Mat) k s p o y n) rl rn] at this
                exact this
              have STEP:∀ (y:Bool) (n:Int) (out:Rows),out.length≤1000099→(cond ((Bb (⟨⟨m0,m1,m2,m3,m4,m5,m6,m7,m8,m9,m10,m11,m12,m13⟩,m14,m15,m16,m17,m18,m19,m20,m21,m22⟩:Mat) (evK k s p o y n)).2==0) (cond (iSm ((out++[[PV.int k,.int s,.int p,.int o,.bool y,.int n,.int 0,.int 0,.int 0,.int 0,.int 0,.int 0,.bool false,.int 0,.int 0,.int 0,.int 0,.bool false,.int 0]]).length:Int) 136) (some [PV.rows (out++[[PV.int k,.int s,.int p,.int o,.bool y,.int n,.int 0,.int 0,.int 0,.int 0,.int 0,.int 0,.bool false,.int 0,.int 0,.int 0,.int 0,.bool false,.int 0]])]) none) (some [PV.rows out]))=some [PV.rows (out++BL (⟨⟨m0,m1,m2,m3,m4,m5,m6,m7,m8,m9,m10,m11,m12,m13⟩,m14,m15,m16,m17,m18,m19,m20,m21,m22⟩:Mat) k s p o y n)]:=fun y n out ho=>by
                have sm:iSm ((out.length+1:Nat):Int) 136=true:=Fj (by omega) (by omega)
                rw [ONE]
                cases (Bb (⟨⟨m0,m1,m2,m3,m4,m5,m6,m7,m8,m9,m10,m11,m12,m13⟩,m14,m15,m16,m17,m18,m19,m20,m21,m22⟩:Mat) (evK k s p o y n)).2==0 with
                | false=>rw [cond_false,cond_false,List.append_nil]
                | true=>rw [cond_true,cond_true,List.length_append,List.length_cons,List.length_nil,Nat.zero_add,sm,cond_true]
              rcases lt2 hu with e | e
              · subst e
                simp only [PXb,PXc,PXn,AF]
                refine AM (INNER false out3 (by omega) _ ?_ ?_) ?_
                · intro out self
                  simp only [PXb,PXc,PXn,AF,Dz,BX]
                · intro v out self hv ho
                  simp only [PXb,PXc,PXn,AF,Dz,Az hv,Ag hv,Int.toNat_natCast,Sk hv,WHY,D3 (show v≤1099511627776 by omega)]
                  refine bind_ok (STEP false (rl+(v:Int)) out ho) rfl
                · rfl
              · subst e
                cases hy:yb with
                | false =>
                  subst hy
                  have y21:yfo false (fun y=>fm (fun n=>BL (⟨⟨m0,m1,m2,m3,m4,m5,m6,m7,m8,m9,m10,m11,m12,m13⟩,m14,m15,m16,m17,m18,m19,m20,m21,m22⟩:Mat) k s p o y n) rl rn) out3 (1+1)=yfo false (fun y=>fm (fun n=>BL (⟨⟨m0,m1,m2,m3,m4,m5,m6,m7,m8,m9,m10,m11,m12,m13⟩,m14,m15,m16,m17,m18,m19,m20,m21,m22⟩:Mat) k s p o y n) rl rn) out3 1:=List.append_nil _
                  rw [y21]
                  rfl
                | true =>
                  subst hy
                  simp only [PXb,PXc,PXn,AF]
                  refine AM (INNER true _ ?_ _ ?_ ?_) ?_
                  · show (out3++fm (fun n=>BL (⟨⟨m0,m1,m2,m3,m4,m5,m6,m7,m8,m9,m10,m11,m12,m13⟩,m14,m15,m16,m17,m18,m19,m20,m21,m22⟩:Mat) k s p o false n) rl rn).length≤1000000
                    have:=l2 s p o false
                    rw [List.length_append]
                    omega
                  · intro out self
                    simp only [PXb,PXc,PXn,AF,Dz,BX]
                  · intro v out self hv ho
                    simp only [PXb,PXc,PXn,AF,Dz,Az hv,Ag hv,Int.toNat_natCast,Sk hv,WHY,D3 (show v≤1099511627776 by omega)]
                    refine bind_ok (STEP true (rl+(v:Int)) out ho) rfl
                  · rfl
            · simp only [PXb,PXc,PXn,AF,D3 (show q≤1099511627776 by omega)]
          · simp only [PXb,PXc,PXn,AF,D3 (show j≤1099511627776 by omega)]
        · simp only [PXb,PXc,PXn,AF,D3 (show i≤1099511627776 by omega)]
      · rw [Tz]
        rfl
end Go.Px
end
section
namespace Go.Px
set_option maxRecDepth 100000
theorem Yi {i:Int} (h0:0≤i) (h:i≤254):IntKind.u8.wrap (i+1)=i+1:=by
 show (i+1) % 256=i+1
 omega
theorem eF (m:Mat) (k:Int):(TY m k).length≤2 * (11 * (11 * (2 * (99 * 1)))):=by
 unfold TY Xh
 exact BZ (fun s=>BZ (fun p=>BZ (fun o=>Yy fun y=>BZ (fun n=>al m k s p o y n) (by cases k==7<;>cases k==13<;>decide)) (by cases uO k<;>decide)) (by cases uP k<;>decide)) (by cases uS k<;>decide)
def MO (m:Mat) (k:Int):Rows:=cond (okK k&&Cw m) (TY m k) []
def T1 (m:Mat):Rows:=fm (MO m) 1 16
theorem X6 (m:Mat) (k:Int):(MO m k).length≤47916:=by
 unfold MO
 cases okK k&&Cw m
 ·exact Nat.zero_le _
 ·exact eF m k
set_option maxHeartbeats 4000000 in
theorem TZ {N:Nat} {m1 m2 m3 m4 m5 m6 m7 m9 m10 m11 m12 m14 m15 m18 m19 m20 m21 m22:Int} {m8 m16:Bool} {m0:ByteArray} {m13:Rows} {m17:List Inn} (hN:2097152<N) (hf:Gh m17) (hl:m17.length≤1000000) (hs:m0.size≤1048576) (h13:m13.length≤1048576):Cb N [.str m0,.int m1,.int m2,.int m3,.int m4,.int m5,.int m6,.int m7,.bool m8,.int m9,.int m10,.int m11,.int m12,.rows m13,.int m14,.int m15,.bool m16,.rows (AK m17),.int m18,.int m19,.int m20,.int m21,.int m22]=some [.rows (T1 (⟨⟨m0,m1,m2,m3,m4,m5,m6,m7,m8,m9,m10,m11,m12,m13⟩,m14,m15,m16,m17,m18,m19,m20,m21,m22⟩:Mat))]:=by
 show LA (std (LV N) N) (xOf _)=_
 simp only [LA,J0,std,xOf,PXb]
 have OF:∀ k:Int,Ga N [.str m0,.int m1,.int m2,.int m3,.int m4,.int m5,.int m6,.int m7,.bool m8,.int m9,.int m10,.int m11,.int m12,.rows m13,.int m14,.int m15,.bool m16,.rows (AK m17),.int m18,.int m19,.int m20,.int m21,.int m22,.int k]=some [.rows (MO (⟨⟨m0,m1,m2,m3,m4,m5,m6,m7,m8,m9,m10,m11,m12,m13⟩,m14,m15,m16,m17,m18,m19,m20,m21,m22⟩:Mat) k)]:=fun k=>bc hN hf hl hs h13
 have b0:∀ i:Nat,i≤16→(fmo [] (MO (⟨⟨m0,m1,m2,m3,m4,m5,m6,m7,m8,m9,m10,m11,m12,m13⟩,m14,m15,m16,m17,m18,m19,m20,m21,m22⟩:Mat)) 1 i).length≤([]:Rows).length+16 * 47916:=fun i hi=>Fl (X6 (⟨⟨m0,m1,m2,m3,m4,m5,m6,m7,m8,m9,m10,m11,m12,m13⟩,m14,m15,m16,m17,m18,m19,m20,m21,m22⟩:Mat)) hi
 have e:=Tz (MO (⟨⟨m0,m1,m2,m3,m4,m5,m6,m7,m8,m9,m10,m11,m12,m13⟩,m14,m15,m16,m17,m18,m19,m20,m21,m22⟩:Mat)) 1 16
 unfold T1
 rw [← e]
 refine AM (BE (len:=16) (fun i=>[.rows (fmo [] (MO (⟨⟨m0,m1,m2,m3,m4,m5,m6,m7,m8,m9,m10,m11,m12,m13⟩,m14,m15,m16,m17,m18,m19,m20,m21,m22⟩:Mat)) 1 i),.int (1+(i:Int))]) [.rows (fmo [] (MO (⟨⟨m0,m1,m2,m3,m4,m5,m6,m7,m8,m9,m10,m11,m12,m13⟩,m14,m15,m16,m17,m18,m19,m20,m21,m22⟩:Mat)) 1 16)] ?_ ?_ N (by omega)) ?_
 ·intro self
  rfl
 ·intro i self hi
  have l:iLe (1+(i:Int)) 16=true:=by simp only [iLe,decide_eq_true_eq];omega
  have w:IntKind.u8.wrap (1+(i:Int)+1)=1+((i+1:Nat):Int):=by rw [Yi (by omega) (by omega)];omega
  have b1:=b0 i (by omega)
  have b2:=X6 (⟨⟨m0,m1,m2,m3,m4,m5,m6,m7,m8,m9,m10,m11,m12,m13⟩,m14,m15,m16,m17,m18,m19,m20,m21,m22⟩:Mat) (1+(i:Int))
  rw [D9]
  generalize fmo [] (MO (⟨⟨m0,m1,m2,m3,m4,m5,m6,m7,m8,m9,m10,m11,m12,m13⟩,m14,m15,m16,m17,m18,m19,m20,m21,m22⟩:Mat)) 1 i=out at *
  have sm:iSm ((out.length+(MO (⟨⟨m0,m1,m2,m3,m4,m5,m6,m7,m8,m9,m10,m11,m12,m13⟩,m14,m15,m16,m17,m18,m19,m20,m21,m22⟩:Mat) (1+(i:Int))).length:Nat):Int) 136=true:=Fj (by simp only [List.length_nil] at b1;omega) (by omega)
  simp only [PXb,PXc,PXn,AF,l,w,J0,OF,List.length_append,sm]
 ·rfl
theorem yfm (b:Bool) (f:Bool→Rows):fm (fun y=>f (y==1)) 0 (cond b 2 1)=yF b f:=by
 cases b with
 | false =>
  show []++f (0+((0:Nat):Int)==1)=f false++[]
  rw [List.nil_append,List.append_nil]
  rfl
 | true =>
  show ([]++f (0+((0:Nat):Int)==1))++f (0+((1:Nat):Int)==1)=f false++f true
  rw [List.nil_append]
  rfl
theorem jX {i n:Nat} (h:i<n):iLe (i:Int) ((n:Int) - 1)=true:=by simp only [iLe,decide_eq_true_eq];omega
theorem iJ (n:Nat):iLe (n:Int) ((n:Int) - 1)=false:=by simp only [iLe,decide_eq_false_iff_not];omega
end Go.Px
end
