/- Part 11. -/
import Derived.Test.YtefmhiojnbekpaaGreatDoorPart07
import Derived.Test.YtefmhiojnbekpaaGreatDoorPart10
set_option linter.unusedVariables false
set_option linter.unusedSimpArgs false
section
namespace Go.Px
def Ag (xs:List Inn):Rows:=xs.map Inn.ls
def dI:Inn:=⟨0,0,0,0,0,0,0,0,0,0,0,0,0,0,[],0,[],[],false,[],false,0,0,0,[],0,0,0⟩
def inn (xs:List Inn) (i:Nat):Inn:=xs.getD i dI
structure Mat where
 rules:Rul
 stage:Int
 first:Int
 follow:Bool
 inns:List Inn
 pen1:Int
 pen2:Int
 win:Int
 wside:Int
 margin:Int
def Mat.ls (m:Mat):List PV:=[.str m.rules.name,.int m.rules.side,.int m.rules.innings,.int m.rules.overs,.int m.rules.balls,.int m.rules.quota,.int m.rules.wide,.int m.rules.noball,.bool m.rules.freehit,.int m.rules.newball,.int m.rules.followon,.int m.rules.reviews,.int m.rules.outside,.rows m.rules.power,.int m.stage,.int m.first,.bool m.follow,.rows (Ag m.inns),.int m.pen1,.int m.pen2,.int m.win,.int m.wside,.int m.margin]
def UN (x:Mat×Int):List PV:=[.str x.1.rules.name,.int x.1.rules.side,.int x.1.rules.innings,.int x.1.rules.overs,.int x.1.rules.balls,.int x.1.rules.quota,.int x.1.rules.wide,.int x.1.rules.noball,.bool x.1.rules.freehit,.int x.1.rules.newball,.int x.1.rules.followon,.int x.1.rules.reviews,.int x.1.rules.outside,.rows x.1.rules.power,.int x.1.stage,.int x.1.first,.bool x.1.follow,.rows (Ag x.1.inns),.int x.1.pen1,.int x.1.pen2,.int x.1.win,.int x.1.wside,.int x.1.margin,.int x.2]
theorem bE (xs:List Inn) (i:Nat):AB (Ag xs) i=(match xs[i]? with | some s=>s.ls | none=>[]):=by
 unfold AB Ag
 rw [List.getD_eq_getElem?_getD,List.getElem?_map]
 cases xs[i]?<;>rfl
theorem Mu (xs:List Inn) (i:Nat):inn xs i=(match xs[i]? with | some s=>s | none=>dI):=by
 unfold inn
 rw [List.getD_eq_getElem?_getD]
 cases xs[i]?<;>rfl
theorem Ye (xs:List Inn):(Ag xs).length=xs.length:=List.length_map _
theorem PXi : (∀ xs : List Inn, (Ag xs).length = xs.length) ∧ (∀ (xs : List Inn) (i : Nat), pvI (AF (Ag xs) i 0) = (inn xs i).side) ∧ (∀ (xs : List Inn) (i : Nat), pvI (AF (Ag xs) i 1) = (inn xs i).target) ∧ (∀ (xs : List Inn) (i : Nat), pvI (AF (Ag xs) i 2) = (inn xs i).overs) ∧ (∀ (xs : List Inn) (i : Nat), pvI (AF (Ag xs) i 3) = (inn xs i).runs) ∧
    (∀ (xs:List Inn) (i:Nat),pvI (AF (Ag xs) i 4)=(inn xs i).wickets)∧(∀ (xs:List Inn) (i:Nat),pvI (AF (Ag xs) i 5)=(inn xs i).wides)∧(∀ (xs:List Inn) (i:Nat),pvI (AF (Ag xs) i 6)=(inn xs i).noballs)∧(∀ (xs:List Inn) (i:Nat),pvI (AF (Ag xs) i 7)=(inn xs i).byes)∧(∀ (xs:List Inn) (i:Nat),pvI (AF (Ag xs) i 8)=(inn xs i).legbyes) ∧
    (∀ (xs:List Inn) (i:Nat),pvI (AF (Ag xs) i 9)=(inn xs i).pens)∧(∀ (xs:List Inn) (i:Nat),pvI (AF (Ag xs) i 10)=(inn xs i).complete)∧(∀ (xs:List Inn) (i:Nat),pvI (AF (Ag xs) i 11)=(inn xs i).inover)∧(∀ (xs:List Inn) (i:Nat),pvI (AF (Ag xs) i 12)=(inn xs i).striker)∧(∀ (xs:List Inn) (i:Nat),pvI (AF (Ag xs) i 13)=(inn xs i).other) ∧
    (∀ (xs:List Inn) (i:Nat),pvL (AF (Ag xs) i 14)=(inn xs i).batters)∧(∀ (xs:List Inn) (i:Nat),pvI (AF (Ag xs) i 15)=(inn xs i).bowler)∧(∀ (xs:List Inn) (i:Nat),pvL (AF (Ag xs) i 16)=(inn xs i).bowlers)∧(∀ (xs:List Inn) (i:Nat),pvL (AF (Ag xs) i 17)=(inn xs i).before)∧(∀ (xs:List Inn) (i:Nat),pvB (AF (Ag xs) i 18)=(inn xs i).fresh) ∧
    (∀ (xs:List Inn) (i:Nat),pvL (AF (Ag xs) i 19)=(inn xs i).bowled)∧(∀ (xs:List Inn) (i:Nat),pvB (AF (Ag xs) i 20)=(inn xs i).freehit)∧(∀ (xs:List Inn) (i:Nat),pvI (AF (Ag xs) i 21)=(inn xs i).ballage)∧(∀ (xs:List Inn) (i:Nat),pvI (AF (Ag xs) i 22)=(inn xs i).keeper)∧(∀ (xs:List Inn) (i:Nat),pvI (AF (Ag xs) i 23)=(inn xs i).outside) ∧
    (∀ (xs:List Inn) (i:Nat),pvL (AF (Ag xs) i 24)=(inn xs i).subs)∧(∀ (xs:List Inn) (i:Nat),pvI (AF (Ag xs) i 25)=(inn xs i).rev1)∧(∀ (xs:List Inn) (i:Nat),pvI (AF (Ag xs) i 26)=(inn xs i).rev2)∧(∀ (xs:List Inn) (i:Nat),pvI (AF (Ag xs) i 27)=(inn xs i).ending):=by
  refine ⟨Ye,?_,?_,?_,?_,?_,?_,?_,?_,?_,?_,?_,?_,?_,?_,?_,?_,?_,?_,?_,?_,?_,?_,?_,?_,?_,?_,?_,?_⟩
  all_goals (intro xs i;rw [Mu];unfold AF;rw [bE];cases xs[i]?<;>rfl)
theorem Mat.eta (m:Mat):Mat.mk m.rules m.stage m.first m.follow m.inns m.pen1 m.pen2 m.win m.wside m.margin=m:=rfl
theorem PXk : (∀ m : Mat, m.ls = [.str m.rules.name, .int m.rules.side, .int m.rules.innings, .int m.rules.overs, .int m.rules.balls, .int m.rules.quota, .int m.rules.wide, .int m.rules.noball, .bool m.rules.freehit, .int m.rules.newball, .int m.rules.followon, .int m.rules.reviews, .int m.rules.outside, .rows m.rules.power, .int m.stage, .int m.first, .bool m.follow, .rows (Ag m.inns), .int m.pen1, .int m.pen2, .int m.win, .int m.wside, .int m.margin]) ∧
    (∀ x:Mat×Int,UN x=[.str x.1.rules.name,.int x.1.rules.side,.int x.1.rules.innings,.int x.1.rules.overs,.int x.1.rules.balls,.int x.1.rules.quota,.int x.1.rules.wide,.int x.1.rules.noball,.bool x.1.rules.freehit,.int x.1.rules.newball,.int x.1.rules.followon,.int x.1.rules.reviews,.int x.1.rules.outside,.rows x.1.rules.power,.int x.1.stage,.int x.1.first,.bool x.1.follow,.rows (Ag x.1.inns),.int x.1.pen1,.int x.1.pen2,.int x.1.win,.int x.1.wside,.int x.1.margin,.int x.2]) ∧
    (∀ m:Mat,Mat.mk m.rules m.stage m.first m.follow m.inns m.pen1 m.pen2 m.win m.wside m.margin=m):=⟨fun _=>rfl,fun _=>rfl,fun _=>rfl⟩
theorem jq:∀ (ps r pre:List PV),r.length=ps.length→Am (pre++r) pre.length ps=pre++ps
 | [],r,pre,h=>by
  have:r=[]:=List.eq_nil_of_length_eq_zero h
  subst this
  rfl
 | p::ps,[],pre,h=>by cases h
 | p::ps,a::r,pre,h=>by
  have ih:=jq ps r (pre++[p]) (by simpa using h)
  simp only [List.length_append,List.length_cons,List.length_nil,List.append_assoc,List.cons_append,List.nil_append] at ih
  unfold Am
  rw [List.set_append_right _ _ (Nat.le_refl _),Nat.sub_self]
  exact ih
theorem qh (a s:Inn):Am a.ls 0 s.ls=s.ls:=jq s.ls a.ls [] rfl
theorem qD (a:Inn) (e:Int):Am a.ls 27 [.int e]=Inn.ls { a with ending:=e }:=by
 show a.ls.set 27 (.int e)=_
 rfl
theorem pj {xs:List Inn} {i:Nat} (h:i<xs.length) (s:Inn):(Ag xs).set i (Am (AB (Ag xs) i) 0 s.ls)=Ag (xs.set i s):=by
 have e:AB (Ag xs) i=(xs[i]).ls:=by rw [bE,List.getElem?_eq_getElem h]
 rw [e,qh]
 exact List.map_set.symm
theorem qU {xs:List Inn} {i:Nat} (h:i<xs.length) (e:Int):(Ag xs).set i (Am (AB (Ag xs) i) 27 [.int e])=Ag (xs.set i { inn xs i with ending:=e }):=by
 have e1:AB (Ag xs) i=(inn xs i).ls:=by rw [bE,Mu,List.getElem?_eq_getElem h]
 rw [e1,qD]
 exact List.map_set.symm
theorem qZ (xs:List Inn) (s:Inn):Ag xs++[s.ls]=Ag (xs++[s]):=by
 show List.map Inn.ls xs++List.map Inn.ls [s]=List.map Inn.ls (xs++[s])
 exact List.map_append.symm
theorem pS (xs:List Inn) (i:Nat) (s:Inn):(Ag xs).set i (Am (AB (Ag xs) i) 0 s.ls)=Ag (xs.set i s):=by
 by_cases h:i<xs.length
 ·exact pj h s
 ·rw [List.set_eq_of_length_le (by rw [Ye];omega),List.set_eq_of_length_le (by omega)]
theorem iu (xs:List Inn) (i:Nat) (e:Int):(Ag xs).set i (Am (AB (Ag xs) i) 27 [.int e])=Ag (xs.set i { inn xs i with ending:=e }):=by
 by_cases h:i<xs.length
 ·exact qU h e
 ·rw [List.set_eq_of_length_le (by rw [Ye];omega),List.set_eq_of_length_le (by omega)]
theorem PXr : (∀ (xs : List Inn) (x0 x1 x2 x3 x4 x5 x6 x7 x8 x9 x10 x11 x12 x13 x15 x21 x22 x23 x25 x26 x27 : Int) (x18 x20 : Bool) (x14 x16 x17 x19 x24 : Rows), Ag xs ++ [([.int x0, .int x1, .int x2, .int x3, .int x4, .int x5, .int x6, .int x7, .int x8, .int x9, .int x10, .int x11, .int x12, .int x13, .rows x14, .int x15, .rows x16, .rows x17, .bool x18, .rows x19, .bool x20, .int x21, .int x22, .int x23, .rows x24, .int x25, .int x26, .int x27] : List PV)] = Ag (xs ++ [⟨x0, x1, x2, x3, x4, x5, x6, x7, x8, x9, x10, x11, x12, x13, x14, x15, x16, x17, x18, x19, x20, x21, x22, x23, x24, x25, x26, x27⟩])) ∧ (∀ (xs : List Inn) (i : Nat) (x0 x1 x2 x3 x4 x5 x6 x7 x8 x9 x10 x11 x12 x13 x15 x21 x22 x23 x25 x26 x27 : Int) (x18 x20 : Bool) (x14 x16 x17 x19 x24 : Rows), (Ag xs).set i (Am (AB (Ag xs) i) 0 [.int x0, .int x1, .int x2, .int x3, .int x4, .int x5, .int x6, .int x7, .int x8, .int x9, .int x10, .int x11, .int x12, .int x13, .rows x14, .int x15, .rows x16, .rows x17, .bool x18, .rows x19, .bool x20, .int x21, .int x22, .int x23, .rows x24, .int x25, .int x26, .int x27]) = Ag (xs.set i ⟨x0, x1, x2, x3, x4, x5, x6, x7, x8, x9, x10, x11, x12, x13, x14, x15, x16, x17, x18, x19, x20, x21, x22, x23, x24, x25, x26, x27⟩)) ∧
    (∀ (xs:List Inn) (i:Nat) (e:Int),(Ag xs).set i (Am (AB (Ag xs) i) 27 [.int e])=Ag (xs.set i { inn xs i with ending:=e })) :=
  ⟨fun xs x0 x1 x2 x3 x4 x5 x6 x7 x8 x9 x10 x11 x12 x13 x15 x21 x22 x23 x25 x26 x27 x18 x20 x14 x16 x17 x19 x24=>qZ xs ⟨x0,x1,x2,x3,x4,x5,x6,x7,x8,x9,x10,x11,x12,x13,x14,x15,x16,x17,x18,x19,x20,x21,x22,x23,x24,x25,x26,x27⟩,fun xs i x0 x1 x2 x3 x4 x5 x6 x7 x8 x9 x10 x11 x12 x13 x15 x21 x22 x23 x25 x26 x27 x18 x20 x14 x16 x17 x19 x24=>pS xs i ⟨x0,x1,x2,x3,x4,x5,x6,x7,x8,x9,x10,x11,x12,x13,x14,x15,x16,x17,x18,x19,x20,x21,x22,x23,x24,x25,x26,x27⟩,iu⟩
end Go.Px
end
section
namespace Go.Px
set_option maxRecDepth 100000
def Bo (n:Int):Int:=IntKind.i64.wrap (3 - n)
theorem Hh {N:Nat} {n:Int}  : BW N [.int n]=some [.int (Bo n)]:=by
 show Km (std (Rr N) N) (xOf _)=_
 simp only [Km,std,xOf,PXb,PXc,PXn,PXm,Nat.reduceAdd,Int.reduceBEq,Bo]
def C3 (m:Mat) (i:Int):Int:=cond (cond (m.follow&&iLe 2 i) (i==2) (i.tmod 2==1)) (Bo m.first) m.first
theorem O9 {N:Nat} {m1 m2 m3 m4 m5 m6 m7 m9 m10 m11 m12 m14 m15 m18 m19 m20 m21 m22:Int} {m8 m16:Bool} {m0:ByteArray} {m13:Rows} {m17:List Inn} {i:Int}  : DD N [.str m0,.int m1,.int m2,.int m3,.int m4,.int m5,.int m6,.int m7,.bool m8,.int m9,.int m10,.int m11,.int m12,.rows m13,.int m14,.int m15,.bool m16,.rows (Ag m17),.int m18,.int m19,.int m20,.int m21,.int m22,.int i]=some [.int (C3 (⟨⟨m0,m1,m2,m3,m4,m5,m6,m7,m8,m9,m10,m11,m12,m13⟩,m14,m15,m16,m17,m18,m19,m20,m21,m22⟩:Mat) i)]:=by
 show K7 (std (L5 N) N) (xOf _)=_
 generalize hres:(some [.int (C3 (⟨⟨m0,m1,m2,m3,m4,m5,m6,m7,m8,m9,m10,m11,m12,m13⟩,m14,m15,m16,m17,m18,m19,m20,m21,m22⟩:Mat) i)]:Option (List PV))=RR
 simp only [K7,Pm,std,xOf,PXb,PXc,PXn,PXm,Nat.reduceAdd,Int.reduceBEq,Hh]
 subst hres;simp only [C3]
def O5 (xs:List Inn) (side:Int):Nat→Int
 | 0=>0
 | i+1=>cond ((inn xs i).side==side) (IntKind.i64.wrap (O5 xs side i+(inn xs i).runs)) (O5 xs side i)
def CF (m:Mat) (side:Int):Int:=O5 m.inns side m.inns.length
theorem PA {N:Nat} {m1 m2 m3 m4 m5 m6 m7 m9 m10 m11 m12 m14 m15 m18 m19 m20 m21 m22:Int} {m8 m16:Bool} {m0:ByteArray} {m13:Rows} {m17:List Inn} {n:Int} (hN:2097152<N) (hl:m17.length≤1048576):B2 N [.str m0,.int m1,.int m2,.int m3,.int m4,.int m5,.int m6,.int m7,.bool m8,.int m9,.int m10,.int m11,.int m12,.rows m13,.int m14,.int m15,.bool m16,.rows (Ag m17),.int m18,.int m19,.int m20,.int m21,.int m22,.int n]=some [.int (CF (⟨⟨m0,m1,m2,m3,m4,m5,m6,m7,m8,m9,m10,m11,m12,m13⟩,m14,m15,m16,m17,m18,m19,m20,m21,m22⟩:Mat) n)]:=by
 show Ky (std (SM N) N) (xOf _)=_
 generalize hres:(some [.int (CF (⟨⟨m0,m1,m2,m3,m4,m5,m6,m7,m8,m9,m10,m11,m12,m13⟩,m14,m15,m16,m17,m18,m19,m20,m21,m22⟩:Mat) n)]:Option (List PV))=RR
 simp only [Ky,std,xOf,PXb,PXi]
 subst hres;simp only [CF]
 refine Ab (Cb (len:=m17.length) (fun i=>[.int (O5 m17 n i),.int (i:Int)]) [.int (O5 m17 n m17.length)] ?_ ?_ N (by omega)) rfl
 ·intro self
  simp only [PXb,PXc,PXn,AH,BC]
 ·intro i self hi
  simp only [PXb,PXc,AH,A6 (show i≤1099511627776 by omega),Ay hi,AR hi,PXi,O5]
  cases (inn m17 i).side==n<;>rfl
def Gk (m:Mat) (side:Int):Int :=
 cond (iLt (IntKind.i64.wrap ((m.inns.length:Int)+1)) (IntKind.i64.wrap (2 * m.rules.innings))) 0 (IntKind.i64.wrap (IntKind.i64.wrap (CF m (Bo side) - CF m side)+1))
theorem Ti {N:Nat} {m1 m2 m3 m4 m5 m6 m7 m9 m10 m11 m12 m14 m15 m18 m19 m20 m21 m22:Int} {m8 m16:Bool} {m0:ByteArray} {m13:Rows} {m17:List Inn} {n:Int} (hN:2097152<N) (hl:m17.length≤1048576):GN N [.str m0,.int m1,.int m2,.int m3,.int m4,.int m5,.int m6,.int m7,.bool m8,.int m9,.int m10,.int m11,.int m12,.rows m13,.int m14,.int m15,.bool m16,.rows (Ag m17),.int m18,.int m19,.int m20,.int m21,.int m22,.int n]=some [.int (Gk (⟨⟨m0,m1,m2,m3,m4,m5,m6,m7,m8,m9,m10,m11,m12,m13⟩,m14,m15,m16,m17,m18,m19,m20,m21,m22⟩:Mat) n)]:=by
 show Jp (std (HO N) N) (xOf _)=_
 generalize hres:(some [.int (Gk (⟨⟨m0,m1,m2,m3,m4,m5,m6,m7,m8,m9,m10,m11,m12,m13⟩,m14,m15,m16,m17,m18,m19,m20,m21,m22⟩:Mat) n)]:Option (List PV))=RR
 simp only [Jp,O2,PB,std,xOf,PXb,PXc,PXn,PXm,Nat.reduceAdd,Int.reduceBEq,PXi,Hh,PA hN hl]
 subst hres;simp only [Gk]
def Zj (stage:Int) (xs:List Inn) (i:Nat):Bool := !(((inn xs i).ending==0)==(stage==3&&((i:Int)==IntKind.i64.wrap ((xs.length:Int) - 1))))
def WC (m:Mat):Bool := !Bn (Zj m.stage m.inns) m.inns.length 0&&(!(m.stage==3)||iLt 0 (m.inns.length:Int))
theorem eS {N:Nat} {m1 m2 m3 m4 m5 m6 m7 m9 m10 m11 m12 m14 m15 m18 m19 m20 m21 m22:Int} {m8 m16:Bool} {m0:ByteArray} {m13:Rows} {m17:List Inn} (hN:2097152<N) (hl:m17.length≤1048576):Hm N [.str m0,.int m1,.int m2,.int m3,.int m4,.int m5,.int m6,.int m7,.bool m8,.int m9,.int m10,.int m11,.int m12,.rows m13,.int m14,.int m15,.bool m16,.rows (Ag m17),.int m18,.int m19,.int m20,.int m21,.int m22]=some [.bool (WC (⟨⟨m0,m1,m2,m3,m4,m5,m6,m7,m8,m9,m10,m11,m12,m13⟩,m14,m15,m16,m17,m18,m19,m20,m21,m22⟩:Mat))]:=by
 show Kf (std (R9 N) N) (xOf _)=_
 generalize hres:(some [.bool (WC (⟨⟨m0,m1,m2,m3,m4,m5,m6,m7,m8,m9,m10,m11,m12,m13⟩,m14,m15,m16,m17,m18,m19,m20,m21,m22⟩:Mat))]:Option (List PV))=RR
 simp only [Kf,std,xOf,PXb,PXi]
 subst hres;simp only [WC]
 refine Ab (K9 (len:=m17.length) (Zj m14 m17) [.bool false] ?_ ?_ N (by omega)) ?_
 ·intro self
  simp only [PXb,PXc,PXn,AH,BC]
 ·intro i self hi
  simp only [PXb,PXc,AH,A6 (show i≤1099511627776 by omega),Ay hi,AR hi,PXi,Zj]
 ·cases Bn (Zj m14 m17) m17.length 0 with
  | true=>rfl
  | false=>simp only [PXb,PXc,PXn,PXm,Nat.reduceAdd,Int.reduceBEq]
end Go.Px
end
section
namespace Go.Px
set_option maxRecDepth 100000
def J0 (xs:List Inn):Prop:=∀ i,i<xs.length→(inn xs i).Fit
theorem Us {N:Nat} {r1 r2 r3 r4 r5 r6 r7 r9 r10 r11 r12:Int} {r8:Bool} {r0:ByteArray} {r13:Rows} (hl:r13.length≤1048576):DC N [.str r0,.int r1,.int r2,.int r3,.int r4,.int r5,.int r6,.int r7,.bool r8,.int r9,.int r10,.int r11,.int r12,.rows r13]=some [.str r0,.int r1,.int r2,.int r3,.int r4,.int r5,.int r6,.int r7,.bool r8,.int r9,.int r10,.int r11,.int r12,.rows r13]:=by
 show K0 (std (Ma N) N) (xOf _)=_
 simp only [K0,LI,std,xOf,PXb,PXc,PXn,PXm,Nat.reduceAdd,Int.reduceBEq,C8,Bg hl (show 24≤4096 by omega)]
theorem eA {xs:List Inn} {i:Nat} (h:i<xs.length):xs.take i++[inn xs i]=xs.take (i+1):=by
 rw [List.take_add_one,Mu,List.getElem?_eq_getElem h]
 rfl
theorem eE {N:Nat} {m1 m2 m3 m4 m5 m6 m7 m9 m10 m11 m12 m14 m15 m18 m19 m20 m21 m22:Int} {m8 m16:Bool} {m0:ByteArray} {m13:Rows} {m17:List Inn} (hf:J0 m17) (hN:2097152<N) (hl:m17.length≤1000000) (h13:m13.length≤1048576):Hj N [.str m0,.int m1,.int m2,.int m3,.int m4,.int m5,.int m6,.int m7,.bool m8,.int m9,.int m10,.int m11,.int m12,.rows m13,.int m14,.int m15,.bool m16,.rows (Ag m17),.int m18,.int m19,.int m20,.int m21,.int m22]=some [.str m0,.int m1,.int m2,.int m3,.int m4,.int m5,.int m6,.int m7,.bool m8,.int m9,.int m10,.int m11,.int m12,.rows m13,.int m14,.int m15,.bool m16,.rows (Ag m17),.int m18,.int m19,.int m20,.int m21,.int m22]:=by
 show Ki (std (II N) N) (xOf _)=_
 simp only [Ki,P1,G4,std,xOf,PXb,Us h13,PXi]
 refine Ab (Cb (len:=m17.length) (fun i=>[.rows (Ag (m17.take i)),.int (i:Int)]) [.rows (Ag m17)] ?_ ?_ N (by omega)) rfl
 ·intro self
  simp only [PXb,PXc,PXn,AH,BC,List.take_length]
 ·intro i self hi
  have h2:(m17.take (i+1)).length≤1048576:=by rw [List.length_take];omega
  have h3:iSm ((m17.take (i+1)).length:Int) 304=true:=GE (by omega) (by omega)
  simp only [PXb,PXc,AH,A6 (show i≤1099511627776 by omega),Ay hi,AR hi,PXi,G4,CE (hf i hi),PXr,Inn.eta,h3,eA hi,Nat.reduceAdd]
  rfl
def rq:Rul:=⟨⟨#[]⟩,0,0,0,0,0,0,0,false,0,0,0,0,[]⟩
def o9:Mat:=⟨rq,0,0,false,[],0,0,0,0,0⟩
def AN (r:Rul):Mat×Int:=cond (!(BK r==0)) (o9,BK r) (⟨r,1,0,false,[],0,0,0,0,0⟩,0)
theorem i7 {N:Nat} {r1 r2 r3 r4 r5 r6 r7 r9 r10 r11 r12:Int} {r8:Bool} {r0:ByteArray} {r13:Rows} (hN:2097152<N) (hs:r0.size≤1048576) (h13:r13.length≤1048576):OE N [.str r0,.int r1,.int r2,.int r3,.int r4,.int r5,.int r6,.int r7,.bool r8,.int r9,.int r10,.int r11,.int r12,.rows r13]=some (UN (AN (⟨r0,r1,r2,r3,r4,r5,r6,r7,r8,r9,r10,r11,r12,r13⟩:Rul))):=by
 show OA (std (Kr N) N) (xOf _)=_
 generalize hres:(some (UN (AN (⟨r0,r1,r2,r3,r4,r5,r6,r7,r8,r9,r10,r11,r12,r13⟩:Rul))):Option (List PV))=RR
 simp only [OA,RS,RX,std,xOf,PXb,PXc,PXn,PXm,Nat.reduceAdd,Int.reduceBEq,DE hN hs,Us h13]
 subst hres;simp only [AN]
 cases BK (⟨r0,r1,r2,r3,r4,r5,r6,r7,r8,r9,r10,r11,r12,r13⟩:Rul)==0<;>rfl
def ZN (m:Mat):Bool:=(iLt m.pen1 0||iLt 1000000 m.pen1)||(iLt m.pen2 0||iLt 1000000 m.pen2)
def WR (m:Mat) (i:Nat):Bool := !Gm m.rules (inn m.inns i) || !((inn m.inns i).side==C3 m (i:Int))
def eW (m:Mat):Bool :=
  let n:Int:=m.inns.length
  let most:=IntKind.i64.wrap (2 * m.rules.innings)
  BK m.rules==0&&(!(iLt m.stage 1)&&(!(iLt 5 m.stage)&&(!ZN m&&(!(iLt m.first 0||iLt 2 m.first||iLt most n)&&(!(m.first==0&&(iLt 0 n||(!(m.stage==1) && !(m.stage==5)))) &&
    (!(m.stage==1 && !(m.first==0))&&(!(m.stage==2&&n==most)&&(!(m.stage==4&&(!(m.rules.innings==2) || !(n==2))) && !(m.follow&&(!(m.rules.innings==2)||iLt n 2))))))))))
def Fj (m:Mat):Bool:=eW m&&(!Bn (WR m) m.inns.length 0&&WC m)
set_option maxHeartbeats 4000000 in
theorem Uq {N:Nat} {m1 m2 m3 m4 m5 m6 m7 m9 m10 m11 m12 m14 m15 m18 m19 m20 m21 m22:Int} {m8 m16:Bool} {m0:ByteArray} {m13:Rows} {m17:List Inn} (hf:J0 m17) (hN:2097152<N) (hl:m17.length≤1000000) (hs:m0.size≤1048576):DB N [.str m0,.int m1,.int m2,.int m3,.int m4,.int m5,.int m6,.int m7,.bool m8,.int m9,.int m10,.int m11,.int m12,.rows m13,.int m14,.int m15,.bool m16,.rows (Ag m17),.int m18,.int m19,.int m20,.int m21,.int m22]=some [.bool (Fj (⟨⟨m0,m1,m2,m3,m4,m5,m6,m7,m8,m9,m10,m11,m12,m13⟩,m14,m15,m16,m17,m18,m19,m20,m21,m22⟩:Mat))]:=by
 show Ko (std (Ds N) N) (xOf _)=_
 generalize hres:(some [.bool (Fj (⟨⟨m0,m1,m2,m3,m4,m5,m6,m7,m8,m9,m10,m11,m12,m13⟩,m14,m15,m16,m17,m18,m19,m20,m21,m22⟩:Mat))]:Option (List PV))=RR
 simp only [Ko,Pp,G3,Ib,Ij,std,xOf,PXb,DE hN hs,PXi]
 subst hres;simp only [Fj,eW]
 cases hc:BK (⟨⟨m0,m1,m2,m3,m4,m5,m6,m7,m8,m9,m10,m11,m12,m13⟩,m14,m15,m16,m17,m18,m19,m20,m21,m22⟩:Mat).rules==0<;>(try rfl)
 cases h1:iLt m14 1<;>(try rfl)
 cases h5:iLt 5 m14<;>(try rfl)
 simp only [PXb]
 refine Ab (K9 (len:=2) (fun i=>iLt (cond ((i:Int)==1) m19 m18) 0||iLt 1000000 (cond ((i:Int)==1) m19 m18)) [.bool false] ?_ ?_ N (by omega)) ?_
 ·intro self
  rfl
 ·intro i self hi
  simp only [PXb,A6 (show i≤1099511627776 by omega),show iLt (i:Int) 2=true from Ay (len:=2) hi,show iIn (i:Int) 2=true from AR (len:=2) hi]
 ·have hp:Bn (fun i=>iLt (cond ((i:Int)==1) m19 m18) 0||iLt 1000000 (cond ((i:Int)==1) m19 m18)) 2 0=ZN (⟨⟨m0,m1,m2,m3,m4,m5,m6,m7,m8,m9,m10,m11,m12,m13⟩,m14,m15,m16,m17,m18,m19,m20,m21,m22⟩:Mat):=by
   simp only [CC,JG,Bool.or_false]
   rfl
  rw [hp]
  cases ZN (⟨⟨m0,m1,m2,m3,m4,m5,m6,m7,m8,m9,m10,m11,m12,m13⟩,m14,m15,m16,m17,m18,m19,m20,m21,m22⟩:Mat)
  case true=>rfl
  simp only [PXb,KX,Int.reduceBEq]
  cases iLt m15 0<;>try rfl
  cases iLt 2 m15<;>try rfl
  cases iLt (IntKind.i64.wrap (2 * m2)) (m17.length:Int)<;>try rfl
  cases (m15==0&&(iLt 0 (m17.length:Int)||(!(m14==1) && !(m14==5))))<;>try rfl
  cases (m14==1 && !(m15==0))<;>try rfl
  cases (m14==2&&(m17.length:Int)==IntKind.i64.wrap (2 * m2))<;>try rfl
  cases (m14==4&&(!(m2==2) || !((m17.length:Int)==2)))<;>try rfl
  cases (m16&&(!(m2==2)||iLt (m17.length:Int) 2))<;>try rfl
  simp only [PXb]
  refine Ab (K9 (len:=m17.length) (WR (⟨⟨m0,m1,m2,m3,m4,m5,m6,m7,m8,m9,m10,m11,m12,m13⟩,m14,m15,m16,m17,m18,m19,m20,m21,m22⟩:Mat)) [.bool false] ?_ ?_ N (by omega)) ?_
  ·intro self
   simp only [PXb,PXc,PXn,AH,BC]
  ·intro i self hi
   simp only [PXb,PXc,PXn,PXm,Nat.reduceAdd,Int.reduceBEq,A6 (show i≤1099511627776 by omega),Ay hi,AR hi,PXi,G3,Ib,SC (hf i hi) hN hs,O9,WR]
   cases Gm (⟨⟨m0,m1,m2,m3,m4,m5,m6,m7,m8,m9,m10,m11,m12,m13⟩,m14,m15,m16,m17,m18,m19,m20,m21,m22⟩:Mat).rules (inn m17 i)<;>first | rfl | simp only [PXb,PXc,PXn,PXm,Nat.reduceAdd,Int.reduceBEq]
  ·cases Bn (WR (⟨⟨m0,m1,m2,m3,m4,m5,m6,m7,m8,m9,m10,m11,m12,m13⟩,m14,m15,m16,m17,m18,m19,m20,m21,m22⟩:Mat)) m17.length 0
   case true=>rfl
   simp only [PXb,PXc,PXn,PXm,Nat.reduceAdd,Int.reduceBEq,Ij,eS hN (show m17.length≤1048576 by omega)]
end Go.Px
end
section
namespace Go.Px
set_option maxRecDepth 100000
def lnx (xs:List Inn):Nat:=(IntKind.i64.wrap ((xs.length:Int) - 1)).toNat
def AW (m:Mat):Inn:=inn m.inns (lnx m.inns)
theorem TF {n:Nat} (h:((n:Int)==0)=false) (hl:n≤1000000):iIn (IntKind.i64.wrap ((n:Int) - 1)) (n:Int)=true:=by
 rw [beq_eq_false_iff_ne] at h
 rw [BA (by omega) (by omega)]
 simp only [iIn,decide_eq_true_eq];omega
theorem Wg {xs:List Inn} (h:((xs.length:Int)==0)=false) (hl:xs.length≤1000000):lnx xs<xs.length:=by
 rw [beq_eq_false_iff_ne] at h
 unfold lnx
 rw [BA (by omega) (by omega)]
 omega
def Zm (r:Rul):Int:=cond (r.overs==0) 5 6
theorem I1 {N:Nat} {r1 r2 r3 r4 r5 r6 r7 r9 r10 r11 r12:Int} {r8:Bool} {r0:ByteArray} {r13:Rows}  : Bs N [.str r0,.int r1,.int r2,.int r3,.int r4,.int r5,.int r6,.int r7,.bool r8,.int r9,.int r10,.int r11,.int r12,.rows r13]=some [.int (Zm (⟨r0,r1,r2,r3,r4,r5,r6,r7,r8,r9,r10,r11,r12,r13⟩:Rul))]:=by
 show Fm (std (L7 N) N) (xOf _)=_
 simp only [Fm,std,xOf,PXb,PXc,PXn,PXm,Nat.reduceAdd,Int.reduceBEq,Zm]
def o8 (x:Int×Int×Int):List PV:=[.int x.1,.int x.2.1,.int x.2.2]
def UZ (m:Mat):Int×Int×Int :=
  let n:Int:=m.inns.length
  let most:=IntKind.i64.wrap (2 * m.rules.innings)
  let x:=AW m
  cond (!Fj m||n==0) (0,0,0) (cond (x.ending==5) (Zm m.rules,0,0) (cond (x.ending==0) (0,0,0)
    (cond (n==most&&iLe x.target x.runs) (2,x.side,IntKind.i64.wrap (IntKind.i64.wrap (m.rules.side - 1) - x.wickets)) (cond (n==most&&x.runs==IntKind.i64.wrap (x.target - 1)) (4,0,0)
      (cond (n==most) (1,Bo x.side,IntKind.i64.wrap (IntKind.i64.wrap (x.target - 1) - x.runs))
        (cond (n==3&&iLt (CF m x.side) (CF m (Bo x.side))) (3,Bo x.side,IntKind.i64.wrap (CF m (Bo x.side) - CF m x.side)) (0,0,0)))))))
set_option maxHeartbeats 4000000 in
theorem ZJ {N:Nat} {m1 m2 m3 m4 m5 m6 m7 m9 m10 m11 m12 m14 m15 m18 m19 m20 m21 m22:Int} {m8 m16:Bool} {m0:ByteArray} {m13:Rows} {m17:List Inn} (hf:J0 m17) (hN:2097152<N) (hl:m17.length≤1000000) (hs:m0.size≤1048576):FR N [.str m0,.int m1,.int m2,.int m3,.int m4,.int m5,.int m6,.int m7,.bool m8,.int m9,.int m10,.int m11,.int m12,.rows m13,.int m14,.int m15,.bool m16,.rows (Ag m17),.int m18,.int m19,.int m20,.int m21,.int m22]=some (o8 (UZ (⟨⟨m0,m1,m2,m3,m4,m5,m6,m7,m8,m9,m10,m11,m12,m13⟩,m14,m15,m16,m17,m18,m19,m20,m21,m22⟩:Mat))):=by
 show IW (std (C9 N) N) (xOf _)=_
 generalize hres:(some (o8 (UZ (⟨⟨m0,m1,m2,m3,m4,m5,m6,m7,m8,m9,m10,m11,m12,m13⟩,m14,m15,m16,m17,m18,m19,m20,m21,m22⟩:Mat))):Option (List PV))=RR
 simp only [IW,OV,Ov,OT,K8,std,xOf,PXb,PXi,Uq hf hN hl hs,Hh,I1,PA hN (show m17.length≤1048576 by omega)]
 subst hres;simp only [UZ,AW,lnx]
 cases hv:Fj (⟨⟨m0,m1,m2,m3,m4,m5,m6,m7,m8,m9,m10,m11,m12,m13⟩,m14,m15,m16,m17,m18,m19,m20,m21,m22⟩:Mat)
 case false=>rfl
 cases h0:(m17.length:Int)==0
 case true=>rfl
 simp only [PXb,TF h0 hl]
 generalize inn m17 (IntKind.i64.wrap ((m17.length:Int) - 1)).toNat=x
 cases x.ending==5
 case true=>rfl
 cases x.ending==0
 case true=>rfl
 cases (m17.length:Int)==IntKind.i64.wrap (2 * m2)<;>cases iLe x.target x.runs<;>cases x.runs==IntKind.i64.wrap (x.target - 1)<;>try rfl
 all_goals (cases (m17.length:Int)==3<;>try rfl)
 all_goals (simp only [PXb];cases iLt (CF (⟨⟨m0,m1,m2,m3,m4,m5,m6,m7,m8,m9,m10,m11,m12,m13⟩,m14,m15,m16,m17,m18,m19,m20,m21,m22⟩:Mat) x.side) (CF (⟨⟨m0,m1,m2,m3,m4,m5,m6,m7,m8,m9,m10,m11,m12,m13⟩,m14,m15,m16,m17,m18,m19,m20,m21,m22⟩:Mat) (Bo x.side))<;>rfl)
theorem gU:∀ (n k:Nat) (f:Nat→Nat),(∀ i,i<k→1≤f i∧f i≤n)→(∀ i j,i<j→j<k→f i≠f j)→k≤n
 | 0,k,f,h,_=>by
  rcases Nat.eq_zero_or_pos k with e | e
  ·omega
  ·have:=h 0 e;omega
 | n+1,0,f,_,_=>by omega
 | n+1,k+1,f,h,hi=>by
  by_cases he:∃ j,j<k+1∧f j=n+1
  ·obtain ⟨j,hj,hfj⟩:=he
   have:=gU n k (fun i=>if i=j then f k else f i) (fun i hik=>by
    show 1≤(if i=j then f k else f i)∧(if i=j then f k else f i)≤n
    by_cases e:i=j
    ·rw [if_pos e]
     have h1:=h k (by omega)
     have:f k≠f j:=fun e2=>hi j k (by omega) (by omega) e2.symm
     omega
    ·rw [if_neg e]
     have h1:=h i (by omega)
     have:f i≠f j:=by
      rcases Nat.lt_or_gt_of_ne e with e2 | e2
      ·exact hi i j e2 hj
      ·exact fun e3=>hi j i e2 (by omega) e3.symm
     omega) (fun a b hab hb=>by
    show (if a=j then f k else f a)≠(if b=j then f k else f b)
    by_cases e1:a=j
    ·have e2:b≠j:=by omega
     rw [if_pos e1,if_neg e2]
     exact fun e3=>hi b k hb (by omega) e3.symm
    ·rw [if_neg e1]
     by_cases e2:b=j
     ·rw [if_pos e2];exact hi a k (by omega) (by omega)
     ·rw [if_neg e2];exact hi a b hab (by omega))
   omega
  ·have:=gU n (k+1) f (fun i hik=>by
    have h1:=h i hik
    have:f i≠n+1:=fun e=>he ⟨i,hik,e⟩
    omega) hi
   omega
theorem gO {L:Rows} {n:Int} (h:KK L n=true) (hn:0≤n):(L.length:Int)≤n:=by
 unfold KK at h
 rw [Bool.not_eq_true',Jd] at h
 have hb:∀ i,i<L.length→1≤atI L i 0∧atI L i 0≤n:=fun i hi=>by
  have:=h i (by omega) (by omega)
  unfold QF at this
  rw [Bool.or_eq_false_iff,Bool.not_eq_false',TJ] at this
  exact this.1
 have:=gU n.toNat L.length (fun i=>(atI L i 0).toNat) (fun i hi=>by have:=hb i hi;show 1≤(atI L i 0).toNat∧(atI L i 0).toNat≤n.toNat;omega) (fun i j hij hj=>by
  show (atI L i 0).toNat≠(atI L j 0).toNat
  have h1:=hb i (by omega)
  have h2:=hb j hj
  have h3:=h j (by omega) (by omega)
  unfold QF at h3
  rw [Bool.or_eq_false_iff] at h3
  have h4:=Jd.1 h3.2 i (by omega) (by omega)
  rw [beq_eq_false_iff_ne] at h4
  omega)
 omega
theorem Py {r:Rul} {s:Inn} (h:Gm r s=true):s.bowlers.length≤11∧s.before.length≤11∧s.Fit:=by
 have ok:=Ln.1 h
 have hs:=pV ok
 have h1:=gO ok.dw (by omega)
 have h2:=gO ok.df (by omega)
 have h3:=ok.lb
 have h4:=ok.ld
 have h5:=ok.lz
 exact ⟨by omega,by omega,by omega,by omega,by omega,by omega,by omega⟩
end Go.Px
end
section
namespace Go.Px
set_option maxRecDepth 100000
def aW (m:Mat) (e:Ev):Mat×Int :=
  let sd:=C3 m (m.inns.length:Int)
  let b:=Cl m.rules sd (Gk m sd) (cond (sd==2) m.pen2 m.pen1)
  let t:=Au m.rules b.1 e
  cond (!(b.2==0)) (m,1) (cond (!(t.2==0)) (m,t.2)
    ({ m with stage:=3,inns:=m.inns++[t.1],pen1:=cond (sd==1) 0 m.pen1,pen2:=cond (sd==2) 0 m.pen2 },0))
def Mr (xs:List Inn) (sd:Int):Nat→Option Nat
 | 0=>none
 | k+1=>cond ((inn xs k).side==sd) (some k) (Mr xs sd k)
def Hr (m:Mat) (sd:Int):Mat:=match Mr m.inns sd m.inns.length with
 | some k=>{ m with inns:=m.inns.set k (PH (inn m.inns k)) }
 | none=>{ m with pen1:=cond (sd==1) (IntKind.i64.wrap (m.pen1+5)) m.pen1,pen2:=cond (sd==2) (IntKind.i64.wrap (m.pen2+5)) m.pen2 }
def Fv (m:Mat) (e:Ev):Mat×Int :=
 let t:=Au m.rules (AW m) e
 cond (!(t.2==0)) (m,t.2) (cond (e.kind==13 && !(e.side==t.1.side)) (Hr { m with inns:=m.inns.set (lnx m.inns) t.1 } e.side) { m with inns:=m.inns.set (lnx m.inns) t.1 },0)
def ZZ (m:Mat):Mat:={ m with inns:=cond (m.stage==3) (m.inns.set (lnx m.inns) { AW m with ending:=5 }) m.inns,stage:=5,win:=Zm m.rules,wside:=0,margin:=0 }
def IB (m:Mat) (e:Ev):Mat×Int :=
  cond (e.kind==1) (cond (!(m.stage==1)) (m,1) ({ m with first:=cond e.yes e.side (Bo e.side),stage:=2 },0))
    (cond (e.kind==2) (cond (!(m.stage==2)) (m,1) (aW m e))
      (cond (e.kind==12) (cond (!(m.stage==4)) (m,1) (cond (!(e.side==m.first)) (m,2) ({ m with follow:=e.yes,stage:=2 },0)))
        (cond (e.kind==16) (ZZ m,0) (cond (!(m.stage==3)) (m,1) (Fv m e)))))
def QH (m:Mat):Mat :=
  let n:Int:=m.inns.length
  let sd:=(AW m).side
  let o:=UZ { m with stage:=5 }
  cond (n==IntKind.i64.wrap (2 * m.rules.innings)||(n==3&&iLt (CF m sd) (CF m (Bo sd)))) { m with stage:=5,win:=o.1,wside:=o.2.1,margin:=o.2.2 }
    (cond (n==2&&iLt 0 m.rules.followon&&iLe m.rules.followon (IntKind.i64.wrap (CF m m.first - CF m (Bo m.first)))) { m with stage:=4 } { m with stage:=2 })
def CH (m:Mat):Mat:=cond (m.stage==3 && !((AW m).ending==0)) (QH m) m
def DX (m:Mat) (e:Ev):Mat×Int :=
 cond (!Fj m || !(evS e==0)) (m,1) (cond (m.stage==5) (m,26) (cond (!((IB m e).2==0)) (m,(IB m e).2) (CH (IB m e).1,0)))
theorem bind_ok {X:Option (List PV)} {r:List PV} {k:List PV→Option (List PV)} {g:Option (List PV)} (h:X=some r) (hk:k r=g):X.bind k=g:=by rw [h];exact hk
structure MatOk (m:Mat):Prop where
 code:BK m.rules=0
 len:m.inns.length≤4
 innv:∀ i,i<m.inns.length→Gm m.rules (inn m.inns i)=true∧(inn m.inns i).side=C3 m (i:Int)
 begun:(m.stage==3)=true→((m.inns.length:Int)==0)=false
 toss:(m.stage==2)=true→m.first=1∨m.first=2
 room:(m.stage==2)=true→(m.inns.length:Int)<2 * m.rules.innings
 most:IntKind.i64.wrap (2 * m.rules.innings)=2 * m.rules.innings∧(m.inns.length:Int)≤2 * m.rules.innings
theorem Wd {m:Mat} (h:Fj m=true):MatOk m:=by
 unfold Fj eW at h
 simp only [Bool.and_eq_true,Bool.not_eq_true'] at h
 obtain ⟨⟨h1,h2,h3,h4,h5,h6,h7,h8,h9,h10⟩,h11,h12⟩:=h
 have hc:=beq_iff_eq.1 h1
 have rk:=(Ed hc).innings
 have e2:IntKind.i64.wrap (2 * m.rules.innings)=2 * m.rules.innings:=BA (by omega) (by omega)
 rw [e2] at h5 h8
 rw [Bool.or_eq_false_iff,Bool.or_eq_false_iff] at h5
 have hn:=h5.2
 have hf1:=h5.1.1
 have hf2:=h5.1.2
 simp only [iLt,decide_eq_false_iff_not] at hn hf1 hf2
 refine ⟨hc,by omega,fun i hi=>?_,fun hs=>?_,fun hs=>?_,fun hs=>?_,e2,by omega⟩
 ·have:=Jd.1 h11 i (by omega) (by omega)
  unfold WR at this
  rw [Bool.or_eq_false_iff,Bool.not_eq_false',Bool.not_eq_false',beq_iff_eq] at this
  exact this
 ·unfold WC at h12
  rw [hs,Bool.and_eq_true] at h12
  have:=h12.2
  simp only [iLt,Bool.not_true,Bool.false_or,decide_eq_true_eq] at this
  exact beq_false_of_ne (by omega)
 ·rw [beq_iff_eq.1 hs] at h6
  cases h0:m.first==0 with
  | true=>rw [h0] at h6;simp at h6
  | false =>
   rw [beq_eq_false_iff_ne] at h0
   omega
 ·rw [hs,Bool.true_and,beq_eq_false_iff_ne] at h8
  omega
theorem oo {m:Mat} (h:m.first=1∨m.first=2) (i:Int):C3 m i=1∨C3 m i=2:=by
 unfold C3
 cases cond (m.follow&&iLe 2 i) (i==2) (i.tmod 2==1) with
 | false=>exact h
 | true=>rcases h with h | h<;>rw [h]<;>decide
theorem ct {m:Mat} (h:MatOk m):J0 m.inns:=fun i hi=>(Py (h.innv i hi).1).2.2
theorem Tz {F : (List AY → Option (List PV)) → List PV → Option (List PV)} {len : Nat} (enc : Nat → List AY) (ans : Nat → Option (List PV))
    (h0:∀ self,F self ((enc len).map Leaf.pv)=some [.int 1]) (h1:∀ i self,i<len→F self ((enc i).map Leaf.pv)=match ans i with | some r=>some (.int 0::r) | none=>self (enc (i+1))) :
    ∀ (k i n:Nat),i+k=len→k<n→Cv F n ((enc i).map Leaf.pv)=some (Pr (BH ans k i))
  | 0,i,n,hk,hn=>by
    obtain ⟨n,rfl⟩:∃ m,n=m+1:=⟨n - 1,by omega⟩
    obtain rfl:i=len:=by omega
    exact h0 _
  | k+1,i,n,hk,hn=>by
    obtain ⟨n,rfl⟩:∃ m,n=m+1:=⟨n - 1,by omega⟩
    show F _ _=_
    rw [h1 i _ (by omega)]
    simp only [BH]
    cases ans i with
    | some r=>rfl
    | none=>exact Tz enc ans h0 h1 k (i+1) n (by omega) (by omega)
theorem kC (ys:List Inn) (sd:Int) (g:Nat→List PV) (n:Nat):∀ k,k≤n→BH (fun j=>cond ((inn ys (n - 1 - j)).side==sd) (some (g (n - 1 - j))) none) k (n - k)=(Mr ys sd k).map g
 | 0,_=>rfl
 | k+1,h=>by
  have ih:=kC ys sd g n k (by omega)
  have e:n - 1 - (n - (k+1))=k:=by omega
  have e2:n - (k+1)+1=n - k:=by omega
  simp only [BH,Mr,e,e2,ih]
  cases (inn ys k).side==sd<;>rfl
theorem XB (xs:List Inn) (k:Nat) (s:Inn) (i:Nat) (hi:i<xs.length):inn (xs.set k s) i=(if k=i then s else inn xs i):=by
 rw [Mu,Mu,List.getElem?_set]
 by_cases h:k=i
 ·subst h
  rw [if_pos rfl,if_pos rfl,if_pos hi]
 ·rw [if_neg h,if_neg h]
theorem RN {xs:List Inn} {s:Inn} (k:Nat) (h:J0 xs) (hs:s.Fit):J0 (xs.set k s):=fun i hi=>by
 rw [List.length_set] at hi
 rw [XB xs k s i hi]
 by_cases e:k=i
 ·rw [if_pos e];exact hs
 ·rw [if_neg e];exact h i hi
theorem mc {e:Ev} (h:(evS e==0)=true) (hk:(e.kind==13)=true):e.side=1∨e.side=2:=by
 have h0:=bm h
 rw [beq_iff_eq] at hk
 unfold evS at h
 rw [h0] at h
 cases h1:fU e with
 | true=>rw [h1] at h;cases h
 | false =>
  cases h2:YO e with
  | true=>rw [h1,h2] at h;cases h
  | false =>
   unfold YO at h2
   rw [Bool.or_eq_false_iff] at h2
   have h3:=h2.1
   rw [hk,show uS 13=true from rfl,Bool.and_true] at h3
   simp only [btw,iLe,Bool.not_eq_false',Bool.and_eq_true,decide_eq_true_eq] at h3
   omega
theorem pd (xs:List Inn) (s:Inn) (i:Nat) (hi:i<xs.length+1):inn (xs++[s]) i=(if i<xs.length then inn xs i else s):=by
 rw [Mu,Mu]
 by_cases h:i<xs.length
 ·rw [if_pos h,List.getElem?_append_left h]
 ·have:i=xs.length:=by omega
  subst this
  rw [if_neg h,List.getElem?_append_right (Nat.le_refl _),Nat.sub_self]
  rfl
theorem oB {xs:List Inn} {s:Inn} (h:J0 xs) (hs:s.Fit):J0 (xs++[s]):=fun i hi=>by
 rw [List.length_append] at hi
 rw [pd xs s i hi]
 by_cases e:i<xs.length
 ·rw [if_pos e];exact h i e
 ·rw [if_neg e];exact hs
theorem cV (r:Rul) (a b c:Int) (e:Ev):(Au r (Cl r a b c).1 e).1.Fit:=by
 obtain ⟨f,h1,h2⟩:=Po r a b c
 exact QN (SG r _ e) f (by rw [h1,h2];exact Nat.zero_le _)
structure ActOk (m:Mat) (x:Mat×Int):Prop where
 rules:x.1.rules=m.rules
 fit:J0 x.1.inns
 len:x.1.inns.length≤5
 some':(x.2==0)=true→(x.1.stage==3)=true→((x.1.inns.length:Int)==0)=false
theorem A_c {m:Mat} (b:Bool) (x y:Mat×Int) (hx:ActOk m x) (hy:ActOk m y):ActOk m (cond b x y):=by cases b<;>assumption
theorem hC {m:Mat} (sd:Int) (hf:J0 m.inns):(Hr m sd).rules=m.rules∧J0 (Hr m sd).inns∧(Hr m sd).inns.length=m.inns.length∧(Hr m sd).stage=m.stage:=by
 unfold Hr
 cases h:Mr m.inns sd m.inns.length with
 | none=>exact ⟨rfl,hf,rfl,rfl⟩
 | some k =>
  have hk:k<m.inns.length:=by
   have:∀ n,Mr m.inns sd n=some k→k<n:=by
    intro n
    induction n with
    | zero=>intro h;cases h
    | succ n ih =>
     intro h
     unfold Mr at h
     cases hq:(inn m.inns n).side==sd with
     | true=>rw [hq] at h;cases h;omega
     | false=>rw [hq] at h;have:=ih h;omega
   exact this _ h
  exact ⟨rfl,RN k hf (py (hf k hk)),List.length_set,rfl⟩
theorem mE {m:Mat} (ok:MatOk m) (e:Ev):ActOk m (IB m e):=by
 have hf:=ct ok
 have hl:=ok.len
 have self:∀ n:Int,(n==0)=false→ActOk m (m,n):=fun n hn=>⟨rfl,hf,by show m.inns.length≤5;omega,fun h=>by rw [hn] at h;cases h⟩
 unfold IB
 refine A_c _ _ _ (A_c _ _ _ (self 1 rfl) ⟨rfl,hf,by show m.inns.length≤5;omega,fun _ h=>by cases h⟩) (A_c _ _ _ ?_ (A_c _ _ _ ?_ (A_c _ _ _ ?_ ?_)))
 ·refine A_c _ _ _ (self 1 rfl) ?_
  unfold aW
  refine A_c _ _ _ (self 1 rfl) ?_
  cases hq:(Au m.rules (Cl m.rules (C3 m (m.inns.length:Int)) (Gk m (C3 m (m.inns.length:Int))) (cond (C3 m (m.inns.length:Int)==2) m.pen2 m.pen1)).1 e).2==0 with
  | false =>
   simp only [Bool.not_false,cond_true]
   exact self _ hq
  | true =>
   simp only [Bool.not_true,cond_false]
   exact ⟨rfl,oB hf (cV _ _ _ _ e),by simp;omega,fun _ _=>by
    show ((((m.inns++[_]).length:Nat):Int)==0)=false
    rw [List.length_append]
    exact beq_false_of_ne (by simp;omega)⟩
 ·exact A_c _ _ _ (self 1 rfl) (A_c _ _ _ (self 2 rfl) ⟨rfl,hf,by show m.inns.length≤5;omega,fun _ h=>by cases h⟩)
 ·unfold ZZ
  cases h3:m.stage==3 with
  | false=>exact ⟨rfl,hf,by show m.inns.length≤5;omega,fun _ h=>by cases h⟩
  | true =>
   have h0:=ok.begun h3
   have fl:=hf (lnx m.inns) (Wg h0 (by omega))
   exact ⟨rfl,RN _ hf ⟨fl.bt,fl.bw,fl.bf,fl.bd,fl.sb⟩,by show (m.inns.set _ _).length≤5;rw [List.length_set];omega,fun _ h=>by cases h⟩
 ·cases h3:m.stage==3 with
  | false=>exact self 1 rfl
  | true =>
   have h0:=ok.begun h3
   have lv:=Py (ok.innv (lnx m.inns) (Wg h0 (by omega))).1
   have h1:=lv.1
   have h2:=lv.2.1
   have ft:=QN (SG m.rules (AW m) e) lv.2.2 (show (inn m.inns (lnx m.inns)).before.length+(inn m.inns (lnx m.inns)).bowlers.length≤1048575 by omega)
   simp only [Bool.not_true,cond_false,Fv]
   cases hq:(Au m.rules (AW m) e).2==0 with
   | false =>
    simp only [Bool.not_false,Bool.not_true,cond_true,cond_false]
    exact self _ hq
   | true =>
    have fs:=RN (lnx m.inns) hf ft
    have ln:(m.inns.set (lnx m.inns) (Au m.rules (AW m) e).1).length=m.inns.length:=List.length_set
    simp only [Bool.not_true,cond_false]
    cases (e.kind==13 && !(e.side==(Au m.rules (AW m) e).1.side)) with
    | false =>
     exact ⟨rfl,fs,by show (m.inns.set _ _).length≤5;omega,fun _ _=>by
      show ((((m.inns.set _ _).length:Nat):Int)==0)=false
      rw [ln];exact h0⟩
    | true =>
     obtain ⟨a1,a2,a3,a4⟩:=hC (m:={ m with inns:=m.inns.set (lnx m.inns) (Au m.rules (AW m) e).1 }) e.side fs
     exact ⟨a1,a2,by show (Hr _ _).inns.length≤5;rw [a3];show (m.inns.set _ _).length≤5;omega,fun _ _=>by
      show ((((Hr _ _).inns.length:Nat):Int)==0)=false
      rw [a3]
      show ((((m.inns.set _ _).length:Nat):Int)==0)=false
      rw [ln];exact h0⟩
end Go.Px
end
section
namespace Go.Px
set_option maxRecDepth 100000
set_option maxHeartbeats 8000000 in
theorem gK {N:Nat} {m1 m2 m3 m4 m5 m6 m7 m9 m10 m11 m12 m14 m15 m18 m19 m20 m21 m22:Int} {m8 m16:Bool} {m0:ByteArray} {m13:Rows} {m17:List Inn} {e0 e1 e2 e3 e5 e6 e7 e8 e9 e10 e11 e13 e14 e15 e16 e18:Int} {e4 e12 e17:Bool} (hN:2097152<N) (hf:J0 m17) (hl:m17.length≤1000000) (hs:m0.size≤1048576) (h13:m13.length≤1048576):MN N [.str m0,.int m1,.int m2,.int m3,.int m4,.int m5,.int m6,.int m7,.bool m8,.int m9,.int m10,.int m11,.int m12,.rows m13,.int m14,.int m15,.bool m16,.rows (Ag m17),.int m18,.int m19,.int m20,.int m21,.int m22,.int e0,.int e1,.int e2,.int e3,.bool e4,.int e5,.int e6,.int e7,.int e8,.int e9,.int e10,.int e11,.bool e12,.int e13,.int e14,.int e15,.int e16,.bool e17,.int e18]=some (UN (DX (⟨⟨m0,m1,m2,m3,m4,m5,m6,m7,m8,m9,m10,m11,m12,m13⟩,m14,m15,m16,m17,m18,m19,m20,m21,m22⟩:Mat) (⟨e0,e1,e2,e3,e4,e5,e6,⟨e7,e8,e9,e10,e11,e12,e13,e14,e15,e16,e17,e18⟩⟩:Ev))):=by
 show MZ (std (BE N) N) (xOf _)=_
 generalize hres:(some (UN (DX (⟨⟨m0,m1,m2,m3,m4,m5,m6,m7,m8,m9,m10,m11,m12,m13⟩,m14,m15,m16,m17,m18,m19,m20,m21,m22⟩:Mat) (⟨e0,e1,e2,e3,e4,e5,e6,⟨e7,e8,e9,e10,e11,e12,e13,e14,e15,e16,e17,e18⟩⟩:Ev))):Option (List PV))=RR
 simp only [MZ,QW,QY,QX,Er,El,Iu,Hn,D3,EX,C0,DF,Gr,std,xOf,PXb,Uq hf hN hl hs,VN hN,eE hf hN hl h13]
 subst hres;simp only [DX]
 cases hv:Fj (⟨⟨m0,m1,m2,m3,m4,m5,m6,m7,m8,m9,m10,m11,m12,m13⟩,m14,m15,m16,m17,m18,m19,m20,m21,m22⟩:Mat)
 case false=>rfl
 cases he:evS (⟨e0,e1,e2,e3,e4,e5,e6,⟨e7,e8,e9,e10,e11,e12,e13,e14,e15,e16,e17,e18⟩⟩:Ev)==0
 case false=>simp only [PXb,he];rfl
 simp only [PXb,he]
 cases h5:m14==5
 case true=>rfl
 simp only [PXb]
 have ok:=Wd hv
 refine bind_ok (r:=.int (IB (⟨⟨m0,m1,m2,m3,m4,m5,m6,m7,m8,m9,m10,m11,m12,m13⟩,m14,m15,m16,m17,m18,m19,m20,m21,m22⟩:Mat) (⟨e0,e1,e2,e3,e4,e5,e6,⟨e7,e8,e9,e10,e11,e12,e13,e14,e15,e16,e17,e18⟩⟩:Ev)).2::(IB (⟨⟨m0,m1,m2,m3,m4,m5,m6,m7,m8,m9,m10,m11,m12,m13⟩,m14,m15,m16,m17,m18,m19,m20,m21,m22⟩:Mat) (⟨e0,e1,e2,e3,e4,e5,e6,⟨e7,e8,e9,e10,e11,e12,e13,e14,e15,e16,e17,e18⟩⟩:Ev)).1.ls) ?_ ?_
 ·unfold IB
  cases hk1:e0==1
  case true =>
   simp only [PXb,El,Hh]
   cases m14==1<;>cases e4<;>rfl
  cases hk2:e0==2
  case true =>
   simp only [PXb]
   cases hs2:m14==2
   case false=>rfl
   have hl2:m17.length≤1048576:=by omega
   have h304:iSm ((m17.length+1:Nat):Int) 304=true:=GE (by omega) (by omega)
   have fb:=fun a b c=>(Po (⟨⟨m0,m1,m2,m3,m4,m5,m6,m7,m8,m9,m10,m11,m12,m13⟩,m14,m15,m16,m17,m18,m19,m20,m21,m22⟩:Mat).rules a b c).1
   have wb:∀ a b c,(Cl (⟨⟨m0,m1,m2,m3,m4,m5,m6,m7,m8,m9,m10,m11,m12,m13⟩,m14,m15,m16,m17,m18,m19,m20,m21,m22⟩:Mat).rules a b c).1.before.length+(Cl (⟨⟨m0,m1,m2,m3,m4,m5,m6,m7,m8,m9,m10,m11,m12,m13⟩,m14,m15,m16,m17,m18,m19,m20,m21,m22⟩:Mat).rules a b c).1.bowlers.length≤1000000:=fun a b c=>by
    rw [(Po (⟨⟨m0,m1,m2,m3,m4,m5,m6,m7,m8,m9,m10,m11,m12,m13⟩,m14,m15,m16,m17,m18,m19,m20,m21,m22⟩:Mat).rules a b c).2.1,(Po (⟨⟨m0,m1,m2,m3,m4,m5,m6,m7,m8,m9,m10,m11,m12,m13⟩,m14,m15,m16,m17,m18,m19,m20,m21,m22⟩:Mat).rules a b c).2.2]
    exact Nat.zero_le _
   rcases oo (m:=(⟨⟨m0,m1,m2,m3,m4,m5,m6,m7,m8,m9,m10,m11,m12,m13⟩,m14,m15,m16,m17,m18,m19,m20,m21,m22⟩:Mat)) (ok.toss hs2) (m17.length:Int) with ho | ho
   ·simp only [PXb,PXc,KX,iX,Nat.reduceAdd,Int.reduceBEq,PXi,PXr,Inn.eta,BT,List.length_append,List.length_cons,List.length_nil,h304,aW,Er,EX,D3,C0,O9,Ti hN hl2,RZ hN hs,Nm (fb _ _ _) (wb _ _ _) hN hs h13,ho,wr1,wr2,gI,gn]
    cases (Cl (⟨⟨m0,m1,m2,m3,m4,m5,m6,m7,m8,m9,m10,m11,m12,m13⟩,m14,m15,m16,m17,m18,m19,m20,m21,m22⟩:Mat).rules 1 (Gk (⟨⟨m0,m1,m2,m3,m4,m5,m6,m7,m8,m9,m10,m11,m12,m13⟩,m14,m15,m16,m17,m18,m19,m20,m21,m22⟩:Mat) 1) m18).2==0<;>try rfl
    cases (Au (⟨⟨m0,m1,m2,m3,m4,m5,m6,m7,m8,m9,m10,m11,m12,m13⟩,m14,m15,m16,m17,m18,m19,m20,m21,m22⟩:Mat).rules (Cl (⟨⟨m0,m1,m2,m3,m4,m5,m6,m7,m8,m9,m10,m11,m12,m13⟩,m14,m15,m16,m17,m18,m19,m20,m21,m22⟩:Mat).rules 1 (Gk (⟨⟨m0,m1,m2,m3,m4,m5,m6,m7,m8,m9,m10,m11,m12,m13⟩,m14,m15,m16,m17,m18,m19,m20,m21,m22⟩:Mat) 1) m18).1 (⟨e0,e1,e2,e3,e4,e5,e6,⟨e7,e8,e9,e10,e11,e12,e13,e14,e15,e16,e17,e18⟩⟩:Ev)).2==0<;>rfl
   ·simp only [PXb,PXc,KX,iX,Nat.reduceAdd,Int.reduceBEq,PXi,PXr,Inn.eta,BT,List.length_append,List.length_cons,List.length_nil,h304,aW,Er,EX,D3,C0,O9,Ti hN hl2,RZ hN hs,Nm (fb _ _ _) (wb _ _ _) hN hs h13,ho,wr1,wr2,gI,gn]
    cases (Cl (⟨⟨m0,m1,m2,m3,m4,m5,m6,m7,m8,m9,m10,m11,m12,m13⟩,m14,m15,m16,m17,m18,m19,m20,m21,m22⟩:Mat).rules 2 (Gk (⟨⟨m0,m1,m2,m3,m4,m5,m6,m7,m8,m9,m10,m11,m12,m13⟩,m14,m15,m16,m17,m18,m19,m20,m21,m22⟩:Mat) 2) m19).2==0<;>try rfl
    cases (Au (⟨⟨m0,m1,m2,m3,m4,m5,m6,m7,m8,m9,m10,m11,m12,m13⟩,m14,m15,m16,m17,m18,m19,m20,m21,m22⟩:Mat).rules (Cl (⟨⟨m0,m1,m2,m3,m4,m5,m6,m7,m8,m9,m10,m11,m12,m13⟩,m14,m15,m16,m17,m18,m19,m20,m21,m22⟩:Mat).rules 2 (Gk (⟨⟨m0,m1,m2,m3,m4,m5,m6,m7,m8,m9,m10,m11,m12,m13⟩,m14,m15,m16,m17,m18,m19,m20,m21,m22⟩:Mat) 2) m19).1 (⟨e0,e1,e2,e3,e4,e5,e6,⟨e7,e8,e9,e10,e11,e12,e13,e14,e15,e16,e17,e18⟩⟩:Ev)).2==0<;>rfl
  cases hk3:e0==12
  case true =>
   simp only [PXb]
   cases m14==4<;>cases e1==m15<;>rfl
  cases hk4:e0==16
  case true =>
   simp only [PXb,ZZ]
   cases h3:m14==3
   case false=>simp only [PXb,PXc,PXi,PXr,KX,Nat.reduceAdd,DF,I1];rfl
   simp only [PXb,PXc,PXi,PXr,KX,Nat.reduceAdd,TF (ok.begun h3) hl,DF,I1]
   rfl
  simp only [PXb]
  cases h3:m14==3
  case false=>rfl
  have h0:=ok.begun h3
  have lv:=Py (ok.innv (lnx m17) (Wg h0 hl)).1
  have fl:(inn m17 (IntKind.i64.wrap ((m17.length:Int) - 1)).toNat).Fit:=lv.2.2
  have wl:(inn m17 (IntKind.i64.wrap ((m17.length:Int) - 1)).toNat).before.length+(inn m17 (IntKind.i64.wrap ((m17.length:Int) - 1)).toNat).bowlers.length≤1000000:=by
   have h1:=lv.1
   have h2:=lv.2.1
   change (inn m17 (IntKind.i64.wrap ((m17.length:Int) - 1)).toNat).bowlers.length≤11 at h1
   change (inn m17 (IntKind.i64.wrap ((m17.length:Int) - 1)).toNat).before.length≤11 at h2
   omega
  have f1:=QN (SG (⟨⟨m0,m1,m2,m3,m4,m5,m6,m7,m8,m9,m10,m11,m12,m13⟩,m14,m15,m16,m17,m18,m19,m20,m21,m22⟩:Mat).rules (inn m17 (IntKind.i64.wrap ((m17.length:Int) - 1)).toNat) (⟨e0,e1,e2,e3,e4,e5,e6,⟨e7,e8,e9,e10,e11,e12,e13,e14,e15,e16,e17,e18⟩⟩:Ev)) fl (by omega)
  simp only [PXb,PXc,PXi,PXr,BT,Inn.eta,KX,Nat.reduceAdd,List.length_set,TF h0 hl,C0,Nm fl wl hN hs h13,Fv,AW,lnx]
  generalize hX:Au (⟨⟨m0,m1,m2,m3,m4,m5,m6,m7,m8,m9,m10,m11,m12,m13⟩,m14,m15,m16,m17,m18,m19,m20,m21,m22⟩:Mat).rules (inn m17 (IntKind.i64.wrap ((m17.length:Int) - 1)).toNat) (⟨e0,e1,e2,e3,e4,e5,e6,⟨e7,e8,e9,e10,e11,e12,e13,e14,e15,e16,e17,e18⟩⟩:Ev)=X at f1
  have fy:=RN (IntKind.i64.wrap ((m17.length:Int) - 1)).toNat hf f1
  generalize hy:m17.set (IntKind.i64.wrap ((m17.length:Int) - 1)).toNat X.1=ys at fy
  have ly:ys.length=m17.length:=by rw [← hy,List.length_set]
  cases X.2==0<;>try rfl
  cases h13k:e0==13
  case false=>rfl
  cases hsd:e1==X.1.side
  case true=>rfl
  simp only [PXb,Option.bind_assoc]
  have e0w:IntKind.i64.wrap ((m17.length:Int) - 1)=(m17.length:Int) - 1 - ((0:Nat):Int):=by
   rw [beq_eq_false_iff_ne] at h0
   rw [BA (by omega) (by omega)];omega
  rw [e0w]
  have hside:=mc (e:=(⟨e0,e1,e2,e3,e4,e5,e6,⟨e7,e8,e9,e10,e11,e12,e13,e14,e15,e16,e17,e18⟩⟩:Ev)) he h13k
  simp only at hside
  refine Ab (Tz (len:=m17.length) (fun j=>[.int ((m17.length:Int) - 1 - (j:Int))]) (fun j=>cond ((inn ys (m17.length - 1 - j)).side==e1) (some [PV.str m0,PV.int m1,PV.int m2,PV.int m3,PV.int m4,PV.int m5,PV.int m6,PV.int m7,PV.bool m8,PV.int m9,PV.int m10,PV.int m11,PV.int m12,PV.rows m13,PV.int m14,PV.int m15,PV.bool m16,PV.rows (Ag (ys.set (m17.length - 1 - j) (PH (inn ys (m17.length - 1 - j))))),PV.int m18,PV.int m19,PV.int m20,PV.int m21,PV.int m22]) none) ?_ ?_ m17.length 0 N (by omega) (by omega)) ?_
  ·intro self
   have q1:iLe 0 ((m17.length:Int) - 1 - (m17.length:Int))=false:=by simp only [iLe,decide_eq_false_iff_not];omega
   simp only [PXb,q1]
  ·intro i self hi
   have q1:iLe 0 ((m17.length:Int) - 1 - (i:Int))=true:=by simp only [iLe,decide_eq_true_eq];omega
   have q2:iIn ((m17.length:Int) - 1 - (i:Int)) (m17.length:Int)=true:=by simp only [iIn,decide_eq_true_eq];omega
   have q3:((m17.length:Int) - 1 - (i:Int)).toNat=m17.length - 1 - i:=by omega
   have q4:IntKind.i64.wrap ((m17.length:Int) - 1 - (i:Int) - 1)=(m17.length:Int) - 1 - ((i+1:Nat):Int):=by rw [BA (by omega) (by omega)];omega
   have q5:=fy (m17.length - 1 - i) (by omega)
   simp only [PXb,PXc,q1,q2,q3,q4,Gr,Ph q5,PXm]
   cases (inn ys (m17.length - 1 - i)).side==e1<;>rfl
  ·have hfa:=kC ys e1 (fun k=>[PV.str m0,PV.int m1,PV.int m2,PV.int m3,PV.int m4,PV.int m5,PV.int m6,PV.int m7,PV.bool m8,PV.int m9,PV.int m10,PV.int m11,PV.int m12,PV.rows m13,PV.int m14,PV.int m15,PV.bool m16,PV.rows (Ag (ys.set k (PH (inn ys k)))),PV.int m18,PV.int m19,PV.int m20,PV.int m21,PV.int m22]) m17.length m17.length (Nat.le_refl _)
   rw [Nat.sub_self] at hfa
   rw [hfa]
   unfold Hr
   simp only [ly]
   cases Mr ys e1 m17.length with
   | some k=>rfl
   | none =>
    rcases hside with h | h<;>subst h
    ·simp only [Option.map_none,Pr,PXb,PXc,KX,Int.reduceBEq,wr1,gI]
     rfl
    ·simp only [Option.map_none,Pr,PXb,PXc,KX,Int.reduceBEq,wr2,gn]
     rfl
 ·have ak:=mE ok (⟨e0,e1,e2,e3,e4,e5,e6,⟨e7,e8,e9,e10,e11,e12,e13,e14,e15,e16,e17,e18⟩⟩:Ev)
  generalize IB (⟨⟨m0,m1,m2,m3,m4,m5,m6,m7,m8,m9,m10,m11,m12,m13⟩,m14,m15,m16,m17,m18,m19,m20,m21,m22⟩:Mat) (⟨e0,e1,e2,e3,e4,e5,e6,⟨e7,e8,e9,e10,e11,e12,e13,e14,e15,e16,e17,e18⟩⟩:Ev)=A at ak
  obtain ⟨⟨⟨a0,a1,a2,a3,a4,a5,a6,a7,a8,a9,a10,a11,a12,a13⟩,a14,a15,a16,a17,a18,a19,a20,a21,a22⟩,l⟩:=A
  obtain ⟨k1,k2,k3,k4⟩:=ak
  simp only at k1 k2 k3 k4
  have hl5:a17.length≤1048576:=by omega
  have hs5:a0.size≤1048576:=by
   have:=congrArg Rul.name k1
   simp only at this
   rw [this];exact hs
  simp only [PXb,PXc,PXk,PXi,KX,Nat.reduceAdd]
  cases hl0:l==0
  case false=>rfl
  simp only [PXb,CH]
  cases h3:a14==3
  case false=>rfl
  have h0:=k4 hl0 h3
  have li:=TF h0 (show a17.length≤1000000 by omega)
  simp only [PXb,PXc,PXi,li]
  cases he2:(inn a17 (IntKind.i64.wrap ((a17.length:Int) - 1)).toNat).ending==0
  case true=>simp only [PXb,AW,lnx,he2]
  simp only [PXb,PXc,PXi,AW,lnx,he2,Iu,El,Hn,PA hN hl5,Hh,ZJ k2 hN (show a17.length≤1000000 by omega) hs5]
  unfold QH
  simp only [AW,lnx]
  simp only [CF,AW,lnx]
  cases hq1:((a17.length:Int)==IntKind.i64.wrap (2 * a2))
  case true=>rfl
  cases hq2:((a17.length:Int)==3)
  case true =>
   simp only [PXb]
   cases iLt (O5 a17 (inn a17 (IntKind.i64.wrap ((a17.length:Int) - 1)).toNat).side a17.length) (O5 a17 (Bo (inn a17 (IntKind.i64.wrap ((a17.length:Int) - 1)).toNat).side) a17.length)
   case true=>rfl
   simp only [PXb]
   cases ((a17.length:Int)==2)&&iLt 0 a10&&iLe a10 (IntKind.i64.wrap (O5 a17 a15 a17.length - O5 a17 (Bo a15) a17.length))<;>rfl
  simp only [PXb]
  cases ((a17.length:Int)==2)&&iLt 0 a10&&iLe a10 (IntKind.i64.wrap (O5 a17 a15 a17.length - O5 a17 (Bo a15) a17.length))<;>rfl
end Go.Px
end
section
namespace Go.Px
set_option maxRecDepth 100000
theorem jC (m:Mat):(QH m).rules=m.rules∧(QH m).inns=m.inns:=by
 unfold QH
 dsimp only
 cases ((m.inns.length:Int)==IntKind.i64.wrap (2 * m.rules.innings)||((m.inns.length:Int)==3&&iLt (CF m (AW m).side) (CF m (Bo (AW m).side)))) with
 | true=>exact ⟨rfl,rfl⟩
 | false =>
  cases ((m.inns.length:Int)==2&&iLt 0 m.rules.followon&&iLe m.rules.followon (IntKind.i64.wrap (CF m m.first - CF m (Bo m.first))))<;>exact ⟨rfl,rfl⟩
theorem Zf (m:Mat):(CH m).rules=m.rules∧(CH m).inns=m.inns:=by
 unfold CH
 cases (m.stage==3 && !((AW m).ending==0)) with
 | true=>exact jC m
 | false=>exact ⟨rfl,rfl⟩
structure StepOk (r:Rul) (m:Mat):Prop where
 rules:m.rules=r
 fit:J0 m.inns
 len:m.inns.length≤5
theorem kU {r:Rul} {m:Mat} (h:StepOk r m) (e:Ev):StepOk r (DX m e).1:=by
 unfold DX
 cases hv:Fj m with
 | false=>exact h
 | true =>
  cases he:evS e==0 with
  | false=>exact h
  | true =>
   cases h5:m.stage==5 with
   | true=>exact h
   | false =>
    have a:=mE (Wd hv) e
    cases hx:(IB m e).2==0 with
    | false=>exact h
    | true =>
     have k:=Zf (IB m e).1
     exact ⟨k.1.trans (a.rules.trans h.rules),by show J0 (CH _).inns;rw [k.2];exact a.fit,by show (CH _).inns.length≤5;rw [k.2];exact a.len⟩
theorem jh (r:Rul) (h:((AN r).2==0)=true):StepOk r (AN r).1:=by
 unfold AN at h ⊢
 cases hc:BK r==0 with
 | false=>rw [hc] at h;exact absurd (show (BK r==0)=true from h) (by rw [hc];decide)
 | true=>exact ⟨rfl,fun i hi=>absurd hi (Nat.not_lt_zero i),Nat.zero_le _⟩
theorem Yx {m:Mat} {e:Ev} (h:((DX m e).2==0)=true):Fj m=true∧(evS e==0)=true∧(m.stage==5)=false∧((IB m e).2==0)=true∧(DX m e).1=CH (IB m e).1:=by
 unfold DX at h ⊢
 cases hv:Fj m with
 | false=>rw [hv] at h;exact absurd (show ((1:Int)==0)=true from h) (by decide)
 | true =>
  cases he:evS e==0 with
  | false=>rw [hv,he] at h;exact absurd (show ((1:Int)==0)=true from h) (by decide)
  | true =>
   cases h5:m.stage==5 with
   | true=>rw [hv,he,h5] at h;exact absurd (show ((26:Int)==0)=true from h) (by decide)
   | false =>
    cases hx:(IB m e).2==0 with
    | false=>rw [hv,he,h5,hx] at h;exact absurd (show ((IB m e).2==0)=true from h) (by rw [hx];decide)
    | true=>exact ⟨rfl,rfl,rfl,rfl,rfl⟩
theorem Tu {m:Mat} {e:Ev} (h:((DX m e).2==0)=true) (hk:(e.kind==4)=true):(m.stage==3)=true∧((m.inns.length:Int)==0)=false∧((Au m.rules (AW m) e).2==0)=true∧(DX m e).1.inns=m.inns.set (lnx m.inns) (Au m.rules (AW m) e).1:=by
 obtain ⟨hv,he,h5,ha,hs⟩:=Yx h
 have hk4:=beq_iff_eq.1 hk
 rw [hs,(Zf _).2]
 unfold IB at ha ⊢
 simp only [hk4,Int.reduceBEq,cond_false] at ha ⊢
 cases h3:m.stage==3 with
 | false=>rw [h3] at ha;exact absurd (show ((1:Int)==0)=true from ha) (by decide)
 | true =>
  rw [h3] at ha
  simp only [Bool.not_true,cond_false] at ha ⊢
  unfold Fv at ha ⊢
  cases hq:(Au m.rules (AW m) e).2==0 with
  | false=>simp only [hq,Bool.not_false,cond_true] at ha;exact absurd ha Bool.false_ne_true
  | true =>
   simp only [hk4,Int.reduceBEq,Bool.false_and,hq,Bool.not_true,cond_false]
   exact ⟨trivial,(Wd hv).begun h3,trivial,trivial⟩
end Go.Px
end
section
namespace Go.Px
set_option maxRecDepth 100000
def evR (L:Rows) (i:Nat):Ev:=⟨atI L i 0,atI L i 1,atI L i 2,atI L i 3,atB L i 4,atI L i 5,atI L i 6,⟨atI L i 7,atI L i 8,atI L i 9,atI L i 10,atI L i 11,atB L i 12,atI L i 13,atI L i 14,atI L i 15,atI L i 16,atB L i 17,atI L i 18⟩⟩
theorem sN (L:Rows) (i:Nat):(⟨atI L i 0,atI L i 1,atI L i 2,atI L i 3,atB L i 4,atI L i 5,atI L i 6,⟨atI L i 7,atI L i 8,atI L i 9,atI L i 10,atI L i 11,atB L i 12,atI L i 13,atI L i 14,atI L i 15,atI L i 16,atB L i 17,atI L i 18⟩⟩:Ev)=evR L i:=rfl
def Az (i:Int) (m:Mat) (e:Ev):Mat×Int:=cond (iLe 4000 i) (m,26) (DX m e)
def HF (L:Rows):Nat→Nat→Mat→Mat×Int×Int
 | 0,_,m=>(m,-1,0)
 | k+1,i,m=>cond (!((Az i m (evR L i)).2==0)) (m,(i:Int),(Az i m (evR L i)).2) (HF L k (i+1) (Az i m (evR L i)).1)
def C7 (i:Int) (m t:Mat) (d:Del):List PV :=
 [.int i,.int (IntKind.i64.wrap ((m.inns.length:Int) - 1)),.int (AW m).complete,.int (AW m).inover,.int (AW m).bowler,.int (AW m).striker,.int (AW m).other,.bool (AW m).freehit,
  .int d.type,.int d.source,.int d.runs,.int d.short,.int d.boundary,.bool d.crossed,.int d.how,.int d.victim,.int d.fielder,.int d.second,.bool d.sub,.int d.sector,
  .int (AD m.rules d).batter,.int (AD m.rules d).wides,.int (AD m.rules d).noballs,.int (AD m.rules d).byes,.int (AD m.rules d).legbyes,.int (AD m.rules d).bowler,.bool (AD m.rules d).counts,.bool (AD m.rules d).faced,.bool (AD m.rules d).wicket,.bool (AD m.rules d).swap,
  .int (inn t.inns (lnx m.inns)).runs,.int (inn t.inns (lnx m.inns)).wickets]
def Kl (L:Rows):Nat→Nat→Mat→Rows→Rows
 | 0,_,_,out=>out
 | k+1,i,m,out=>cond (!((Az i m (evR L i)).2==0)) out (Kl L k (i+1) (Az i m (evR L i)).1 (cond ((evR L i).kind==4) (out++[C7 i m (Az i m (evR L i)).1 (evR L i).ball]) out))
def oy (f:Mat×Int×Int):List PV:=[.str f.1.rules.name,.int f.1.rules.side,.int f.1.rules.innings,.int f.1.rules.overs,.int f.1.rules.balls,.int f.1.rules.quota,.int f.1.rules.wide,.int f.1.rules.noball,.bool f.1.rules.freehit,.int f.1.rules.newball,.int f.1.rules.followon,.int f.1.rules.reviews,.int f.1.rules.outside,.rows f.1.rules.power,.int f.1.stage,.int f.1.first,.bool f.1.follow,.rows (Ag f.1.inns),.int f.1.pen1,.int f.1.pen2,.int f.1.win,.int f.1.wside,.int f.1.margin,.int f.2.1,.int f.2.2]
def H3 (r:Rul) (L:Rows):Mat×Int×Int:=cond (!((AN r).2==0)) (o9,0,1) (HF L L.length 0 (AN r).1)
def Ee (r:Rul) (L:Rows):Rows:=cond (!((AN r).2==0)) [] (Kl L L.length 0 (AN r).1 [])
theorem iI (L:Rows):∀ k i m,((HF L k i m).2.1 == -1)=true→(HF L k i m).2.2=0
 | 0,_,_,_=>rfl
 | k+1,i,m,h=>by
  unfold HF at h ⊢
  cases hq:(Az i m (evR L i)).2==0 with
  | false =>
   rw [hq] at h
   have:=beq_iff_eq.1 (show ((i:Int) == -1)=true from h)
   omega
  | true=>rw [hq] at h;exact iI L k (i+1) _ h
theorem fR (L:Rows):∀ k i m out,(Kl L k i m out).length≤out.length+k
 | 0,_,_,out=>Nat.le_refl _
 | k+1,i,m,out=>by
  unfold Kl
  cases (Az i m (evR L i)).2==0 with
  | false=>show out.length≤_;omega
  | true =>
   have:=fR L k (i+1) (Az i m (evR L i)).1 (cond ((evR L i).kind==4) (out++[C7 i m (Az i m (evR L i)).1 (evR L i).ball]) out)
   refine Nat.le_trans this ?_
   cases (evR L i).kind==4 with
   | false=>show out.length+k≤_;omega
   | true=>show (out++[_]).length+k≤_;rw [List.length_append];simp;omega
theorem gG {r:Rul} {m:Mat} (h:StepOk r m) (i:Int) (e:Ev):StepOk r (Az i m e).1:=by
 unfold Az
 cases iLe 4000 i with
 | true=>exact h
 | false=>exact kU h e
theorem Zq {m:Mat} {i:Int} {e:Ev} (h:((Az i m e).2==0)=true):Az i m e=DX m e∧iLe 4000 i=false:=by
 unfold Az at h ⊢
 cases h4:iLe 4000 i with
 | true=>rw [h4] at h;exact absurd (show ((26:Int)==0)=true from h) (by decide)
 | false=>exact ⟨rfl,rfl⟩
theorem lG {N:Nat} {m1 m2 m3 m4 m5 m6 m7 m9 m10 m11 m12 m14 m15 m18 m19 m20 m21 m22:Int} {m8 m16:Bool} {m0:ByteArray} {m13:Rows} {m17:List Inn} {i:Int} {e0 e1 e2 e3 e5 e6 e7 e8 e9 e10 e11 e13 e14 e15 e16 e18:Int} {e4 e12 e17:Bool} (hN:2097152<N) (hf:J0 m17) (hl:m17.length≤1000000) (hs:m0.size≤1048576) (h13:m13.length≤1048576):Mn N [.str m0,.int m1,.int m2,.int m3,.int m4,.int m5,.int m6,.int m7,.bool m8,.int m9,.int m10,.int m11,.int m12,.rows m13,.int m14,.int m15,.bool m16,.rows (Ag m17),.int m18,.int m19,.int m20,.int m21,.int m22,.int i,.int e0,.int e1,.int e2,.int e3,.bool e4,.int e5,.int e6,.int e7,.int e8,.int e9,.int e10,.int e11,.bool e12,.int e13,.int e14,.int e15,.int e16,.bool e17,.int e18]=some (UN (Az i (⟨⟨m0,m1,m2,m3,m4,m5,m6,m7,m8,m9,m10,m11,m12,m13⟩,m14,m15,m16,m17,m18,m19,m20,m21,m22⟩:Mat) (⟨e0,e1,e2,e3,e4,e5,e6,⟨e7,e8,e9,e10,e11,e12,e13,e14,e15,e16,e17,e18⟩⟩:Ev))):=by
 show MO (std (Gw N) N) (xOf _)=_
 generalize hres:(some (UN (Az i (⟨⟨m0,m1,m2,m3,m4,m5,m6,m7,m8,m9,m10,m11,m12,m13⟩,m14,m15,m16,m17,m18,m19,m20,m21,m22⟩:Mat) (⟨e0,e1,e2,e3,e4,e5,e6,⟨e7,e8,e9,e10,e11,e12,e13,e14,e15,e16,e17,e18⟩⟩:Ev))):Option (List PV))=RR
 simp only [MO,S1,std,xOf,PXb,gK hN hf hl hs h13]
 subst hres;simp only [Az]
 cases iLe 4000 i<;>rfl
theorem ai {N:Nat} {i:Int} {m1 m2 m3 m4 m5 m6 m7 m9 m10 m11 m12 m14 m15 m18 m19 m20 m21 m22:Int} {m8 m16:Bool} {m0:ByteArray} {m13:Rows} {m17:List Inn} {t1 t2 t3 t4 t5 t6 t7 t9 t10 t11 t12 t14 t15 t18 t19 t20 t21 t22:Int} {t8 t16:Bool} {t0:ByteArray} {t13:Rows} {t17:List Inn} {d0 d1 d2 d3 d4 d6 d7 d8 d9 d11:Int} {d5 d10:Bool} (h1:iIn (IntKind.i64.wrap ((m17.length:Int) - 1)) (m17.length:Int)=true) (h2:iIn (IntKind.i64.wrap ((m17.length:Int) - 1)) (t17.length:Int)=true):Ia N [.int i,.str m0,.int m1,.int m2,.int m3,.int m4,.int m5,.int m6,.int m7,.bool m8,.int m9,.int m10,.int m11,.int m12,.rows m13,.int m14,.int m15,.bool m16,.rows (Ag m17),.int m18,.int m19,.int m20,.int m21,.int m22,.str t0,.int t1,.int t2,.int t3,.int t4,.int t5,.int t6,.int t7,.bool t8,.int t9,.int t10,.int t11,.int t12,.rows t13,.int t14,.int t15,.bool t16,.rows (Ag t17),.int t18,.int t19,.int t20,.int t21,.int t22,.int d0,.int d1,.int d2,.int d3,.int d4,.bool d5,.int d6,.int d7,.int d8,.int d9,.bool d10,.int d11]=some (C7 i (⟨⟨m0,m1,m2,m3,m4,m5,m6,m7,m8,m9,m10,m11,m12,m13⟩,m14,m15,m16,m17,m18,m19,m20,m21,m22⟩:Mat) (⟨⟨t0,t1,t2,t3,t4,t5,t6,t7,t8,t9,t10,t11,t12,t13⟩,t14,t15,t16,t17,t18,t19,t20,t21,t22⟩:Mat) (⟨d0,d1,d2,d3,d4,d5,d6,d7,d8,d9,d10,d11⟩:Del)):=by
 show IZ (std (J1 N) N) (xOf _)=_
 simp only [IZ,Lx,std,xOf,PXb,PXi,h1,h2,GB]
 rfl
end Go.Px
end
section
namespace Go.Px
set_option maxRecDepth 100000
def RE (L:Rows) (i:Nat) (s:Rows×Mat):List PV ⊕ Rows×Mat:=cond (!((Az i s.2 (evR L i)).2==0)) (.inl (.int 0::.rows s.1::.int i::.int (Az i s.2 (evR L i)).2::s.2.ls)) (.inr (cond ((evR L i).kind==4) (s.1++[C7 i s.2 (Az i s.2 (evR L i)).1 (evR L i).ball]) s.1,(Az i s.2 (evR L i)).1))
def kV (out:Rows) (f:Mat×Int×Int):List PV:=cond (f.2.1 == -1) (.int 1::.rows out::f.1.ls) (.int 0::.rows out::.int f.2.1::.int f.2.2::f.1.ls)
theorem cn (L:Rows):∀ k i s,ZI (RE L) (fun s=>.int 1::.rows s.1::s.2.ls) k i s=kV (Kl L k i s.2 s.1) (HF L k i s.2)
 | 0,_,_=>rfl
 | k+1,i,s=>by
  simp only [ZI,RE,HF,Kl]
  cases (Az i s.2 (evR L i)).2==0 with
  | false =>
   simp only [Bool.not_false,cond_true,kV]
   rw [show ((i:Int) == -1)=false from beq_false_of_ne (show (i:Int) ≠ -1 by omega)]
   rfl
  | true=>exact cn L k (i+1) _
def fX (out:Rows) (f:Mat×Int×Int):List PV:=[.rows out,.str f.1.rules.name,.int f.1.rules.side,.int f.1.rules.innings,.int f.1.rules.overs,.int f.1.rules.balls,.int f.1.rules.quota,.int f.1.rules.wide,.int f.1.rules.noball,.bool f.1.rules.freehit,.int f.1.rules.newball,.int f.1.rules.followon,.int f.1.rules.reviews,.int f.1.rules.outside,.rows f.1.rules.power,.int f.1.stage,.int f.1.first,.bool f.1.follow,.rows (Ag f.1.inns),.int f.1.pen1,.int f.1.pen2,.int f.1.win,.int f.1.wside,.int f.1.margin,.int f.2.1,.int f.2.2]
theorem qg {m t:Mat} {e:Ev} (hl:m.inns.length≤5) (h:((DX m e).2==0)=true) (hk:(e.kind==4)=true) (ht:(DX m e).1=t):iIn (IntKind.i64.wrap ((m.inns.length:Int) - 1)) (m.inns.length:Int)=true∧iIn (IntKind.i64.wrap ((m.inns.length:Int) - 1)) (t.inns.length:Int)=true:=by
 obtain ⟨_,h2,_,h4⟩:=Tu h hk
 have:=TF h2 (show m.inns.length≤1000000 by omega)
 rw [← ht,h4,List.length_set]
 exact ⟨this,this⟩
set_option maxHeartbeats 8000000 in
theorem aQ {N:Nat} {r1 r2 r3 r4 r5 r6 r7 r9 r10 r11 r12:Int} {r8:Bool} {r0:ByteArray} {r13:Rows} {L:Rows} (hN:2097152<N) (hs:r0.size≤1048576) (h13:r13.length≤1048576) (hL:L.length≤1048576):HB N [.str r0,.int r1,.int r2,.int r3,.int r4,.int r5,.int r6,.int r7,.bool r8,.int r9,.int r10,.int r11,.int r12,.rows r13,.rows L]=some (fX (Ee (⟨r0,r1,r2,r3,r4,r5,r6,r7,r8,r9,r10,r11,r12,r13⟩:Rul) L) (H3 (⟨r0,r1,r2,r3,r4,r5,r6,r7,r8,r9,r10,r11,r12,r13⟩:Rul) L)):=by
  show MG (std (Dn N) N) (xOf _)=_
  generalize hres:(some (fX (Ee (⟨r0,r1,r2,r3,r4,r5,r6,r7,r8,r9,r10,r11,r12,r13⟩:Rul) L) (H3 (⟨r0,r1,r2,r3,r4,r5,r6,r7,r8,r9,r10,r11,r12,r13⟩:Rul) L)):Option (List PV))=RR
  simp only [MG,UX,M9,I4,std,xOf,PXb,i7 hN hs h13]
  subst hres;simp only [Ee,H3]
  have nk:=jh (⟨r0,r1,r2,r3,r4,r5,r6,r7,r8,r9,r10,r11,r12,r13⟩:Rul)
  generalize AN (⟨r0,r1,r2,r3,r4,r5,r6,r7,r8,r9,r10,r11,r12,r13⟩:Rul)=X at nk
  obtain ⟨⟨⟨m0,m1,m2,m3,m4,m5,m6,m7,m8,m9,m10,m11,m12,m13⟩,m14,m15,m16,m17,m18,m19,m20,m21,m22⟩,l⟩:=X
  simp only at nk
  simp only [PXb,PXc,PXk,Nat.reduceAdd]
  cases hl:l==0
  case false=>rfl
  have ok:=nk hl
  simp only [PXb]
  refine Ab (dW (St:=Rows×Mat) (len:=L.length) (enc:=fun i s=>[.rows s.1,.int (i:Int),.str s.2.rules.name,.int s.2.rules.side,.int s.2.rules.innings,.int s.2.rules.overs,.int s.2.rules.balls,.int s.2.rules.quota,.int s.2.rules.wide,.int s.2.rules.noball,.bool s.2.rules.freehit,.int s.2.rules.newball,.int s.2.rules.followon,.int s.2.rules.reviews,.int s.2.rules.outside,.rows s.2.rules.power,.int s.2.stage,.int s.2.first,.bool s.2.follow,.rows (Ag s.2.inns),.int s.2.pen1,.int s.2.pen2,.int s.2.win,.int s.2.wside,.int s.2.margin])
    (body:=RE L) (fin:=fun s=>.int 1::.rows s.1::s.2.ls) (fun i s=>StepOk (⟨r0,r1,r2,r3,r4,r5,r6,r7,r8,r9,r10,r11,r12,r13⟩:Rul) s.2∧s.1.length≤i) ?_ ?_ L.length 0 ([],(⟨⟨m0,m1,m2,m3,m4,m5,m6,m7,m8,m9,m10,m11,m12,m13⟩,m14,m15,m16,m17,m18,m19,m20,m21,m22⟩:Mat)) N (by omega) (by omega) ⟨ok,Nat.zero_le _⟩) ?_
  · intro m self _
    simp only [PXb,PXc,PXn,AH,BC]
    rfl
  · intro i s self hi ok
    obtain ⟨out,⟨⟨a0,a1,a2,a3,a4,a5,a6,a7,a8,a9,a10,a11,a12,a13⟩,a14,a15,a16,a17,a18,a19,a20,a21,a22⟩⟩:=s
    obtain ⟨ok,hout⟩:=ok
    have o1:=ok.rules
    have o2:=ok.fit
    have o3:=ok.len
    simp only at o1 o2 o3 hout
    cases o1
    have kp:=gG ok (i:Int) (evR L i)
    have acc:=Zq (m:=(⟨⟨r0,r1,r2,r3,r4,r5,r6,r7,r8,r9,r10,r11,r12,r13⟩,a14,a15,a16,a17,a18,a19,a20,a21,a22⟩:Mat)) (i:=(i:Int)) (e:=evR L i)
    refine ⟨?_,?_⟩
    · simp only [PXb,PXc,PXn,AH,A6 (show i≤1099511627776 by omega),Ay hi,AR hi,M9,lG hN o2 (show a17.length≤1000000 by omega) hs h13,CT,cD,Nat.reduceAdd,PXk,PXc,sN,List.length_append,List.length_cons,List.length_nil,I4]
      unfold RE
      simp only
      generalize hT:Az (i:Int) (⟨⟨r0,r1,r2,r3,r4,r5,r6,r7,r8,r9,r10,r11,r12,r13⟩,a14,a15,a16,a17,a18,a19,a20,a21,a22⟩:Mat) (evR L i)=T at acc
      obtain ⟨⟨⟨b0,b1,b2,b3,b4,b5,b6,b7,b8,b9,b10,b11,b12,b13⟩,b14,b15,b16,b17,b18,b19,b20,b21,b22⟩,l2⟩:=T
      simp only at acc
      simp only
      cases hl2:l2==0
      case false=>rfl
      have hk0:(evR L i).kind=atI L i 0:=rfl
      rw [hk0]
      simp only [PXb]
      cases hk:atI L i 0==4
      case false=>rfl
      have ha:=(acc hl2).1
      have hd:=qg (m:=(⟨⟨r0,r1,r2,r3,r4,r5,r6,r7,r8,r9,r10,r11,r12,r13⟩,a14,a15,a16,a17,a18,a19,a20,a21,a22⟩:Mat)) (e:=evR L i) o3 (by rw [← ha];exact hl2) hk (congrArg Prod.fst ha).symm
      simp only at hd
      have h216:iSm ((out.length+1:Nat):Int) 216=true:=GE (by omega) (by omega)
      simp only [PXb,PXc,ai hd.1 hd.2,h216]
      rfl
    · intro s' h
      unfold RE at h
      simp only at h
      cases hq:(Az (i:Int) (⟨⟨r0,r1,r2,r3,r4,r5,r6,r7,r8,r9,r10,r11,r12,r13⟩,a14,a15,a16,a17,a18,a19,a20,a21,a22⟩:Mat) (evR L i)).2==0 with
      | false=>rw [hq] at h;cases h
      | true =>
        rw [hq] at h;cases h
        refine ⟨kp,?_⟩
        cases (evR L i).kind==4 with
        | false=>show out.length≤_;omega
        | true=>show (out++[_]).length≤_;rw [List.length_append];simp;omega
  · rw [cn]
    have he:=iI L L.length 0 (⟨⟨m0,m1,m2,m3,m4,m5,m6,m7,m8,m9,m10,m11,m12,m13⟩,m14,m15,m16,m17,m18,m19,m20,m21,m22⟩:Mat)
    simp only
    generalize Kl L L.length 0 (⟨⟨m0,m1,m2,m3,m4,m5,m6,m7,m8,m9,m10,m11,m12,m13⟩,m14,m15,m16,m17,m18,m19,m20,m21,m22⟩:Mat) []=out
    generalize HF L L.length 0 (⟨⟨m0,m1,m2,m3,m4,m5,m6,m7,m8,m9,m10,m11,m12,m13⟩,m14,m15,m16,m17,m18,m19,m20,m21,m22⟩:Mat)=f at he
    obtain ⟨⟨⟨a0,a1,a2,a3,a4,a5,a6,a7,a8,a9,a10,a11,a12,a13⟩,a14,a15,a16,a17,a18,a19,a20,a21,a22⟩,b,l⟩:=f
    simp only at he
    unfold kV
    cases hb:b == -1 with
    | false=>rfl
    | true =>
      rw [he hb,beq_iff_eq.1 hb]
      rfl
end Go.Px
end
section
namespace Go.Px
set_option maxRecDepth 100000
theorem iS {N:Nat} {r1 r2 r3 r4 r5 r6 r7 r9 r10 r11 r12:Int} {r8:Bool} {r0:ByteArray} {r13:Rows} {L:Rows} (hN:2097152<N) (hs:r0.size≤1048576) (h13:r13.length≤1048576) (hL:L.length≤1048576):JF N [.str r0,.int r1,.int r2,.int r3,.int r4,.int r5,.int r6,.int r7,.bool r8,.int r9,.int r10,.int r11,.int r12,.rows r13,.rows L]=some (oy (H3 (⟨r0,r1,r2,r3,r4,r5,r6,r7,r8,r9,r10,r11,r12,r13⟩:Rul) L)):=by
 show JC (std (Ec N) N) (xOf _)=_
 generalize hres:(some (oy (H3 (⟨r0,r1,r2,r3,r4,r5,r6,r7,r8,r9,r10,r11,r12,r13⟩:Rul) L)):Option (List PV))=RR
 simp only [JC,TH,std,xOf,PXb,aQ hN hs h13 hL]
 subst hres
 rfl
def BZ (r:Rul) (L:Rows):Int:=cond (!(BK r==0)) (BK r) (cond (iLt 4000 (L.length:Int)) 9 (cond (!((H3 r L).2.2==0)) 10 0))
theorem Sj {N:Nat} {r1 r2 r3 r4 r5 r6 r7 r9 r10 r11 r12:Int} {r8:Bool} {r0:ByteArray} {r13:Rows} {L:Rows} (hN:2097152<N) (hs:r0.size≤1048576) (h13:r13.length≤1048576) (hL:L.length≤1048576):Cm N [.str r0,.int r1,.int r2,.int r3,.int r4,.int r5,.int r6,.int r7,.bool r8,.int r9,.int r10,.int r11,.int r12,.rows r13,.rows L]=some [.int (BZ (⟨r0,r1,r2,r3,r4,r5,r6,r7,r8,r9,r10,r11,r12,r13⟩:Rul) L)]:=by
 show Kb (std (D5 N) N) (xOf _)=_
 generalize hres:(some [.int (BZ (⟨r0,r1,r2,r3,r4,r5,r6,r7,r8,r9,r10,r11,r12,r13⟩:Rul) L)]:Option (List PV))=RR
 simp only [Kb,RT,Sa,std,xOf,PXb,DE hN hs,iS hN hs h13 hL,PXm]
 subst hres;simp only [BZ]
 rfl
structure LogOk (m:Mat):Prop where
 fit:J0 m.inns
 len:m.inns.length≤5
 name:m.rules.name.size≤1048576
 power:m.rules.power.length≤1048576
end Go.Px
end
section
namespace Go.Px
set_option maxRecDepth 100000
def acc (L:Rows):Nat→Nat→Mat→Prop
 | 0,_,_=>True
 | k+1,i,m=>((Az i m (evR L i)).2==0)=true∧acc L k (i+1) (Az i m (evR L i)).1
def stM (L:Rows):Nat→Nat→Mat→Mat
 | 0,_,m=>m
 | k+1,i,m=>stM L k (i+1) (Az i m (evR L i)).1
def OC (L:Rows):Nat→Nat→Mat→Rows→Rows
 | 0,_,_,out=>out
 | k+1,i,m,out=>OC L k (i+1) (Az i m (evR L i)).1 (cond ((evR L i).kind==4) (out++[C7 i m (Az i m (evR L i)).1 (evR L i).ball]) out)
theorem UR (L : Rows) : ∀ K i m, ∃ k, k ≤ K ∧ acc L k i m ∧ (∀ out, Kl L K i m out = OC L k i m out) ∧
    ((k=K∧HF L K i m=(stM L k i m,-1,0))∨(k<K∧((Az ((i+k:Nat):Int) (stM L k i m) (evR L (i+k))).2==0)=false∧HF L K i m=(stM L k i m,((i+k:Nat):Int),(Az ((i+k:Nat):Int) (stM L k i m) (evR L (i+k))).2)))
  | 0,i,m=>⟨0,Nat.le_refl _,trivial,fun _=>rfl,Or.inl ⟨rfl,rfl⟩⟩
  | K+1,i,m=>by
    cases hq:(Az i m (evR L i)).2==0 with
    | false =>
      refine ⟨0,Nat.zero_le _,trivial,fun out=>?_,Or.inr ⟨Nat.succ_pos _,hq,?_⟩⟩
      · simp only [Kl,hq,Bool.not_false,cond_true];rfl
      · simp only [HF,hq,Bool.not_false,cond_true];rfl
    | true =>
      obtain ⟨k,h1,h2,h3,h4⟩:=UR L K (i+1) (Az i m (evR L i)).1
      refine ⟨k+1,Nat.succ_le_succ h1,⟨hq,h2⟩,fun out=>?_,?_⟩
      · simp only [Kl,hq,Bool.not_true,cond_false]
        exact h3 _
      · have e:HF L (K+1) i m=HF L K (i+1) (Az i m (evR L i)).1:=by simp only [HF,hq,Bool.not_true,cond_false]
        rw [e,show i+(k+1)=i+1+k by omega]
        rcases h4 with ⟨h5,h6⟩ | ⟨h5,h6⟩
        · exact Or.inl ⟨by omega,h6⟩
        · exact Or.inr ⟨by omega,h6⟩
theorem oC (r:Rul):((AN r).2==0)=(BK r==0):=by
 unfold AN
 cases h:BK r==0 with
 | false=>exact h
 | true=>rfl
theorem YN {L:Rows}:∀ k i m,stM L (k+1) i m=(Az ((i+k:Nat):Int) (stM L k i m) (evR L (i+k))).1
 | 0,i,m=>rfl
 | k+1,i,m=>by
  show stM L (k+1) (i+1) _=_
  rw [YN k (i+1),show i+1+k=i+(k+1) by omega]
  rfl
end Go.Px
end
section
namespace Go.Px
set_option maxRecDepth 100000
theorem Tc {L:Rows}:∀ k i m,acc L k i m→∀ j,j<k→((Az ((i+j:Nat):Int) (stM L j i m) (evR L (i+j))).2==0)=true
 | 0,_,_,_,j,h=>absurd h (Nat.not_lt_zero j)
 | k+1,i,m,ha,0,_=>ha.1
 | k+1,i,m,ha,j+1,h=>by
  have:=Tc k (i+1) _ ha.2 j (by omega)
  rw [show i+1+j=i+(j+1) by omega] at this
  exact this
theorem lE (r:Rul) (L:Rows):(Ee r L).length≤L.length:=by
 unfold Ee
 cases (AN r).2==0 with
 | false=>exact Nat.zero_le _
 | true =>
  have:=fR L L.length 0 (AN r).1 []
  rw [List.length_nil,Nat.zero_add] at this
  exact this
end Go.Px
end
section
namespace Go.Px
set_option maxRecDepth 100000
abbrev wr (n:Int):Int:=IntKind.i64.wrap n
structure Nums (q:Int) (s t:Inn) (a b c:Int):Prop where
 runs:wr (t.runs - t.pens)=wr (s.runs - s.pens+a)
 rw:wr s.runs=s.runs→wr t.runs=t.runs
 balls:CX q t.complete t.inover=wr (s.complete * q+s.inover+b)
 wk:wr t.wickets=wr (s.wickets+c)
theorem Q3 (q c i:Int):CX q c i=wr (c * q+i):=by
 unfold CX
 simp only [wr,Nk]
 omega
theorem Nums.of {q:Int} {s t:Inn} (h1:t.runs=s.runs) (h2:t.pens=s.pens) (h3:t.complete=s.complete) (h4:t.inover=s.inover) (h5:t.wickets=s.wickets):Nums q s t 0 0 0 :=
 ⟨by rw [h1,h2,Int.add_zero],fun h=>by rw [h1];exact h,by rw [h3,h4,Q3,Int.add_zero],by rw [h5,Int.add_zero]⟩
theorem Nums.out {q:Int} {s t:Inn} (h1:t.runs=s.runs) (h2:t.pens=s.pens) (h3:t.complete=s.complete) (h4:t.inover=s.inover) (h5:t.wickets=wr (s.wickets+1)):Nums q s t 0 0 1 :=
 ⟨by rw [h1,h2,Int.add_zero],fun h=>by rw [h1];exact h,by rw [h3,h4,Q3,Int.add_zero],by rw [h5];exact G1 _⟩
theorem Nums.pen (q:Int) (s:Inn):Nums q s (PH s) 0 0 0 :=
 ⟨by show wr (wr (s.runs+5) - wr (s.pens+5))=_;simp only [wr,Nk];omega,fun _=>G1 _,by show CX q s.complete s.inover=_;rw [Q3,Int.add_zero],by show wr s.wickets=_;rw [Int.add_zero]⟩
def B4 (e:Ev):Int:=cond ((e.kind==5&&e.yes)||(e.kind==6 && !e.yes)) 1 0
theorem Nums.fin {q:Int} {s t:Inn} {a b c:Int} (h:Nums q s t a b c) (r:Rul) (x:Bool):Nums q s (Bt r t x) a b c:=⟨h.runs,h.rw,h.balls,h.wk⟩
def HX (e:Ev):Int:=cond (e.kind==4) (cond (e.ball.how==0) 0 1) (B4 e)
structure SumInv (q:Int) (xs:List Inn) (R B:Nat→Int) (O:Int):Prop where
 runs:∀ i,i<xs.length→wr ((inn xs i).runs - (inn xs i).pens)=wr (R i)
 rw:∀ i,i<xs.length→wr (inn xs i).runs=(inn xs i).runs
 balls:∀ i,i<xs.length→CX q (inn xs i).complete (inn xs i).inover=wr (B i)
 zero:∀ i,xs.length≤i→R i=0∧B i=0
 wk:wr (xs.map Inn.wickets).sum=wr O
theorem SumInv.congr {q:Int} {xs:List Inn} {R B R' B':Nat→Int} {O O':Int} (h:SumInv q xs R B O) (h1:∀ i,R i=R' i) (h2:∀ i,B i=B' i) (h3:O=O'):SumInv q xs R' B' O' :=
 ⟨fun i hi=>(h.runs i hi).trans (by rw [h1]),h.rw,fun i hi=>(h.balls i hi).trans (by rw [h2]),fun i hi=>by rw [← h1,← h2];exact h.zero i hi,h.wk.trans (by rw [h3])⟩
def rT (L:Rows) (j:Nat):Int:=DK ⟨atI L j 20,atI L j 21,atI L j 22,atI L j 23,atI L j 24,atI L j 25,atB L j 26,atB L j 27,atB L j 28,atB L j 29⟩
def rS (L:Rows) (i:Nat):Nat→Int
 | 0=>0
 | n+1=>rS L i n+cond (atI L n 1==(i:Int)) (rT L n) 0
def bS (L:Rows) (i:Nat):Nat→Int
 | 0=>0
 | n+1=>bS L i n+cond (atI L n 1==(i:Int)&&atB L n 26) 1 0
def hS (L:Rows):Nat→Int
 | 0=>0
 | n+1=>hS L n+cond (atI L n 14==0) 0 1
end Go.Px
end
