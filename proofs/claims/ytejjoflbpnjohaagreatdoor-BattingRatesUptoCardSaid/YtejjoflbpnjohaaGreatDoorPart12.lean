/- Part 12. -/
import Derived.Test.YtejjoflbpnjohaaGreatDoorPart08
import Derived.Test.YtejjoflbpnjohaaGreatDoorPart11
set_option linter.unusedVariables false
set_option linter.unusedSimpArgs false
variable {r1 r2 r3 r4 r5 r6 r7 r9 r10 r11 r12:Int}
variable {m1 m2 m3 m4 m5 m6 m7 m9 m10 m11 m12 m14 m15 m18 m19 m20 m21 m22:Int}
section
namespace Go.Px
def Ai (xs:List Inn):Rows:=xs.map Inn.ls
def dI:Inn:=⟨0,0,0,0,0,0,0,0,0,0,0,0,0,0,[],0,[],[],false,[],false,0,0,0,[],0,0,0⟩
def inn (xs:List Inn) (i:Nat):Inn:=xs.getD i dI
structure Mat where
 rules:Rul
 stage:Int
 first:Int
 follow:Bool
 inns:List Inn
 pen1:Int
 pen2:Int
 win:Int
 wside:Int
 margin:Int
def Mat.ls (m:Mat):List PV:=[.str m.rules.name,.int m.rules.side,.int m.rules.innings,.int m.rules.overs,.int m.rules.balls,.int m.rules.quota,.int m.rules.wide,.int m.rules.noball,.bool m.rules.freehit,.int m.rules.newball,.int m.rules.followon,.int m.rules.reviews,.int m.rules.outside,.rows m.rules.power,.int m.stage,.int m.first,.bool m.follow,.rows (Ai m.inns),.int m.pen1,.int m.pen2,.int m.win,.int m.wside,.int m.margin]
def UN (x:Mat×Int):List PV:=[.str x.1.rules.name,.int x.1.rules.side,.int x.1.rules.innings,.int x.1.rules.overs,.int x.1.rules.balls,.int x.1.rules.quota,.int x.1.rules.wide,.int x.1.rules.noball,.bool x.1.rules.freehit,.int x.1.rules.newball,.int x.1.rules.followon,.int x.1.rules.reviews,.int x.1.rules.outside,.rows x.1.rules.power,.int x.1.stage,.int x.1.first,.bool x.1.follow,.rows (Ai x.1.inns),.int x.1.pen1,.int x.1.pen2,.int x.1.win,.int x.1.wside,.int x.1.margin,.int x.2]
theorem cN (xs:List Inn) (i:Nat):Ac (Ai xs) i=(match xs[i]? with | some s=>s.ls | none=>[]):=by
 unfold Ac Ai;rw [zzk,List.getElem?_map];cases xs[i]?<;>rfl
theorem Mm (xs:List Inn) (i:Nat):inn xs i=(match xs[i]? with | some s=>s | none=>dI):=by
 unfold inn;rw [zzk];cases xs[i]?<;>rfl
theorem Ys (xs:List Inn):(Ai xs).length=xs.length:=List.length_map _
theorem PXi : (∀ xs : List Inn, (Ai xs).length = xs.length) ∧ (∀ (xs : List Inn) (i : Nat), pvI (AG (Ai xs) i 0) = (inn xs i).side) ∧ (∀ (xs : List Inn) (i : Nat), pvI (AG (Ai xs) i 1) = (inn xs i).target) ∧ (∀ (xs : List Inn) (i : Nat), pvI (AG (Ai xs) i 2) = (inn xs i).overs) ∧ (∀ (xs : List Inn) (i : Nat), pvI (AG (Ai xs) i 3) = (inn xs i).runs) ∧
    (∀ (xs:List Inn) (i:Nat),pvI (AG (Ai xs) i 4)=(inn xs i).wickets)∧(∀ (xs:List Inn) (i:Nat),pvI (AG (Ai xs) i 5)=(inn xs i).wides)∧(∀ (xs:List Inn) (i:Nat),pvI (AG (Ai xs) i 6)=(inn xs i).noballs)∧(∀ (xs:List Inn) (i:Nat),pvI (AG (Ai xs) i 7)=(inn xs i).byes)∧(∀ (xs:List Inn) (i:Nat),pvI (AG (Ai xs) i 8)=(inn xs i).legbyes) ∧
    (∀ (xs:List Inn) (i:Nat),pvI (AG (Ai xs) i 9)=(inn xs i).pens)∧(∀ (xs:List Inn) (i:Nat),pvI (AG (Ai xs) i 10)=(inn xs i).complete)∧(∀ (xs:List Inn) (i:Nat),pvI (AG (Ai xs) i 11)=(inn xs i).inover)∧(∀ (xs:List Inn) (i:Nat),pvI (AG (Ai xs) i 12)=(inn xs i).striker)∧(∀ (xs:List Inn) (i:Nat),pvI (AG (Ai xs) i 13)=(inn xs i).other) ∧
    (∀ (xs:List Inn) (i:Nat),pvL (AG (Ai xs) i 14)=(inn xs i).batters)∧(∀ (xs:List Inn) (i:Nat),pvI (AG (Ai xs) i 15)=(inn xs i).bowler)∧(∀ (xs:List Inn) (i:Nat),pvL (AG (Ai xs) i 16)=(inn xs i).bowlers)∧(∀ (xs:List Inn) (i:Nat),pvL (AG (Ai xs) i 17)=(inn xs i).before)∧(∀ (xs:List Inn) (i:Nat),pvB (AG (Ai xs) i 18)=(inn xs i).fresh) ∧
    (∀ (xs:List Inn) (i:Nat),pvL (AG (Ai xs) i 19)=(inn xs i).bowled)∧(∀ (xs:List Inn) (i:Nat),pvB (AG (Ai xs) i 20)=(inn xs i).freehit)∧(∀ (xs:List Inn) (i:Nat),pvI (AG (Ai xs) i 21)=(inn xs i).ballage)∧(∀ (xs:List Inn) (i:Nat),pvI (AG (Ai xs) i 22)=(inn xs i).keeper)∧(∀ (xs:List Inn) (i:Nat),pvI (AG (Ai xs) i 23)=(inn xs i).outside) ∧
    (∀ (xs:List Inn) (i:Nat),pvL (AG (Ai xs) i 24)=(inn xs i).subs)∧(∀ (xs:List Inn) (i:Nat),pvI (AG (Ai xs) i 25)=(inn xs i).rev1)∧(∀ (xs:List Inn) (i:Nat),pvI (AG (Ai xs) i 26)=(inn xs i).rev2)∧(∀ (xs:List Inn) (i:Nat),pvI (AG (Ai xs) i 27)=(inn xs i).ending):=by
  refine ⟨Ys,?_,?_,?_,?_,?_,?_,?_,?_,?_,?_,?_,?_,?_,?_,?_,?_,?_,?_,?_,?_,?_,?_,?_,?_,?_,?_,?_,?_⟩
  all_goals (intro xs i;rw [Mm];unfold AG;rw [cN];cases xs[i]?<;>rfl)
theorem Mat.eta (m:Mat):Mat.mk m.rules m.stage m.first m.follow m.inns m.pen1 m.pen2 m.win m.wside m.margin=m:=rfl
theorem PXk : (∀ m : Mat, m.ls = [.str m.rules.name, .int m.rules.side, .int m.rules.innings, .int m.rules.overs, .int m.rules.balls, .int m.rules.quota, .int m.rules.wide, .int m.rules.noball, .bool m.rules.freehit, .int m.rules.newball, .int m.rules.followon, .int m.rules.reviews, .int m.rules.outside, .rows m.rules.power, .int m.stage, .int m.first, .bool m.follow, .rows (Ai m.inns), .int m.pen1, .int m.pen2, .int m.win, .int m.wside, .int m.margin]) ∧
    (∀ x:Mat×Int,UN x=[.str x.1.rules.name,.int x.1.rules.side,.int x.1.rules.innings,.int x.1.rules.overs,.int x.1.rules.balls,.int x.1.rules.quota,.int x.1.rules.wide,.int x.1.rules.noball,.bool x.1.rules.freehit,.int x.1.rules.newball,.int x.1.rules.followon,.int x.1.rules.reviews,.int x.1.rules.outside,.rows x.1.rules.power,.int x.1.stage,.int x.1.first,.bool x.1.follow,.rows (Ai x.1.inns),.int x.1.pen1,.int x.1.pen2,.int x.1.win,.int x.1.wside,.int x.1.margin,.int x.2]) ∧
    (∀ m:Mat,Mat.mk m.rules m.stage m.first m.follow m.inns m.pen1 m.pen2 m.win m.wside m.margin=m):=⟨fun _=>rfl,fun _=>rfl,fun _=>rfl⟩
theorem km:∀ (ps r pre:List PV),r.length=ps.length→A9 (pre++r) pre.length ps=pre++ps
 | [],r,pre,h=>by
  have:r=[]:=List.eq_nil_of_length_eq_zero h;subst this;rfl
 | p::ps,[],pre,h=>by cases h
 | p::ps,a::r,pre,h=>by
  have ih:=km ps r (pre++[p]) (by simpa using h);simp only [List.length_append,List.length_cons,List.length_nil,List.append_assoc,List.cons_append,List.nil_append] at ih;unfold A9;rw [List.set_append_right _ _ (Nat.le_refl _),Nat.sub_self];exact ih
theorem rx (a s:Inn):A9 a.ls 0 s.ls=s.ls:=km s.ls a.ls [] rfl
theorem rH (a:Inn) (e:Int):A9 a.ls 27 [.int e]=Inn.ls { a with ending:=e }:=by
 show a.ls.set 27 (.int e)=_;rfl
theorem qp {xs:List Inn} {i:Nat} (h:i<xs.length) (s:Inn):(Ai xs).set i (A9 (Ac (Ai xs) i) 0 s.ls)=Ai (xs.set i s):=by
 have e:Ac (Ai xs) i=(xs[i]).ls:=by rw [cN,zzn h]
 rw [e,rx];exact List.map_set.symm
theorem qq {xs:List Inn} {i:Nat} (h:i<xs.length) (e:Int):(Ai xs).set i (A9 (Ac (Ai xs) i) 27 [.int e])=Ai (xs.set i { inn xs i with ending:=e }):=by
 have e1:Ac (Ai xs) i=(inn xs i).ls:=by rw [cN,Mm,zzn h]
 rw [e1,rH];exact List.map_set.symm
theorem rF (xs:List Inn) (s:Inn):Ai xs++[s.ls]=Ai (xs++[s]):=by
 show List.map Inn.ls xs++List.map Inn.ls [s]=List.map Inn.ls (xs++[s]);exact List.map_append.symm
theorem rX (xs:List Inn) (i:Nat) (s:Inn):(Ai xs).set i (A9 (Ac (Ai xs) i) 0 s.ls)=Ai (xs.set i s):=by
 by_cases h:i<xs.length
 ·exact qp h s
 ·rw [List.set_eq_of_length_le (by rw [Ys];omega),List.set_eq_of_length_le (by omega)]
theorem ji (xs:List Inn) (i:Nat) (e:Int):(Ai xs).set i (A9 (Ac (Ai xs) i) 27 [.int e])=Ai (xs.set i { inn xs i with ending:=e }):=by
 by_cases h:i<xs.length
 ·exact qq h e
 ·rw [List.set_eq_of_length_le (by rw [Ys];omega),List.set_eq_of_length_le (by omega)]
theorem PXr : (∀ (xs : List Inn) (x0 x1 x2 x3 x4 x5 x6 x7 x8 x9 x10 x11 x12 x13 x15 x21 x22 x23 x25 x26 x27 : Int) (x18 x20 : Bool) (x14 x16 x17 x19 x24 : Rows), Ai xs ++ [([.int x0, .int x1, .int x2, .int x3, .int x4, .int x5, .int x6, .int x7, .int x8, .int x9, .int x10, .int x11, .int x12, .int x13, .rows x14, .int x15, .rows x16, .rows x17, .bool x18, .rows x19, .bool x20, .int x21, .int x22, .int x23, .rows x24, .int x25, .int x26, .int x27] : List PV)] = Ai (xs ++ [⟨x0, x1, x2, x3, x4, x5, x6, x7, x8, x9, x10, x11, x12, x13, x14, x15, x16, x17, x18, x19, x20, x21, x22, x23, x24, x25, x26, x27⟩])) ∧ (∀ (xs : List Inn) (i : Nat) (x0 x1 x2 x3 x4 x5 x6 x7 x8 x9 x10 x11 x12 x13 x15 x21 x22 x23 x25 x26 x27 : Int) (x18 x20 : Bool) (x14 x16 x17 x19 x24 : Rows), (Ai xs).set i (A9 (Ac (Ai xs) i) 0 [.int x0, .int x1, .int x2, .int x3, .int x4, .int x5, .int x6, .int x7, .int x8, .int x9, .int x10, .int x11, .int x12, .int x13, .rows x14, .int x15, .rows x16, .rows x17, .bool x18, .rows x19, .bool x20, .int x21, .int x22, .int x23, .rows x24, .int x25, .int x26, .int x27]) = Ai (xs.set i ⟨x0, x1, x2, x3, x4, x5, x6, x7, x8, x9, x10, x11, x12, x13, x14, x15, x16, x17, x18, x19, x20, x21, x22, x23, x24, x25, x26, x27⟩)) ∧
    (∀ (xs:List Inn) (i:Nat) (e:Int),(Ai xs).set i (A9 (Ac (Ai xs) i) 27 [.int e])=Ai (xs.set i { inn xs i with ending:=e })) :=
  ⟨fun xs x0 x1 x2 x3 x4 x5 x6 x7 x8 x9 x10 x11 x12 x13 x15 x21 x22 x23 x25 x26 x27 x18 x20 x14 x16 x17 x19 x24=>rF xs ⟨x0,x1,x2,x3,x4,x5,x6,x7,x8,x9,x10,x11,x12,x13,x14,x15,x16,x17,x18,x19,x20,x21,x22,x23,x24,x25,x26,x27⟩,fun xs i x0 x1 x2 x3 x4 x5 x6 x7 x8 x9 x10 x11 x12 x13 x15 x21 x22 x23 x25 x26 x27 x18 x20 x14 x16 x17 x19 x24=>rX xs i ⟨x0,x1,x2,x3,x4,x5,x6,x7,x8,x9,x10,x11,x12,x13,x14,x15,x16,x17,x18,x19,x20,x21,x22,x23,x24,x25,x26,x27⟩,ji⟩
set_option maxRecDepth 100000
def CK (n:Int):Int:=IntKind.i64.wrap (3 - n)
theorem Hw {N:Nat} {n:Int}  : BJ N [.int n]=some [.int (CK n)]:=by
 show Ki (std (SK N) N) (xOf _)=_;simp only [Ki,lq9,std,xOf,PXb,PXc,PXn,PXm,Nat.reduceAdd,Int.reduceBEq,CK]
def Cx (m:Mat) (i:Int):Int:=cond (cond (m.follow&&iLe 2 i) (i==2) (i.tmod 2==1)) (CK m.first) m.first
theorem O1 {N:Nat} {m8 m16:Bool} {m0:ByteArray} {m13:Rows} {m17:List Inn} {i:Int}  : C1 N [.str m0,.int m1,.int m2,.int m3,.int m4,.int m5,.int m6,.int m7,.bool m8,.int m9,.int m10,.int m11,.int m12,.rows m13,.int m14,.int m15,.bool m16,.rows (Ai m17),.int m18,.int m19,.int m20,.int m21,.int m22,.int i]=some [.int (Cx (⟨⟨m0,m1,m2,m3,m4,m5,m6,m7,m8,m9,m10,m11,m12,m13⟩,m14,m15,m16,m17,m18,m19,m20,m21,m22⟩:Mat) i)]:=by
 show Kj (std (L2 N) N) (xOf _)=_;generalize hres:(some [.int (Cx (⟨⟨m0,m1,m2,m3,m4,m5,m6,m7,m8,m9,m10,m11,m12,m13⟩,m14,m15,m16,m17,m18,m19,m20,m21,m22⟩:Mat) i)]:Option (List PV))=RR;simp only [Kj,Pn,lq9,std,xOf,PXb,PXc,PXn,PXm,Nat.reduceAdd,Int.reduceBEq,Hw];subst hres;simp only [Cx]
def Ox (xs:List Inn) (side:Int):Nat→Int
 | 0=>0
 | i+1=>cond ((inn xs i).side==side) (IntKind.i64.wrap (Ox xs side i+(inn xs i).runs)) (Ox xs side i)
def B6 (m:Mat) (side:Int):Int:=Ox m.inns side m.inns.length
theorem O7 {N:Nat} {m8 m16:Bool} {m0:ByteArray} {m13:Rows} {m17:List Inn} {n:Int} (hN:2097152<N) (hl:m17.length≤1048576):Bo N [.str m0,.int m1,.int m2,.int m3,.int m4,.int m5,.int m6,.int m7,.bool m8,.int m9,.int m10,.int m11,.int m12,.rows m13,.int m14,.int m15,.bool m16,.rows (Ai m17),.int m18,.int m19,.int m20,.int m21,.int m22,.int n]=some [.int (B6 (⟨⟨m0,m1,m2,m3,m4,m5,m6,m7,m8,m9,m10,m11,m12,m13⟩,m14,m15,m16,m17,m18,m19,m20,m21,m22⟩:Mat) n)]:=by
 show Ko (std (Rv N) N) (xOf _)=_;generalize hres:(some [.int (B6 (⟨⟨m0,m1,m2,m3,m4,m5,m6,m7,m8,m9,m10,m11,m12,m13⟩,m14,m15,m16,m17,m18,m19,m20,m21,m22⟩:Mat) n)]:Option (List PV))=RR;simp only [Ko,lq9,std,xOf,PXb,PXi];subst hres;simp only [B6];refine Ab (Cu (len:=m17.length) (fun i=>[.int (Ox m17 n i),.int (i:Int)]) [.int (Ox m17 n m17.length)] ?_ ?_ N (by omega)) rfl
 ·intro self;simp only [PXb,PXc,PXn,AF,BE]
 ·intro i self hi;simp only [PXb,PXc,AF,BD (show i≤1099511627776 by omega),A5 hi,AY hi,PXi,Ox];cases (inn m17 i).side==n<;>rfl
def Gy (m:Mat) (side:Int):Int :=
 cond (iLt (IntKind.i64.wrap ((m.inns.length:Int)+1)) (IntKind.i64.wrap (2 * m.rules.innings))) 0 (IntKind.i64.wrap (IntKind.i64.wrap (B6 m (CK side) - B6 m side)+1))
theorem TH {N:Nat} {m8 m16:Bool} {m0:ByteArray} {m13:Rows} {m17:List Inn} {n:Int} (hN:2097152<N) (hl:m17.length≤1048576):Gj N [.str m0,.int m1,.int m2,.int m3,.int m4,.int m5,.int m6,.int m7,.bool m8,.int m9,.int m10,.int m11,.int m12,.rows m13,.int m14,.int m15,.bool m16,.rows (Ai m17),.int m18,.int m19,.int m20,.int m21,.int m22,.int n]=some [.int (Gy (⟨⟨m0,m1,m2,m3,m4,m5,m6,m7,m8,m9,m10,m11,m12,m13⟩,m14,m15,m16,m17,m18,m19,m20,m21,m22⟩:Mat) n)]:=by
 show Jk (std (Ha N) N) (xOf _)=_;generalize hres:(some [.int (Gy (⟨⟨m0,m1,m2,m3,m4,m5,m6,m7,m8,m9,m10,m11,m12,m13⟩,m14,m15,m16,m17,m18,m19,m20,m21,m22⟩:Mat) n)]:Option (List PV))=RR;simp only [Jk,Oy,PF,lq9,std,xOf,PXb,PXc,PXn,PXm,Nat.reduceAdd,Int.reduceBEq,PXi,Hw,O7 hN hl];subst hres;simp only [Gy]
def aR (stage:Int) (xs:List Inn) (i:Nat):Bool := !(((inn xs i).ending==0)==(stage==3&&((i:Int)==IntKind.i64.wrap ((xs.length:Int) - 1))))
def WX (m:Mat):Bool := !Bf (aR m.stage m.inns) m.inns.length 0&&(!(m.stage==3)||iLt 0 (m.inns.length:Int))
theorem eg {N:Nat} {m8 m16:Bool} {m0:ByteArray} {m13:Rows} {m17:List Inn} (hN:2097152<N) (hl:m17.length≤1048576):Hx N [.str m0,.int m1,.int m2,.int m3,.int m4,.int m5,.int m6,.int m7,.bool m8,.int m9,.int m10,.int m11,.int m12,.rows m13,.int m14,.int m15,.bool m16,.rows (Ai m17),.int m18,.int m19,.int m20,.int m21,.int m22]=some [.bool (WX (⟨⟨m0,m1,m2,m3,m4,m5,m6,m7,m8,m9,m10,m11,m12,m13⟩,m14,m15,m16,m17,m18,m19,m20,m21,m22⟩:Mat))]:=by
 show Ke (std (Rq N) N) (xOf _)=_;generalize hres:(some [.bool (WX (⟨⟨m0,m1,m2,m3,m4,m5,m6,m7,m8,m9,m10,m11,m12,m13⟩,m14,m15,m16,m17,m18,m19,m20,m21,m22⟩:Mat))]:Option (List PV))=RR;simp only [Ke,lq9,std,xOf,PXb,PXi];subst hres;simp only [WX];refine Ab (LP (len:=m17.length) (aR m14 m17) [.bool false] ?_ ?_ N (by omega)) ?_
 ·intro self;simp only [PXb,PXc,PXn,AF,BE]
 ·intro i self hi;simp only [PXb,PXc,AF,BD (show i≤1099511627776 by omega),A5 hi,AY hi,PXi,aR]
 ·cases Bf (aR m14 m17) m17.length 0 with
  | true=>rfl
  | false=>simp only [PXb,PXc,PXn,PXm,Nat.reduceAdd,Int.reduceBEq]
def J2 (xs:List Inn):Prop:=∀ i,i<xs.length→(inn xs i).Fit
theorem VT {N:Nat} {r8:Bool} {r0:ByteArray} {r13:Rows} (hl:r13.length≤1048576):C3 N [.str r0,.int r1,.int r2,.int r3,.int r4,.int r5,.int r6,.int r7,.bool r8,.int r9,.int r10,.int r11,.int r12,.rows r13]=some [.str r0,.int r1,.int r2,.int r3,.int r4,.int r5,.int r6,.int r7,.bool r8,.int r9,.int r10,.int r11,.int r12,.rows r13]:=by
 show K5 (std (Mj N) N) (xOf _)=_;simp only [K5,LE,lq9,std,xOf,PXb,PXc,PXn,PXm,Nat.reduceAdd,Int.reduceBEq,Ct,BZ hl (show 24≤4096 by omega)]
theorem ez {xs:List Inn} {i:Nat} (h:i<xs.length):xs.take i++[inn xs i]=xs.take (i+1):=by
 rw [List.take_add_one,Mm,zzn h];rfl
theorem ej {N:Nat} {m8 m16:Bool} {m0:ByteArray} {m13:Rows} {m17:List Inn} (hf:J2 m17) (hN:2097152<N) (hl:m17.length≤1000000) (h13:m13.length≤1048576):Hd N [.str m0,.int m1,.int m2,.int m3,.int m4,.int m5,.int m6,.int m7,.bool m8,.int m9,.int m10,.int m11,.int m12,.rows m13,.int m14,.int m15,.bool m16,.rows (Ai m17),.int m18,.int m19,.int m20,.int m21,.int m22]=some [.str m0,.int m1,.int m2,.int m3,.int m4,.int m5,.int m6,.int m7,.bool m8,.int m9,.int m10,.int m11,.int m12,.rows m13,.int m14,.int m15,.bool m16,.rows (Ai m17),.int m18,.int m19,.int m20,.int m21,.int m22]:=by
 show Kn (std (IP N) N) (xOf _)=_;simp only [Kn,QB,G1,lq9,std,xOf,PXb,VT h13,PXi];refine Ab (Cu (len:=m17.length) (fun i=>[.rows (Ai (m17.take i)),.int (i:Int)]) [.rows (Ai m17)] ?_ ?_ N (by omega)) rfl
 ·intro self;simp only [PXb,PXc,PXn,AF,BE,List.take_length]
 ·intro i self hi;have h2:(m17.take (i+1)).length≤1048576:=by rw [List.length_take];omega
  have h3:iSm ((m17.take (i+1)).length:Int) 304=true:=ID (by omega) (by omega);simp only [PXb,PXc,AF,BD (show i≤1099511627776 by omega),A5 hi,AY hi,PXi,G1,B3 (hf i hi),PXr,Inn.eta,h3,ez hi,Nat.reduceAdd];rfl
def tM:Rul:=⟨⟨#[]⟩,0,0,0,0,0,0,0,false,0,0,0,0,[]⟩
def qQ:Mat:=⟨tM,0,0,false,[],0,0,0,0,0⟩
def AZ (r:Rul):Mat×Int:=cond (!(BF r==0)) (qQ,BF r) (⟨r,1,0,false,[],0,0,0,0,0⟩,0)
theorem jb {N:Nat} {r8:Bool} {r0:ByteArray} {r13:Rows} (hN:2097152<N) (hs:r0.size≤1048576) (h13:r13.length≤1048576):N0 N [.str r0,.int r1,.int r2,.int r3,.int r4,.int r5,.int r6,.int r7,.bool r8,.int r9,.int r10,.int r11,.int r12,.rows r13]=some (UN (AZ (⟨r0,r1,r2,r3,r4,r5,r6,r7,r8,r9,r10,r11,r12,r13⟩:Rul))):=by
 show OE (std (Kk N) N) (xOf _)=_;generalize hres:(some (UN (AZ (⟨r0,r1,r2,r3,r4,r5,r6,r7,r8,r9,r10,r11,r12,r13⟩:Rul))):Option (List PV))=RR;simp only [OE,Ra,RX,lq9,std,xOf,PXb,PXc,PXn,PXm,Nat.reduceAdd,Int.reduceBEq,C2 hN hs,VT h13];subst hres;simp only [AZ];cases BF (⟨r0,r1,r2,r3,r4,r5,r6,r7,r8,r9,r10,r11,r12,r13⟩:Rul)==0<;>rfl
def Z5 (m:Mat):Bool:=(iLt m.pen1 0||iLt 1000000 m.pen1)||(iLt m.pen2 0||iLt 1000000 m.pen2)
def V6 (m:Mat) (i:Nat):Bool := !GQ m.rules (inn m.inns i) || !((inn m.inns i).side==Cx m (i:Int))
def fE (m:Mat):Bool :=
  let n:Int:=m.inns.length
  let most:=IntKind.i64.wrap (2 * m.rules.innings)
  BF m.rules==0&&(!(iLt m.stage 1)&&(!(iLt 5 m.stage)&&(!Z5 m&&(!(iLt m.first 0||iLt 2 m.first||iLt most n)&&(!(m.first==0&&(iLt 0 n||(!(m.stage==1) && !(m.stage==5)))) &&
    (!(m.stage==1 && !(m.first==0))&&(!(m.stage==2&&n==most)&&(!(m.stage==4&&(!(m.rules.innings==2) || !(n==2))) && !(m.follow&&(!(m.rules.innings==2)||iLt n 2))))))))))
def FP (m:Mat):Bool:=fE m&&(!Bf (V6 m) m.inns.length 0&&WX m)
set_option maxHeartbeats 4000000 in
theorem Ve {N:Nat} {m8 m16:Bool} {m0:ByteArray} {m13:Rows} {m17:List Inn} (hf:J2 m17) (hN:2097152<N) (hl:m17.length≤1000000) (hs:m0.size≤1048576):C4 N [.str m0,.int m1,.int m2,.int m3,.int m4,.int m5,.int m6,.int m7,.bool m8,.int m9,.int m10,.int m11,.int m12,.rows m13,.int m14,.int m15,.bool m16,.rows (Ai m17),.int m18,.int m19,.int m20,.int m21,.int m22]=some [.bool (FP (⟨⟨m0,m1,m2,m3,m4,m5,m6,m7,m8,m9,m10,m11,m12,m13⟩,m14,m15,m16,m17,m18,m19,m20,m21,m22⟩:Mat))]:=by
 show Kt (std (Dr N) N) (xOf _)=_;generalize hres:(some [.bool (FP (⟨⟨m0,m1,m2,m3,m4,m5,m6,m7,m8,m9,m10,m11,m12,m13⟩,m14,m15,m16,m17,m18,m19,m20,m21,m22⟩:Mat))]:Option (List PV))=RR;simp only [Kt,Pw,G8,Id,IK,lq9,std,xOf,PXb,C2 hN hs,PXi];subst hres;simp only [FP,fE];cases hc:BF (⟨⟨m0,m1,m2,m3,m4,m5,m6,m7,m8,m9,m10,m11,m12,m13⟩,m14,m15,m16,m17,m18,m19,m20,m21,m22⟩:Mat).rules==0<;>(try rfl);cases h1:iLt m14 1<;>(try rfl);cases h5:iLt 5 m14<;>(try rfl);simp only [PXb];refine Ab (LP (len:=2) (fun i=>iLt (cond ((i:Int)==1) m19 m18) 0||iLt 1000000 (cond ((i:Int)==1) m19 m18)) [.bool false] ?_ ?_ N (by omega)) ?_
 ·intro self;rfl
 ·intro i self hi;simp only [PXb,BD (show i≤1099511627776 by omega),show iLt (i:Int) 2=true from A5 (len:=2) hi,show iIn (i:Int) 2=true from AY (len:=2) hi]
 ·have hp:Bf (fun i=>iLt (cond ((i:Int)==1) m19 m18) 0||iLt 1000000 (cond ((i:Int)==1) m19 m18)) 2 0=Z5 (⟨⟨m0,m1,m2,m3,m4,m5,m6,m7,m8,m9,m10,m11,m12,m13⟩,m14,m15,m16,m17,m18,m19,m20,m21,m22⟩:Mat):=by
   simp only [B1,JR,Bool.or_false];rfl
  rw [hp];cases Z5 (⟨⟨m0,m1,m2,m3,m4,m5,m6,m7,m8,m9,m10,m11,m12,m13⟩,m14,m15,m16,m17,m18,m19,m20,m21,m22⟩:Mat)
  case true=>rfl
  simp only [PXb,KC,Int.reduceBEq];cases iLt m15 0<;>try rfl
  cases iLt 2 m15<;>try rfl
  cases iLt (IntKind.i64.wrap (2 * m2)) (m17.length:Int)<;>try rfl
  cases (m15==0&&(iLt 0 (m17.length:Int)||(!(m14==1) && !(m14==5))))<;>try rfl
  cases (m14==1 && !(m15==0))<;>try rfl
  cases (m14==2&&(m17.length:Int)==IntKind.i64.wrap (2 * m2))<;>try rfl
  cases (m14==4&&(!(m2==2) || !((m17.length:Int)==2)))<;>try rfl
  cases (m16&&(!(m2==2)||iLt (m17.length:Int) 2))<;>try rfl
  simp only [PXb];refine Ab (LP (len:=m17.length) (V6 (⟨⟨m0,m1,m2,m3,m4,m5,m6,m7,m8,m9,m10,m11,m12,m13⟩,m14,m15,m16,m17,m18,m19,m20,m21,m22⟩:Mat)) [.bool false] ?_ ?_ N (by omega)) ?_
  ·intro self;simp only [PXb,PXc,PXn,AF,BE]
  ·intro i self hi;simp only [PXb,PXc,PXn,PXm,Nat.reduceAdd,Int.reduceBEq,BD (show i≤1099511627776 by omega),A5 hi,AY hi,PXi,G8,Id,R0 (hf i hi) hN hs,O1,V6];cases GQ (⟨⟨m0,m1,m2,m3,m4,m5,m6,m7,m8,m9,m10,m11,m12,m13⟩,m14,m15,m16,m17,m18,m19,m20,m21,m22⟩:Mat).rules (inn m17 i)<;>first | rfl | simp only [PXb,PXc,PXn,PXm,Nat.reduceAdd,Int.reduceBEq]
  ·cases Bf (V6 (⟨⟨m0,m1,m2,m3,m4,m5,m6,m7,m8,m9,m10,m11,m12,m13⟩,m14,m15,m16,m17,m18,m19,m20,m21,m22⟩:Mat)) m17.length 0
   case true=>rfl
   simp only [PXb,PXc,PXn,PXm,Nat.reduceAdd,Int.reduceBEq,IK,eg hN (show m17.length≤1048576 by omega)]
def lnx (xs:List Inn):Nat:=(IntKind.i64.wrap ((xs.length:Int) - 1)).toNat
def AU (m:Mat):Inn:=inn m.inns (lnx m.inns)
theorem TI {n:Nat} (h:((n:Int)==0)=false) (hl:n≤1000000):iIn (IntKind.i64.wrap ((n:Int) - 1)) (n:Int)=true:=by
 rw [beq_eq_false_iff_ne] at h;rw [B9 (by omega) (by omega)];simp only [iIn,decide_eq_true_eq];omega
theorem Wu {xs:List Inn} (h:((xs.length:Int)==0)=false) (hl:xs.length≤1000000):lnx xs<xs.length:=by
 rw [beq_eq_false_iff_ne] at h;unfold lnx;rw [B9 (by omega) (by omega)];omega
def Zg (r:Rul):Int:=cond (r.overs==0) 5 6
theorem JE {N:Nat} {r8:Bool} {r0:ByteArray} {r13:Rows}  : Bi N [.str r0,.int r1,.int r2,.int r3,.int r4,.int r5,.int r6,.int r7,.bool r8,.int r9,.int r10,.int r11,.int r12,.rows r13]=some [.int (Zg (⟨r0,r1,r2,r3,r4,r5,r6,r7,r8,r9,r10,r11,r12,r13⟩:Rul))]:=by
 show Fr (std (MR N) N) (xOf _)=_;simp only [Fr,lq9,std,xOf,PXb,PXc,PXn,PXm,Nat.reduceAdd,Int.reduceBEq,Zg]
def qJ (x:Int×Int×Int):List PV:=[.int x.1,.int x.2.1,.int x.2.2]
def UC (m:Mat):Int×Int×Int :=
  let n:Int:=m.inns.length
  let most:=IntKind.i64.wrap (2 * m.rules.innings)
  let x:=AU m
  cond (!FP m||n==0) (0,0,0) (cond (x.ending==5) (Zg m.rules,0,0) (cond (x.ending==0) (0,0,0)
    (cond (n==most&&iLe x.target x.runs) (2,x.side,IntKind.i64.wrap (IntKind.i64.wrap (m.rules.side - 1) - x.wickets)) (cond (n==most&&x.runs==IntKind.i64.wrap (x.target - 1)) (4,0,0)
      (cond (n==most) (1,CK x.side,IntKind.i64.wrap (IntKind.i64.wrap (x.target - 1) - x.runs))
        (cond (n==3&&iLt (B6 m x.side) (B6 m (CK x.side))) (3,CK x.side,IntKind.i64.wrap (B6 m (CK x.side) - B6 m x.side)) (0,0,0)))))))
set_option maxHeartbeats 4000000 in
theorem bi {N:Nat} {m8 m16:Bool} {m0:ByteArray} {m13:Rows} {m17:List Inn} (hf:J2 m17) (hN:2097152<N) (hl:m17.length≤1000000) (hs:m0.size≤1048576):Fa N [.str m0,.int m1,.int m2,.int m3,.int m4,.int m5,.int m6,.int m7,.bool m8,.int m9,.int m10,.int m11,.int m12,.rows m13,.int m14,.int m15,.bool m16,.rows (Ai m17),.int m18,.int m19,.int m20,.int m21,.int m22]=some (qJ (UC (⟨⟨m0,m1,m2,m3,m4,m5,m6,m7,m8,m9,m10,m11,m12,m13⟩,m14,m15,m16,m17,m18,m19,m20,m21,m22⟩:Mat))):=by
 show Ib (std (Cz N) N) (xOf _)=_;generalize hres:(some (qJ (UC (⟨⟨m0,m1,m2,m3,m4,m5,m6,m7,m8,m9,m10,m11,m12,m13⟩,m14,m15,m16,m17,m18,m19,m20,m21,m22⟩:Mat))):Option (List PV))=RR;simp only [Ib,Oa,OP,Ok,K9,lq9,std,xOf,PXb,PXi,Ve hf hN hl hs,Hw,JE,O7 hN (show m17.length≤1048576 by omega)];subst hres;simp only [UC,AU,lnx];cases hv:FP (⟨⟨m0,m1,m2,m3,m4,m5,m6,m7,m8,m9,m10,m11,m12,m13⟩,m14,m15,m16,m17,m18,m19,m20,m21,m22⟩:Mat)
 case false=>rfl
 cases h0:(m17.length:Int)==0
 case true=>rfl
 simp only [PXb,TI h0 hl];generalize inn m17 (IntKind.i64.wrap ((m17.length:Int) - 1)).toNat=x;cases x.ending==5
 case true=>rfl
 cases x.ending==0
 case true=>rfl
 cases (m17.length:Int)==IntKind.i64.wrap (2 * m2)<;>cases iLe x.target x.runs<;>cases x.runs==IntKind.i64.wrap (x.target - 1)<;>try rfl
 all_goals (cases (m17.length:Int)==3<;>try rfl)
 all_goals (simp only [PXb];cases iLt (B6 (⟨⟨m0,m1,m2,m3,m4,m5,m6,m7,m8,m9,m10,m11,m12,m13⟩,m14,m15,m16,m17,m18,m19,m20,m21,m22⟩:Mat) x.side) (B6 (⟨⟨m0,m1,m2,m3,m4,m5,m6,m7,m8,m9,m10,m11,m12,m13⟩,m14,m15,m16,m17,m18,m19,m20,m21,m22⟩:Mat) (CK x.side))<;>rfl)
theorem fW:∀ (n k:Nat) (f:Nat→Nat),(∀ i,i<k→1≤f i∧f i≤n)→(∀ i j,i<j→j<k→f i≠f j)→k≤n
 | 0,k,f,h,_=>by
  rcases Nat.eq_zero_or_pos k with e | e
  ·omega
  ·have:=h 0 e;omega
 | n+1,0,f,_,_=>by omega
 | n+1,k+1,f,h,hi=>by
  by_cases he:∃ j,j<k+1∧f j=n+1
  ·obtain ⟨j,hj,hfj⟩:=he;have:=fW n k (fun i=>if i=j then f k else f i) (fun i hik=>by
    show 1≤(if i=j then f k else f i)∧(if i=j then f k else f i)≤n
    by_cases e:i=j
    ·rw [if_pos e];have h1:=h k (by omega);have:f k≠f j:=fun e2=>hi j k (by omega) (by omega) e2.symm
     omega
    ·rw [if_neg e];have h1:=h i (by omega);have:f i≠f j:=by
      rcases Nat.lt_or_gt_of_ne e with e2 | e2
      ·exact hi i j e2 hj
      ·exact fun e3=>hi j i e2 (by omega) e3.symm
     omega) (fun a b hab hb=>by
    show (if a=j then f k else f a)≠(if b=j then f k else f b)
    by_cases e1:a=j
    ·have e2:b≠j:=by omega
     rw [if_pos e1,if_neg e2];exact fun e3=>hi b k hb (by omega) e3.symm
    ·rw [if_neg e1]
     by_cases e2:b=j
     ·rw [if_pos e2];exact hi a k (by omega) (by omega)
     ·rw [if_neg e2];exact hi a b hab (by omega))
   omega
  ·have:=fW n (k+1) f (fun i hik=>by
    have h1:=h i hik;have:f i≠n+1:=fun e=>he ⟨i,hik,e⟩
    omega) hi
   omega
theorem iq {L:Rows} {n:Int} (h:Kb L n=true) (hn:0≤n):(L.length:Int)≤n:=by
 unfold Kb at h;rw [Bool.not_eq_true',Jm] at h;have hb:∀ i,i<L.length→1≤atI L i 0∧atI L i 0≤n:=fun i hi=>by
  have:=h i (by omega) (by omega);unfold QF at this;rw [Bool.or_eq_false_iff,Bool.not_eq_false',S9] at this;exact this.1
 have:=fW n.toNat L.length (fun i=>(atI L i 0).toNat) (fun i hi=>by have:=hb i hi;show 1≤(atI L i 0).toNat∧(atI L i 0).toNat≤n.toNat;omega) (fun i j hij hj=>by
  show (atI L i 0).toNat≠(atI L j 0).toNat;have h1:=hb i (by omega);have h2:=hb j hj;have h3:=h j (by omega) (by omega);unfold QF at h3;rw [Bool.or_eq_false_iff] at h3;have h4:=Jm.1 h3.2 i (by omega) (by omega);rw [beq_eq_false_iff_ne] at h4;omega)
 omega
theorem Po {r:Rul} {s:Inn} (h:GQ r s=true):s.bowlers.length≤11∧s.before.length≤11∧s.Fit:=by
 have ok:=JJ.1 h;have hs:=rm ok;have h1:=iq ok.dw (by omega);have h2:=iq ok.df (by omega);have h3:=ok.lb;have h4:=ok.ld;have h5:=ok.lz;exact ⟨by omega,by omega,by omega,by omega,by omega,by omega,by omega⟩
def Un (m:Mat) (e:Ev):Mat×Int :=
  let sd:=Cx m (m.inns.length:Int)
  let b:=CR m.rules sd (Gy m sd) (cond (sd==2) m.pen2 m.pen1)
  let t:=Am m.rules b.1 e
  cond (!(b.2==0)) (m,1) (cond (!(t.2==0)) (m,t.2)
    ({ m with stage:=3,inns:=m.inns++[t.1],pen1:=cond (sd==1) 0 m.pen1,pen2:=cond (sd==2) 0 m.pen2 },0))
def Ma (xs:List Inn) (sd:Int):Nat→Option Nat
 | 0=>none
 | k+1=>cond ((inn xs k).side==sd) (some k) (Ma xs sd k)
def Ho (m:Mat) (sd:Int):Mat:=match Ma m.inns sd m.inns.length with
 | some k=>{ m with inns:=m.inns.set k (PH (inn m.inns k)) }
 | none=>{ m with pen1:=cond (sd==1) (IntKind.i64.wrap (m.pen1+5)) m.pen1,pen2:=cond (sd==2) (IntKind.i64.wrap (m.pen2+5)) m.pen2 }
def Ds (m:Mat) (e:Ev):Mat×Int :=
 let t:=Am m.rules (AU m) e
 cond (!(t.2==0)) (m,t.2) (cond (e.kind==13 && !(e.side==t.1.side)) (Ho { m with inns:=m.inns.set (lnx m.inns) t.1 } e.side) { m with inns:=m.inns.set (lnx m.inns) t.1 },0)
def bX (m:Mat):Mat:={ m with inns:=cond (m.stage==3) (m.inns.set (lnx m.inns) { AU m with ending:=5 }) m.inns,stage:=5,win:=Zg m.rules,wside:=0,margin:=0 }
def HF (m:Mat) (e:Ev):Mat×Int :=
  cond (e.kind==1) (cond (!(m.stage==1)) (m,1) ({ m with first:=cond e.yes e.side (CK e.side),stage:=2 },0))
    (cond (e.kind==2) (cond (!(m.stage==2)) (m,1) (Un m e))
      (cond (e.kind==12) (cond (!(m.stage==4)) (m,1) (cond (!(e.side==m.first)) (m,2) ({ m with follow:=e.yes,stage:=2 },0)))
        (cond (e.kind==16) (bX m,0) (cond (!(m.stage==3)) (m,1) (Ds m e)))))
def QG (m:Mat):Mat :=
  let n:Int:=m.inns.length
  let sd:=(AU m).side
  let o:=UC { m with stage:=5 }
  cond (n==IntKind.i64.wrap (2 * m.rules.innings)||(n==3&&iLt (B6 m sd) (B6 m (CK sd)))) { m with stage:=5,win:=o.1,wside:=o.2.1,margin:=o.2.2 }
    (cond (n==2&&iLt 0 m.rules.followon&&iLe m.rules.followon (IntKind.i64.wrap (B6 m m.first - B6 m (CK m.first)))) { m with stage:=4 } { m with stage:=2 })
def B5 (m:Mat):Mat:=cond (m.stage==3 && !((AU m).ending==0)) (QG m) m
def C8 (m:Mat) (e:Ev):Mat×Int :=
 cond (!FP m || !(evS e==0)) (m,1) (cond (m.stage==5) (m,26) (cond (!((HF m e).2==0)) (m,(HF m e).2) (B5 (HF m e).1,0)))
theorem qd {X:Option (List PV)} {r:List PV} {k:List PV→Option (List PV)} {g:Option (List PV)} (h:X=some r) (hk:k r=g):X.bind k=g:=by rw [h];exact hk
structure MatOk (m:Mat):Prop where
 code:BF m.rules=0
 len:m.inns.length≤4
 innv:∀ i,i<m.inns.length→GQ m.rules (inn m.inns i)=true∧(inn m.inns i).side=Cx m (i:Int)
 begun:(m.stage==3)=true→((m.inns.length:Int)==0)=false
 toss:(m.stage==2)=true→m.first=1∨m.first=2
 room:(m.stage==2)=true→(m.inns.length:Int)<2 * m.rules.innings
 most:IntKind.i64.wrap (2 * m.rules.innings)=2 * m.rules.innings∧(m.inns.length:Int)≤2 * m.rules.innings
theorem W1 {m:Mat} (h:FP m=true):MatOk m:=by
 unfold FP fE at h;simp only [zzj,Bool.not_eq_true'] at h;obtain ⟨⟨h1,h2,h3,h4,h5,h6,h7,h8,h9,h10⟩,h11,h12⟩:=h;have hc:=beq_iff_eq.1 h1;have rk:=(EX hc).innings;have e2:IntKind.i64.wrap (2 * m.rules.innings)=2 * m.rules.innings:=B9 (by omega) (by omega);rw [e2] at h5 h8;rw [Bool.or_eq_false_iff,Bool.or_eq_false_iff] at h5;have hn:=h5.2;have hf1:=h5.1.1;have hf2:=h5.1.2;simp only [iLt,decide_eq_false_iff_not] at hn hf1 hf2;refine ⟨hc,by omega,fun i hi=>?_,fun hs=>?_,fun hs=>?_,fun hs=>?_,e2,by omega⟩
 ·have:=Jm.1 h11 i (by omega) (by omega);unfold V6 at this;rw [Bool.or_eq_false_iff,Bool.not_eq_false',Bool.not_eq_false',beq_iff_eq] at this;exact this
 ·unfold WX at h12;rw [hs,zzj] at h12;have:=h12.2;simp only [iLt,Bool.not_true,Bool.false_or,decide_eq_true_eq] at this;exact beq_false_of_ne (by omega)
 ·rw [beq_iff_eq.1 hs] at h6;cases h0:m.first==0 with
  | true=>rw [h0] at h6;simp at h6
  | false =>
   rw [beq_eq_false_iff_ne] at h0;omega
 ·rw [hs,Bool.true_and,beq_eq_false_iff_ne] at h8;omega
theorem oP {m:Mat} (h:m.first=1∨m.first=2) (i:Int):Cx m i=1∨Cx m i=2:=by
 unfold Cx;cases cond (m.follow&&iLe 2 i) (i==2) (i.tmod 2==1) with
 | false=>exact h
 | true=>rcases h with h | h<;>rw [h]<;>decide
theorem di {m:Mat} (h:MatOk m):J2 m.inns:=fun i hi=>(Po (h.innv i hi).1).2.2
theorem aO {F : (List AW → Option (List PV)) → List PV → Option (List PV)} {len : Nat} (enc : Nat → List AW) (ans : Nat → Option (List PV))
    (h0:∀ self,F self ((enc len).map Leaf.pv)=some [.int 1]) (h1:∀ i self,i<len→F self ((enc i).map Leaf.pv)=match ans i with | some r=>some (.int 0::r) | none=>self (enc (i+1))) :
    ∀ (k i n:Nat),i+k=len→k<n→D1 F n ((enc i).map Leaf.pv)=some (XR (B8 ans k i))
  | 0,i,n,hk,hn=>by
    obtain ⟨n,rfl⟩:∃ m,n=m+1:=⟨n - 1,by omega⟩;obtain rfl:i=len:=by omega
    exact h0 _
  | k+1,i,n,hk,hn=>by
    obtain ⟨n,rfl⟩:∃ m,n=m+1:=⟨n - 1,by omega⟩;show F _ _=_;rw [h1 i _ (by omega)];simp only [B8];cases ans i with
    | some r=>rfl
    | none=>exact aO enc ans h0 h1 k (i+1) n (by omega) (by omega)
theorem kZ (ys:List Inn) (sd:Int) (g:Nat→List PV) (n:Nat):∀ k,k≤n→B8 (fun j=>cond ((inn ys (n - 1 - j)).side==sd) (some (g (n - 1 - j))) none) k (n - k)=(Ma ys sd k).map g
 | 0,_=>rfl
 | k+1,h=>by
  have ih:=kZ ys sd g n k (by omega);have e:n - 1 - (n - (k+1))=k:=by omega
  have e2:n - (k+1)+1=n - k:=by omega
  simp only [B8,Ma,e,e2,ih];cases (inn ys k).side==sd<;>rfl
theorem Xa (xs:List Inn) (k:Nat) (s:Inn) (i:Nat) (hi:i<xs.length):inn (xs.set k s) i=(if k=i then s else inn xs i):=by
 rw [Mm,Mm,List.getElem?_set]
 by_cases h:k=i
 ·subst h;rw [if_pos rfl,if_pos rfl,if_pos hi]
 ·rw [if_neg h,if_neg h]
theorem Qk {xs:List Inn} {s:Inn} (k:Nat) (h:J2 xs) (hs:s.Fit):J2 (xs.set k s):=fun i hi=>by
 rw [List.length_set] at hi;rw [Xa xs k s i hi]
 by_cases e:k=i
 ·rw [if_pos e];exact hs
 ·rw [if_neg e];exact h i hi
theorem nf {e:Ev} (h:(evS e==0)=true) (hk:(e.kind==13)=true):e.side=1∨e.side=2:=by
 have h0:=cW h;rw [beq_iff_eq] at hk;unfold evS at h;rw [h0] at h;cases h1:iW e with
 | true=>rw [h1] at h;cases h
 | false =>
  cases h2:Yu e with
  | true=>rw [h1,h2] at h;cases h
  | false =>
   unfold Yu at h2;rw [Bool.or_eq_false_iff] at h2;have h3:=h2.1;rw [hk,show uS 13=true from rfl,Bool.and_true] at h3;simp only [btw,iLe,Bool.not_eq_false',zzj,decide_eq_true_eq] at h3;omega
theorem qU (xs:List Inn) (s:Inn) (i:Nat) (hi:i<xs.length+1):inn (xs++[s]) i=(if i<xs.length then inn xs i else s):=by
 rw [Mm,Mm]
 by_cases h:i<xs.length
 ·rw [if_pos h,List.getElem?_append_left h]
 ·have:i=xs.length:=by omega
  subst this;rw [if_neg h,List.getElem?_append_right (Nat.le_refl _),Nat.sub_self];rfl
theorem pO {xs:List Inn} {s:Inn} (h:J2 xs) (hs:s.Fit):J2 (xs++[s]):=fun i hi=>by
 rw [List.length_append] at hi;rw [qU xs s i hi]
 by_cases e:i<xs.length
 ·rw [if_pos e];exact h i e
 ·rw [if_neg e];exact hs
theorem dE (r:Rul) (a b c:Int) (e:Ev):(Am r (CR r a b c).1 e).1.Fit:=by
 obtain ⟨f,h1,h2⟩:=Pz r a b c;exact Qt (SV r _ e) f (by rw [h1,h2];exact Nat.zero_le _)
structure ActOk (m:Mat) (x:Mat×Int):Prop where
 rules:x.1.rules=m.rules
 fit:J2 x.1.inns
 len:x.1.inns.length≤5
 some':(x.2==0)=true→(x.1.stage==3)=true→((x.1.inns.length:Int)==0)=false
theorem A_c {m:Mat} (b:Bool) (x y:Mat×Int) (hx:ActOk m x) (hy:ActOk m y):ActOk m (cond b x y):=by cases b<;>assumption
theorem gC {m:Mat} (sd:Int) (hf:J2 m.inns):(Ho m sd).rules=m.rules∧J2 (Ho m sd).inns∧(Ho m sd).inns.length=m.inns.length∧(Ho m sd).stage=m.stage:=by
 unfold Ho;cases h:Ma m.inns sd m.inns.length with
 | none=>exact ⟨rfl,hf,rfl,rfl⟩
 | some k =>
  have hk:k<m.inns.length:=by
   have:∀ n,Ma m.inns sd n=some k→k<n:=by
    intro n
    induction n with
    | zero=>intro h;cases h
    | succ n ih =>
     intro h;unfold Ma at h;cases hq:(inn m.inns n).side==sd with
     | true=>rw [hq] at h;cases h;omega
     | false=>rw [hq] at h;have:=ih h;omega
   exact this _ h
  exact ⟨rfl,Qk k hf (qr (hf k hk)),List.length_set,rfl⟩
theorem mo {m:Mat} (ok:MatOk m) (e:Ev):ActOk m (HF m e):=by
 have hf:=di ok;have hl:=ok.len;have self:∀ n:Int,(n==0)=false→ActOk m (m,n):=fun n hn=>⟨rfl,hf,by show m.inns.length≤5;omega,fun h=>by rw [hn] at h;cases h⟩
 unfold HF;refine A_c _ _ _ (A_c _ _ _ (self 1 rfl) ⟨rfl,hf,by show m.inns.length≤5;omega,fun _ h=>by cases h⟩) (A_c _ _ _ ?_ (A_c _ _ _ ?_ (A_c _ _ _ ?_ ?_)))
 ·refine A_c _ _ _ (self 1 rfl) ?_;unfold Un;refine A_c _ _ _ (self 1 rfl) ?_;cases hq:(Am m.rules (CR m.rules (Cx m (m.inns.length:Int)) (Gy m (Cx m (m.inns.length:Int))) (cond (Cx m (m.inns.length:Int)==2) m.pen2 m.pen1)).1 e).2==0 with
  | false =>
   simp only [Bool.not_false,cond_true];exact self _ hq
  | true =>
   simp only [Bool.not_true,cond_false];exact ⟨rfl,pO hf (dE _ _ _ _ e),by simp;omega,fun _ _=>by
    show ((((m.inns++[_]).length:Nat):Int)==0)=false;rw [List.length_append];exact beq_false_of_ne (by simp;omega)⟩
 ·exact A_c _ _ _ (self 1 rfl) (A_c _ _ _ (self 2 rfl) ⟨rfl,hf,by show m.inns.length≤5;omega,fun _ h=>by cases h⟩)
 ·unfold bX;cases h3:m.stage==3 with
  | false=>exact ⟨rfl,hf,by show m.inns.length≤5;omega,fun _ h=>by cases h⟩
  | true =>
   have h0:=ok.begun h3;have fl:=hf (lnx m.inns) (Wu h0 (by omega));exact ⟨rfl,Qk _ hf ⟨fl.bt,fl.bw,fl.bf,fl.bd,fl.sb⟩,by show (m.inns.set _ _).length≤5;rw [List.length_set];omega,fun _ h=>by cases h⟩
 ·cases h3:m.stage==3 with
  | false=>exact self 1 rfl
  | true =>
   have h0:=ok.begun h3;have lv:=Po (ok.innv (lnx m.inns) (Wu h0 (by omega))).1;have h1:=lv.1;have h2:=lv.2.1;have ft:=Qt (SV m.rules (AU m) e) lv.2.2 (show (inn m.inns (lnx m.inns)).before.length+(inn m.inns (lnx m.inns)).bowlers.length≤1048575 by omega);simp only [Bool.not_true,cond_false,Ds];cases hq:(Am m.rules (AU m) e).2==0 with
   | false =>
    simp only [Bool.not_false,Bool.not_true,cond_true,cond_false];exact self _ hq
   | true =>
    have fs:=Qk (lnx m.inns) hf ft;have ln:(m.inns.set (lnx m.inns) (Am m.rules (AU m) e).1).length=m.inns.length:=List.length_set;simp only [Bool.not_true,cond_false];cases (e.kind==13 && !(e.side==(Am m.rules (AU m) e).1.side)) with
    | false =>
     exact ⟨rfl,fs,by show (m.inns.set _ _).length≤5;omega,fun _ _=>by
      show ((((m.inns.set _ _).length:Nat):Int)==0)=false;rw [ln];exact h0⟩
    | true =>
     obtain ⟨a1,a2,a3,a4⟩:=gC (m:={ m with inns:=m.inns.set (lnx m.inns) (Am m.rules (AU m) e).1 }) e.side fs;exact ⟨a1,a2,by show (Ho _ _).inns.length≤5;rw [a3];show (m.inns.set _ _).length≤5;omega,fun _ _=>by
      show ((((Ho _ _).inns.length:Nat):Int)==0)=false;rw [a3];show ((((m.inns.set _ _).length:Nat):Int)==0)=false;rw [ln];exact h0⟩
set_option maxHeartbeats 8000000 in
theorem gG {N:Nat} {m8 m16:Bool} {m0:ByteArray} {m13:Rows} {m17:List Inn} {e0 e1 e2 e3 e5 e6 e7 e8 e9 e10 e11 e13 e14 e15 e16 e18:Int} {e4 e12 e17:Bool} (hN:2097152<N) (hf:J2 m17) (hl:m17.length≤1000000) (hs:m0.size≤1048576) (h13:m13.length≤1048576):L9 N [.str m0,.int m1,.int m2,.int m3,.int m4,.int m5,.int m6,.int m7,.bool m8,.int m9,.int m10,.int m11,.int m12,.rows m13,.int m14,.int m15,.bool m16,.rows (Ai m17),.int m18,.int m19,.int m20,.int m21,.int m22,.int e0,.int e1,.int e2,.int e3,.bool e4,.int e5,.int e6,.int e7,.int e8,.int e9,.int e10,.int e11,.bool e12,.int e13,.int e14,.int e15,.int e16,.bool e17,.int e18]=some (UN (C8 (⟨⟨m0,m1,m2,m3,m4,m5,m6,m7,m8,m9,m10,m11,m12,m13⟩,m14,m15,m16,m17,m18,m19,m20,m21,m22⟩:Mat) (⟨e0,e1,e2,e3,e4,e5,e6,⟨e7,e8,e9,e10,e11,e12,e13,e14,e15,e16,e17,e18⟩⟩:Ev))):=by
 show L5 (std (BA N) N) (xOf _)=_;generalize hres:(some (UN (C8 (⟨⟨m0,m1,m2,m3,m4,m5,m6,m7,m8,m9,m10,m11,m12,m13⟩,m14,m15,m16,m17,m18,m19,m20,m21,m22⟩:Mat) (⟨e0,e1,e2,e3,e4,e5,e6,⟨e7,e8,e9,e10,e11,e12,e13,e14,e15,e16,e17,e18⟩⟩:Ev))):Option (List PV))=RR;simp only [L5,RN,RS,Q5,Eu,Eg,Ik,Hm,D2,ER,Cp,C7,Gt,lq9,std,xOf,PXb,Ve hf hN hl hs,VD hN,ej hf hN hl h13];subst hres;simp only [C8];cases hv:FP (⟨⟨m0,m1,m2,m3,m4,m5,m6,m7,m8,m9,m10,m11,m12,m13⟩,m14,m15,m16,m17,m18,m19,m20,m21,m22⟩:Mat)
 case false=>rfl
 cases he:evS (⟨e0,e1,e2,e3,e4,e5,e6,⟨e7,e8,e9,e10,e11,e12,e13,e14,e15,e16,e17,e18⟩⟩:Ev)==0
 case false=>simp only [PXb,he];rfl
 simp only [PXb,he];cases h5:m14==5
 case true=>rfl
 simp only [PXb];have ok:=W1 hv;refine qd (r:=.int (HF (⟨⟨m0,m1,m2,m3,m4,m5,m6,m7,m8,m9,m10,m11,m12,m13⟩,m14,m15,m16,m17,m18,m19,m20,m21,m22⟩:Mat) (⟨e0,e1,e2,e3,e4,e5,e6,⟨e7,e8,e9,e10,e11,e12,e13,e14,e15,e16,e17,e18⟩⟩:Ev)).2::(HF (⟨⟨m0,m1,m2,m3,m4,m5,m6,m7,m8,m9,m10,m11,m12,m13⟩,m14,m15,m16,m17,m18,m19,m20,m21,m22⟩:Mat) (⟨e0,e1,e2,e3,e4,e5,e6,⟨e7,e8,e9,e10,e11,e12,e13,e14,e15,e16,e17,e18⟩⟩:Ev)).1.ls) ?_ ?_
 ·unfold HF;cases hk1:e0==1
  case true =>
   simp only [PXb,Eg,Hw];cases m14==1<;>cases e4<;>rfl
  cases hk2:e0==2
  case true =>
   simp only [PXb];cases hs2:m14==2
   case false=>rfl
   have hl2:m17.length≤1048576:=by omega
   have h304:iSm ((m17.length+1:Nat):Int) 304=true:=ID (by omega) (by omega);have fb:=fun a b c=>(Pz (⟨⟨m0,m1,m2,m3,m4,m5,m6,m7,m8,m9,m10,m11,m12,m13⟩,m14,m15,m16,m17,m18,m19,m20,m21,m22⟩:Mat).rules a b c).1
   have wb:∀ a b c,(CR (⟨⟨m0,m1,m2,m3,m4,m5,m6,m7,m8,m9,m10,m11,m12,m13⟩,m14,m15,m16,m17,m18,m19,m20,m21,m22⟩:Mat).rules a b c).1.before.length+(CR (⟨⟨m0,m1,m2,m3,m4,m5,m6,m7,m8,m9,m10,m11,m12,m13⟩,m14,m15,m16,m17,m18,m19,m20,m21,m22⟩:Mat).rules a b c).1.bowlers.length≤1000000:=fun a b c=>by
    rw [(Pz (⟨⟨m0,m1,m2,m3,m4,m5,m6,m7,m8,m9,m10,m11,m12,m13⟩,m14,m15,m16,m17,m18,m19,m20,m21,m22⟩:Mat).rules a b c).2.1,(Pz (⟨⟨m0,m1,m2,m3,m4,m5,m6,m7,m8,m9,m10,m11,m12,m13⟩,m14,m15,m16,m17,m18,m19,m20,m21,m22⟩:Mat).rules a b c).2.2];exact Nat.zero_le _
   rcases oP (m:=(⟨⟨m0,m1,m2,m3,m4,m5,m6,m7,m8,m9,m10,m11,m12,m13⟩,m14,m15,m16,m17,m18,m19,m20,m21,m22⟩:Mat)) (ok.toss hs2) (m17.length:Int) with ho | ho
   ·simp only [PXb,PXc,KC,ge,Nat.reduceAdd,Int.reduceBEq,PXi,PXr,Inn.eta,BK,List.length_append,List.length_cons,List.length_nil,h304,Un,Eu,ER,D2,Cp,O1,TH hN hl2,SD hN hs,NG (fb _ _ _) (wb _ _ _) hN hs h13,ho,wr1,wr2,iQ,fX];cases (CR (⟨⟨m0,m1,m2,m3,m4,m5,m6,m7,m8,m9,m10,m11,m12,m13⟩,m14,m15,m16,m17,m18,m19,m20,m21,m22⟩:Mat).rules 1 (Gy (⟨⟨m0,m1,m2,m3,m4,m5,m6,m7,m8,m9,m10,m11,m12,m13⟩,m14,m15,m16,m17,m18,m19,m20,m21,m22⟩:Mat) 1) m18).2==0<;>try rfl
    cases (Am (⟨⟨m0,m1,m2,m3,m4,m5,m6,m7,m8,m9,m10,m11,m12,m13⟩,m14,m15,m16,m17,m18,m19,m20,m21,m22⟩:Mat).rules (CR (⟨⟨m0,m1,m2,m3,m4,m5,m6,m7,m8,m9,m10,m11,m12,m13⟩,m14,m15,m16,m17,m18,m19,m20,m21,m22⟩:Mat).rules 1 (Gy (⟨⟨m0,m1,m2,m3,m4,m5,m6,m7,m8,m9,m10,m11,m12,m13⟩,m14,m15,m16,m17,m18,m19,m20,m21,m22⟩:Mat) 1) m18).1 (⟨e0,e1,e2,e3,e4,e5,e6,⟨e7,e8,e9,e10,e11,e12,e13,e14,e15,e16,e17,e18⟩⟩:Ev)).2==0<;>rfl
   ·simp only [PXb,PXc,KC,ge,Nat.reduceAdd,Int.reduceBEq,PXi,PXr,Inn.eta,BK,List.length_append,List.length_cons,List.length_nil,h304,Un,Eu,ER,D2,Cp,O1,TH hN hl2,SD hN hs,NG (fb _ _ _) (wb _ _ _) hN hs h13,ho,wr1,wr2,iQ,fX];cases (CR (⟨⟨m0,m1,m2,m3,m4,m5,m6,m7,m8,m9,m10,m11,m12,m13⟩,m14,m15,m16,m17,m18,m19,m20,m21,m22⟩:Mat).rules 2 (Gy (⟨⟨m0,m1,m2,m3,m4,m5,m6,m7,m8,m9,m10,m11,m12,m13⟩,m14,m15,m16,m17,m18,m19,m20,m21,m22⟩:Mat) 2) m19).2==0<;>try rfl
    cases (Am (⟨⟨m0,m1,m2,m3,m4,m5,m6,m7,m8,m9,m10,m11,m12,m13⟩,m14,m15,m16,m17,m18,m19,m20,m21,m22⟩:Mat).rules (CR (⟨⟨m0,m1,m2,m3,m4,m5,m6,m7,m8,m9,m10,m11,m12,m13⟩,m14,m15,m16,m17,m18,m19,m20,m21,m22⟩:Mat).rules 2 (Gy (⟨⟨m0,m1,m2,m3,m4,m5,m6,m7,m8,m9,m10,m11,m12,m13⟩,m14,m15,m16,m17,m18,m19,m20,m21,m22⟩:Mat) 2) m19).1 (⟨e0,e1,e2,e3,e4,e5,e6,⟨e7,e8,e9,e10,e11,e12,e13,e14,e15,e16,e17,e18⟩⟩:Ev)).2==0<;>rfl
  cases hk3:e0==12
  case true =>
   simp only [PXb];cases m14==4<;>cases e1==m15<;>rfl
  cases hk4:e0==16
  case true =>
   simp only [PXb,bX];cases h3:m14==3
   case false=>simp only [PXb,PXc,PXi,PXr,KC,Nat.reduceAdd,C7,JE];rfl
   simp only [PXb,PXc,PXi,PXr,KC,Nat.reduceAdd,TI (ok.begun h3) hl,C7,JE];rfl
  simp only [PXb];cases h3:m14==3
  case false=>rfl
  have h0:=ok.begun h3;have lv:=Po (ok.innv (lnx m17) (Wu h0 hl)).1;have fl:(inn m17 (IntKind.i64.wrap ((m17.length:Int) - 1)).toNat).Fit:=lv.2.2;have wl:(inn m17 (IntKind.i64.wrap ((m17.length:Int) - 1)).toNat).before.length+(inn m17 (IntKind.i64.wrap ((m17.length:Int) - 1)).toNat).bowlers.length≤1000000:=by
   have h1:=lv.1;have h2:=lv.2.1;change (inn m17 (IntKind.i64.wrap ((m17.length:Int) - 1)).toNat).bowlers.length≤11 at h1;change (inn m17 (IntKind.i64.wrap ((m17.length:Int) - 1)).toNat).before.length≤11 at h2;omega
  have f1:=Qt (SV (⟨⟨m0,m1,m2,m3,m4,m5,m6,m7,m8,m9,m10,m11,m12,m13⟩,m14,m15,m16,m17,m18,m19,m20,m21,m22⟩:Mat).rules (inn m17 (IntKind.i64.wrap ((m17.length:Int) - 1)).toNat) (⟨e0,e1,e2,e3,e4,e5,e6,⟨e7,e8,e9,e10,e11,e12,e13,e14,e15,e16,e17,e18⟩⟩:Ev)) fl (by omega);simp only [PXb,PXc,PXi,PXr,BK,Inn.eta,KC,Nat.reduceAdd,List.length_set,TI h0 hl,Cp,NG fl wl hN hs h13,Ds,AU,lnx];generalize hX:Am (⟨⟨m0,m1,m2,m3,m4,m5,m6,m7,m8,m9,m10,m11,m12,m13⟩,m14,m15,m16,m17,m18,m19,m20,m21,m22⟩:Mat).rules (inn m17 (IntKind.i64.wrap ((m17.length:Int) - 1)).toNat) (⟨e0,e1,e2,e3,e4,e5,e6,⟨e7,e8,e9,e10,e11,e12,e13,e14,e15,e16,e17,e18⟩⟩:Ev)=X at f1;have fy:=Qk (IntKind.i64.wrap ((m17.length:Int) - 1)).toNat hf f1;generalize hy:m17.set (IntKind.i64.wrap ((m17.length:Int) - 1)).toNat X.1=ys at fy;have ly:ys.length=m17.length:=by rw [← hy,List.length_set]
  cases X.2==0<;>try rfl
  cases h13k:e0==13
  case false=>rfl
  cases hsd:e1==X.1.side
  case true=>rfl
  simp only [PXb,Option.bind_assoc];have e0w:IntKind.i64.wrap ((m17.length:Int) - 1)=(m17.length:Int) - 1 - ((0:Nat):Int):=by
   rw [beq_eq_false_iff_ne] at h0;rw [B9 (by omega) (by omega)];omega
  rw [e0w];have hside:=nf (e:=(⟨e0,e1,e2,e3,e4,e5,e6,⟨e7,e8,e9,e10,e11,e12,e13,e14,e15,e16,e17,e18⟩⟩:Ev)) he h13k;simp only at hside;refine Ab (aO (len:=m17.length) (fun j=>[.int ((m17.length:Int) - 1 - (j:Int))]) (fun j=>cond ((inn ys (m17.length - 1 - j)).side==e1) (some [PV.str m0,PV.int m1,PV.int m2,PV.int m3,PV.int m4,PV.int m5,PV.int m6,PV.int m7,PV.bool m8,PV.int m9,PV.int m10,PV.int m11,PV.int m12,PV.rows m13,PV.int m14,PV.int m15,PV.bool m16,PV.rows (Ai (ys.set (m17.length - 1 - j) (PH (inn ys (m17.length - 1 - j))))),PV.int m18,PV.int m19,PV.int m20,PV.int m21,PV.int m22]) none) ?_ ?_ m17.length 0 N (by omega) (by omega)) ?_
  ·intro self;have q1:iLe 0 ((m17.length:Int) - 1 - (m17.length:Int))=false:=by simp only [iLe,decide_eq_false_iff_not];omega
   simp only [PXb,q1]
  ·intro i self hi;have q1:iLe 0 ((m17.length:Int) - 1 - (i:Int))=true:=by simp only [iLe,decide_eq_true_eq];omega
   have q2:iIn ((m17.length:Int) - 1 - (i:Int)) (m17.length:Int)=true:=by simp only [iIn,decide_eq_true_eq];omega
   have q3:((m17.length:Int) - 1 - (i:Int)).toNat=m17.length - 1 - i:=by omega
   have q4:IntKind.i64.wrap ((m17.length:Int) - 1 - (i:Int) - 1)=(m17.length:Int) - 1 - ((i+1:Nat):Int):=by rw [B9 (by omega) (by omega)];omega
   have q5:=fy (m17.length - 1 - i) (by omega);simp only [PXb,PXc,q1,q2,q3,q4,Gt,Pe q5,PXm];cases (inn ys (m17.length - 1 - i)).side==e1<;>rfl
  ·have hfa:=kZ ys e1 (fun k=>[PV.str m0,PV.int m1,PV.int m2,PV.int m3,PV.int m4,PV.int m5,PV.int m6,PV.int m7,PV.bool m8,PV.int m9,PV.int m10,PV.int m11,PV.int m12,PV.rows m13,PV.int m14,PV.int m15,PV.bool m16,PV.rows (Ai (ys.set k (PH (inn ys k)))),PV.int m18,PV.int m19,PV.int m20,PV.int m21,PV.int m22]) m17.length m17.length (Nat.le_refl _);rw [Nat.sub_self] at hfa;rw [hfa];unfold Ho;simp only [ly];cases Ma ys e1 m17.length with
   | some k=>rfl
   | none =>
    rcases hside with h | h<;>subst h
    ·simp only [Option.map_none,XR,PXb,PXc,KC,Int.reduceBEq,wr1,iQ];rfl
    ·simp only [Option.map_none,XR,PXb,PXc,KC,Int.reduceBEq,wr2,fX];rfl
 ·have ak:=mo ok (⟨e0,e1,e2,e3,e4,e5,e6,⟨e7,e8,e9,e10,e11,e12,e13,e14,e15,e16,e17,e18⟩⟩:Ev);generalize HF (⟨⟨m0,m1,m2,m3,m4,m5,m6,m7,m8,m9,m10,m11,m12,m13⟩,m14,m15,m16,m17,m18,m19,m20,m21,m22⟩:Mat) (⟨e0,e1,e2,e3,e4,e5,e6,⟨e7,e8,e9,e10,e11,e12,e13,e14,e15,e16,e17,e18⟩⟩:Ev)=A at ak;obtain ⟨⟨⟨a0,a1,a2,a3,a4,a5,a6,a7,a8,a9,a10,a11,a12,a13⟩,a14,a15,a16,a17,a18,a19,a20,a21,a22⟩,l⟩:=A;obtain ⟨k1,k2,k3,k4⟩:=ak;simp only at k1 k2 k3 k4;have hl5:a17.length≤1048576:=by omega
  have hs5:a0.size≤1048576:=by
   have:=congrArg Rul.name k1;simp only at this;rw [this];exact hs
  simp only [PXb,PXc,PXk,PXi,KC,Nat.reduceAdd];cases hl0:l==0
  case false=>rfl
  simp only [PXb,B5];cases h3:a14==3
  case false=>rfl
  have h0:=k4 hl0 h3;have li:=TI h0 (show a17.length≤1000000 by omega);simp only [PXb,PXc,PXi,li];cases he2:(inn a17 (IntKind.i64.wrap ((a17.length:Int) - 1)).toNat).ending==0
  case true=>simp only [PXb,AU,lnx,he2]
  simp only [PXb,PXc,PXi,AU,lnx,he2,Ik,Eg,Hm,O7 hN hl5,Hw,bi k2 hN (show a17.length≤1000000 by omega) hs5];unfold QG;simp only [AU,lnx];simp only [B6,AU,lnx];cases hq1:((a17.length:Int)==IntKind.i64.wrap (2 * a2))
  case true=>rfl
  cases hq2:((a17.length:Int)==3)
  case true =>
   simp only [PXb];cases iLt (Ox a17 (inn a17 (IntKind.i64.wrap ((a17.length:Int) - 1)).toNat).side a17.length) (Ox a17 (CK (inn a17 (IntKind.i64.wrap ((a17.length:Int) - 1)).toNat).side) a17.length)
   case true=>rfl
   simp only [PXb];cases ((a17.length:Int)==2)&&iLt 0 a10&&iLe a10 (IntKind.i64.wrap (Ox a17 a15 a17.length - Ox a17 (CK a15) a17.length))<;>rfl
  simp only [PXb];cases ((a17.length:Int)==2)&&iLt 0 a10&&iLe a10 (IntKind.i64.wrap (Ox a17 a15 a17.length - Ox a17 (CK a15) a17.length))<;>rfl
theorem jk (m:Mat):(QG m).rules=m.rules∧(QG m).inns=m.inns:=by
 unfold QG
 dsimp only
 cases ((m.inns.length:Int)==IntKind.i64.wrap (2 * m.rules.innings)||((m.inns.length:Int)==3&&iLt (B6 m (AU m).side) (B6 m (CK (AU m).side)))) with
 | true=>exact ⟨rfl,rfl⟩
 | false =>
  cases ((m.inns.length:Int)==2&&iLt 0 m.rules.followon&&iLe m.rules.followon (IntKind.i64.wrap (B6 m m.first - B6 m (CK m.first))))<;>exact ⟨rfl,rfl⟩
theorem Z1 (m:Mat):(B5 m).rules=m.rules∧(B5 m).inns=m.inns:=by
 unfold B5;cases (m.stage==3 && !((AU m).ending==0)) with
 | true=>exact jk m
 | false=>exact ⟨rfl,rfl⟩
structure StepOk (r:Rul) (m:Mat):Prop where
 rules:m.rules=r
 fit:J2 m.inns
 len:m.inns.length≤5
theorem mA {r:Rul} {m:Mat} (h:StepOk r m) (e:Ev):StepOk r (C8 m e).1:=by
 unfold C8;cases hv:FP m with
 | false=>exact h
 | true =>
  cases he:evS e==0 with
  | false=>exact h
  | true =>
   cases h5:m.stage==5 with
   | true=>exact h
   | false =>
    have a:=mo (W1 hv) e;cases hx:(HF m e).2==0 with
    | false=>exact h
    | true =>
     have k:=Z1 (HF m e).1;exact ⟨k.1.trans (a.rules.trans h.rules),by show J2 (B5 _).inns;rw [k.2];exact a.fit,by show (B5 _).inns.length≤5;rw [k.2];exact a.len⟩
theorem kh (r:Rul) (h:((AZ r).2==0)=true):StepOk r (AZ r).1:=by
 unfold AZ at h ⊢;cases hc:BF r==0 with
 | false=>rw [hc] at h;exact absurd (show (BF r==0)=true from h) (by rw [hc];decide)
 | true=>exact ⟨rfl,fun i hi=>absurd hi (Nat.not_lt_zero i),Nat.zero_le _⟩
theorem T7 {m:Mat} {e:Ev} (h:((C8 m e).2==0)=true):FP m=true∧(evS e==0)=true∧(m.stage==5)=false∧((HF m e).2==0)=true∧(C8 m e).1=B5 (HF m e).1:=by
 unfold C8 at h ⊢;cases hv:FP m with
 | false=>rw [hv] at h;exact absurd (show ((1:Int)==0)=true from h) (by decide)
 | true =>
  cases he:evS e==0 with
  | false=>rw [hv,he] at h;exact absurd (show ((1:Int)==0)=true from h) (by decide)
  | true =>
   cases h5:m.stage==5 with
   | true=>rw [hv,he,h5] at h;exact absurd (show ((26:Int)==0)=true from h) (by decide)
   | false =>
    cases hx:(HF m e).2==0 with
    | false=>rw [hv,he,h5,hx] at h;exact absurd (show ((HF m e).2==0)=true from h) (by rw [hx];decide)
    | true=>exact ⟨rfl,rfl,rfl,rfl,rfl⟩
theorem US {m:Mat} {e:Ev} (h:((C8 m e).2==0)=true) (hk:(e.kind==4)=true):(m.stage==3)=true∧((m.inns.length:Int)==0)=false∧((Am m.rules (AU m) e).2==0)=true∧(C8 m e).1.inns=m.inns.set (lnx m.inns) (Am m.rules (AU m) e).1:=by
 obtain ⟨hv,he,h5,ha,hs⟩:=T7 h;have hk4:=beq_iff_eq.1 hk;rw [hs,(Z1 _).2];unfold HF at ha ⊢;simp only [hk4,Int.reduceBEq,cond_false] at ha ⊢;cases h3:m.stage==3 with
 | false=>rw [h3] at ha;exact absurd (show ((1:Int)==0)=true from ha) (by decide)
 | true =>
  rw [h3] at ha;simp only [Bool.not_true,cond_false] at ha ⊢;unfold Ds at ha ⊢;cases hq:(Am m.rules (AU m) e).2==0 with
  | false=>simp only [hq,Bool.not_false,cond_true] at ha;exact absurd ha Bool.false_ne_true
  | true =>
   simp only [hk4,Int.reduceBEq,Bool.false_and,hq,Bool.not_true,cond_false];exact ⟨trivial,(W1 hv).begun h3,trivial,trivial⟩
def evR (L:Rows) (i:Nat):Ev:=⟨atI L i 0,atI L i 1,atI L i 2,atI L i 3,atB L i 4,atI L i 5,atI L i 6,⟨atI L i 7,atI L i 8,atI L i 9,atI L i 10,atI L i 11,atB L i 12,atI L i 13,atI L i 14,atI L i 15,atI L i 16,atB L i 17,atI L i 18⟩⟩
theorem tV (L:Rows) (i:Nat):(⟨atI L i 0,atI L i 1,atI L i 2,atI L i 3,atB L i 4,atI L i 5,atI L i 6,⟨atI L i 7,atI L i 8,atI L i 9,atI L i 10,atI L i 11,atB L i 12,atI L i 13,atI L i 14,atI L i 15,atI L i 16,atB L i 17,atI L i 18⟩⟩:Ev)=evR L i:=rfl
def Ax (i:Int) (m:Mat) (e:Ev):Mat×Int:=cond (iLe 4000 i) (m,26) (C8 m e)
def HW (L:Rows):Nat→Nat→Mat→Mat×Int×Int
 | 0,_,m=>(m,-1,0)
 | k+1,i,m=>cond (!((Ax i m (evR L i)).2==0)) (m,(i:Int),(Ax i m (evR L i)).2) (HW L k (i+1) (Ax i m (evR L i)).1)
def Hl (i:Int) (m t:Mat) (d:Del):List PV :=
 [.int i,.int (IntKind.i64.wrap ((m.inns.length:Int) - 1)),.int (AU m).complete,.int (AU m).inover,.int (AU m).bowler,.int (AU m).striker,.int (AU m).other,.bool (AU m).freehit,
  .int d.type,.int d.source,.int d.runs,.int d.short,.int d.boundary,.bool d.crossed,.int d.how,.int d.victim,.int d.fielder,.int d.second,.bool d.sub,.int d.sector,
  .int (AD m.rules d).batter,.int (AD m.rules d).wides,.int (AD m.rules d).noballs,.int (AD m.rules d).byes,.int (AD m.rules d).legbyes,.int (AD m.rules d).bowler,.bool (AD m.rules d).counts,.bool (AD m.rules d).faced,.bool (AD m.rules d).wicket,.bool (AD m.rules d).swap,
  .int (inn t.inns (lnx m.inns)).runs,.int (inn t.inns (lnx m.inns)).wickets]
def Mk (L:Rows):Nat→Nat→Mat→Rows→Rows
 | 0,_,_,out=>out
 | k+1,i,m,out=>cond (!((Ax i m (evR L i)).2==0)) out (Mk L k (i+1) (Ax i m (evR L i)).1 (cond ((evR L i).kind==4) (out++[Hl i m (Ax i m (evR L i)).1 (evR L i).ball]) out))
def qP (f:Mat×Int×Int):List PV:=[.str f.1.rules.name,.int f.1.rules.side,.int f.1.rules.innings,.int f.1.rules.overs,.int f.1.rules.balls,.int f.1.rules.quota,.int f.1.rules.wide,.int f.1.rules.noball,.bool f.1.rules.freehit,.int f.1.rules.newball,.int f.1.rules.followon,.int f.1.rules.reviews,.int f.1.rules.outside,.rows f.1.rules.power,.int f.1.stage,.int f.1.first,.bool f.1.follow,.rows (Ai f.1.inns),.int f.1.pen1,.int f.1.pen2,.int f.1.win,.int f.1.wside,.int f.1.margin,.int f.2.1,.int f.2.2]
def H3 (r:Rul) (L:Rows):Mat×Int×Int:=cond (!((AZ r).2==0)) (qQ,0,1) (HW L L.length 0 (AZ r).1)
def Co (r:Rul) (L:Rows):Rows:=cond (!((AZ r).2==0)) [] (Mk L L.length 0 (AZ r).1 [])
theorem iX (L:Rows):∀ k i m,((HW L k i m).2.1 == -1)=true→(HW L k i m).2.2=0
 | 0,_,_,_=>rfl
 | k+1,i,m,h=>by
  unfold HW at h ⊢;cases hq:(Ax i m (evR L i)).2==0 with
  | false =>
   rw [hq] at h;have:=beq_iff_eq.1 (show ((i:Int) == -1)=true from h);omega
  | true=>rw [hq] at h;exact iX L k (i+1) _ h
theorem gW (L:Rows):∀ k i m out,(Mk L k i m out).length≤out.length+k
 | 0,_,_,out=>Nat.le_refl _
 | k+1,i,m,out=>by
  unfold Mk;cases (Ax i m (evR L i)).2==0 with
  | false=>show out.length≤_;omega
  | true =>
   have:=gW L k (i+1) (Ax i m (evR L i)).1 (cond ((evR L i).kind==4) (out++[Hl i m (Ax i m (evR L i)).1 (evR L i).ball]) out);refine Nat.le_trans this ?_;cases (evR L i).kind==4 with
   | false=>show out.length+k≤_;omega
   | true=>show (out++[_]).length+k≤_;rw [List.length_append];simp;omega
theorem im {r:Rul} {m:Mat} (h:StepOk r m) (i:Int) (e:Ev):StepOk r (Ax i m e).1:=by
 unfold Ax;cases iLe 4000 i with
 | true=>exact h
 | false=>exact mA h e
theorem Wi {m:Mat} {i:Int} {e:Ev} (h:((Ax i m e).2==0)=true):Ax i m e=C8 m e∧iLe 4000 i=false:=by
 unfold Ax at h ⊢;cases h4:iLe 4000 i with
 | true=>rw [h4] at h;exact absurd (show ((26:Int)==0)=true from h) (by decide)
 | false=>exact ⟨rfl,rfl⟩
theorem l8 {N:Nat} {m8 m16:Bool} {m0:ByteArray} {m13:Rows} {m17:List Inn} {i:Int} {e0 e1 e2 e3 e5 e6 e7 e8 e9 e10 e11 e13 e14 e15 e16 e18:Int} {e4 e12 e17:Bool} (hN:2097152<N) (hf:J2 m17) (hl:m17.length≤1000000) (hs:m0.size≤1048576) (h13:m13.length≤1048576):L6 N [.str m0,.int m1,.int m2,.int m3,.int m4,.int m5,.int m6,.int m7,.bool m8,.int m9,.int m10,.int m11,.int m12,.rows m13,.int m14,.int m15,.bool m16,.rows (Ai m17),.int m18,.int m19,.int m20,.int m21,.int m22,.int i,.int e0,.int e1,.int e2,.int e3,.bool e4,.int e5,.int e6,.int e7,.int e8,.int e9,.int e10,.int e11,.bool e12,.int e13,.int e14,.int e15,.int e16,.bool e17,.int e18]=some (UN (Ax i (⟨⟨m0,m1,m2,m3,m4,m5,m6,m7,m8,m9,m10,m11,m12,m13⟩,m14,m15,m16,m17,m18,m19,m20,m21,m22⟩:Mat) (⟨e0,e1,e2,e3,e4,e5,e6,⟨e7,e8,e9,e10,e11,e12,e13,e14,e15,e16,e17,e18⟩⟩:Ev))):=by
 show MV (std (Gx N) N) (xOf _)=_;generalize hres:(some (UN (Ax i (⟨⟨m0,m1,m2,m3,m4,m5,m6,m7,m8,m9,m10,m11,m12,m13⟩,m14,m15,m16,m17,m18,m19,m20,m21,m22⟩:Mat) (⟨e0,e1,e2,e3,e4,e5,e6,⟨e7,e8,e9,e10,e11,e12,e13,e14,e15,e16,e17,e18⟩⟩:Ev))):Option (List PV))=RR;simp only [MV,TL,lq9,std,xOf,PXb,gG hN hf hl hs h13];subst hres;simp only [Ax];cases iLe 4000 i<;>rfl
theorem bB {N:Nat} {i:Int} {m8 m16:Bool} {m0:ByteArray} {m13:Rows} {m17:List Inn} {t1 t2 t3 t4 t5 t6 t7 t9 t10 t11 t12 t14 t15 t18 t19 t20 t21 t22:Int} {t8 t16:Bool} {t0:ByteArray} {t13:Rows} {t17:List Inn} {d0 d1 d2 d3 d4 d6 d7 d8 d9 d11:Int} {d5 d10:Bool} (h1:iIn (IntKind.i64.wrap ((m17.length:Int) - 1)) (m17.length:Int)=true) (h2:iIn (IntKind.i64.wrap ((m17.length:Int) - 1)) (t17.length:Int)=true):IQ N [.int i,.str m0,.int m1,.int m2,.int m3,.int m4,.int m5,.int m6,.int m7,.bool m8,.int m9,.int m10,.int m11,.int m12,.rows m13,.int m14,.int m15,.bool m16,.rows (Ai m17),.int m18,.int m19,.int m20,.int m21,.int m22,.str t0,.int t1,.int t2,.int t3,.int t4,.int t5,.int t6,.int t7,.bool t8,.int t9,.int t10,.int t11,.int t12,.rows t13,.int t14,.int t15,.bool t16,.rows (Ai t17),.int t18,.int t19,.int t20,.int t21,.int t22,.int d0,.int d1,.int d2,.int d3,.int d4,.bool d5,.int d6,.int d7,.int d8,.int d9,.bool d10,.int d11]=some (Hl i (⟨⟨m0,m1,m2,m3,m4,m5,m6,m7,m8,m9,m10,m11,m12,m13⟩,m14,m15,m16,m17,m18,m19,m20,m21,m22⟩:Mat) (⟨⟨t0,t1,t2,t3,t4,t5,t6,t7,t8,t9,t10,t11,t12,t13⟩,t14,t15,t16,t17,t18,t19,t20,t21,t22⟩:Mat) (⟨d0,d1,d2,d3,d4,d5,d6,d7,d8,d9,d10,d11⟩:Del)):=by
 show IR (std (J4 N) N) (xOf _)=_;simp only [IR,Lm,lq9,std,xOf,PXb,PXi,h1,h2,PQ];rfl
def Qr (L:Rows) (i:Nat) (s:Rows×Mat):List PV ⊕ Rows×Mat:=cond (!((Ax i s.2 (evR L i)).2==0)) (.inl (.int 0::.rows s.1::.int i::.int (Ax i s.2 (evR L i)).2::s.2.ls)) (.inr (cond ((evR L i).kind==4) (s.1++[Hl i s.2 (Ax i s.2 (evR L i)).1 (evR L i).ball]) s.1,(Ax i s.2 (evR L i)).1))
def mU (out:Rows) (f:Mat×Int×Int):List PV:=cond (f.2.1 == -1) (.int 1::.rows out::f.1.ls) (.int 0::.rows out::.int f.2.1::.int f.2.2::f.1.ls)
theorem eF (L:Rows):∀ k i s,bu (Qr L) (fun s=>.int 1::.rows s.1::s.2.ls) k i s=mU (Mk L k i s.2 s.1) (HW L k i s.2)
 | 0,_,_=>rfl
 | k+1,i,s=>by
  simp only [bu,Qr,HW,Mk];cases (Ax i s.2 (evR L i)).2==0 with
  | false =>
   simp only [Bool.not_false,cond_true,mU];rw [show ((i:Int) == -1)=false from beq_false_of_ne (show (i:Int) ≠ -1 by omega)];rfl
  | true=>exact eF L k (i+1) _
def fo (out:Rows) (f:Mat×Int×Int):List PV:=[.rows out,.str f.1.rules.name,.int f.1.rules.side,.int f.1.rules.innings,.int f.1.rules.overs,.int f.1.rules.balls,.int f.1.rules.quota,.int f.1.rules.wide,.int f.1.rules.noball,.bool f.1.rules.freehit,.int f.1.rules.newball,.int f.1.rules.followon,.int f.1.rules.reviews,.int f.1.rules.outside,.rows f.1.rules.power,.int f.1.stage,.int f.1.first,.bool f.1.follow,.rows (Ai f.1.inns),.int f.1.pen1,.int f.1.pen2,.int f.1.win,.int f.1.wside,.int f.1.margin,.int f.2.1,.int f.2.2]
theorem sT {m t:Mat} {e:Ev} (hl:m.inns.length≤5) (h:((C8 m e).2==0)=true) (hk:(e.kind==4)=true) (ht:(C8 m e).1=t):iIn (IntKind.i64.wrap ((m.inns.length:Int) - 1)) (m.inns.length:Int)=true∧iIn (IntKind.i64.wrap ((m.inns.length:Int) - 1)) (t.inns.length:Int)=true:=by
 obtain ⟨_,h2,_,h4⟩:=US h hk;have:=TI h2 (show m.inns.length≤1000000 by omega);rw [← ht,h4,List.length_set];exact ⟨this,this⟩
set_option maxHeartbeats 8000000 in
theorem cB {N:Nat} {r8:Bool} {r0:ByteArray} {r13:Rows} {L:Rows} (hN:2097152<N) (hs:r0.size≤1048576) (h13:r13.length≤1048576) (hL:L.length≤1048576):HL N [.str r0,.int r1,.int r2,.int r3,.int r4,.int r5,.int r6,.int r7,.bool r8,.int r9,.int r10,.int r11,.int r12,.rows r13,.rows L]=some (fo (Co (⟨r0,r1,r2,r3,r4,r5,r6,r7,r8,r9,r10,r11,r12,r13⟩:Rul) L) (H3 (⟨r0,r1,r2,r3,r4,r5,r6,r7,r8,r9,r10,r11,r12,r13⟩:Rul) L)):=by
  show Me (std (Dg N) N) (xOf _)=_;generalize hres:(some (fo (Co (⟨r0,r1,r2,r3,r4,r5,r6,r7,r8,r9,r10,r11,r12,r13⟩:Rul) L) (H3 (⟨r0,r1,r2,r3,r4,r5,r6,r7,r8,r9,r10,r11,r12,r13⟩:Rul) L)):Option (List PV))=RR;simp only [Me,Uk,M5,JB,lq9,std,xOf,PXb,jb hN hs h13];subst hres;simp only [Co,H3];have nk:=kh (⟨r0,r1,r2,r3,r4,r5,r6,r7,r8,r9,r10,r11,r12,r13⟩:Rul);generalize AZ (⟨r0,r1,r2,r3,r4,r5,r6,r7,r8,r9,r10,r11,r12,r13⟩:Rul)=X at nk;obtain ⟨⟨⟨m0,m1,m2,m3,m4,m5,m6,m7,m8,m9,m10,m11,m12,m13⟩,m14,m15,m16,m17,m18,m19,m20,m21,m22⟩,l⟩:=X;simp only at nk;simp only [PXb,PXc,PXk,Nat.reduceAdd];cases hl:l==0
  case false=>rfl
  have ok:=nk hl;simp only [PXb];refine Ab (eN (St:=Rows×Mat) (len:=L.length) (enc:=fun i s=>[.rows s.1,.int (i:Int),.str s.2.rules.name,.int s.2.rules.side,.int s.2.rules.innings,.int s.2.rules.overs,.int s.2.rules.balls,.int s.2.rules.quota,.int s.2.rules.wide,.int s.2.rules.noball,.bool s.2.rules.freehit,.int s.2.rules.newball,.int s.2.rules.followon,.int s.2.rules.reviews,.int s.2.rules.outside,.rows s.2.rules.power,.int s.2.stage,.int s.2.first,.bool s.2.follow,.rows (Ai s.2.inns),.int s.2.pen1,.int s.2.pen2,.int s.2.win,.int s.2.wside,.int s.2.margin])
    (body:=Qr L) (fin:=fun s=>.int 1::.rows s.1::s.2.ls) (fun i s=>StepOk (⟨r0,r1,r2,r3,r4,r5,r6,r7,r8,r9,r10,r11,r12,r13⟩:Rul) s.2∧s.1.length≤i) ?_ ?_ L.length 0 ([],(⟨⟨m0,m1,m2,m3,m4,m5,m6,m7,m8,m9,m10,m11,m12,m13⟩,m14,m15,m16,m17,m18,m19,m20,m21,m22⟩:Mat)) N (by omega) (by omega) ⟨ok,Nat.zero_le _⟩) ?_
  · intro m self _;simp only [PXb,PXc,PXn,AF,BE];rfl
  · intro i s self hi ok;obtain ⟨out,⟨⟨a0,a1,a2,a3,a4,a5,a6,a7,a8,a9,a10,a11,a12,a13⟩,a14,a15,a16,a17,a18,a19,a20,a21,a22⟩⟩:=s;obtain ⟨ok,hout⟩:=ok;have o1:=ok.rules;have o2:=ok.fit;have o3:=ok.len;simp only at o1 o2 o3 hout;cases o1;have kp:=im ok (i:Int) (evR L i);have acc:=Wi (m:=(⟨⟨r0,r1,r2,r3,r4,r5,r6,r7,r8,r9,r10,r11,r12,r13⟩,a14,a15,a16,a17,a18,a19,a20,a21,a22⟩:Mat)) (i:=(i:Int)) (e:=evR L i);refine ⟨?_,?_⟩
    · simp only [PXb,PXc,PXn,AF,BD (show i≤1099511627776 by omega),A5 hi,AY hi,M5,l8 hN o2 (show a17.length≤1000000 by omega) hs h13,DH,rA,Nat.reduceAdd,PXk,PXc,tV,List.length_append,List.length_cons,List.length_nil,JB];unfold Qr;simp only;generalize hT:Ax (i:Int) (⟨⟨r0,r1,r2,r3,r4,r5,r6,r7,r8,r9,r10,r11,r12,r13⟩,a14,a15,a16,a17,a18,a19,a20,a21,a22⟩:Mat) (evR L i)=T at acc;obtain ⟨⟨⟨b0,b1,b2,b3,b4,b5,b6,b7,b8,b9,b10,b11,b12,b13⟩,b14,b15,b16,b17,b18,b19,b20,b21,b22⟩,l2⟩:=T;simp only at acc;simp only;cases hl2:l2==0
      case false=>rfl
      have hk0:(evR L i).kind=atI L i 0:=rfl;rw [hk0];simp only [PXb];cases hk:atI L i 0==4
      case false=>rfl
      have ha:=(acc hl2).1;have hd:=sT (m:=(⟨⟨r0,r1,r2,r3,r4,r5,r6,r7,r8,r9,r10,r11,r12,r13⟩,a14,a15,a16,a17,a18,a19,a20,a21,a22⟩:Mat)) (e:=evR L i) o3 (by rw [← ha];exact hl2) hk (congrArg Prod.fst ha).symm;simp only at hd;have h216:iSm ((out.length+1:Nat):Int) 216=true:=ID (by omega) (by omega);simp only [PXb,PXc,bB hd.1 hd.2,h216];rfl
    · intro s' h;unfold Qr at h;simp only at h;cases hq:(Ax (i:Int) (⟨⟨r0,r1,r2,r3,r4,r5,r6,r7,r8,r9,r10,r11,r12,r13⟩,a14,a15,a16,a17,a18,a19,a20,a21,a22⟩:Mat) (evR L i)).2==0 with
      | false=>rw [hq] at h;cases h
      | true =>
        rw [hq] at h;cases h;refine ⟨kp,?_⟩;cases (evR L i).kind==4 with
        | false=>show out.length≤_;omega
        | true=>show (out++[_]).length≤_;rw [List.length_append];simp;omega
  · rw [eF];have he:=iX L L.length 0 (⟨⟨m0,m1,m2,m3,m4,m5,m6,m7,m8,m9,m10,m11,m12,m13⟩,m14,m15,m16,m17,m18,m19,m20,m21,m22⟩:Mat);simp only;generalize Mk L L.length 0 (⟨⟨m0,m1,m2,m3,m4,m5,m6,m7,m8,m9,m10,m11,m12,m13⟩,m14,m15,m16,m17,m18,m19,m20,m21,m22⟩:Mat) []=out;generalize HW L L.length 0 (⟨⟨m0,m1,m2,m3,m4,m5,m6,m7,m8,m9,m10,m11,m12,m13⟩,m14,m15,m16,m17,m18,m19,m20,m21,m22⟩:Mat)=f at he;obtain ⟨⟨⟨a0,a1,a2,a3,a4,a5,a6,a7,a8,a9,a10,a11,a12,a13⟩,a14,a15,a16,a17,a18,a19,a20,a21,a22⟩,b,l⟩:=f;simp only at he;unfold mU;cases hb:b == -1 with
    | false=>rfl
    | true =>
      rw [he hb,beq_iff_eq.1 hb];rfl
theorem gP {N:Nat} {r8:Bool} {r0:ByteArray} {r13:Rows} {L:Rows} (hN:2097152<N) (hs:r0.size≤1048576) (h13:r13.length≤1048576) (hL:L.length≤1048576):Iw N [.str r0,.int r1,.int r2,.int r3,.int r4,.int r5,.int r6,.int r7,.bool r8,.int r9,.int r10,.int r11,.int r12,.rows r13,.rows L]=some (qP (H3 (⟨r0,r1,r2,r3,r4,r5,r6,r7,r8,r9,r10,r11,r12,r13⟩:Rul) L)):=by
 show Il (std (Ed N) N) (xOf _)=_;generalize hres:(some (qP (H3 (⟨r0,r1,r2,r3,r4,r5,r6,r7,r8,r9,r10,r11,r12,r13⟩:Rul) L)):Option (List PV))=RR;simp only [Il,Tr,lq9,std,xOf,PXb,cB hN hs h13 hL];subst hres;rfl
def DV (r:Rul) (L:Rows):Int:=cond (!(BF r==0)) (BF r) (cond (iLt 4000 (L.length:Int)) 9 (cond (!((H3 r L).2.2==0)) 10 0))
theorem kE {N:Nat} {r8:Bool} {r0:ByteArray} {r13:Rows} {L:Rows} (hN:2097152<N) (hs:r0.size≤1048576) (h13:r13.length≤1048576) (hL:L.length≤1048576):KU N [.str r0,.int r1,.int r2,.int r3,.int r4,.int r5,.int r6,.int r7,.bool r8,.int r9,.int r10,.int r11,.int r12,.rows r13,.rows L]=some [.int (DV (⟨r0,r1,r2,r3,r4,r5,r6,r7,r8,r9,r10,r11,r12,r13⟩:Rul) L)]:=by
 show KE (std (Dy N) N) (xOf _)=_;generalize hres:(some [.int (DV (⟨r0,r1,r2,r3,r4,r5,r6,r7,r8,r9,r10,r11,r12,r13⟩:Rul) L)]:Option (List PV))=RR;simp only [KE,RZ,Sr,lq9,std,xOf,PXb,C2 hN hs,gP hN hs h13 hL,PXm];subst hres;simp only [DV];rfl
structure LogOk (m:Mat):Prop where
 fit:J2 m.inns
 len:m.inns.length≤5
 name:m.rules.name.size≤1048576
 power:m.rules.power.length≤1048576
def acc (L:Rows):Nat→Nat→Mat→Prop
 | 0,_,_=>True
 | k+1,i,m=>((Ax i m (evR L i)).2==0)=true∧acc L k (i+1) (Ax i m (evR L i)).1
def stM (L:Rows):Nat→Nat→Mat→Mat
 | 0,_,m=>m
 | k+1,i,m=>stM L k (i+1) (Ax i m (evR L i)).1
def UY (L:Rows):Nat→Nat→Mat→Rows→Rows
 | 0,_,_,out=>out
 | k+1,i,m,out=>UY L k (i+1) (Ax i m (evR L i)).1 (cond ((evR L i).kind==4) (out++[Hl i m (Ax i m (evR L i)).1 (evR L i).ball]) out)
theorem Y5 (L : Rows) : ∀ K i m, ∃ k, k ≤ K ∧ acc L k i m ∧ (∀ out, Mk L K i m out = UY L k i m out) ∧
    ((k=K∧HW L K i m=(stM L k i m,-1,0))∨(k<K∧((Ax ((i+k:Nat):Int) (stM L k i m) (evR L (i+k))).2==0)=false∧HW L K i m=(stM L k i m,((i+k:Nat):Int),(Ax ((i+k:Nat):Int) (stM L k i m) (evR L (i+k))).2)))
  | 0,i,m=>⟨0,Nat.le_refl _,trivial,fun _=>rfl,Or.inl ⟨rfl,rfl⟩⟩
  | K+1,i,m=>by
    cases hq:(Ax i m (evR L i)).2==0 with
    | false =>
      refine ⟨0,Nat.zero_le _,trivial,fun out=>?_,Or.inr ⟨Nat.succ_pos _,hq,?_⟩⟩
      · simp only [Mk,hq,Bool.not_false,cond_true];rfl
      · simp only [HW,hq,Bool.not_false,cond_true];rfl
    | true =>
      obtain ⟨k,h1,h2,h3,h4⟩:=Y5 L K (i+1) (Ax i m (evR L i)).1;refine ⟨k+1,Nat.succ_le_succ h1,⟨hq,h2⟩,fun out=>?_,?_⟩
      · simp only [Mk,hq,Bool.not_true,cond_false];exact h3 _
      · have e:HW L (K+1) i m=HW L K (i+1) (Ax i m (evR L i)).1:=by simp only [HW,hq,Bool.not_true,cond_false]
        rw [e,show i+(k+1)=i+1+k by omega]
        rcases h4 with ⟨h5,h6⟩ | ⟨h5,h6⟩
        · exact Or.inl ⟨by omega,h6⟩
        · exact Or.inr ⟨by omega,h6⟩
theorem pW (r:Rul):((AZ r).2==0)=(BF r==0):=by
 unfold AZ;cases h:BF r==0 with
 | false=>exact h
 | true=>rfl
theorem hZ {L:Rows}:∀ k i m,stM L (k+1) i m=(Ax ((i+k:Nat):Int) (stM L k i m) (evR L (i+k))).1
 | 0,i,m=>rfl
 | k+1,i,m=>by
  show stM L (k+1) (i+1) _=_;rw [hZ k (i+1),show i+1+k=i+(k+1) by omega];rfl
theorem Tw {L:Rows}:∀ k i m,acc L k i m→∀ j,j<k→((Ax ((i+j:Nat):Int) (stM L j i m) (evR L (i+j))).2==0)=true
 | 0,_,_,_,j,h=>absurd h (Nat.not_lt_zero j)
 | k+1,i,m,ha,0,_=>ha.1
 | k+1,i,m,ha,j+1,h=>by
  have:=Tw k (i+1) _ ha.2 j (by omega);rw [show i+1+j=i+(j+1) by omega] at this;exact this
theorem lF (r:Rul) (L:Rows):(Co r L).length≤L.length:=by
 unfold Co;cases (AZ r).2==0 with
 | false=>exact Nat.zero_le _
 | true =>
  have:=gW L L.length 0 (AZ r).1 [];rw [List.length_nil,Nat.zero_add] at this;exact this
abbrev wr (n:Int):Int:=IntKind.i64.wrap n
structure Nums (q:Int) (s t:Inn) (a b c:Int):Prop where
 runs:wr (t.runs - t.pens)=wr (s.runs - s.pens+a)
 rw:wr s.runs=s.runs→wr t.runs=t.runs
 balls:CY q t.complete t.inover=wr (s.complete * q+s.inover+b)
 wk:wr t.wickets=wr (s.wickets+c)
theorem QZ (q c i:Int):CY q c i=wr (c * q+i):=by
 unfold CY;simp only [wr,NK];omega
theorem Nums.of {q:Int} {s t:Inn} (h1:t.runs=s.runs) (h2:t.pens=s.pens) (h3:t.complete=s.complete) (h4:t.inover=s.inover) (h5:t.wickets=s.wickets):Nums q s t 0 0 0 :=
 ⟨by rw [h1,h2,Int.add_zero],fun h=>by rw [h1];exact h,by rw [h3,h4,QZ,Int.add_zero],by rw [h5,Int.add_zero]⟩
theorem Nums.out {q:Int} {s t:Inn} (h1:t.runs=s.runs) (h2:t.pens=s.pens) (h3:t.complete=s.complete) (h4:t.inover=s.inover) (h5:t.wickets=wr (s.wickets+1)):Nums q s t 0 0 1 :=
 ⟨by rw [h1,h2,Int.add_zero],fun h=>by rw [h1];exact h,by rw [h3,h4,QZ,Int.add_zero],by rw [h5];exact G9 _⟩
theorem Nums.pen (q:Int) (s:Inn):Nums q s (PH s) 0 0 0 :=
 ⟨by show wr (wr (s.runs+5) - wr (s.pens+5))=_;simp only [wr,NK];omega,fun _=>G9 _,by show CY q s.complete s.inover=_;rw [QZ,Int.add_zero],by show wr s.wickets=_;rw [Int.add_zero]⟩
def Cb (e:Ev):Int:=cond ((e.kind==5&&e.yes)||(e.kind==6 && !e.yes)) 1 0
theorem Nums.fin {q:Int} {s t:Inn} {a b c:Int} (h:Nums q s t a b c) (r:Rul) (x:Bool):Nums q s (Bj r t x) a b c:=⟨h.runs,h.rw,h.balls,h.wk⟩
def cw (e:Ev):Int:=cond (e.kind==4) (cond (e.ball.how==0) 0 1) (Cb e)
structure SumInv (q:Int) (xs:List Inn) (R B:Nat→Int) (O:Int):Prop where
 runs:∀ i,i<xs.length→wr ((inn xs i).runs - (inn xs i).pens)=wr (R i)
 rw:∀ i,i<xs.length→wr (inn xs i).runs=(inn xs i).runs
 balls:∀ i,i<xs.length→CY q (inn xs i).complete (inn xs i).inover=wr (B i)
 zero:∀ i,xs.length≤i→R i=0∧B i=0
 wk:wr (xs.map Inn.wickets).sum=wr O
theorem SumInv.congr {q:Int} {xs:List Inn} {R B R' B':Nat→Int} {O O':Int} (h:SumInv q xs R B O) (h1:∀ i,R i=R' i) (h2:∀ i,B i=B' i) (h3:O=O'):SumInv q xs R' B' O' :=
 ⟨fun i hi=>(h.runs i hi).trans (by rw [h1]),h.rw,fun i hi=>(h.balls i hi).trans (by rw [h2]),fun i hi=>by rw [← h1,← h2];exact h.zero i hi,h.wk.trans (by rw [h3])⟩
def rT (L:Rows) (j:Nat):Int:=Es ⟨atI L j 20,atI L j 21,atI L j 22,atI L j 23,atI L j 24,atI L j 25,atB L j 26,atB L j 27,atB L j 28,atB L j 29⟩
def rS (L:Rows) (i:Nat):Nat→Int
 | 0=>0
 | n+1=>rS L i n+cond (atI L n 1==(i:Int)) (rT L n) 0
def bS (L:Rows) (i:Nat):Nat→Int
 | 0=>0
 | n+1=>bS L i n+cond (atI L n 1==(i:Int)&&atB L n 26) 1 0
def hS (L:Rows):Nat→Int
 | 0=>0
 | n+1=>hS L n+cond (atI L n 14==0) 0 1
end Go.Px
end
