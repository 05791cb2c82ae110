/- Part 12. -/
import Derived.Test.YtfelmmkjeicgoaaGreatDoorPart08
import Derived.Test.YtfelmmkjeicgoaaGreatDoorPart11
import Derived.Test.YtfelmmkjeicgoaaGreatDoorPart07
set_option linter.unusedVariables false
set_option linter.unusedSimpArgs false
variable {m1 m2 m3 m4 m5 m6 m7 m9 m10 m11 m12 m14 m15 m18 m19 m20 m21 m22:Int}
section
namespace Go.Px
def AW (xs:List Inn):Rows:=xs.map Inn.ls
def dI:Inn:=⟨0,0,0,0,0,0,0,0,0,0,0,0,0,0,[],0,[],[],false,[],false,0,0,0,[],0,0,0⟩
def inn (xs:List Inn) (i:Nat):Inn:=xs.getD i dI
structure Mat where
 rules:Rul
 stage:Int
 first:Int
 follow:Bool
 inns:List Inn
 pen1:Int
 pen2:Int
 win:Int
 wside:Int
 margin:Int
def Mat.ls (m:Mat):List PV:=[.str m.rules.name,.int m.rules.side,.int m.rules.innings,.int m.rules.overs,.int m.rules.balls,.int m.rules.quota,.int m.rules.wide,.int m.rules.noball,.bool m.rules.freehit,.int m.rules.newball,.int m.rules.followon,.int m.rules.reviews,.int m.rules.outside,.rows m.rules.power,.int m.stage,.int m.first,.bool m.follow,.rows (AW m.inns),.int m.pen1,.int m.pen2,.int m.win,.int m.wside,.int m.margin]
def Z5 (x:Mat×Int):List PV:=[.str x.1.rules.name,.int x.1.rules.side,.int x.1.rules.innings,.int x.1.rules.overs,.int x.1.rules.balls,.int x.1.rules.quota,.int x.1.rules.wide,.int x.1.rules.noball,.bool x.1.rules.freehit,.int x.1.rules.newball,.int x.1.rules.followon,.int x.1.rules.reviews,.int x.1.rules.outside,.rows x.1.rules.power,.int x.1.stage,.int x.1.first,.bool x.1.follow,.rows (AW x.1.inns),.int x.1.pen1,.int x.1.pen2,.int x.1.win,.int x.1.wside,.int x.1.margin,.int x.2]
theorem SS (xs:List Inn) (i:Nat):Aq (AW xs) i=(match xs[i]? with | some s=>s.ls | none=>[]):=by
 unfold Aq AW;rw [List.getD_eq_getElem?_getD,List.getElem?_map];cases xs[i]?<;>rfl
theorem Hb (xs:List Inn) (i:Nat):inn xs i=(match xs[i]? with | some s=>s | none=>dI):=by
 unfold inn;rw [List.getD_eq_getElem?_getD];cases xs[i]?<;>rfl
theorem Ql (xs:List Inn):(AW xs).length=xs.length:=List.length_map _
theorem PXi : (∀ xs : List Inn, (AW xs).length = xs.length) ∧ (∀ (xs : List Inn) (i : Nat), pvI (AL (AW xs) i 0) = (inn xs i).side) ∧ (∀ (xs : List Inn) (i : Nat), pvI (AL (AW xs) i 1) = (inn xs i).target) ∧ (∀ (xs : List Inn) (i : Nat), pvI (AL (AW xs) i 2) = (inn xs i).overs) ∧ (∀ (xs : List Inn) (i : Nat), pvI (AL (AW xs) i 3) = (inn xs i).runs) ∧
    (∀ (xs:List Inn) (i:Nat),pvI (AL (AW xs) i 4)=(inn xs i).wickets)∧(∀ (xs:List Inn) (i:Nat),pvI (AL (AW xs) i 5)=(inn xs i).wides)∧(∀ (xs:List Inn) (i:Nat),pvI (AL (AW xs) i 6)=(inn xs i).noballs)∧(∀ (xs:List Inn) (i:Nat),pvI (AL (AW xs) i 7)=(inn xs i).byes)∧(∀ (xs:List Inn) (i:Nat),pvI (AL (AW xs) i 8)=(inn xs i).legbyes) ∧
    (∀ (xs:List Inn) (i:Nat),pvI (AL (AW xs) i 9)=(inn xs i).pens)∧(∀ (xs:List Inn) (i:Nat),pvI (AL (AW xs) i 10)=(inn xs i).complete)∧(∀ (xs:List Inn) (i:Nat),pvI (AL (AW xs) i 11)=(inn xs i).inover)∧(∀ (xs:List Inn) (i:Nat),pvI (AL (AW xs) i 12)=(inn xs i).striker)∧(∀ (xs:List Inn) (i:Nat),pvI (AL (AW xs) i 13)=(inn xs i).other) ∧
    (∀ (xs:List Inn) (i:Nat),pvL (AL (AW xs) i 14)=(inn xs i).batters)∧(∀ (xs:List Inn) (i:Nat),pvI (AL (AW xs) i 15)=(inn xs i).bowler)∧(∀ (xs:List Inn) (i:Nat),pvL (AL (AW xs) i 16)=(inn xs i).bowlers)∧(∀ (xs:List Inn) (i:Nat),pvL (AL (AW xs) i 17)=(inn xs i).before)∧(∀ (xs:List Inn) (i:Nat),pvB (AL (AW xs) i 18)=(inn xs i).fresh) ∧
    (∀ (xs:List Inn) (i:Nat),pvL (AL (AW xs) i 19)=(inn xs i).bowled)∧(∀ (xs:List Inn) (i:Nat),pvB (AL (AW xs) i 20)=(inn xs i).freehit)∧(∀ (xs:List Inn) (i:Nat),pvI (AL (AW xs) i 21)=(inn xs i).ballage)∧(∀ (xs:List Inn) (i:Nat),pvI (AL (AW xs) i 22)=(inn xs i).keeper)∧(∀ (xs:List Inn) (i:Nat),pvI (AL (AW xs) i 23)=(inn xs i).outside) ∧
    (∀ (xs:List Inn) (i:Nat),pvL (AL (AW xs) i 24)=(inn xs i).subs)∧(∀ (xs:List Inn) (i:Nat),pvI (AL (AW xs) i 25)=(inn xs i).rev1)∧(∀ (xs:List Inn) (i:Nat),pvI (AL (AW xs) i 26)=(inn xs i).rev2)∧(∀ (xs:List Inn) (i:Nat),pvI (AL (AW xs) i 27)=(inn xs i).ending):=by
  refine ⟨Ql,?_,?_,?_,?_,?_,?_,?_,?_,?_,?_,?_,?_,?_,?_,?_,?_,?_,?_,?_,?_,?_,?_,?_,?_,?_,?_,?_,?_⟩
  all_goals (intro xs i;rw [Hb];unfold AL;rw [SS];cases xs[i]?<;>rfl)
theorem Mat.eta (m:Mat):Mat.mk m.rules m.stage m.first m.follow m.inns m.pen1 m.pen2 m.win m.wside m.margin=m:=rfl
theorem PXk : (∀ m : Mat, m.ls = [.str m.rules.name, .int m.rules.side, .int m.rules.innings, .int m.rules.overs, .int m.rules.balls, .int m.rules.quota, .int m.rules.wide, .int m.rules.noball, .bool m.rules.freehit, .int m.rules.newball, .int m.rules.followon, .int m.rules.reviews, .int m.rules.outside, .rows m.rules.power, .int m.stage, .int m.first, .bool m.follow, .rows (AW m.inns), .int m.pen1, .int m.pen2, .int m.win, .int m.wside, .int m.margin]) ∧
    (∀ x:Mat×Int,Z5 x=[.str x.1.rules.name,.int x.1.rules.side,.int x.1.rules.innings,.int x.1.rules.overs,.int x.1.rules.balls,.int x.1.rules.quota,.int x.1.rules.wide,.int x.1.rules.noball,.bool x.1.rules.freehit,.int x.1.rules.newball,.int x.1.rules.followon,.int x.1.rules.reviews,.int x.1.rules.outside,.rows x.1.rules.power,.int x.1.stage,.int x.1.first,.bool x.1.follow,.rows (AW x.1.inns),.int x.1.pen1,.int x.1.pen2,.int x.1.win,.int x.1.wside,.int x.1.margin,.int x.2]) ∧
    (∀ m:Mat,Mat.mk m.rules m.stage m.first m.follow m.inns m.pen1 m.pen2 m.win m.wside m.margin=m):=⟨fun _=>rfl,fun _=>rfl,fun _=>rfl⟩
theorem Vx:∀ (ps r pre:List PV),r.length=ps.length→Bn (pre++r) pre.length ps=pre++ps
 | [],r,pre,h=>by
  have:r=[]:=List.eq_nil_of_length_eq_zero h;subst this;rfl
 | p::ps,[],pre,h=>by cases h
 | p::ps,a::r,pre,h=>by
  have ih:=Vx ps r (pre++[p]) (by simpa using h);simp only [List.length_append,List.length_cons,List.length_nil,List.append_assoc,List.cons_append,List.nil_append] at ih;unfold Bn;rw [List.set_append_right _ _ (Nat.le_refl _),Nat.sub_self];exact ih
theorem Zb (a s:Inn):Bn a.ls 0 s.ls=s.ls:=Vx s.ls a.ls [] rfl
theorem Y4 (a:Inn) (e:Int):Bn a.ls 27 [.int e]=Inn.ls { a with ending:=e }:=by
 show a.ls.set 27 (.int e)=_;rfl
theorem Y5 {xs:List Inn} {i:Nat} (h:i<xs.length) (s:Inn):(AW xs).set i (Bn (Aq (AW xs) i) 0 s.ls)=AW (xs.set i s):=by
 have e:Aq (AW xs) i=(xs[i]).ls:=by rw [SS,List.getElem?_eq_getElem h]
 rw [e,Zb];exact List.map_set.symm
theorem ZA {xs:List Inn} {i:Nat} (h:i<xs.length) (e:Int):(AW xs).set i (Bn (Aq (AW xs) i) 27 [.int e])=AW (xs.set i { inn xs i with ending:=e }):=by
 have e1:Aq (AW xs) i=(inn xs i).ls:=by rw [SS,Hb,List.getElem?_eq_getElem h]
 rw [e1,Y4];exact List.map_set.symm
theorem ZC (xs:List Inn) (s:Inn):AW xs++[s.ls]=AW (xs++[s]):=by
 show List.map Inn.ls xs++List.map Inn.ls [s]=List.map Inn.ls (xs++[s]);exact List.map_append.symm
theorem ZM (xs:List Inn) (i:Nat) (s:Inn):(AW xs).set i (Bn (Aq (AW xs) i) 0 s.ls)=AW (xs.set i s):=by
 by_cases h:i<xs.length
 ·exact Y5 h s
 ·rw [List.set_eq_of_length_le (by rw [Ql];omega),List.set_eq_of_length_le (by omega)]
theorem VY (xs:List Inn) (i:Nat) (e:Int):(AW xs).set i (Bn (Aq (AW xs) i) 27 [.int e])=AW (xs.set i { inn xs i with ending:=e }):=by
 by_cases h:i<xs.length
 ·exact ZA h e
 ·rw [List.set_eq_of_length_le (by rw [Ql];omega),List.set_eq_of_length_le (by omega)]
theorem PXr : (∀ (xs : List Inn) (x0 x1 x2 x3 x4 x5 x6 x7 x8 x9 x10 x11 x12 x13 x15 x21 x22 x23 x25 x26 x27 : Int) (x18 x20 : Bool) (x14 x16 x17 x19 x24 : Rows), AW xs ++ [([.int x0, .int x1, .int x2, .int x3, .int x4, .int x5, .int x6, .int x7, .int x8, .int x9, .int x10, .int x11, .int x12, .int x13, .rows x14, .int x15, .rows x16, .rows x17, .bool x18, .rows x19, .bool x20, .int x21, .int x22, .int x23, .rows x24, .int x25, .int x26, .int x27] : List PV)] = AW (xs ++ [⟨x0, x1, x2, x3, x4, x5, x6, x7, x8, x9, x10, x11, x12, x13, x14, x15, x16, x17, x18, x19, x20, x21, x22, x23, x24, x25, x26, x27⟩])) ∧ (∀ (xs : List Inn) (i : Nat) (x0 x1 x2 x3 x4 x5 x6 x7 x8 x9 x10 x11 x12 x13 x15 x21 x22 x23 x25 x26 x27 : Int) (x18 x20 : Bool) (x14 x16 x17 x19 x24 : Rows), (AW xs).set i (Bn (Aq (AW xs) i) 0 [.int x0, .int x1, .int x2, .int x3, .int x4, .int x5, .int x6, .int x7, .int x8, .int x9, .int x10, .int x11, .int x12, .int x13, .rows x14, .int x15, .rows x16, .rows x17, .bool x18, .rows x19, .bool x20, .int x21, .int x22, .int x23, .rows x24, .int x25, .int x26, .int x27]) = AW (xs.set i ⟨x0, x1, x2, x3, x4, x5, x6, x7, x8, x9, x10, x11, x12, x13, x14, x15, x16, x17, x18, x19, x20, x21, x22, x23, x24, x25, x26, x27⟩)) ∧
    (∀ (xs:List Inn) (i:Nat) (e:Int),(AW xs).set i (Bn (Aq (AW xs) i) 27 [.int e])=AW (xs.set i { inn xs i with ending:=e })) :=
  ⟨fun xs x0 x1 x2 x3 x4 x5 x6 x7 x8 x9 x10 x11 x12 x13 x15 x21 x22 x23 x25 x26 x27 x18 x20 x14 x16 x17 x19 x24=>ZC xs ⟨x0,x1,x2,x3,x4,x5,x6,x7,x8,x9,x10,x11,x12,x13,x14,x15,x16,x17,x18,x19,x20,x21,x22,x23,x24,x25,x26,x27⟩,fun xs i x0 x1 x2 x3 x4 x5 x6 x7 x8 x9 x10 x11 x12 x13 x15 x21 x22 x23 x25 x26 x27 x18 x20 x14 x16 x17 x19 x24=>ZM xs i ⟨x0,x1,x2,x3,x4,x5,x6,x7,x8,x9,x10,x11,x12,x13,x14,x15,x16,x17,x18,x19,x20,x21,x22,x23,x24,x25,x26,x27⟩,VY⟩
end Go.Px
end
section
namespace Go.Px
set_option maxRecDepth 100000
def Hv (n:Int):Int:=IntKind.i64.wrap (3 - n)
theorem Mw {N:Nat} {n:Int}  : A5 N [.int n]=some [.int (Hv n)]:=by
 show FM (std (KS N) N) (xOf _)=_;simp only [FM,Alg.q,std,xOf,PXb,PXc,PXn,PXm,Nat.reduceAdd,Int.reduceBEq,Hv]
def Lc (m:Mat) (i:Int):Int:=cond (cond (m.follow&&iLe 2 i) (i==2) (i.tmod 2==1)) (Hv m.first) m.first
theorem Mq {N:Nat} {m8 m16:Bool} {m0:ByteArray} {m13:Rows} {m17:List Inn} {i:Int}  : BP N [.str m0,.int m1,.int m2,.int m3,.int m4,.int m5,.int m6,.int m7,.bool m8,.int m9,.int m10,.int m11,.int m12,.rows m13,.int m14,.int m15,.bool m16,.rows (AW m17),.int m18,.int m19,.int m20,.int m21,.int m22,.int i]=some [.int (Lc (⟨⟨m0,m1,m2,m3,m4,m5,m6,m7,m8,m9,m10,m11,m12,m13⟩,m14,m15,m16,m17,m18,m19,m20,m21,m22⟩:Mat) i)]:=by
 show FT (std (Gi N) N) (xOf _)=_;generalize hres:(some [.int (Lc (⟨⟨m0,m1,m2,m3,m4,m5,m6,m7,m8,m9,m10,m11,m12,m13⟩,m14,m15,m16,m17,m18,m19,m20,m21,m22⟩:Mat) i)]:Option (List PV))=RR;simp only [FT,Iq,Alg.q,std,xOf,PXb,PXc,PXn,PXm,Nat.reduceAdd,Int.reduceBEq,Mw];subst hres;simp only [Lc]
def Ca (xs:List Inn) (side:Int):Nat→Int
 | 0=>0
 | i+1=>cond ((inn xs i).side==side) (IntKind.i64.wrap (Ca xs side i+(inn xs i).runs)) (Ca xs side i)
def EN (m:Mat) (side:Int):Int:=Ca m.inns side m.inns.length
theorem NJ {N:Nat} {m8 m16:Bool} {m0:ByteArray} {m13:Rows} {m17:List Inn} {n:Int} (hN:2097152<N) (hl:m17.length≤1048576):BF N [.str m0,.int m1,.int m2,.int m3,.int m4,.int m5,.int m6,.int m7,.bool m8,.int m9,.int m10,.int m11,.int m12,.rows m13,.int m14,.int m15,.bool m16,.rows (AW m17),.int m18,.int m19,.int m20,.int m21,.int m22,.int n]=some [.int (EN (⟨⟨m0,m1,m2,m3,m4,m5,m6,m7,m8,m9,m10,m11,m12,m13⟩,m14,m15,m16,m17,m18,m19,m20,m21,m22⟩:Mat) n)]:=by
 show FL (std (KF N) N) (xOf _)=_;generalize hres:(some [.int (EN (⟨⟨m0,m1,m2,m3,m4,m5,m6,m7,m8,m9,m10,m11,m12,m13⟩,m14,m15,m16,m17,m18,m19,m20,m21,m22⟩:Mat) n)]:Option (List PV))=RR;simp only [FL,Alg.q,std,xOf,PXb,PXi];subst hres;simp only [EN];refine BZ (Jj (len:=m17.length) (fun i=>[.int (Ca m17 n i),.int (i:Int)]) [.int (Ca m17 n m17.length)] ?_ ?_ N (by omega)) rfl
 ·intro self;simp only [PXb,PXc,PXn,Ac,Ds]
 ·intro i self hi;simp only [PXb,PXc,Ac,CG (show i≤1099511627776 by omega),Cq hi,Bs hi,PXi,Ca];cases (inn m17 i).side==n<;>rfl
def Ry (stage:Int) (xs:List Inn) (i:Nat):Bool := !(((inn xs i).ending==0)==(stage==3&&((i:Int)==IntKind.i64.wrap ((xs.length:Int) - 1))))
def Oh (m:Mat):Bool := !BD (Ry m.stage m.inns) m.inns.length 0&&(!(m.stage==3)||iLt 0 (m.inns.length:Int))
theorem Tl {N:Nat} {m8 m16:Bool} {m0:ByteArray} {m13:Rows} {m17:List Inn} (hN:2097152<N) (hl:m17.length≤1048576):Dq N [.str m0,.int m1,.int m2,.int m3,.int m4,.int m5,.int m6,.int m7,.bool m8,.int m9,.int m10,.int m11,.int m12,.rows m13,.int m14,.int m15,.bool m16,.rows (AW m17),.int m18,.int m19,.int m20,.int m21,.int m22]=some [.bool (Oh (⟨⟨m0,m1,m2,m3,m4,m5,m6,m7,m8,m9,m10,m11,m12,m13⟩,m14,m15,m16,m17,m18,m19,m20,m21,m22⟩:Mat))]:=by
 show FK (std (KI N) N) (xOf _)=_;generalize hres:(some [.bool (Oh (⟨⟨m0,m1,m2,m3,m4,m5,m6,m7,m8,m9,m10,m11,m12,m13⟩,m14,m15,m16,m17,m18,m19,m20,m21,m22⟩:Mat))]:Option (List PV))=RR;simp only [FK,Alg.q,std,xOf,PXb,PXi];subst hres;simp only [Oh];refine BZ (JI (len:=m17.length) (Ry m14 m17) [.bool false] ?_ ?_ N (by omega)) ?_
 ·intro self;simp only [PXb,PXc,PXn,Ac,Ds]
 ·intro i self hi;simp only [PXb,PXc,Ac,CG (show i≤1099511627776 by omega),Cq hi,Bs hi,PXi,Ry]
 ·cases BD (Ry m14 m17) m17.length 0 with
  | true=>rfl
  | false=>simp only [PXb,PXc,PXn,PXm,Nat.reduceAdd,Int.reduceBEq]
end Go.Px
end
section
namespace Go.Px
set_option maxRecDepth 100000
def OO (xs:List Inn):Prop:=∀ i,i<xs.length→(inn xs i).Fit
theorem Tx {xs:List Inn} {i:Nat} (h:i<xs.length):xs.take i++[inn xs i]=xs.take (i+1):=by
 rw [List.take_add_one,Hb,List.getElem?_eq_getElem h];rfl
def UX (m:Mat):Bool:=(iLt m.pen1 0||iLt 1000000 m.pen1)||(iLt m.pen2 0||iLt 1000000 m.pen2)
def N2 (m:Mat) (i:Nat):Bool := !Ll m.rules (inn m.inns i) || !((inn m.inns i).side==Lc m (i:Int))
def WW (m:Mat):Bool :=
  let n:Int:=m.inns.length
  let most:=IntKind.i64.wrap (2 * m.rules.innings)
  Km m.rules==0&&(!(iLt m.stage 1)&&(!(iLt 5 m.stage)&&(!UX m&&(!(iLt m.first 0||iLt 2 m.first||iLt most n)&&(!(m.first==0&&(iLt 0 n||(!(m.stage==1) && !(m.stage==5)))) &&
    (!(m.stage==1 && !(m.first==0))&&(!(m.stage==2&&n==most)&&(!(m.stage==4&&(!(m.rules.innings==2) || !(n==2))) && !(m.follow&&(!(m.rules.innings==2)||iLt n 2))))))))))
def Bo (m:Mat):Bool:=WW m&&(!BD (N2 m) m.inns.length 0&&Oh m)
set_option maxHeartbeats 4000000 in
theorem FN {N:Nat} {m8 m16:Bool} {m0:ByteArray} {m13:Rows} {m17:List Inn} (hf:OO m17) (hN:2097152<N) (hl:m17.length≤1000000) (hs:m0.size≤1048576):Ao N [.str m0,.int m1,.int m2,.int m3,.int m4,.int m5,.int m6,.int m7,.bool m8,.int m9,.int m10,.int m11,.int m12,.rows m13,.int m14,.int m15,.bool m16,.rows (AW m17),.int m18,.int m19,.int m20,.int m21,.int m22]=some [.bool (Bo (⟨⟨m0,m1,m2,m3,m4,m5,m6,m7,m8,m9,m10,m11,m12,m13⟩,m14,m15,m16,m17,m18,m19,m20,m21,m22⟩:Mat))]:=by
 show FR (std (CB N) N) (xOf _)=_;generalize hres:(some [.bool (Bo (⟨⟨m0,m1,m2,m3,m4,m5,m6,m7,m8,m9,m10,m11,m12,m13⟩,m14,m15,m16,m17,m18,m19,m20,m21,m22⟩:Mat))]:Option (List PV))=RR;simp only [FR,Iy,DZ,EG,EL,Alg.q,std,xOf,PXb,Ts hN hs,PXi];subst hres;simp only [Bo,WW];cases hc:Km (⟨⟨m0,m1,m2,m3,m4,m5,m6,m7,m8,m9,m10,m11,m12,m13⟩,m14,m15,m16,m17,m18,m19,m20,m21,m22⟩:Mat).rules==0<;>(try rfl);cases h1:iLt m14 1<;>(try rfl);cases h5:iLt 5 m14<;>(try rfl);simp only [PXb];refine BZ (JI (len:=2) (fun i=>iLt (cond ((i:Int)==1) m19 m18) 0||iLt 1000000 (cond ((i:Int)==1) m19 m18)) [.bool false] ?_ ?_ N (by omega)) ?_
 ·intro self;rfl
 ·intro i self hi;simp only [PXb,CG (show i≤1099511627776 by omega),show iLt (i:Int) 2=true from Cq (len:=2) hi,show iIn (i:Int) 2=true from Bs (len:=2) hi]
 ·have hp:BD (fun i=>iLt (cond ((i:Int)==1) m19 m18) 0||iLt 1000000 (cond ((i:Int)==1) m19 m18)) 2 0=UX (⟨⟨m0,m1,m2,m3,m4,m5,m6,m7,m8,m9,m10,m11,m12,m13⟩,m14,m15,m16,m17,m18,m19,m20,m21,m22⟩:Mat):=by
   simp only [Bk,KN,Bool.or_false];rfl
  rw [hp];cases UX (⟨⟨m0,m1,m2,m3,m4,m5,m6,m7,m8,m9,m10,m11,m12,m13⟩,m14,m15,m16,m17,m18,m19,m20,m21,m22⟩:Mat)
  case true=>rfl
  simp only [PXb,W9,Int.reduceBEq];cases iLt m15 0<;>try rfl
  cases iLt 2 m15<;>try rfl
  cases iLt (IntKind.i64.wrap (2 * m2)) (m17.length:Int)<;>try rfl
  cases (m15==0&&(iLt 0 (m17.length:Int)||(!(m14==1) && !(m14==5))))<;>try rfl
  cases (m14==1 && !(m15==0))<;>try rfl
  cases (m14==2&&(m17.length:Int)==IntKind.i64.wrap (2 * m2))<;>try rfl
  cases (m14==4&&(!(m2==2) || !((m17.length:Int)==2)))<;>try rfl
  cases (m16&&(!(m2==2)||iLt (m17.length:Int) 2))<;>try rfl
  simp only [PXb];refine BZ (JI (len:=m17.length) (N2 (⟨⟨m0,m1,m2,m3,m4,m5,m6,m7,m8,m9,m10,m11,m12,m13⟩,m14,m15,m16,m17,m18,m19,m20,m21,m22⟩:Mat)) [.bool false] ?_ ?_ N (by omega)) ?_
  ·intro self;simp only [PXb,PXc,PXn,Ac,Ds]
  ·intro i self hi;simp only [PXb,PXc,PXn,PXm,Nat.reduceAdd,Int.reduceBEq,CG (show i≤1099511627776 by omega),Cq hi,Bs hi,PXi,DZ,EG,SI (hf i hi) hN hs,Mq,N2];cases Ll (⟨⟨m0,m1,m2,m3,m4,m5,m6,m7,m8,m9,m10,m11,m12,m13⟩,m14,m15,m16,m17,m18,m19,m20,m21,m22⟩:Mat).rules (inn m17 i)<;>first | rfl | simp only [PXb,PXc,PXn,PXm,Nat.reduceAdd,Int.reduceBEq]
  ·cases BD (N2 (⟨⟨m0,m1,m2,m3,m4,m5,m6,m7,m8,m9,m10,m11,m12,m13⟩,m14,m15,m16,m17,m18,m19,m20,m21,m22⟩:Mat)) m17.length 0
   case true=>rfl
   simp only [PXb,PXc,PXn,PXm,Nat.reduceAdd,Int.reduceBEq,EL,Tl hN (show m17.length≤1048576 by omega)]
end Go.Px
end
section
namespace Go.Px
set_option maxRecDepth 100000
def lnx (xs:List Inn):Nat:=(IntKind.i64.wrap ((xs.length:Int) - 1)).toNat
def UC (m:Mat):Inn:=inn m.inns (lnx m.inns)
theorem Vo {n:Nat} (h:((n:Int)==0)=false) (hl:n≤1000000):iIn (IntKind.i64.wrap ((n:Int) - 1)) (n:Int)=true:=by
 rw [beq_eq_false_iff_ne] at h;rw [EX (by omega) (by omega)];simp only [iIn,decide_eq_true_eq];omega
def UI (r:Rul):Int:=cond (r.overs==0) 5 6
theorem Ou {N:Nat} {r1 r2 r3 r4 r5 r6 r7 r9 r10 r11 r12:Int} {r8:Bool} {r0:ByteArray} {r13:Rows}  : BM N [.str r0,.int r1,.int r2,.int r3,.int r4,.int r5,.int r6,.int r7,.bool r8,.int r9,.int r10,.int r11,.int r12,.rows r13]=some [.int (UI (⟨r0,r1,r2,r3,r4,r5,r6,r7,r8,r9,r10,r11,r12,r13⟩:Rul))]:=by
 show Cv (std (GD N) N) (xOf _)=_;simp only [Cv,Alg.q,std,xOf,PXb,PXc,PXn,PXm,Nat.reduceAdd,Int.reduceBEq,UI]
def WU (x:Int×Int×Int):List PV:=[.int x.1,.int x.2.1,.int x.2.2]
def JX (m:Mat):Int×Int×Int :=
  let n:Int:=m.inns.length
  let most:=IntKind.i64.wrap (2 * m.rules.innings)
  let x:=UC m
  cond (!Bo m||n==0) (0,0,0) (cond (x.ending==5) (UI m.rules,0,0) (cond (x.ending==0) (0,0,0)
    (cond (n==most&&iLe x.target x.runs) (2,x.side,IntKind.i64.wrap (IntKind.i64.wrap (m.rules.side - 1) - x.wickets)) (cond (n==most&&x.runs==IntKind.i64.wrap (x.target - 1)) (4,0,0)
      (cond (n==most) (1,Hv x.side,IntKind.i64.wrap (IntKind.i64.wrap (x.target - 1) - x.runs))
        (cond (n==3&&iLt (EN m x.side) (EN m (Hv x.side))) (3,Hv x.side,IntKind.i64.wrap (EN m (Hv x.side) - EN m x.side)) (0,0,0)))))))
set_option maxHeartbeats 4000000 in
theorem RI {N:Nat} {m8 m16:Bool} {m0:ByteArray} {m13:Rows} {m17:List Inn} (hf:OO m17) (hN:2097152<N) (hl:m17.length≤1000000) (hs:m0.size≤1048576):B9 N [.str m0,.int m1,.int m2,.int m3,.int m4,.int m5,.int m6,.int m7,.bool m8,.int m9,.int m10,.int m11,.int m12,.rows m13,.int m14,.int m15,.bool m16,.rows (AW m17),.int m18,.int m19,.int m20,.int m21,.int m22]=some (WU (JX (⟨⟨m0,m1,m2,m3,m4,m5,m6,m7,m8,m9,m10,m11,m12,m13⟩,m14,m15,m16,m17,m18,m19,m20,m21,m22⟩:Mat))):=by
 show EK (std (Bt N) N) (xOf _)=_;generalize hres:(some (WU (JX (⟨⟨m0,m1,m2,m3,m4,m5,m6,m7,m8,m9,m10,m11,m12,m13⟩,m14,m15,m16,m17,m18,m19,m20,m21,m22⟩:Mat))):Option (List PV))=RR;simp only [EK,Hy,H4,Hf,Fc,Alg.q,std,xOf,PXb,PXi,FN hf hN hl hs,Mw,Ou,NJ hN (show m17.length≤1048576 by omega)];subst hres;simp only [JX,UC,lnx];cases hv:Bo (⟨⟨m0,m1,m2,m3,m4,m5,m6,m7,m8,m9,m10,m11,m12,m13⟩,m14,m15,m16,m17,m18,m19,m20,m21,m22⟩:Mat)
 case false=>rfl
 cases h0:(m17.length:Int)==0
 case true=>rfl
 simp only [PXb,Vo h0 hl];generalize inn m17 (IntKind.i64.wrap ((m17.length:Int) - 1)).toNat=x;cases x.ending==5
 case true=>rfl
 cases x.ending==0
 case true=>rfl
 cases (m17.length:Int)==IntKind.i64.wrap (2 * m2)<;>cases iLe x.target x.runs<;>cases x.runs==IntKind.i64.wrap (x.target - 1)<;>try rfl
 all_goals (cases (m17.length:Int)==3<;>try rfl)
 all_goals (simp only [PXb];cases iLt (EN (⟨⟨m0,m1,m2,m3,m4,m5,m6,m7,m8,m9,m10,m11,m12,m13⟩,m14,m15,m16,m17,m18,m19,m20,m21,m22⟩:Mat) x.side) (EN (⟨⟨m0,m1,m2,m3,m4,m5,m6,m7,m8,m9,m10,m11,m12,m13⟩,m14,m15,m16,m17,m18,m19,m20,m21,m22⟩:Mat) (Hv x.side))<;>rfl)
end Go.Px
end
section
namespace Go.Px
set_option maxRecDepth 100000
theorem bind_ok {X:Option (List PV)} {r:List PV} {k:List PV→Option (List PV)} {g:Option (List PV)} (h:X=some r) (hk:k r=g):X.bind k=g:=by rw [h];exact hk
structure MatOk (m:Mat):Prop where
 code:Km m.rules=0
 len:m.inns.length≤4
 innv:∀ i,i<m.inns.length→Ll m.rules (inn m.inns i)=true∧(inn m.inns i).side=Lc m (i:Int)
 begun:(m.stage==3)=true→((m.inns.length:Int)==0)=false
 toss:(m.stage==2)=true→m.first=1∨m.first=2
 room:(m.stage==2)=true→(m.inns.length:Int)<2 * m.rules.innings
 most:IntKind.i64.wrap (2 * m.rules.innings)=2 * m.rules.innings∧(m.inns.length:Int)≤2 * m.rules.innings
theorem UN {m:Mat} (h:Bo m=true):MatOk m:=by
 unfold Bo WW at h;simp only [Bool.and_eq_true,Bool.not_eq_true'] at h;obtain ⟨⟨h1,h2,h3,h4,h5,h6,h7,h8,h9,h10⟩,h11,h12⟩:=h;have hc:=beq_iff_eq.1 h1;have rk:=(PT hc).innings;have e2:IntKind.i64.wrap (2 * m.rules.innings)=2 * m.rules.innings:=EX (by omega) (by omega);rw [e2] at h5 h8;rw [Bool.or_eq_false_iff,Bool.or_eq_false_iff] at h5;have hn:=h5.2;have hf1:=h5.1.1;have hf2:=h5.1.2;simp only [iLt,decide_eq_false_iff_not] at hn hf1 hf2;refine ⟨hc,by omega,fun i hi=>?_,fun hs=>?_,fun hs=>?_,fun hs=>?_,e2,by omega⟩
 ·have:=Mh.1 h11 i (by omega) (by omega);unfold N2 at this;rw [Bool.or_eq_false_iff,Bool.not_eq_false',Bool.not_eq_false',beq_iff_eq] at this;exact this
 ·unfold Oh at h12;rw [hs,Bool.and_eq_true] at h12;have:=h12.2;simp only [iLt,Bool.not_true,Bool.false_or,decide_eq_true_eq] at this;exact beq_false_of_ne (by omega)
 ·rw [beq_iff_eq.1 hs] at h6;cases h0:m.first==0 with
  | true=>rw [h0] at h6;simp at h6
  | false =>
   rw [beq_eq_false_iff_ne] at h0;omega
 ·rw [hs,Bool.true_and,beq_eq_false_iff_ne] at h8;omega
structure ActOk (m:Mat) (x:Mat×Int):Prop where
 rules:x.1.rules=m.rules
 fit:OO x.1.inns
 len:x.1.inns.length≤5
 some':(x.2==0)=true→(x.1.stage==3)=true→((x.1.inns.length:Int)==0)=false
end Go.Px
end
section
namespace Go.Px
set_option maxRecDepth 100000
def JS (m:Mat):Int:=cond (!Bo m) 0 (cond (m.stage==3) (UC m).side (cond (m.stage==2) (Lc m (m.inns.length:Int)) 0))
end Go.Px
end
section
namespace Go.Px
set_option maxRecDepth 100000
structure StepOk (r:Rul) (m:Mat):Prop where
 rules:m.rules=r
 fit:OO m.inns
 len:m.inns.length≤5
end Go.Px
end
section
namespace Go.Px
set_option maxRecDepth 100000
def Sa (m:Mat):Mat:={ m with rules:=Qe m.rules,inns:=(m.inns.take 5).map MX }
theorem X6 (xs:List Inn):((xs.take 5).map MX).length≤5:=by rw [List.length_map,List.length_take];omega
theorem Yn (xs:List Inn):∀ i,i<(xs.map MX).length→inn (xs.map MX) i=MX (inn xs i):=fun i hi=>by
 rw [List.length_map] at hi;rw [Hb,Hb,List.getElem?_map,List.getElem?_eq_getElem hi];rfl
theorem Yu {m:Mat}:StepOk (Qe m.rules) (Sa m):=⟨rfl,fun i hi=>by
 show (inn ((m.inns.take 5).map MX) i).Fit;rw [Yn _ i hi];exact ZL _,X6 _⟩
theorem YE {xs:List Inn} {i:Nat} (h:i<xs.length):xs.take (i+1)=xs.take i++[inn xs i]:=by
 rw [List.take_succ_eq_append_getElem h,Hb,List.getElem?_eq_getElem h]
set_option maxHeartbeats 2000000 in
theorem XZ {N:Nat} {m8 m16:Bool} {m0:ByteArray} {m13:Rows} {m17:List Inn} (hN:2097152<N):Hr N [.str m0,.int m1,.int m2,.int m3,.int m4,.int m5,.int m6,.int m7,.bool m8,.int m9,.int m10,.int m11,.int m12,.rows m13,.int m14,.int m15,.bool m16,.rows (AW m17),.int m18,.int m19,.int m20,.int m21,.int m22]=some (Sa (⟨⟨m0,m1,m2,m3,m4,m5,m6,m7,m8,m9,m10,m11,m12,m13⟩,m14,m15,m16,m17,m18,m19,m20,m21,m22⟩:Mat)).ls:=by
 show Hd (std (FG N) N) (xOf _)=_;have e5:m17.take (min m17.length 5)=m17.take 5:=by
  by_cases h:m17.length≤5
  ·rw [Nat.min_eq_left h,List.take_length,List.take_of_length_le h]
  ·rw [Nat.min_eq_right (by omega)]
 simp only [Hd,Alg.q,std,xOf,PXb,Wn (show (0:Int)≤20 by omega),Wn (show (0:Int)≤10 by omega),PXi];refine BZ (Jj (len:=min m17.length 5) (fun i=>[.rows (AW ((m17.take i).map MX)),.int (i:Int)]) [.rows (AW ((m17.take 5).map MX))] ?_ ?_ N (by omega)) rfl
 ·intro self;have:(iLt ((min m17.length 5:Nat):Int) (m17.length:Int)&&iLt ((min m17.length 5:Nat):Int) 5)=false:=by
   rw [Bool.and_eq_false_iff];simp only [iLt,decide_eq_false_iff_not];omega
  simp only [PXb,PXc,PXn,Ac,this,e5]
 ·intro i self hi;have h1:i<m17.length:=by omega
  have h5:iLt (i:Int) 5=true:=by simp only [iLt,decide_eq_true_eq];omega
  have h304:iSm (((m17.take i).length+1:Nat):Int) 304=true:=SK (by rw [List.length_take];omega) (by omega);have c13:∀ n:Nat,iRg 0 (cond (iLt 13 (n:Int)) 13 (n:Int)) (n:Int)=true:=fun n=>Wn (show (0:Int)≤13 by omega)
  simp only [PXb,PXc,PXn,Ac,CG (show i≤1099511627776 by omega),Cq h1,Bs h1,h5,PXi,c13,List.length_append,List.length_cons,List.length_nil,List.length_map,Nat.zero_add,Nat.reduceAdd,h304,PXr,YE h1,List.map_append];rfl
end Go.Px
end
section
namespace Go.Px
set_option maxRecDepth 100000
theorem XJ (m:Mat) (hs:m.rules.name.size≤1048576):(Sa m).rules.name.size≤1048576:=UE m.rules hs
structure FitOk (m:Mat):Prop where
 fit:OO m.inns
 len:m.inns.length≤1000000
 name:m.rules.name.size≤1048576
 power:m.rules.power.length≤1048576
theorem RB {N:Nat} {m8 m16:Bool} {m0:ByteArray} {m13:Rows} {m17:List Inn} (hf:OO m17) (hN:2097152<N) (hl:m17.length≤1000000) (hs:m0.size≤1048576):EC N [.str m0,.int m1,.int m2,.int m3,.int m4,.int m5,.int m6,.int m7,.bool m8,.int m9,.int m10,.int m11,.int m12,.rows m13,.int m14,.int m15,.bool m16,.rows (AW m17),.int m18,.int m19,.int m20,.int m21,.int m22]=some [.int (JS (⟨⟨m0,m1,m2,m3,m4,m5,m6,m7,m8,m9,m10,m11,m12,m13⟩,m14,m15,m16,m17,m18,m19,m20,m21,m22⟩:Mat))]:=by
 show EJ (std (C7 N) N) (xOf _)=_;generalize hres:(some [.int (JS (⟨⟨m0,m1,m2,m3,m4,m5,m6,m7,m8,m9,m10,m11,m12,m13⟩,m14,m15,m16,m17,m18,m19,m20,m21,m22⟩:Mat))]:Option (List PV))=RR;simp only [EJ,Hm,He,Alg.q,std,xOf,PXb,PXi,FN hf hN hl hs,Mq];subst hres;simp only [JS];cases hv:Bo (⟨⟨m0,m1,m2,m3,m4,m5,m6,m7,m8,m9,m10,m11,m12,m13⟩,m14,m15,m16,m17,m18,m19,m20,m21,m22⟩:Mat)
 case false=>rfl
 have ok:=UN hv;simp only [PXb];cases h3:m14==3
 case true=>simp only [PXb,Vo (ok.begun h3) hl,UC,lnx]
 cases h2:m14==2<;>rfl
end Go.Px
end
section
namespace Go.Px
set_option maxRecDepth 100000
def BL (i:Int):ByteArray:=⟨(Lib.itoa i).toArray⟩
theorem Oc:∀ (k u:Nat),u<10 ^ (k+1)→(Lib.decDigits u).length≤k+1
 | 0,u,h=>by
  rw [Lib.decDigits,dif_pos (by simpa using h)];exact Nat.le_refl _
 | k+1,u,h=>by
  rw [Lib.decDigits]
  by_cases h1:u<10
  ·rw [dif_pos h1];simp
  ·rw [dif_neg h1,List.length_append];have:=Oc k (u / 10) (by
    rw [Nat.pow_succ] at h;omega)
   simp only [List.length_cons,List.length_nil];omega
def I64 (i:Int):Prop := -9223372036854775808≤i∧i≤9223372036854775807
theorem Cb {i:Int} (h:I64 i):(BL i).size≤20:=by
 obtain ⟨h0,h1⟩:=h;show (Lib.itoa i).toArray.size≤20;rw [List.size_toArray];unfold Lib.itoa
 by_cases hn:i<0
 ·rw [if_pos hn];have:=Oc 18 i.natAbs (by omega);simp only [List.length_cons];omega
 ·rw [if_neg hn];have:=Oc 18 i.toNat (by omega);omega
def D4 (n:Nat):ByteArray:=⟨(Lib.decDigits n).toArray⟩
theorem Yo (n:Nat):BL (n:Int)=D4 n:=by
 unfold BL D4;rw [Qc]
theorem Fy {n:Nat} (h:n≤1000000):(D4 n).size≤20:=by
 rw [← Yo];exact Cb ⟨by omega,by omega⟩
theorem Sy {N:Nat} {i:Int} (h:I64 i):DQ N [.int i]=some [.str (BL i)]:=by
 have G:Bp N [.int i,.int 10]=some [.str (BL i)]:=by
  show cond ((10:Int)==10) (O1 i) none=_;rw [Qw h.1 h.2];rfl
 have F:Bx N [.int i,.int 10]=some [.str (BL i)]:=by
  show Cg (std (DP N) N) (xOf _)=_;simp only [Cg,D9,Alg.q,std,xOf,PXb,G]
 show Ek (std (Fw N) N) (xOf _)=_;simp only [Ek,Ft,Alg.q,std,xOf,PXb,F]
theorem DS {N:Nat} {i:Int} (h:I64 i):Bl N [.int i]=some [.str (BL i)]:=by
 show Ep (std (Fo N) N) (xOf _)=_;simp only [Ep,Hq,Alg.q,std,xOf,PXb,Sy h]
theorem MD {N n:Nat} (h:n≤1000000):DW N [.int (n:Int)]=some [.str (D4 n)]:=by
 have G:Cw N [.int (n:Int)]=some [.str (D4 n)]:=Yh (by omega);show Ey (std (Fr N) N) (xOf _)=_;simp only [Ey,G7,Alg.q,std,xOf,PXb,G]
def Bc (s:ByteArray):Nat:=Lib.countByte s.data.toList 47
theorem Fz (a b:ByteArray):Bc (a++b)=Bc a+Bc b:=by
 unfold Bc Lib.countByte;rw [ByteArray.data_append,Array.toList_append,List.count_append]
theorem UL:∀ u,u<10→List.count (47:UInt8) [UInt8.ofNat (48+u)]=0:=by decide
theorem UG (u:Nat):List.count (47:UInt8) (Lib.decDigits u)=0:=by
 induction u using Nat.strongRecOn with
 | _ u ih =>
  rw [Lib.decDigits]
  by_cases h:u<10
  ·rw [dif_pos h];exact UL u h
  ·rw [dif_neg h,List.count_append,ih (u / 10) (by omega),UL (u % 10) (Nat.mod_lt _ (by omega))]
theorem L4 (i:Int):Bc (BL i)=0:=by
 show List.count (47:UInt8) (Lib.itoa i)=0;unfold Lib.itoa
 by_cases hn:i<0
 ·rw [if_pos hn];show List.count (47:UInt8) ([45]++Lib.decDigits i.natAbs)=0;rw [List.count_append,UG];rfl
 ·rw [if_neg hn];exact UG _
theorem Vw (n:Nat):Bc (D4 n)=0:=UG n
theorem YN (sep:List UInt8) (h:List.count (47:UInt8) sep=0) (x:List UInt8) (xs:List (List UInt8)):List.count (47:UInt8) (Lib.join (x::xs) sep)=((x::xs).map (List.count (47:UInt8))).sum:=by
 rw [Lib.join_cons,List.count_append,List.map_cons,List.sum_cons];congr 1;unfold Lib.joinTail
 induction xs with
 | nil=>rfl
 | cons y ys ih =>
  rw [List.map_cons,List.flatten_cons,List.count_append,List.count_append,h,ih,List.map_cons,List.sum_cons];omega
theorem YC (sep:List UInt8) (c:Nat) (x:List UInt8) (xs:List (List UInt8)) (h:∀ y,y∈x::xs→y.length+sep.length≤c):(Lib.join (x::xs) sep).length≤c * (xs.length+1):=by
 rw [Lib.join_cons,List.length_append];have hx:=h x List.mem_cons_self;have ht:(Lib.joinTail sep xs).length≤c * xs.length:=by
  unfold Lib.joinTail;clear hx
  induction xs with
  | nil=>exact Nat.zero_le _
  | cons y ys ih =>
   rw [List.map_cons,List.flatten_cons,List.length_append,List.length_append];have h1:=h y (List.mem_cons_of_mem _ List.mem_cons_self);have h2:=ih (fun z hz=>h z (by
    rcases List.mem_cons.1 hz with h3 | h3
    ·exact h3▸List.mem_cons_self
    ·exact List.mem_cons_of_mem _ (List.mem_cons_of_mem _ h3)))
   rw [List.length_cons,Nat.mul_succ];omega
 rw [Nat.mul_succ];omega
structure Sco where
 side:Int
 runs:Int
 wickets:Int
 balls:Int
 wides:Int
 noballs:Int
 byes:Int
 legbyes:Int
 pens:Int
 ending:Int
def sco (xs:List Sco) (i:Nat):Sco:=xs.getD i ⟨0,0,0,0,0,0,0,0,0,0⟩
theorem XA (xs:List Sco) (i:Nat):sco xs i=(match xs[i]? with | some s=>s | none=>⟨0,0,0,0,0,0,0,0,0,0⟩):=by
 unfold sco;rw [List.getD_eq_getElem?_getD];cases xs[i]?<;>rfl
def Sco.ls (s:Sco):List PV:=[.int s.side,.int s.runs,.int s.wickets,.int s.balls,.int s.wides,.int s.noballs,.int s.byes,.int s.legbyes,.int s.pens,.int s.ending]
def DJ (xs:List Sco):Rows:=xs.map Sco.ls
theorem Yp (xs:List Sco) (i:Nat):Aq (DJ xs) i=(match xs[i]? with | some s=>s.ls | none=>[]):=by
 unfold Aq DJ;rw [List.getD_eq_getElem?_getD,List.getElem?_map];cases xs[i]?<;>rfl
theorem Xs (xs:List Sco):(DJ xs).length=xs.length:=List.length_map _
theorem PXs : (∀ xs : List Sco, (DJ xs).length = xs.length) ∧ (∀ (xs : List Sco) (i : Nat), pvI (AL (DJ xs) i 0) = (sco xs i).side) ∧ (∀ (xs : List Sco) (i : Nat), pvI (AL (DJ xs) i 1) = (sco xs i).runs) ∧ (∀ (xs : List Sco) (i : Nat), pvI (AL (DJ xs) i 2) = (sco xs i).wickets) ∧ (∀ (xs : List Sco) (i : Nat), pvI (AL (DJ xs) i 3) = (sco xs i).balls) ∧
    (∀ (xs:List Sco) (i:Nat),pvI (AL (DJ xs) i 4)=(sco xs i).wides)∧(∀ (xs:List Sco) (i:Nat),pvI (AL (DJ xs) i 5)=(sco xs i).noballs)∧(∀ (xs:List Sco) (i:Nat),pvI (AL (DJ xs) i 6)=(sco xs i).byes)∧(∀ (xs:List Sco) (i:Nat),pvI (AL (DJ xs) i 7)=(sco xs i).legbyes)∧(∀ (xs:List Sco) (i:Nat),pvI (AL (DJ xs) i 8)=(sco xs i).pens)∧(∀ (xs:List Sco) (i:Nat),pvI (AL (DJ xs) i 9)=(sco xs i).ending):=by
  refine ⟨Xs,?_,?_,?_,?_,?_,?_,?_,?_,?_,?_⟩
  all_goals (intro xs i;rw [XA];unfold AL;rw [Yp];cases xs[i]?<;>rfl)
def Di (q:Int) (s:Inn):Sco:=⟨s.side,s.runs,s.wickets,JN q s.complete s.inover,s.wides,s.noballs,s.byes,s.legbyes,s.pens,s.ending⟩
theorem ZJ {a b:Nat} (ha:a≤1000000000):IntKind.i64.wrap (Int.tdiv (a:Int) (b:Int))=((a / b:Nat):Int):=by
 show IntKind.i64.wrap ((a / b:Nat):Int)=_;have:=Nat.div_le_self a b;generalize a / b=q at *
 exact EX (by omega) (by omega)
def okN (z:Int):Bool:=iLe 0 z&&iLe z 1000000
theorem ZS {z:Int} (h:okN z=true):∃ n:Nat,z=n∧n≤1000000:=by
 unfold okN iLe at h;rw [Bool.and_eq_true,decide_eq_true_eq,decide_eq_true_eq] at h;exact ⟨z.toNat,by omega,by omega⟩
theorem sm1 {n:Nat} (h:n≤1000000000):iSm (n:Int) 1=true:=by
 simp only [iSm,decide_eq_true_eq];omega
theorem HL {x:Option (List PV)} {v:List PV} {f:List PV→Option (List PV)} {r:Option (List PV)} (h:x=some v) (hk:f v=r):x.bind f=r:=by rw [h];exact hk
def otS (n per:Int):ByteArray×Int:=cond (!(iLe 1 per&&iLe per 8) || !okN n) (⟨#[]⟩,2) (D4 (n.toNat / per.toNat)++⟨#[46]⟩++D4 (n.toNat % per.toNat),0)
theorem Xj {n per:Int} (h:(!(iLe 1 per&&iLe per 8) || !okN n)=false):∃ a b:Nat,n=(a:Int)∧per=(b:Int)∧a≤1000000∧0<b∧b≤8:=by
 rw [Bool.or_eq_false_iff,Bool.not_eq_false',Bool.not_eq_false',Bool.and_eq_true] at h;obtain ⟨⟨h1,h2⟩,h3⟩:=h;obtain ⟨a,rfl,ha⟩:=ZS h3;simp only [iLe,decide_eq_true_eq] at h1 h2;exact ⟨a,per.toNat,rfl,by omega,ha,by omega,by omega⟩
theorem Gn {N:Nat} {z:Int} {lo:Int} {hi:Int}  : A1 N [.int z,.int lo,.int hi]=some [.bool (iLe lo z&&iLe z hi)]:=by
 show EE (std (Ig N) N) (xOf _)=_;simp only [EE,Alg.q,std,xOf,PXb]
theorem NO {N:Nat} {per:Int}  : Bv N [.int per]=some [.bool (iLe 1 per&&iLe per 8)]:=by
 show FV (std (GN N) N) (xOf _)=_;simp only [FV,Hi,Alg.q,std,xOf,PXb,Gn]
theorem Wa {a b:Nat} (ha:a≤1000000) (hb:0<b):a / b≤1000000∧a % b≤1000000:=⟨Nat.le_trans (Nat.div_le_self a b) ha,Nat.le_trans (Nat.mod_le a b) ha⟩
theorem WC {N a b:Nat} (ha:a≤1000000) (hb:0<b) (hb8:b≤8):GK N [.int (a:Int),.int (b:Int)]=some [.int ((a / b:Nat):Int),.int ((a % b:Nat):Int)]:=by
 show Iu (std (GL N) N) (xOf _)=_;have k1:iLe 1 (b:Int)=true:=by simp only [iLe,decide_eq_true_eq];omega
 have k2:iLe (b:Int) 8=true:=by simp only [iLe,decide_eq_true_eq];omega
 have k3:iLe 0 (a:Int)=true:=by simp only [iLe,decide_eq_true_eq];omega
 have k4:iLe (a:Int) 1000000=true:=by simp only [iLe,decide_eq_true_eq];omega
 have b0:((b:Int)==0)=false:=beq_eq_false_iff_ne.2 (by omega);simp only [Iu,K0,JW,Alg.q,std,xOf,PXb,NO,Gn,k1,k2,k3,k4,b0,ZJ (show a≤1000000000 by omega)];rfl
theorem Yj {a b:Nat} (ha:a≤1000000) (hb:0<b):(D4 (a / b)++⟨#[46]⟩:ByteArray).size≤1000002∧(D4 (a / b)++⟨#[46]⟩++D4 (a % b):ByteArray).size≤2000003:=by
 obtain ⟨h1,h2⟩:=Wa ha hb;have s1:=Fy h1;have s2:=Fy h2;have e1:(⟨#[46]⟩:ByteArray).size=1:=rfl;simp only [ByteArray.size_append,e1];omega
set_option maxHeartbeats 2000000 in
theorem VO {N:Nat} {n:Int} {per:Int}  : ER N [.int n,.int per]=some [.str (otS n per).1,.int (otS n per).2]:=by
 show GM (std (CV N) N) (xOf _)=_;simp only [GM,JO,IB,LH,Ip,Alg.q,std,xOf,PXb,NO,Gn];unfold otS;cases h : !(iLe 1 per&&iLe per 8) || !okN n with
 | true =>
  cases h1:(iLe 1 per&&iLe per 8) with
  | false=>rfl
  | true =>
   rw [h1] at h;have h:(!okN n)=true:=h;unfold okN at h;rw [Bool.not_eq_true'] at h;simp only [PXb,Bool.not_true,Bool.not_false,h]
 | false =>
  obtain ⟨a,b,rfl,rfl,h1,h2,h3⟩:=Xj h;rw [Bool.or_eq_false_iff,Bool.not_eq_false',Bool.not_eq_false'] at h;obtain ⟨k1,k2⟩:=h;unfold okN at k2;obtain ⟨d1,d2⟩:=Wa h1 h2;obtain ⟨z1,z2⟩:=Yj h1 h2;have m1:iSm ((D4 (a / b)).size:Int) 1=true:=sm1 (by have:=Fy d1;omega);have m2:iSm ((D4 (a % b)).size:Int) 1=true:=sm1 (by have:=Fy d2;omega);have m3:iSm (((⟨#[46]⟩:ByteArray).size:Nat):Int) 1=true:=by decide
  have m4:iSm ((D4 (a / b)++⟨#[46]⟩:ByteArray).size:Int) 1=true:=sm1 (by omega);simp only [PXb,k1,k2,Bool.not_true,Bool.not_false];refine HL (WC h1 h2 h3) ?_;simp only [PXb];refine HL (MD d1) ?_;simp only [PXb,m1,m3];refine HL (MD d2) ?_;simp only [PXb,m2,m4,Int.toNat_natCast]
def Eu (q:Int) (s:Sco):ByteArray:=cond (s.ending==4) (BL s.side++⟨#[32]⟩++BL s.runs++⟨#[47]⟩++BL s.wickets++⟨#[32]⟩++(otS s.balls q).1++⟨#[32,68]⟩) (BL s.side++⟨#[32]⟩++BL s.runs++⟨#[47]⟩++BL s.wickets++⟨#[32]⟩++(otS s.balls q).1)
theorem Yg (n q:Int):Bc (otS n q).1=0:=by
 unfold otS;cases !(iLe 1 q&&iLe q 8) || !okN n with
 | true=>rfl
 | false =>
  show Bc (D4 _++⟨#[46]⟩++D4 _)=0;rw [Fz,Fz,Vw,Vw];rfl
theorem Uh (n q:Int):(otS n q).1.size≤41:=by
 unfold otS;cases h : !(iLe 1 q&&iLe q 8) || !okN n with
 | true=>exact Nat.zero_le _
 | false =>
  obtain ⟨a,b,rfl,rfl,h1,h2,h3⟩:=Xj h;obtain ⟨d1,d2⟩:=Wa h1 h2;have s1:=Fy d1;have s2:=Fy d2;have e1:(⟨#[46]⟩:ByteArray).size=1:=rfl;show (D4 (a / b)++⟨#[46]⟩++D4 (a % b):ByteArray).size≤41;simp only [ByteArray.size_append,e1];omega
theorem Y3 (q:Int) (s:Sco):Bc (Eu q s)=1:=by
 have e1:Bc ⟨#[32]⟩=0:=by decide
 have e2:Bc ⟨#[47]⟩=1:=by decide
 have e3:Bc ⟨#[32,68]⟩=0:=by decide
 unfold Eu;cases s.ending==4 with
 | true=>rw [cond_true];simp only [Fz,L4,Yg,e1,e2,e3]
 | false=>rw [cond_false];simp only [Fz,L4,Yg,e1,e2,e3]
theorem Xm {q:Int} {s:Sco} (h1:I64 s.side) (h2:I64 s.runs) (h3:I64 s.wickets):(Eu q s).size≤106:=by
 have a1:=Cb h1;have a2:=Cb h2;have a3:=Cb h3;have a4:=Uh s.balls q;have e1:(⟨#[32]⟩:ByteArray).size=1:=rfl;have e2:(⟨#[47]⟩:ByteArray).size=1:=rfl;have e3:(⟨#[32,68]⟩:ByteArray).size=2:=rfl;unfold Eu;cases s.ending==4 with
 | true=>rw [cond_true];simp only [ByteArray.size_append,e1,e2,e3];omega
 | false=>rw [cond_false];simp only [ByteArray.size_append,e1,e2,e3];omega
def Ox (a:Int):ByteArray:=⟨#[83,73,68,69,32]⟩++BL a++⟨#[32,87,79,78,32,66,89,32]⟩
def K2 (w a n:Int):ByteArray:=cond (w==1) (Ox a++BL n++⟨#[32,82,85,78,83]⟩) (cond (w==2) (Ox a++BL n++⟨#[32,87,73,67,75,69,84,83]⟩) (cond (w==3) (Ox a++⟨#[65,78,32,73,78,78,73,78,71,83,32,65,78,68,32]⟩++BL n++⟨#[32,82,85,78,83]⟩) (cond (w==4) ⟨#[84,73,69,68]⟩ (cond (w==5) ⟨#[68,82,65,87,78]⟩ (cond (w==6) ⟨#[78,79,32,82,69,83,85,76,84]⟩ ⟨#[]⟩)))))
theorem YB {a:Int} (h:I64 a):(Ox a).size≤33:=by
 have:=Cb h;have e1:(⟨#[83,73,68,69,32]⟩:ByteArray).size=5:=rfl;have e2:(⟨#[32,87,79,78,32,66,89,32]⟩:ByteArray).size=8:=rfl;unfold Ox;simp only [ByteArray.size_append,e1,e2];omega
theorem U7 (a:Int):Bc (Ox a)=0:=by
 have e1:Bc ⟨#[83,73,68,69,32]⟩=0:=by decide
 have e2:Bc ⟨#[32,87,79,78,32,66,89,32]⟩=0:=by decide
 unfold Ox;simp only [Fz,L4,e1,e2]
theorem Zn (w a n:Int):Bc (K2 w a n)=0:=by
 have e1:Bc ⟨#[32,82,85,78,83]⟩=0:=by decide
 have e2:Bc ⟨#[32,87,73,67,75,69,84,83]⟩=0:=by decide
 have e3:Bc ⟨#[65,78,32,73,78,78,73,78,71,83,32,65,78,68,32]⟩=0:=by decide
 unfold K2;cases w==1
 ·cases w==2
  ·cases w==3
   ·cases w==4
    ·cases w==5
     ·cases w==6
      ·simp only [cond_true,cond_false];decide
      ·simp only [cond_true,cond_false];decide
     ·simp only [cond_true,cond_false];decide
    ·simp only [cond_true,cond_false];decide
   ·simp only [cond_true,cond_false,Fz,U7,L4,e1,e3]
  ·simp only [cond_true,cond_false,Fz,U7,L4,e2]
 ·simp only [cond_true,Fz,U7,L4,e1]
theorem Xz {w a n:Int} (h1:I64 a) (h2:I64 n):(K2 w a n).size≤106:=by
 have a1:=YB h1;have a2:=Cb h2;have e1:(⟨#[32,82,85,78,83]⟩:ByteArray).size=5:=rfl;have e2:(⟨#[32,87,73,67,75,69,84,83]⟩:ByteArray).size=8:=rfl;have e3:(⟨#[65,78,32,73,78,78,73,78,71,83,32,65,78,68,32]⟩:ByteArray).size=15:=rfl;unfold K2;cases w==1
 ·cases w==2
  ·cases w==3
   ·cases w==4
    ·cases w==5
     ·cases w==6
      ·simp only [cond_true,cond_false];decide
      ·simp only [cond_true,cond_false];decide
     ·simp only [cond_true,cond_false];decide
    ·simp only [cond_true,cond_false];decide
   ·simp only [cond_true,cond_false,ByteArray.size_append,e1,e3];omega
  ·simp only [cond_true,cond_false,ByteArray.size_append,e2];omega
 ·simp only [cond_true,ByteArray.size_append,e1];omega
set_option maxHeartbeats 2000000 in
theorem Sk {N:Nat} {w a n:Int} (h1:I64 a) (h2:I64 n):DG N [.int w,.int a,.int n]=some [.str (K2 w a n)]:=by
 have a1:=Cb h1;have a2:=Cb h2;have m1:iSm ((BL a).size:Int) 1=true:=sm1 (by omega);have m2:iSm ((BL n).size:Int) 1=true:=sm1 (by omega);have k1:(⟨#[83,73,68,69,32]⟩:ByteArray).size=5:=rfl;have k2:(⟨#[32,87,79,78,32,66,89,32]⟩:ByteArray).size=8:=rfl;have k3:(⟨#[65,78,32,73,78,78,73,78,71,83,32,65,78,68,32]⟩:ByteArray).size=15:=rfl;have m3:iSm (((⟨#[83,73,68,69,32]⟩:ByteArray).size:Nat):Int) 1=true:=by decide
 have m4:iSm (((⟨#[32,87,79,78,32,66,89,32]⟩:ByteArray).size:Nat):Int) 1=true:=by decide
 have m5:iSm (((⟨#[32,82,85,78,83]⟩:ByteArray).size:Nat):Int) 1=true:=by decide
 have m6:iSm (((⟨#[32,87,73,67,75,69,84,83]⟩:ByteArray).size:Nat):Int) 1=true:=by decide
 have m7:iSm (((⟨#[65,78,32,73,78,78,73,78,71,83,32,65,78,68,32]⟩:ByteArray).size:Nat):Int) 1=true:=by decide
 have m8:iSm ((⟨#[83,73,68,69,32]⟩++BL a:ByteArray).size:Int) 1=true:=sm1 (by simp only [ByteArray.size_append,k1];omega);have m9:iSm ((⟨#[83,73,68,69,32]⟩++BL a++⟨#[32,87,79,78,32,66,89,32]⟩:ByteArray).size:Int) 1=true:=sm1 (by simp only [ByteArray.size_append,k1,k2];omega);have m10:iSm ((⟨#[83,73,68,69,32]⟩++BL a++⟨#[32,87,79,78,32,66,89,32]⟩++BL n:ByteArray).size:Int) 1=true:=sm1 (by simp only [ByteArray.size_append,k1,k2];omega);have m11:iSm ((⟨#[83,73,68,69,32]⟩++BL a++⟨#[32,87,79,78,32,66,89,32]⟩++⟨#[65,78,32,73,78,78,73,78,71,83,32,65,78,68,32]⟩:ByteArray).size:Int) 1=true:=sm1 (by simp only [ByteArray.size_append,k1,k2,k3];omega);have m12:iSm ((⟨#[83,73,68,69,32]⟩++BL a++⟨#[32,87,79,78,32,66,89,32]⟩++⟨#[65,78,32,73,78,78,73,78,71,83,32,65,78,68,32]⟩++BL n:ByteArray).size:Int) 1=true:=sm1 (by simp only [ByteArray.size_append,k1,k2,k3];omega);show Es (std (Fp N) N) (xOf _)=_;simp only [Es,Hs,Alg.q,std,xOf,PXb,DS h1,DS h2];unfold K2 Ox;simp only [PXb,m1,m2,m3,m4,m5,m6,m7,m8,m9,m10,m11,m12];cases w==1
 ·cases w==2
  ·cases w==3
   ·cases w==4
    ·cases w==5
     ·cases w==6<;>rfl
     ·rfl
    ·rfl
   ·rfl
  ·rfl
 ·rfl
end Go.Px
end
section
namespace Go.Px
set_option maxRecDepth 100000
theorem OW {i:Nat} (h:i≤1099511627776):IntKind.i64.wrap ((i:Int)+1)=((i+1:Nat):Int):=CG h
theorem TP (f:Inn→Sco) {xs:List Inn} {i:Nat} (h:i<xs.length):(xs.take i).map f++[f (inn xs i)]=(xs.take (i+1)).map f:=by
 rw [← Tx h,List.map_append];rfl
theorem Yl (xs:List Sco) (a b c d e f g h i j:Int):DJ xs++[([.int a,.int b,.int c,.int d,.int e,.int f,.int g,.int h,.int i,.int j]:List PV)]=DJ (xs++[⟨a,b,c,d,e,f,g,h,i,j⟩]):=(List.map_append (f:=Sco.ls) (l₁:=xs) (l₂:=[⟨a,b,c,d,e,f,g,h,i,j⟩])).symm
set_option maxHeartbeats 1000000 in
theorem L8 {N:Nat} {m8 m16:Bool} {m0:ByteArray} {m13:Rows} {m17:List Inn} (hN:2097152<N) (hl:m17.length≤1000000):B2 N [.str m0,.int m1,.int m2,.int m3,.int m4,.int m5,.int m6,.int m7,.bool m8,.int m9,.int m10,.int m11,.int m12,.rows m13,.int m14,.int m15,.bool m16,.rows (AW m17),.int m18,.int m19,.int m20,.int m21,.int m22]=some [.rows (DJ (m17.map (Di m4)))]:=by
 show Ew (std (Fn N) N) (xOf _)=_;generalize hres:(some [.rows (DJ (m17.map (Di m4)))]:Option (List PV))=RR;simp only [Ew,C8,Alg.q,std,xOf,PXb,PXi];subst hres;refine BZ (Jj (len:=m17.length) (fun i=>[.rows (DJ ((m17.take i).map (Di m4))),.int (i:Int)]) [.rows (DJ (m17.map (Di m4)))] ?_ ?_ N (by omega)) rfl
 ·intro self;simp only [PXb,PXc,PXn,Ac,Ds,List.take_length]
 ·intro i self hi;have h3:iSm ((i+1:Nat):Int) 80=true:=SK (by omega) (by omega);have tl:(m17.take i).length=i:=by rw [List.length_take];omega
  simp only [PXb,PXc,PXn,Ac,OW (show i≤1099511627776 by omega),Cq hi,Bs hi,PXi,C8,RN,PXs,List.length_append,List.length_map,tl,List.length_cons,List.length_nil,Nat.reduceAdd,h3,Yl];rw [← TP (Di m4) hi];rfl
def HO (xs:List ByteArray):Rows:=xs.map fun s=>([.str s]:List PV)
theorem Q4 (xs:List ByteArray):(HO xs).length=xs.length:=List.length_map _
theorem VB (xs:List ByteArray) (s:ByteArray):HO xs++[([.str s]:List PV)]=HO (xs++[s]):=(List.map_append (f:=fun s=>([.str s]:List PV)) (l₁:=xs) (l₂:=[s])).symm
theorem XE (xs:List ByteArray):DF (HO xs)=xs:=by
 unfold DF HO;rw [List.map_map]
 conv=>rhs;rw [← List.map_id xs]
 rfl
def Oe:List UInt8:=[59,32]
def WX (xs:List ByteArray):ByteArray:=⟨(Lib.join (xs.map (·.data.toList)) Oe).toArray⟩
theorem Wx {N:Nat} {xs:List ByteArray} (h:xs.length≤900) (hs:∀ x,x∈xs→x.size≤106):DD N [.rows (HO xs),.str ⟨#[59,32]⟩]=some [.str (WX xs)]:=by
 show cond (Nat.ble (HO xs).length 1000&&Nat.ble (Lib.join ((DF (HO xs)).map (·.data.toList)) Oe).length 1000000) (some [PV.str ⟨(Lib.join ((DF (HO xs)).map (·.data.toList)) Oe).toArray⟩]) none=_;rw [XE,Q4];have h1:Nat.ble xs.length 1000=true:=Nat.ble_eq_true_of_le (by omega);have h2:Nat.ble (Lib.join (xs.map (·.data.toList)) Oe).length 1000000=true:=by
  refine Nat.ble_eq_true_of_le ?_;cases xs with
  | nil=>exact Nat.zero_le _
  | cons x xs =>
   have:=YC Oe 108 x.data.toList (xs.map (·.data.toList)) (fun y hy=>by
    have hy:y∈(x::xs).map (·.data.toList):=hy;obtain ⟨z,hz,rfl⟩:=List.mem_map.1 hy;have:=hs z hz;show z.data.toList.length+2≤108;rw [Array.length_toList];have e:z.data.size=z.size:=rfl;omega)
   rw [List.length_map] at this;rw [List.length_cons] at h;show (Lib.join (x.data.toList::xs.map (·.data.toList)) Oe).length≤1000000;omega
 rw [h1,h2];rfl
theorem W4:∀ xs:List ByteArray,Bc (WX xs)=(xs.map Bc).sum
 | []=>rfl
 | x::xs=>by
  have:=YN Oe (by decide) x.data.toList (xs.map (·.data.toList));show List.count (47:UInt8) (Lib.join (x.data.toList::xs.map (·.data.toList)) Oe)=_;rw [this];show (((x::xs).map (·.data.toList)).map (List.count (47:UInt8))).sum=_;rw [List.map_map];rfl
def KY (m:Mat):List ByteArray:=((m.inns.map (Di m.rules.balls)).map (Eu m.rules.balls))++cond (m.stage==5) [K2 m.win m.wside m.margin] []
def KL (m:Mat):ByteArray:=cond (Bo m) (WX (KY m)) ⟨#[]⟩
theorem TW (q:Int):∀ xs:List Sco,((xs.map (Eu q)).map Bc).sum=xs.length
 | []=>rfl
 | x::xs=>by
  rw [List.map_cons,List.map_cons,List.sum_cons,TW q xs,Y3,List.length_cons];omega
theorem YW {m:Mat} (h:Bo m=true):Bc (KL m)=m.inns.length:=by
 unfold KL;rw [h,cond_true,W4];unfold KY;rw [List.map_append,List.sum_append,TW,List.length_map];cases m.stage==5 with
 | false=>rfl
 | true =>
  show _+(Bc (K2 _ _ _)+0)=_;rw [Zn];omega
structure NumI (s:Inn):Prop where
 side:1≤s.side∧s.side≤2
 runs:0≤s.runs∧s.runs≤1000000000
 wickets:0≤s.wickets∧s.wickets≤11
theorem So {m:Mat} (h:Bo m=true) {i:Nat} (hi:i<m.inns.length):NumI (inn m.inns i):=by
 have ok:=UN h;obtain ⟨h1,_⟩:=ok.innv i hi;have g:=XP.1 h1;have rk:=PT g.code;have bt:=g.bat;unfold PK at bt;rw [Bool.and_eq_true,Bool.and_eq_true,beq_iff_eq] at bt;have hw:=bt.2.2;have cl:=Ur (pIs (inn m.inns i).batters 2) (inn m.inns i).batters.length;have e:Qn (inn m.inns i).batters=BV (pIs (inn m.inns i).batters 2) (inn m.inns i).batters.length:=rfl;have lb:=g.lb;have sd:=rk.side;exact ⟨g.side,g.runs,by rw [hw,e];omega⟩
end Go.Px
end
section
namespace Go.Px
set_option maxRecDepth 100000
theorem UR {xs:List Inn} {i:Nat} (h:i<xs.length) (q:Int):sco (xs.map (Di q)) i=Di q (inn xs i):=by
 rw [XA,Hb,List.getElem?_map,List.getElem?_eq_getElem h];rfl
theorem ZF {xs:List Inn} {i:Nat} (h:i<xs.length) (q:Int):HO (((xs.take (i+1)).map (Di q)).map (Eu q))=HO (((xs.take i).map (Di q)).map (Eu q))++[([.str (Eu q (Di q (inn xs i)))]:List PV)]:=by
 rw [VB,← TP (Di q) h,List.map_append];rfl
theorem Xt {m:Mat} (hv:Bo m=true) (h1:I64 m.wside) (h2:I64 m.margin):∀ x,x∈KY m→x.size≤106:=by
 intro x hx;unfold KY at hx
 rcases List.mem_append.1 hx with hx | hx
 ·obtain ⟨s,hs,rfl⟩:=List.mem_map.1 hx;obtain ⟨t,ht,rfl⟩:=List.mem_map.1 hs;obtain ⟨i,hi,rfl⟩:=List.getElem_of_mem ht;have n:=So hv hi;have e:inn m.inns i=m.inns[i]:=by rw [Hb,List.getElem?_eq_getElem hi]
  rw [e] at n;obtain ⟨n1,n2,n3⟩:=n;exact Xm (q:=m.rules.balls) (s:=Di m.rules.balls m.inns[i]) ⟨show -9223372036854775808≤m.inns[i].side by omega,show m.inns[i].side≤9223372036854775807 by omega⟩ ⟨show -9223372036854775808≤m.inns[i].runs by omega,show m.inns[i].runs≤9223372036854775807 by omega⟩ ⟨show -9223372036854775808≤m.inns[i].wickets by omega,show m.inns[i].wickets≤9223372036854775807 by omega⟩
 ·cases hb:m.stage==5 with
  | false=>rw [hb] at hx;exact absurd hx List.not_mem_nil
  | true =>
   rw [hb] at hx;rw [List.mem_singleton.1 hx];exact Xz h1 h2
set_option maxHeartbeats 4000000 in
theorem VE {N:Nat} {m8 m16:Bool} {m0:ByteArray} {m13:Rows} {m17:List Inn} (hf:OO m17) (hN:2097152<N) (hl:m17.length≤800) (hs:m0.size≤1048576) (h21:I64 m21) (h22:I64 m22):DC N [.str m0,.int m1,.int m2,.int m3,.int m4,.int m5,.int m6,.int m7,.bool m8,.int m9,.int m10,.int m11,.int m12,.rows m13,.int m14,.int m15,.bool m16,.rows (AW m17),.int m18,.int m19,.int m20,.int m21,.int m22]=some [.str (KL (⟨⟨m0,m1,m2,m3,m4,m5,m6,m7,m8,m9,m10,m11,m12,m13⟩,m14,m15,m16,m17,m18,m19,m20,m21,m22⟩:Mat))]:=by
 show GS (std (Bi N) N) (xOf _)=_;generalize hres:(some [.str (KL (⟨⟨m0,m1,m2,m3,m4,m5,m6,m7,m8,m9,m10,m11,m12,m13⟩,m14,m15,m16,m17,m18,m19,m20,m21,m22⟩:Mat))]:Option (List PV))=RR;have l6:m17.length≤1000000:=by omega
 simp only [GS,JM,Iv,Ez,ED,I3,Ix,Alg.q,std,xOf,PXb,PXi,FN hf hN l6 hs,L8 hN l6];subst hres;unfold KL;cases hv:Bo (⟨⟨m0,m1,m2,m3,m4,m5,m6,m7,m8,m9,m10,m11,m12,m13⟩,m14,m15,m16,m17,m18,m19,m20,m21,m22⟩:Mat)
 case false=>rfl
 simp only [PXb,cond_true];have ms:=Xt hv h21 h22;have tl:(KY (⟨⟨m0,m1,m2,m3,m4,m5,m6,m7,m8,m9,m10,m11,m12,m13⟩,m14,m15,m16,m17,m18,m19,m20,m21,m22⟩:Mat)).length≤900:=by
  unfold KY;rw [List.length_append,List.length_map,List.length_map];show m17.length+(cond (m14==5) [K2 m20 m21 m22] []).length≤900;cases m14==5
  ·show m17.length+0≤900;omega
  ·show m17.length+1≤900;omega
 refine BZ (Jj (len:=m17.length) (fun i=>[.rows (HO (((m17.take i).map (Di m4)).map (Eu m4))),.int (i:Int)]) [.rows (HO ((m17.map (Di m4)).map (Eu m4)))] ?_ ?_ N (by omega)) ?_
 ·intro self;simp only [PXb,PXc,PXn,Ac,PXs,List.length_map,Ds,List.take_length]
 ·intro i self hi;have nn:NumI (inn m17 i):=So hv hi;obtain ⟨n1,n2,n3⟩:=nn;rw [ZF hi];have tk:(m17.take i).length=i:=by rw [List.length_take];omega
  have h3:iSm ((i+1:Nat):Int) 16=true:=SK (by omega) (by omega);have i1:I64 (inn m17 i).side:=⟨by omega,by omega⟩;have i2:I64 (inn m17 i).runs:=⟨by omega,by omega⟩;have i3:I64 (inn m17 i).wickets:=⟨by omega,by omega⟩;have w1:=Cb i1;have w2:=Cb i2;have w3:=Cb i3;have w4:=Uh (JN m4 (inn m17 i).complete (inn m17 i).inover) m4;have q1:=DS (N:=N) i1;have q2:=DS (N:=N) i2;have q3:=DS (N:=N) i3;have tp:Eu m4 (Di m4 (inn m17 i))=cond ((inn m17 i).ending==4) (BL (inn m17 i).side++⟨#[32]⟩++BL (inn m17 i).runs++⟨#[47]⟩++BL (inn m17 i).wickets++⟨#[32]⟩++(otS (JN m4 (inn m17 i).complete (inn m17 i).inover) m4).1++⟨#[32,68]⟩) (BL (inn m17 i).side++⟨#[32]⟩++BL (inn m17 i).runs++⟨#[47]⟩++BL (inn m17 i).wickets++⟨#[32]⟩++(otS (JN m4 (inn m17 i).complete (inn m17 i).inover) m4).1):=rfl;rw [tp];simp only [PXb,PXc,PXn,Ac,PXs,List.length_map,Cq hi,Bs hi,UR hi,Di,OW (show i≤1099511627776 by omega),Ez,VO,ED,q1,q2,q3];generalize BL (inn m17 i).side=a at *
  generalize BL (inn m17 i).runs=b at *
  generalize BL (inn m17 i).wickets=c at *
  generalize (otS (JN m4 (inn m17 i).complete (inn m17 i).inover) m4).1=o at *
  have k1:(⟨#[32]⟩:ByteArray).size=1:=rfl;have k2:(⟨#[47]⟩:ByteArray).size=1:=rfl;have u1:iSm (a.size:Int) 1=true:=sm1 (by omega);have u2:iSm (((⟨#[32]⟩:ByteArray).size:Nat):Int) 1=true:=by decide
  have u3:iSm ((a++⟨#[32]⟩:ByteArray).size:Int) 1=true:=sm1 (by simp only [ByteArray.size_append,k1];omega);have u4:iSm (b.size:Int) 1=true:=sm1 (by omega);have u5:iSm ((a++⟨#[32]⟩++b:ByteArray).size:Int) 1=true:=sm1 (by simp only [ByteArray.size_append,k1];omega);have u6:iSm (((⟨#[47]⟩:ByteArray).size:Nat):Int) 1=true:=by decide
  have u7:iSm ((a++⟨#[32]⟩++b++⟨#[47]⟩:ByteArray).size:Int) 1=true:=sm1 (by simp only [ByteArray.size_append,k1,k2];omega);have u8:iSm (c.size:Int) 1=true:=sm1 (by omega);have u9:iSm ((a++⟨#[32]⟩++b++⟨#[47]⟩++c:ByteArray).size:Int) 1=true:=sm1 (by simp only [ByteArray.size_append,k1,k2];omega);have v1:iSm ((a++⟨#[32]⟩++b++⟨#[47]⟩++c++⟨#[32]⟩:ByteArray).size:Int) 1=true:=sm1 (by simp only [ByteArray.size_append,k1,k2];omega);have v2:iSm (o.size:Int) 1=true:=sm1 (by omega);have v3:iSm ((a++⟨#[32]⟩++b++⟨#[47]⟩++c++⟨#[32]⟩++o:ByteArray).size:Int) 1=true:=sm1 (by simp only [ByteArray.size_append,k1,k2];omega);have v4:iSm (((⟨#[32,68]⟩:ByteArray).size:Nat):Int) 1=true:=by decide
  simp only [PXb,PXc,PXn,Ac,u1,u2,u3,u4,u5,u6,u7,u8,u9,v1,v2,v3,v4,List.length_append,Q4,List.length_map,tk,List.length_cons,List.length_nil,Nat.reduceAdd,h3];cases (inn m17 i).ending==4<;>rfl
 ·simp only [PXb,PXc,PXn,Ac];have eL:KY (⟨⟨m0,m1,m2,m3,m4,m5,m6,m7,m8,m9,m10,m11,m12,m13⟩,m14,m15,m16,m17,m18,m19,m20,m21,m22⟩:Mat)=((m17.map (Di m4)).map (Eu m4))++cond (m14==5) [K2 m20 m21 m22] []:=rfl;cases h5:m14==5 with
  | false =>
   rw [h5,cond_false,List.append_nil] at eL;rw [← eL];refine HL (Wx tl ms) ?_;rfl
  | true =>
   rw [h5,cond_true] at eL;refine HL (Sk h21 h22) ?_;have h3:iSm ((KY (⟨⟨m0,m1,m2,m3,m4,m5,m6,m7,m8,m9,m10,m11,m12,m13⟩,m14,m15,m16,m17,m18,m19,m20,m21,m22⟩:Mat)).length:Int) 16=true:=SK (by omega) (by omega);simp only [PXb,PXc,PXn,Ac,VB,← eL,Q4,h3];refine HL (Wx tl ms) ?_;rfl
end Go.Px
end
section
namespace Go.Px
set_option maxRecDepth 100000
theorem ZG {m:Mat} (h:Bo m=false):KL m=⟨#[]⟩:=by
 unfold KL;rw [h];rfl
theorem ZZ {m:Mat} (h:Bo m=false):JX m=(0,0,0):=by
 unfold JX;rw [h];rfl
theorem ZQ {m:Mat} (h:Bo m=false):JS m=0:=by
 unfold JS;rw [h];rfl
def PN (xs:List Inn):Nat→Int
 | 0=>0
 | i+1=>IntKind.i64.wrap (PN xs i+(inn xs i).runs)
theorem XO {xs:List Inn} (h:∀ i,i<xs.length→NumI (inn xs i)):∀ i,i≤xs.length→i≤1000→(0≤Ca xs 1 i∧Ca xs 1 i≤1000000000 * (i:Int))∧(0≤Ca xs 2 i∧Ca xs 2 i≤1000000000 * (i:Int))∧PN xs i=Ca xs 1 i+Ca xs 2 i
 | 0,_,_=>by
  show ((0:Int)≤0∧(0:Int)≤1000000000 * ((0:Nat):Int))∧((0:Int)≤0∧(0:Int)≤1000000000 * ((0:Nat):Int))∧(0:Int)=0+0;omega
 | i+1,hi,h1=>by
  obtain ⟨⟨a1,a2⟩,⟨b1,b2⟩,c⟩:=XO h i (by omega) (by omega);obtain ⟨n1,n2,n3⟩:=h i (by omega);have w0:IntKind.i64.wrap (Ca xs 1 i+Ca xs 2 i+(inn xs i).runs)=Ca xs 1 i+Ca xs 2 i+(inn xs i).runs:=EX (by omega) (by omega);have w1:IntKind.i64.wrap (Ca xs 1 i+(inn xs i).runs)=Ca xs 1 i+(inn xs i).runs:=EX (by omega) (by omega);have w2:IntKind.i64.wrap (Ca xs 2 i+(inn xs i).runs)=Ca xs 2 i+(inn xs i).runs:=EX (by omega) (by omega);simp only [Ca,PN,c,w0,w1,w2];have e:(inn xs i).side=1∨(inn xs i).side=2:=by omega
  rcases e with e | e
  ·rw [e];simp only [show ((1:Int)==1)=true from rfl,show ((1:Int)==2)=false from rfl,cond_true,cond_false];omega
  ·rw [e];simp only [show ((2:Int)==1)=false from rfl,show ((2:Int)==2)=true from rfl,cond_true,cond_false];omega
theorem Xy {m:Mat} (hv:Bo m=true):PN m.inns m.inns.length=IntKind.i64.wrap (EN m 1+EN m 2):=by
 have ln:=(UN hv).len;obtain ⟨⟨a1,a2⟩,⟨b1,b2⟩,c⟩:=XO (xs:=m.inns) (fun i hi=>So hv hi) m.inns.length (Nat.le_refl _) (by omega);rw [c];exact (EX (show -9223372036854775808≤Ca m.inns 1 m.inns.length+Ca m.inns 2 m.inns.length by omega) (by omega)).symm
theorem ZK {N:Nat} (s:ByteArray):EH N [.str s,.str ⟨#[47]⟩]=some [.int (Bc s:Int)]:=rfl
set_option maxHeartbeats 4000000 in
theorem PX {N:Nat} {m8 m16:Bool} {m0:ByteArray} {m13:Rows} {m17:List Inn} (ha:E9 N []=some [.bool true]) (hN:2097152<N) (hs:m0.size≤1048576) (h21:I64 m21) (h22:I64 m22):CQ N [.str m0,.int m1,.int m2,.int m3,.int m4,.int m5,.int m6,.int m7,.bool m8,.int m9,.int m10,.int m11,.int m12,.rows m13,.int m14,.int m15,.bool m16,.rows (AW m17),.int m18,.int m19,.int m20,.int m21,.int m22]=some [.bool true]:=by
 show CS (std (AQ N) N) (xOf _)=_;have nn:=XJ (⟨⟨m0,m1,m2,m3,m4,m5,m6,m7,m8,m9,m10,m11,m12,m13⟩,m14,m15,m16,m17,m18,m19,m20,m21,m22⟩:Mat) hs;have ok:=Yu (m:=(⟨⟨m0,m1,m2,m3,m4,m5,m6,m7,m8,m9,m10,m11,m12,m13⟩,m14,m15,m16,m17,m18,m19,m20,m21,m22⟩:Mat));have hl:=Nat.le_trans ok.len (show 5≤1000000 by omega);have hl2:=Nat.le_trans ok.len (show 5≤1048576 by omega);have hl3:=Nat.le_trans ok.len (show 5≤800 by omega);have g21:I64 (Sa (⟨⟨m0,m1,m2,m3,m4,m5,m6,m7,m8,m9,m10,m11,m12,m13⟩,m14,m15,m16,m17,m18,m19,m20,m21,m22⟩:Mat)).wside:=h21;have g22:I64 (Sa (⟨⟨m0,m1,m2,m3,m4,m5,m6,m7,m8,m9,m10,m11,m12,m13⟩,m14,m15,m16,m17,m18,m19,m20,m21,m22⟩:Mat)).margin:=h22;simp only [CS,Hh,It,Gr,HM,F9,F8,Gd,Da,Gt,F7,Alg.q,std,xOf,PXb,ha,XZ hN,PXk,FN ok.fit hN hl nn,VE ok.fit hN hl3 nn g21 g22,RB ok.fit hN hl nn,RI ok.fit hN hl nn,L8 hN hl,NJ hN hl2,WU];generalize Sa (⟨⟨m0,m1,m2,m3,m4,m5,m6,m7,m8,m9,m10,m11,m12,m13⟩,m14,m15,m16,m17,m18,m19,m20,m21,m22⟩:Mat)=F at *
 cases hv:Bo F with
 | false =>
  rw [ZG hv,ZQ hv,ZZ hv];simp only [PXb,PXb,beq_self_eq_true,Bool.not_false,cond_true,cond_false]
 | true =>
  have rt:=Xy hv;have tc:=YW hv;simp only [PXb];refine BZ (Jj (len:=F.inns.length) (fun i=>[.int (PN F.inns i),.int (i:Int)]) [.int 1,.int (PN F.inns F.inns.length)] ?_ ?_ N (by omega)) ?_
  ·intro self;simp only [PXb,PXc,PXn,Ac,PXs,List.length_map,Ds]
  ·intro i self hi;simp only [PXb,PXc,PXn,Ac,PXs,PXi,List.length_map,Cq hi,Bs hi,UR hi,Di,OW (show i≤1099511627776 by omega),beq_self_eq_true,Bool.not_true,Bool.or_false,Bool.and_true,Da,VW,Nat.reduceAdd];rfl
  ·simp only [PXb,PXc,PXn,PXm,Nat.reduceAdd,Int.reduceBEq,rt,beq_self_eq_true];refine HL (ZK _) ?_;have ei:(AW F.inns).length=F.inns.length:=by simp only [PXi]
   have tc':Bc (KL ⟨⟨F.rules.name,F.rules.side,F.rules.innings,F.rules.overs,F.rules.balls,F.rules.quota,F.rules.wide,F.rules.noball,F.rules.freehit,F.rules.newball,F.rules.followon,F.rules.reviews,F.rules.outside,F.rules.power⟩,F.stage,F.first,F.follow,F.inns,F.pen1,F.pen2,F.win,F.wside,F.margin⟩)=F.inns.length:=tc;simp only [PXb,PXc,PXn,PXm,Nat.reduceAdd,Int.reduceBEq,tc',ei,beq_self_eq_true]
end Go.Px
end
