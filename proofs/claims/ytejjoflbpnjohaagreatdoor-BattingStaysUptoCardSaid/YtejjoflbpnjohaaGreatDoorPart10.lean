/- Part 10. -/
import Derived.Test.YtejjoflbpnjohaaGreatDoorPart08
import Derived.Test.YtejjoflbpnjohaaGreatDoorPart09
set_option linter.unusedVariables false
set_option linter.unusedSimpArgs false
variable {s0 s1 s2 s3 s4 s5 s6 s7 s8 s9 s10 s11 s12 s13 s15 s21 s22 s23 s25 s26 s27:Int}
variable {s14 s16 s17 s19 s24:Go.Px.Rows}
variable {r1 r2 r3 r4 r5 r6 r7 r9 r10 r11 r12:Int}
variable {d0 d1 d2 d3 d4 d6 d7 d8 d9 d11:Int}
section
namespace Go.Px
def Aj (xs:List Inn):Rows:=xs.map Inn.ls
def dI:Inn:=⟨0,0,0,0,0,0,0,0,0,0,0,0,0,0,[],0,[],[],false,[],false,0,0,0,[],0,0,0⟩
def inn (xs:List Inn) (i:Nat):Inn:=xs.getD i dI
structure Mat where
 rules:Rul
 stage:Int
 first:Int
 follow:Bool
 inns:List Inn
 pen1:Int
 pen2:Int
 win:Int
 wside:Int
 margin:Int
def Mat.ls (m:Mat):List PV:=[.str m.rules.name,.int m.rules.side,.int m.rules.innings,.int m.rules.overs,.int m.rules.balls,.int m.rules.quota,.int m.rules.wide,.int m.rules.noball,.bool m.rules.freehit,.int m.rules.newball,.int m.rules.followon,.int m.rules.reviews,.int m.rules.outside,.rows m.rules.power,.int m.stage,.int m.first,.bool m.follow,.rows (Aj m.inns),.int m.pen1,.int m.pen2,.int m.win,.int m.wside,.int m.margin]
def UN (x:Mat×Int):List PV:=[.str x.1.rules.name,.int x.1.rules.side,.int x.1.rules.innings,.int x.1.rules.overs,.int x.1.rules.balls,.int x.1.rules.quota,.int x.1.rules.wide,.int x.1.rules.noball,.bool x.1.rules.freehit,.int x.1.rules.newball,.int x.1.rules.followon,.int x.1.rules.reviews,.int x.1.rules.outside,.rows x.1.rules.power,.int x.1.stage,.int x.1.first,.bool x.1.follow,.rows (Aj x.1.inns),.int x.1.pen1,.int x.1.pen2,.int x.1.win,.int x.1.wside,.int x.1.margin,.int x.2]
theorem cQ (xs:List Inn) (i:Nat):AL (Aj xs) i=(match xs[i]? with | some s=>s.ls | none=>[]):=by
 unfold AL Aj;rw [zzk,List.getElem?_map];cases xs[i]?<;>rfl
theorem MN (xs:List Inn) (i:Nat):inn xs i=(match xs[i]? with | some s=>s | none=>dI):=by
 unfold inn;rw [zzk];cases xs[i]?<;>rfl
theorem Ye (xs:List Inn):(Aj xs).length=xs.length:=List.length_map _
theorem PXi : (∀ xs : List Inn, (Aj xs).length = xs.length) ∧ (∀ (xs : List Inn) (i : Nat), pvI (AF (Aj xs) i 0) = (inn xs i).side) ∧ (∀ (xs : List Inn) (i : Nat), pvI (AF (Aj xs) i 1) = (inn xs i).target) ∧ (∀ (xs : List Inn) (i : Nat), pvI (AF (Aj xs) i 2) = (inn xs i).overs) ∧ (∀ (xs : List Inn) (i : Nat), pvI (AF (Aj xs) i 3) = (inn xs i).runs) ∧
    (∀ (xs:List Inn) (i:Nat),pvI (AF (Aj xs) i 4)=(inn xs i).wickets)∧(∀ (xs:List Inn) (i:Nat),pvI (AF (Aj xs) i 5)=(inn xs i).wides)∧(∀ (xs:List Inn) (i:Nat),pvI (AF (Aj xs) i 6)=(inn xs i).noballs)∧(∀ (xs:List Inn) (i:Nat),pvI (AF (Aj xs) i 7)=(inn xs i).byes)∧(∀ (xs:List Inn) (i:Nat),pvI (AF (Aj xs) i 8)=(inn xs i).legbyes) ∧
    (∀ (xs:List Inn) (i:Nat),pvI (AF (Aj xs) i 9)=(inn xs i).pens)∧(∀ (xs:List Inn) (i:Nat),pvI (AF (Aj xs) i 10)=(inn xs i).complete)∧(∀ (xs:List Inn) (i:Nat),pvI (AF (Aj xs) i 11)=(inn xs i).inover)∧(∀ (xs:List Inn) (i:Nat),pvI (AF (Aj xs) i 12)=(inn xs i).striker)∧(∀ (xs:List Inn) (i:Nat),pvI (AF (Aj xs) i 13)=(inn xs i).other) ∧
    (∀ (xs:List Inn) (i:Nat),pvL (AF (Aj xs) i 14)=(inn xs i).batters)∧(∀ (xs:List Inn) (i:Nat),pvI (AF (Aj xs) i 15)=(inn xs i).bowler)∧(∀ (xs:List Inn) (i:Nat),pvL (AF (Aj xs) i 16)=(inn xs i).bowlers)∧(∀ (xs:List Inn) (i:Nat),pvL (AF (Aj xs) i 17)=(inn xs i).before)∧(∀ (xs:List Inn) (i:Nat),pvB (AF (Aj xs) i 18)=(inn xs i).fresh) ∧
    (∀ (xs:List Inn) (i:Nat),pvL (AF (Aj xs) i 19)=(inn xs i).bowled)∧(∀ (xs:List Inn) (i:Nat),pvB (AF (Aj xs) i 20)=(inn xs i).freehit)∧(∀ (xs:List Inn) (i:Nat),pvI (AF (Aj xs) i 21)=(inn xs i).ballage)∧(∀ (xs:List Inn) (i:Nat),pvI (AF (Aj xs) i 22)=(inn xs i).keeper)∧(∀ (xs:List Inn) (i:Nat),pvI (AF (Aj xs) i 23)=(inn xs i).outside) ∧
    (∀ (xs:List Inn) (i:Nat),pvL (AF (Aj xs) i 24)=(inn xs i).subs)∧(∀ (xs:List Inn) (i:Nat),pvI (AF (Aj xs) i 25)=(inn xs i).rev1)∧(∀ (xs:List Inn) (i:Nat),pvI (AF (Aj xs) i 26)=(inn xs i).rev2)∧(∀ (xs:List Inn) (i:Nat),pvI (AF (Aj xs) i 27)=(inn xs i).ending):=by
  refine ⟨Ye,?_,?_,?_,?_,?_,?_,?_,?_,?_,?_,?_,?_,?_,?_,?_,?_,?_,?_,?_,?_,?_,?_,?_,?_,?_,?_,?_,?_⟩
  all_goals (intro xs i;rw [MN];unfold AF;rw [cQ];cases xs[i]?<;>rfl)
theorem Mat.eta (m:Mat):Mat.mk m.rules m.stage m.first m.follow m.inns m.pen1 m.pen2 m.win m.wside m.margin=m:=rfl
theorem PXk : (∀ m : Mat, m.ls = [.str m.rules.name, .int m.rules.side, .int m.rules.innings, .int m.rules.overs, .int m.rules.balls, .int m.rules.quota, .int m.rules.wide, .int m.rules.noball, .bool m.rules.freehit, .int m.rules.newball, .int m.rules.followon, .int m.rules.reviews, .int m.rules.outside, .rows m.rules.power, .int m.stage, .int m.first, .bool m.follow, .rows (Aj m.inns), .int m.pen1, .int m.pen2, .int m.win, .int m.wside, .int m.margin]) ∧
    (∀ x:Mat×Int,UN x=[.str x.1.rules.name,.int x.1.rules.side,.int x.1.rules.innings,.int x.1.rules.overs,.int x.1.rules.balls,.int x.1.rules.quota,.int x.1.rules.wide,.int x.1.rules.noball,.bool x.1.rules.freehit,.int x.1.rules.newball,.int x.1.rules.followon,.int x.1.rules.reviews,.int x.1.rules.outside,.rows x.1.rules.power,.int x.1.stage,.int x.1.first,.bool x.1.follow,.rows (Aj x.1.inns),.int x.1.pen1,.int x.1.pen2,.int x.1.win,.int x.1.wside,.int x.1.margin,.int x.2]) ∧
    (∀ m:Mat,Mat.mk m.rules m.stage m.first m.follow m.inns m.pen1 m.pen2 m.win m.wside m.margin=m):=⟨fun _=>rfl,fun _=>rfl,fun _=>rfl⟩
theorem kA:∀ (ps r pre:List PV),r.length=ps.length→BB (pre++r) pre.length ps=pre++ps
 | [],r,pre,h=>by
  have:r=[]:=List.eq_nil_of_length_eq_zero h;subst this;rfl
 | p::ps,[],pre,h=>by cases h
 | p::ps,a::r,pre,h=>by
  have ih:=kA ps r (pre++[p]) (by simpa using h);simp only [List.length_append,List.length_cons,List.length_nil,List.append_assoc,List.cons_append,List.nil_append] at ih;unfold BB;rw [List.set_append_right _ _ (Nat.le_refl _),Nat.sub_self];exact ih
theorem sC (a s:Inn):BB a.ls 0 s.ls=s.ls:=kA s.ls a.ls [] rfl
theorem rO (a:Inn) (e:Int):BB a.ls 27 [.int e]=Inn.ls { a with ending:=e }:=by
 show a.ls.set 27 (.int e)=_;rfl
theorem qx {xs:List Inn} {i:Nat} (h:i<xs.length) (s:Inn):(Aj xs).set i (BB (AL (Aj xs) i) 0 s.ls)=Aj (xs.set i s):=by
 have e:AL (Aj xs) i=(xs[i]).ls:=by rw [cQ,zzn h]
 rw [e,sC];exact List.map_set.symm
theorem qU {xs:List Inn} {i:Nat} (h:i<xs.length) (e:Int):(Aj xs).set i (BB (AL (Aj xs) i) 27 [.int e])=Aj (xs.set i { inn xs i with ending:=e }):=by
 have e1:AL (Aj xs) i=(inn xs i).ls:=by rw [cQ,MN,zzn h]
 rw [e1,rO];exact List.map_set.symm
theorem rG (xs:List Inn) (s:Inn):Aj xs++[s.ls]=Aj (xs++[s]):=by
 show List.map Inn.ls xs++List.map Inn.ls [s]=List.map Inn.ls (xs++[s]);exact List.map_append.symm
theorem ql (xs:List Inn) (i:Nat) (s:Inn):(Aj xs).set i (BB (AL (Aj xs) i) 0 s.ls)=Aj (xs.set i s):=by
 by_cases h:i<xs.length
 ·exact qx h s
 ·rw [List.set_eq_of_length_le (by rw [Ye];omega),List.set_eq_of_length_le (by omega)]
theorem iu (xs:List Inn) (i:Nat) (e:Int):(Aj xs).set i (BB (AL (Aj xs) i) 27 [.int e])=Aj (xs.set i { inn xs i with ending:=e }):=by
 by_cases h:i<xs.length
 ·exact qU h e
 ·rw [List.set_eq_of_length_le (by rw [Ye];omega),List.set_eq_of_length_le (by omega)]
theorem PXr : (∀ (xs : List Inn) (x0 x1 x2 x3 x4 x5 x6 x7 x8 x9 x10 x11 x12 x13 x15 x21 x22 x23 x25 x26 x27 : Int) (x18 x20 : Bool) (x14 x16 x17 x19 x24 : Rows), Aj xs ++ [([.int x0, .int x1, .int x2, .int x3, .int x4, .int x5, .int x6, .int x7, .int x8, .int x9, .int x10, .int x11, .int x12, .int x13, .rows x14, .int x15, .rows x16, .rows x17, .bool x18, .rows x19, .bool x20, .int x21, .int x22, .int x23, .rows x24, .int x25, .int x26, .int x27] : List PV)] = Aj (xs ++ [⟨x0, x1, x2, x3, x4, x5, x6, x7, x8, x9, x10, x11, x12, x13, x14, x15, x16, x17, x18, x19, x20, x21, x22, x23, x24, x25, x26, x27⟩])) ∧ (∀ (xs : List Inn) (i : Nat) (x0 x1 x2 x3 x4 x5 x6 x7 x8 x9 x10 x11 x12 x13 x15 x21 x22 x23 x25 x26 x27 : Int) (x18 x20 : Bool) (x14 x16 x17 x19 x24 : Rows), (Aj xs).set i (BB (AL (Aj xs) i) 0 [.int x0, .int x1, .int x2, .int x3, .int x4, .int x5, .int x6, .int x7, .int x8, .int x9, .int x10, .int x11, .int x12, .int x13, .rows x14, .int x15, .rows x16, .rows x17, .bool x18, .rows x19, .bool x20, .int x21, .int x22, .int x23, .rows x24, .int x25, .int x26, .int x27]) = Aj (xs.set i ⟨x0, x1, x2, x3, x4, x5, x6, x7, x8, x9, x10, x11, x12, x13, x14, x15, x16, x17, x18, x19, x20, x21, x22, x23, x24, x25, x26, x27⟩)) ∧
    (∀ (xs:List Inn) (i:Nat) (e:Int),(Aj xs).set i (BB (AL (Aj xs) i) 27 [.int e])=Aj (xs.set i { inn xs i with ending:=e })) :=
  ⟨fun xs x0 x1 x2 x3 x4 x5 x6 x7 x8 x9 x10 x11 x12 x13 x15 x21 x22 x23 x25 x26 x27 x18 x20 x14 x16 x17 x19 x24=>rG xs ⟨x0,x1,x2,x3,x4,x5,x6,x7,x8,x9,x10,x11,x12,x13,x14,x15,x16,x17,x18,x19,x20,x21,x22,x23,x24,x25,x26,x27⟩,fun xs i x0 x1 x2 x3 x4 x5 x6 x7 x8 x9 x10 x11 x12 x13 x15 x21 x22 x23 x25 x26 x27 x18 x20 x14 x16 x17 x19 x24=>ql xs i ⟨x0,x1,x2,x3,x4,x5,x6,x7,x8,x9,x10,x11,x12,x13,x14,x15,x16,x17,x18,x19,x20,x21,x22,x23,x24,x25,x26,x27⟩,iu⟩
set_option maxRecDepth 100000
theorem HB {N:Nat} {s18 s20:Bool} (h:Fit s14 s16 s17 s19 s24):Ax N [.int s0,.int s1,.int s2,.int s3,.int s4,.int s5,.int s6,.int s7,.int s8,.int s9,.int s10,.int s11,.int s12,.int s13,.rows s14,.int s15,.rows s16,.rows s17,.bool s18,.rows s19,.bool s20,.int s21,.int s22,.int s23,.rows s24,.int s25,.int s26,.int s27]=some [.int s0,.int s1,.int s2,.int s3,.int s4,.int s5,.int s6,.int s7,.int s8,.int s9,.int s10,.int s11,.int s12,.int s13,.rows s14,.int s15,.rows s16,.rows s17,.bool s18,.rows s19,.bool s20,.int s21,.int s22,.int s23,.rows s24,.int s25,.int s26,.int s27]:=by
 show L4 (std (Gj N) N) (xOf _)=_;simp only [L4,LL,Mv,MK,lq9,std,xOf,PXb,PXc,PXn,PXm,Nat.reduceAdd,Int.reduceBEq,Aa,Ah,Ac,Bf h.bt (show 1≤4096 by omega),Bf h.bw' (show 8≤4096 by omega),Bf h.bf (show 8≤4096 by omega),Bf h.bd (show 8≤4096 by omega),Bf h.sb (show 1≤4096 by omega)]
theorem G6 {N:Nat} {s18 s20:Bool} {p:Int}  : Av N [.int s0,.int s1,.int s2,.int s3,.int s4,.int s5,.int s6,.int s7,.int s8,.int s9,.int s10,.int s11,.int s12,.int s13,.rows s14,.int s15,.rows s16,.rows s17,.bool s18,.rows s19,.bool s20,.int s21,.int s22,.int s23,.rows s24,.int s25,.int s26,.int s27,.int p]=some [.bool (inR p s14.length)]:=by
 show Jq (std (RI N) N) (xOf _)=_;simp only [Jq,lq9,std,xOf,PXb,PXc,PXn,PXm,Nat.reduceAdd,Int.reduceBEq];rfl
def Ak (s:Inn) (d:Del):Inn :=
  let odd := !(d.runs.tmod 2==0) != d.crossed
  let t:Inn:=cond odd { s with striker:=s.other,other:=s.striker } s
  let k:Bool:=d.how==0
  cond (!k&&(d.victim==1 && !(s.striker==0)))
    { t with striker:=cond odd t.striker 0,other:=cond odd 0 t.other,batters:=cond (inR s.striker s.batters.length) (ND s.batters s.striker 2) s.batters,wickets:=IntKind.i64.wrap (s.wickets+1) }
    (cond (!k&&(d.victim==2 && !(s.other==0)))
      { t with striker:=cond odd 0 t.striker,other:=cond odd t.other 0,batters:=cond (inR s.other s.batters.length) (ND s.batters s.other 2) s.batters,wickets:=IntKind.i64.wrap (s.wickets+1) }
      t)
theorem iD {N:Nat} {s18 s20:Bool} {d5 d10:Bool} (h:Fit s14 s16 s17 s19 s24):JW N [.int s0,.int s1,.int s2,.int s3,.int s4,.int s5,.int s6,.int s7,.int s8,.int s9,.int s10,.int s11,.int s12,.int s13,.rows s14,.int s15,.rows s16,.rows s17,.bool s18,.rows s19,.bool s20,.int s21,.int s22,.int s23,.rows s24,.int s25,.int s26,.int s27,.int d0,.int d1,.int d2,.int d3,.int d4,.bool d5,.int d6,.int d7,.int d8,.int d9,.bool d10,.int d11]=some (Ak (⟨s0,s1,s2,s3,s4,s5,s6,s7,s8,s9,s10,s11,s12,s13,s14,s15,s16,s17,s18,s19,s20,s21,s22,s23,s24,s25,s26,s27⟩:Inn) (⟨d0,d1,d2,d3,d4,d5,d6,d7,d8,d9,d10,d11⟩:Del)).ls:=by
 show Mf (std (Jn N) N) (xOf _)=_;simp only [Mf,RN,Pg,lq9,std,xOf,PXb,PXc,PXn,PXm,Nat.reduceAdd,Int.reduceBEq,HB h,G6,sJ h.bt];unfold Ak;cases d5<;>cases d2.tmod 2==0<;>cases d6==0<;>cases d7==1<;>cases d7==2<;>cases s12==0<;>cases s13==0<;>rfl
def IA (s:Inn):Inn:={ s with striker:=s.other,other:=s.striker }
theorem bi {N:Nat} {s18 s20:Bool} (h:Fit s14 s16 s17 s19 s24):Fp N [.int s0,.int s1,.int s2,.int s3,.int s4,.int s5,.int s6,.int s7,.int s8,.int s9,.int s10,.int s11,.int s12,.int s13,.rows s14,.int s15,.rows s16,.rows s17,.bool s18,.rows s19,.bool s20,.int s21,.int s22,.int s23,.rows s24,.int s25,.int s26,.int s27]=some (IA (⟨s0,s1,s2,s3,s4,s5,s6,s7,s8,s9,s10,s11,s12,s13,s14,s15,s16,s17,s18,s19,s20,s21,s22,s23,s24,s25,s26,s27⟩:Inn)).ls:=by
 show Ir (std (KA N) N) (xOf _)=_;simp only [Ir,O3,lq9,std,xOf,PXb,PXc,PXn,PXm,Nat.reduceAdd,Int.reduceBEq,HB h];rfl
theorem YZ {N:Nat} {v:Int}  : Cs N [.int v]=some [.bool (!(v==0))]:=by
 show LJ (std (OG N) N) (xOf _)=_;rfl
theorem XS {N:Nat} {v:Int}  : EU N [.int v]=some [.bool (!(v==0))]:=by
 show J3 (std (M9 N) N) (xOf _)=_;rfl
theorem TL {N:Nat} {s18 s20:Bool} (h:s14.length≤1048576) (hN:2097152<N):B3 N [.int s0,.int s1,.int s2,.int s3,.int s4,.int s5,.int s6,.int s7,.int s8,.int s9,.int s10,.int s11,.int s12,.int s13,.rows s14,.int s15,.rows s16,.rows s17,.bool s18,.rows s19,.bool s20,.int s21,.int s22,.int s23,.rows s24,.int s25,.int s26,.int s27]=some [.bool (Cd s14)]:=by
 show En (std (FB N) N) (xOf _)=_;simp only [En,GN,lq9,std,xOf,PXb,PXc,PXn,AH];rw [show Cd s14=iLe 0 (Oj (fun i => !(atI s14 i 0==0)) s14.length) from (Jj _ _).symm];rw [Option.bind_assoc];refine Ae (Ct (len:=s14.length) (GE fun i => !(atI s14 i 0==0)) ?_ ?_ s14.length 0 N (by omega) (by omega)) ?_
 ·intro self;simp only [PXb,PXc,PXn,AH,BC]
 ·intro i self hi;simp only [PXb,PXc,PXn,AH,BG (show i≤1099511627776 by omega),A5 hi,Ab hi,GE,DX,GN,YZ];cases atI s14 i 0==0<;>rfl
 ·unfold Oj;cases Bt (GE fun i => !(atI s14 i 0==0)) s14.length 0<;>rfl
theorem bG {N:Nat} {s18 s20:Bool} (h:s14.length≤1048576) (hN:2097152<N):Fu N [.int s0,.int s1,.int s2,.int s3,.int s4,.int s5,.int s6,.int s7,.int s8,.int s9,.int s10,.int s11,.int s12,.int s13,.rows s14,.int s15,.rows s16,.rows s17,.bool s18,.rows s19,.bool s20,.int s21,.int s22,.int s23,.rows s24,.int s25,.int s26,.int s27]=some [.bool (Cd s14)]:=by
 show IR (std (J6 N) N) (xOf _)=_;simp only [IR,FO,lq9,std,xOf,PXb,PXc,PXn,AH];rw [show Cd s14=iLe 0 (Oj (fun i => !(atI s14 i 0==0)) s14.length) from (Jj _ _).symm];rw [Option.bind_assoc];refine Ae (Ct (len:=s14.length) (GE fun i => !(atI s14 i 0==0)) ?_ ?_ s14.length 0 N (by omega) (by omega)) ?_
 ·intro self;simp only [PXb,PXc,PXn,AH,BC]
 ·intro i self hi;simp only [PXb,PXc,PXn,AH,BG (show i≤1099511627776 by omega),A5 hi,Ab hi,GE,DX,FO,XS];cases atI s14 i 0==0<;>rfl
 ·unfold Oj;cases Bt (GE fun i => !(atI s14 i 0==0)) s14.length 0<;>rfl
theorem SO {N:Nat} {s18 s20:Bool} (h:s14.length≤1048576) (hN:2097152<N):BM N [.int s0,.int s1,.int s2,.int s3,.int s4,.int s5,.int s6,.int s7,.int s8,.int s9,.int s10,.int s11,.int s12,.int s13,.rows s14,.int s15,.rows s16,.rows s17,.bool s18,.rows s19,.bool s20,.int s21,.int s22,.int s23,.rows s24,.int s25,.int s26,.int s27]=some [.bool (Gz s14 s12 s13)]:=by
 show EC (std (EW N) N) (xOf _)=_;simp only [EC,NG,lq9,std,xOf,PXb,PXc,PXn,PXm,Nat.reduceAdd,Int.reduceBEq,TL h hN];rfl
theorem eH {N:Nat} {s18 s20:Bool} (h:s14.length≤1048576) (hN:2097152<N):Cj N [.int s0,.int s1,.int s2,.int s3,.int s4,.int s5,.int s6,.int s7,.int s8,.int s9,.int s10,.int s11,.int s12,.int s13,.rows s14,.int s15,.rows s16,.rows s17,.bool s18,.rows s19,.bool s20,.int s21,.int s22,.int s23,.rows s24,.int s25,.int s26,.int s27]=some [.rows (De s14 s14.length)]:=by
 show FY (std (Mp N) N) (xOf _)=_;simp only [FY,lq9,std,xOf,PXb,PXc,PXn,AH];refine Ae (C8 (len:=s14.length) (fun i=>[.rows (De s14 i),.int (i:Int)]) [.rows (De s14 s14.length)] ?_ ?_ N (by omega)) rfl
 ·intro self;simp only [PXb,PXc,PXn,AH,BC]
 ·intro i self hi;have h2:(De s14 i++[[PV.int ((i:Int)+1)]]).length≤4194304:=by have:=Yl s14 i;simp;omega
  simp only [PXb,PXc,PXn,AH,BG (show i≤1099511627776 by omega),A5 hi,Ab hi,DX,De,Iq h2 (show 8≤4096 by omega)];cases (atI s14 i 0==0||atI s14 i 0==3)<;>rfl
def N2 (s:Inn) (p q:Int):Inn×Int :=
  cond (Cd s.batters) (s,1) (cond (!inR p s.batters.length || !inR q s.batters.length) (s,3) (cond (p==q) (s,4)
    ({ s with batters:=ND (ND s.batters p 1) q 1,striker:=p,other:=q },0)))
theorem eJ {N:Nat} {s18 s20:Bool} {p:Int} {q:Int} (h:Fit s14 s16 s17 s19 s24) (hN:2097152<N):H7 N [.int s0,.int s1,.int s2,.int s3,.int s4,.int s5,.int s6,.int s7,.int s8,.int s9,.int s10,.int s11,.int s12,.int s13,.rows s14,.int s15,.rows s16,.rows s17,.bool s18,.rows s19,.bool s20,.int s21,.int s22,.int s23,.rows s24,.int s25,.int s26,.int s27,.int p,.int q]=some (BK (N2 (⟨s0,s1,s2,s3,s4,s5,s6,s7,s8,s9,s10,s11,s12,s13,s14,s15,s16,s17,s18,s19,s20,s21,s22,s23,s24,s25,s26,s27⟩:Inn) p q)):=by
 show Kx (std (Fv N) N) (xOf _)=_;generalize hres:(some (BK (N2 (⟨s0,s1,s2,s3,s4,s5,s6,s7,s8,s9,s10,s11,s12,s13,s14,s15,s16,s17,s18,s19,s20,s21,s22,s23,s24,s25,s26,s27⟩:Inn) p q)):Option (List PV))=RR;simp only [Kx,RH,O2,Oz,lq9,std,xOf,PXb,PXc,PXn,PXm,Nat.reduceAdd,Int.reduceBEq,HB h,TL h.bt hN,G6];subst hres;simp only [N2];cases Cd s14<;>try rfl
 cases hp:inR p s14.length<;>cases hq:inR q s14.length<;>try rfl
 rw [Ks hp h.bt,Ks hq h.bt];cases p==q<;>rfl
def JG (s:Inn) (p:Int):Int :=
 cond (!inR p s.batters.length) 3 (cond (!Gz s.batters s.striker s.other||atI s.batters (ix p) 0==1) 4 (cond (atI s.batters (ix p) 0==2) 5 0))
theorem Wi {N:Nat} {s18 s20:Bool} {p:Int} (h:s14.length≤1048576) (hN:2097152<N):Dn N [.int s0,.int s1,.int s2,.int s3,.int s4,.int s5,.int s6,.int s7,.int s8,.int s9,.int s10,.int s11,.int s12,.int s13,.rows s14,.int s15,.rows s16,.rows s17,.bool s18,.rows s19,.bool s20,.int s21,.int s22,.int s23,.rows s24,.int s25,.int s26,.int s27,.int p]=some [.int (JG (⟨s0,s1,s2,s3,s4,s5,s6,s7,s8,s9,s10,s11,s12,s13,s14,s15,s16,s17,s18,s19,s20,s21,s22,s23,s24,s25,s26,s27⟩:Inn) p)]:=by
 show L7 (std (Jm N) N) (xOf _)=_;generalize hres:(some [.int (JG (⟨s0,s1,s2,s3,s4,s5,s6,s7,s8,s9,s10,s11,s12,s13,s14,s15,s16,s17,s18,s19,s20,s21,s22,s23,s24,s25,s26,s27⟩:Inn) p)]:Option (List PV))=RR;simp only [L7,Og,Pz,lq9,std,xOf,PXb,PXc,PXn,PXm,Nat.reduceAdd,Int.reduceBEq,G6,SO h hN];subst hres;simp only [JG];cases hp:inR p s14.length<;>try rfl
 rw [Ks hp h];cases Gz s14 s12 s13<;>try rfl
 simp only [PXb,PXc,PXn,PXm,Nat.reduceAdd,Int.reduceBEq,atI,ix]
theorem WL {s:Inn} {p:Int} (h:(JG s p==0)=true):inR p s.batters.length=true:=by
 unfold JG at h;cases hp:inR p s.batters.length with
 | true=>rfl
 | false=>rw [hp] at h;cases h
def KX (s:Inn) (p:Int):Inn×Int :=
 cond (JG s p==0) ({ s with batters:=ND s.batters p 1,striker:=cond (s.striker==0) p s.striker,other:=cond (s.striker==0) s.other p },0) (s,JG s p)
def E7 (s:Inn) (p:Int):Inn×Int :=
 cond (JG s p==0) ({ s with batters:=ND s.batters p 2,wickets:=IntKind.i64.wrap (s.wickets+1) },0) (s,JG s p)
theorem cB {N:Nat} {s18 s20:Bool} {p:Int} (h:Fit s14 s16 s17 s19 s24) (hN:2097152<N):Gu N [.int s0,.int s1,.int s2,.int s3,.int s4,.int s5,.int s6,.int s7,.int s8,.int s9,.int s10,.int s11,.int s12,.int s13,.rows s14,.int s15,.rows s16,.rows s17,.bool s18,.rows s19,.bool s20,.int s21,.int s22,.int s23,.rows s24,.int s25,.int s26,.int s27,.int p]=some (BK (KX (⟨s0,s1,s2,s3,s4,s5,s6,s7,s8,s9,s10,s11,s12,s13,s14,s15,s16,s17,s18,s19,s20,s21,s22,s23,s24,s25,s26,s27⟩:Inn) p)):=by
 show JZ (std (Hg N) N) (xOf _)=_;generalize hres:(some (BK (KX (⟨s0,s1,s2,s3,s4,s5,s6,s7,s8,s9,s10,s11,s12,s13,s14,s15,s16,s17,s18,s19,s20,s21,s22,s23,s24,s25,s26,s27⟩:Inn) p)):Option (List PV))=RR;simp only [JZ,Pi,Pp,lq9,std,xOf,PXb,PXc,PXn,PXm,Nat.reduceAdd,Int.reduceBEq,HB h,Wi h.bt hN];subst hres;simp only [KX];cases hm:JG (⟨s0,s1,s2,s3,s4,s5,s6,s7,s8,s9,s10,s11,s12,s13,s14,s15,s16,s17,s18,s19,s20,s21,s22,s23,s24,s25,s26,s27⟩:Inn) p==0<;>try rfl
 rw [Ks (WL hm) h.bt];cases s12==0<;>rfl
theorem Y2 {N:Nat} {s18 s20:Bool} {p:Int} (h:Fit s14 s16 s17 s19 s24) (hN:2097152<N):E9 N [.int s0,.int s1,.int s2,.int s3,.int s4,.int s5,.int s6,.int s7,.int s8,.int s9,.int s10,.int s11,.int s12,.int s13,.rows s14,.int s15,.rows s16,.rows s17,.bool s18,.rows s19,.bool s20,.int s21,.int s22,.int s23,.rows s24,.int s25,.int s26,.int s27,.int p]=some (BK (E7 (⟨s0,s1,s2,s3,s4,s5,s6,s7,s8,s9,s10,s11,s12,s13,s14,s15,s16,s17,s18,s19,s20,s21,s22,s23,s24,s25,s26,s27⟩:Inn) p)):=by
 show Hj (std (Dh N) N) (xOf _)=_;generalize hres:(some (BK (E7 (⟨s0,s1,s2,s3,s4,s5,s6,s7,s8,s9,s10,s11,s12,s13,s14,s15,s16,s17,s18,s19,s20,s21,s22,s23,s24,s25,s26,s27⟩:Inn) p)):Option (List PV))=RR;simp only [Hj,OQ,My,OU,lq9,std,xOf,PXb,PXc,PXn,PXm,Nat.reduceAdd,Int.reduceBEq,HB h,Wi h.bt hN,G6];subst hres;simp only [E7];cases hm:JG (⟨s0,s1,s2,s3,s4,s5,s6,s7,s8,s9,s10,s11,s12,s13,s14,s15,s16,s17,s18,s19,s20,s21,s22,s23,s24,s25,s26,s27⟩:Inn) p==0<;>try rfl
 have hk:inR p s14.length=true:=WL hm;rw [Ks hk h.bt,hk];rfl
def FX (s:Inn) (p:Int) (hurt:Bool):Inn×Int :=
  cond (!inR p s.batters.length) (s,3) (cond (s.striker==0||s.other==0) (s,6) (cond (!(p==s.striker) && !(p==s.other)) (s,4)
    (cond (hurt&&((De s.batters s.batters.length).length:Int)==0) (s,19)
      ({ s with striker:=cond (p==s.striker) 0 s.striker,other:=cond (p==s.striker) s.other 0,batters:=ND s.batters p (cond hurt 3 2),wickets:=cond hurt s.wickets (IntKind.i64.wrap (s.wickets+1)) },0))))
theorem Z6 {N:Nat} {s18 s20:Bool} {p:Int} {b:Bool} (h:Fit s14 s16 s17 s19 s24) (hN:2097152<N):F2 N [.int s0,.int s1,.int s2,.int s3,.int s4,.int s5,.int s6,.int s7,.int s8,.int s9,.int s10,.int s11,.int s12,.int s13,.rows s14,.int s15,.rows s16,.rows s17,.bool s18,.rows s19,.bool s20,.int s21,.int s22,.int s23,.rows s24,.int s25,.int s26,.int s27,.int p,.bool b]=some (BK (FX (⟨s0,s1,s2,s3,s4,s5,s6,s7,s8,s9,s10,s11,s12,s13,s14,s15,s16,s17,s18,s19,s20,s21,s22,s23,s24,s25,s26,s27⟩:Inn) p b)):=by
 show Ig (std (EX N) N) (xOf _)=_;generalize hres:(some (BK (FX (⟨s0,s1,s2,s3,s4,s5,s6,s7,s8,s9,s10,s11,s12,s13,s14,s15,s16,s17,s18,s19,s20,s21,s22,s23,s24,s25,s26,s27⟩:Inn) p b)):Option (List PV))=RR;simp only [Ig,OX,Ot,NJ,lq9,std,xOf,PXb,PXc,PXn,PXm,Nat.reduceAdd,Int.reduceBEq,HB h,G6,eH h.bt hN];subst hres;simp only [FX];cases hp:inR p s14.length<;>try rfl
 rw [Ks hp h.bt];cases s12==0<;>cases s13==0<;>try rfl
 cases p==s12<;>cases p==s13<;>cases b<;>try rfl
 all_goals (simp only [PXb,PXc,PXn,PXm,Nat.reduceAdd,Int.reduceBEq];cases ((De s14 s14.length).length:Int)==0<;>rfl)
def btw (a b c:Int):Bool:=iLe b a&&iLe a c
theorem Dp (N:Nat) (a b c:Int):Al N [.int a,.int b,.int c]=some [.bool (btw a b c)]:=by
 show some [PV.bool (cond (iLe b a) (iLe a c) false)]=_;rw [bL];rfl
theorem LI (N:Nat) (a b c:Int):CV N [.int a,.int b,.int c]=some [.bool (btw a b c)]:=by
 show some [PV.bool (cond (iLe b a) (iLe a c) false)]=_;rw [bL];rfl
def Ng (x1 x2 x3 x4 x5 x6 x7 x9 x10 x11 x12:Int):Bool:=btw x1 2 11&&btw x2 1 2&&btw x3 0 90&&btw x4 4 8&&btw x5 0 90&&btw x6 1 5&&btw x7 1 5&&btw x9 0 200&&btw x10 0 1000&&btw x11 0 9&&btw x12 0 11
theorem Yf (N : Nat) (x0 : ByteArray) (x1 x2 x3 x4 x5 x6 x7 x9 x10 x11 x12 : Int) (x8 : Bool) (x13 : Rows) :
   F9 N [.str x0,.int x1,.int x2,.int x3,.int x4,.int x5,.int x6,.int x7,.bool x8,.int x9,.int x10,.int x11,.int x12,.rows x13]=some [.bool (Ng x1 x2 x3 x4 x5 x6 x7 x9 x10 x11 x12)]:=by
  show Ij (std (KB N) N) (xOf _)=_;have e:∀ ls,KB N 104 [] ls=CV N ls:=fun ls=>rfl
  simp only [Ij,lq9,std,xOf,e,LI,PXb,PXc,PXn,AH,Ng]
def XI (s:ByteArray) (i:Nat):Bool := !(iLe 65 (Nx s i)&&iLe (Nx s i) 90)&&((i:Int)==0||((!(Nx s i==95) && !(Nx s i==45))&&(iLt (Nx s i) 48||iLt 57 (Nx s i))))
def Wg (s:ByteArray):Bool := !Bg (XI s) s.size 0&&(iLe 1 s.size&&iLe s.size 16)
theorem rq (s:ByteArray):(CP s).length=s.size:=by
 simp only [CP,List.length_map,Array.length_toList];rfl
theorem tP (s:ByteArray) (i:Nat) (h:i<s.size):pvI (AF (CP s) i 0)=Nx s i:=by
 unfold AF AL AA CP Nx;simp only [zzk,List.getElem?_map];have:i<s.data.toList.length:=by simpa using h
 rw [zzn this];simp [zzn this]
theorem fF (N:Nat) (s:ByteArray) (hN:s.size<N) (hs:s.size≤1048576):GH N [.str s]=some [.bool (Wg s)]:=by
 show N1 (std (VD N) N) (xOf _)=_;simp only [N1,lq9,std,xOf,rq,PXb,PXc,PXn,AH];refine Ae (LQ (len:=s.size) (XI s) [.bool false] ?_ ?_ N hN) ?_
 ·intro self;simp only [PXb,PXc,PXn,AH,BC]
 ·intro i self hi;simp only [PXb,PXc,PXn,AH,Int.toNat_natCast,tP s i hi,BG (show i≤1099511627776 by omega),A5 hi,Ab hi,XI]
 ·unfold Wg;cases Bg (XI s) s.size 0<;>rfl
theorem qO {i len:Nat} (h:i<len) (hl:len≤1099511627776):(!iLt 0 (i:Int)||iIn (IntKind.i64.wrap ((i:Int) - 1)) (len:Int))=true:=by
 rw [CE (by omega) (by omega)];simp only [iLt,iIn,Bool.or_eq_true,Bool.not_eq_true',decide_eq_false_iff_not,decide_eq_true_eq];omega
def qI (L:Rows) (ov:Int) (i:Nat):Bool:=(iLt (atI L i 0) 1||iLt (atI L i 1) (atI L i 0)||iLt ov (atI L i 1)) || !btw (atI L i 2) 0 11
def mq (L:Rows) (i:Nat):Bool:=iLt 0 (i:Int)&&iLe (atI L i 0) (pvI (AF L (IntKind.i64.wrap ((i:Int) - 1)).toNat 1))
def mF (L:Rows) (ov:Int) (i:Nat):Option (List PV):=cond (qI L ov i) (some [.int 2]) (cond (mq L i) (some [.int 8]) none)
def mL:Option (List PV)→Int
 | none=>0
 | some r=>pvI (AA r 0)
def f7 (L:Rows) (ov:Int):Int:=cond (iLt 8 (L.length:Int)) 9 (mL (Bt (mF L ov) L.length 0))
theorem aR (o:Option (List PV)):cond (pvI (AA (W2 o) 0)==((0:Nat):Int)) (some [PV.int (pvI (AA (W2 o) 1))]) (some [PV.int 0])=some [PV.int (mL o)]:=by
 cases o<;>rfl
theorem Zy (N : Nat) (x0 : ByteArray) (x1 x2 x3 x4 x5 x6 x7 x9 x10 x11 x12 : Int) (x8 : Bool) (L : Rows) (hN : 2097152 < N) :
   Ge N [.str x0,.int x1,.int x2,.int x3,.int x4,.int x5,.int x6,.int x7,.bool x8,.int x9,.int x10,.int x11,.int x12,.rows L]=some [.int (f7 L x3)]:=by
  show Jz (std (LS N) N) (xOf _)=_;have e:∀ ls,LS N 104 [] ls=CV N ls:=fun ls=>rfl
  simp only [Jz,lq9,std,xOf,e,LI,PXb,PXc,PXn,AH,f7];cases h8:iLt 8 (L.length:Int) with
  | true=>rfl
  | false =>
    have hl:L.length≤8:=by simp [iLt] at h8;omega
    simp only [cond_false];refine Ae (Ct (len:=L.length) (mF L x3) ?_ ?_ L.length 0 N (by omega) (by omega)) ?_
    · intro self;simp only [PXb,PXc,PXn,AH,BC]
    · intro i self hi;simp only [PXb,PXc,PXn,AH,Int.toNat_natCast,BG (show i≤1099511627776 by omega),A5 hi,Ab hi,LI,e,qO hi (by omega)];simp only [mF,qI,mq,atI];cases (iLt (pvI (AF L i 0)) 1||iLt (pvI (AF L i 1)) (pvI (AF L i 0))||iLt x3 (pvI (AF L i 1)) || !btw (pvI (AF L i 2)) 0 11) <;>
      cases (iLt 0 (i:Int)&&iLe (pvI (AF L i 0)) (pvI (AF L (IntKind.i64.wrap ((i:Int) - 1)).toNat 1)))<;>rfl
    · exact aR _
def Lh (x0:ByteArray) (x1 x2 x3 x4 x5 x6 x7 x9 x10 x11 x12:Int) (L:Rows):Int :=
  cond (!Wg x0) 5 (cond (!Ng x1 x2 x3 x4 x5 x6 x7 x9 x10 x11 x12) 2
    (cond ((!(x10==0)&&x2==1)||((!(x5==0)||iLt 0 (L.length:Int))&&x3==0)) 1
      (cond (!(x5==0)&&iLt (IntKind.i64.wrap (x5 * x1)) x3) 13 (f7 L x3))))
theorem TX (N : Nat) (x0 : ByteArray) (x1 x2 x3 x4 x5 x6 x7 x9 x10 x11 x12 : Int) (x8 : Bool) (L : Rows) (hN : 2097152 < N) (hs : x0.size ≤ 1048576) :
   AW N [.str x0,.int x1,.int x2,.int x3,.int x4,.int x5,.int x6,.int x7,.bool x8,.int x9,.int x10,.int x11,.int x12,.rows L]=some [.int (Lh x0 x1 x2 x3 x4 x5 x6 x7 x9 x10 x11 x12 L)]:=by
  show Kj (std (F6 N) N) (xOf _)=_;have e:∀ ls,F6 N 73 [] ls=GH N ls:=fun ls=>rfl
  have e2:∀ ls,F6 N 89 [] ls=F9 N ls:=fun ls=>rfl
  have e3:∀ ls,F6 N 90 [] ls=Ge N ls:=fun ls=>rfl
  simp only [Kj,lq9,std,xOf,e,e2,e3,fF N x0 (by omega) hs,Yf,Zy N _ _ _ _ _ _ _ _ _ _ _ _ _ _ hN,PXb,PXc,AH,Lh];cases Wg x0<;>cases Ng x1 x2 x3 x4 x5 x6 x7 x9 x10 x11 x12<;>try rfl
  simp only [PXb,PXc,AH,Bool.not_true];cases (!(x10==0)&&x2==1)<;>cases ((!(x5==0)||iLt 0 (L.length:Int))&&x3==0)<;>try rfl
  cases (!(x5==0)&&iLt (IntKind.i64.wrap (x5 * x1)) x3)<;>rfl
theorem VN (N:Nat) (L:Rows) (v:Int) (hN:L.length<N) (hl:L.length≤2097152):Dj N [.rows L,.int v]=some [.int (Oj (fun j=>v==atI L j 0) L.length)]:=by
 show Fx (std (L6 N) N) (xOf _)=_;simp only [Fx,lq9,std,xOf,PXb,PXc,PXn,AH];refine Ae (Ct (len:=L.length) (GE fun j=>v==atI L j 0) ?_ ?_ L.length 0 N (by omega) (by omega)) ?_
 ·intro self;simp only [PXb,PXc,PXn,AH,BC]
 ·intro i self hi;simp only [PXb,PXc,PXn,AH,BG (show i≤1099511627776 by omega),A5 hi,Ab hi,GE,DX];cases v==atI L i 0<;>rfl
 ·unfold Oj;cases Bt (GE fun j=>v==atI L j 0) L.length 0<;>rfl
def J5 (L:Rows) (k:Nat) (v:Int):Bool:=Bg (fun j=>v==atI L j 0) k 0
theorem Kd (N:Nat) (L:Rows) (v:Int) (hN:L.length<N) (hl:L.length≤2097152):Aq N [.rows L,.int v]=some [.bool (J5 L L.length v)]:=by
 show EB (std (FT N) N) (xOf _)=_;have e:∀ ls,FT N 198 [] ls=Dj N ls:=fun ls=>rfl
 simp only [EB,lq9,std,xOf,PXb,PXc,PXn,AH,e,VN N L v hN hl,Jj,J5]
theorem pJ (L:Rows) (i:Nat) (v:Int) (h:i≤L.length):J5 (L.take i) (L.take i).length v=J5 L i v:=by
 rw [List.length_take,Nat.min_eq_left h];exact ZM i 0 (fun j _ hj=>by rw [oI (by omega)])
def P3 (L:Rows) (n:Int) (i:Nat):Bool := !btw (atI L i 0) 1 n||J5 L i (atI L i 0)
def Kb (L:Rows) (n:Int):Bool := !Bg (P3 L n) L.length 0
theorem L0 (N:Nat) (L:Rows) (n:Int) (hN:L.length<N) (hl:L.length≤2097152):DR N [.rows L,.int n]=some [.bool (Kb L n)]:=by
 show FK (std (D5 N) N) (xOf _)=_;have e:∀ ls,D5 N 159 [] ls=Al N ls:=fun ls=>rfl
 have e2:∀ ls,D5 N 184 [] ls=Aq N ls:=fun ls=>rfl
 simp only [FK,lq9,std,xOf,PXb,PXc,PXn,AH];refine Ae (LQ (len:=L.length) (P3 L n) [.bool false] ?_ ?_ N hN) ?_
 ·intro self;simp only [PXb,PXc,PXn,AH,BC]
 ·intro i self hi;have h1:(L.take i).length≤L.length:=List.length_take_le' i L;simp only [PXb,PXc,PXn,AH,BG (show i≤1099511627776 by omega),A5 hi,Ab hi,e,e2,Dp,tK (Nat.le_of_lt hi),Int.toNat_zero,List.drop_zero,Kd N (L.take i) _ (by omega) (by omega),pJ L i _ (by omega),DX,P3];cases btw (atI L i 0) 1 n<;>cases J5 L i (atI L i 0)<;>rfl
 ·unfold Kb;cases Bg (P3 L n) L.length 0<;>rfl
theorem XU (N:Nat) (v:Int):Cs N [.int v]=some [.bool (!(v==0))]:=rfl
def lsI (L14 L16 L17 L19 L24:Rows) (b18 b20:Bool) (x0 x1 x2 x3 x4 x5 x6 x7 x8 x9 x10 x11 x12 x13 x15 x21 x22 x23 x25 x26 x27:Int):List PV :=
 [.int x0,.int x1,.int x2,.int x3,.int x4,.int x5,.int x6,.int x7,.int x8,.int x9,.int x10,.int x11,.int x12,.int x13,.rows L14,.int x15,.rows L16,.rows L17,.bool b18,.rows L19,.bool b20,.int x21,.int x22,.int x23,.rows L24,.int x25,.int x26,.int x27]
section
variable (N:Nat) (L14 L16 L17 L19 L24:Rows) (b18 b20:Bool) (x0 x1 x2 x3 x4 x5 x6 x7 x8 x9 x10 x11 x12 x13 x15 x21 x22 x23 x25 x26 x27:Int)
theorem Zf (hN:L14.length<N) (hl:L14.length≤2097152):B3 N (lsI L14 L16 L17 L19 L24 b18 b20 x0 x1 x2 x3 x4 x5 x6 x7 x8 x9 x10 x11 x12 x13 x15 x21 x22 x23 x25 x26 x27)=some [.bool (Cd L14)]:=by
 show En (std (FB N) N) (xOf (lsI ..))=_;have e:∀ ls,FB N 262 [] ls=Cs N ls:=fun ls=>rfl
 simp only [En,lq9,std,xOf,lsI,PXb,PXc,PXn,AH];rw [show Cd L14=iLe 0 (Oj (fun i => !(atI L14 i 0==0)) L14.length) from (Jj _ _).symm];rw [Option.bind_assoc];refine Ae (Ct (len:=L14.length) (GE fun i => !(atI L14 i 0==0)) ?_ ?_ L14.length 0 N (by omega) (by omega)) ?_
 ·intro self;simp only [PXb,PXc,PXn,AH,BC]
 ·intro i self hi;simp only [PXb,PXc,PXn,AH,BG (show i≤1099511627776 by omega),A5 hi,Ab hi,GE,DX,e,XU];cases atI L14 i 0==0<;>rfl
 ·unfold Oj;cases Bt (GE fun i => !(atI L14 i 0==0)) L14.length 0<;>rfl
theorem ZC (hN:L14.length<N) (hl:L14.length≤2097152):BM N (lsI L14 L16 L17 L19 L24 b18 b20 x0 x1 x2 x3 x4 x5 x6 x7 x8 x9 x10 x11 x12 x13 x15 x21 x22 x23 x25 x26 x27)=some [.bool (Gz L14 x12 x13)]:=by
 show EC (std (EW N) N) (xOf (lsI ..))=_;have e:∀ ls,EW N 235 [] ls=B3 N ls:=fun ls=>rfl
 have:=Zf N L14 L16 L17 L19 L24 b18 b20 x0 x1 x2 x3 x4 x5 x6 x7 x8 x9 x10 x11 x12 x13 x15 x21 x22 x23 x25 x26 x27 hN hl;simp only [lsI] at this;simp only [EC,lq9,std,xOf,lsI,PXb,PXc,PXn,AH,e,this,Gz]
theorem cO (hN:L14.length<N) (hl:L14.length≤2097152):Cj N (lsI L14 L16 L17 L19 L24 b18 b20 x0 x1 x2 x3 x4 x5 x6 x7 x8 x9 x10 x11 x12 x13 x15 x21 x22 x23 x25 x26 x27)=some [.rows (De L14 L14.length)]:=by
 show FY (std (Mp N) N) (xOf (lsI ..))=_;simp only [FY,lq9,std,xOf,lsI,PXb,PXc,PXn,AH];refine Ae (C8 (len:=L14.length) (fun i=>[.rows (De L14 i),.int (i:Int)]) [.rows (De L14 L14.length)] ?_ ?_ N hN) rfl
 ·intro self;simp only [PXb,PXc,PXn,AH,BC]
 ·intro i self hi;have h2:(De L14 i++[[PV.int ((i:Int)+1)]]).length≤4194304:=by have:=Yl L14 i;simp;omega
  simp only [PXb,PXc,PXn,AH,BG (show i≤1099511627776 by omega),A5 hi,Ab hi,DX,De,Iq h2 (show 8≤4096 by omega)];cases (atI L14 i 0==0||atI L14 i 0==3)<;>rfl
end
theorem T4 (N:Nat) (v:Int):DQ N [.int v]=some [.bool (!btw v 0 1000000000)]:=by
 show FL (std (Gf N) N) (xOf _)=_;have e:∀ ls,Gf N 159 [] ls=Al N ls:=fun ls=>rfl
 simp only [FL,lq9,std,xOf,PXb,PXc,PXn,AH,e,Dp]
def pIs (L:Rows) (v:Int) (i:Nat):Bool:=atI L i 0==v
def WT (s n:Int) (i:Nat):Bool:=s==(i:Int)+1||n==(i:Int)+1
def PZ (L:Rows) (s n:Int) (i:Nat):Bool:=iLt 3 (atI L i 0)||(pIs L 1 i && !WT s n i)
def Z7 (L:Rows) (s n:Int) (i:Nat):Bool:=iLt 3 (atI L i 0) || !(pIs L 1 i==WT s n i)
def V4 (L:Rows):Int:=B9 (pIs L 2) L.length
def ins (L:Rows):Int:=B9 (pIs L 1) L.length
def two (s n:Int):Int:=cond (!(n==0)) (IntKind.i64.wrap (cond (!(s==0)) (IntKind.i64.wrap (0+1)) 0+1)) (cond (!(s==0)) (IntKind.i64.wrap (0+1)) 0)
def et (L:Rows) (s n wk k:Int):Bool :=
 !Bg (PZ L s n) L.length 0&&((btw s 0 k&&btw n 0 k)&&(!(s==n && !(s==0))&&((two s n==ins L&&(!Cd L||iLt 0 (two s n)))&&V4 L==wk)))
def XG (L:Rows) (s n wk:Int):Bool :=
 !Bg (Z7 L s n) L.length 0&&(!((Cd L&&iLt (ins L) 1)||(!(s==0)&&s==n))&&wk==V4 L)
def kf (L:Rows):Nat→Bool
 | 0=>false
 | i+1=>kf L i || !(atI L i 0==0)
theorem kO (L:Rows):∀ i,kf L i=Bg (fun j => !(atI L j 0==0)) i 0
 | 0=>rfl
 | i+1=>by rw [Vy,Nat.zero_add,← kO L i];rfl
section
variable (N:Nat) (L14 L16 L17 L19 L24:Rows) (b18 b20:Bool) (x0 x1 x2 x3 x4 x5 x6 x7 x8 x9 x10 x11 x12 x13 x15 x21 x22 x23 x25 x26 x27:Int)
theorem Vt (k:Int) (hN:L14.length<N) (hl:L14.length≤2097152):EN N (lsI L14 L16 L17 L19 L24 b18 b20 x0 x1 x2 x3 x4 x5 x6 x7 x8 x9 x10 x11 x12 x13 x15 x21 x22 x23 x25 x26 x27++[.int k])=some [.bool (et L14 x12 x13 x4 k)]:=by
  simp only [lsI,List.cons_append,List.nil_append];show GT (std (IP N) N) (xOf _)=_;have e:∀ ls,IP N 159 [] ls=Al N ls:=fun ls=>rfl
  simp only [GT,lq9,std,xOf,lsI,PXb,PXc,PXn,AH];refine Ae (gW (len:=L14.length) (fun i=>[.int (B9 (pIs L14 2) i),.int (B9 (pIs L14 1) i),.bool (kf L14 i),.int (i:Int)])
    (PZ L14 x12 x13) [.int 0,.bool false] [.int 1,.int (V4 L14),.int (ins L14),.bool (Cd L14)] ?_ ?_ N hN) ?_
  · intro self;simp only [PXb,PXc,PXn,AH,BC,kO];rfl
  · intro i self hi;simp only [PXb,PXc,AH,BG (show i≤1099511627776 by omega),A5 hi,Ab hi,DX,gl (pIs L14 2) (show i≤1099511627776 by omega),gl (pIs L14 1) (show i≤1099511627776 by omega)];unfold PZ pIs WT;simp only [B9,kf];cases h3:iLt 3 (atI L14 i 0) with
    | true=>rfl
    | false =>
      cases h1:atI L14 i 0==1 with
      | true =>
        rw [rD h1];cases x12==(i:Int)+1<;>cases x13==(i:Int)+1<;>rfl
      | false=>cases h2:atI L14 i 0==2<;>rfl
  · unfold et;simp only [e,Dp];cases Bg (PZ L14 x12 x13) L14.length 0 with
    | true=>rfl
    | false =>
      simp only [PXb,PXc,PXn,AH];unfold two;cases btw x12 0 k<;>cases btw x13 0 k<;>try rfl
      cases x12==0<;>cases x13==0<;>cases x12==x13<;>try rfl
end
theorem rR (s n:Int):two s n=cond (!(s==0)) 1 0+cond (!(n==0)) 1 0:=by
 unfold two;cases s==0<;>cases n==0<;>rfl
theorem qf {s n:Int} {len:Nat} (h1:0≤s∧s≤(len:Int)) (h2:0≤n∧n≤(len:Int)) (hd:(s==n && !(s==0))=false):two s n=B9 (WT s n) len:=by
 have hs:iLe s (len:Int)=true:=by simp only [iLe,decide_eq_true_eq];omega
 have hn:iLe n (len:Int)=true:=by simp only [iLe,decide_eq_true_eq];omega
 unfold WT;rw [nD (p:=fun i=>s==(i:Int)+1) (q:=fun i=>n==(i:Int)+1) len (fun j _ hp=>by
  have e1:s=(j:Int)+1:=by simpa using hp
  show (n==(j:Int)+1)=false;rw [beq_eq_false_iff_ne];intro e2;have e3:(s==n)=true:=by rw [beq_iff_eq];omega
  have e4:(s==0)=false:=by rw [beq_eq_false_iff_ne];omega
  rw [e3,e4] at hd;cases hd),hZ s len h1.1,hZ n len h2.1,hs,hn,Bool.and_true,Bool.and_true,rR]
theorem rC (x:Int):iLt 0 x = !iLt x 1:=by
 unfold iLt;rw [Bool.eq_iff_iff];simp only [decide_eq_true_eq,Bool.not_eq_true',decide_eq_false_iff_not];omega
theorem pX {L : Rows} {s n : Int} (h1 : 0 ≤ s ∧ s ≤ (L.length : Int)) (h2 : 0 ≤ n ∧ n ≤ (L.length : Int)) (hd : (s == n && !(s == 0)) = false) :
    (!Bg (PZ L s n) L.length 0&&two s n==ins L) = !Bg (Z7 L s n) L.length 0:=by
  have h2c:=qf h1 h2 hd;rw [Bool.eq_iff_iff];simp only [zzj,Bool.not_eq_true',HX,beq_iff_eq];constructor
  · intro ⟨ha,hb⟩ j _ hj;have hm:∀ j,j<L.length→pIs L 1 j=true→WT s n j=true:=fun j hj hp=>by
      have:=ha j (Nat.zero_le _) (by omega);unfold PZ at this;rw [hp] at this;simp only [Bool.or_eq_false_iff,Bool.true_and,Bool.not_eq_false'] at this;exact this.2
    have he:=mw L.length hm (by rw [← h2c,hb];rfl) j (by omega);have:=ha j (Nat.zero_le _) hj;unfold PZ at this;unfold Z7;rw [Bool.or_eq_false_iff] at this ⊢;exact ⟨this.1,by rw [he];simp⟩
  · intro ha;have hm:∀ j,j<L.length→pIs L 1 j=WT s n j:=fun j hj=>by
      have:=ha j (Nat.zero_le _) (by omega);unfold Z7 at this;rw [Bool.or_eq_false_iff] at this;simpa using this.2
    refine ⟨fun j h0 hj=>?_,?_⟩
    · have:=ha j h0 hj;unfold Z7 at this;unfold PZ;rw [Bool.or_eq_false_iff] at this ⊢;refine ⟨this.1,?_⟩;rw [hm j (by omega)];cases WT s n j<;>rfl
    · rw [h2c];exact (dM L.length hm).symm
theorem sL (L:Rows) (s n wk k:Int) (hk:(L.length:Int)=k):et L s n wk k=(btw s 0 k&&btw n 0 k&&XG L s n wk):=by
 subst hk;unfold et XG;cases hs:btw s 0 (L.length:Int) with
 | false=>simp only [Bool.false_and,Bool.and_false]
 | true =>
  cases hn:btw n 0 (L.length:Int) with
  | false=>simp only [Bool.false_and,Bool.and_false]
  | true =>
   have h1:0≤s∧s≤(L.length:Int):=by simpa [btw,iLe] using hs
   have h2:0≤n∧n≤(L.length:Int):=by simpa [btw,iLe] using hn
   simp only [Bool.true_and];cases hd:(s==n && !(s==0)) with
   | true =>
    have:(!(s==0)&&s==n)=true:=by rw [Bool.and_comm];exact hd
    rw [this];simp only [Bool.or_true,Bool.not_true,Bool.false_and,Bool.and_false]
   | false =>
    have:(!(s==0)&&s==n)=false:=by rw [Bool.and_comm];exact hd
    rw [this,← pX h1 h2 hd];simp only [Bool.or_false,Bool.not_false,Bool.true_and];rw [show (wk==V4 L)=(V4 L==wk) from BEq.comm];cases hA:Bg (PZ L s n) L.length 0 with
    | true=>rfl
    | false =>
     cases hB:two s n==ins L with
     | false=>rfl
     | true =>
      rw [beq_iff_eq.1 hB,rC];simp only [Bool.true_and,Bool.not_false,Bool.not_and]
def I6 (v:Int):Bool := !btw v 0 1000000000
def gj (x1 x3 x5 x6 x7 x8 x9 x10 x21 x23 x25 x26:Int):Rows:=[[.int x1],[.int x3],[.int x5],[.int x6],[.int x7],[.int x8],[.int x9],[.int x10],[.int x21],[.int x23],[.int x25],[.int x26]]
section
variable (N:Nat) (L14 L16 L17 L19 L24:Rows) (b18 b20:Bool) (x0 x1 x2 x3 x4 x5 x6 x7 x8 x9 x10 x11 x12 x13 x15 x21 x22 x23 x25 x26 x27:Int)
theorem Vx (hN:2097152<N) (hl:L19.length≤1048576):ER N (lsI L14 L16 L17 L19 L24 b18 b20 x0 x1 x2 x3 x4 x5 x6 x7 x8 x9 x10 x11 x12 x13 x15 x21 x22 x23 x25 x26 x27)=some [.bool (!(J2 I6 (gj x1 x3 x5 x6 x7 x8 x9 x10 x21 x23 x25 x26)||J2 I6 L19))]:=by
 show GU (std (IJ N) N) (xOf (lsI ..))=_;have e:∀ ls,IJ N 186 [] ls=DQ N ls:=fun ls=>rfl
 rw [← fw];simp only [GU,lq9,std,xOf,lsI,PXb,PXc,PXn,AH,gj];generalize hM:([PV.int x1]::[PV.int x3]::[PV.int x5]::[PV.int x6]::[PV.int x7]::[PV.int x8]::[PV.int x9]::[PV.int x10]::[PV.int x21]::[PV.int x23]::[PV.int x25]::[PV.int x26]::L19:Rows)=M;have hM2:M.length≤2097152:=by rw [← hM];simp only [List.length_cons];omega
 rw [Iq (n:=M.length) (by omega) (by omega)];simp only [PXb,PXc,PXn,AH];rw [Option.bind_assoc];refine Ae (Ct (len:=M.length) (GE fun i=>I6 (atI M i 0)) ?_ ?_ M.length 0 N (by omega) (by omega)) ?_
 ·intro self;simp only [PXb,PXc,PXn,AH,BC]
 ·intro i self hi;simp only [PXb,PXc,PXn,AH,BG (show i≤1099511627776 by omega),A5 hi,Ab hi,GE,DX,e,T4,I6];cases btw (atI M i 0) 0 1000000000<;>rfl
 ·unfold J2;rw [← Jj];unfold Oj;cases Bt (GE fun i=>I6 (atI M i 0)) M.length 0<;>rfl
end
def cX (a3 x2:Int):Bool:=cond (a3==0) (x2==0) (btw x2 1 a3)
def TT (s:ByteArray) (a1 a2 a3 a4 a5 a6 a7 a9 a10 a11 a12:Int) (La L14 L16 L17 L19 L24:Rows) (x0 x1 x2 x3 x4 x5 x6 x7 x8 x9 x10 x11 x12 x13 x15 x21 x22 x23 x25 x26 x27:Int):Bool :=
  Lh s a1 a2 a3 a4 a5 a6 a7 a9 a10 a11 a12 La==0&&(btw x0 1 2&&((L14.length:Int)==a1&&((L19.length:Int)==a1&&((L24.length:Int)==a1&&(!iLt 5 x27 &&
    (btw x12 0 a1&&(btw x13 0 a1&&(XG L14 x12 x13 x4&&(btw x15 0 a1&&(btw x22 0 a1&&(Kb L16 a1&&(Kb L17 a1&&(cX a3 x2&&(btw x11 0 (IntKind.i64.wrap (a4 - 1)) &&
      (!J2 I6 (gj x1 x3 x5 x6 x7 x8 x9 x10 x21 x23 x25 x26) && !J2 I6 L19)))))))))))))))
theorem qe {a:Int} (h:0≤a):iLt 0 a = !(a==0):=by
 unfold iLt;rw [Bool.eq_iff_iff];simp only [decide_eq_true_eq,Bool.not_eq_true',beq_eq_false_iff_ne];omega
section
variable (N:Nat) (s:ByteArray) (a1 a2 a3 a4 a5 a6 a7 a9 a10 a11 a12:Int) (a8:Bool) (La:Rows) (L14 L16 L17 L19 L24:Rows) (b18 b20:Bool) (x0 x1 x2 x3 x4 x5 x6 x7 x8 x9 x10 x11 x12 x13 x15 x21 x22 x23 x25 x26 x27:Int)
theorem Qo (hN:2097152<N) (hs:s.size≤1048576) (h14:L14.length≤1048576) (h16:L16.length≤1048576) (h17:L17.length≤1048576) (h19:L19.length≤1048576):BJ N ([.str s,.int a1,.int a2,.int a3,.int a4,.int a5,.int a6,.int a7,.bool a8,.int a9,.int a10,.int a11,.int a12,.rows La]++lsI L14 L16 L17 L19 L24 b18 b20 x0 x1 x2 x3 x4 x5 x6 x7 x8 x9 x10 x11 x12 x13 x15 x21 x22 x23 x25 x26 x27)=some [.bool (TT s a1 a2 a3 a4 a5 a6 a7 a9 a10 a11 a12 La L14 L16 L17 L19 L24 x0 x1 x2 x3 x4 x5 x6 x7 x8 x9 x10 x11 x12 x13 x15 x21 x22 x23 x25 x26 x27)]:=by
 simp only [lsI,List.cons_append,List.nil_append];show IV (std (CU N) N) (xOf _)=_;have e1:∀ ls,CU N 61 [] ls=AW N ls:=fun ls=>rfl
 have e2:∀ ls,CU N 159 [] ls=Al N ls:=fun ls=>rfl
 have e3:∀ ls,CU N 160 [] ls=EN N ls:=fun ls=>rfl
 have e4:∀ ls,CU N 161 [] ls=DR N ls:=fun ls=>rfl
 have e5:∀ ls,CU N 162 [] ls=ER N ls:=fun ls=>rfl
 have l54:=Vt N L14 L16 L17 L19 L24 b18 b20 x0 x1 x2 x3 x4 x5 x6 x7 x8 x9 x10 x11 x12 x13 x15 x21 x22 x23 x25 x26 x27 a1 (by omega) (by omega);have l56:=Vx N L14 L16 L17 L19 L24 b18 b20 x0 x1 x2 x3 x4 x5 x6 x7 x8 x9 x10 x11 x12 x13 x15 x21 x22 x23 x25 x26 x27 (by omega) (by omega);simp only [lsI,List.cons_append,List.nil_append] at l54 l56;simp only [IV,lq9,std,xOf,PXb,PXc,PXn,AH,e1,e2,e3,e4,e5,TX N s _ _ _ _ _ _ _ _ _ _ _ _ _ hN hs,Dp,l54,l56,L0 N L16 _ (by omega) (by omega),L0 N L17 _ (by omega) (by omega)];unfold TT cX;cases hc:Lh s a1 a2 a3 a4 a5 a6 a7 a9 a10 a11 a12 La==0<;>try rfl
 cases btw x0 1 2<;>try rfl
 cases h14:(L14.length:Int)==a1<;>try rfl
 cases (L19.length:Int)==a1<;>try rfl
 cases (L24.length:Int)==a1<;>try rfl
 cases iLt 5 x27<;>try rfl
 rw [sL L14 x12 x13 x4 a1 (beq_iff_eq.1 h14)];cases btw x12 0 a1<;>try rfl
 cases btw x13 0 a1<;>try rfl
 cases XG L14 x12 x13 x4<;>try rfl
 cases btw x15 0 a1<;>try rfl
 cases btw x22 0 a1<;>try rfl
 cases Kb L16 a1<;>try rfl
 cases Kb L17 a1<;>try rfl
 cases a3==0<;>cases x2==0<;>cases btw x2 1 a3<;>rfl
end
def o8 (v:Bool) (L:Rows) (s n:Int) (x1 x2 x3 x10:Int):Int :=
 cond (!v) 0 (cond (iLt 0 x1&&iLe x1 x3) 3 (cond (Gz L s n&&((De L L.length).length:Int)==0) 1 (cond (iLt 0 x2&&iLe x2 x10) 2 0)))
theorem tC {c:Int} {n:Nat} (hc:0≤c):iRg 0 (cond (iLt c (n:Int)) c (n:Int)) (n:Int)=true:=by
 cases h:iLt c (n:Int) with
 | true=>simp only [iLt,decide_eq_true_eq] at h;simp only [cond_true,iRg,decide_eq_true_eq];omega
 | false=>simp only [cond_false,iRg,decide_eq_true_eq];omega
def cut (L:Rows) (c:Int):Rows:=(L.take (cond (iLt c (L.length:Int)) c (L.length:Int)).toNat).drop (0:Int).toNat
section
variable (N:Nat) (s:ByteArray) (a1 a2 a3 a4 a5 a6 a7 a9 a10 a11 a12:Int) (a8:Bool) (La:Rows) (L14 L16 L17 L19 L24:Rows) (b18 b20:Bool) (x0 x1 x2 x3 x4 x5 x6 x7 x8 x9 x10 x11 x12 x13 x15 x21 x22 x23 x25 x26 x27:Int)
theorem XZ (hN : 2097152 < N) (hs : s.size ≤ 1048576) (h14 : L14.length ≤ 1048576) (h16 : L16.length ≤ 1048576) (h17 : L17.length ≤ 1048576) (h19 : L19.length ≤ 1048576) : DU N ([.str s, .int a1, .int a2, .int a3, .int a4, .int a5, .int a6, .int a7, .bool a8, .int a9, .int a10, .int a11, .int a12, .rows La] ++ lsI L14 L16 L17 L19 L24 b18 b20 x0 x1 x2 x3 x4 x5 x6 x7 x8 x9 x10 x11 x12 x13 x15 x21 x22 x23 x25 x26 x27) =
    some [.int (o8 (TT s a1 a2 a3 a4 a5 a6 a7 a9 a10 a11 a12 La L14 L16 L17 L19 L24 x0 x1 x2 x3 x4 x5 x6 x7 x8 x9 x10 x11 x12 x13 x15 x21 x22 x23 x25 x26 x27) L14 x12 x13 x1 x2 x3 x10)]:=by
  simp only [lsI,List.cons_append,List.nil_append];show Hf (std (Dl N) N) (xOf _)=_;have e1:∀ ls,Dl N 127 [] ls=BJ N ls:=fun ls=>rfl
  have e2:∀ ls,Dl N 217 [] ls=BM N ls:=fun ls=>rfl
  have e3:∀ ls,Dl N 218 [] ls=Cj N ls:=fun ls=>rfl
  have l16:=Qo N s a1 a2 a3 a4 a5 a6 a7 a9 a10 a11 a12 a8 La L14 L16 L17 L19 L24 b18 b20 x0 x1 x2 x3 x4 x5 x6 x7 x8 x9 x10 x11 x12 x13 x15 x21 x22 x23 x25 x26 x27 hN hs h14 h16 h17 h19;have l61:=ZC N L14 L16 L17 L19 L24 b18 b20 x0 x1 x2 x3 x4 x5 x6 x7 x8 x9 x10 x11 x12 x13 x15 x21 x22 x23 x25 x26 x27 (by omega) (by omega);have l62:=cO N L14 L16 L17 L19 L24 b18 b20 x0 x1 x2 x3 x4 x5 x6 x7 x8 x9 x10 x11 x12 x13 x15 x21 x22 x23 x25 x26 x27 (by omega) (by omega);simp only [lsI,List.cons_append,List.nil_append] at l16 l61 l62;simp only [Hf,lq9,std,xOf,PXb,PXc,PXn,AH,e1,e2,e3,l16,l61,l62,o8];cases TT s a1 a2 a3 a4 a5 a6 a7 a9 a10 a11 a12 La L14 L16 L17 L19 L24 x0 x1 x2 x3 x4 x5 x6 x7 x8 x9 x10 x11 x12 x13 x15 x21 x22 x23 x25 x26 x27<;>try rfl
  cases (iLt 0 x1&&iLe x1 x3)<;>try rfl
  cases Gz L14 x12 x13
  · cases (iLt 0 x2&&iLe x2 x10)<;>rfl
  · simp only [PXb,PXc,PXn,AH];cases ((De L14 L14.length).length:Int)==0<;>cases (iLt 0 x2&&iLe x2 x10)<;>rfl
end
section
variable (N:Nat) (s:ByteArray) (a1 a2 a3 a4 a5 a6 a7 a9 a10 a11 a12:Int) (a8:Bool) (La:Rows) (L14 L16 L17 L19 L24:Rows) (b18 b20:Bool) (x0 x1 x2 x3 x4 x5 x6 x7 x8 x9 x10 x11 x12 x13 x15 x21 x22 x23 x25 x26 x27:Int)
def Cf (a4 x10 x11:Int):Int:=IntKind.i64.wrap (IntKind.i64.wrap (x10 * a4)+x11)
end
def BD (r:Rul):Int:=Lh r.name r.side r.innings r.overs r.balls r.quota r.wide r.noball r.newball r.followon r.reviews r.outside r.power
theorem DG {N:Nat} {r8:Bool} {r0:ByteArray} {r13:Rows} (hN:2097152<N) (hs:r0.size≤1048576):AW N [.str r0,.int r1,.int r2,.int r3,.int r4,.int r5,.int r6,.int r7,.bool r8,.int r9,.int r10,.int r11,.int r12,.rows r13]=some [.int (BD (⟨r0,r1,r2,r3,r4,r5,r6,r7,r8,r9,r10,r11,r12,r13⟩:Rul))]:=by
 exact TX N _ _ _ _ _ _ _ _ _ _ _ _ _ _ hN hs
theorem SW {N:Nat} {s18 s20:Bool} (h:Fit s14 s16 s17 s19 s24):Ci N [.int s0,.int s1,.int s2,.int s3,.int s4,.int s5,.int s6,.int s7,.int s8,.int s9,.int s10,.int s11,.int s12,.int s13,.rows s14,.int s15,.rows s16,.rows s17,.bool s18,.rows s19,.bool s20,.int s21,.int s22,.int s23,.rows s24,.int s25,.int s26,.int s27]=some [.int s0,.int s1,.int s2,.int s3,.int s4,.int s5,.int s6,.int s7,.int s8,.int s9,.int s10,.int s11,.int s12,.int s13,.rows s14,.int s15,.rows s16,.rows s17,.bool s18,.rows s19,.bool s20,.int s21,.int s22,.int s23,.rows s24,.int s25,.int s26,.int s27]:=by
 show N3 (std (Hq N) N) (xOf _)=_;simp only [N3,Lm,NA,Mt,lq9,std,xOf,PXb,PXc,PXn,PXm,Nat.reduceAdd,Int.reduceBEq,Aa,Ah,Ac,Bf h.bt (show 1≤4096 by omega),Bf h.bw' (show 8≤4096 by omega),Bf h.bf (show 8≤4096 by omega),Bf h.bd (show 8≤4096 by omega),Bf h.sb (show 1≤4096 by omega)]
theorem Sc {N:Nat} {s18 s20:Bool} (h:Fit s14 s16 s17 s19 s24):Ce N [.int s0,.int s1,.int s2,.int s3,.int s4,.int s5,.int s6,.int s7,.int s8,.int s9,.int s10,.int s11,.int s12,.int s13,.rows s14,.int s15,.rows s16,.rows s17,.bool s18,.rows s19,.bool s20,.int s21,.int s22,.int s23,.rows s24,.int s25,.int s26,.int s27]=some [.int s0,.int s1,.int s2,.int s3,.int s4,.int s5,.int s6,.int s7,.int s8,.int s9,.int s10,.int s11,.int s12,.int s13,.rows s14,.int s15,.rows s16,.rows s17,.bool s18,.rows s19,.bool s20,.int s21,.int s22,.int s23,.rows s24,.int s25,.int s26,.int s27]:=by
 show Ny (std (H2 N) N) (xOf _)=_;simp only [Ny,Ls,Nh,Mz,lq9,std,xOf,PXb,PXc,PXn,PXm,Nat.reduceAdd,Int.reduceBEq,Aa,Ah,Ac,Bf h.bt (show 1≤4096 by omega),Bf h.bw' (show 8≤4096 by omega),Bf h.bf (show 8≤4096 by omega),Bf h.bd (show 8≤4096 by omega),Bf h.sb (show 1≤4096 by omega)]
theorem CB {N:Nat} {s18 s20:Bool} (h:Fit s14 s16 s17 s19 s24):AU N [.int s0,.int s1,.int s2,.int s3,.int s4,.int s5,.int s6,.int s7,.int s8,.int s9,.int s10,.int s11,.int s12,.int s13,.rows s14,.int s15,.rows s16,.rows s17,.bool s18,.rows s19,.bool s20,.int s21,.int s22,.int s23,.rows s24,.int s25,.int s26,.int s27]=some [.int s0,.int s1,.int s2,.int s3,.int s4,.int s5,.int s6,.int s7,.int s8,.int s9,.int s10,.int s11,.int s12,.int s13,.rows s14,.int s15,.rows s16,.rows s17,.bool s18,.rows s19,.bool s20,.int s21,.int s22,.int s23,.rows s24,.int s25,.int s26,.int s27]:=by
 show Ip (std (ET N) N) (xOf _)=_;simp only [Ip,J0,LC,Kf,lq9,std,xOf,PXb,PXc,PXn,PXm,Nat.reduceAdd,Int.reduceBEq,Aa,Ah,Ac,Bf h.bt (show 1≤4096 by omega),Bf h.bw' (show 8≤4096 by omega),Bf h.bf (show 8≤4096 by omega),Bf h.bd (show 8≤4096 by omega),Bf h.sb (show 1≤4096 by omega)]
theorem Oy {N:Nat} {s18 s20:Bool} {p:Int}  : Bw N [.int s0,.int s1,.int s2,.int s3,.int s4,.int s5,.int s6,.int s7,.int s8,.int s9,.int s10,.int s11,.int s12,.int s13,.rows s14,.int s15,.rows s16,.rows s17,.bool s18,.rows s19,.bool s20,.int s21,.int s22,.int s23,.rows s24,.int s25,.int s26,.int s27,.int p]=some [.bool (inR p s19.length)]:=by
 show K2 (std (Rx N) N) (xOf _)=_;simp only [K2,lq9,std,xOf,PXb,PXc,PXn,PXm,Nat.reduceAdd,Int.reduceBEq];rfl
theorem H3 {N:Nat} {s18 s20:Bool} {p:Int}  : A1 N [.int s0,.int s1,.int s2,.int s3,.int s4,.int s5,.int s6,.int s7,.int s8,.int s9,.int s10,.int s11,.int s12,.int s13,.rows s14,.int s15,.rows s16,.rows s17,.bool s18,.rows s19,.bool s20,.int s21,.int s22,.int s23,.rows s24,.int s25,.int s26,.int s27,.int p]=some [.bool (inR p s24.length)]:=by
 show Kk (std (Ry N) N) (xOf _)=_;simp only [Kk,lq9,std,xOf,PXb,PXc,PXn,PXm,Nat.reduceAdd,Int.reduceBEq];rfl
def atB (L:Rows) (i j:Nat):Bool:=pvB (AF L i j)
theorem qu (L:Rows) (i j:Nat):pvB (AF L i j)=atB L i j:=rfl
def HN (s:Inn) (p:Int):Bool:=inR p s.subs.length&&atB s.subs (ix p) 0
theorem HQ {N:Nat} {s18 s20:Bool} {p:Int} (h:s24.length≤1048576):Az N [.int s0,.int s1,.int s2,.int s3,.int s4,.int s5,.int s6,.int s7,.int s8,.int s9,.int s10,.int s11,.int s12,.int s13,.rows s14,.int s15,.rows s16,.rows s17,.bool s18,.rows s19,.bool s20,.int s21,.int s22,.int s23,.rows s24,.int s25,.int s26,.int s27,.int p]=some [.bool (HN (⟨s0,s1,s2,s3,s4,s5,s6,s7,s8,s9,s10,s11,s12,s13,s14,s15,s16,s17,s18,s19,s20,s21,s22,s23,s24,s25,s26,s27⟩:Inn) p)]:=by
 show Hb (std (JL N) N) (xOf _)=_;generalize hres:(some [.bool (HN (⟨s0,s1,s2,s3,s4,s5,s6,s7,s8,s9,s10,s11,s12,s13,s14,s15,s16,s17,s18,s19,s20,s21,s22,s23,s24,s25,s26,s27⟩:Inn) p)]:Option (List PV))=RR;simp only [Hb,NE,lq9,std,xOf,PXb,PXc,PXn,PXm,Nat.reduceAdd,Int.reduceBEq,H3,sJ h];subst hres;simp only [HN];cases hp:inR p s24.length with
 | false=>rfl
 | true=>first | rfl | (rw [Ks hp h];rfl)
def kd (x:Int):Int:=cond (iLt x 0) 0 x
def aA (r:Rul) (s:Inn) (p:Int):Int :=
 cond (!inR p s.bowled.length || !(BD r==0)) 0 (cond (r.quota==0) (-1) (kd (IntKind.i64.wrap (IntKind.i64.wrap (r.quota * r.balls) - kd (atI s.bowled (ix p) 0)))))
theorem iR {N:Nat} {r8:Bool} {r0:ByteArray} {r13:Rows} {s18 s20:Bool} {p:Int} (h:Fit s14 s16 s17 s19 s24) (hN:2097152<N) (hs:r0.size≤1048576):I9 N [.str r0,.int r1,.int r2,.int r3,.int r4,.int r5,.int r6,.int r7,.bool r8,.int r9,.int r10,.int r11,.int r12,.rows r13,.int s0,.int s1,.int s2,.int s3,.int s4,.int s5,.int s6,.int s7,.int s8,.int s9,.int s10,.int s11,.int s12,.int s13,.rows s14,.int s15,.rows s16,.rows s17,.bool s18,.rows s19,.bool s20,.int s21,.int s22,.int s23,.rows s24,.int s25,.int s26,.int s27,.int p]=some [.int (aA (⟨r0,r1,r2,r3,r4,r5,r6,r7,r8,r9,r10,r11,r12,r13⟩:Rul) (⟨s0,s1,s2,s3,s4,s5,s6,s7,s8,s9,s10,s11,s12,s13,s14,s15,s16,s17,s18,s19,s20,s21,s22,s23,s24,s25,s26,s27⟩:Inn) p)]:=by
 show MQ (std (Ju N) N) (xOf _)=_;generalize hres:(some [.int (aA (⟨r0,r1,r2,r3,r4,r5,r6,r7,r8,r9,r10,r11,r12,r13⟩:Rul) (⟨s0,s1,s2,s3,s4,s5,s6,s7,s8,s9,s10,s11,s12,s13,s14,s15,s16,s17,s18,s19,s20,s21,s22,s23,s24,s25,s26,s27⟩:Inn) p)]:Option (List PV))=RR;simp only [MQ,Qi,Qf,lq9,std,xOf,PXb,PXc,PXn,PXm,Nat.reduceAdd,Int.reduceBEq,DG hN hs,Oy];subst hres;simp only [aA];cases hp:inR p s19.length with
 | false=>rfl
 | true=>rw [Ks hp h.bd];cases BD (⟨r0,r1,r2,r3,r4,r5,r6,r7,r8,r9,r10,r11,r12,r13⟩:Rul)==0<;>cases r5==0<;>rfl
theorem Lb {N:Nat} {L:Rows} {v:Int} (hN:2097152<N) (hl:L.length≤1048576):Aq N [.rows L,.int v]=some [.bool (J5 L L.length v)]:=by
 exact Kd N L v (by omega) (by omega)
def NM (r:Rul) (s:Inn) (p:Int):Int :=
  cond (!inR p s.bowled.length || !(BD r==0)) 3 (cond (p==s.keeper||p==s.bowler||HN s p) 7
    (cond (J5 s.before s.before.length p) 8 (cond (!(aA r s p == -1)&&iLt s.inover (IntKind.i64.wrap (r.balls - aA r s p))) 9 0)))
theorem ml {p:Int} {n m:Nat} (h:inR p n=true):inR p m=iLe p (m:Int):=by
 unfold inR at h ⊢;rw [zzj] at h;rw [h.1,Bool.true_and]
theorem jB {N:Nat} {r8:Bool} {r0:ByteArray} {r13:Rows} {s18 s20:Bool} {p:Int} (h:Fit s14 s16 s17 s19 s24) (hN:2097152<N) (hs:r0.size≤1048576):Kc N [.str r0,.int r1,.int r2,.int r3,.int r4,.int r5,.int r6,.int r7,.bool r8,.int r9,.int r10,.int r11,.int r12,.rows r13,.int s0,.int s1,.int s2,.int s3,.int s4,.int s5,.int s6,.int s7,.int s8,.int s9,.int s10,.int s11,.int s12,.int s13,.rows s14,.int s15,.rows s16,.rows s17,.bool s18,.rows s19,.bool s20,.int s21,.int s22,.int s23,.rows s24,.int s25,.int s26,.int s27,.int p]=some [.int (NM (⟨r0,r1,r2,r3,r4,r5,r6,r7,r8,r9,r10,r11,r12,r13⟩:Rul) (⟨s0,s1,s2,s3,s4,s5,s6,s7,s8,s9,s10,s11,s12,s13,s14,s15,s16,s17,s18,s19,s20,s21,s22,s23,s24,s25,s26,s27⟩:Inn) p)]:=by
 show N6 (std (FW N) N) (xOf _)=_;generalize hres:(some [.int (NM (⟨r0,r1,r2,r3,r4,r5,r6,r7,r8,r9,r10,r11,r12,r13⟩:Rul) (⟨s0,s1,s2,s3,s4,s5,s6,s7,s8,s9,s10,s11,s12,s13,s14,s15,s16,s17,s18,s19,s20,s21,s22,s23,s24,s25,s26,s27⟩:Inn) p)]:Option (List PV))=RR;simp only [N6,RO,Lx,RU,ST,lq9,std,xOf,PXb,PXc,PXn,PXm,Nat.reduceAdd,Int.reduceBEq,DG hN hs,Oy,iR h hN hs,Lb hN h.bf];subst hres;simp only [NM,HN];cases hp:inR p s19.length with
 | false=>rfl
 | true =>
  rw [ml (m:=s24.length) hp];have hq:(!(iLe p (s24.length:Int))||iIn (IntKind.i64.wrap (p - 1)) (s24.length:Int))=true:=by
   cases h1:iLe p (s24.length:Int) with
   | false=>rfl
   | true=>rw [Ks (by rw [ml hp];exact h1) h.sb];rfl
  rw [hq];cases BD (⟨r0,r1,r2,r3,r4,r5,r6,r7,r8,r9,r10,r11,r12,r13⟩:Rul)==0<;>rfl
def UE (r:Rul) (s:Inn) (p:Int):Inn×Int:=(cond (NM r s p==0) { s with bowler:=p } s,NM r s p)
theorem iE {N:Nat} {r8:Bool} {r0:ByteArray} {r13:Rows} {s18 s20:Bool} {p:Int} (h:Fit s14 s16 s17 s19 s24) (hN:2097152<N) (hs:r0.size≤1048576):I5 N [.str r0,.int r1,.int r2,.int r3,.int r4,.int r5,.int r6,.int r7,.bool r8,.int r9,.int r10,.int r11,.int r12,.rows r13,.int s0,.int s1,.int s2,.int s3,.int s4,.int s5,.int s6,.int s7,.int s8,.int s9,.int s10,.int s11,.int s12,.int s13,.rows s14,.int s15,.rows s16,.rows s17,.bool s18,.rows s19,.bool s20,.int s21,.int s22,.int s23,.rows s24,.int s25,.int s26,.int s27,.int p]=some (BK (UE (⟨r0,r1,r2,r3,r4,r5,r6,r7,r8,r9,r10,r11,r12,r13⟩:Rul) (⟨s0,s1,s2,s3,s4,s5,s6,s7,s8,s9,s10,s11,s12,s13,s14,s15,s16,s17,s18,s19,s20,s21,s22,s23,s24,s25,s26,s27⟩:Inn) p)):=by
 show MF (std (Jb N) N) (xOf _)=_;generalize hres:(some (BK (UE (⟨r0,r1,r2,r3,r4,r5,r6,r7,r8,r9,r10,r11,r12,r13⟩:Rul) (⟨s0,s1,s2,s3,s4,s5,s6,s7,s8,s9,s10,s11,s12,s13,s14,s15,s16,s17,s18,s19,s20,s21,s22,s23,s24,s25,s26,s27⟩:Inn) p)):Option (List PV))=RR;simp only [MF,Sd,SY,lq9,std,xOf,PXb,PXc,PXn,PXm,Nat.reduceAdd,Int.reduceBEq,SW h,jB h hN hs];subst hres;simp only [UE];cases NM (⟨r0,r1,r2,r3,r4,r5,r6,r7,r8,r9,r10,r11,r12,r13⟩:Rul) (⟨s0,s1,s2,s3,s4,s5,s6,s7,s8,s9,s10,s11,s12,s13,s14,s15,s16,s17,s18,s19,s20,s21,s22,s23,s24,s25,s26,s27⟩:Inn) p==0<;>rfl
def oL (x:Inn×Bool):List PV:=[.int x.1.side,.int x.1.target,.int x.1.overs,.int x.1.runs,.int x.1.wickets,.int x.1.wides,.int x.1.noballs,.int x.1.byes,.int x.1.legbyes,.int x.1.pens,.int x.1.complete,.int x.1.inover,.int x.1.striker,.int x.1.other,.rows x.1.batters,.int x.1.bowler,.rows x.1.bowlers,.rows x.1.before,.bool x.1.fresh,.rows x.1.bowled,.bool x.1.freehit,.int x.1.ballage,.int x.1.keeper,.int x.1.outside,.rows x.1.subs,.int x.1.rev1,.int x.1.rev2,.int x.1.ending,.bool x.2]
def inc (x:Int):Int:=IntKind.i64.wrap (x+1)
def Ap (r:Rul) (s:Inn) (counts:Bool):Inn×Bool :=
  cond (!inR s.bowler s.bowled.length || !(BD r==0)) (s,false)
    (let L:=cond (J5 s.bowlers s.bowlers.length s.bowler) s.bowlers (s.bowlers++[[.int s.bowler]])
     let o:=cond counts (inc s.inover) s.inover
     let t:Inn:={ s with bowlers:=L,bowled:=cond counts (ND s.bowled s.bowler (inc (atI s.bowled (ix s.bowler) 0))) s.bowled,inover:=o,ballage:=cond counts (inc s.ballage) s.ballage }
     cond (iLt o r.balls) (t,false) ({ t with complete:=inc s.complete,inover:=0,before:=L,bowlers:=[],bowler:=0 },true))
theorem fQ {N:Nat} {r8:Bool} {r0:ByteArray} {r13:Rows} {s18 s20:Bool} {b:Bool} (h:Fit s14 s16 s17 s19 s24) (hw:s16.length≤1048575) (hN:2097152<N) (hs:r0.size≤1048576):JK N [.str r0,.int r1,.int r2,.int r3,.int r4,.int r5,.int r6,.int r7,.bool r8,.int r9,.int r10,.int r11,.int r12,.rows r13,.int s0,.int s1,.int s2,.int s3,.int s4,.int s5,.int s6,.int s7,.int s8,.int s9,.int s10,.int s11,.int s12,.int s13,.rows s14,.int s15,.rows s16,.rows s17,.bool s18,.rows s19,.bool s20,.int s21,.int s22,.int s23,.rows s24,.int s25,.int s26,.int s27,.bool b]=some (oL (Ap (⟨r0,r1,r2,r3,r4,r5,r6,r7,r8,r9,r10,r11,r12,r13⟩:Rul) (⟨s0,s1,s2,s3,s4,s5,s6,s7,s8,s9,s10,s11,s12,s13,s14,s15,s16,s17,s18,s19,s20,s21,s22,s23,s24,s25,s26,s27⟩:Inn) b)):=by
 show ML (std (Em N) N) (xOf _)=_;generalize hres:(some (oL (Ap (⟨r0,r1,r2,r3,r4,r5,r6,r7,r8,r9,r10,r11,r12,r13⟩:Rul) (⟨s0,s1,s2,s3,s4,s5,s6,s7,s8,s9,s10,s11,s12,s13,s14,s15,s16,s17,s18,s19,s20,s21,s22,s23,s24,s25,s26,s27⟩:Inn) b)):Option (List PV))=RR;have ha:(s16++[[PV.int s15]]).length≤1048576:=by simp;omega
 simp only [ML,Qu,LG,Sg,Qy,lq9,std,xOf,PXb,PXc,PXn,PXm,Nat.reduceAdd,Int.reduceBEq,SW h,Oy,DG hN hs,Lb hN h.bw',rx ha (show 8≤4096 by omega)];subst hres;simp only [Ap];cases hp:inR s15 s19.length with
 | false=>rfl
 | true =>
  rw [Ks hp h.bd];cases BD (⟨r0,r1,r2,r3,r4,r5,r6,r7,r8,r9,r10,r11,r12,r13⟩:Rul)==0<;>try rfl
  cases J5 s16 s16.length s15<;>cases b<;>simp only [PXb,PXc,PXn,PXm,Nat.reduceAdd,Int.reduceBEq,inc]
  all_goals first | (cases iLt s11 r4<;>rfl) | (cases iLt (IntKind.i64.wrap (s11+1)) r4<;>rfl)
def LP (r:Rul) (s:Inn):Inn×Int :=
 cond (!(BD r==0)||r.newball==0||iLt s.ballage (IntKind.i64.wrap (r.newball * r.balls))) (s,22) ({ s with ballage:=0 },0)
theorem aG {N:Nat} {r8:Bool} {r0:ByteArray} {r13:Rows} {s18 s20:Bool} (h:Fit s14 s16 s17 s19 s24) (hN:2097152<N) (hs:r0.size≤1048576):GB N [.str r0,.int r1,.int r2,.int r3,.int r4,.int r5,.int r6,.int r7,.bool r8,.int r9,.int r10,.int r11,.int r12,.rows r13,.int s0,.int s1,.int s2,.int s3,.int s4,.int s5,.int s6,.int s7,.int s8,.int s9,.int s10,.int s11,.int s12,.int s13,.rows s14,.int s15,.rows s16,.rows s17,.bool s18,.rows s19,.bool s20,.int s21,.int s22,.int s23,.rows s24,.int s25,.int s26,.int s27]=some (BK (LP (⟨r0,r1,r2,r3,r4,r5,r6,r7,r8,r9,r10,r11,r12,r13⟩:Rul) (⟨s0,s1,s2,s3,s4,s5,s6,s7,s8,s9,s10,s11,s12,s13,s14,s15,s16,s17,s18,s19,s20,s21,s22,s23,s24,s25,s26,s27⟩:Inn))):=by
 show Ic (std (GR N) N) (xOf _)=_;generalize hres:(some (BK (LP (⟨r0,r1,r2,r3,r4,r5,r6,r7,r8,r9,r10,r11,r12,r13⟩:Rul) (⟨s0,s1,s2,s3,s4,s5,s6,s7,s8,s9,s10,s11,s12,s13,s14,s15,s16,s17,s18,s19,s20,s21,s22,s23,s24,s25,s26,s27⟩:Inn))):Option (List PV))=RR;simp only [Ic,N9,Pv,lq9,std,xOf,PXb,PXc,PXn,PXm,Nat.reduceAdd,Int.reduceBEq,SW h,DG hN hs];subst hres;simp only [LP];cases (!(BD (⟨r0,r1,r2,r3,r4,r5,r6,r7,r8,r9,r10,r11,r12,r13⟩:Rul)==0)||r9==0||iLt s21 (IntKind.i64.wrap (r9 * r4)))<;>rfl
def fo (r:Rul) (over:Int):Int :=
 match Bt (fun i=>cond (iLe (atI r.power i 0) (inc over)&&iLe (inc over) (atI r.power i 1)) (some [.int (atI r.power i 2)]) none) r.power.length 0 with
 | some x=>pvI (AA x 0)
 | none=>r.outside
theorem aS {N:Nat} {r8:Bool} {r0:ByteArray} {r13:Rows} {o:Int} (hN:2097152<N) (h13:r13.length≤1048576):F3 N [.str r0,.int r1,.int r2,.int r3,.int r4,.int r5,.int r6,.int r7,.bool r8,.int r9,.int r10,.int r11,.int r12,.rows r13,.int o]=some [.int (fo (⟨r0,r1,r2,r3,r4,r5,r6,r7,r8,r9,r10,r11,r12,r13⟩:Rul) o)]:=by
 show Ik (std (PB N) N) (xOf _)=_;simp only [Ik,lq9,std,xOf,PXb,PXc,PXn,AH];refine Ae (Ct (len:=r13.length) (fun i=>cond (iLe (atI r13 i 0) (inc o)&&iLe (inc o) (atI r13 i 1)) (some [.int (atI r13 i 2)]) none) ?_ ?_ r13.length 0 N (by omega) (by omega)) ?_
 ·intro self;simp only [PXb,PXc,PXn,AH,BC]
 ·intro i self hi;simp only [PXb,PXc,PXn,AH,BG (show i≤1099511627776 by omega),A5 hi,Ab hi];cases hq:iLe (atI r13 i 0) (inc o)&&iLe (inc o) (atI r13 i 1)<;>unfold inc atI at hq<;>rw [hq]<;>rfl
 ·unfold fo;cases Bt (fun i=>cond (iLe (atI r13 i 0) (inc o)&&iLe (inc o) (atI r13 i 1)) (some [.int (atI r13 i 2)]) none) r13.length 0<;>rfl
def NW (s:Inn) (p:Int):Inn×Int :=
 cond (!inR p s.subs.length) (s,3) (cond (HN s p) (s,18) (cond (p==s.bowler||p==s.keeper) (s,17) ({ s with keeper:=p },0)))
theorem cD {N:Nat} {s18 s20:Bool} {p:Int} (h:Fit s14 s16 s17 s19 s24):G0 N [.int s0,.int s1,.int s2,.int s3,.int s4,.int s5,.int s6,.int s7,.int s8,.int s9,.int s10,.int s11,.int s12,.int s13,.rows s14,.int s15,.rows s16,.rows s17,.bool s18,.rows s19,.bool s20,.int s21,.int s22,.int s23,.rows s24,.int s25,.int s26,.int s27,.int p]=some (BK (NW (⟨s0,s1,s2,s3,s4,s5,s6,s7,s8,s9,s10,s11,s12,s13,s14,s15,s16,s17,s18,s19,s20,s21,s22,s23,s24,s25,s26,s27⟩:Inn) p)):=by
 show Jp (std (Ey N) N) (xOf _)=_;generalize hres:(some (BK (NW (⟨s0,s1,s2,s3,s4,s5,s6,s7,s8,s9,s10,s11,s12,s13,s14,s15,s16,s17,s18,s19,s20,s21,s22,s23,s24,s25,s26,s27⟩:Inn) p)):Option (List PV))=RR;simp only [Jp,QO,Ol,Mu,lq9,std,xOf,PXb,PXc,PXn,PXm,Nat.reduceAdd,Int.reduceBEq,Sc h,H3,HQ h.sb];subst hres;simp only [NW];cases inR p s24.length<;>cases HN (⟨s0,s1,s2,s3,s4,s5,s6,s7,s8,s9,s10,s11,s12,s13,s14,s15,s16,s17,s18,s19,s20,s21,s22,s23,s24,s25,s26,s27⟩:Inn) p<;>cases p==s15<;>cases p==s22<;>rfl
def Qw (s:Inn) (p:Int) (on:Bool):Inn×Int :=
  cond (!inR p s.subs.length) (s,3) (cond (HN s p==on) (s,18)
    ({ s with subs:=oh s.subs p on,keeper:=cond (on&&s.keeper==p) 0 s.keeper,bowler:=cond (on&&s.bowler==p) 0 s.bowler },0))
theorem Vp {N:Nat} {s18 s20:Bool} {p:Int} {b:Bool} (h:Fit s14 s16 s17 s19 s24):Dw N [.int s0,.int s1,.int s2,.int s3,.int s4,.int s5,.int s6,.int s7,.int s8,.int s9,.int s10,.int s11,.int s12,.int s13,.rows s14,.int s15,.rows s16,.rows s17,.bool s18,.rows s19,.bool s20,.int s21,.int s22,.int s23,.rows s24,.int s25,.int s26,.int s27,.int p,.bool b]=some (BK (Qw (⟨s0,s1,s2,s3,s4,s5,s6,s7,s8,s9,s10,s11,s12,s13,s14,s15,s16,s17,s18,s19,s20,s21,s22,s23,s24,s25,s26,s27⟩:Inn) p b)):=by
 show Fl (std (C5 N) N) (xOf _)=_;generalize hres:(some (BK (Qw (⟨s0,s1,s2,s3,s4,s5,s6,s7,s8,s9,s10,s11,s12,s13,s14,s15,s16,s17,s18,s19,s20,s21,s22,s23,s24,s25,s26,s27⟩:Inn) p b)):Option (List PV))=RR;simp only [Fl,Na,Mo,KU,lq9,std,xOf,PXb,PXc,PXn,PXm,Nat.reduceAdd,Int.reduceBEq,Sc h,H3,HQ h.sb];subst hres;simp only [Qw];cases hp:inR p s24.length<;>try rfl
 rw [Ks hp h.sb];cases HN (⟨s0,s1,s2,s3,s4,s5,s6,s7,s8,s9,s10,s11,s12,s13,s14,s15,s16,s17,s18,s19,s20,s21,s22,s23,s24,s25,s26,s27⟩:Inn) p==b<;>cases b<;>cases s22==p<;>cases s15==p<;>rfl
def LN (s:Inn) (n:Int):Inn×Int :=
 cond (iLt n 0||iLt (IntKind.i64.wrap ((s.subs.length:Int) - 2)) n) (s,16) ({ s with outside:=n },0)
theorem aB {N:Nat} {s18 s20:Bool} {n:Int} (h:Fit s14 s16 s17 s19 s24):Fq N [.int s0,.int s1,.int s2,.int s3,.int s4,.int s5,.int s6,.int s7,.int s8,.int s9,.int s10,.int s11,.int s12,.int s13,.rows s14,.int s15,.rows s16,.rows s17,.bool s18,.rows s19,.bool s20,.int s21,.int s22,.int s23,.rows s24,.int s25,.int s26,.int s27,.int n]=some (BK (LN (⟨s0,s1,s2,s3,s4,s5,s6,s7,s8,s9,s10,s11,s12,s13,s14,s15,s16,s17,s18,s19,s20,s21,s22,s23,s24,s25,s26,s27⟩:Inn) n)):=by
 show IU (std (KC N) N) (xOf _)=_;generalize hres:(some (BK (LN (⟨s0,s1,s2,s3,s4,s5,s6,s7,s8,s9,s10,s11,s12,s13,s14,s15,s16,s17,s18,s19,s20,s21,s22,s23,s24,s25,s26,s27⟩:Inn) n)):Option (List PV))=RR;simp only [IU,Pr,lq9,std,xOf,PXb,PXc,PXn,PXm,Nat.reduceAdd,Int.reduceBEq,Sc h];subst hres;simp only [LN];cases (iLt n 0||iLt (IntKind.i64.wrap ((s24.length:Int) - 2)) n)<;>rfl
def RC (r:Rul) (s:Inn):Int :=
 cond (!inR s.keeper s.subs.length||HN s s.keeper||s.keeper==s.bowler) 17 (cond (iLt (fo r s.complete) s.outside) 16 0)
theorem eR {N:Nat} {r8:Bool} {r0:ByteArray} {r13:Rows} {s18 s20:Bool} (h:Fit s14 s16 s17 s19 s24) (hN:2097152<N) (h13:r13.length≤1048576):H4 N [.str r0,.int r1,.int r2,.int r3,.int r4,.int r5,.int r6,.int r7,.bool r8,.int r9,.int r10,.int r11,.int r12,.rows r13,.int s0,.int s1,.int s2,.int s3,.int s4,.int s5,.int s6,.int s7,.int s8,.int s9,.int s10,.int s11,.int s12,.int s13,.rows s14,.int s15,.rows s16,.rows s17,.bool s18,.rows s19,.bool s20,.int s21,.int s22,.int s23,.rows s24,.int s25,.int s26,.int s27]=some [.int (RC (⟨r0,r1,r2,r3,r4,r5,r6,r7,r8,r9,r10,r11,r12,r13⟩:Rul) (⟨s0,s1,s2,s3,s4,s5,s6,s7,s8,s9,s10,s11,s12,s13,s14,s15,s16,s17,s18,s19,s20,s21,s22,s23,s24,s25,s26,s27⟩:Inn))]:=by
 show Kt (std (Ff N) N) (xOf _)=_;generalize hres:(some [.int (RC (⟨r0,r1,r2,r3,r4,r5,r6,r7,r8,r9,r10,r11,r12,r13⟩:Rul) (⟨s0,s1,s2,s3,s4,s5,s6,s7,s8,s9,s10,s11,s12,s13,s14,s15,s16,s17,s18,s19,s20,s21,s22,s23,s24,s25,s26,s27⟩:Inn))]:Option (List PV))=RR;simp only [Kt,P1,Nr,OK,lq9,std,xOf,PXb,PXc,PXn,PXm,Nat.reduceAdd,Int.reduceBEq,H3,HQ h.sb,aS hN h13];subst hres;simp only [RC];cases inR s22 s24.length<;>cases HN (⟨s0,s1,s2,s3,s4,s5,s6,s7,s8,s9,s10,s11,s12,s13,s14,s15,s16,s17,s18,s19,s20,s21,s22,s23,s24,s25,s26,s27⟩:Inn) s22<;>cases s22==s15<;>rfl
def QH (s:Inn) (d:Del):Int :=
  cond (iLt 0 d.fielder && !inR d.fielder s.subs.length) 3 (cond (iLt 0 d.fielder && !(d.sub==HN s d.fielder)) 18
    (cond (iLt 0 d.second && !inR d.second s.subs.length) 3 (cond (iLt 0 d.second&&HN s d.second) 18
      (cond (d.how==4 && !(kd d.fielder==s.keeper)) 17 0))))
theorem eK {N:Nat} {s18 s20:Bool} {d5 d10:Bool} (h:Fit s14 s16 s17 s19 s24):Hv N [.int s0,.int s1,.int s2,.int s3,.int s4,.int s5,.int s6,.int s7,.int s8,.int s9,.int s10,.int s11,.int s12,.int s13,.rows s14,.int s15,.rows s16,.rows s17,.bool s18,.rows s19,.bool s20,.int s21,.int s22,.int s23,.rows s24,.int s25,.int s26,.int s27,.int d0,.int d1,.int d2,.int d3,.int d4,.bool d5,.int d6,.int d7,.int d8,.int d9,.bool d10,.int d11]=some [.int (QH (⟨s0,s1,s2,s3,s4,s5,s6,s7,s8,s9,s10,s11,s12,s13,s14,s15,s16,s17,s18,s19,s20,s21,s22,s23,s24,s25,s26,s27⟩:Inn) (⟨d0,d1,d2,d3,d4,d5,d6,d7,d8,d9,d10,d11⟩:Del))]:=by
 show Kg (std (Il N) N) (xOf _)=_;generalize hres:(some [.int (QH (⟨s0,s1,s2,s3,s4,s5,s6,s7,s8,s9,s10,s11,s12,s13,s14,s15,s16,s17,s18,s19,s20,s21,s22,s23,s24,s25,s26,s27⟩:Inn) (⟨d0,d1,d2,d3,d4,d5,d6,d7,d8,d9,d10,d11⟩:Del))]:Option (List PV))=RR;simp only [Kg,Ph,NX,lq9,std,xOf,PXb,PXc,PXn,PXm,Nat.reduceAdd,Int.reduceBEq,H3,HQ h.sb];subst hres;simp only [QH,kd,sZ];cases iLt 0 d8<;>cases iLt 0 d9<;>cases inR d8 s24.length<;>cases inR d9 s24.length<;>cases d10==HN (⟨s0,s1,s2,s3,s4,s5,s6,s7,s8,s9,s10,s11,s12,s13,s14,s15,s16,s17,s18,s19,s20,s21,s22,s23,s24,s25,s26,s27⟩:Inn) d8<;>cases HN (⟨s0,s1,s2,s3,s4,s5,s6,s7,s8,s9,s10,s11,s12,s13,s14,s15,s16,s17,s18,s19,s20,s21,s22,s23,s24,s25,s26,s27⟩:Inn) d9<;>rfl
structure Cre where
 batter:Int
 wides:Int
 noballs:Int
 byes:Int
 legbyes:Int
 bowler:Int
 counts:Bool
 faced:Bool
 wicket:Bool
 swap:Bool
def Cre.ls (c:Cre):List PV:=[.int c.batter,.int c.wides,.int c.noballs,.int c.byes,.int c.legbyes,.int c.bowler,.bool c.counts,.bool c.faced,.bool c.wicket,.bool c.swap]
def Wp (d:Del):Bool :=
  cond (d.type==2) (d.source==0 && !(d.boundary==6)) (cond (d.source==0) (d.runs==0&&d.boundary==0)
    (cond (d.boundary==0) (iLt 0 d.runs) (cond (d.boundary==6) (d.source==1&&d.runs==0) true)))
def EZ (d:Del):Int :=
  cond (iLt d.type 1||iLt 3 d.type||iLt 3 d.source||iLt 10 d.how || !btw d.sector 0 8) 11
    (cond (!btw d.runs 0 7 || !btw d.short 0 d.runs||(!(d.boundary==0) && !(d.boundary==4) && !(d.boundary==6))) 12
      (cond (!Wp d) 11 (cond (!(d.sector==0) && !(d.source==1) && !(d.how==2)) 11 (cond (!(d.boundary==0) && !(d.how==0)) 11
        (cond (d.crossed && !(d.how==6) && !(d.how==8)) 11 0)))))
def KV (d:Del):Bool :=
  cond (d.type==2) (d.source==0 && !(d.boundary==6)) (cond (d.source==0) (d.runs==0&&d.boundary==0)
    (cond (d.source==1) (!(d.boundary==6)||d.runs==0) (!(d.boundary==6)&&(iLt 0 d.runs || !(d.boundary==0)))))
theorem VZ {N:Nat} {d5 d10:Bool}  : DP N [.int d0,.int d1,.int d2,.int d3,.int d4,.bool d5,.int d6,.int d7,.int d8,.int d9,.bool d10,.int d11]=some [.bool (KV (⟨d0,d1,d2,d3,d4,d5,d6,d7,d8,d9,d10,d11⟩:Del))]:=by
 show FH (std (Lj N) N) (xOf _)=_;generalize hres:(some [.bool (KV (⟨d0,d1,d2,d3,d4,d5,d6,d7,d8,d9,d10,d11⟩:Del))]:Option (List PV))=RR;simp only [FH,lq9,std,xOf,PXb,PXc,PXn,PXm,Nat.reduceAdd,Int.reduceBEq];subst hres;simp only [KV]
theorem tq (x a b:Int):(!btw x a b)=(iLt x a||iLt b x):=by
 unfold btw iLe iLt;rw [Bool.eq_iff_iff];simp only [Bool.not_eq_true',Bool.and_eq_false_iff,decide_eq_false_iff_not,Bool.or_eq_true,decide_eq_true_eq];omega
theorem rN {d:Del} (h:0≤d.runs):(!KV d || !d.type==2&&d.source==1&&d.runs==0&&d.boundary==0) = !Wp d:=by
 unfold KV Wp;rw [qe h];cases h1:d.source==0 with
 | true =>
  rw [cj h1 (c:=1) rfl];cases d.type==2<;>cases d.runs==0<;>cases d.boundary==0<;>cases d.boundary==6<;>rfl
 | false =>
  cases h2:d.boundary==0 with
  | true =>
   rw [cj h2 (c:=6) rfl];cases d.type==2<;>cases d.source==1<;>cases d.runs==0<;>rfl
  | false=>cases d.type==2<;>cases d.source==1<;>cases d.runs==0<;>cases d.boundary==6<;>rfl
theorem QG {N:Nat} {d5 d10:Bool}  : CM N [.int d0,.int d1,.int d2,.int d3,.int d4,.bool d5,.int d6,.int d7,.int d8,.int d9,.bool d10,.int d11]=some [.int (EZ (⟨d0,d1,d2,d3,d4,d5,d6,d7,d8,d9,d10,d11⟩:Del))]:=by
 show HV (std (JF N) N) (xOf _)=_;generalize hres:(some [.int (EZ (⟨d0,d1,d2,d3,d4,d5,d6,d7,d8,d9,d10,d11⟩:Del))]:Option (List PV))=RR;simp only [HV,J7,lq9,std,xOf,PXb,PXc,PXn,PXm,Nat.reduceAdd,Int.reduceBEq,VZ];subst hres;simp only [EZ,tq,Bool.or_assoc];cases h2:(iLt d2 0||(iLt 7 d2||(iLt d3 0||(iLt d2 d3 || !d4==0 && !d4==4 && !d4==6)))) with
 | true=>rfl
 | false =>
  have h3:0≤d2:=by
   rw [Bool.or_eq_false_iff] at h2;have:=h2.1;simp only [iLt,decide_eq_false_iff_not] at this;omega
  have:=rN (d:=(⟨d0,d1,d2,d3,d4,d5,d6,d7,d8,d9,d10,d11⟩:Del)) h3;simp only at this;rw [this]
theorem ZH {N:Nat} {a:Int} {b:Int} {c:Int} {d:Int} {e:Int} {x:Int} {p:Bool} {q:Bool} {u:Bool} {v:Bool}  : Et N [.int a,.int b,.int c,.int d,.int e,.int x,.bool p,.bool q,.bool u,.bool v]=some [.int (IntKind.i64.wrap (IntKind.i64.wrap (IntKind.i64.wrap (IntKind.i64.wrap (a+b)+c)+d)+e))]:=by
 rfl
def Dv (c:Cre):Int:=IntKind.i64.wrap (IntKind.i64.wrap (IntKind.i64.wrap (IntKind.i64.wrap (c.batter+c.wides)+c.noballs)+c.byes)+c.legbyes)
def cV (h:Int):Bool:=iLe 1 h&&iLe h 5
theorem Va {N:Nat} {h:Int}  : DN N [.int h]=some [.bool (cV h)]:=by
 show FG (std (LY N) N) (xOf _)=_;simp only [FG,lq9,std,xOf,PXb,PXc,PXn,PXm,Nat.reduceAdd,Int.reduceBEq,cV]
def R2 (r:Rul) (d:Del):Cre :=
  let n:=IntKind.i64.wrap (IntKind.i64.wrap (d.runs - d.short)+d.boundary)
  let b:=cond (!(d.type==2)&&d.source==1) n 0
  let w:=cond (d.type==2) (IntKind.i64.wrap (r.wide+n)) 0
  let o:=cond (d.type==3) r.noball 0
  { batter:=b,wides:=w,noballs:=o,byes:=cond (!(d.type==2)&&d.source==2) n 0,legbyes:=cond (!(d.type==2)&&d.source==3) n 0,bowler:=IntKind.i64.wrap (IntKind.i64.wrap (b+w)+o),
    counts:=d.type==1,faced := !(d.type==2),wicket:=cV d.how,swap := !((!(d.runs.tmod 2==0))==d.crossed) }
def AD (r:Rul) (d:Del):Cre:=cond (!(EZ d==0)) ⟨0,0,0,0,0,0,false,false,false,false⟩ (R2 r d)
theorem mE {d:Del} (h:(EZ d==0)=true):0≤d.runs∧d.runs≤7:=by
 unfold EZ at h;cases h1:(iLt d.type 1||iLt 3 d.type||iLt 3 d.source||iLt 10 d.how || !btw d.sector 0 8) with
 | true=>rw [h1] at h;cases h
 | false =>
  cases h2:(!btw d.runs 0 7 || !btw d.short 0 d.runs||(!(d.boundary==0) && !(d.boundary==4) && !(d.boundary==6))) with
  | true=>rw [h1,h2] at h;cases h
  | false =>
   rw [Bool.or_eq_false_iff,Bool.or_eq_false_iff] at h2;have:=h2.1.1;simp only [btw,iLe,Bool.not_eq_false',zzj,decide_eq_true_eq] at this;exact this
theorem qh {n:Int} (h:0≤n∧n≤7) (b:Bool):((cond b (IntKind.i64.wrap (n+1)) n).tmod 2==1) = !((!(n.tmod 2==0))==b):=by
 obtain ⟨k,rfl⟩:∃ k:Nat,n=k:=⟨n.toNat,by omega⟩;have:k=0∨k=1∨k=2∨k=3∨k=4∨k=5∨k=6∨k=7:=by omega
 rcases this with h | h | h | h | h | h | h | h<;>subst h<;>cases b<;>rfl
theorem PT {N:Nat} {r8:Bool} {r0:ByteArray} {r13:Rows} {d5 d10:Bool}  : B7 N [.str r0,.int r1,.int r2,.int r3,.int r4,.int r5,.int r6,.int r7,.bool r8,.int r9,.int r10,.int r11,.int r12,.rows r13,.int d0,.int d1,.int d2,.int d3,.int d4,.bool d5,.int d6,.int d7,.int d8,.int d9,.bool d10,.int d11]=some (AD (⟨r0,r1,r2,r3,r4,r5,r6,r7,r8,r9,r10,r11,r12,r13⟩:Rul) (⟨d0,d1,d2,d3,d4,d5,d6,d7,d8,d9,d10,d11⟩:Del)).ls:=by
 show GV (std (FE N) N) (xOf _)=_;generalize hres:(some (AD (⟨r0,r1,r2,r3,r4,r5,r6,r7,r8,r9,r10,r11,r12,r13⟩:Rul) (⟨d0,d1,d2,d3,d4,d5,d6,d7,d8,d9,d10,d11⟩:Del)).ls:Option (List PV))=RR;simp only [GV,LR,Jg,lq9,std,xOf,PXb,PXc,PXn,PXm,Nat.reduceAdd,Int.reduceBEq,QG,Va];subst hres;simp only [AD,R2];cases hl:EZ (⟨d0,d1,d2,d3,d4,d5,d6,d7,d8,d9,d10,d11⟩:Del)==0 with
 | false=>rfl
 | true =>
  have hs:=qh (mE hl) d5;simp only at hs;simp only [PXb,PXc,PXn,PXm,Nat.reduceAdd,Int.reduceBEq,hs];cases h0:d0==2<;>cases h3:d0==3<;>cases h1:d1==1<;>cases h2:d1==2<;>cases h4:d1==3<;>first
   | rfl
   | (rw [cj h0 (c:=3) rfl] at h3;exact absurd h3 (by decide))
   | (rw [cj h1 (c:=2) rfl] at h2;exact absurd h2 (by decide))
   | (rw [cj h1 (c:=3) rfl] at h4;exact absurd h4 (by decide))
   | (rw [cj h2 (c:=3) rfl] at h4;exact absurd h4 (by decide))
def onS (h t:Int):Bool :=
 cond (h==1||h==2||h==3) (t==1) (cond (h==4||h==5) (t==1||t==2) (cond (h==7) (t==1||t==3) (cond (h==6||h==8) (t==1||t==2||t==3) false)))
def ez (h:Int):Bool:=h==6||h==7||h==8
def Nk (h:Int):Bool:=h==6||h==8
def bV (h:Int):Bool:=h==2||h==4||h==6
def Pf (d:Del) (free:Bool):Int :=
  cond (d.how==0) (cond (!(d.victim==0)) 14 (cond (!(d.fielder==0) || !(d.second==0)||d.sub) 15 0))
    (cond (!onS d.how d.type||free && !ez d.how) 13 (cond (!Nk d.how&&(!(d.source==0) || !(d.runs==0))) 12
      (cond (!(d.victim==1) && !(d.victim==2&&Nk d.how)) 14
        (cond (bV d.how && !btw d.fielder 1 11 || !bV d.how && !(d.fielder==0)) 15
          (cond (!(d.second==0)&&(!(d.how==6) || !btw d.second 1 11||d.second==d.fielder)) 15
            (cond (d.sub && !(d.how==2) && !(d.how==6)) 18 0))))))
def Br:Rows:=match Bk 0 [] with
 | some [.rows l]=>l
 | _=>[]
theorem PA {N:Nat}:Bk N []=some [.rows Br]:=rfl
theorem Y7:Br.length=11:=rfl
theorem Vr {N:Nat} {h:Int} {n:ByteArray} {b:Bool} {c:Bool} {d:Bool} {e:Bool} {x:Bool} {t:Int}  : Dx N [.int h,.str n,.bool b,.bool c,.bool d,.bool e,.bool x,.int t]=some [.bool (t==1&&b||t==2&&c||t==3&&d)]:=by
 show F1 (std (Md N) N) (xOf _)=_;simp only [F1,lq9,std,xOf,PXb,PXc,PXn,PXm,Nat.reduceAdd,Int.reduceBEq]
theorem SQ {N:Nat} {n:Int}  : Cc N [.int n]=some [.bool (btw n 1 11)]:=by
 show Df (std (Ix N) N) (xOf _)=_;simp only [Df,lq9,std,xOf,PXb,PXc,PXn,PXm,Nat.reduceAdd,Int.reduceBEq];rfl
def kz (i j:Nat):Bool:=pvB (AF Br i j)
def wOk (t:Int) (free:Bool) (i:Nat):Bool :=
  (t==1&&kz i 2||t==2&&kz i 3||t==3&&kz i 4)&&(!free||atI Br i 0==6||atI Br i 0==7||atI Br i 0==8)
def HO (t:Int) (free:Bool):Nat→Rows
 | 0=>[]
 | i+1=>cond (wOk t free i) (HO t free i++[[.int (atI Br i 0)]]) (HO t free i)
theorem YT (t:Int) (free:Bool):∀ i,(HO t free i).length≤i
 | 0=>Nat.le_refl _
 | i+1=>by
  have:=YT t free i;unfold HO;cases wOk t free i
  ·exact Nat.le_succ_of_le this
  ·simp;exact this
theorem Yj {N:Nat} {t:Int} {f:Bool} (hN:2097152<N):Er N [.int t,.bool f]=some [.rows (HO t f 11)]:=by
 show Hh (std (Fg N) N) (xOf _)=_;simp only [Hh,LO,KK,lq9,std,xOf,PXb,PXc,PXn,AH,PA,Vr];refine Ae (C8 (len:=Br.length) (fun i=>[.rows (HO t f i),.int (i:Int)]) [.rows (HO t f 11)] ?_ ?_ N (by rw [Y7];omega)) rfl
 ·intro self;simp only [PXb,PXc,PXn,AH,BC];rfl
 ·intro i self hi;have hi2:i<11:=hi;have h2:(HO t f i++[[PV.int (atI Br i 0)]]).length≤4194304:=by have:=YT t f i;simp;omega
  simp only [PXb,PXc,AH,BG (show i≤1099511627776 by omega),A5 hi,Ab hi,DX,HO,Iq h2 (show 1≤4096 by omega)];unfold wOk kz;cases ((t==1&&pvB (AF Br i 2)||t==2&&pvB (AF Br i 3)||t==3&&pvB (AF Br i 4))&&(!f||atI Br i 0==6||atI Br i 0==7||atI Br i 0==8))<;>rfl
theorem Vk {N:Nat} {L:Rows} {v:Int} (hN:L.length<N) (hl:L.length≤1048576):Dk N [.rows L,.int v]=some [.int (Oj (fun j=>v==atI L j 0) L.length)]:=by
 show Fy (std (L3 N) N) (xOf _)=_;simp only [Fy,lq9,std,xOf,PXb,PXc,PXn,AH];refine Ae (Ct (len:=L.length) (GE fun j=>v==atI L j 0) ?_ ?_ L.length 0 N (by omega) (by omega)) ?_
 ·intro self;simp only [PXb,PXc,PXn,AH,BC]
 ·intro i self hi;simp only [PXb,PXc,PXn,AH,BG (show i≤1099511627776 by omega),A5 hi,Ab hi,GE,DX];cases v==atI L i 0<;>rfl
 ·unfold Oj;cases Bt (GE fun j=>v==atI L j 0) L.length 0<;>rfl
theorem Sz {N:Nat} {L:Rows} {v:Int} (hN:L.length<N) (hl:L.length≤1048576):Cv N [.rows L,.int v]=some [.bool (J5 L L.length v)]:=by
 show D7 (std (FQ N) N) (xOf _)=_;simp only [D7,IL,lq9,std,xOf,PXb,PXc,PXn,AH,Vk hN hl,Jj,J5]
theorem oA (L:Rows) (v:Int):J5 L L.length v=J2 (fun x=>v==x) L:=rfl
theorem sR (p:Int→Bool) (b:Bool) (L:Rows) (x:Int):J2 p (cond b (L++[[.int x]]) L)=(J2 p L||(b&&p x)):=by
 cases b with
 | false=>simp
 | true=>rw [cond_true,fw,Bool.true_and];congr 1;rw [Nf];simp [AA,pvI]
theorem fU (t:Int) (free:Bool) (p:Int→Bool):∀ i,J2 p (HO t free i)=Bg (fun j=>wOk t free j&&p (atI Br j 0)) i 0
 | 0=>rfl
 | i+1=>by rw [Vy,← fU t free p i,HO,sR,Nat.zero_add]
theorem oq (t h:Int) (free:Bool):J5 (HO t free 11) (HO t free 11).length h=(onS h t&&(!free||ez h)):=by
 rw [oA,fU];have key:∀ j,j<11→atI Br j 0=j:=by
  intro j hj;have:j=0∨j=1∨j=2∨j=3∨j=4∨j=5∨j=6∨j=7∨j=8∨j=9∨j=10:=by omega
  rcases this with h | h | h | h | h | h | h | h | h | h | h<;>subst h<;>rfl
 by_cases hr:0≤h∧h≤10
 ·obtain ⟨k,rfl⟩:∃ k:Nat,h=k:=⟨h.toNat,by omega⟩;have:k=0∨k=1∨k=2∨k=3∨k=4∨k=5∨k=6∨k=7∨k=8∨k=9∨k=10:=by omega
  rcases this with h | h | h | h | h | h | h | h | h | h | h<;>subst h<;>simp only [Bo,JP,wOk,onS]<;>cases free<;>cases t==1<;>cases t==2<;>cases t==3<;>rfl
 ·rw [HX.2 fun j _ hj=>by
   rw [key j (by omega),show (h==(j:Int))=false from beq_false_of_ne (by omega),Bool.and_false]]
  have e:∀ n:Int,0≤n→n≤10→(h==n)=false:=fun n h0 h1=>beq_false_of_ne (by omega)
  unfold onS;rw [e 1 (by omega) (by omega),e 2 (by omega) (by omega),e 3 (by omega) (by omega),e 4 (by omega) (by omega),e 5 (by omega) (by omega),e 6 (by omega) (by omega),e 7 (by omega) (by omega),e 8 (by omega) (by omega)];rfl
def Uh (h:Int):List PV:=match Bt (fun i=>cond (atI Br i 0==h) (some [.int (pvI (AF Br i 0)),.str (pvS (AF Br i 1)),.bool (pvB (AF Br i 2)),.bool (pvB (AF Br i 3)),.bool (pvB (AF Br i 4)),.bool (pvB (AF Br i 5)),.bool (pvB (AF Br i 6))]) none) 11 0 with
 | some r=>r
 | none=>[.int 0,.str ⟨#[]⟩,.bool false,.bool false,.bool false,.bool false,.bool false]
theorem Pt {ans:Nat→Option (List PV)} {r:List PV}:∀ (k i:Nat),Bt ans k i=some r→∃ j,i≤j∧j<i+k∧ans j=some r
 | 0,i,h=>by cases h
 | k+1,i,h=>by
  simp only [Bt] at h;cases ha:ans i with
  | some x=>rw [ha] at h;cases h;exact ⟨i,Nat.le_refl _,by omega,ha⟩
  | none =>
   rw [ha] at h;obtain ⟨j,h1,h2,h3⟩:=Pt k (i+1) h;exact ⟨j,by omega,by omega,h3⟩
theorem ph (h:Int):∃ a b c d e f g,Uh h=[.int a,.str b,.bool c,.bool d,.bool e,.bool f,.bool g]:=by
 unfold Uh;generalize hf:Bt _ 11 0=o;cases o with
 | none=>exact ⟨_,_,_,_,_,_,_,rfl⟩
 | some r =>
  obtain ⟨j,_,_,h3⟩:=Pt _ _ hf;cases hb:atI Br j 0==h with
  | false=>rw [hb] at h3;cases h3
  | true=>rw [hb] at h3;cases h3;exact ⟨_,_,_,_,_,_,_,rfl⟩
theorem cE {N:Nat} {h:Int} (hN:2097152<N):DZ N [.int h]=some (Uh h):=by
 show Jo (std (LM N) N) (xOf _)=_;simp only [Jo,MX,lq9,std,xOf,PXb,PXc,PXn,AH,PA];refine Ae (Ct (len:=Br.length) (fun i=>cond (atI Br i 0==h) (some [.int (pvI (AF Br i 0)),.str (pvS (AF Br i 1)),.bool (pvB (AF Br i 2)),.bool (pvB (AF Br i 3)),.bool (pvB (AF Br i 4)),.bool (pvB (AF Br i 5)),.bool (pvB (AF Br i 6))]) none) ?_ ?_ Br.length 0 N (by omega) (by rw [Y7];omega)) ?_
 ·intro self;simp only [PXb,PXc,PXn,AH,BC]
 ·intro i self hi;have hi2:i<11:=hi;simp only [PXb,PXc,PXn,AH,BG (show i≤1099511627776 by omega),A5 hi,Ab hi,DX];cases atI Br i 0==h<;>rfl
 ·unfold Uh;rw [Y7];generalize hf:Bt _ 11 0=o;cases o with
  | none=>rfl
  | some r =>
   obtain ⟨j,_,_,h3⟩:=Pt _ _ hf;cases hb:atI Br j 0==h with
   | false=>rw [hb] at h3;cases h3
   | true=>rw [hb] at h3;cases h3;rfl
theorem mV (h:Int):pvB (AA (Uh h) 5)=bV h∧pvB (AA (Uh h) 6)=Nk h:=by
 by_cases hr:0≤h∧h≤10
 ·obtain ⟨k,rfl⟩:∃ k:Nat,h=k:=⟨h.toNat,by omega⟩;have:k=0∨k=1∨k=2∨k=3∨k=4∨k=5∨k=6∨k=7∨k=8∨k=9∨k=10:=by omega
  rcases this with h | h | h | h | h | h | h | h | h | h | h<;>subst h<;>exact ⟨rfl,rfl⟩
 ·have e:∀ n:Int,0≤n→n≤10→(h==n)=false:=fun n h0 h1=>beq_false_of_ne (by omega)
  have key:∀ j,j<11→atI Br j 0=j:=by
   intro j hj;have:j=0∨j=1∨j=2∨j=3∨j=4∨j=5∨j=6∨j=7∨j=8∨j=9∨j=10:=by omega
   rcases this with h | h | h | h | h | h | h | h | h | h | h<;>subst h<;>rfl
  unfold Uh;generalize hf:Bt _ 11 0=o;cases o with
  | none =>
   unfold bV Nk;rw [e 2 (by omega) (by omega),e 4 (by omega) (by omega),e 6 (by omega) (by omega),e 8 (by omega) (by omega)];exact ⟨rfl,rfl⟩
  | some r =>
   obtain ⟨j,_,hj,h3⟩:=Pt _ _ hf;rw [key j (by omega),show ((j:Int)==h)=false from beq_false_of_ne (by omega)] at h3;cases h3
def OD (d:Del) (m:Bool):Bool :=
 !(!(m==btw d.fielder 1 11) || !m && !(d.fielder==0))&&(d.second==0||d.how==6&&btw d.second 1 11 && !(d.second==d.fielder))
theorem Tq {N:Nat} {d5 d10:Bool} {a:Int} {n:ByteArray} {b:Bool} {c:Bool} {e:Bool} {f:Bool} {g:Bool}  : C1 N [.int d0,.int d1,.int d2,.int d3,.int d4,.bool d5,.int d6,.int d7,.int d8,.int d9,.bool d10,.int d11,.int a,.str n,.bool b,.bool c,.bool e,.bool f,.bool g]=some [.bool (OD (⟨d0,d1,d2,d3,d4,d5,d6,d7,d8,d9,d10,d11⟩:Del) f)]:=by
 show Ee (std (GJ N) N) (xOf _)=_;generalize hres:(some [.bool (OD (⟨d0,d1,d2,d3,d4,d5,d6,d7,d8,d9,d10,d11⟩:Del) f)]:Option (List PV))=RR;simp only [Ee,HD,lq9,std,xOf,PXb,PXc,PXn,PXm,Nat.reduceAdd,Int.reduceBEq,SQ];subst hres;simp only [OD];cases d9==0<;>cases d6==6<;>cases f<;>cases btw d8 1 11<;>cases d8==0<;>first | rfl | (cases btw d9 1 11<;>rfl)
theorem tH {α:Type} (a b:Bool) (x y:α):cond (a||b) x y=cond a x (cond b x y):=by cases a<;>rfl
theorem jH (d:Del) (m:Bool):(!OD d m)=((m && !btw d.fielder 1 11 || !m && !(d.fielder==0))||(!(d.second==0)&&(!(d.how==6) || !btw d.second 1 11||d.second==d.fielder))):=by
 unfold OD;cases hb:btw d.fielder 1 11<;>cases hf:d.fielder==0
 ·cases m<;>cases d.second==0<;>cases d.how==6<;>cases btw d.second 1 11<;>cases d.second==d.fielder<;>rfl
 ·cases m<;>cases d.second==0<;>cases d.how==6<;>cases btw d.second 1 11<;>cases d.second==d.fielder<;>rfl
 ·cases m<;>cases d.second==0<;>cases d.how==6<;>cases btw d.second 1 11<;>cases d.second==d.fielder<;>rfl
 ·rw [beq_iff_eq.1 hf] at hb;exact absurd hb (by decide)
theorem Ub {N:Nat} {d5 d10:Bool} {f:Bool} (hN:2097152<N):C4 N [.int d0,.int d1,.int d2,.int d3,.int d4,.bool d5,.int d6,.int d7,.int d8,.int d9,.bool d10,.int d11,.bool f]=some [.int (Pf (⟨d0,d1,d2,d3,d4,d5,d6,d7,d8,d9,d10,d11⟩:Del) f)]:=by
 show Ea (std (B4 N) N) (xOf _)=_;generalize hres:(some [.int (Pf (⟨d0,d1,d2,d3,d4,d5,d6,d7,d8,d9,d10,d11⟩:Del) f)]:Option (List PV))=RR;have hl:=YT d0 f 11;obtain ⟨a,b,c,d,e,m,g,hline⟩:=ph d6;have hbits:=mV d6;rw [hline] at hbits;have hm:m=bV d6:=hbits.1;have hg:g=Nk d6:=hbits.2;have h1:(HO d0 f 11).length<N:=by omega
 have h2:(HO d0 f 11).length≤1048576:=by omega
 simp only [Ea,KP,HZ,Jd,Hr,lq9,std,xOf,PXb,PXc,PXn,PXm,Nat.reduceAdd,Int.reduceBEq,cE hN,hline,Yj hN,Sz h1 h2,oq,Tq,jH];subst hres;simp only [Pf,tH];rw [hm,hg];unfold Nk;cases d6==0<;>cases onS d6 d0<;>cases f<;>cases ez d6<;>try rfl
 all_goals (cases d6==6<;>cases d6==8<;>cases d7==2<;>rfl)
end Go.Px
end
