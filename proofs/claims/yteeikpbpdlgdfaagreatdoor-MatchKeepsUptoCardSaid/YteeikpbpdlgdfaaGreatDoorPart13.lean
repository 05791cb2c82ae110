/- Part 13. -/
import Derived.Test.YteeikpbpdlgdfaaGreatDoorPart12
import Derived.Test.YteeikpbpdlgdfaaGreatDoorPart11
import Derived.Test.YteeikpbpdlgdfaaGreatDoorPart09
import Derived.Shelf.Strings.OnBuilder
import Derived.Shelf.Strconv.Itoa3
import Derived.Shelf.LaysM
import Derived.Shelf.Strconv.Itoa4
import Derived.Test.YteeikpbpdlgdfaaGreatDoorProg
set_option linter.unusedVariables false
set_option linter.unusedSimpArgs false
variable {r1 r2 r3 r4 r5 r6 r7 r9 r10 r11 r12:Int}
variable {m1 m2 m3 m4 m5 m6 m7 m9 m10 m11 m12 m14 m15 m18 m19 m20 m21 m22:Int}
section
namespace Go.Px
set_option maxRecDepth 100000
structure Small (s:Inn):Prop where
 target:s.target≤999999900
 runs:s.runs≤999999900
 wides:s.wides≤999999900
 noballs:s.noballs≤999999900
 byes:s.byes≤999999900
 legbyes:s.legbyes≤999999900
 pens:s.pens≤999999900
 complete:s.complete≤999999900
 ballage:s.ballage≤999999900
 rev1:s.rev1≤999999900
 rev2:s.rev2≤999999900
 bowled:∀ j,j<s.bowled.length→atI s.bowled j 0≤999999900
def dj (n:Int):Int:=IntKind.i64.wrap (3 - n)
def du (m:Mat) (i:Int):Int:=cond (cond (m.follow&&iLe 2 i) (i==2) (i.tmod 2==1)) (dj m.first) m.first
def NW (xs:List Inn):Prop:=∀ i,i<xs.length→(inn xs i).Fit
theorem Vt {N:Nat} {r8:Bool} {r0:ByteArray} {r13:Rows} (hl:r13.length≤1048576):Cd N [.str r0,.int r1,.int r2,.int r3,.int r4,.int r5,.int r6,.int r7,.bool r8,.int r9,.int r10,.int r11,.int r12,.rows r13]=some [.str r0,.int r1,.int r2,.int r3,.int r4,.int r5,.int r6,.int r7,.bool r8,.int r9,.int r10,.int r11,.int r12,.rows r13]:=by
 show FP (std (GV N) N) (xOf _)=_;simp only [FP,Fl,q9,std,xOf,PXb,PXc,PXn,PXm,Nat.reduceAdd,Int.reduceBEq,Bx,Hd hl (show 24≤4096 by omega)]
theorem Xe {N:Nat} {r8:Bool} {r0:ByteArray} {r13:Rows} (hl:r13.length≤1048576):FM N [.str r0,.int r1,.int r2,.int r3,.int r4,.int r5,.int r6,.int r7,.bool r8,.int r9,.int r10,.int r11,.int r12,.rows r13]=some [.str r0,.int r1,.int r2,.int r3,.int r4,.int r5,.int r6,.int r7,.bool r8,.int r9,.int r10,.int r11,.int r12,.rows r13]:=by
 show Ho (std (ON N) N) (xOf _)=_;simp only [Ho,q9,std,xOf,PXb,PXc,PXn,PXm,Nat.reduceAdd,Int.reduceBEq,Mn hl (show 24≤4096 by omega)]
theorem OY {xs:List Inn} {i:Nat} (h:i<xs.length):xs.take i++[inn xs i]=xs.take (i+1):=by
 rw [List.take_add_one,L5,zzo h];rfl
theorem Vu {N:Nat} {m8 m16:Bool} {m0:ByteArray} {m13:Rows} {m17:List Inn} (hf:NW m17) (hN:2097152<N) (hl:m17.length≤1000000) (h13:m13.length≤1048576):Ce N [.str m0,.int m1,.int m2,.int m3,.int m4,.int m5,.int m6,.int m7,.bool m8,.int m9,.int m10,.int m11,.int m12,.rows m13,.int m14,.int m15,.bool m16,.rows (Ac m17),.int m18,.int m19,.int m20,.int m21,.int m22]=some [.str m0,.int m1,.int m2,.int m3,.int m4,.int m5,.int m6,.int m7,.bool m8,.int m9,.int m10,.int m11,.int m12,.rows m13,.int m14,.int m15,.bool m16,.rows (Ac m17),.int m18,.int m19,.int m20,.int m21,.int m22]:=by
 show FQ (std (ED N) N) (xOf _)=_;simp only [FQ,JF,Db,q9,std,xOf,PXb,Vt h13,PXi];refine Br (Fj (len:=m17.length) (fun i=>[.rows (Ac (m17.take i)),.int (i:Int)]) [.rows (Ac m17)] ?_ ?_ N (by omega)) rfl
 ·intro self;simp only [PXb,PXc,PXn,A7,Du,List.take_length]
 ·intro i self hi;have h2:(m17.take (i+1)).length≤1048576:=by rw [List.length_take];omega
  have h3:iSm ((m17.take (i+1)).length:Int) 304=true:=TL (by omega) (by omega);simp only [PXb,PXc,A7,CF (show i≤1099511627776 by omega),DV hi,Bu hi,PXi,Db,TR (hf i hi),PXr,Inn.eta,h3,OY hi,Nat.reduceAdd];rfl
theorem Xu {N:Nat} {m8 m16:Bool} {m0:ByteArray} {m13:Rows} {m17:List Inn} (hf:NW m17) (hN:2097152<N) (hl:m17.length≤1000000) (h13:m13.length≤1048576):FE N [.str m0,.int m1,.int m2,.int m3,.int m4,.int m5,.int m6,.int m7,.bool m8,.int m9,.int m10,.int m11,.int m12,.rows m13,.int m14,.int m15,.bool m16,.rows (Ac m17),.int m18,.int m19,.int m20,.int m21,.int m22]=some [.str m0,.int m1,.int m2,.int m3,.int m4,.int m5,.int m6,.int m7,.bool m8,.int m9,.int m10,.int m11,.int m12,.rows m13,.int m14,.int m15,.bool m16,.rows (Ac m17),.int m18,.int m19,.int m20,.int m21,.int m22]:=by
 show Hq (std (FU N) N) (xOf _)=_;simp only [Hq,L1,F4,q9,std,xOf,PXb,Xe h13,PXi];refine Br (Fj (len:=m17.length) (fun i=>[.rows (Ac (m17.take i)),.int (i:Int)]) [.rows (Ac m17)] ?_ ?_ N (by omega)) rfl
 ·intro self;simp only [PXb,PXc,PXn,A7,Du,List.take_length]
 ·intro i self hi;have h2:(m17.take (i+1)).length≤1048576:=by rw [List.length_take];omega
  have h3:iSm ((m17.take (i+1)).length:Int) 304=true:=TL (by omega) (by omega);simp only [PXb,PXc,A7,CF (show i≤1099511627776 by omega),DV hi,Bu hi,PXi,F4,Xn (hf i hi),PXr,Inn.eta,h3,OY hi,Nat.reduceAdd];rfl
structure MatOk (m:Mat):Prop where
 code:cC m.rules=0
 len:m.inns.length≤4
 innv:∀ i,i<m.inns.length→dU m.rules (inn m.inns i)=true∧(inn m.inns i).side=du m (i:Int)
 begun:(m.stage==3)=true→((m.inns.length:Int)==0)=false
 toss:(m.stage==2)=true→m.first=1∨m.first=2
 room:(m.stage==2)=true→(m.inns.length:Int)<2 * m.rules.innings
 most:IntKind.i64.wrap (2 * m.rules.innings)=2 * m.rules.innings∧(m.inns.length:Int)≤2 * m.rules.innings
structure ActOk (m:Mat) (x:Mat×Int):Prop where
 rules:x.1.rules=m.rules
 fit:NW x.1.inns
 len:x.1.inns.length≤5
 some':(x.2==0)=true→(x.1.stage==3)=true→((x.1.inns.length:Int)==0)=false
structure StepOk (r:Rul) (m:Mat):Prop where
 rules:m.rules=r
 fit:NW m.inns
 len:m.inns.length≤5
theorem Sn (b:ByteArray):(b.toList==b.toList)=true:=beq_self_eq_true _
theorem Tl {N:Nat} {r8:Bool} {r0:ByteArray} {r13:Rows} (hN:2097152<N) (h13:r13.length≤1048576):GJ N [.str r0,.int r1,.int r2,.int r3,.int r4,.int r5,.int r6,.int r7,.bool r8,.int r9,.int r10,.int r11,.int r12,.rows r13,.str r0,.int r1,.int r2,.int r3,.int r4,.int r5,.int r6,.int r7,.bool r8,.int r9,.int r10,.int r11,.int r12,.rows r13]=some [.bool true]:=by
 show JB (std (Pw N) N) (xOf _)=_;simp only [JB,q9,std,xOf,PXb,PXm];refine Br (Fj (len:=r13.length) (fun i=>[.int (i:Int)]) [.int 1] ?_ ?_ N (by omega)) ?_
 ·intro self;simp only [PXb,PXc,PXn,A7,Du]
 ·intro i self hi;simp only [PXb,PXc,PXn,PXm,Nat.reduceAdd,Int.reduceBEq,CF (show i≤1099511627776 by omega),DV hi,Bu hi];rfl
 ·simp only [PXb,PXc,PXn,PXm,Nat.reduceAdd,Int.reduceBEq,Sn]
theorem JC {N:Nat} {L:Rows} (hN:2097152<N) (h13:L.length≤1048576):Bt N [.rows L,.rows L]=some [.bool true]:=by
 show Co (std (FJ N) N) (xOf _)=_;simp only [Co,q9,std,xOf,PXb,PXm];refine Br (Fj (len:=L.length) (fun i=>[.int (i:Int)]) [.int 1] ?_ ?_ N (by omega)) ?_
 ·intro self;simp only [PXb,PXc,PXn,A7,Du]
 ·intro i self hi;simp only [PXb,PXc,PXn,PXm,Nat.reduceAdd,Int.reduceBEq,CF (show i≤1099511627776 by omega),DV hi,Bu hi];rfl
 ·simp only [PXb,PXc,PXn,PXm,Nat.reduceAdd,Int.reduceBEq]
theorem Tk {N:Nat} {r8:Bool} {r0:ByteArray} {r13:Rows}  : C7 N [.str r0,.int r1,.int r2,.int r3,.int r4,.int r5,.int r6,.int r7,.bool r8,.int r9,.int r10,.int r11,.int r12,.rows r13]=some [.int r1,.int r2,.int r3,.int r4,.int r5,.int r6,.int r7,.int r9,.int r10,.int r11,.int r12]:=by
 show EB (std (I1 N) N) (xOf _)=_;simp only [EB,q9,std,xOf,PXb,PXc,PXn,PXm,Nat.reduceAdd,Int.reduceBEq]
theorem Qn {N:Nat} {r8:Bool} {r0:ByteArray} {r13:Rows} (hN:2097152<N) (h13:r13.length≤1048576):GH N [.str r0,.int r1,.int r2,.int r3,.int r4,.int r5,.int r6,.int r7,.bool r8,.int r9,.int r10,.int r11,.int r12,.rows r13,.str r0,.int r1,.int r2,.int r3,.int r4,.int r5,.int r6,.int r7,.bool r8,.int r9,.int r10,.int r11,.int r12,.rows r13]=some [.bool true]:=by
 show Gn (std (Eu N) N) (xOf _)=_;simp only [Gn,IR,F8,q9,std,xOf,PXb,PXc,PXn,PXm,Nat.reduceAdd,Int.reduceBEq,Sn,Tk,JC hN h13]
theorem Tw {N:Nat} {m8 m16:Bool} {m0:ByteArray} {m13:Rows} {m17:List Inn} (hN:2097152<N) (hf:NW m17) (hl:m17.length≤1000000) (h13:m13.length≤1048576):Gw N [.str m0,.int m1,.int m2,.int m3,.int m4,.int m5,.int m6,.int m7,.bool m8,.int m9,.int m10,.int m11,.int m12,.rows m13,.int m14,.int m15,.bool m16,.rows (Ac m17),.int m18,.int m19,.int m20,.int m21,.int m22,.str m0,.int m1,.int m2,.int m3,.int m4,.int m5,.int m6,.int m7,.bool m8,.int m9,.int m10,.int m11,.int m12,.rows m13,.int m14,.int m15,.bool m16,.rows (Ac m17),.int m18,.int m19,.int m20,.int m21,.int m22]=some [.bool true]:=by
 show JD (std (GY N) N) (xOf _)=_;simp only [JD,Oo,G5,q9,std,xOf,PXb,PXm,Tl hN h13,PXi];refine Br (Fj (len:=m17.length) (fun i=>[.int (i:Int)]) [.int 1] ?_ ?_ N (by omega)) ?_
 ·intro self;simp only [PXb,PXc,PXn,A7,Du]
 ·intro i self hi;simp only [PXb,PXc,PXn,PXm,Nat.reduceAdd,Int.reduceBEq,CF (show i≤1099511627776 by omega),DV hi,Bu hi,PXi,G5,YV (hf i hi) hN,Ve];rfl
 ·simp only [PXb,PXc,PXn,PXm,Nat.reduceAdd,Int.reduceBEq]
theorem GA {N:Nat} {xs:List Inn} (hN:2097152<N) (hf:NW xs) (hl:xs.length≤1000000):BT N [.rows (Ac xs),.rows (Ac xs)]=some [.bool true]:=by
 show BS (std (A3 N) N) (xOf _)=_;simp only [BS,B6,q9,std,xOf,PXb,PXm,PXi];refine Br (Fj (len:=xs.length) (fun i=>[.int (i:Int)]) [.int 1] ?_ ?_ N (by omega)) ?_
 ·intro self;simp only [PXb,PXc,PXn,A7,Du]
 ·intro i self hi;simp only [PXb,PXc,PXn,PXm,Nat.reduceAdd,Int.reduceBEq,CF (show i≤1099511627776 by omega),DV hi,Bu hi,PXi,B6,Uo (hf i hi) hN,Ve];rfl
 ·simp only [PXb,PXc,PXn,PXm,Nat.reduceAdd,Int.reduceBEq]
theorem Qg {N:Nat} {m8 m16:Bool} {m0:ByteArray} {m13:Rows} {m17:List Inn} (hN:2097152<N) (hf:NW m17) (hl:m17.length≤1000000) (h13:m13.length≤1048576):DL N [.str m0,.int m1,.int m2,.int m3,.int m4,.int m5,.int m6,.int m7,.bool m8,.int m9,.int m10,.int m11,.int m12,.rows m13,.int m14,.int m15,.bool m16,.rows (Ac m17),.int m18,.int m19,.int m20,.int m21,.int m22,.str m0,.int m1,.int m2,.int m3,.int m4,.int m5,.int m6,.int m7,.bool m8,.int m9,.int m10,.int m11,.int m12,.rows m13,.int m14,.int m15,.bool m16,.rows (Ac m17),.int m18,.int m19,.int m20,.int m21,.int m22]=some [.bool true]:=by
 show Ea (std (CG N) N) (xOf _)=_;simp only [Ea,KV,EG,q9,std,xOf,PXb,PXc,PXn,PXm,Nat.reduceAdd,Int.reduceBEq,Qn hN h13,GA hN hf hl]
def HJ (m:Mat):Mat:={ m with rules:=Rm m.rules,inns:=(m.inns.take 5).map Jj }
theorem XN (xs:List Inn):((xs.take 5).map Jj).length≤5:=by rw [List.length_map,List.length_take];omega
theorem cX (xs:List Inn):∀ i,i<(xs.map Jj).length→inn (xs.map Jj) i=Jj (inn xs i):=fun i hi=>by
 rw [List.length_map] at hi;rw [L5,L5,List.getElem?_map,zzo hi];rfl
theorem cQ {m:Mat}:StepOk (Rm m.rules) (HJ m):=⟨rfl,fun i hi=>by
 show (inn ((m.inns.take 5).map Jj) i).Fit;rw [cX _ i hi];exact cJ _,XN _⟩
theorem bK {xs:List Inn} {i:Nat} (h:i<xs.length):xs.take (i+1)=xs.take i++[inn xs i]:=by
 rw [List.take_succ_eq_append_getElem h,L5,zzo h]
set_option maxHeartbeats 2000000 in
theorem aD {N:Nat} {m8 m16:Bool} {m0:ByteArray} {m13:Rows} {m17:List Inn} (hN:2097152<N):Fw N [.str m0,.int m1,.int m2,.int m3,.int m4,.int m5,.int m6,.int m7,.bool m8,.int m9,.int m10,.int m11,.int m12,.rows m13,.int m14,.int m15,.bool m16,.rows (Ac m17),.int m18,.int m19,.int m20,.int m21,.int m22]=some (HJ (⟨⟨m0,m1,m2,m3,m4,m5,m6,m7,m8,m9,m10,m11,m12,m13⟩,m14,m15,m16,m17,m18,m19,m20,m21,m22⟩:Mat)).ls:=by
 show IG (std (FA N) N) (xOf _)=_;have e5:m17.take (min m17.length 5)=m17.take 5:=by
  by_cases h:m17.length≤5
  ·rw [Nat.min_eq_left h,List.take_length,List.take_of_length_le h]
  ·rw [Nat.min_eq_right (by omega)]
 simp only [IG,q9,std,xOf,PXb,Ys (show (0:Int)≤20 by omega),Ys (show (0:Int)≤10 by omega),PXi];refine Br (Fj (len:=min m17.length 5) (fun i=>[.rows (Ac ((m17.take i).map Jj)),.int (i:Int)]) [.rows (Ac ((m17.take 5).map Jj))] ?_ ?_ N (by omega)) rfl
 ·intro self;have:(iLt ((min m17.length 5:Nat):Int) (m17.length:Int)&&iLt ((min m17.length 5:Nat):Int) 5)=false:=by
   rw [Bool.and_eq_false_iff];simp only [iLt,decide_eq_false_iff_not];omega
  simp only [PXb,PXc,PXn,A7,this,e5]
 ·intro i self hi;have h1:i<m17.length:=by omega
  have h5:iLt (i:Int) 5=true:=by simp only [iLt,decide_eq_true_eq];omega
  have h304:iSm (((m17.take i).length+1:Nat):Int) 304=true:=TL (by rw [List.length_take];omega) (by omega);have c13:∀ n:Nat,iRg 0 (cond (iLt 13 (n:Int)) 13 (n:Int)) (n:Int)=true:=fun n=>Ys (show (0:Int)≤13 by omega)
  simp only [PXb,PXc,PXn,A7,CF (show i≤1099511627776 by omega),DV h1,Bu h1,h5,PXi,c13,List.length_append,List.length_cons,List.length_nil,List.length_map,Nat.zero_add,Nat.reduceAdd,h304,PXr,bK h1,List.map_append];rfl
theorem Yu (m:Mat):(HJ m).rules.power.length≤1048576:=V5 m.rules
structure FitOk (m:Mat):Prop where
 fit:NW m.inns
 len:m.inns.length≤1000000
 name:m.rules.name.size≤1048576
 power:m.rules.power.length≤1048576
theorem dP (m:Mat):nMx m.ls=m.ls:=rfl
theorem Z2 (m:Mat):J5 (HJ m).ls=true:=by
 unfold J5;rw [zzk,zzk,List.all_eq_true];refine ⟨⟨decide_eq_true ?_,decide_eq_true ?_⟩,fun r hr=>?_⟩
 ·show (((m.inns.take 5).map Jj).map Inn.ls).length≤1000000;have:=XN m.inns;rw [List.length_map];omega
 ·show (cut m.rules.power 10).length≤1000000;exact Nat.le_trans (GB _ 10) (by omega)
 ·have hr:r∈((m.inns.take 5).map Jj).map Inn.ls:=hr;obtain ⟨s,hs,rfl⟩:=List.mem_map.1 hr;obtain ⟨t,ht,rfl⟩:=List.mem_map.1 hs;show (decide ((cut t.batters 13).length≤1000000)&&decide ((cut t.bowled 13).length≤1000000))=true;rw [zzk];exact ⟨decide_eq_true (Nat.le_trans (GB _ 13) (by omega)),decide_eq_true (Nat.le_trans (GB _ 13) (by omega))⟩
theorem Zl {N:Nat} {m8 m16:Bool} {m0:ByteArray} {m13:Rows} {m17:List Inn} (ha:FG N []=some [.bool true]) (hN:2097152<N) (hs:m0.size≤1048576):Di N [.str m0,.int m1,.int m2,.int m3,.int m4,.int m5,.int m6,.int m7,.bool m8,.int m9,.int m10,.int m11,.int m12,.rows m13,.int m14,.int m15,.bool m16,.rows (Ac m17),.int m18,.int m19,.int m20,.int m21,.int m22]=some [.bool true]:=by
 have pp:=Yu (⟨⟨m0,m1,m2,m3,m4,m5,m6,m7,m8,m9,m10,m11,m12,m13⟩,m14,m15,m16,m17,m18,m19,m20,m21,m22⟩:Mat);have ok:=cQ (m:=(⟨⟨m0,m1,m2,m3,m4,m5,m6,m7,m8,m9,m10,m11,m12,m13⟩,m14,m15,m16,m17,m18,m19,m20,m21,m22⟩:Mat));have hl:=Nat.le_trans ok.len (show 5≤1000000 by omega);have hw:Fw N (nMx [.str m0,.int m1,.int m2,.int m3,.int m4,.int m5,.int m6,.int m7,.bool m8,.int m9,.int m10,.int m11,.int m12,.rows m13,.int m14,.int m15,.bool m16,.rows (Ac m17),.int m18,.int m19,.int m20,.int m21,.int m22])=some (HJ (⟨⟨m0,m1,m2,m3,m4,m5,m6,m7,m8,m9,m10,m11,m12,m13⟩,m14,m15,m16,m17,m18,m19,m20,m21,m22⟩:Mat)).ls:=aD hN;have cm:Ce N (HJ (⟨⟨m0,m1,m2,m3,m4,m5,m6,m7,m8,m9,m10,m11,m12,m13⟩,m14,m15,m16,m17,m18,m19,m20,m21,m22⟩:Mat)).ls=some (HJ (⟨⟨m0,m1,m2,m3,m4,m5,m6,m7,m8,m9,m10,m11,m12,m13⟩,m14,m15,m16,m17,m18,m19,m20,m21,m22⟩:Mat)).ls:=Vu ok.fit hN hl pp;have cr:FE N (HJ (⟨⟨m0,m1,m2,m3,m4,m5,m6,m7,m8,m9,m10,m11,m12,m13⟩,m14,m15,m16,m17,m18,m19,m20,m21,m22⟩:Mat)).ls=some (HJ (⟨⟨m0,m1,m2,m3,m4,m5,m6,m7,m8,m9,m10,m11,m12,m13⟩,m14,m15,m16,m17,m18,m19,m20,m21,m22⟩:Mat)).ls:=Xu ok.fit hN hl pp;have sm:DL N ((HJ (⟨⟨m0,m1,m2,m3,m4,m5,m6,m7,m8,m9,m10,m11,m12,m13⟩,m14,m15,m16,m17,m18,m19,m20,m21,m22⟩:Mat)).ls++(HJ (⟨⟨m0,m1,m2,m3,m4,m5,m6,m7,m8,m9,m10,m11,m12,m13⟩,m14,m15,m16,m17,m18,m19,m20,m21,m22⟩:Mat)).ls)=some [.bool true]:=Qg hN ok.fit hl pp;have sr:Gw N ((HJ (⟨⟨m0,m1,m2,m3,m4,m5,m6,m7,m8,m9,m10,m11,m12,m13⟩,m14,m15,m16,m17,m18,m19,m20,m21,m22⟩:Mat)).ls++(HJ (⟨⟨m0,m1,m2,m3,m4,m5,m6,m7,m8,m9,m10,m11,m12,m13⟩,m14,m15,m16,m17,m18,m19,m20,m21,m22⟩:Mat)).ls)=some [.bool true]:=Tw hN ok.fit hl pp;show QR (BC N) _=_;unfold QR;simp only [IQ,Ji,IW,HX,IA,JE,ha,hw,Option.bind_some,dP,cm,cr,Z2,sm,sr];rfl
end Go.Px
end
section
namespace Go.Proofs
open Go.Shelf
def Tryz.lays156_ren:Go.Shelf.Ren:=⟨fun | 156=>32 | 165=>67 | 166=>68 | 169=>69 | 240=>85 | 241=>86 | 276=>96 | 277=>97 | n=>n,fun | 31=>75 | 9=>9 | 3=>3 | 4=>4 | 0=>0 | 20=>20 | 72=>117 | 76=>121 | 70=>114 | 37=>115 | 75=>120 | 127=>139 | 164=>142 | 5=>5 | 80=>123 | n=>n,fun | n=>n⟩
theorem Tryz.lays156:Go.Proofs.Lays.n156 Tryz.prog Tryz.lays156_ren:={
  mixed:=by kernel_rfl
  f156:=Tryz.func32.trans (congrArg some (by kernel_rfl))
  f165:=Tryz.func67.trans (congrArg some (by kernel_rfl))
  f166:=Tryz.func68.trans (congrArg some (by kernel_rfl))
  f169:=Tryz.func69.trans (congrArg some (by kernel_rfl))
  f240:=Tryz.func85.trans (congrArg some (by kernel_rfl))
  f241:=Tryz.func86.trans (congrArg some (by kernel_rfl))
  f276:=Tryz.func96.trans (congrArg some (by kernel_rfl))
  f277:=Tryz.func97.trans (congrArg some (by kernel_rfl))
  t0:=Tryz.underlying0
  a0:=Tryz.isAgg0
  z0:=Tryz.sizeOf0
  v0:=Tryz.zeroValue0
  t3:=Tryz.underlying3
  a3:=Tryz.isAgg3
  z3:=Tryz.sizeOf3
  v3:=Tryz.zeroValue3
  t4:=Tryz.underlying4
  a4:=Tryz.isAgg4
  z4:=Tryz.sizeOf4
  v4:=Tryz.zeroValue4
  t9:=Tryz.underlying9
  a9:=Tryz.isAgg9
  z9:=Tryz.sizeOf9
  v9:=Tryz.zeroValue9
  t20:=Tryz.underlying20
  a20:=Tryz.isAgg20
  z20:=Tryz.sizeOf20
  v20:=Tryz.zeroValue20
  t31:=Tryz.underlying75
  a31:=Tryz.isAgg75
  z31:=Tryz.sizeOf75
  v31:=Tryz.zeroValue75
  t37:=Tryz.underlying115
  a37:=Tryz.isAgg115
  z37:=Tryz.sizeOf115
  v37:=Tryz.zeroValue115
  t70:=Tryz.underlying114
  a70:=Tryz.isAgg114
  z70:=Tryz.sizeOf114
  v70:=Tryz.zeroValue114
  t72:=Tryz.underlying117
  a72:=Tryz.isAgg117
  z72:=Tryz.sizeOf117
  v72:=Tryz.zeroValue117
  t75:=Tryz.underlying120
  a75:=Tryz.isAgg120
  z75:=Tryz.sizeOf120
  v75:=Tryz.zeroValue120
  t76:=Tryz.underlying121
  a76:=Tryz.isAgg121
  z76:=Tryz.sizeOf121
  v76:=Tryz.zeroValue121
  t127:=Tryz.underlying139
  a127:=Tryz.isAgg139
  z127:=Tryz.sizeOf139
  v127:=Tryz.zeroValue139
  t164:=Tryz.underlying142
  a164:=Tryz.isAgg142
  z164:=Tryz.sizeOf142
  v164:=Tryz.zeroValue142 }
theorem Tryz.Builder_Extra_156:Builder.Extra Tryz.prog Tryz.lays156_ren:={
  sizeBuilder:=by kernel_rfl
  liesBuilder:=by kernel_rfl
  t5:=Tryz.underlying5
  a5:=Tryz.isAgg5
  z5:=Tryz.sizeOf5
  v5:=Tryz.zeroValue5
  infoByte:=by kernel_rfl
  cellsByte:=by kernel_rfl
  sizeByte:=by kernel_rfl
  neB5:=by decide }
open Go.RowKit in
theorem Tryz.strings_Join_none (a : Option Addr) (c : Nat) (sep : ByteArray) (w : World) :
    Calls Tryz.prog 32 #[.slice a 0 c,.string sep] w fun e w'=>e=.returned (.string ⟨#[]⟩)∧w'=w:=Any.strings_Join_none Tryz.lays156 Tryz.Builder_Extra_156 a c sep w
open Go.RowKit in
theorem Tryz.strings_Join (bk o c : Nat) (xs : List ByteArray) (sep : ByteArray) (w : World) (hcells : ∀ (j : Nat) x, xs[j]? = some x → w.cell? ⟨bk, o + j, none⟩ = some (.string x)) (hbk : bk < w.heap.size) (hN : xs.length ≤ 140737488355328) (hcap : xs.length ≤ c) (hlen : (Lib.join (xs.map (·.data.toList)) sep.data.toList).length ≤ 140737488355328) :
    Calls Tryz.prog 32 #[.slice (some ⟨bk,o,none⟩) xs.length c,.string sep] w fun e w'=>e=.returned (.string ⟨(Lib.join (xs.map (·.data.toList)) sep.data.toList).toArray⟩)∧Below w.heap.size w w':=Any.strings_Join Tryz.lays156 Tryz.Builder_Extra_156 bk o c xs sep w hcells hbk hN hcap hlen
def Tryz.laysM246_ren:Go.Shelf.Ren:=⟨fun | 246=>95 | 283=>119 | 284=>120 | 285=>121 | 286=>122 | 129=>141 | 317=>140 | 318=>142 | 319=>143 | 320=>144 | 337=>153 | 338=>154 | n=>n,fun | 2=>2 | 3=>3 | 9=>9 | 4=>4 | 171=>157 | 0=>0 | 53=>158 | 37=>115 | 5=>5 | 173=>161 | 212=>177 | 51=>178 | 20=>20 | 213=>179 | 46=>180 | 232=>199 | 233=>200 | n=>n,fun | 17=>1 | 18=>2 | 19=>3 | n=>n⟩
theorem Tryz.laysM246:Go.Proofs.LaysM.n246 Tryz.prog Tryz.laysM246_ren:={
  mixed:=by kernel_rfl
  f129:=Tryz.func141.trans (congrArg some (by kernel_rfl))
  f246:=Tryz.func95.trans (congrArg some (by kernel_rfl))
  f283:=Tryz.func119.trans (congrArg some (by kernel_rfl))
  f284:=Tryz.func120.trans (congrArg some (by kernel_rfl))
  f285:=Tryz.func121.trans (congrArg some (by kernel_rfl))
  f286:=Tryz.func122.trans (congrArg some (by kernel_rfl))
  f317:=Tryz.func140.trans (congrArg some (by kernel_rfl))
  f318:=Tryz.func142.trans (congrArg some (by kernel_rfl))
  f319:=Tryz.func143.trans (congrArg some (by kernel_rfl))
  f320:=Tryz.func144.trans (congrArg some (by kernel_rfl))
  f337:=Tryz.func153.trans (congrArg some (by kernel_rfl))
  f338:=Tryz.func154.trans (congrArg some (by kernel_rfl))
  t0:=Tryz.underlying0
  a0:=Tryz.isAgg0
  z0:=Tryz.sizeOf0
  v0:=Tryz.zeroValue0
  t2:=Tryz.underlying2
  a2:=Tryz.isAgg2
  z2:=Tryz.sizeOf2
  v2:=Tryz.zeroValue2
  t3:=Tryz.underlying3
  a3:=Tryz.isAgg3
  z3:=Tryz.sizeOf3
  v3:=Tryz.zeroValue3
  t4:=Tryz.underlying4
  a4:=Tryz.isAgg4
  z4:=Tryz.sizeOf4
  v4:=Tryz.zeroValue4
  t5:=Tryz.underlying5
  a5:=Tryz.isAgg5
  z5:=Tryz.sizeOf5
  v5:=Tryz.zeroValue5
  t9:=Tryz.underlying9
  a9:=Tryz.isAgg9
  z9:=Tryz.sizeOf9
  v9:=Tryz.zeroValue9
  t20:=Tryz.underlying20
  a20:=Tryz.isAgg20
  z20:=Tryz.sizeOf20
  v20:=Tryz.zeroValue20
  t37:=Tryz.underlying115
  a37:=Tryz.isAgg115
  z37:=Tryz.sizeOf115
  v37:=Tryz.zeroValue115
  t46:=Tryz.underlying180
  a46:=Tryz.isAgg180
  z46:=Tryz.sizeOf180
  v46:=Tryz.zeroValue180
  t51:=Tryz.underlying178
  a51:=Tryz.isAgg178
  z51:=Tryz.sizeOf178
  v51:=Tryz.zeroValue178
  t53:=Tryz.underlying158
  a53:=Tryz.isAgg158
  z53:=Tryz.sizeOf158
  v53:=Tryz.zeroValue158
  t171:=Tryz.underlying157
  a171:=Tryz.isAgg157
  z171:=Tryz.sizeOf157
  v171:=Tryz.zeroValue157
  t173:=Tryz.underlying161
  a173:=Tryz.isAgg161
  z173:=Tryz.sizeOf161
  v173:=Tryz.zeroValue161
  t212:=Tryz.underlying177
  a212:=Tryz.isAgg177
  z212:=Tryz.sizeOf177
  v212:=Tryz.zeroValue177
  t213:=Tryz.underlying179
  a213:=Tryz.isAgg179
  z213:=Tryz.sizeOf179
  t232:=Tryz.underlying199
  a232:=Tryz.isAgg199
  z232:=Tryz.sizeOf199
  v232:=Tryz.zeroValue199
  t233:=Tryz.underlying200
  a233:=Tryz.isAgg200
  z233:=Tryz.sizeOf200
  v233:=Tryz.zeroValue200
  g17:=by kernel_rfl
  g18:=by kernel_rfl
  g19:=by kernel_rfl
  i0:=by kernel_rfl
  i2:=by kernel_rfl
  i3:=by kernel_rfl
  i4:=by kernel_rfl
  i5:=by kernel_rfl
  i9:=by kernel_rfl
  i20:=by kernel_rfl
  i37:=by kernel_rfl
  i46:=by kernel_rfl
  i51:=by kernel_rfl
  i53:=by kernel_rfl
  i171:=by kernel_rfl
  i173:=by kernel_rfl
  i212:=by kernel_rfl
  i232:=by kernel_rfl
  i233:=by kernel_rfl
  m17:=by kernel_rfl
  m18:=by kernel_rfl
  m19:=by kernel_rfl }
open Go.RowKit Go.Sort Go.Lib in
theorem Tryz.internal_strconv_FormatInt_10 (n : Int) (h0 : -9223372036854775808 ≤ n) (h1 : n ≤ 9223372036854775807) (w : World) (htab : Lib.TabIs Tryz.prog w "internal/strconv.uint64pow10" .u64 Lib.pow10Tab) :
    Calls Tryz.prog 95 #[.int .i64 n,.int .i64 10] w fun e w'=>e=.returned (.string ⟨(Lib.itoa n).toArray⟩)∧∃ k os,w'=grow (w.drewN k) os:=Any.internal_strconv_FormatInt_10 Tryz.laysM246 n h0 h1 w htab
def Tryz.laysM243_ren:Go.Shelf.Ren:=⟨fun | 243=>83 | 246=>95 | 283=>119 | 284=>120 | 285=>121 | 286=>122 | 129=>141 | 317=>140 | 318=>142 | 319=>143 | 320=>144 | 337=>153 | 338=>154 | n=>n,fun | 3=>3 | 9=>9 | 2=>2 | 4=>4 | 171=>157 | 0=>0 | 53=>158 | 37=>115 | 5=>5 | 173=>161 | 212=>177 | 51=>178 | 20=>20 | 213=>179 | 46=>180 | 232=>199 | 233=>200 | n=>n,fun | 17=>1 | 18=>2 | 19=>3 | n=>n⟩
theorem Tryz.laysM243:Go.Proofs.LaysM.n243 Tryz.prog Tryz.laysM243_ren:={
  mixed:=by kernel_rfl
  f129:=Tryz.func141.trans (congrArg some (by kernel_rfl))
  f243:=Tryz.func83.trans (congrArg some (by kernel_rfl))
  f246:=Tryz.func95.trans (congrArg some (by kernel_rfl))
  f283:=Tryz.func119.trans (congrArg some (by kernel_rfl))
  f284:=Tryz.func120.trans (congrArg some (by kernel_rfl))
  f285:=Tryz.func121.trans (congrArg some (by kernel_rfl))
  f286:=Tryz.func122.trans (congrArg some (by kernel_rfl))
  f317:=Tryz.func140.trans (congrArg some (by kernel_rfl))
  f318:=Tryz.func142.trans (congrArg some (by kernel_rfl))
  f319:=Tryz.func143.trans (congrArg some (by kernel_rfl))
  f320:=Tryz.func144.trans (congrArg some (by kernel_rfl))
  f337:=Tryz.func153.trans (congrArg some (by kernel_rfl))
  f338:=Tryz.func154.trans (congrArg some (by kernel_rfl))
  t0:=Tryz.underlying0
  a0:=Tryz.isAgg0
  z0:=Tryz.sizeOf0
  v0:=Tryz.zeroValue0
  t2:=Tryz.underlying2
  a2:=Tryz.isAgg2
  z2:=Tryz.sizeOf2
  v2:=Tryz.zeroValue2
  t3:=Tryz.underlying3
  a3:=Tryz.isAgg3
  z3:=Tryz.sizeOf3
  v3:=Tryz.zeroValue3
  t4:=Tryz.underlying4
  a4:=Tryz.isAgg4
  z4:=Tryz.sizeOf4
  v4:=Tryz.zeroValue4
  t5:=Tryz.underlying5
  a5:=Tryz.isAgg5
  z5:=Tryz.sizeOf5
  v5:=Tryz.zeroValue5
  t9:=Tryz.underlying9
  a9:=Tryz.isAgg9
  z9:=Tryz.sizeOf9
  v9:=Tryz.zeroValue9
  t20:=Tryz.underlying20
  a20:=Tryz.isAgg20
  z20:=Tryz.sizeOf20
  v20:=Tryz.zeroValue20
  t37:=Tryz.underlying115
  a37:=Tryz.isAgg115
  z37:=Tryz.sizeOf115
  v37:=Tryz.zeroValue115
  t46:=Tryz.underlying180
  a46:=Tryz.isAgg180
  z46:=Tryz.sizeOf180
  v46:=Tryz.zeroValue180
  t51:=Tryz.underlying178
  a51:=Tryz.isAgg178
  z51:=Tryz.sizeOf178
  v51:=Tryz.zeroValue178
  t53:=Tryz.underlying158
  a53:=Tryz.isAgg158
  z53:=Tryz.sizeOf158
  v53:=Tryz.zeroValue158
  t171:=Tryz.underlying157
  a171:=Tryz.isAgg157
  z171:=Tryz.sizeOf157
  v171:=Tryz.zeroValue157
  t173:=Tryz.underlying161
  a173:=Tryz.isAgg161
  z173:=Tryz.sizeOf161
  v173:=Tryz.zeroValue161
  t212:=Tryz.underlying177
  a212:=Tryz.isAgg177
  z212:=Tryz.sizeOf177
  v212:=Tryz.zeroValue177
  t213:=Tryz.underlying179
  a213:=Tryz.isAgg179
  z213:=Tryz.sizeOf179
  t232:=Tryz.underlying199
  a232:=Tryz.isAgg199
  z232:=Tryz.sizeOf199
  v232:=Tryz.zeroValue199
  t233:=Tryz.underlying200
  a233:=Tryz.isAgg200
  z233:=Tryz.sizeOf200
  v233:=Tryz.zeroValue200
  g17:=by kernel_rfl
  g18:=by kernel_rfl
  g19:=by kernel_rfl
  i0:=by kernel_rfl
  i2:=by kernel_rfl
  i3:=by kernel_rfl
  i4:=by kernel_rfl
  i5:=by kernel_rfl
  i9:=by kernel_rfl
  i20:=by kernel_rfl
  i37:=by kernel_rfl
  i46:=by kernel_rfl
  i51:=by kernel_rfl
  i53:=by kernel_rfl
  i171:=by kernel_rfl
  i173:=by kernel_rfl
  i212:=by kernel_rfl
  i232:=by kernel_rfl
  i233:=by kernel_rfl
  m17:=by kernel_rfl
  m18:=by kernel_rfl
  m19:=by kernel_rfl }
open Go.RowKit Go.Sort Go.Lib in
theorem Tryz.internal_strconv_Itoa (n : Int) (h0 : -9223372036854775808 ≤ n) (h1 : n ≤ 9223372036854775807) (w : World) (htab : Lib.TabIs Tryz.prog w "internal/strconv.uint64pow10" .u64 Lib.pow10Tab) :
    Calls Tryz.prog 83 #[.int .i64 n] w fun e w'=>e=.returned (.string ⟨(Lib.itoa n).toArray⟩)∧∃ k os,w'=grow (w.drewN k) os:=Any.internal_strconv_Itoa Tryz.laysM243 n h0 h1 w htab
end Go.Proofs
end
