/- Part 15. -/
import Derived.Test.YtkeljoongnpppaaGreatDoorPart14
set_option linter.unusedVariables false
set_option linter.unusedSimpArgs false
variable {r1 r2 r3 r4 r5 r6 r7 r9 r10 r11 r12:Int}
section
namespace Go.Px
set_option maxRecDepth 100000
def opn (L:Rows):Nat→Nat
 | 0=>0
 | n+1=>opn L n+cond ((evR L n).kind==2) 1 0
theorem ST (L:Rows) (n:Nat):opn L n≤opn L (n+1):=by
 show opn L n≤opn L n+_;exact Nat.le_add_right _ _
theorem GG (L:Rows) {i:Nat}:∀ {j:Nat},i≤j→opn L i≤opn L j
 | 0,h=>by rw [Nat.le_zero.1 h];exact Nat.le_refl _
 | j+1,h=>by
  by_cases e:i=j+1
  ·rw [e];exact Nat.le_refl _
  ·exact Nat.le_trans (GG L (by omega)) (ST L j)
def Dc (L:Rows):Nat→Option Int
 | 0=>none
 | n+1=>match Dc L n with
  | some v=>some v
  | none=>cond ((evR L n).kind==1) (some (RI (evR L n))) none
theorem UL {L:Rows} {v:Int} {i:Nat} (h:Dc L i=some v):∀ {j:Nat},i≤j→Dc L j=some v
 | 0,hj=>by rw [Nat.le_zero.1 hj] at h;exact h
 | j+1,hj=>by
  by_cases e:i=j+1
  ·rw [← e];exact h
  ·unfold Dc;rw [UL h (show i≤j by omega)]
def Di (L:Rows):Nat→Bool
 | 0=>false
 | n+1=>Di L n||((evR L n).kind==12&&(evR L n).yes)
def had (L:Rows):Nat→Bool
 | 0=>false
 | n+1=>had L n||(evR L n).kind==12
theorem oG {L:Rows}:∀ n,had L n=false→Di L n=false
 | 0,_=>rfl
 | n+1,h=>by
  unfold had at h;unfold Di;rw [Bool.or_eq_false_iff] at h;rw [oG n h.1,h.2];rfl
structure LogI (L:Rows) (i:Nat) (m:Mat):Prop where
 len:m.inns.length=opn L i
 fs:∀ v,Dc L i=some v→m.first=v∧¬ m.stage=1
 fn:Dc L i=none→m.first=0
 fol:m.follow=Di L i
 k12:had L i=true→(m.inns.length=2∧(m.stage=2∨m.stage=5))∨3≤m.inns.length
structure EvF (L:Rows) (i:Nat):Prop where
 two:((evR L i).kind==2)=true→opn L i≤3∧∃ v,Dc L i=some v∧(v=1∨v=2)
 twelve:((evR L i).kind==12)=true→opn L i=2
 play:((evR L i).kind==1)=false→((evR L i).kind==2)=false→((evR L i).kind==12)=false→((evR L i).kind==16)=false→1≤opn L i
theorem tS (s:Int) (T:TS):(WE s T).xs.length=T.xs.length∧(WE s T).first=T.first∧(WE s T).follow=T.follow:=by
 unfold WE;cases Bk (fun k=>(sco T.xs k).side) s T.xs.length with
 | none=>exact ⟨rfl,rfl,rfl⟩
 | some k=>exact ⟨List.length_set,rfl,rfl⟩
theorem pX (r:Rul) (e:Ev) (T:TS):(TQ r e T).xs.length=T.xs.length+cond (e.kind==2) 1 0∧(TQ r e T).first=cond (e.kind==1) (RI e) T.first∧(TQ r e T).follow=cond (e.kind==12) e.yes T.follow:=by
 unfold TQ;cases k1:e.kind==1 with
 | true =>
  rw [beq_iff_eq.1 k1];exact ⟨rfl,rfl,rfl⟩
 | false =>
  cases k2:e.kind==2 with
  | true =>
   rw [beq_iff_eq.1 k2];refine ⟨?_,rfl,rfl⟩;show (T.xs++[_]).length=_;rw [List.length_append];rfl
  | false =>
   cases k12:e.kind==12 with
   | true=>exact ⟨rfl,rfl,rfl⟩
   | false =>
    cases k16:e.kind==16 with
    | true=>exact ⟨rfl,rfl,rfl⟩
    | false =>
     cases k13:e.kind==13 with
     | true=>exact tS e.side T
     | false=>exact ⟨List.length_set,rfl,rfl⟩
theorem tX {L:Rows} {i:Nat} {m:Mat} (h:LogI L i m) (ha:((Dk m (evR L i)).2==0)=true):LogI L (i+1) (Dk m (evR L i)).1∧EvF L i:=by
 obtain ⟨ab,sg⟩:=lP ha;obtain ⟨hv,he,h5,hp,hs⟩:=bX ha;have vp:=cO hv;obtain ⟨t1,t2,t3⟩:=pX m.rules (evR L i) (Ef m);rw [← ab] at t1 t2 t3;have x1:∀ z:Mat,(Ef z).xs.length=z.inns.length:=fun z=>List.length_map _
 rw [x1,x1] at t1;change (Dk m (evR L i)).1.first=cond ((evR L i).kind==1) (RI (evR L i)) m.first at t2;change (Dk m (evR L i)).1.follow=cond ((evR L i).kind==12) (evR L i).yes m.follow at t3;have no12:((evR L i).kind==12)=true→had L i=false:=fun k=>by
  obtain ⟨s1,s2,s3⟩:=sg.k12 k;cases hh:had L i with
  | false=>rfl
  | true=>rcases h.k12 hh with ⟨_,q | q⟩ | q<;>omega
 have no5:¬ m.stage=5:=beq_eq_false_iff_ne.1 h5;refine ⟨⟨?_,?_,?_,?_,?_⟩,⟨?_,?_,?_⟩⟩
 ·rw [t1,h.len];rfl
 ·intro v hv2;refine ⟨?_,sg.not1⟩;rw [t2];unfold Dc at hv2;cases hf:Dc L i with
  | some w =>
   rw [hf] at hv2;cases hv2;obtain ⟨f1,f2⟩:=h.fs _ hf;cases k1:(evR L i).kind==1 with
   | true=>exact absurd (sg.k1 k1).1 f2
   | false=>exact f1
  | none =>
   rw [hf] at hv2;cases k1:(evR L i).kind==1 with
   | true =>
    simp only [k1,cond_true] at hv2;cases hv2;rfl
   | false =>
    simp only [k1,cond_false] at hv2;cases hv2
 ·intro hn;rw [t2];unfold Dc at hn;cases hf:Dc L i with
  | some w=>rw [hf] at hn;cases hn
  | none =>
   rw [hf] at hn;cases k1:(evR L i).kind==1 with
   | true =>
    simp only [k1,cond_true] at hn;cases hn
   | false=>exact h.fn hf
 ·rw [t3];unfold Di;cases k12:(evR L i).kind==12 with
  | true=>rw [oG i (no12 k12)];rfl
  | false=>rw [h.fol,Bool.false_and,Bool.or_false];rfl
 ·intro hh;rw [t1];unfold had at hh;cases k12:(evR L i).kind==12 with
  | true =>
   obtain ⟨s1,s2,s3⟩:=sg.k12 k12;rw [beq_iff_eq.1 k12];exact Or.inl ⟨s2,Or.inl s3⟩
  | false =>
   rw [k12,Bool.or_false] at hh
   rcases h.k12 hh with ⟨q1,q2⟩ | q
   ·cases k2:(evR L i).kind==2 with
    | true=>exact Or.inr (by simp only [cond_true];omega)
    | false =>
     refine Or.inl ⟨q1,?_⟩;cases k16:(evR L i).kind==16 with
     | true=>exact Or.inr (sg.k16 k16)
     | false =>
      cases k1:(evR L i).kind==1 with
      | true=>have:=(sg.k1 k1).1;omega
      | false=>have:=(sg.play k1 k2 k12 k16).1;omega
   ·exact Or.inr (Nat.le_trans q (Nat.le_add_right _ _))
 ·intro k2;obtain ⟨s1,s2⟩:=sg.k2 k2;refine ⟨by rw [← h.len];exact s2,?_⟩;have tk:=(Yl hv).toss (by rw [s1];rfl);cases hf:Dc L i with
  | none=>have:=h.fn hf;omega
  | some w=>exact ⟨w,rfl,by rw [← (h.fs w hf).1];exact tk⟩
 ·intro k;rw [← h.len];exact (sg.k12 k).2.1
 ·intro a b c d;rw [← h.len];exact (sg.play a b c d).2
theorem oL {r:Rul} (h:((A8 r).2==0)=true):(A8 r).1=⟨r,1,0,false,[],0,0,0,0,0⟩∧A5 r=0:=by
 unfold A8 at h ⊢;cases hc:A5 r==0 with
 | false=>rw [hc] at h;exact absurd (show (A5 r==0)=true from h) (by rw [hc];decide)
 | true=>exact ⟨rfl,beq_iff_eq.1 hc⟩
theorem OB {r:Rul} {L:Rows} {n:Nat} (hc:((A8 r).2==0)=true) (ha:acc L n 0 (A8 r).1):∀ i,i≤n→LogI L i (stM L i 0 (A8 r).1)∧StepOk r (stM L i 0 (A8 r).1)∧∀ j,j<i→Ef (stM L (j+1) 0 (A8 r).1)=TQ r (evR L j) (Ef (stM L j 0 (A8 r).1))∧EvF L j
 | 0,_=>by
  refine ⟨?_,gP r hc,fun j hj=>absurd hj (Nat.not_lt_zero j)⟩;show LogI L 0 (A8 r).1;rw [(oL hc).1];exact ⟨rfl,fun v h=>(by cases h),fun _=>rfl,rfl,fun h=>(by cases h)⟩
 | i+1,hi=>by
  obtain ⟨h1,h2,h3⟩:=OB hc ha i (by omega);have a0:=qj n 0 _ ha i (by omega);have s0:=mB (L:=L) i 0 (A8 r).1;rw [Nat.zero_add] at a0 s0;have q:=(rm a0).1;rw [q] at s0 a0;obtain ⟨l1,l2⟩:=tX h1 a0;rw [s0];refine ⟨l1,by rw [← q];exact aX h2 _ _,fun j hj=>?_⟩
  by_cases e:j=i
  ·subst e;rw [s0];refine ⟨?_,l2⟩;rw [(lP a0).1,h2.rules]
  ·exact h3 j (by omega)
def sdF (L:Rows) (n:Nat) (j:Nat):Int:=Jw ((Dc L n).getD 1) (Di L n) (j:Int)
theorem lW {L:Rows} {i:Nat}:∀ n,i≤n→(∀ j,i≤j→j<n→((evR L j).kind==12)=false)→Di L n=Di L i
 | 0,h,_=>by rw [Nat.le_zero.1 h]
 | n+1,h,hk=>by
  by_cases e:i=n+1
  ·rw [e]
  ·have:Di L (n+1)=Di L n:=by
    show (Di L n||((evR L n).kind==12&&_))=_;rw [hk n (by omega) (Nat.lt_succ_self n),Bool.false_and,Bool.or_false]
   rw [this];exact lW n (by omega) (fun j h1 h2=>hk j h1 (by omega))
theorem uh (f:Int) (a b:Bool) {j:Nat} (h:j<2):Jw f a (j:Int)=Jw f b (j:Int):=by
 have:iLe 2 (j:Int)=false:=by simp only [iLe,decide_eq_false_iff_not];omega
 unfold Jw;rw [this,Bool.and_false,Bool.and_false]
theorem vX {r : Rul} {L : Rows} {n i : Nat} (hc : ((A8 r).2 == 0) = true) (ha : acc L n 0 (A8 r).1) (hi : i < n) (hk : ((evR L i).kind == 2) = true) :
    Jw (stM L i 0 (A8 r).1).first (stM L i 0 (A8 r).1).follow (opn L i:Int)=sdF L n (opn L i)∧(sdF L n (opn L i)=1∨sdF L n (opn L i)=2):=by
  obtain ⟨h1,_,_⟩:=OB hc ha i (by omega);obtain ⟨_,_,h3⟩:=OB hc ha n (Nat.le_refl n);obtain ⟨e1,v,e2,e3⟩:=(h3 i hi).2.two hk;have f1:=(h1.fs v e2).1;have f2:=UL e2 (show i≤n by omega);have main:Jw (stM L i 0 (A8 r).1).first (stM L i 0 (A8 r).1).follow (opn L i:Int)=sdF L n (opn L i):=by
    unfold sdF;rw [f1,f2,h1.fol];show Jw v _ _=Jw v _ _
    by_cases h2:opn L i<2
    · exact uh _ _ _ h2
    · rw [lW (i:=i) n (by omega)];intro j j1 j2;cases k12:(evR L j).kind==12 with
      | false=>rfl
      | true =>
        have o2:=(h3 j j2).2.twelve k12
        by_cases e:j=i
        · subst e;rw [beq_iff_eq.1 hk] at k12;cases k12
        · have:=GG L (show i+1≤j by omega);have o3:opn L (i+1)=opn L i+1:=by show opn L i+cond ((evR L i).kind==2) 1 0=_;rw [hk];rfl
          omega
  refine ⟨main,?_⟩;rw [← main,f1];unfold Jw;cases cond ((stM L i 0 (A8 r).1).follow&&iLe 2 (opn L i:Int)) ((opn L i:Int)==2) ((opn L i:Int).tmod 2==1) with
  | false=>exact e3
  | true=>rcases e3 with h | h<;>rw [h]<;>decide
def smi (L:Rows) (f:Ev→Int) (j:Nat):Nat→Int
 | 0=>0
 | n+1=>smi L f j n+cond (Nat.beq (opn L (n+1)) (j+1)) (f (evR L n)) 0
theorem kz (L:Rows) (f:Ev→Int) (j n:Nat):smi L f j (n+1)=smi L f j n+cond (Nat.beq (opn L (n+1)) (j+1)) (f (evR L n)) 0:=rfl
theorem Xa {a b:Nat} (h:¬ a=b):Nat.beq a b=false:=by
 cases hq:Nat.beq a b with
 | false=>rfl
 | true=>exact absurd (Nat.eq_of_beq_eq_true hq) h
theorem Uh (a:Nat):Nat.beq a a=true:=Nat.beq_refl a
theorem aZ {L:Rows} {f:Ev→Int} {j:Nat}:∀ n,opn L n≤j→smi L f j n=0
 | 0,_=>rfl
 | n+1,h=>by
  have:=ST L n;unfold smi;rw [aZ n (by omega),Xa (by omega)];rfl
def Nw (sd:Nat→Int) (s:Int):Nat→Nat→Option Nat
 | 0,_=>none
 | c+1,i=>cond (sd i==s) (some i) (Nw sd s c (i+1))
theorem RS {sd:Nat→Int} {s:Int} {j:Nat}:∀ c i,Nw sd s c i=some j→i≤j∧j<i+c∧sd j=s∧∀ k,i≤k→k<j→¬ sd k=s
 | 0,_,h=>by cases h
 | c+1,i,h=>by
  unfold Nw at h;cases hq:sd i==s with
  | true =>
   rw [hq] at h;cases h;exact ⟨Nat.le_refl _,by omega,beq_iff_eq.1 hq,fun k h1 h2=>by omega⟩
  | false =>
   rw [hq] at h;obtain ⟨h1,h2,h3,h4⟩:=RS c (i+1) h;refine ⟨by omega,by omega,h3,fun k k1 k2=>?_⟩
   by_cases e:k=i
   ·subst e;exact beq_eq_false_iff_ne.1 hq
   ·exact h4 k (by omega) k2
theorem sI {sd:Nat→Int} {s:Int} {k:Nat} (hs:sd k=s):∀ c i,i≤k→k<i+c→∃ j,Nw sd s c i=some j∧j≤k
 | 0,_,h1,h2=>absurd h2 (by omega)
 | c+1,i,h1,h2=>by
  unfold Nw;cases hq:sd i==s with
  | true=>exact ⟨i,rfl,h1⟩
  | false =>
   have:¬ i=k:=fun e=>by subst e;exact beq_eq_false_iff_ne.1 hq hs
   exact sI hs c (i+1) (by omega) (by omega)
def C2 (sd:Nat→Int) (n k:Nat) (s:Int):Option Nat:=match Bk sd s (k+1) with
 | some j=>some j
 | none=>Nw sd s (n - (k+1)) (k+1)
theorem kP {sd:Nat→Int} {n k j:Nat} {s:Int} (h:C2 sd n k s=some j):sd j=s∧(j≤k∨(k<j∧j<n∧Bk sd s (k+1)=none)):=by
 unfold C2 at h;cases hb:Bk sd s (k+1) with
 | some w =>
  rw [hb] at h;cases h;have:=JA _ hb;exact ⟨this.2,Or.inl (by omega)⟩
 | none =>
  rw [hb] at h;obtain ⟨h1,h2,h3,h4⟩:=RS _ _ h;exact ⟨h3,Or.inr ⟨by omega,by omega,rfl⟩⟩
def isS (o:Option Nat) (j:Nat):Bool:=match o with
 | some k=>Nat.beq k j
 | none=>false
theorem ZI {o:Option Nat} {j:Nat}:isS o j=true↔o=some j:=by
 cases o with
 | none=>exact ⟨fun h=>(by cases h),fun h=>(by cases h)⟩
 | some k=>exact ⟨fun h=>(by rw [Nat.eq_of_beq_eq_true h]),fun h=>(by cases h;exact Uh j)⟩
def pnS (L:Rows) (sd:Nat→Int) (n j:Nat):Nat→Int
 | 0=>0
 | i+1=>pnS L sd n j i+cond ((evR L i).kind==13&&isS (C2 sd n (opn L (i+1) - 1) (evR L i).side) j) 5 0
theorem Uy (L:Rows) (sd:Nat→Int) (n j i:Nat):pnS L sd n j (i+1)=pnS L sd n j i+cond ((evR L i).kind==13&&isS (C2 sd n (opn L (i+1) - 1) (evR L i).side) j) 5 0:=rfl
def pcS (L:Rows) (s:Int):Nat→Int
 | 0=>0
 | i+1=>pcS L s i+cond ((evR L i).kind==13&&(evR L i).side==s) 5 0
def Ei (L:Rows) (sd:Nat→Int) (s:Int) (k i:Nat):Int:=match Bk sd s k with
 | some _=>0
 | none=>pcS L s i
theorem ny {L:Rows} {sd:Nat→Int} {n k:Nat} (hn:k<n):∀ i,(∀ j,j<i→((evR L j).kind==13)=true→1≤opn L (j+1))→opn L i≤k→pnS L sd n k i=Ei L sd (sd k) k i
 | 0,_,_=>by unfold Ei;cases Bk sd (sd k) k<;>rfl
 | i+1,h,hk=>by
  have ih:=ny (sd:=sd) hn i (fun j hj=>h j (by omega)) (Nat.le_trans (ST L i) hk);unfold pnS;rw [ih];unfold Ei;cases k13:(evR L i).kind==13 with
  | false =>
   rw [Bool.false_and,cond_false,Int.add_zero];cases Bk sd (sd k) k with
   | some _=>rfl
   | none =>
    show pcS L (sd k) i=pcS L (sd k) i+cond ((evR L i).kind==13&&_) 5 0;rw [k13,Bool.false_and,cond_false,Int.add_zero]
  | true =>
   have o1:=h i (Nat.lt_succ_self i) k13;rw [Bool.true_and]
   by_cases es:(evR L i).side=sd k
   ·cases hb:Bk sd (sd k) k with
    | some w =>
     have bw:=JA _ hb;have:isS (C2 sd n (opn L (i+1) - 1) (evR L i).side) k=false:=by
      cases hq:isS (C2 sd n (opn L (i+1) - 1) (evR L i).side) k with
      | false=>rfl
      | true =>
       exfalso
       have hd:=ZI.1 hq;rw [es] at hd;unfold C2 at hd;rw [show opn L (i+1) - 1+1=opn L (i+1) by omega] at hd;cases hb2:Bk sd (sd k) (opn L (i+1)) with
       | some z =>
        rw [hb2] at hd;cases hd;have:=(JA _ hb2).1;omega
       | none =>
        rw [hb2] at hd;have nb:=YN _ hb2;have f4:=(RS _ _ hd).2.2.2 w
        by_cases hw:w<opn L (i+1)
        ·exact nb w hw bw.2
        ·exact f4 (by omega) bw.1 bw.2
     rw [this];rfl
    | none =>
     have nb:=YN _ hb;have:isS (C2 sd n (opn L (i+1) - 1) (evR L i).side) k=true:=by
      rw [ZI,es];unfold C2;rw [show opn L (i+1) - 1+1=opn L (i+1) by omega];cases hb2:Bk sd (sd k) (opn L (i+1)) with
      | some z =>
       have:=JA _ hb2;exact absurd this.2 (nb z (by omega))
      | none =>
       obtain ⟨j,j1,j2⟩:=sI (sd:=sd) (s:=sd k) (k:=k) rfl (n - opn L (i+1)) (opn L (i+1)) hk (by omega);have:=RS _ _ j1
       by_cases e:j=k
       ·subst e;exact j1
       ·exact absurd this.2.2.1 (nb j (by omega))
     rw [this];show pcS L (sd k) i+_=pcS L (sd k) i+cond ((evR L i).kind==13&&(evR L i).side==sd k) 5 0;rw [k13,es,beq_self_eq_true];rfl
   ·have:isS (C2 sd n (opn L (i+1) - 1) (evR L i).side) k=false:=by
     cases hq:isS (C2 sd n (opn L (i+1) - 1) (evR L i).side) k with
     | false=>rfl
     | true=>exact absurd (kP (ZI.1 hq)).1.symm es
    rw [this,cond_false,Int.add_zero];cases Bk sd (sd k) k with
    | some _=>rfl
    | none =>
     show pcS L (sd k) i=pcS L (sd k) i+cond ((evR L i).kind==13&&(evR L i).side==sd k) 5 0;rw [beq_false_of_ne es,Bool.and_false,cond_false,Int.add_zero]
def fi (r:Rul) (e:Ev):Int:=Db (CE r e)
def tD (r:Rul) (e:Ev):Int:=cond (CE r e).counts 1 0
def BI (r:Rul) (L:Rows) (sd:Nat→Int) (n j i:Nat):Sco:=⟨sd j,smi L (fi r) j i+pnS L sd n j i,smi L N7 j i,smi L (tD r) j i,smi L (fun e=>(CE r e).wides) j i,smi L (fun e=>(CE r e).noballs) j i,smi L (fun e=>(CE r e).byes) j i,smi L (fun e=>(CE r e).legbyes) j i,pnS L sd n j i,0⟩
theorem V8 (r:Rul) (L:Rows) (sd:Nat→Int) (n j i:Nat):BI r L sd n j (i+1)=JS (cond ((evR L i).kind==13&&isS (C2 sd n (opn L (i+1) - 1) (evR L i).side) j) 5 0) (cond (Nat.beq (opn L (i+1)) (j+1)) (OE r (evR L i) (BI r L sd n j i)) (BI r L sd n j i)):=by
 unfold BI;simp only [kz,Uy];generalize (cond ((evR L i).kind==13&&isS (C2 sd n (opn L (i+1) - 1) (evR L i).side) j) 5 0:Int)=p;cases Nat.beq (opn L (i+1)) (j+1) with
 | false =>
  unfold JS;simp only [cond_false,Int.add_zero,Int.add_assoc]
 | true =>
  unfold JS OE;simp only [cond_true];rw [Sco.mk.injEq];refine ⟨rfl,?_,rfl,rfl,rfl,rfl,rfl,rfl,rfl,rfl⟩;unfold fi;omega
theorem gt {r:Rul} {L:Rows} {sd:Nat→Int} {n j i:Nat} (h4:((evR L i).kind==4)=false) (h13:((evR L i).kind==13)=false) (ho:B5 (evR L i)=0):BI r L sd n j (i+1)=BI r L sd n j i:=by
 rw [V8,h13,Bool.false_and,cond_false,CB,Lx _ h4 ho];cases Nat.beq (opn L (i+1)) (j+1)<;>rfl
structure Clo (r:Rul) (L:Rows) (sd:Nat→Int) (n i:Nat) (T:TS):Prop where
 len:T.xs.length=opn L i
 at':∀ j,j<opn L i→sco T.xs j=BI r L sd n j i
 p1:T.p1=Ei L sd 1 (opn L i) i
 p2:T.p2=Ei L sd 2 (opn L i) i
theorem GB {L:Rows} {sd:Nat→Int} {s:Int} {k i:Nat} (h:((evR L i).kind==13&&(evR L i).side==s)=false):Ei L sd s k (i+1)=Ei L sd s k i:=by
 unfold Ei;cases Bk sd s k with
 | some _=>rfl
 | none =>
  show pcS L s i+cond ((evR L i).kind==13&&(evR L i).side==s) 5 0=_;rw [h,cond_false,Int.add_zero]
theorem sJ {r:Rul} {L:Rows} {n:Nat} (hc:((A8 r).2==0)=true) (ha:acc L n 0 (A8 r).1):∀ i,i≤n→Clo r L (sdF L n) (opn L n) i (Ef (stM L i 0 (A8 r).1))
 | 0,_=>by
  show Clo r L _ _ 0 (Ef (A8 r).1);rw [(oL hc).1];exact ⟨rfl,fun j hj=>absurd hj (Nat.not_lt_zero j),rfl,rfl⟩
 | i+1,hi=>by
  have ih:=sJ hc ha i (by omega);obtain ⟨_,_,h3⟩:=OB hc ha n (Nat.le_refl n);obtain ⟨hst,hev⟩:=h3 i (by omega);have sat:=vX hc ha (show i<n by omega);have o13:∀ j,j<i→((evR L j).kind==13)=true→1≤opn L (j+1):=fun j hj k13=>by
   have e:=beq_iff_eq.1 k13;have:=(h3 j (by omega)).2.play (by rw [e];rfl) (by rw [e];rfl) (by rw [e];rfl) (by rw [e];rfl);exact Nat.le_trans this (ST L j)
  rw [hst];change ((evR L i).kind==2)=true→Jw (Ef (stM L i 0 (A8 r).1)).first (Ef (stM L i 0 (A8 r).1)).follow (opn L i:Int)=_∧_ at sat;generalize Ef (stM L i 0 (A8 r).1)=T at ih sat;have onx:opn L (i+1)=opn L i+cond ((evR L i).kind==2) 1 0:=rfl;have quiet:((evR L i).kind==2)=false→((evR L i).kind==4)=false→((evR L i).kind==13)=false→B5 (evR L i)=0→∀ T':TS,T'.xs=T.xs→T'.p1=T.p1→T'.p2=T.p2→Clo r L (sdF L n) (opn L n) (i+1) T':=by
   intro a b c d T' t1 t2 t3;rw [a] at onx;change opn L (i+1)=opn L i at onx;have z:∀ s:Int,((evR L i).kind==13&&(evR L i).side==s)=false:=fun s=>by rw [c];rfl
   refine ⟨by rw [onx,t1];exact ih.len,fun j hj=>?_,?_,?_⟩
   ·rw [t1,gt b c d];exact ih.at' j (by omega)
   ·rw [onx,t2,GB (z 1)];exact ih.p1
   ·rw [onx,t3,GB (z 2)];exact ih.p2
  unfold TQ;cases k1:(evR L i).kind==1 with
  | true =>
   have e:=beq_iff_eq.1 k1;exact quiet (by rw [e];rfl) (by rw [e];rfl) (by rw [e];rfl) (by unfold B5;rw [e];rfl) _ rfl rfl rfl
  | false =>
   cases k2:(evR L i).kind==2 with
   | true =>
    have e:=beq_iff_eq.1 k2;have h4:((evR L i).kind==4)=false:=by rw [e];rfl
    have h13:((evR L i).kind==13)=false:=by rw [e];rfl
    have ho:B5 (evR L i)=0:=by unfold B5;rw [e];rfl
    have z:∀ s:Int,((evR L i).kind==13&&(evR L i).side==s)=false:=fun s=>by rw [h13];rfl
    rw [k2] at onx;change opn L (i+1)=opn L i+1 at onx;obtain ⟨sa,sb⟩:=sat k2;have kn:opn L i<opn L n:=by have:=GG L (show i+1≤n by omega);omega
    have pp:=ny (L:=L) (sd:=sdF L n) kn i o13 (Nat.le_refl _);show Clo r L (sdF L n) (opn L n) (i+1) (ja T);unfold ja;simp only [ih.len,sa];refine ⟨by rw [List.length_append,ih.len,onx];rfl,fun j hj=>?_,?_,?_⟩
    ·rw [vo _ _ _ (by rw [ih.len];omega),ih.len,gt h4 h13 ho]
     by_cases hjk:j<opn L i
     ·rw [if_pos hjk];exact ih.at' j hjk
     ·have:j=opn L i:=by omega
      subst this;rw [if_neg hjk];unfold BI kA;simp only [aZ i (Nat.le_refl _),Int.zero_add,pp]
      rcases sb with sb | sb<;>rw [sb]
      ·rw [← ih.p1];rfl
      ·rw [← ih.p2];rfl
    ·rw [onx];show cond (sdF L n (opn L i)==1) 0 T.p1=Ei L (sdF L n) 1 (opn L i+1) (i+1);rw [GB (z 1)];unfold Ei Bk;cases sdF L n (opn L i)==1 with
     | true=>rfl
     | false=>exact ih.p1
    ·rw [onx];show cond (sdF L n (opn L i)==2) 0 T.p2=Ei L (sdF L n) 2 (opn L i+1) (i+1);rw [GB (z 2)];unfold Ei Bk;cases sdF L n (opn L i)==2 with
     | true=>rfl
     | false=>exact ih.p2
   | false =>
    cases k12:(evR L i).kind==12 with
    | true =>
     have e:=beq_iff_eq.1 k12;exact quiet (by rw [e];rfl) (by rw [e];rfl) (by rw [e];rfl) (by unfold B5;rw [e];rfl) _ rfl rfl rfl
    | false =>
     cases k16:(evR L i).kind==16 with
     | true =>
      have e:=beq_iff_eq.1 k16;exact quiet (by rw [e];rfl) (by rw [e];rfl) (by rw [e];rfl) (by unfold B5;rw [e];rfl) _ rfl rfl rfl
     | false =>
      have pl:=hev.play k1 k2 k12 k16;rw [k2] at onx;change opn L (i+1)=opn L i at onx;simp only [cond_false];cases k13:(evR L i).kind==13 with
      | true =>
       have e:=beq_iff_eq.1 k13;have h4:((evR L i).kind==4)=false:=by rw [e];rfl
       have ho:B5 (evR L i)=0:=by unfold B5;rw [e];rfl
       have bk:Bk (fun k=>(sco T.xs k).side) (evR L i).side T.xs.length=Bk (sdF L n) (evR L i).side (opn L i):=by
        rw [ih.len];exact Qk _ (fun k hk=>by rw [ih.at' k hk];rfl)
       have du:C2 (sdF L n) (opn L n) (opn L (i+1) - 1) (evR L i).side=match Bk (sdF L n) (evR L i).side (opn L i) with
        | some j=>some j
        | none=>Nw (sdF L n) (evR L i).side (opn L n - opn L i) (opn L i):=by
        unfold C2;rw [onx,show opn L i - 1+1=opn L i by omega]
       have cs:∀ j,BI r L (sdF L n) (opn L n) j (i+1)=JS (cond (isS (C2 (sdF L n) (opn L n) (opn L (i+1) - 1) (evR L i).side) j) 5 0) (BI r L (sdF L n) (opn L n) j i):=fun j=>by
        rw [V8,k13,Bool.true_and,Lx _ h4 ho];cases Nat.beq (opn L (i+1)) (j+1)<;>rfl
       have pq:∀ s:Int,Bk (sdF L n) (evR L i).side (opn L i)≠none→Ei L (sdF L n) s (opn L i) (i+1)=Ei L (sdF L n) s (opn L i) i:=fun s hs=>by
        by_cases es:(evR L i).side=s
        ·rw [es] at hs;unfold Ei;cases hb:Bk (sdF L n) s (opn L i) with
         | none=>exact absurd hb hs
         | some w=>rfl
        ·exact GB (by rw [beq_false_of_ne es,Bool.and_false])
       show Clo r L (sdF L n) (opn L n) (i+1) (WE (evR L i).side T);unfold WE;rw [bk];cases hb:Bk (sdF L n) (evR L i).side (opn L i) with
       | some w =>
        have wl:=(JA _ hb).1;rw [hb] at du pq;simp only at du;refine ⟨by rw [onx];exact List.length_set.trans ih.len,fun j hj=>?_,?_,?_⟩
        ·rw [cs,du];show sco (T.xs.set w (JS 5 (sco T.xs w))) j=_;rw [Qy _ _ _ _ (by rw [ih.len];omega)]
         by_cases ew:w=j
         ·subst ew;rw [if_pos rfl,ih.at' w wl,show isS (some w) w=true from Uh w];rfl
         ·rw [if_neg ew,show isS (some w) j=false from Xa ew,ih.at' j (by omega),cond_false,CB]
        ·rw [onx,pq 1 (by simp)];exact ih.p1
        ·rw [onx,pq 2 (by simp)];exact ih.p2
       | none =>
        rw [hb] at du;simp only at du;have pc:∀ s:Int,Ei L (sdF L n) s (opn L i) (i+1)=cond ((evR L i).side==s) (Ei L (sdF L n) s (opn L i) i+5) (Ei L (sdF L n) s (opn L i) i):=fun s=>by
         cases es:(evR L i).side==s with
         | false=>rw [GB (by rw [es,Bool.and_false])];rfl
         | true =>
          have e2:=beq_iff_eq.1 es;rw [e2] at hb;unfold Ei;rw [hb];show pcS L s i+cond ((evR L i).kind==13&&(evR L i).side==s) 5 0=_;rw [k13,es];rfl
        refine ⟨by rw [onx];exact ih.len,fun j hj=>?_,?_,?_⟩
        ·have nj:isS (C2 (sdF L n) (opn L n) (opn L (i+1) - 1) (evR L i).side) j=false:=by
          cases hq:isS (C2 (sdF L n) (opn L n) (opn L (i+1) - 1) (evR L i).side) j with
          | false=>rfl
          | true =>
           have:=ZI.1 hq;rw [du] at this;have:=(RS _ _ this).1;omega
         rw [cs,nj,cond_false,CB];exact ih.at' j (by omega)
        ·rw [onx,pc 1,← ih.p1]
        ·rw [onx,pc 2,← ih.p2]
      | false =>
       have z:∀ s:Int,((evR L i).kind==13&&(evR L i).side==s)=false:=fun s=>by rw [k13];rfl
       show Clo r L (sdF L n) (opn L n) (i+1) (jQ r (evR L i) T);unfold jQ;refine ⟨by rw [onx];exact List.length_set.trans ih.len,fun j hj=>?_,?_,?_⟩
       ·show sco (T.xs.set _ _) j=_;rw [Qy _ _ _ _ (by rw [ih.len];omega),V8,k13,Bool.false_and,cond_false,CB,onx,ih.len]
        by_cases ew:opn L i - 1=j
        ·rw [if_pos ew,show opn L i=j+1 by omega,Uh,show j+1 - 1=j by omega,ih.at' j (by omega)];rfl
        ·rw [if_neg ew,Xa (by omega)];exact ih.at' j (by omega)
       ·rw [onx,GB (z 1)];exact ih.p1
       ·rw [onx,GB (z 2)];exact ih.p2
def Sco.ls (s:Sco):List PV:=[.int s.side,.int s.runs,.int s.wickets,.int s.balls,.int s.wides,.int s.noballs,.int s.byes,.int s.legbyes,.int s.pens,.int s.ending]
def Al (xs:List Sco):Rows:=xs.map Sco.ls
def dS:Sco:=⟨0,0,0,0,0,0,0,0,0,0⟩
theorem oQ (xs:List Sco) (i:Nat):AK (Al xs) i=(match xs[i]? with | some s=>s.ls | none=>[]):=by
 unfold AK Al;rw [zzl,List.getElem?_map];cases xs[i]?<;>rfl
theorem mG (xs:List Sco):(Al xs).length=xs.length:=List.length_map _
theorem PXs : (∀ xs : List Sco, (Al xs).length = xs.length) ∧ (∀ (xs : List Sco) (i : Nat), pvI (AB (Al xs) i 0) = (sco xs i).side) ∧ (∀ (xs : List Sco) (i : Nat), pvI (AB (Al xs) i 1) = (sco xs i).runs) ∧ (∀ (xs : List Sco) (i : Nat), pvI (AB (Al xs) i 2) = (sco xs i).wickets) ∧ (∀ (xs : List Sco) (i : Nat), pvI (AB (Al xs) i 3) = (sco xs i).balls) ∧
    (∀ (xs:List Sco) (i:Nat),pvI (AB (Al xs) i 4)=(sco xs i).wides)∧(∀ (xs:List Sco) (i:Nat),pvI (AB (Al xs) i 5)=(sco xs i).noballs)∧(∀ (xs:List Sco) (i:Nat),pvI (AB (Al xs) i 6)=(sco xs i).byes)∧(∀ (xs:List Sco) (i:Nat),pvI (AB (Al xs) i 7)=(sco xs i).legbyes)∧(∀ (xs:List Sco) (i:Nat),pvI (AB (Al xs) i 8)=(sco xs i).pens)∧(∀ (xs:List Sco) (i:Nat),pvI (AB (Al xs) i 9)=(sco xs i).ending):=by
  refine ⟨mG,?_,?_,?_,?_,?_,?_,?_,?_,?_,?_⟩
  all_goals (intro xs i;rw [EV];unfold AB;rw [oQ];cases xs[i]?<;>rfl)
theorem DB {xs:List Sco} {i j:Nat} {v:Int} (f:Sco→Sco) (h:∀ s:Sco,BF s.ls j [.int v]=(f s).ls):(Al xs).set i (BF (AK (Al xs) i) j [.int v])=Al (xs.set i (f (sco xs i))):=by
 by_cases hi:i<xs.length
 ·have e:AK (Al xs) i=(sco xs i).ls:=by rw [oQ,EV,zzo hi]
  rw [e,h];exact List.map_set.symm
 ·rw [List.set_eq_of_length_le (by rw [mG];omega),List.set_eq_of_length_le (by omega)]
theorem PXt : (∀ (xs : List Sco) (i : Nat) (v : Int), (Al xs).set i (BF (AK (Al xs) i) 0 [.int v]) = Al (xs.set i { sco xs i with side := v })) ∧ (∀ (xs : List Sco) (i : Nat) (v : Int), (Al xs).set i (BF (AK (Al xs) i) 1 [.int v]) = Al (xs.set i { sco xs i with runs := v })) ∧
    (∀ (xs:List Sco) (i:Nat) (v:Int),(Al xs).set i (BF (AK (Al xs) i) 2 [.int v])=Al (xs.set i { sco xs i with wickets:=v }))∧(∀ (xs:List Sco) (i:Nat) (v:Int),(Al xs).set i (BF (AK (Al xs) i) 3 [.int v])=Al (xs.set i { sco xs i with balls:=v })) ∧
    (∀ (xs:List Sco) (i:Nat) (v:Int),(Al xs).set i (BF (AK (Al xs) i) 4 [.int v])=Al (xs.set i { sco xs i with wides:=v }))∧(∀ (xs:List Sco) (i:Nat) (v:Int),(Al xs).set i (BF (AK (Al xs) i) 5 [.int v])=Al (xs.set i { sco xs i with noballs:=v })) ∧
    (∀ (xs:List Sco) (i:Nat) (v:Int),(Al xs).set i (BF (AK (Al xs) i) 6 [.int v])=Al (xs.set i { sco xs i with byes:=v }))∧(∀ (xs:List Sco) (i:Nat) (v:Int),(Al xs).set i (BF (AK (Al xs) i) 7 [.int v])=Al (xs.set i { sco xs i with legbyes:=v })) ∧
    (∀ (xs:List Sco) (i:Nat) (v:Int),(Al xs).set i (BF (AK (Al xs) i) 8 [.int v])=Al (xs.set i { sco xs i with pens:=v }))∧(∀ (xs:List Sco) (i:Nat) (v:Int),(Al xs).set i (BF (AK (Al xs) i) 9 [.int v])=Al (xs.set i { sco xs i with ending:=v })) ∧
    (∀ (xs:List Sco) (a b c d e f g h i j:Int),Al xs++[([.int a,.int b,.int c,.int d,.int e,.int f,.int g,.int h,.int i,.int j]:List PV)]=Al (xs++[⟨a,b,c,d,e,f,g,h,i,j⟩])):=by
  exact ⟨fun xs i v=>DB (j:=0) (v:=v) (fun s=>{ s with side:=v }) (fun s=>rfl),fun xs i v=>DB (j:=1) (v:=v) (fun s=>{ s with runs:=v }) (fun s=>rfl),fun xs i v=>DB (j:=2) (v:=v) (fun s=>{ s with wickets:=v }) (fun s=>rfl),fun xs i v=>DB (j:=3) (v:=v) (fun s=>{ s with balls:=v }) (fun s=>rfl),fun xs i v=>DB (j:=4) (v:=v) (fun s=>{ s with wides:=v }) (fun s=>rfl),fun xs i v=>DB (j:=5) (v:=v) (fun s=>{ s with noballs:=v }) (fun s=>rfl),fun xs i v=>DB (j:=6) (v:=v) (fun s=>{ s with byes:=v }) (fun s=>rfl),fun xs i v=>DB (j:=7) (v:=v) (fun s=>{ s with legbyes:=v }) (fun s=>rfl),fun xs i v=>DB (j:=8) (v:=v) (fun s=>{ s with pens:=v }) (fun s=>rfl),fun xs i v=>DB (j:=9) (v:=v) (fun s=>{ s with ending:=v }) (fun s=>rfl),
    fun xs a b c d e f g h i j=>(List.map_append (f:=Sco.ls) (l₁:=xs) (l₂:=[⟨a,b,c,d,e,f,g,h,i,j⟩])).symm⟩
theorem vd (n:Nat):List.replicate n ([.int 0,.int 0,.int 0,.int 0,.int 0,.int 0,.int 0,.int 0,.int 0,.int 0]:List PV)=Al (List.replicate n dS):=by
 unfold Al;rw [List.map_replicate];rfl
def GO (xs:List (Int×Int)):Rows:=xs.map fun x=>[.int x.1,.int x.2]
def pr (xs:List (Int×Int)) (i:Nat):Int×Int:=xs.getD i (0,0)
theorem V0 (xs:List (Int×Int)) (i:Nat):pr xs i=(match xs[i]? with | some s=>s | none=>(0,0)):=by
 unfold pr;rw [zzl];cases xs[i]?<;>rfl
theorem lF (xs:List (Int×Int)) (i:Nat):AK (GO xs) i=(match xs[i]? with | some s=>[.int s.1,.int s.2] | none=>[]):=by
 unfold AK GO;rw [zzl,List.getElem?_map];cases xs[i]?<;>rfl
theorem jv (xs:List (Int×Int)):(GO xs).length=xs.length:=List.length_map _
theorem PXp : (∀ xs : List (Int × Int), (GO xs).length = xs.length) ∧ (∀ (xs : List (Int × Int)) (i : Nat), pvI (AB (GO xs) i 0) = (pr xs i).1) ∧ (∀ (xs : List (Int × Int)) (i : Nat), pvI (AB (GO xs) i 1) = (pr xs i).2) ∧
    (∀ (xs:List (Int×Int)) (i:Nat) (v:Int),(GO xs).set i (BF (AK (GO xs) i) 1 [.int v])=GO (xs.set i ((pr xs i).1,v)))∧(∀ (xs:List (Int×Int)) (a b:Int),GO xs++[([.int a,.int b]:List PV)]=GO (xs++[(a,b)])):=by
  refine ⟨jv,?_,?_,?_,?_⟩
  · intro xs i;rw [V0];unfold AB;rw [lF];cases xs[i]?<;>rfl
  · intro xs i;rw [V0];unfold AB;rw [lF];cases xs[i]?<;>rfl
  · intro xs i v
    by_cases hi:i<xs.length
    · have e:AK (GO xs) i=[.int (pr xs i).1,.int (pr xs i).2]:=by rw [lF,V0,zzo hi]
      rw [e];exact (List.map_set (f:=fun x:Int×Int=>[PV.int x.1,PV.int x.2]) (l:=xs) (i:=i) (a:=((pr xs i).1,v))).symm
    · rw [List.set_eq_of_length_le (by rw [jv];omega),List.set_eq_of_length_le (by omega)]
  · intro xs a b;exact (List.map_append (f:=fun x:Int×Int=>[PV.int x.1,PV.int x.2]) (l₁:=xs) (l₂:=[(a,b)])).symm
theorem Ya (L:Rows):∀ i,opn L i≤i
 | 0=>Nat.le_refl _
 | i+1=>by
  have:=Ya L i;show opn L i+cond _ 1 0≤_;cases (evR L i).kind==2<;>simp only [cond_true,cond_false]<;>omega
def Gp (xs:List (Int×Int)) (v:Int):List (Int×Int):=cond (iLt 0 (xs.length:Int)) (xs.set (IntKind.i64.wrap ((xs.length:Int) - 1)).toNat ((pr xs (IntKind.i64.wrap ((xs.length:Int) - 1)).toNat).1,v)) xs
def B0 (L:Rows):Nat→List (Int×Int)
 | 0=>[]
 | i+1=>cond ((evR L i).kind==2) (Gp (B0 L i) (i:Int)++[((i:Int),(L.length:Int))]) (B0 L i)
theorem T7 (xs:List (Int×Int)) (v:Int):(Gp xs v).length=xs.length:=by
 unfold Gp;cases iLt 0 (xs.length:Int)
 ·rfl
 ·exact List.length_set
theorem Q6 (L:Rows):∀ i,(B0 L i).length=opn L i
 | 0=>rfl
 | i+1=>by
  have ih:=Q6 L i;show (cond ((evR L i).kind==2) _ (B0 L i)).length=opn L i+cond ((evR L i).kind==2) 1 0;cases (evR L i).kind==2 with
  | false=>exact ih
  | true=>rw [cond_true,cond_true,List.length_append,T7,ih];rfl
theorem oW {n:Nat} (h:0<n) (h2:n≤1048576):(IntKind.i64.wrap ((n:Int) - 1)).toNat=n - 1∧iIn (IntKind.i64.wrap ((n:Int) - 1)) (n:Int)=true:=by
 rw [DG (by omega) (by omega)];refine ⟨by omega,?_⟩;simp only [iIn,decide_eq_true_eq];omega
theorem tj {N : Nat} {L : Rows} (hN : 2097152 < N) (hL : L.length ≤ 1048576) {F : (List AW → Option (List PV)) → List PV → Option (List PV)}
    (h0:∀ self,F self [.rows (GO (B0 L L.length)),.int (L.length:Int)]=some [.rows (GO (B0 L L.length))])
    (h1:∀ i self,i<L.length→(B0 L i).length≤1048575→F self [.rows (GO (B0 L i)),.int (i:Int)]=self [.rows (GO (B0 L (i+1))),.int (((i+1:Nat)):Int)]):Dy F N [.rows (GO []),.int 0]=some [.rows (GO (B0 L L.length))]:=by
  have:=EI (F:=F) (len:=L.length) (fun i=>[.rows (GO (B0 L i)),.int (i:Int)]) [.rows (GO (B0 L L.length))] h0 (fun i self hi=>h1 i self hi (by rw [Q6];have:=Ya L i;omega)) N (by omega);exact this
theorem JO {i:Nat} (h:i≤1099511627776):IntKind.i64.wrap ((i:Int)+1)=((i+1:Nat):Int):=BA h
theorem sP {L:Rows} {i:Nat} {xs:List (Int×Int)} (hk:((evR L i).kind==2)=true) (he:B0 L i=xs) (h:iLt 0 (xs.length:Int)=true):B0 L (i+1)=xs.set (IntKind.i64.wrap ((xs.length:Int) - 1)).toNat ((pr xs (IntKind.i64.wrap ((xs.length:Int) - 1)).toNat).1,(i:Int))++[((i:Int),(L.length:Int))]:=by
 show cond ((evR L i).kind==2) (Gp (B0 L i) (i:Int)++[((i:Int),(L.length:Int))]) (B0 L i)=_;rw [hk,he];unfold Gp;rw [h];rfl
theorem rN {L:Rows} {i:Nat} {xs:List (Int×Int)} (hk:((evR L i).kind==2)=true) (he:B0 L i=xs) (h:iLt 0 (xs.length:Int)=false):B0 L (i+1)=xs++[((i:Int),(L.length:Int))]:=by
 show cond ((evR L i).kind==2) (Gp (B0 L i) (i:Int)++[((i:Int),(L.length:Int))]) (B0 L i)=_;rw [hk,he];unfold Gp;rw [h];rfl
theorem kS {L:Rows} {i:Nat} (hk:((evR L i).kind==2)=false):B0 L (i+1)=B0 L i:=by
 show cond ((evR L i).kind==2) _ (B0 L i)=_;rw [hk];rfl
set_option maxHeartbeats 1000000 in
theorem VA {N:Nat} {L:Rows} (hN:2097152<N) (hL:L.length≤1048576):C7 N [.rows L]=some [.rows (GO (B0 L L.length))]:=by
 show KE (std (RE N) N) (xOf _)=_;simp only [KE,lq9,std,xOf,PXb];refine Ak (tj hN hL ?_ ?_) rfl
 ·intro self;simp only [PXb,PXc,PXn,AJ,Bg]
 ·intro i self hi hlen;have kk:(evR L i).kind=atI L i 0:=rfl;simp only [PXb,PXc,PXn,AJ,JO (show i≤1099511627776 by omega),BQ hi,Ap hi,Ca,PXp,← kk];cases hk:(evR L i).kind==2 with
  | false =>
   rw [kS hk];rfl
  | true =>
   simp only [PXb,Bool.not_true];generalize he:B0 L i=xs at hlen;cases h0:iLt 0 (xs.length:Int) with
   | false =>
    have sm:iSm ((xs.length+1:Nat):Int) 16=true:=GT (by omega) (by omega);rw [rN hk he h0];simp only [PXb,PXc,PXn,AJ,PXp,List.length_append,List.length_cons,List.length_nil,sm,Nat.reduceAdd]
   | true =>
    have h1:0<xs.length:=by simp only [iLt,decide_eq_true_eq] at h0;omega
    have sm:iSm ((xs.length+1:Nat):Int) 16=true:=GT (by omega) (by omega);rw [sP hk he h0];simp only [PXb,PXc,PXn,AJ,PXp,List.length_append,List.length_cons,List.length_nil,List.length_set,sm,Nat.reduceAdd,(oW h1 (by omega)).2]
theorem cT (ans:Nat→Option (List PV)):∀ k i,BO ans (k+1) i=match BO ans k i with | some r=>some r | none=>ans (i+k)
 | 0,i=>by
  simp only [BO];cases ans i<;>rfl
 | k+1,i=>by
  have ih:=cT ans k (i+1);have e1:BO ans (k+1+1) i=match ans i with | some r=>some r | none=>BO ans (k+1) (i+1):=rfl
  have e2:BO ans (k+1) i=match ans i with | some r=>some r | none=>BO ans k (i+1):=rfl
  rw [e1,e2,ih,show i+(k+1)=i+1+k by omega];cases ans i<;>rfl
def fA (L:Rows) (i:Nat):Option (List PV):=cond ((evR L i).kind==1) (some [.int (RI (evR L i))]) none
theorem kr (L:Rows):∀ n,BO (fA L) n 0=(Dc L n).map fun v=>[.int v]
 | 0=>rfl
 | n+1=>by
  rw [cT,kr L n,Nat.zero_add];show _=(match Dc L n with | some v=>some v | none=>cond ((evR L n).kind==1) (some (RI (evR L n))) none).map fun v=>[PV.int v]
  cases Dc L n with
  | some v=>rfl
  | none =>
   show fA L n=_;unfold fA;cases (evR L n).kind==1<;>rfl
def NB (L:Rows):Int:=(Dc L L.length).getD 1
theorem sW {N : Nat} {L : Rows} (hN : 2097152 < N) (hL : L.length ≤ 1048576) {F : (List AW → Option (List PV)) → List PV → Option (List PV)} (h0 : ∀ self, F self [.int (L.length : Int)] = some [.int 1])
    (h1:∀ i self,i<L.length→F self [.int (i:Int)]=match fA L i with | some r=>some (.int 0::r) | none=>self [.int ((i:Int)+1)]):Dy F N [.int 0]=some (Qo ((Dc L L.length).map fun v=>[.int v])):=by
  have:=Ci (F:=F) (len:=L.length) (fA L) h0 h1 L.length 0 N (by omega) (by omega);rw [kr] at this;exact this
theorem vD (o:Option Int):cond (pvI (AG (Qo (o.map fun v=>[.int v])) 0)==((0:Nat):Int)) (some [PV.int (pvI (AG (Qo (o.map fun v=>[.int v])) 1))]) (some [PV.int 1])=some [.int (o.getD 1)]:=by
 cases o<;>rfl
theorem jL {N:Nat} {L:Rows} (hN:2097152<N) (hL:L.length≤1048576):Hs N [.rows L]=some [.int (NB L)]:=by
 show LO (std (Sp N) N) (xOf _)=_;simp only [LO,lq9,std,xOf,PXb];refine Ak (sW hN hL ?_ ?_) (vD _)
 ·intro self;simp only [PXb,PXc,PXn,AJ,Bg]
 ·intro i self hi;have kk:(evR L i).kind=atI L i 0:=rfl;have ky:(evR L i).yes=atB L i 4:=rfl;have ks:(evR L i).side=atI L i 1:=rfl;simp only [PXb,PXc,PXn,AJ,BA (show i≤1099511627776 by omega),BQ hi,Ap hi,Ca,er,fA,RI,BR,kk,ky,ks];cases atI L i 0==1<;>cases atB L i 4<;>rfl
def TW (f:Int) (en:Bool) (k:Nat):Int:=cond (en&&((k:Int)==2||(k:Int)==3)) (BR (cond ((k:Int).tmod 2==1) (BR f) f)) (cond ((k:Int).tmod 2==1) (BR f) f)
def jZ (f:Int) (en:Bool) (k:Nat):Int:=cond (cond (en&&((k:Int)==2||(k:Int)==3)) ((k:Int)==2) ((k:Int).tmod 2==1)) (BR f) f
theorem vk {f:Int} (h:BR (BR f)=f) (en:Bool) (k:Nat):TW f en k=jZ f en k:=by
 unfold TW jZ;cases h2:((k:Int)==2) with
 | true =>
  have:=beq_iff_eq.1 h2;rw [this];cases en<;>rfl
 | false =>
  cases h3:((k:Int)==3) with
  | true =>
   have:=beq_iff_eq.1 h3;rw [this];cases en
   ·rfl
   ·exact h
  | false=>rw [Bool.or_false,Bool.and_false];rfl
theorem wE (f:Int) (en:Bool) {k:Nat} (h:k≤3):jZ f en k=Jw f en (k:Int):=by
 have:k=0∨k=1∨k=2∨k=3:=by omega
 rcases this with h | h | h | h<;>subst h<;>cases en<;>rfl
def zs (g:Nat→Int) (n:Nat):List Int:=(List.range n).map g
theorem UT (g:Nat→Int) (n:Nat):(zs g n).length=n:=by unfold zs;rw [List.length_map,List.length_range]
theorem vA (g:Nat→Int) (n:Nat):Gt (zs g n)++[[.int (g n)]]=Gt (zs g (n+1)):=by
 unfold zs Gt;rw [List.range_succ,List.map_append,List.map_append];rfl
theorem pe (g:Nat→Int) {n k:Nat} (h:k<n):atI (Gt (zs g n)) k 0=g k:=by
 rw [yD,zzl];unfold zs;rw [List.getElem?_map,List.getElem?_range h];rfl
theorem tP {N : Nat} {L : Rows} (hN : 2097152 < N) (hL : L.length ≤ 1048576) {F : (List AW → Option (List PV)) → List PV → Option (List PV)} (h0 : ∀ self, F self [.bool (Di L L.length), .int (L.length : Int)] = some [.bool (Di L L.length)])
    (h1:∀ i self,i<L.length→F self [.bool (Di L i),.int (i:Int)]=self [.bool (Di L (i+1)),.int (((i+1:Nat)):Int)]):Dy F N [.bool false,.int 0]=some [.bool (Di L L.length)] :=
  EI (F:=F) (len:=L.length) (fun i=>[.bool (Di L i),.int (i:Int)]) [.bool (Di L L.length)] h0 h1 N (by omega)
theorem wP {N n : Nat} {g : Nat → Int} (hN : 2097152 < N) (hL : n ≤ 1048576) {F : (List AW → Option (List PV)) → List PV → Option (List PV)} (h0 : ∀ self, F self [.rows (Gt (zs g n)), .int (n : Int)] = some [.rows (Gt (zs g n))])
    (h1:∀ i self,i<n→F self [.rows (Gt (zs g i)),.int (i:Int)]=self [.rows (Gt (zs g (i+1))),.int (((i+1:Nat)):Int)]):Dy F N [.rows [],.int 0]=some [.rows (Gt (zs g n))] :=
  EI (F:=F) (len:=n) (fun i=>[.rows (Gt (zs g i)),.int (i:Int)]) [.rows (Gt (zs g n))] h0 h1 N (by omega)
set_option maxHeartbeats 1000000 in
theorem jB {N:Nat} {L:Rows} (hN:2097152<N) (hL:L.length≤1048576):Hu N [.rows L]=some [.rows (Gt (zs (TW (NB L) (Di L L.length)) (opn L L.length)))]:=by
 show LH (std (Ip N) N) (xOf _)=_;simp only [LH,Ps,Qj,lq9,std,xOf,PXb,jL hN hL];refine Ak (tP hN hL ?_ ?_) ?_
 ·intro self;simp only [PXb,PXc,PXn,AJ,Bg]
 ·intro i self hi;have kk:(evR L i).kind=atI L i 0:=rfl;have ky:(evR L i).yes=atB L i 4:=rfl;have e:Di L (i+1)=(Di L i||((evR L i).kind==12&&(evR L i).yes)):=rfl;rw [e,kk,ky];simp only [PXb,PXc,PXn,AJ,JO (show i≤1099511627776 by omega),BQ hi,Ap hi,Ca,er]
 ·have ol:=Ya L L.length;simp only [PXb,PXc,PXn,AJ,VA hN hL,PXp,Q6];generalize Di L L.length=en;generalize hn:opn L L.length=n at ol;refine Ak (wP (n:=n) (g:=TW (NB L) en) hN (by omega) ?_ ?_) rfl
  ·intro self;simp only [PXb,PXc,PXn,AJ,Bg]
  ·intro i self hi;have sm:iSm ((i+1:Nat):Int) 8=true:=GT (by omega) (by omega);rw [← vA];unfold TW;cases h1:(i:Int).tmod 2==1<;>cases h2:(en&&((i:Int)==2||(i:Int)==3)) <;>
    simp only [PXb,PXc,PXn,AJ,JO (show i≤1099511627776 by omega),BQ hi,h1,h2,Nn,UT,List.length_append,List.length_cons,List.length_nil,Nat.reduceAdd,sm,BR]
theorem xB (xs:List (Int×Int)) (k:Nat) (s:Int×Int) (i:Nat) (hi:i<xs.length):pr (xs.set k s) i=(if k=i then s else pr xs i):=by
 rw [V0,V0,List.getElem?_set]
 by_cases h:k=i
 ·subst h;rw [if_pos rfl,if_pos rfl,if_pos hi]
 ·rw [if_neg h,if_neg h]
theorem xN (xs:List (Int×Int)) (s:Int×Int) (i:Nat) (hi:i<xs.length+1):pr (xs++[s]) i=(if i<xs.length then pr xs i else s):=by
 rw [V0,V0]
 by_cases h:i<xs.length
 ·rw [if_pos h,List.getElem?_append_left h]
 ·have:i=xs.length:=by omega
  subst this;rw [if_neg h,List.getElem?_append_right (Nat.le_refl _),Nat.sub_self];rfl
theorem Vv {L:Rows} {i:Nat} (h:((evR L i).kind==2)=true):opn L (i+1)=opn L i+1:=by
 show opn L i+cond ((evR L i).kind==2) 1 0=_;rw [h];rfl
theorem ua {L:Rows} {i:Nat} (h:((evR L i).kind==2)=false):opn L (i+1)=opn L i:=by
 show opn L i+cond ((evR L i).kind==2) 1 0=_;rw [h];rfl
theorem cL {L : Rows} (hL : L.length ≤ 1048576) : ∀ i, i ≤ L.length → ∀ k, k < opn L i → ∃ a : Nat, (pr (B0 L i) k).1 = (a : Int) ∧ a < i ∧ opn L a = k ∧ ((evR L a).kind == 2) = true ∧
    ((k+1<opn L i∧∃ b:Nat,(pr (B0 L i) k).2=(b:Int)∧b<i∧opn L b=k+1∧((evR L b).kind==2)=true)∨(k+1=opn L i∧(pr (B0 L i) k).2=(L.length:Int)))
  | 0,_,k,hk=>absurd hk (Nat.not_lt_zero k)
  | i+1,hi,k,hk=>by
    have ih:=cL hL i (by omega);cases h2:(evR L i).kind==2 with
    | false =>
      rw [ua h2] at hk ⊢;rw [kS h2];obtain ⟨a,h3,h4,h5,h6,h7⟩:=ih k hk;refine ⟨a,h3,by omega,h5,h6,?_⟩
      rcases h7 with ⟨q,b,q1,q2,q3,q4⟩ | q
      · exact Or.inl ⟨q,b,q1,by omega,q3,q4⟩
      · exact Or.inr q
    | true =>
      rw [Vv h2] at hk ⊢;have sl:=Q6 L i;have hle:=Ya L i;have ha:=fun (j:Nat) (hj:j<opn L i+1)=>xN (Gp (B0 L i) (i:Int)) ((i:Int),(L.length:Int)) j (by rw [T7,sl];exact hj)
      have e:B0 L (i+1)=Gp (B0 L i) (i:Int)++[((i:Int),(L.length:Int))]:=by
        show cond ((evR L i).kind==2) _ _=_;rw [h2];rfl
      rw [e,ha k hk,T7,sl]
      by_cases hkn:k<opn L i
      · rw [if_pos hkn];obtain ⟨a,h3,h4,h5,h6,h7⟩:=ih k hkn;have hp:0<opn L i:=by omega
        have ix:=(oW hp (by omega)).1;have es:Gp (B0 L i) (i:Int)=(B0 L i).set (opn L i - 1) ((pr (B0 L i) (opn L i - 1)).1,(i:Int)):=by
          unfold Gp;rw [sl,show iLt 0 (opn L i:Int)=true by simp only [iLt,decide_eq_true_eq];omega,ix];rfl
        rw [es,xB _ _ _ _ (by rw [sl];exact hkn)]
        by_cases hl:opn L i - 1=k
        · rw [if_pos hl,hl];exact ⟨a,h3,by omega,h5,h6,Or.inl ⟨by omega,i,rfl,by omega,by omega,h2⟩⟩
        · rw [if_neg hl];refine ⟨a,h3,by omega,h5,h6,Or.inl ⟨by omega,?_⟩⟩
          rcases h7 with ⟨q,b,q1,q2,q3,q4⟩ | q
          · exact ⟨b,q1,by omega,q3,q4⟩
          · omega
      · have hke:k=opn L i:=by omega
        rw [if_neg hkn];exact ⟨i,rfl,by omega,hke.symm,h2,Or.inr ⟨by omega,rfl⟩⟩
theorem td {L:Rows} {a b:Nat} (h:opn L a=opn L b) (ha:((evR L a).kind==2)=true) (hb:((evR L b).kind==2)=true):a=b:=by
 rcases Nat.lt_trichotomy a b with h1 | h1 | h1
 ·have:=GG L (show a+1≤b by omega);have:=Vv ha;omega
 ·exact h1
 ·have:=GG L (show b+1≤a by omega);have:=Vv hb;omega
def As (L:Rows) (k:Nat):Nat:=if k<opn L L.length then (pr (B0 L L.length) k).1.toNat else L.length
structure Seg (L:Rows) (k:Nat):Prop where
 x0:(pr (B0 L L.length) k).1=(As L k:Int)
 x1:(pr (B0 L L.length) k).2=(As L (k+1):Int)
 lt:As L k<As L (k+1)
 le:As L (k+1)≤L.length
 o0:opn L (As L k)=k
 o1:opn L (As L (k+1))=k+1
 mid:∀ j,As L k≤j→j<As L (k+1)→opn L (j+1)=k+1
theorem seg {L:Rows} (hL:L.length≤1048576) {k:Nat} (h:k<opn L L.length):Seg L k:=by
 obtain ⟨a,h1,h2,h3,h4,h5⟩:=cL hL L.length (Nat.le_refl _) k h;have p0:As L k=a:=by unfold As;rw [if_pos h,h1];rfl
 have key:(pr (B0 L L.length) k).2=(As L (k+1):Int)∧a<As L (k+1)∧As L (k+1)≤L.length∧opn L (As L (k+1))=k+1:=by
  rcases h5 with ⟨q,b,q1,q2,q3,q4⟩ | ⟨q,q1⟩
  ·obtain ⟨a',g1,g2,g3,g4,_⟩:=cL hL L.length (Nat.le_refl _) (k+1) q;have e:a'=b:=td (g3.trans q3.symm) g4 q4;subst e;have p1:As L (k+1)=a':=by unfold As;rw [if_pos q,g1];rfl
   rw [p1];refine ⟨q1,?_,by omega,q3⟩
   rcases Nat.lt_or_ge a a' with hl | hl
   ·exact hl
   ·have:=GG L hl;omega
  ·have p1:As L (k+1)=L.length:=by unfold As;rw [if_neg (by omega)]
   rw [p1];exact ⟨q1,h2,Nat.le_refl _,q.symm⟩
 obtain ⟨k1,k2,k3,k4⟩:=key;refine ⟨by rw [h1,p0],k1,by rw [p0];exact k2,k3,by rw [p0];exact h3,k4,fun j j1 j2=>?_⟩;rw [p0] at j1;have m1:=GG L (show a+1≤j+1 by omega);have m2:=GG L (show j+1≤As L (k+1) by omega);rw [Vv h4] at m1;omega
theorem wC (L:Rows):As L (opn L L.length)=L.length:=by unfold As;rw [if_neg (Nat.lt_irrefl _)]
theorem wS (L:Rows) {a b:Nat} (i j:Nat) (h:i<b - a):AB ((L.take b).drop a) i j=AB L (a+i) j:=by
 unfold AB AK;rw [zzl,zzl,List.getElem?_drop,List.getElem?_take,if_pos (by omega)]
theorem wz (L:Rows) {a b:Nat} (i:Nat) (h:i<b - a):evR ((L.take b).drop a) i=evR L (a+i):=by
 unfold evR atI atB;simp only [wS L i _ h]
theorem wL {L:Rows} {a b:Nat} (h:b≤L.length):((L.take b).drop a).length=b - a:=by
 rw [List.length_drop,List.length_take];omega
def Tv (e:Ev):Bool:=cond (e.kind==4) (!(e.ball.how==0)) (cond (e.kind==5) e.yes (cond (e.kind==6) (!e.yes) false))
theorem qs (e:Ev):N7 e=cond (Tv e) 1 0:=by
 unfold N7 Tv B5;cases h4:e.kind==4
 ·cases h5:e.kind==5
  ·cases h6:e.kind==6<;>cases e.yes<;>rfl
  ·rw [beq_iff_eq.1 h5];cases e.yes<;>rfl
 ·cases e.ball.how==0<;>rfl
theorem nE {N:Nat} {e0 e1 e2 e3 e5 e6 e7 e8 e9 e10 e11 e13 e14 e15 e16 e18:Int} {e4 e12 e17:Bool}  : Ki N [.int e0,.int e1,.int e2,.int e3,.bool e4,.int e5,.int e6,.int e7,.int e8,.int e9,.int e10,.int e11,.bool e12,.int e13,.int e14,.int e15,.int e16,.bool e17,.int e18]=some [.bool (Tv (⟨e0,e1,e2,e3,e4,e5,e6,⟨e7,e8,e9,e10,e11,e12,e13,e14,e15,e16,e17,e18⟩⟩:Ev))]:=by
 show Oq (std (WV N) N) (xOf _)=_;simp only [Oq,lq9,std,xOf,PXb,PXc,PXn,PXm,Nat.reduceAdd,Int.reduceBEq];unfold Tv;simp only;cases e0==4<;>cases e0==5<;>cases e0==6<;>rfl
def pj:Option Nat→Int
 | some j=>(j:Int)
 | none => -1
theorem iQ (sd:Nat→Int) (s:Int) (k:Nat):∀ c,c≤k+1→BO (fun i=>cond (sd (k - i)==s) (some [.int ((k - i:Nat):Int)]) none) c (k+1 - c)=(Bk sd s c).map fun j:Nat=>[PV.int (j:Int)]
 | 0,_=>rfl
 | c+1,h=>by
  have ih:=iQ sd s k c (by omega);have e1:k - (k+1 - (c+1))=c:=by omega
  have e2:k+1 - (c+1)+1=k+1 - c:=by omega
  simp only [BO,Bk,e1,e2,ih];cases sd c==s<;>rfl
theorem jf (sd:Nat→Int) (s:Int):∀ c i,BO (fun i=>cond (sd i==s) (some [.int (i:Int)]) none) c i=(Nw sd s c i).map fun j:Nat=>[PV.int (j:Int)]
 | 0,_=>rfl
 | c+1,i=>by
  simp only [BO,Nw,jf sd s c (i+1)];cases sd i==s<;>rfl
theorem rf {N : Nat} {sd : Nat → Int} {n k : Nat} {s : Int} (hN : 2097152 < N) (hn : n ≤ 1048576) (hk : k < n) {F G : (List AW → Option (List PV)) → List PV → Option (List PV)}
    (f0:∀ self,F self [.int (-1)]=some [.int 1]) (f1:∀ (j:Nat) self,j<n→F self [.int (j:Int)]=cond (sd j==s) (some [.int 0,.int (j:Int)]) (self [.int ((j:Int) - 1)]))
    (g0:∀ self,G self [.int (n:Int)]=some [.int 1]) (g1:∀ (j:Nat) self,j<n→G self [.int (j:Int)]=cond (sd j==s) (some [.int 0,.int (j:Int)]) (self [.int ((j:Int)+1)])) :
    ((Dy F N [.int (k:Int)]).bind fun c=>cond (pvI (AG c 0)==((0:Nat):Int)) (some [PV.int (pvI (AG c 1))]) ((Dy G N [.int (IntKind.i64.wrap ((k:Int)+1))]).bind fun c=>cond (pvI (AG c 0)==((0:Nat):Int)) (some [PV.int (pvI (AG c 1))]) (some [PV.int (-1)])))=some [.int (pj (C2 sd n k s))]:=by
  have a1:=Vl (F:=F) (len:=k+1) (fun i=>[.int ((k:Int) - (i:Int))]) (fun i=>cond (sd (k - i)==s) (some [.int ((k - i:Nat):Int)]) none)
    (fun self=>by
      show F self [.int ((k:Int) - ((k+1:Nat):Int))]=_;rw [show (k:Int) - ((k+1:Nat):Int) = -1 by omega];exact f0 self)
    (fun i self hi=>by
      show F self [.int ((k:Int) - (i:Int))]=_;rw [show (k:Int) - (i:Int)=((k - i:Nat):Int) by omega,f1 (k - i) self (by omega),show ((k - i:Nat):Int) - 1=(k:Int) - ((i+1:Nat):Int) by omega];cases sd (k - i)==s<;>rfl) (k+1) 0 N (by omega) (by omega)
  have fb:=iQ sd s k (k+1) (Nat.le_refl _);rw [Nat.sub_self] at fb;rw [fb] at a1;have a1:Dy F N [.int ((k:Int) - ((0:Nat):Int))]=_:=a1;rw [show (k:Int) - ((0:Nat):Int)=(k:Int) by omega] at a1;rw [a1,BA (show k≤1099511627776 by omega)];unfold C2;cases Bk sd s (k+1) with
  | some j=>rfl
  | none =>
    have a2:=Ci (F:=G) (len:=n) (fun i=>cond (sd i==s) (some [.int (i:Int)]) none) g0 (fun i self hi=>by rw [g1 i self hi];cases sd i==s<;>rfl) (n - (k+1)) (k+1) N (by omega) (by omega);rw [jf] at a2;rw [show ((k:Int)+1)=((k+1:Nat):Int) by omega,a2];cases Nw sd s (n - (k+1)) (k+1)<;>rfl
theorem xH (n:Int):iLe 0 (-1)=false:=rfl
theorem qu (j:Nat):iLe 0 (j:Int)=true:=by simp only [iLe,decide_eq_true_eq];omega
theorem ru {j:Nat} (h:j≤1048576):IntKind.i64.wrap ((j:Int) - 1)=(j:Int) - 1:=DG (by omega) (by omega)
set_option maxHeartbeats 1000000 in
theorem mw {N:Nat} {sd:Nat→Int} {n k:Nat} {s:Int} (hN:2097152<N) (hn:n≤1048576) (hk:k<n):ID N [.rows (Gt (zs sd n)),.int (k:Int),.int s]=some [.int (pj (C2 sd n k s))]:=by
 show Od (std (Wm N) N) (xOf _)=_;simp only [Od,lq9,std,xOf,PXb];refine rf hN hn hk ?_ ?_ ?_ ?_
 ·intro self;simp only [PXb,PXc,PXn,AJ,xH 0]
 ·intro j self hj;simp only [PXb,PXc,PXn,AJ,qu,Nn,UT,Ap hj,Ca,pe _ hj,ru (show j≤1048576 by omega)]
 ·intro self;simp only [PXb,PXc,PXn,AJ,Nn,UT,Bg]
 ·intro j self hj;simp only [PXb,PXc,PXn,AJ,Nn,UT,BQ hj,Ap hj,Ca,pe _ hj,BA (show j≤1099511627776 by omega)]
theorem TC {L:Rows} {f:Ev→Int} {c:Int} (hf:∀ e,0≤f e∧f e≤c) (j:Nat):∀ i:Nat,0≤smi L f j i∧smi L f j i≤c * (i:Int)
 | 0=>by
  have:smi L f j 0=0:=rfl;rw [this];omega
 | i+1=>by
  have ih:=TC (L:=L) hf j i;have h1:=hf (evR L i);rw [kz,show c * ((i+1:Nat):Int)=c * (i:Int)+c by rw [show ((i+1:Nat):Int)=(i:Int)+1 by omega,Int.mul_add,Int.mul_one]];have h2:=hf (evR L i);generalize c * (i:Int)=z at ih ⊢;cases Nat.beq (opn L (i+1)) (j+1)<;>simp only [cond_true,cond_false]<;>omega
theorem xS (L:Rows) (sd:Nat→Int) (n j:Nat):∀ i:Nat,0≤pnS L sd n j i∧pnS L sd n j i≤5 * (i:Int)
 | 0=>by
  have:pnS L sd n j 0=0:=rfl;rw [this];omega
 | i+1=>by
  have ih:=xS L sd n j i;rw [Uy];cases ((evR L i).kind==13&&isS (C2 sd n (opn L (i+1) - 1) (evR L i).side) j)<;>simp only [cond_true,cond_false]<;>omega
structure Sml (x:Sco):Prop where
 runs:0≤x.runs∧x.runs≤1000000
 wk:0≤x.wickets∧x.wickets≤1000000
 balls:0≤x.balls∧x.balls≤1000000
 wides:0≤x.wides∧x.wides≤1000000
 no:0≤x.noballs∧x.noballs≤1000000
 bb:0≤x.byes∧x.byes≤1000000
 lb:0≤x.legbyes∧x.legbyes≤1000000
 pens:0≤x.pens∧x.pens≤1000000
theorem ui {r:Rul} (h:RulOk r) (e:Ev):0≤fi r e∧fi r e≤62:=by
 have c:=Qz h e;have h0:=c.ba;have h1:=c.wi;have h2:=c.no;have h3:=c.bb;have h4:=c.lb;have h5:=c.tot;unfold fi;omega
theorem vg {r:Rul} (h:RulOk r) (L:Rows) (sd:Nat→Int) (n j:Nat) {i:Nat} (hi:i≤4000):Sml (BI r L sd n j i):=by
 have p:=xS L sd n j i;have b1:=TC (L:=L) (ui h) j i;have b2:=TC (L:=L) xL j i;have b3:=TC (L:=L) (f:=tD r) (c:=1) (fun e=>by unfold tD;cases (CE r e).counts<;>simp) j i;have b4:=TC (L:=L) (f:=fun e=>(CE r e).wides) (fun e=>(Qz h e).wi) j i;have b5:=TC (L:=L) (f:=fun e=>(CE r e).noballs) (fun e=>(Qz h e).no) j i;have b6:=TC (L:=L) (f:=fun e=>(CE r e).byes) (fun e=>(Qz h e).bb) j i;have b7:=TC (L:=L) (f:=fun e=>(CE r e).legbyes) (fun e=>(Qz h e).lb) j i;unfold BI;constructor<;>(simp only;omega)
theorem Q3 {xs ys:List Sco} (hl:xs.length=ys.length) (h:∀ j,j<xs.length→sco xs j=sco ys j):xs=ys:=by
 apply List.ext_getElem?;intro i
 by_cases hi:i<xs.length
 ·have:=h i hi;rw [EV,EV,zzo hi,zzo (by omega)] at this;rw [zzo hi,zzo (by omega)];exact congrArg some this
 ·rw [List.getElem?_eq_none (by omega),List.getElem?_eq_none (by omega)]
def D0 (r:Rul) (L:Rows) (sd:Nat→Int) (n q i:Nat):List Sco:=(List.range n).map fun j=>{ BI r L sd n j i with side:=cond (Nat.blt j q) (sd j) 0 }
theorem C6 (r:Rul) (L:Rows) (sd:Nat→Int) (n q i:Nat):(D0 r L sd n q i).length=n:=by unfold D0;rw [List.length_map,List.length_range]
theorem Gu (r:Rul) (L:Rows) (sd:Nat→Int) {n q i j:Nat} (h:j<n):sco (D0 r L sd n q i) j={ BI r L sd n j i with side:=cond (Nat.blt j q) (sd j) 0 }:=by
 rw [EV];unfold D0;rw [List.getElem?_map,List.getElem?_range h];rfl
theorem Y7 {a b:Nat} (h:a<b):Nat.blt a b=true:=Nat.ble_eq_true_of_le h
theorem lw {a b:Nat} (h:¬ a<b):Nat.blt a b=false:=by
 cases hq:Nat.blt a b with
 | false=>rfl
 | true=>exact absurd (Nat.le_of_ble_eq_true hq) h
theorem WL {xs:List Sco} {k:Nat} (h:k<xs.length) (s:Sco):sco (xs.set k s) k=s:=by rw [Qy _ _ _ _ h,if_pos rfl]
theorem uI {r:Rul} {L:Rows} {sd:Nat→Int} {n k i:Nat} (h:k<n):(D0 r L sd n k i).set k { sco (D0 r L sd n k i) k with side:=sd k }=D0 r L sd n (k+1) i:=by
 refine Q3 (by rw [List.length_set,C6,C6]) (fun j hj=>?_);rw [List.length_set,C6] at hj;rw [Qy _ _ _ _ (by rw [C6];exact hj),Gu _ _ _ h,Gu _ _ _ hj,Gu _ _ _ hj]
 by_cases e:k=j
 ·subst e;rw [if_pos rfl,Y7 (Nat.lt_succ_self k)];rfl
 ·rw [if_neg e];have:Nat.blt j k=Nat.blt j (k+1):=by
   by_cases hl:j<k
   ·rw [Y7 hl,Y7 (by omega)]
   ·rw [lw hl,lw (by omega)]
  rw [this]
theorem vU (r:Rul) (L:Rows) (sd:Nat→Int) (n i:Nat):D0 r L sd n n i=(List.range n).map fun j=>BI r L sd n j i:=by
 refine Q3 (by rw [C6,List.length_map,List.length_range]) (fun j hj=>?_);rw [C6] at hj;rw [Gu _ _ _ hj,EV,List.getElem?_map,List.getElem?_range hj,Y7 hj];rfl
theorem tu {r:Rul} {L:Rows} {sd:Nat→Int} {n i:Nat} (ho:opn L i=0) (h13:∀ j,j<i→((evR L j).kind==13)=true→1≤opn L (j+1)):List.replicate n dS=D0 r L sd n 0 i:=by
 have pz:∀ j,pnS L sd n j i=0:=fun j=>by
  have:∀ m,m≤i→pnS L sd n j m=0:=by
   intro m
   induction m with
   | zero=>intro _;rfl
   | succ m ih =>
    intro hm;rw [Uy,ih (by omega)];cases k13:(evR L m).kind==13 with
    | false=>rfl
    | true =>
     have h1:=h13 m (by omega) k13;have h2:=GG L (show m+1≤i by omega);omega
  exact this i (Nat.le_refl i)
 refine Q3 (by rw [C6,List.length_replicate]) (fun j hj=>?_);rw [List.length_replicate] at hj;rw [Gu _ _ _ hj,EV,List.getElem?_replicate,if_pos hj,lw (by omega)];unfold BI;have z:∀ f:Ev→Int,smi L f j i=0:=fun f=>aZ i (by omega)
 simp only [pz,z];rfl
theorem YM {r : Rul} {L : Rows} {sd : Nat → Int} {n k q i : Nat} {y : Sco} (hk : k < n) (hy : y = { BI r L sd n k (i + 1) with side := cond (Nat.blt k q) (sd k) 0 }) (ho : ∀ j, j < n → ¬ k = j → BI r L sd n j (i + 1) = BI r L sd n j i) :
    (D0 r L sd n q i).set k y=D0 r L sd n q (i+1):=by
  refine Q3 (by rw [List.length_set,C6,C6]) (fun j hj=>?_);rw [List.length_set,C6] at hj;rw [Qy _ _ _ _ (by rw [C6];exact hj),Gu _ _ _ hj,Gu _ _ _ hj]
  by_cases e:k=j
  · subst e;rw [if_pos rfl,hy]
  · rw [if_neg e,ho j hj e]
theorem md {r:Rul} {L:Rows} {sd:Nat→Int} {n q i:Nat} (ho:∀ j,j<n→BI r L sd n j (i+1)=BI r L sd n j i):D0 r L sd n q i=D0 r L sd n q (i+1):=by
 refine Q3 (by rw [C6,C6]) (fun j hj=>?_);rw [C6] at hj;rw [Gu _ _ _ hj,Gu _ _ _ hj,ho j hj]
def jM (r:Rul) (e:Ev) (k:Nat) (d:Option Nat) (xs:List Sco):List Sco :=
  let x1:=cond (Tv e) (xs.set k { sco xs k with wickets:=IntKind.i64.wrap ((sco xs k).wickets+1) }) xs
  let c:=AE r e.ball
  cond (e.kind==4)
    (x1.set k { sco x1 k with runs:=IntKind.i64.wrap ((sco x1 k).runs+Db c),balls:=cond c.counts (IntKind.i64.wrap ((sco x1 k).balls+1)) (sco x1 k).balls,wides:=IntKind.i64.wrap ((sco x1 k).wides+c.wides),noballs:=IntKind.i64.wrap ((sco x1 k).noballs+c.noballs),byes:=IntKind.i64.wrap ((sco x1 k).byes+c.byes),legbyes:=IntKind.i64.wrap ((sco x1 k).legbyes+c.legbyes) })
    (cond (e.kind==13) (match d with
      | some j=>x1.set j { sco x1 j with runs:=IntKind.i64.wrap ((sco x1 j).runs+5),pens:=IntKind.i64.wrap ((sco x1 j).pens+5) }
      | none=>x1) x1)
theorem rR {sd:Nat→Int} {n k j:Nat} {s:Int} (hk:k<n) (h:C2 sd n k s=some j):j<n:=by
 rcases (kP h).2 with h | h<;>omega
theorem uQ {r:Rul} {L:Rows} {sd:Nat→Int} {n k i:Nat} (rk:RulOk r) (hk:k<n) (ho:opn L (i+1)=k+1) (hi:i<4000):jM r (evR L i) k (C2 sd n k (evR L i).side) (D0 r L sd n (k+1) i)=D0 r L sd n (k+1) (i+1):=by
 have hn:∀ j,¬ k=j→Nat.beq (opn L (i+1)) (j+1)=false:=fun j hj=>Xa (by omega)
 have hy:Nat.beq (opn L (i+1)) (k+1)=true:=by rw [ho];exact Uh _
 have sm:=fun j=>vg rk L sd n j (show i≤4000 by omega)
 have cs:=V8 r L sd n;have hp:opn L (i+1) - 1=k:=by omega
 have tl:k<(D0 r L sd n (k+1) i).length:=by rw [C6];exact hk
 unfold jM;cases h4:(evR L i).kind==4 with
 | true =>
  have k4:=beq_iff_eq.1 h4;have h13:((evR L i).kind==13)=false:=by rw [k4];rfl
  have ce:CE r (evR L i)=AE r (evR L i).ball:=by unfold CE;rw [h4];rfl
  have co:=Qz rk (evR L i);have tb:=ui rk (evR L i);rw [← ce];have fin:∀ y:Sco,y={ BI r L sd n k (i+1) with side:=cond (Nat.blt k (k+1)) (sd k) 0 }→(D0 r L sd n (k+1) i).set k y=D0 r L sd n (k+1) (i+1):=fun y hyy=>YM hk hyy (fun j hj hjk=>by
   rw [cs,h13,Bool.false_and,cond_false,CB,hn j hjk];rfl)
  have ex:BI r L sd n k (i+1)=OE r (evR L i) (BI r L sd n k i):=by rw [cs,h13,Bool.false_and,cond_false,CB,hy];rfl
  have s:=sm k;have s1:=s.runs;have s2:=s.wk;have s3:=s.balls;have s4:=s.wides;have s5:=s.no;have s6:=s.bb;have s7:=s.lb;have c1:=co.wi;have c2:=co.no;have c3:=co.bb;have c4:=co.lb;unfold fi at tb;have w1:IntKind.i64.wrap ((BI r L sd n k i).runs+Db (CE r (evR L i)))=(BI r L sd n k i).runs+Db (CE r (evR L i)):=Bn (by omega) (by omega);have w2:IntKind.i64.wrap ((BI r L sd n k i).wickets+1)=(BI r L sd n k i).wickets+1:=Bn (by omega) (by omega);have w3:IntKind.i64.wrap ((BI r L sd n k i).balls+1)=(BI r L sd n k i).balls+1:=Bn (by omega) (by omega);have w4:IntKind.i64.wrap ((BI r L sd n k i).wides+(CE r (evR L i)).wides)=(BI r L sd n k i).wides+(CE r (evR L i)).wides:=Bn (by omega) (by omega);have w5:IntKind.i64.wrap ((BI r L sd n k i).noballs+(CE r (evR L i)).noballs)=(BI r L sd n k i).noballs+(CE r (evR L i)).noballs:=Bn (by omega) (by omega);have w6:IntKind.i64.wrap ((BI r L sd n k i).byes+(CE r (evR L i)).byes)=(BI r L sd n k i).byes+(CE r (evR L i)).byes:=Bn (by omega) (by omega);have w7:IntKind.i64.wrap ((BI r L sd n k i).legbyes+(CE r (evR L i)).legbyes)=(BI r L sd n k i).legbyes+(CE r (evR L i)).legbyes:=Bn (by omega) (by omega);have od:=qs (evR L i);cases hb:Tv (evR L i) with
  | false =>
   simp only [cond_false,cond_true,Gu _ _ _ hk,w1,w3,w4,w5,w6,w7];refine fin _ ?_;rw [ex];unfold OE;rw [od,hb];cases (CE r (evR L i)).counts<;>simp only [cond_false,cond_true,Int.add_zero]
  | true =>
   simp only [cond_true,WL tl,List.set_set,Gu _ _ _ hk,w1,w2,w3,w4,w5,w6,w7];refine fin _ ?_;rw [ex];unfold OE;rw [od,hb];cases (CE r (evR L i)).counts<;>simp only [cond_false,cond_true,Int.add_zero]
 | false =>
  have s:=sm k;have s2:=s.wk;have w2:IntKind.i64.wrap ((BI r L sd n k i).wickets+1)=(BI r L sd n k i).wickets+1:=Bn (by omega) (by omega);have od:=qs (evR L i);cases h13:(evR L i).kind==13 with
  | true =>
   have k13:=beq_iff_eq.1 h13;have ob:Tv (evR L i)=false:=by unfold Tv;rw [k13];rfl
   have oe:B5 (evR L i)=0:=by unfold B5;rw [k13];rfl
   have ex:∀ j,BI r L sd n j (i+1)=JS (cond (isS (C2 sd n k (evR L i).side) j) 5 0) (BI r L sd n j i):=fun j=>by
    rw [cs,h13,Bool.true_and,hp,Lx _ h4 oe];cases Nat.beq (opn L (i+1)) (j+1)<;>rfl
   simp only [ob,cond_false,cond_true];cases hd:C2 sd n k (evR L i).side with
   | none =>
    refine md (fun j hj=>?_);rw [ex,hd];exact CB _
   | some d =>
    have dl:=rR hk hd;have q:=sm d;have q1:=q.runs;have q2:=q.pens;have v1:IntKind.i64.wrap ((BI r L sd n d i).runs+5)=(BI r L sd n d i).runs+5:=Bn (by omega) (by omega);have v2:IntKind.i64.wrap ((BI r L sd n d i).pens+5)=(BI r L sd n d i).pens+5:=Bn (by omega) (by omega);simp only [Gu _ _ _ dl,v1,v2];refine YM dl ?_ (fun j hj hjd=>?_)
    ·rw [ex,hd,show isS (some d) d=true from Uh d];rfl
    ·rw [ex,hd,show isS (some d) j=false from Xa hjd];exact CB _
  | false =>
   have ex:∀ j,BI r L sd n j (i+1)=cond (Nat.beq (opn L (i+1)) (j+1)) (OE r (evR L i) (BI r L sd n j i)) (BI r L sd n j i):=fun j=>by
    rw [cs,h13,Bool.false_and,cond_false,CB]
   have oe:N7 (evR L i)=B5 (evR L i):=by unfold N7;rw [h4];rfl
   rw [oe] at od;cases hb:Tv (evR L i) with
   | false =>
    rw [hb] at od;simp only [cond_false];refine md (fun j hj=>?_);rw [ex,Lx _ h4 od];cases Nat.beq (opn L (i+1)) (j+1)<;>rfl
   | true =>
    rw [hb] at od;simp only [cond_false,cond_true,Gu _ _ _ hk,w2];refine YM hk ?_ (fun j hj hjk=>?_)
    ·rw [ex,hy,cond_true,bE _ h4,od];rfl
    ·rw [ex,hn j hjk];rfl
def sdT (L:Rows):Nat→Int:=TW (NB L) (Di L L.length)
def Xp (r:Rul) (L:Rows) (sd:Nat→Int):List Sco:=(List.range (opn L L.length)).map fun j=>BI r L sd (opn L L.length) j L.length
structure InLog (L:Rows):Prop where
 len:L.length≤4000
 pen:∀ j,j<L.length→((evR L j).kind==13)=true→1≤opn L (j+1)
set_option maxHeartbeats 4000000 in
theorem sF {N : Nat} {r : Rul} {L : Rows} {k : Nat} (hN : 2097152 < N) (il : InLog L) (rk : RulOk r) (hk : k < opn L L.length) {F : (List AW → Option (List PV)) → List PV → Option (List PV)}
    (f0:∀ xs self,F self [.rows (Al xs),.int ((As L (k+1) - As L k:Nat):Int)]=some [.rows (Al xs),.int ((As L (k+1) - As L k:Nat):Int)])
    (f1:∀ (i:Nat) self,i<As L (k+1) - As L k→∀ xs:List Sco,xs.length=opn L L.length→F self [.rows (Al xs),.int (i:Int)]=self [.rows (Al (jM r (evR L (As L k+i)) k (C2 (sdT L) (opn L L.length) k (evR L (As L k+i)).side) xs)),.int ((i+1:Nat):Int)]) :
    Dy F N [.rows (Al (D0 r L (sdT L) (opn L L.length) (k+1) (As L k))),.int 0]=some [.rows (Al (D0 r L (sdT L) (opn L L.length) (k+1) (As L (k+1)))),.int ((As L (k+1) - As L k:Nat):Int)]:=by
  have sg:=seg (by have:=il.len;omega) hk;have h1:=sg.lt;have h2:=sg.le;have h3:=il.len;have e:As L k+(As L (k+1) - As L k)=As L (k+1):=by omega
  have:=EI (F:=F) (len:=As L (k+1) - As L k) (fun i=>[.rows (Al (D0 r L (sdT L) (opn L L.length) (k+1) (As L k+i))),.int (i:Int)]) [.rows (Al (D0 r L (sdT L) (opn L L.length) (k+1) (As L (k+1)))),.int ((As L (k+1) - As L k:Nat):Int)]
    (fun self=>by
      show F self [.rows (Al (D0 r L (sdT L) (opn L L.length) (k+1) (As L k+(As L (k+1) - As L k)))),_]=_;rw [e];exact f0 _ self)
    (fun i self hi=>by
      show F self [.rows (Al (D0 r L (sdT L) (opn L L.length) (k+1) (As L k+i))),.int (i:Int)]=_;rw [f1 i self hi _ (C6 _ _ _ _ _ _),uQ rk hk (sg.mid _ (by omega) (by omega)) (by omega)];rfl) N (by omega)
  exact this
theorem wx (L:Rows) (i:Nat):(⟨pvI (AB L i 0),pvI (AB L i 1),pvI (AB L i 2),pvI (AB L i 3),pvB (AB L i 4),pvI (AB L i 5),pvI (AB L i 6),⟨pvI (AB L i 7),pvI (AB L i 8),pvI (AB L i 9),pvI (AB L i 10),pvI (AB L i 11),pvB (AB L i 12),pvI (AB L i 13),pvI (AB L i 14),pvI (AB L i 15),pvI (AB L i 16),pvB (AB L i 17),pvI (AB L i 18)⟩⟩:Ev)=evR L i:=rfl
set_option maxHeartbeats 4000000 in
theorem f7 {N:Nat} {r8:Bool} {r0:ByteArray} {r13:Rows} {L:Rows} (hN:2097152<N) (hs:r0.size≤1048576) (h13:r13.length≤1048576) (hL:L.length≤1048576) (il:DL (⟨r0,r1,r2,r3,r4,r5,r6,r7,r8,r9,r10,r11,r12,r13⟩:Rul) L=0→InLog L∧RulOk (⟨r0,r1,r2,r3,r4,r5,r6,r7,r8,r9,r10,r11,r12,r13⟩:Rul)):Gr N [.str r0,.int r1,.int r2,.int r3,.int r4,.int r5,.int r6,.int r7,.bool r8,.int r9,.int r10,.int r11,.int r12,.rows r13,.rows L]=some [.rows (cond (!(DL (⟨r0,r1,r2,r3,r4,r5,r6,r7,r8,r9,r10,r11,r12,r13⟩:Rul) L==0)) [] (Al (Xp (⟨r0,r1,r2,r3,r4,r5,r6,r7,r8,r9,r10,r11,r12,r13⟩:Rul) L (sdT L)))),.int (DL (⟨r0,r1,r2,r3,r4,r5,r6,r7,r8,r9,r10,r11,r12,r13⟩:Rul) L)]:=by
  show Jq (std (Bw N) N) (xOf _)=_;generalize hres:(some [.rows (cond (!(DL (⟨r0,r1,r2,r3,r4,r5,r6,r7,r8,r9,r10,r11,r12,r13⟩:Rul) L==0)) [] (Al (Xp (⟨r0,r1,r2,r3,r4,r5,r6,r7,r8,r9,r10,r11,r12,r13⟩:Rul) L (sdT L)))),.int (DL (⟨r0,r1,r2,r3,r4,r5,r6,r7,r8,r9,r10,r11,r12,r13⟩:Rul) L)]:Option (List PV))=RR;simp only [Jq,RZ,Pt,PI,JJ,Fw,GR,R5,lq9,std,xOf,PXb,mt hN hs h13 hL];subst hres;cases hc:DL (⟨r0,r1,r2,r3,r4,r5,r6,r7,r8,r9,r10,r11,r12,r13⟩:Rul) L==0 with
  | false=>rfl
  | true =>
    have c0:=beq_iff_eq.1 hc;obtain ⟨il,rk⟩:=il c0;have ol:=Ya L L.length;have l4:=il.len;have s80:iSm ((opn L L.length:Nat):Int) 80=true:=GT (by omega) (by omega);rw [c0];simp only [PXb,Bool.not_true,jB hN hL,Nn,UT,s80,VA hN hL,vd];have st:List.replicate (opn L L.length) dS=D0 (⟨r0,r1,r2,r3,r4,r5,r6,r7,r8,r9,r10,r11,r12,r13⟩:Rul) L (sdT L) (opn L L.length) 0 (As L 0):=by
      refine tu ?_ (fun j hj=>il.pen j ?_)
      · by_cases h0:0<opn L L.length
        · exact (seg hL h0).o0
        · unfold As;rw [if_neg h0];omega
      · have : As L 0 ≤ L.length := by
          by_cases h0:0<opn L L.length
          · have:=(seg hL h0).lt;have:=(seg hL h0).le;omega
          · unfold As;rw [if_neg h0];exact Nat.le_refl _
        omega
    rw [st];refine Ak (EI (len:=opn L L.length) (fun k=>[.rows (Al (D0 (⟨r0,r1,r2,r3,r4,r5,r6,r7,r8,r9,r10,r11,r12,r13⟩:Rul) L (sdT L) (opn L L.length) k (As L k))),.int (k:Int)]) [.rows (Al (Xp (⟨r0,r1,r2,r3,r4,r5,r6,r7,r8,r9,r10,r11,r12,r13⟩:Rul) L (sdT L)))] ?_ ?_ N (by omega)) ?_
    · intro self;simp only [PXb,PXc,PXn,AJ,PXp,Q6,Bg,wC,vU];rfl
    · intro k self hk;have sg:=seg hL hk;have sgl:=sg.lt;have sge:=sg.le;have rg:iRg (As L k:Int) (As L (k+1):Int) (L.length:Int)=true:=by simp only [iRg,decide_eq_true_eq];omega
      have zk:atI (Gt (zs (sdT L) (opn L L.length))) k 0=sdT L k:=pe _ hk;have sl:=wL (L:=L) (a:=As L k) sge;have zk':pvI (AB (Gt (zs (TW (NB L) (Di L L.length)) (opn L L.length))) k 0)=sdT L k:=zk;simp only [PXb,PXc,PXn,AJ,PXp,PXs,Q6,JO (show k≤1099511627776 by omega),BQ hk,Ap hk,C6,Nn,UT,sg.x0,sg.x1,rg,zk',PXt,uI hk];generalize hX:List.drop (As L k) (List.take (As L (k+1)) L)=X at *
      refine Ak (sF hN il rk hk ?_ ?_) ?_
      · intro xs self;simp only [PXb,PXc,PXn,AJ,sl,Bg]
      · intro i self hi xs hx;have hev:evR X i=evR L (As L k+i):=by rw [← hX];exact wz L i hi
        simp only [PXb,PXc,PXn,AJ,PXc,sl,JO (show i≤1099511627776 by omega),BQ hi,Ap hi,Nat.reduceAdd,JJ,nE,wx,hev];have hk':k<xs.length:=by rw [hx];exact hk
        generalize hd:C2 (sdT L) (opn L L.length) k (evR L (As L k+i)).side=d;have kx:pvI (AB X i 0)=(evR L (As L k+i)).kind:=congrArg Ev.kind hev;have sx:pvI (AB X i 1)=(evR L (As L k+i)).side:=congrArg Ev.side hev;have LD:ID N [.rows (Gt (zs (TW (NB L) (Di L L.length)) (opn L L.length))),.int (k:Int),.int (evR L (As L k+i)).side]=some [.int (pj d)]:=by rw [← hd];exact mw hN (by omega) hk
        have bx:(⟨pvI (AB X i 7),pvI (AB X i 8),pvI (AB X i 9),pvI (AB X i 10),pvI (AB X i 11),pvB (AB X i 12),pvI (AB X i 13),pvI (AB X i 14),pvI (AB X i 15),pvI (AB X i 16),pvB (AB X i 17),pvI (AB X i 18)⟩:Del)=(evR L (As L k+i)).ball:=congrArg Ev.ball hev;rw [kx];unfold jM;cases ho:Tv (evR L (As L k+i))<;>cases h4:(evR L (As L k+i)).kind==4<;>cases h13:(evR L (As L k+i)).kind==13
        all_goals simp only [PXb,PXc,PXn,AJ,PXc,PXs,PXt,Nat.reduceAdd,Fw,KZ,bx,sx,LD,GR,SW,List.length_set,Ap hk',hk',WL hk',List.set_set,Cre.ls,ho,h4,h13]
        all_goals first
          | (cases (AE (⟨r0,r1,r2,r3,r4,r5,r6,r7,r8,r9,r10,r11,r12,r13⟩:Rul) (evR L (As L k+i)).ball).counts<;>rfl)
          | (cases d with
             | none=>rfl
             | some j =>
               have dl:j<xs.length:=by rw [hx];exact rR hk hd
               have dl2:∀ y s,sco ((xs.set k y).set j s) j=s:=fun y s=>WL (by rw [List.length_set];exact dl) s
               simp only [pj,PXb,qu,Ap dl,List.length_set,WL dl,List.set_set,dl2])
      · simp only [PXb,PXc,PXn,AJ,PXc,PXb,PXc,PXn,PXm,Nat.reduceAdd,Int.reduceBEq]
    · simp only [PXb,PXc,PXn,PXm,Nat.reduceAdd,Int.reduceBEq]
theorem YV {r:Rul} {L:Rows} (h:DL r L=0):((A8 r).2==0)=true∧A5 r=0∧L.length≤4000∧acc L L.length 0 (A8 r).1∧Av r L=(stM L L.length 0 (A8 r).1,-1,0):=by
 unfold DL at h;cases hc:A5 r==0 with
 | false=>rw [hc] at h;rw [show A5 r=0 from h] at hc;cases hc
 | true =>
  cases hl:iLt 4000 (L.length:Int) with
  | true=>rw [hc,hl] at h;cases h
  | false =>
   cases hr:(Av r L).2.2==0 with
   | false=>rw [hc,hl,hr] at h;cases h
   | true =>
    have hn:=(Rv r).trans hc;have hrep:Av r L=CM L L.length 0 (A8 r).1:=by unfold Av;rw [hn];rfl
    obtain ⟨k,h1,h2,h3,h4⟩:=WI L L.length 0 (A8 r).1;have l4:L.length≤4000:=by simp only [iLt,decide_eq_false_iff_not] at hl;omega
    rcases h4 with ⟨h5,h6⟩ | ⟨h5,h6,h7⟩
    ·subst h5;exact ⟨hn,beq_iff_eq.1 hc,l4,h2,hrep.trans h6⟩
    ·rw [hrep,h7] at hr;rw [h6] at hr;cases hr
theorem xj {r:Rul} {L:Rows} (h:DL r L=0):InLog L∧RulOk r:=by
 obtain ⟨h1,h2,h3,h4,h5⟩:=YV h;obtain ⟨_,_,h6⟩:=OB h1 h4 L.length (Nat.le_refl _);refine ⟨⟨h3,fun j hj k13=>?_⟩,Fa h2⟩;have e:=beq_iff_eq.1 k13;have:=(h6 j hj).2.play (by rw [e];rfl) (by rw [e];rfl) (by rw [e];rfl) (by rw [e];rfl);exact Nat.le_trans this (ST L j)
theorem o8 {r:Rul} {L:Rows} (h:DL r L=0) {j:Nat} (hj:j<opn L L.length):j≤3∧(NB L=1∨NB L=2)∧sdT L j=sdF L L.length j∧jZ (NB L) (Di L L.length) j=sdF L L.length j:=by
 obtain ⟨h1,h2,h3,h4,h5⟩:=YV h;obtain ⟨_,_,h6⟩:=OB h1 h4 L.length (Nat.le_refl _);obtain ⟨a,p1,p2,p3,p4,p5⟩:=cL (L:=L) (by omega) L.length (Nat.le_refl _) j hj;obtain ⟨q1,v,q2,q3⟩:=(h6 a p2).2.two p4;rw [p3] at q1;have f:=UL q2 (show a≤L.length by omega);have fs:NB L=v:=by unfold NB;rw [f];rfl
 have oo:BR (BR (NB L))=NB L:=by rw [fs];rcases q3 with e | e<;>rw [e]<;>decide
 have un:=wE (NB L) (Di L L.length) q1;refine ⟨q1,by rw [fs];exact q3,?_,un⟩;unfold sdT;rw [vk oo];exact un
theorem jD {f g:Nat→Int} {s:Int} {n k:Nat} (h:∀ j,j<n→f j=g j) (hk:k<n):C2 f n k s=C2 g n k s:=by
 unfold C2;rw [Qk (f:=f) (g:=g) (k+1) (fun j hj=>h j (by omega))];have fw:∀ c i,i+c≤n→Nw f s c i=Nw g s c i:=by
  intro c
  induction c with
  | zero=>intro i _;rfl
  | succ c ih =>
   intro i hi;unfold Nw;rw [h i (by omega),ih (i+1) (by omega)]
 rw [fw _ _ (by omega)]
theorem ro {r:Rul} {L:Rows} {f g:Nat→Int} {j:Nat} (h:∀ j,j<opn L L.length→f j=g j) (hj:j<opn L L.length):BI r L f (opn L L.length) j L.length=BI r L g (opn L L.length) j L.length:=by
 have pn:∀ i,i≤L.length→pnS L f (opn L L.length) j i=pnS L g (opn L L.length) j i:=by
  intro i
  induction i with
  | zero=>intro _;rfl
  | succ i ih =>
   intro hi;have:=GG L hi;rw [Uy,Uy,ih (by omega),jD h (show opn L (i+1) - 1<opn L L.length by omega)]
 unfold BI;rw [pn _ (Nat.le_refl _),h j hj]
theorem vC {r:Rul} {L:Rows} (h:DL r L=0):Xp r L (sdT L)=(Av r L).1.inns.map (BX r.balls)∧(Av r L).1.inns.length=opn L L.length∧(Av r L).1.rules=r∧(Av r L).2.1 = -1∧(Av r L).2.2=0:=by
 obtain ⟨h1,h2,h3,h4,h5⟩:=YV h;have cl:=sJ h1 h4 L.length (Nat.le_refl _);obtain ⟨li,so,_⟩:=OB h1 h4 L.length (Nat.le_refl _);have e:Ef (stM L L.length 0 (A8 r).1)=Ef (Av r L).1:=by rw [h5]
 have rl:(Av r L).1.rules=r:=by rw [h5];exact so.rules
 refine ⟨?_,by rw [h5];exact li.len,rl,by rw [h5],by rw [h5]⟩;have ax:(Ef (Av r L).1).xs=(Av r L).1.inns.map (BX r.balls):=by unfold Ef;rw [rl]
 rw [← ax,← e];refine Q3 (by rw [cl.len];unfold Xp;rw [List.length_map,List.length_range]) (fun j hj=>?_);have hj:j<opn L L.length:=by unfold Xp at hj;rw [List.length_map,List.length_range] at hj;exact hj
 rw [cl.at' j hj,← ro (fun j hj=>(o8 h hj).2.2.1) hj,EV];unfold Xp;rw [List.getElem?_map,List.getElem?_range hj];rfl
def Po (q:Int) (s:Inn):Sco:=⟨s.side,s.runs,s.wickets,Cp q s.complete s.inover,s.wides,s.noballs,s.byes,s.legbyes,s.pens,s.ending⟩
theorem su (f:Inn→Sco) {xs:List Inn} {i:Nat} (h:i<xs.length):(xs.take i).map f++[f (inn xs i)]=(xs.take (i+1)).map f:=by
 rw [← WZ h,List.map_append];rfl
set_option maxHeartbeats 1000000 in
theorem gL {N:Nat} {m1 m2 m3 m4 m5 m6 m7 m9 m10 m11 m12 m14 m15 m18 m19 m20 m21 m22:Int} {m8 m16:Bool} {m0:ByteArray} {m13:Rows} {m17:List Inn} (hN:2097152<N) (hl:m17.length≤1000000):Er N [.str m0,.int m1,.int m2,.int m3,.int m4,.int m5,.int m6,.int m7,.bool m8,.int m9,.int m10,.int m11,.int m12,.rows m13,.int m14,.int m15,.bool m16,.rows (Ae m17),.int m18,.int m19,.int m20,.int m21,.int m22]=some [.rows (Al (m17.map (Po m4)))]:=by
 show Jy (std (Ld N) N) (xOf _)=_;generalize hres:(some [.rows (Al (m17.map (Po m4)))]:Option (List PV))=RR;simp only [Jy,Gv,lq9,std,xOf,PXb,PXi];subst hres;refine Ak (EI (len:=m17.length) (fun i=>[.rows (Al ((m17.take i).map (Po m4))),.int (i:Int)]) [.rows (Al (m17.map (Po m4)))] ?_ ?_ N (by omega)) rfl
 ·intro self;simp only [PXb,PXc,PXn,AJ,Bg,List.take_length]
 ·intro i self hi;have h3:iSm ((i+1:Nat):Int) 80=true:=GT (by omega) (by omega);have tl:(m17.take i).length=i:=by rw [List.length_take];omega
  simp only [PXb,PXc,PXn,AJ,JO (show i≤1099511627776 by omega),BQ hi,Ap hi,PXi,Gv,Sx,PXs,List.length_append,List.length_map,tl,List.length_cons,List.length_nil,Nat.reduceAdd,h3,PXt];rw [← su (Po m4) hi];rfl
def yG (s:Sco):Sco:={ s with ending:=0 }
def Ri (xs:List Sco):Nat→List Sco
 | 0=>xs
 | i+1=>(Ri xs i).set i { sco (Ri xs i) i with ending:=0 }
theorem fW (xs:List Sco):∀ i,(Ri xs i).length=xs.length
 | 0=>rfl
 | i+1=>by
  show ((Ri xs i).set i _).length=_;rw [List.length_set,fW xs i]
theorem rq (xs:List Sco):∀ i,i≤xs.length→∀ j,j<xs.length→sco (Ri xs i) j=(if j<i then yG (sco xs j) else sco xs j)
 | 0,_,j,_=>by rw [if_neg (Nat.not_lt_zero j)];rfl
 | i+1,hi,j,hj=>by
  show sco ((Ri xs i).set i _) j=_;rw [Qy _ _ _ _ (by rw [fW];exact hj)];have ih:=rq xs i (by omega)
  by_cases e:i=j
  ·subst e;rw [if_pos rfl,if_pos (Nat.lt_succ_self _),ih i (by omega),if_neg (Nat.lt_irrefl _)];rfl
  ·rw [if_neg e,ih j hj]
   by_cases hl:j<i
   ·rw [if_pos hl,if_pos (by omega)]
   ·rw [if_neg hl,if_neg (by omega)]
theorem oU {x:Option (List PV)} {v:List PV} {f:List PV→Option (List PV)} {r:Option (List PV)} (h:x=some v) (hk:f v=r):x.bind f=r:=by rw [h];exact hk
theorem Zv (L:Rows) {j n:Nat} (h:n≤j):BE (BE L (j:Int)) (n:Int)=BE L (n:Int):=by
 unfold BE;rw [Int.toNat_natCast,Int.toNat_natCast,show (0:Int).toNat=0 from rfl,List.drop_zero,List.drop_zero,List.drop_zero,List.take_take,Nat.min_eq_left h]
def qC (r:Rul) (L:Rows):Rows:=cond (iLe 0 (Av r L).2.1) (BE L (Av r L).2.1) L
theorem sQ {r:Rul} (L:Rows) (hc:(A5 r==0)=true):∃ j,j≤L.length∧acc L j 0 (A8 r).1∧qC r L=BE L (j:Int):=by
 obtain ⟨j,h1,h2,_,h4⟩:=WI L L.length 0 (A8 r).1;have hrep:Av r L=CM L L.length 0 (A8 r).1:=by unfold Av;rw [Rv,hc];rfl
 refine ⟨j,h1,h2,?_⟩;unfold qC;rw [hrep]
 rcases h4 with ⟨h5,h6⟩ | ⟨h5,h6,h7⟩
 ·rw [h6,h5];exact (rE L).symm
 ·rw [h7,Nat.zero_add];have:iLe 0 (j:Int)=true:=by simp only [iLe,decide_eq_true_eq];omega
  rw [this];rfl
theorem wh (r:Rul) (L:Rows) (h:iLe 0 (Av r L).2.1=true):iRg 0 (Av r L).2.1 (L.length:Int)=true:=by
 simp only [iLe,decide_eq_true_eq] at h;simp only [iRg,decide_eq_true_eq];refine ⟨Int.le_refl 0,h,?_⟩;cases hc:A5 r==0 with
 | false =>
  rw [pd L hc];show (0:Int)≤_;omega
 | true =>
  obtain ⟨j,h1,h2,_,h4⟩:=WI L L.length 0 (A8 r).1;have hrep:Av r L=CM L L.length 0 (A8 r).1:=by unfold Av;rw [Rv,hc];rfl
  rw [hrep]
  rcases h4 with ⟨h5,h6⟩ | ⟨h5,h6,h7⟩
  ·rw [h6];show (-1:Int)≤_;omega
  ·rw [h7];show ((0+j:Nat):Int)≤_;omega
set_option maxHeartbeats 1000000 in
theorem ej {N:Nat} {r8:Bool} {r0:ByteArray} {r13:Rows} {L:Rows} (hN:2097152<N) (hs:r0.size≤1048576) (h13:r13.length≤1048576) (hL:L.length≤1048576):Gk N [.str r0,.int r1,.int r2,.int r3,.int r4,.int r5,.int r6,.int r7,.bool r8,.int r9,.int r10,.int r11,.int r12,.rows r13,.rows L]=some [.rows (qC (⟨r0,r1,r2,r3,r4,r5,r6,r7,r8,r9,r10,r11,r12,r13⟩:Rul) L)]:=by
 show G4 (std (De N) N) (xOf _)=_;simp only [G4,Qh,lq9,std,xOf,PXb,Ry hN hs h13 hL,jP];unfold qC;cases hb:iLe 0 (Av (⟨r0,r1,r2,r3,r4,r5,r6,r7,r8,r9,r10,r11,r12,r13⟩:Rul) L).2.1 with
 | false=>rfl
 | true =>
  rw [wh _ _ hb];rfl
theorem wH {r:Rul} {X:Rows} {n:Nat} (hc:(A5 r==0)=true) (h:n≤X.length) (ha:acc X n 0 (A8 r).1):atS r (BE X (n:Int)) (n:Int)=(stM X n 0 (A8 r).1,0):=by
 unfold atS;rw [hc,MP h,xV (Nat.le_refl n),Zv X (Nat.le_refl n),Tw hc h ha];rfl
set_option maxHeartbeats 8000000 in
theorem iZ {N:Nat} {r8:Bool} {r0:ByteArray} {r13:Rows} {L:Rows} {k:Int} (ha:D7 N []=some [.bool true]) (hN:2097152<N) (hs:r0.size≤1048576) (hk:0≤k∧k≤255):H8 N [.str r0,.int r1,.int r2,.int r3,.int r4,.int r5,.int r6,.int r7,.bool r8,.int r9,.int r10,.int r11,.int r12,.rows r13,.rows L,.int k]=some [.bool true]:=by
 show H1 (std (BL N) N) (xOf _)=_;have nn:=mH (⟨r0,r1,r2,r3,r4,r5,r6,r7,r8,r9,r10,r11,r12,r13⟩:Rul) hs;have p:=iY (⟨r0,r1,r2,r3,r4,r5,r6,r7,r8,r9,r10,r11,r12,r13⟩:Rul);have l:(cut L 70).length≤1048576:=Nat.le_trans (lg L 70) (show 70≤1048576 by omega);have l70:(cut L 70).length≤70:=lg L 70;simp only [H1,PB,Qr,PR,US,Qa,WQ,Pm,Pb,lq9,std,xOf,PXb,ha,iv,sM,Rul.ls,ej hN nn p l,CV hN nn];generalize VW (⟨r0,r1,r2,r3,r4,r5,r6,r7,r8,r9,r10,r11,r12,r13⟩:Rul)=R at *
 generalize cut L 70=X at *
 have eta:(⟨R.name,R.side,R.innings,R.overs,R.balls,R.quota,R.wide,R.noball,R.freehit,R.newball,R.followon,R.reviews,R.outside,R.power⟩:Rul)=R:=rfl;simp only [eta];cases hc:A5 R==0
 case false=>rfl
 obtain ⟨j,h1,h2,h3⟩:=sQ X hc;have lj:=MP h1;obtain ⟨n,hn,hk'⟩:=xO (k:=j+1) hk.1 (by omega) (by omega);have an:=qi j n 0 _ (by omega) h2;have wk:IntKind.i64.wrap k=k:=DG (by omega) (by omega);have wj:IntKind.i64.wrap ((j:Int)+1)=((j+1:Nat):Int):=DG (by omega) (by omega);have hz:((((j+1:Nat):Int))==0)=false:=beq_false_of_ne (by omega);have rn:iRg 0 (n:Int) (j:Int)=true:=by simp only [iRg,decide_eq_true_eq];omega
 have zn:List.drop (Int.toNat 0) (List.take n (BE X (j:Int)))=BE X (n:Int):=Zv X (by omega);have nl:n≤X.length:=by omega
 have ln:=MP nl;have lz:(BE X (n:Int)).length≤1048576:=by omega
 have c0:DL R (BE X (n:Int))=0:=oq hc nl l70 an;obtain ⟨t1,t2,t3,t4,t5⟩:=vC c0;have rp:=Tw hc nl an;have on:=qo (r:=R) (BE X (n:Int)) nn p;have as:=wH hc nl an;rw [rp] at t1 t3 on;simp only [h3,lj,wk,wj,hk',hz,rn,zn,ln,Int.toNat_natCast,Bool.not_true,Bool.not_false,PXb];have A1:Ny N [.str R.name,.int R.side,.int R.innings,.int R.overs,.int R.balls,.int R.quota,.int R.wide,.int R.noball,.bool R.freehit,.int R.newball,.int R.followon,.int R.reviews,.int R.outside,.rows R.power,.rows (BE X (n:Int)),.int (n:Int)]=some (LM (atS R (BE X (n:Int)) (n:Int))):=tC (N:=N) (n:=(n:Int)) hN nn p lz;have A2:Gr N [.str R.name,.int R.side,.int R.innings,.int R.overs,.int R.balls,.int R.quota,.int R.wide,.int R.noball,.bool R.freehit,.int R.newball,.int R.followon,.int R.reviews,.int R.outside,.rows R.power,.rows (BE X (n:Int))]=some [.rows (cond (!(DL R (BE X (n:Int))==0)) [] (Al (Xp R (BE X (n:Int)) (sdT (BE X (n:Int)))))),.int (DL R (BE X (n:Int)))]:=f7 (N:=N) hN nn p lz xj;rw [as] at A1;rw [c0,t1] at A2;refine oU A1 ?_;simp only [PXb,LM,Nat.reduceAdd];refine oU A2 ?_;generalize stM X n 0 (A8 R).1=m at *
 have hl:m.inns.length≤5:=on.len;have sc:=gL (N:=N) (m0:=m.rules.name) (m1:=m.rules.side) (m2:=m.rules.innings) (m3:=m.rules.overs) (m4:=m.rules.balls) (m5:=m.rules.quota) (m6:=m.rules.wide) (m7:=m.rules.noball) (m8:=m.rules.freehit) (m9:=m.rules.newball) (m10:=m.rules.followon) (m11:=m.rules.reviews) (m12:=m.rules.outside) (m13:=m.rules.power) (m14:=m.stage) (m15:=m.first) (m16:=m.follow) (m17:=m.inns) (m18:=m.pen1) (m19:=m.pen2) (m20:=m.win) (m21:=m.wside) (m22:=m.margin) hN (by omega);have qb:m.rules.balls=R.balls:=by rw [show m.rules=R from t3]
 rw [show Po m.rules.balls=Po R.balls by rw [qb]] at sc;simp only [PXb,LM,Nat.reduceAdd,sc,PXs,List.length_map,beq_self_eq_true,Bool.not_true,Bool.not_false];refine Ak (EI (len:=m.inns.length) (fun i=>[.rows (Al (Ri (m.inns.map (Po R.balls)) i)),.int (i:Int)]) [.int 1] ?_ ?_ N (by omega)) rfl
 ·intro self;simp only [PXb,Bg]
 ·intro i self hi;have e9:Ri (m.inns.map (Po R.balls)) (i+1)=(Ri (m.inns.map (Po R.balls)) i).set i { sco (Ri (m.inns.map (Po R.balls)) i) i with ending:=0 }:=rfl;have ci:sco (Ri (m.inns.map (Po R.balls)) (i+1)) i=BX R.balls (inn m.inns i):=by
   rw [rq _ _ (by rw [List.length_map];omega) i (by rw [List.length_map];omega),if_pos (Nat.lt_succ_self _),EV,List.getElem?_map,Kw,zzo hi];rfl
  simp only [PXb,PXs,PXt,← e9,ci,fW,List.length_map,JO (show i≤1099511627776 by omega),BQ hi,Ap hi,Q1 _ _ hi,BX,beq_self_eq_true,Bool.and_self,Bool.not_true]
end Go.Px
end
