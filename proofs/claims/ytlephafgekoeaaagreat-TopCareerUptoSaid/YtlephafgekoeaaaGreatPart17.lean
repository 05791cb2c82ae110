/- Part 17. -/
import Derived.Test.YtlephafgekoeaaaGreatPart16
import Derived.Test.YtlephafgekoeaaaGreatPart08
import Derived.Shelf.SlGeneric
import Derived.Shelf.SortG.Plain
import Derived.Shelf.SortG.SortNone
import Derived.Shelf.SlicesG.CompactS
import Derived.Test.YtlephafgekoeaaaGreatProg
set_option linter.unusedVariables false
set_option linter.unusedSimpArgs false
variable {r1 r2 r3 r4 r5 r6 r7 r9 r10 r11 r12:Int}
section
namespace Go.Px
set_option maxRecDepth 100000
theorem YX {F:(List AQ→Option (List PV))→List PV→Option (List PV)} {len:Nat} (P:Nat→List PV→Prop) (Q:List PV→Prop)
    (h0:∀v self,P len v→∃w,F self v=some w∧Q w)
    (h1:∀j v self,j<len→P j v→∃ls:List AQ,F self v=self ls∧P (j+1) (ls.map Leaf.pv)) (n:Nat) (hn:len<n) {v:List PV} (hv:P 0 v):∃w,C1 F n v=some w∧Q w:=by
  have main:∀(k i n:Nat) (v:List PV),i+k=len→k<n→P i v→∃w,C1 F n v=some w∧Q w:=by
    intro k
    induction k with
    |zero =>
      intro i n v hk hn hv;obtain⟨n,rfl⟩:∃m,n=m+1:=⟨n-1,by omega⟩;obtain rfl:i=len:=by omega
      exact h0 v _ hv
    |succ k ih =>
      intro i n v hk hn hv;obtain⟨n,rfl⟩:∃m,n=m+1:=⟨n-1,by omega⟩;obtain⟨ls,e,p⟩:=h1 i v (fun ls=>C1 F n (ls.map Leaf.pv)) (by omega) hv;obtain⟨w,e2,q⟩:=ih (i+1) n _ (by omega) (by omega) p;exact⟨w,e.trans e2,q⟩
  exact main len 0 n v (by omega) hn hv
theorem AAa {x:Option (List PV)} {Q T:List PV→Prop} {k:List PV→Option (List PV)} (h:∃w,x=some w∧Q w) (hk:∀w,Q w→∃u,k w=some u∧T u):∃u,x.bind k=some u∧T u:=by
 grind
theorem cC {x:Option (List PV)} {Q:List PV→Prop} {T:List AQ→Prop} {k:List PV→Option (List PV)} {self:List AQ→Option (List PV)} (h:∃w,x=some w∧Q w) (hk:∀w,Q w→∃ls,k w=self ls∧T ls):∃ls,x.bind k=self ls∧T ls:=by
 grind
theorem Ua (a b:Int):IntKind.i64.wrap (IntKind.i64.wrap a+b)=IntKind.i64.wrap (a+b):=by
 rw[Jm,Jm,Jm];omega
def oZ (R:Rows) (p:Int) (i:Nat):Int:=cond (pvI (AD R i 0)==p&&pvB (AD R i 9)) (pvI (AD R i 1)) 0
def Rq (R:Rows) (p:Int):Nat→Int
 |0=>0
 |i+1=>Rq R p i+oZ R p i
def rwU (X:List Rows) (k:Nat):Rows:=X.getD k []
def Td (c:Crd) (s p:Int):Nat→Int
 |0=>0
 |k+1=>Td c s p k+cond (pvI (AD c.S k 0)==s) (Rq (rwU c.U k) p (rwU c.U k).length) 0
def PR (cs:List Crd) (s p:Int):Nat→Int
 |0=>0
 |j+1=>PR cs s p j+Td (crd cs j) s p (crd cs j).S.length
structure CrdOk (c:Crd):Prop where
 s:c.S.length≤4
 u:c.U.length=c.S.length
 v:c.V.length=c.S.length
 us:∀r,r∈c.U→r.length≤1048576
 vs:∀r,r∈c.V→r.length≤1048576
theorem gu {X:List Rows} {k:Nat} (h:k<X.length):pvL (AD (AY X) k 0)=rwU X k∧rwU X k∈X:=by
 have e:rwU X k=X[k]:=by
  unfold rwU;rw[zzk,zzn h];rfl
 rw[XT h,e];exact⟨rfl,List.getElem_mem h⟩
theorem ADE {q:Sds} {c:Crd}:pvI (AA (crR q c) 0)=c.no∧pvS (AA (crR q c) 1)=q.n∧pvL (AA (crR q c) 2)=q.A∧pvI (AA (crR q c) 3)=q.a∧pvI (AA (crR q c) 4)=q.b∧pvS (AA (crR q c) 5)=q.m∧pvL (AA (crR q c) 6)=q.B∧pvI (AA (crR q c) 7)=q.d∧pvI (AA (crR q c) 8)=q.e∧pvL (AA (crR q c) 9)=c.S∧pvL (AA (crR q c) 10)=AY c.U∧pvL (AA (crR q c) 11)=AY c.V:=⟨rfl,rfl,rfl,rfl,rfl,rfl,rfl,rfl,rfl,rfl,rfl,rfl⟩
set_option maxHeartbeats 8000000 in
theorem XJ {N:Nat} {q:Sds} {cs:List Crd} {x:ByteArray} {sd p:Int} (hN:2097152<N) (hX:cs.length≤3) (hA:q.A.length≤1048576) (hB:q.B.length≤1048576) (ok:∀ j,j<cs.length→CrdOk (crd cs j)) (hs:Gk q.A q.B x=(sd,p)) (h0:sd≠0) :
    ∃w,DW N [.rows [[.rows (CK q cs)]],.str x]=some w∧∃s a1 a2 a3 a4 a5 a6 a7 a8 a9,w=[.str s,.int (cs.length:Nat),.int a1,.int a2,.int (IntKind.i64.wrap (PR cs sd p cs.length)),.int a3,.int a4,.int a5,.int a6,.int a7,.int a8,.int a9]:=by
  show∃w,E3 (std (D9 N) N) (xOf _)=some w∧_;have lc:=I4 q cs;have row:∀i,i<cs.length→∀c,AD (CK q cs) i c=AA (crR q (crd cs i)) c:=fun i h c=>by unfold AD;rw[W3 q h]
  have hz:(sd==0)=false:=beq_eq_false_iff_ne.2 h0;simp only[E3,Ks,Kp,lq9,std,xOf,PXb];show∃w,Option.bind (Option.bind (some [PV.rows (CK q cs)]) _) _=some w∧_;simp only[Option.bind_some];refine AAa (Q:=fun w=>∃s a1 a2 a3 a4 a5 a6 a7 a8 a9,w=[.str s,.int (cs.length:Nat),.int a1,.int a2,.int (IntKind.i64.wrap (PR cs sd p cs.length)),.int a3,.int a4,.int a5,.int a6,.int a7,.int a8,.int a9])
    (YX (len:=cs.length) (fun j v=>∃best s a1 a2 a3 a4 a5 a6 a7 a8 a9,v=[.rows best,.int (j:Nat),.str s,.int (j:Nat),.int a1,.int a2,.int (IntKind.i64.wrap (PR cs sd p j)),.int a3,.int a4,.int a5,.int a6,.int a7,.int a8,.int a9]∧best.length≤1) _ ?_ ?_ N (by omega) ⟨[],_,_,_,_,_,_,_,_,_,_,rfl,by simp⟩) ?_
  · rintro v self ⟨best,s,a1,a2,a3,a4,a5,a6,a7,a8,a9,rfl,hb⟩
    simp only[PXb,PXc,PXn,AE,lc,Aj,Nat.reduceAdd];exact⟨_,rfl,_,_,_,_,_,_,_,_,_,_,rfl⟩
  · rintro j v self hj ⟨best,s,a1,a2,a3,a4,a5,a6,a7,a8,a9,rfl,hb⟩
    have okj:=ok j hj;have hS:=okj.s;have hU:=okj.u;have hV:=okj.v;have lU:=Fo (crd cs j).U;have lV:=Fo (crd cs j).V;have es:PR cs sd p (j+1)=PR cs sd p j+Td (crd cs j) sd p (crd cs j).S.length:=rfl;rw[es];have rw2:=row _ hj;generalize crd cs j=c at *
    have kn:EL N [.int c.no,.str q.n,.rows q.A,.int q.a,.int q.b,.str q.m,.rows q.B,.int q.d,.int q.e,.rows c.S,.rows (AY c.U),.rows (AY c.V),.str x]=some [.int sd,.int p]:=by
      rw[eO hN hA hB,hs]
    simp only[PXb,PXc,PXn,AE,lc,Aa hj,AJ hj,Int.toNat_natCast,rw2,ADE,kn,hz,Ai (show j≤1099511627776 by omega),Nat.reduceAdd];generalize PR cs sd p j=R0;refine cC (Q:=fun w=>∃best s a1 a2 a3 a4 a5 a6 a7 a8 a9,w=[.rows best,.int (c.S.length:Nat),.str s,.int ((j+1:Nat):Int),.int a1,.int a2,.int (IntKind.i64.wrap (R0+Td c sd p c.S.length)),.int a3,.int a4,.int a5,.int a6,.int a7,.int a8,.int a9,.int c.no,.str q.n,.rows q.A,.int q.a,.int q.b,.str q.m,.rows q.B,.int q.d,.int q.e,.rows c.S,.rows (AY c.U),.rows (AY c.V)]∧best.length≤1)
      (YX (len:=c.S.length) (fun k v=>∃best s a1 a2 a3 a4 a5 a6 a7 a8 a9,v=[.rows best,.int (k:Nat),.str s,.int ((j+1:Nat):Int),.int a1,.int a2,.int (IntKind.i64.wrap (R0+Td c sd p k)),.int a3,.int a4,.int a5,.int a6,.int a7,.int a8,.int a9,.int c.no,.str q.n,.rows q.A,.int q.a,.int q.b,.str q.m,.rows q.B,.int q.d,.int q.e,.rows c.S,.rows (AY c.U),.rows (AY c.V)]∧best.length≤1) _ ?_ ?_ N (by omega) ⟨best,_,_,_,_,_,_,_,_,_,_,by show _=[PV.rows best,_,_,_,_,_,PV.int (IntKind.i64.wrap (R0+0)),_,_,_,_,_,_,_,_,_,_,_,_,_,_,_,_,_,_,_];rw[Int.add_zero];rfl,hb⟩) ?_
    · rintro v self ⟨best,s,a1,a2,a3,a4,a5,a6,a7,a8,a9,rfl,hb⟩
      simp only[PXb,PXc,PXn,AE,Aj,Nat.reduceAdd];exact⟨_,rfl,best,_,_,_,_,_,_,_,_,_,_,rfl,hb⟩
    · rintro k v self hk ⟨best,s,a1,a2,a3,a4,a5,a6,a7,a8,a9,rfl,hb⟩
      obtain⟨eU,mU⟩:=gu (X:=c.U) (k:=k) (by omega);obtain⟨eV,mV⟩:=gu (X:=c.V) (k:=k) (by omega);have hu:=okj.us _ mU;have hv:=okj.vs _ mV;have iu:iIn (k:Int) ((AY c.U).length:Int)=true:=AJ (by rw[lU,hU];exact hk);have iv:iIn (k:Int) ((AY c.V).length:Int)=true:=AJ (by rw[lV,hV];exact hk);have ec:Td c sd p (k+1)=Td c sd p k+cond (pvI (AD c.S k 0)==sd) (Rq (rwU c.U k) p (rwU c.U k).length) 0:=rfl;rw[ec,←Int.add_assoc];simp only[PXb,PXc,PXn,AE,Aa hk,AJ hk,Int.toNat_natCast,iu,iv,eU,eV,Ai (show k≤1099511627776 by omega),Nat.reduceAdd];generalize rwU c.U k=R at *
      generalize rwU c.V k=V at *
      generalize R0+Td c sd p k=R1;cases hc:pvI (AD c.S k 0)==sd
      · simp only [cond_false,Int.add_zero];refine cC (Q:=fun w=>∃ best s a1 a2 a3 a4 a5 a6 a7 a8 a9,w=[.rows best,.int (V.length:Nat),.str s,.int ((j+1:Nat):Int),.int a1,.int a2,.int (IntKind.i64.wrap R1),.int a3,.int a4,.int a5,.int a6,.int a7,.int a8,.int a9]∧best.length≤1)
          (YX (len:=V.length) (fun i v=>∃best s a1 a2 a3 a4 a5 a6 a7 a8 a9,v=[.rows best,.int (i:Nat),.str s,.int ((j+1:Nat):Int),.int a1,.int a2,.int (IntKind.i64.wrap R1),.int a3,.int a4,.int a5,.int a6,.int a7,.int a8,.int a9]∧best.length≤1) _ ?_ ?_ N (by omega) ⟨best,_,_,_,_,_,_,_,_,_,_,rfl,hb⟩) ?_
        · rintro v self ⟨best,s,a1,a2,a3,a4,a5,a6,a7,a8,a9,rfl,hb⟩
          simp only[PXb,PXc,PXn,AE,Aj,Nat.reduceAdd];exact⟨_,rfl,best,_,_,_,_,_,_,_,_,_,_,rfl,hb⟩
        · rintro i v self hi ⟨best,s,a1,a2,a3,a4,a5,a6,a7,a8,a9,rfl,hb⟩
          have sl:(List.drop i (List.take (i+1) V)).length≤1:=by rw[List.length_drop,List.length_take];omega
          have si:iSm (i:Int) 1=true:=C4 (by omega) (by omega);have i0:iIn 0 1=true:=rfl;simp only[PXb,PXc,PXn,AE,Aa hi,AJ hi,Int.toNat_natCast,Ai (show i≤1099511627776 by omega),Nat.reduceAdd,iu,iv,eV,si];cases h1:pvI (AD V i 0)==p
          · exact⟨_,rfl,best,_,_,_,_,_,_,_,_,_,_,rfl,hb⟩
          simp only[Bool.not_true,cond_false]
          rcases best with _|⟨b0,_|⟨b1,t⟩⟩
          · exact⟨_,rfl,_,_,_,_,_,_,_,_,_,_,_,rfl,sl⟩
          · have e1:(((([b0]:Rows).length:Nat):Int)==0)=false:=rfl;have e2:iIn 0 ((([b0]:Rows).length:Nat):Int)=true:=rfl;simp only[e1,e2,Bool.false_or,Bool.not_false,cond_true];refine cC (Q:=fun w=>∃v,w=[PV.bool v]) dy ?_
            rintro w ⟨v,rfl⟩
            cases v
            · exact⟨_,rfl,_,_,_,_,_,_,_,_,_,_,_,rfl,hb⟩
            exact⟨_,rfl,_,_,_,_,_,_,_,_,_,_,_,rfl,sl⟩
          exact absurd hb (by simp)
        rintro w ⟨best,s,a1,a2,a3,a4,a5,a6,a7,a8,a9,rfl,hb⟩
        exact⟨_,rfl,best,_,_,_,_,_,_,_,_,_,_,rfl,hb⟩
      simp only[cond_true];refine cC (Q:=fun w=>∃s a1 a2 a3 a4 a5 a6 a7 a8 a9,w=[.str s,.int ((j+1:Nat):Int),.int a1,.int a2,.int (IntKind.i64.wrap (R1+Rq R p R.length)),.int a3,.int a4,.int a5,.int a6,.int a7,.int a8,.int a9])
        (YX (len:=R.length) (fun i v=>∃s a1 a2 a3 a4 a5 a6 a7 a8 a9,v=[.int (i:Nat),.str s,.int ((j+1:Nat):Int),.int a1,.int a2,.int (IntKind.i64.wrap (R1+Rq R p i)),.int a3,.int a4,.int a5,.int a6,.int a7,.int a8,.int a9]) _ ?_ ?_ N (by omega) ⟨_,_,_,_,_,_,_,_,_,_,by show _=[_,_,_,_,_,PV.int (IntKind.i64.wrap (R1+0)),_,_,_,_,_,_,_];rw[Int.add_zero];rfl⟩) ?_
      · rintro v self ⟨s,a1,a2,a3,a4,a5,a6,a7,a8,a9,rfl⟩
        simp only[PXb,PXc,PXn,AE,Aj,Nat.reduceAdd];exact⟨_,rfl,_,_,_,_,_,_,_,_,_,_,rfl⟩
      · rintro i v self hi ⟨s,a1,a2,a3,a4,a5,a6,a7,a8,a9,rfl⟩
        have eb:Rq R p (i+1)=Rq R p i+oZ R p i:=rfl;rw[eb,←Int.add_assoc];unfold oZ;simp only[PXb,PXc,PXn,AE,Aa hi,AJ hi,Int.toNat_natCast,Ai (show i≤1099511627776 by omega),Nat.reduceAdd];cases h1:pvI (AD R i 0)==p<;>cases h2:pvB (AD R i 9)<;>simp only[Bool.not_true,Bool.not_false,Bool.or_true,Bool.or_false,Bool.and_true,Bool.and_false,cond_true,cond_false,Int.add_zero,Ua]
        · exact⟨_,rfl,_,_,_,_,_,_,_,_,_,_,rfl⟩
        · exact⟨_,rfl,_,_,_,_,_,_,_,_,_,_,rfl⟩
        · exact⟨_,rfl,_,_,_,_,_,_,_,_,_,_,rfl⟩
        cases pvB (AD R i 5)<;>simp only[Bool.not_true,Bool.not_false,cond_true,cond_false,Ua]<;>exact⟨_,rfl,_,_,_,_,_,_,_,_,_,_,rfl⟩
      rintro w ⟨s,a1,a2,a3,a4,a5,a6,a7,a8,a9,rfl⟩
      exact⟨_,rfl,best,_,_,_,_,_,_,_,_,_,_,rfl,hb⟩
    rintro w ⟨best,s,a1,a2,a3,a4,a5,a6,a7,a8,a9,rfl,hb⟩
    exact⟨_,rfl,best,_,_,_,_,_,_,_,_,_,_,rfl,hb⟩
  rintro w ⟨s,a1,a2,a3,a4,a5,a6,a7,a8,a9,rfl⟩
  exact⟨_,rfl,_,_,_,_,_,_,_,_,_,_,rfl⟩
theorem zx (bs:ByteArray) (i:Nat) (r:List UInt8):ByteArray.toList.loop bs i r=r.reverse++bs.data.toList.drop i:=by
 induction i,r using ByteArray.toList.loop.induct (bs:=bs)with
 |case1 i r h ih =>
  unfold ByteArray.toList.loop;rw[if_pos h,ih];have h2:i<bs.data.toList.length:=h;rw[List.drop_eq_getElem_cons h2,List.reverse_cons,List.append_assoc];have e:bs.get! i=bs.data.toList[i]:=by
   show bs.data[i]! = _;rw[getElem!_pos bs.data i h];rfl
  rw[e];rfl
 |case2 i r h =>
  unfold ByteArray.toList.loop;rw[if_neg h,List.drop_eq_nil_of_le (by have:¬i<bs.data.toList.length:=h;omega),List.append_nil]
theorem toL (b:ByteArray):b.toList=b.data.toList:=(zx b 0 []).trans rfl
def nm (A:Rows) (i:Nat):List UInt8:=Ay (AB A i)
theorem cG {r:List PV} {A:Rows} {j:Nat}:sEq (pvS (AA r 0)) (pvS (AD A j 0))=true↔Ay r=nm A j:=by
 unfold sEq;rw[beq_iff_eq,toL,toL];rfl
def yr (A:Rows):Prop:=∀i j,j<i→i<A.length→nm A i≠nm A j
theorem mc {ans:Nat→Option (List PV)} {r:List PV}:∀(k i:Nat),Ax ans k i=some r→∃j,ans j=some r
 |0,i,h=>by cases h
 |k+1,i,h=>by
  simp only[Ax]at h;cases ha:ans i with
  |some x=>rw[ha]at h;exact⟨i,ha.trans h⟩
  |none=>rw[ha]at h;exact mc k (i+1) h
theorem YW {n:ByteArray} {Q:Rows} {c k:Int} (h:Cm n Q c k=0):yr Q∧2≤Q.length∧Q.length≤11:=by
 unfold Cm at h;cases hn : !GC n
 ·rw[hn,cond_false]at h;cases hl:iLt (Q.length:Int) 2||iLt 11 (Q.length:Int)
  ·rw[hl,cond_false]at h;simp only[iLt,Bool.or_eq_false_iff,decide_eq_false_iff_not]at hl;refine⟨?_,by omega,by omega⟩;cases hf:Ax (Rl Q) Q.length 0 with
   |some r =>
    rw[hf]at h;obtain⟨j,hj⟩:=mc _ _ hf;unfold Rl at hj;cases h1 : !GC (pvS (AD Q j 0))
    ·rw[h1,cond_false]at hj;cases h2:A8 (fun i=>sEq (pvS (AD Q j 0)) (pvS (AD Q i 0))) j 0
     ·rw[h2,cond_false]at hj;cases hj
     rw[h2,cond_true]at hj
     injection hj with hj
     change pvI (AA r 0)=0 at h;rw[←hj]at h;exact absurd h (by decide)
    rw[h1,cond_true]at hj
    injection hj with hj
    change pvI (AA r 0)=0 at h;rw[←hj]at h;exact absurd h (by decide)
   |none =>
    intro i j hji hi e;have a:=Sb _ _ hf i (Nat.zero_le _) (by omega);unfold Rl at a;cases h1 : !GC (pvS (AD Q i 0))
    ·rw[h1,cond_false]at a;cases h2:A8 (fun j=>sEq (pvS (AD Q i 0)) (pvS (AD Q j 0))) i 0
     ·have:=EP.1 h2 j (Nat.zero_le _) (by omega);have t:sEq (pvS (AD Q i 0)) (pvS (AD Q j 0))=true:=(cG (r:=AB Q i)).2 e;rw[t]at this;cases this
     rw[h2]at a;cases a
    rw[h1]at a;cases a
  rw[hl]at h;cases h
 rw[hn]at h;cases h
theorem yw {A B:Rows} (h:WK A B=false) {i j:Nat} (hi:i<A.length) (hj:j<B.length):nm A i≠nm B j:=by
 intro e;have a:=EP.1 h i (Nat.zero_le _) (by omega);have b:=EP.1 a j (Nat.zero_le _) (by omega);have t:sEq (pvS (AD A i 0)) (pvS (AD B j 0))=true:=(cG (r:=AB A i)).2 e;rw[t]at b;cases b
def Gj (r:List PV):ByteArray:=pvS (AA r 0)
theorem ua {A:Rows} {r:List PV}:(Hi A (Gj r)=true∧∃j,j<A.length∧Ay r=nm A j∧QY A (Gj r)=(j:Int)+1)∨(Hi A (Gj r)=false∧∀j,j<A.length→Ay r≠nm A j):=by
 unfold Hi QY Dj
 rcases SZ (fun j=>sEq (Gj r) (pvS (AD A j 0))) (fun j=>[PV.int (j:Int)]) A.length 0 with⟨h1,j,h2,h3,h4,h5⟩|⟨h1,h2⟩
 ·refine .inl ⟨h1,j,by omega,cG.1 h4,?_⟩;have h5:Ax (DS fun j=>sEq (Gj r) (pvS (AD A j 0))) A.length 0=some [PV.int (j:Int)]:=h5;rw[h5];rfl
 refine .inr ⟨h1,fun j hj e=>?_⟩;have:=EP.1 h1 j (Nat.zero_le _) (by omega);have t:sEq (Gj r) (pvS (AD A j 0))=true:=cG.2 e;rw[t]at this;cases this
def UQ (A B:Rows) (r:List PV):Int:=(Gk A B (Gj r)).1*1000+(Gk A B (Gj r)).2
theorem YA {A B:Rows} {r:List PV} (lA:A.length≤11) (lB:B.length≤11) :
    (∃j,j<A.length∧Ay r=nm A j∧Gk A B (Gj r)=(1,(j:Int)+1))∨((∀j,j<A.length→Ay r≠nm A j)∧∃j,j<B.length∧Ay r=nm B j∧Gk A B (Gj r)=(2,(j:Int)+1))∨((∀j,j<A.length→Ay r≠nm A j)∧(∀j,j<B.length→Ay r≠nm B j)):=by
  unfold Gk
  rcases ua (A:=A) (r:=r)with⟨h1,j,h2,h3,h4⟩|⟨h1,h2⟩
  · exact .inl ⟨j,h2,h3,by rw[h1,h4];rfl⟩
  rcases ua (A:=B) (r:=r)with⟨g1,j,g2,g3,g4⟩|⟨g1,g2⟩
  · exact .inr (.inl ⟨h2,j,g2,g3,by rw[h1,g1,g4];rfl⟩)
  exact .inr (.inr ⟨h2,g2⟩)
theorem pG:∀{x:List UInt8} {l:Rows} {r:List PV},r∈l→Ay r=x∨∃r',r'∈D7.go x l∧Ay r'=Ay r
 |x,y::l,r,h=>by
  unfold D7.go;cases hc:x==Ay y
  ·rw[cond_false]
   rcases List.mem_cons.1 h with rfl|h
   ·exact .inr ⟨r,zzl,rfl⟩
   rcases pG (x:=Ay y) h with e|⟨r',h1,h2⟩
   ·exact .inr ⟨y,zzl,e.symm⟩
   exact .inr ⟨r',zzm _ h1,h2⟩
  rw[cond_true]
  rcases List.mem_cons.1 h with rfl|h
  ·exact .inl (beq_iff_eq.1 hc).symm
  exact pG h
theorem tf {l:Rows} {r:List PV} (h:r∈l):∃r',r'∈D7 l∧Ay r'=Ay r:=by
 cases l with
 |nil=>cases h
 |cons y l =>
  rcases List.mem_cons.1 h with rfl|h
  ·exact⟨r,zzl,rfl⟩
  rcases pG (x:=Ay y) h with e|⟨r',h1,h2⟩
  ·exact⟨y,zzl,e.symm⟩
  exact⟨r',zzm _ h1,h2⟩
theorem fE:∀{x:List UInt8} {l:Rows},(∀r,r∈l→x≤Ay r)→List.Pairwise (fun a b=>Ay a≤Ay b) l→(∀r,r∈D7.go x l→x≠Ay r)∧List.Pairwise (fun a b=>Ay a≠Ay b) (D7.go x l)
 |x,[],_,_=>⟨fun r h=>(List.not_mem_nil h).elim,List.Pairwise.nil⟩
 |x,y::l,hx,hp=>by
  obtain⟨p1,p2⟩:=List.pairwise_cons.1 hp;unfold D7.go;cases hc:x==Ay y
  ·rw[cond_false];have ne:x≠Ay y:=beq_eq_false_iff_ne.1 hc;obtain⟨g1,g2⟩:=fE (x:=Ay y) p1 p2;refine⟨fun r h=>?_,List.pairwise_cons.2 ⟨g1,g2⟩⟩
   rcases List.mem_cons.1 h with rfl|h
   ·exact ne
   intro e;have h1:=p1 r (VO h);rw[←e]at h1;exact ne (List.le_antisymm (hx y zzl) h1)
  exact fE (fun r h=>hx r (zzm _ h)) p2
theorem wa (l:Rows):List.Pairwise (fun a b=>Ay a≠Ay b) (D7 (Fc l)):=by
 have s:List.Pairwise (fun a b=>Ay a≤Ay b) (Fc l):=by
  have:=List.pairwise_mergeSort (le:=fun a b:List PV=>decide (Ay a≤Ay b)) (fun a b c h1 h2=>by
   rw[decide_eq_true_eq]at *
   exact List.le_trans h1 h2) (fun a b=>by
   rw[Bool.or_eq_true,decide_eq_true_eq,decide_eq_true_eq];exact List.le_total _ _) l
  exact this.imp fun h=>of_decide_eq_true h
 cases hs:Fc l with
 |nil=>exact List.Pairwise.nil
 |cons y t =>
  rw[hs]at s;obtain⟨p1,p2⟩:=List.pairwise_cons.1 s;obtain⟨g1,g2⟩:=fE (x:=Ay y) p1 p2;exact List.pairwise_cons.2 ⟨g1,g2⟩
theorem qu {A B:Rows} {r:List PV}:∀n,r∈plS A B n→r∈A∨r∈B
 |0,h=>by cases h
 |n+1,h=>by
  rcases List.mem_append.1 h with h|h
  ·rcases List.mem_append.1 h with h|h
   ·exact qu n h
   exact .inl h
  exact .inr h
theorem wn {A B:Rows} {r:List PV} {n:Nat} (hn:0<n) (h:r∈A∨r∈B):r∈plS A B n:=by
 obtain⟨m,rfl⟩:∃m,n=m+1:=⟨n-1,by omega⟩
 rcases h with h|h
 ·exact List.mem_append.2 (.inl (List.mem_append.2 (.inr h)))
 exact List.mem_append.2 (.inr h)
theorem oM {A:Rows} {r:List PV} (h:r∈A):∃j,j<A.length∧Ay r=nm A j:=by
 obtain⟨j,hj,e⟩:=List.getElem_of_mem h;refine⟨j,hj,?_⟩;unfold nm AB;rw[zzk,zzn hj,←e];rfl
theorem gF {A:Rows} {j:Nat} (h:j<A.length):AB A j∈A:=by
 unfold AB;rw[zzk,zzn h];exact List.getElem_mem h
def F2 (A B:Rows) (n:Nat):Rows:=D7 (Fc (plS A B n))
structure KeyOk (sd:Nat) (K:List Int):Prop where
 nd:K.Nodup
 all:∀s p:Int,(s=1∨s=2)→1≤p→p≤(sd:Int)→s*1000+p∈K
theorem xq {A B:Rows} {n:Nat} (hn:0<n) (dA:yr A) (dB:yr B) (lA:A.length≤11) (lB:B.length≤11) (e:B.length=A.length) (dc:WK A B=false):KeyOk A.length ((F2 A B n).map (UQ A B)) where
 nd:=by
  unfold List.Nodup;rw[List.pairwise_map];refine List.Pairwise.imp_of_mem ?_ (wa (plS A B n));intro a b ha hb hab ek;have mem:∀r,r∈D7 (Fc (plS A B n))→(∃j,j<A.length∧Ay r=nm A j)∨(∃j,j<B.length∧Ay r=nm B j):=fun r hr=>(qu n (P9.1 (eZ hr))).imp oM oM
  have two:∀r,r∈D7 (Fc (plS A B n))→(∃j,j<A.length∧Ay r=nm A j∧UQ A B r=1000+((j:Int)+1))∨(∃j,j<B.length∧Ay r=nm B j∧UQ A B r=2000+((j:Int)+1)):=fun r hr=>by
   rcases YA (A:=A) (B:=B) (r:=r) lA lB with⟨j,h1,h2,h3⟩|⟨_,j,h1,h2,h3⟩|⟨h1,h2⟩
   ·exact .inl ⟨j,h1,h2,by unfold UQ;rw[h3];rfl⟩
   ·exact .inr ⟨j,h1,h2,by unfold UQ;rw[h3];rfl⟩
   rcases mem r hr with⟨j,g1,g2⟩|⟨j,g1,g2⟩
   ·exact(h1 j g1 g2).elim
   exact(h2 j g1 g2).elim
  rcases two a ha with⟨i,a1,a2,a3⟩|⟨i,a1,a2,a3⟩<;>rcases two b hb with⟨j,b1,b2,b3⟩|⟨j,b1,b2,b3⟩
  ·obtain rfl:i=j:=by omega
   exact hab (a2.trans b2.symm)
  ·omega
  ·omega
  obtain rfl:i=j:=by omega
  exact hab (a2.trans b2.symm)
 all s p hs h1 h2:=by
  have hj:(p-1).toNat<A.length:=by omega
  have ep:(((p-1).toNat:Nat):Int)+1=p:=by omega
  generalize(p-1).toNat=i at *
  rcases hs with rfl|rfl
  ·obtain⟨r,m1,m2⟩:=tf (P9.2 (wn (B:=B) hn (.inl (gF hj))));refine List.mem_map.2 ⟨r,m1,?_⟩
   rcases YA (A:=A) (B:=B) (r:=r) lA lB with⟨j,g1,g2,g3⟩|⟨g1,_⟩|⟨g1,_⟩
   ·have:i=j:=by
     have e2:nm A i=nm A j:=m2.symm.trans g2
     rcases Nat.lt_trichotomy i j with h|h|h
     ·exact(dA j i h g1 e2.symm).elim
     ·exact h
     exact(dA i j h hj e2).elim
    subst this;unfold UQ;rw[g3,ep]
   ·exact(g1 i hj m2).elim
   exact(g1 i hj m2).elim
  have hj2:i<B.length:=by omega
  obtain⟨r,m1,m2⟩:=tf (P9.2 (wn (A:=A) hn (.inr (gF hj2))));refine List.mem_map.2 ⟨r,m1,?_⟩
  rcases YA (A:=A) (B:=B) (r:=r) lA lB with⟨j,g1,g2,g3⟩|⟨_,j,g1,g2,g3⟩|⟨_,g1⟩
  ·exact(yw dc g1 hj2 (g2.symm.trans m2)).elim
  ·have:i=j:=by
    have e2:nm B i=nm B j:=m2.symm.trans g2
    rcases Nat.lt_trichotomy i j with h|h|h
    ·exact(dB j i h g1 e2.symm).elim
    ·exact h
    exact(dB i j h hj2 e2).elim
   subst this;unfold UQ;rw[g3,ep]
  exact(g1 i hj2 m2).elim
def lW (R:Rows):Nat→Int
 |0=>0
 |i+1=>lW R i+pvI (AD R i 1)
def Rn (c:Crd):Nat→Int
 |0=>0
 |k+1=>Rn c k+lW (rwU c.U k) (rwU c.U k).length
def MQ (cs:List Crd):Nat→Int
 |0=>0
 |j+1=>MQ cs j+Rn (crd cs j) (crd cs j).S.length
structure LinF (sd:Nat) (R:Rows):Prop where
 pl:∀i,i<R.length→1≤pvI (AD R i 0)∧pvI (AD R i 0)≤(sd:Int)
 nb:∀i,i<R.length→pvB (AD R i 9)=false→pvI (AD R i 1)=0
theorem tQ {sd:Nat} {K:List Int} (ko:KeyOk sd K) (hsd:sd≤100) {R:Rows} (lf:LinF sd R) {s:Int} (hs:s=1∨s=2):∀n,n≤R.length→DI (fun b=>cond (s==b / 1000) (Rq R (b%1000) n) 0) K=lW R n
 |0,_=>by
  rw[Le (h:=fun _=>0) (fun b _=>by show cond _ 0 0=(0:Int);cases s==b / 1000<;>rfl),Rb];rfl
 |n+1,h=>by
  obtain⟨p1,p2⟩:=lf.pl n (by omega);have one:=fQ (v:=cond (pvB (AD R n 9)) (pvI (AD R n 1)) 0) ko.nd (ko.all s _ hs p1 p2);have key:=TT (fun b=>cond (s==b / 1000) (Rq R (b%1000) n) 0) (fun b=>cond ((s*1000+pvI (AD R n 0))==b) (cond (pvB (AD R n 9)) (pvI (AD R n 1)) 0) 0) K;rw[tQ ko hsd lf hs n (by omega),one]at key;have nb:cond (pvB (AD R n 9)) (pvI (AD R n 1)) 0=pvI (AD R n 1):=by
   cases hb:pvB (AD R n 9)
   ·exact(lf.nb n (by omega) hb).symm
   rfl
  rw[nb]at key;refine Eq.trans (Le fun b _=>?_) key;show cond (s==b / 1000) (Rq R (b%1000) n+oZ R (b%1000) n) 0=cond (s==b / 1000) (Rq R (b%1000) n) 0+_;unfold oZ;have c:((s*1000+pvI (AD R n 0))==b)=(s==b / 1000&&pvI (AD R n 0)==b%1000):=by
   rw[Bool.eq_iff_iff,zzj,beq_iff_eq,beq_iff_eq,beq_iff_eq];omega
  rw[c];cases s==b / 1000<;>cases pvI (AD R n 0)==b%1000<;>cases hb:pvB (AD R n 9)<;>simp;rw[lf.nb n (by omega) hb,Int.add_zero]
structure CrdF (sd:Nat) (c:Crd):Prop where
 u:c.U.length=c.S.length
 side:∀k,k<c.S.length→pvI (AD c.S k 0)=1∨pvI (AD c.S k 0)=2
 lf:∀r,r∈c.U→LinF sd r
theorem tT {sd:Nat} {K:List Int} (ko:KeyOk sd K) (hsd:sd≤100) {c:Crd} (cf:CrdF sd c):∀k,k≤c.S.length→DI (fun b=>Td c (b / 1000) (b%1000) k) K=Rn c k
 |0,_=>Rb K
 |k+1,h=>by
  have m:=(gu (X:=c.U) (k:=k) (by rw[cf.u];exact h)).2;show DI (fun b=>Td c (b / 1000) (b%1000) k+cond (pvI (AD c.S k 0)==b / 1000) (Rq (rwU c.U k) (b%1000) (rwU c.U k).length) 0) K=Rn c k+_;rw[TT,tT ko hsd cf k (by omega),tQ ko hsd (cf.lf _ m) (cf.side k h) _ (Nat.le_refl _)]
theorem uf {sd:Nat} {K:List Int} (ko:KeyOk sd K) (hsd:sd≤100) {cs:List Crd}:∀j,(∀i,i<j→CrdF sd (crd cs i))→DI (fun b=>PR cs (b / 1000) (b%1000) j) K=MQ cs j
 |0,_=>Rb K
 |j+1,h=>by
  show DI (fun b=>PR cs (b / 1000) (b%1000) j+Td (crd cs j) (b / 1000) (b%1000) (crd cs j).S.length) K=MQ cs j+_;rw[TT,uf ko hsd j (fun i hi=>h i (by omega)),tT ko hsd (h j (by omega)) _ (Nat.le_refl _)]
theorem rZ (R:Rows):∀n,ef R n=IntKind.i64.wrap (lW R n)
 |0=>rfl
 |n+1=>by
  show IntKind.i64.wrap (ef R n+pvI (AD R n 1))=IntKind.i64.wrap (lW R n+pvI (AD R n 1));rw[rZ R n,Ua]
def B9 (r:Rul) (no:Int) (L:Rows):Crd:=⟨no,Qd L,upF (NY r L) (opn L L.length),upF (Ku r L) (opn L L.length)⟩
theorem bT {sd:Int} {T:Rows} {U V:List Rows} (h:CardOk sd T U V):aO U∧aO V:=by
 have t4:=h.t4;have u:=h.u;have v:=h.v;exact⟨⟨by omega,fun r hr=>(h.bat r hr).len⟩,⟨by omega,fun r hr=>(h.bowl r hr).len⟩⟩
theorem rM {r:Rul} {L:Rows} {no:Int} (hc:Ap r L=0):CrdOk (B9 r no L):=by
 have h:=P0 hc;exact⟨h.t4,h.u,h.v,fun r hr=>(h.bat r hr).len,fun r hr=>(h.bowl r hr).len⟩
theorem ADO {r:Rul} {L:Rows} {no:Int} {sd:Nat} (hc:Ap r L=0) (hsd:(sd:Int)=r.side):CrdF sd (B9 r no L) where
 u:=(P0 hc).u
 side:=(P0 hc).side
 lf x hx:=by
  refine⟨fun i hi=>by rw[hsd];exact((P0 hc).bat x hx).pl i hi,fun i hi hb=>?_⟩;obtain⟨k,hk,rfl⟩:=kZ hx;obtain⟨il,rk⟩:=jZ hc;have rs:=rk.side;have om:∀p,p∈GO r L k↔1≤p∧p≤r.side:=fun p=>cL (p:=p) hc hk (by omega)
  have cl:(NY r L k).length=(GO r L k).length:=Bt _ _;rw[cl]at hi;have row:AB (NY r L k) i=lnR ((GO r L k).getD i 0) (plL r L k ((GO r L k).getD i 0)):=Yb hi;have mem:(GO r L k).getD i 0∈GO r L k:=by
   rw[zzk,zzn hi];exact List.getElem_mem hi
  unfold AD at hb⊢;rw[row]at hb⊢;exact ACk hc hk ((om _).1 mem).1 hb
def okL (r:Rul) (q:Sds) (L:Rows):Bool:=H4 (BA r) r.side q.n q.A q.a q.b q.m q.B q.d q.e==0&&Ap r L==0
def lgX (Y:Rows) (i:Nat):Rows:=wQ (pvL (AD Y i 0))
def bkS (r:Rul) (q:Sds) (Y:Rows):Nat→List Crd
 |0=>[]
 |i+1=>cond (okL r q (lgX Y i)) (bkS r q Y i++[B9 r ((i:Int)+1) (lgX Y i)]) (bkS r q Y i)
theorem kY {cs:List Crd} {c:Crd} {j:Nat} (h:j<cs.length):crd (cs++[c]) j=crd cs j:=by
 unfold crd;rw[zzk,zzk,List.getElem?_append_left h]
theorem cH {cs:List Crd} {c:Crd}:crd (cs++[c]) cs.length=c:=by
 unfold crd;rw[zzk,List.getElem?_append_right (Nat.le_refl _),Nat.sub_self];rfl
structure BkOk (sd:Nat) (i:Nat) (cs:List Crd):Prop where
 len:cs.length≤i
 all:∀j,j<cs.length→(1≤(crd cs j).no∧(crd cs j).no≤(i:Int))∧CrdOk (crd cs j)∧CrdF sd (crd cs j)
theorem ACp {sd i:Nat} {cs:List Crd} {c:Crd} (h:BkOk sd i cs) (hn:c.no=(i:Int)+1) (h1:CrdOk c) (h2:CrdF sd c):BkOk sd (i+1) (cs++[c]) where
 len:=by
  have:=h.len;rw[List.length_append];show cs.length+1≤i+1;omega
 all j hj:=by
  rw[List.length_append]at hj;have hj:j<cs.length+1:=hj
  by_cases e:j=cs.length
  ·subst e;rw[cH];exact⟨by omega,h1,h2⟩
  have a:=h.all j (by omega);rw[kY (by omega)];exact⟨by omega,a.2⟩
theorem AAI {r:Rul} {q:Sds} {Y:Rows} (hA:H4 (BA r) r.side q.n q.A q.a q.b q.m q.B q.d q.e=0→(q.A.length:Int)=r.side):∀i,BkOk q.A.length i (bkS r q Y i)
 |0=>⟨Nat.le_refl _,fun j hj=>by cases hj⟩
 |i+1=>by
  have ih:=AAI (Y:=Y) hA i;show BkOk _ _ (cond (okL r q (lgX Y i)) _ _);cases ho:okL r q (lgX Y i)
  ·exact⟨by have:=ih.len;show(bkS r q Y i).length≤i+1;omega,fun j hj=>by have:=ih.all j hj;exact⟨by show 1≤(crd (bkS r q Y i) j).no∧(crd (bkS r q Y i) j).no≤((i+1:Nat):Int);omega,this.2⟩⟩
  unfold okL at ho;rw[zzj,beq_iff_eq,beq_iff_eq]at ho;exact ACp ih rfl (rM ho.2) (ADO ho.2 (hA ho.1))
theorem qq {cs:List Crd} {c:Crd}:∀j,j≤cs.length→MQ (cs++[c]) j=MQ cs j
 |0,_=>rfl
 |j+1,h=>by
  show MQ (cs++[c]) j+Rn (crd (cs++[c]) j) (crd (cs++[c]) j).S.length=_;rw[qq j (by omega),kY (by omega)];rfl
theorem zU {cs:List Crd} {c:Crd}:MQ (cs++[c]) (cs++[c]).length=MQ cs cs.length+Rn c c.S.length:=by
 rw[List.length_append];show MQ (cs++[c]) cs.length+Rn (crd (cs++[c]) cs.length) (crd (cs++[c]) cs.length).S.length=_;rw[qq _ (Nat.le_refl _),cH]
theorem Xk {q:Sds} {cs:List Crd} {c:Crd}:CK q cs++[crR q c]=CK q (cs++[c]):=by
 unfold CK;rw[List.map_append];rfl
theorem y9 {q:Sds} {cs:List Crd} {c d:Crd}:(CK q (cs++[c])).set cs.length (putRow (AB (CK q (cs++[c])) cs.length) 0 [.int d.no,.str q.n,.rows q.A,.int q.a,.int q.b,.str q.m,.rows q.B,.int q.d,.int q.e,.rows d.S,.rows (AY d.U),.rows (AY d.V)])=CK q (cs++[d]):=by
 rw[W3 q (by rw[List.length_append];show cs.length<cs.length+1;omega),cH,←Xk,←Xk];show(CK q cs++[crR q c]).set cs.length (crR q d)=_;rw[List.set_append_right _ _ (by rw[I4];exact Nat.le_refl _),I4,Nat.sub_self];rfl
def snm (q:Sds) (cs:List Crd) (P:Rows):Nat→Int
 |0=>0
 |i+1=>snm q cs P i+PR cs (Gk q.A q.B (Gj (AB P i))).1 (Gk q.A q.B (Gj (AB P i))).2 cs.length
theorem ue {A B:Rows} {n:Nat} {r:List PV} (lA:A.length≤11) (lB:B.length≤11) (h:r∈F2 A B n):((Gk A B (Gj r)).1=1∨(Gk A B (Gj r)).1=2)∧1≤(Gk A B (Gj r)).2∧(Gk A B (Gj r)).2≤11:=by
 have m:=(qu n (P9.1 (eZ h))).imp oM oM
 rcases YA (A:=A) (B:=B) (r:=r) lA lB with⟨j,h1,h2,h3⟩|⟨_,j,h1,h2,h3⟩|⟨h1,h2⟩
 ·rw[h3];exact⟨.inl rfl,by show 1≤(j:Int)+1;omega,by show(j:Int)+1≤11;omega⟩
 ·rw[h3];exact⟨.inr rfl,by show 1≤(j:Int)+1;omega,by show(j:Int)+1≤11;omega⟩
 rcases m with⟨j,g1,g2⟩|⟨j,g1,g2⟩
 ·exact(h1 j g1 g2).elim
 exact(h2 j g1 g2).elim
theorem Zt {q:Sds} {cs:List Crd} {P:Rows} (lA:q.A.length≤11) (lB:q.B.length≤11) {n:Nat} (hP:∀r,r∈P→r∈F2 q.A q.B n):∀i,i≤P.length→snm q cs P i=DI (fun b=>PR cs (b / 1000) (b%1000) cs.length) ((P.take i).map (UQ q.A q.B))
 |0,_=>rfl
 |i+1,h=>by
  have hi:i<P.length:=h;have m:=ue lA lB (hP _ (gF hi));have app:∀(g:Int→Int) (A B:List Int),DI g (A++B)=DI g A+DI g B:=fun g A B=>by
   induction A with
   |nil=>show DI g B=0+_;omega
   |cons a A ih=>show g a+DI g (A++B)=g a+DI g A+_;omega
  have e:P.take (i+1)=P.take i++[AB P i]:=by
   rw[List.take_add_one,zzn hi];unfold AB;rw[zzk,zzn hi];rfl
  rw[e,List.map_append,app,←Zt lA lB hP i (by omega)];show snm q cs P i+PR cs _ _ cs.length=snm q cs P i+(PR cs (UQ q.A q.B (AB P i) / 1000) (UQ q.A q.B (AB P i)%1000) cs.length+0);unfold UQ;generalize Gk q.A q.B (Gj (AB P i))=z at *
  have e1:(z.1*1000+z.2) / 1000=z.1:=by omega
  have e2:(z.1*1000+z.2)%1000=z.2:=by omega
  rw[e1,e2,Int.add_zero]
theorem zZ {q:Sds} {cs:List Crd} {i:Nat} (ok:BkOk q.A.length i cs) (dA:cs≠[]→Cm q.n q.A q.a q.b=0) (dB:cs≠[]→Cm q.m q.B q.d q.e=0) (e:cs≠[]→q.B.length=q.A.length) (dc:cs≠[]→WK q.A q.B=false):snm q cs (F2 q.A q.B cs.length) (F2 q.A q.B cs.length).length=MQ cs cs.length:=by
 cases cs with
 |nil =>
  have e0:F2 q.A q.B ([]:List Crd).length=[]:=by
   show D7 (Fc [])=[];unfold Fc;rw[List.mergeSort_nil];rfl
  rw[e0];rfl
 |cons c cs =>
  have ne:c::cs≠[]:=by simp
  obtain⟨a1,a2,a3⟩:=YW (dA ne);obtain⟨b1,b2,b3⟩:=YW (dB ne);have ko:=xq (A:=q.A) (B:=q.B) (n:=(c::cs).length) (Nat.succ_pos _) a1 b1 a3 b3 (e ne) (dc ne);rw[Zt (cs:=c::cs) a3 b3 (n:=(c::cs).length) (fun r hr=>hr) _ (Nat.le_refl _),List.take_length];exact uf ko (by omega) _ (fun j hj=>(ok.all j hj).2.2)
theorem mz (a b:Int):IntKind.i64.wrap (IntKind.i64.wrap a+IntKind.i64.wrap b)=IntKind.i64.wrap (a+b):=by
 rw[Ua,Int.add_comm,Ua,Int.add_comm]
theorem oN {r:Rul} {L:Rows} (h:Ap r L=0):aO (upF (NY r L) (opn L L.length))∧aO (upF (Ku r L) (opn L L.length)):=bT (P0 h)
set_option maxHeartbeats 1000000 in
theorem tR {N:Nat} {r8:Bool} {r0:ByteArray} {r13:Rows} {n m:ByteArray} {A B L:Rows} {no a b d e:Int} (hN:2097152<N) (hs:r0.size≤1048576) (h13:r13.length≤1048576) (hL:L.length≤1000000) (hn:n.size≤1048576) (hm:m.size≤1048576) (tA:Big A) (tB:Big B) (hno:1≤no∧no≤1000000) (hp:(H4 (BA (⟨r0,r1,r2,r3,r4,r5,r6,r7,r8,r9,r10,r11,r12,r13⟩:Rul)) r1 n A a b m B d e==0)=true) (hc:(Ap (⟨r0,r1,r2,r3,r4,r5,r6,r7,r8,r9,r10,r11,r12,r13⟩:Rul) L==0)=true) :
    EK N [.int no,.str r0,.int r1,.int r2,.int r3,.int r4,.int r5,.int r6,.int r7,.bool r8,.int r9,.int r10,.int r11,.int r12,.rows r13,.str n,.rows A,.int a,.int b,.str m,.rows B,.int d,.int e,.rows L]=some [.int no,.str n,.rows A,.int a,.int b,.str m,.rows B,.int d,.int e,.rows (B9 (⟨r0,r1,r2,r3,r4,r5,r6,r7,r8,r9,r10,r11,r12,r13⟩:Rul) no L).S,.rows (AY (B9 (⟨r0,r1,r2,r3,r4,r5,r6,r7,r8,r9,r10,r11,r12,r13⟩:Rul) no L).U),.rows (AY (B9 (⟨r0,r1,r2,r3,r4,r5,r6,r7,r8,r9,r10,r11,r12,r13⟩:Rul) no L).V),.int 0]:=by
  rw[Wi hN hs h13 hL hn hm tA tB hno (fun h=>(oN h).1) (fun h=>(oN h).2),hp,hc];rfl
set_option maxHeartbeats 1000000 in
theorem ABZ {N:Nat} {r8:Bool} {r0:ByteArray} {r13:Rows} {n m:ByteArray} {A B L:Rows} {no a b d e:Int} (hN:2097152<N) (hs:r0.size≤1048576) (h13:r13.length≤1048576) (hL:L.length≤1000000) (hn:n.size≤1048576) (hm:m.size≤1048576) (tA:Big A) (tB:Big B) (hno:1≤no∧no≤1000000) (h:okL (⟨r0,r1,r2,r3,r4,r5,r6,r7,r8,r9,r10,r11,r12,r13⟩:Rul) ⟨n,A,a,b,m,B,d,e⟩ L=false) :
    ∃c,(c==0)=false∧EK N [.int no,.str r0,.int r1,.int r2,.int r3,.int r4,.int r5,.int r6,.int r7,.bool r8,.int r9,.int r10,.int r11,.int r12,.rows r13,.str n,.rows A,.int a,.int b,.str m,.rows B,.int d,.int e,.rows L]=some (mkE c):=by
  rw[Wi hN hs h13 hL hn hm tA tB hno (fun h=>(oN h).1) (fun h=>(oN h).2)];have h:(H4 (BA (⟨r0,r1,r2,r3,r4,r5,r6,r7,r8,r9,r10,r11,r12,r13⟩:Rul)) r1 n A a b m B d e==0&&Ap (⟨r0,r1,r2,r3,r4,r5,r6,r7,r8,r9,r10,r11,r12,r13⟩:Rul) L==0)=false:=h;cases hp:H4 (BA (⟨r0,r1,r2,r3,r4,r5,r6,r7,r8,r9,r10,r11,r12,r13⟩:Rul)) r1 n A a b m B d e==0
  · exact⟨_,hp,rfl⟩
  rw[hp,Bool.true_and]at h;rw[h];exact⟨_,h,rfl⟩
set_option maxHeartbeats 8000000 in
theorem ik {N:Nat} {r8:Bool} {r0:ByteArray} {r13:Rows} {n:ByteArray} {A:Rows} {a:Int} {b:Int} {m:ByteArray} {B:Rows} {d:Int} {e:Int} {X:Rows} (hN:2097152<N) (hs:r0.size≤1048576) (h13:r13.length≤1048576) (hn:n.size≤1048576) (hm:m.size≤1048576) (tA:Big A) (tB:Big B) (hX:X.length≤1048576) (hF:∀i,0≤pvI (AD X i 1)∧pvI (AD X i 1)≤255):Gx N [.str r0,.int r1,.int r2,.int r3,.int r4,.int r5,.int r6,.int r7,.bool r8,.int r9,.int r10,.int r11,.int r12,.rows r13,.str n,.rows A,.int a,.int b,.str m,.rows B,.int d,.int e,.rows X]=some [.bool true]:=by
 show G7 (std (A3 N) N) (xOf _)=_;have rg:iRg 0 (cond (iLt 3 (X.length:Int)) 3 (X.length:Int)) (X.length:Int)=true:=by
  cases h:iLt 3 (X.length:Int)
  ·simp[iRg]
  simp[iLt]at h;simp[iRg];omega
 have hY:List.drop (Int.toNat 0) (List.take (cond (iLt 3 (X.length:Int)) 3 (X.length:Int)).toNat X)=cut X 3:=rfl;have lY:(cut X 3).length≤3:=by
  rw[←hY];cases h:iLt 3 (X.length:Int)
  ·rw[cond_false,List.length_drop,List.length_take];simp[iLt]at h;omega
  rw[cond_true,List.length_drop,List.length_take];show min 3 _-0≤3;omega
 have fY:∀i,i<(cut X 3).length→0≤pvI (AD (cut X 3) i 1)∧pvI (AD (cut X 3) i 1)≤255:=fun i hi=>by
  have:AD (cut X 3) i 1=AD X i 1:=by
   rw[←hY]at hi⊢;unfold AD AB;rw[zzk,zzk];show AA (((List.drop 0 (List.take _ X))[i]?).getD []) 1=_;rw[List.drop_zero,List.getElem?_take_of_lt];have h2:i<(List.take (cond (iLt 3 (X.length:Int)) 3 (X.length:Int)).toNat X).length:=hi;rw[List.length_take]at h2;omega
  rw[this];exact hF i
 simp only[G7,RY,Qa,PY,LS,L4,LA,Ph,Pe,ML,Ht,lq9,std,xOf,PXb,rg,cond_true,hY];generalize cut X 3=Y at *
 obtain⟨q,hq⟩:∃q:Sds,q=⟨n,A,a,b,m,B,d,e⟩:=⟨_,rfl⟩;have qA:q.A=A:=by rw[hq]
 have qB:q.B=B:=by rw[hq]
 have pA:H4 (BA (⟨r0,r1,r2,r3,r4,r5,r6,r7,r8,r9,r10,r11,r12,r13⟩:Rul)) r1 q.n q.A q.a q.b q.m q.B q.d q.e=0→(q.A.length:Int)=(⟨r0,r1,r2,r3,r4,r5,r6,r7,r8,r9,r10,r11,r12,r13⟩:Rul).side:=fun h=>(kE h).2.2.2.2.1
 have bk:=AAI (r:=(⟨r0,r1,r2,r3,r4,r5,r6,r7,r8,r9,r10,r11,r12,r13⟩:Rul)) (Y:=Y) pA;refine AN (BP (len:=Y.length) (fun i=>[.int (IntKind.i64.wrap (MQ (bkS (⟨r0,r1,r2,r3,r4,r5,r6,r7,r8,r9,r10,r11,r12,r13⟩:Rul) q Y i) (bkS (⟨r0,r1,r2,r3,r4,r5,r6,r7,r8,r9,r10,r11,r12,r13⟩:Rul) q Y i).length)),.int (((bkS (⟨r0,r1,r2,r3,r4,r5,r6,r7,r8,r9,r10,r11,r12,r13⟩:Rul) q Y i).length:Nat):Int),.int (i:Nat),.rows (CK q (bkS (⟨r0,r1,r2,r3,r4,r5,r6,r7,r8,r9,r10,r11,r12,r13⟩:Rul) q Y i)),.rows (CK q (bkS (⟨r0,r1,r2,r3,r4,r5,r6,r7,r8,r9,r10,r11,r12,r13⟩:Rul) q Y i))]) [.int 1,.int (IntKind.i64.wrap (MQ (bkS (⟨r0,r1,r2,r3,r4,r5,r6,r7,r8,r9,r10,r11,r12,r13⟩:Rul) q Y Y.length) (bkS (⟨r0,r1,r2,r3,r4,r5,r6,r7,r8,r9,r10,r11,r12,r13⟩:Rul) q Y Y.length).length)),.int (((bkS (⟨r0,r1,r2,r3,r4,r5,r6,r7,r8,r9,r10,r11,r12,r13⟩:Rul) q Y Y.length).length:Nat):Int),.rows (CK q (bkS (⟨r0,r1,r2,r3,r4,r5,r6,r7,r8,r9,r10,r11,r12,r13⟩:Rul) q Y Y.length)),.rows (CK q (bkS (⟨r0,r1,r2,r3,r4,r5,r6,r7,r8,r9,r10,r11,r12,r13⟩:Rul) q Y Y.length))] ?_ ?_ N (by omega)) ?_
 ·intro self;simp only[PXb,PXc,PXn,AE,Aj,Nat.reduceAdd]
 ·intro i self hi;have hw1:=Ai (show i≤1099511627776 by omega);have hfew:Gp N [.rows (pvL (AD Y i 0))]=some [.rows (lgX Y i)]:=nv;have f255:=fY i hi;have eb:bkS (⟨r0,r1,r2,r3,r4,r5,r6,r7,r8,r9,r10,r11,r12,r13⟩:Rul) q Y (i+1)=cond (okL (⟨r0,r1,r2,r3,r4,r5,r6,r7,r8,r9,r10,r11,r12,r13⟩:Rul) q (lgX Y i)) (bkS (⟨r0,r1,r2,r3,r4,r5,r6,r7,r8,r9,r10,r11,r12,r13⟩:Rul) q Y i++[B9 (⟨r0,r1,r2,r3,r4,r5,r6,r7,r8,r9,r10,r11,r12,r13⟩:Rul) ((i:Int)+1) (lgX Y i)]) (bkS (⟨r0,r1,r2,r3,r4,r5,r6,r7,r8,r9,r10,r11,r12,r13⟩:Rul) q Y i):=rfl;have bki:=bk i;rw[eb];have hL50:(lgX Y i).length≤50:=by unfold lgX wQ;rw[List.length_take];omega
  generalize lgX Y i=L at *
  generalize bkS (⟨r0,r1,r2,r3,r4,r5,r6,r7,r8,r9,r10,r11,r12,r13⟩:Rul) q Y i=cs at *
  have hno:1≤((i+1:Nat):Int)∧((i+1:Nat):Int)≤1000000:=by omega
  cases ho:okL (⟨r0,r1,r2,r3,r4,r5,r6,r7,r8,r9,r10,r11,r12,r13⟩:Rul) q L
  ·rw[hq]at ho;obtain⟨c,c0,hM⟩:=ABZ (no:=((i+1:Nat):Int)) hN hs h13 (show L.length≤1000000 by omega) hn hm tA tB hno ho;simp only[PXb,PXc,PXn,AE,Aa hi,AJ hi,Int.toNat_natCast,hw1,hfew,hM,mkE,c0,Nat.reduceAdd,Bool.not_false,cond_true,cond_false]
  have ho2:=ho;unfold okL at ho2;rw[zzj]at ho2;obtain⟨hp,hc⟩:=ho2;have hp:(H4 (BA (⟨r0,r1,r2,r3,r4,r5,r6,r7,r8,r9,r10,r11,r12,r13⟩:Rul)) r1 n A a b m B d e==0)=true:=by rw[hq]at hp;exact hp
  have hc1:=beq_iff_eq.1 hc;obtain⟨_,hcs,kA,kB,lA,lB,_,dc⟩:=kE (beq_iff_eq.1 hp);obtain⟨t,ht1,ht⟩:=ACH (n:=pvI (AD Y i 1)) (k:=L.length+1) f255.1 (by omega) (by omega);have hF1:IntKind.i64.wrap (pvI (AD Y i 1))=pvI (AD Y i 1):=A6 (by omega) (by omega);have hL1:IntKind.i64.wrap ((L.length:Int)+1)=((L.length+1:Nat):Int):=Ai (by omega);have hL0:(((L.length+1:Nat):Int)==0)=false:=beq_eq_false_iff_ne.2 (by omega);have hrg:iRg 0 (t:Int) (L.length:Int)=true:=by simp[iRg];omega
  have hfst:List.drop (Int.toNat 0) (List.take t L)=B4 L (t:Int):=rfl;have hcf:=(tI hc1 (show t≤L.length by omega)).1;have lf:=xn L (t:Int);have hM:=tR (no:=((i+1:Nat):Int)) hN hs h13 (show L.length≤1000000 by omega) hn hm tA tB hno hp hc;have hM2:=tR (no:=((i+1:Nat):Int)) hN hs h13 (show(B4 L (t:Int)).length≤1000000 by omega) hn hm tA tB hno hp (beq_iff_eq.2 hcf);have kW:=P0 hc1;have kF:=P0 hcf;have oW:CrdOk (B9 (⟨r0,r1,r2,r3,r4,r5,r6,r7,r8,r9,r10,r11,r12,r13⟩:Rul) ((i+1:Nat):Int) L):=rM hc1;have oF:CrdOk (B9 (⟨r0,r1,r2,r3,r4,r5,r6,r7,r8,r9,r10,r11,r12,r13⟩:Rul) ((i+1:Nat):Int) (B4 L (t:Int))):=rM hcf;have hC1:=U5 (N:=N) (no:=((i+1:Nat):Int)) hN hn hm tA tB hcs hno lA lB kF;have hC2:=U5 (N:=N) (no:=((i+1:Nat):Int)) hN hn hm tA tB hcs hno lA lB kW;have hl1:=On (N:=N) (no:=((i+1:Nat):Int)) (a:=a) (b:=b) (d:=d) (e:=e) (n:=n) (m:=m) hN tA.1 tB.1 (show(Qd (B4 L (t:Int))).length≤1048576 by have:=kF.t4;omega) (bT kF).1 (bT kF).2;have hl2:=On (N:=N) (no:=((i+1:Nat):Int)) (a:=a) (b:=b) (d:=d) (e:=e) (n:=n) (m:=m) hN tA.1 tB.1 (show(Qd L).length≤1048576 by have:=kW.t4;omega) (bT kW).1 (bT kW).2;have eN:(i:Int)+1=((i+1:Nat):Int):=by omega
  rw[eN];have nW:(B9 (⟨r0,r1,r2,r3,r4,r5,r6,r7,r8,r9,r10,r11,r12,r13⟩:Rul) ((i+1:Nat):Int) L).no=((i+1:Nat):Int):=rfl;have nF:(B9 (⟨r0,r1,r2,r3,r4,r5,r6,r7,r8,r9,r10,r11,r12,r13⟩:Rul) ((i+1:Nat):Int) (B4 L (t:Int))).no=((i+1:Nat):Int):=rfl;change E2 N [.int ((i+1:Nat):Int),.str n,.rows A,.int a,.int b,.str m,.rows B,.int d,.int e,.rows (B9 (⟨r0,r1,r2,r3,r4,r5,r6,r7,r8,r9,r10,r11,r12,r13⟩:Rul) ((i+1:Nat):Int) (B4 L (t:Int))).S,.rows (AY (B9 (⟨r0,r1,r2,r3,r4,r5,r6,r7,r8,r9,r10,r11,r12,r13⟩:Rul) ((i+1:Nat):Int) (B4 L (t:Int))).U),.rows (AY (B9 (⟨r0,r1,r2,r3,r4,r5,r6,r7,r8,r9,r10,r11,r12,r13⟩:Rul) ((i+1:Nat):Int) (B4 L (t:Int))).V)]=_ at hC1;change E2 N [.int ((i+1:Nat):Int),.str n,.rows A,.int a,.int b,.str m,.rows B,.int d,.int e,.rows (B9 (⟨r0,r1,r2,r3,r4,r5,r6,r7,r8,r9,r10,r11,r12,r13⟩:Rul) ((i+1:Nat):Int) L).S,.rows (AY (B9 (⟨r0,r1,r2,r3,r4,r5,r6,r7,r8,r9,r10,r11,r12,r13⟩:Rul) ((i+1:Nat):Int) L).U),.rows (AY (B9 (⟨r0,r1,r2,r3,r4,r5,r6,r7,r8,r9,r10,r11,r12,r13⟩:Rul) ((i+1:Nat):Int) L).V)]=_ at hC2;change CA N [.int ((i+1:Nat):Int),.str n,.rows A,.int a,.int b,.str m,.rows B,.int d,.int e,.rows (B9 (⟨r0,r1,r2,r3,r4,r5,r6,r7,r8,r9,r10,r11,r12,r13⟩:Rul) ((i+1:Nat):Int) (B4 L (t:Int))).S,.rows (AY (B9 (⟨r0,r1,r2,r3,r4,r5,r6,r7,r8,r9,r10,r11,r12,r13⟩:Rul) ((i+1:Nat):Int) (B4 L (t:Int))).U),.rows (AY (B9 (⟨r0,r1,r2,r3,r4,r5,r6,r7,r8,r9,r10,r11,r12,r13⟩:Rul) ((i+1:Nat):Int) (B4 L (t:Int))).V)]=some [.int ((i+1:Nat):Int),.str n,.rows A,.int a,.int b,.str m,.rows B,.int d,.int e,.rows (B9 (⟨r0,r1,r2,r3,r4,r5,r6,r7,r8,r9,r10,r11,r12,r13⟩:Rul) ((i+1:Nat):Int) (B4 L (t:Int))).S,.rows (AY (B9 (⟨r0,r1,r2,r3,r4,r5,r6,r7,r8,r9,r10,r11,r12,r13⟩:Rul) ((i+1:Nat):Int) (B4 L (t:Int))).U),.rows (AY (B9 (⟨r0,r1,r2,r3,r4,r5,r6,r7,r8,r9,r10,r11,r12,r13⟩:Rul) ((i+1:Nat):Int) (B4 L (t:Int))).V)]at hl1;change CA N [.int ((i+1:Nat):Int),.str n,.rows A,.int a,.int b,.str m,.rows B,.int d,.int e,.rows (B9 (⟨r0,r1,r2,r3,r4,r5,r6,r7,r8,r9,r10,r11,r12,r13⟩:Rul) ((i+1:Nat):Int) L).S,.rows (AY (B9 (⟨r0,r1,r2,r3,r4,r5,r6,r7,r8,r9,r10,r11,r12,r13⟩:Rul) ((i+1:Nat):Int) L).U),.rows (AY (B9 (⟨r0,r1,r2,r3,r4,r5,r6,r7,r8,r9,r10,r11,r12,r13⟩:Rul) ((i+1:Nat):Int) L).V)]=some [.int ((i+1:Nat):Int),.str n,.rows A,.int a,.int b,.str m,.rows B,.int d,.int e,.rows (B9 (⟨r0,r1,r2,r3,r4,r5,r6,r7,r8,r9,r10,r11,r12,r13⟩:Rul) ((i+1:Nat):Int) L).S,.rows (AY (B9 (⟨r0,r1,r2,r3,r4,r5,r6,r7,r8,r9,r10,r11,r12,r13⟩:Rul) ((i+1:Nat):Int) L).U),.rows (AY (B9 (⟨r0,r1,r2,r3,r4,r5,r6,r7,r8,r9,r10,r11,r12,r13⟩:Rul) ((i+1:Nat):Int) L).V)]at hl2;clear kW kF hc1 hcf;generalize B9 (⟨r0,r1,r2,r3,r4,r5,r6,r7,r8,r9,r10,r11,r12,r13⟩:Rul) ((i+1:Nat):Int) L=W at *
  generalize B9 (⟨r0,r1,r2,r3,r4,r5,r6,r7,r8,r9,r10,r11,r12,r13⟩:Rul) ((i+1:Nat):Int) (B4 L (t:Int))=F at *
  have l3:cs.length≤3:=by have:=bki.len;omega
  have hb1:=Hq (N:=N) (q:=q) (cs:=cs) (t:=((i+1:Nat):Int)) (p:=cs.length) hN (by omega) (Nat.le_refl _) (fun j hj=>by have:=(bki.all j hj).1;omega) (fun j h1 h2=>by omega) (by omega) (fun j hj=>by have:=(bki.all j hj).1;omega);have hil:iLt (cs.length:Int) (cs.length:Int)=false:=by simp[iLt]
  rw[hil,cond_false]at hb1;have lc1:(cs++[F]).length=cs.length+1:=by rw[List.length_append];rfl
  have cat:∀j,j<cs.length→(crd (cs++[F]) j).no≤(i:Int)∧1≤(crd (cs++[F]) j).no:=fun j hj=>by rw[kY hj];have:=(bki.all j hj).1;omega
  have cen:(crd (cs++[F]) cs.length).no=((i+1:Nat):Int):=by rw[cH,nF]
  have lo2:∀j,j<cs.length→(crd (cs++[F]) j).no<((i+1:Nat):Int):=fun j hj=>by have:=cat j hj;omega
  have hi2:∀j,cs.length≤j→j<(cs++[F]).length→((i+1:Nat):Int)≤(crd (cs++[F]) j).no:=fun j h1 h2=>by
   have e:j=cs.length:=by omega
   rw[e,cen];exact Int.le_refl _
  have rg2:∀j,j<(cs++[F]).length→0≤(crd (cs++[F]) j).no∧(crd (cs++[F]) j).no≤1000000:=fun j hj=>by
   by_cases e:j=cs.length
   ·rw[e,cen];omega
   have:=cat j (by omega);omega
  have hb2:=Hq (N:=N) (q:=q) (cs:=cs++[F]) (t:=((i+1:Nat):Int)) (p:=cs.length) hN (by omega) (by omega) lo2 hi2 (by omega) rg2;have hil2:iLt (cs.length:Int) ((cs++[F]).length:Int)=true:=by rw[lc1];simp[iLt];omega
  rw[hil2,cond_true,cen,beq_self_eq_true]at hb2;have lK:=I4 q cs;have lK2:=I4 q (cs++[F]);have le4:iLe 400 ((CK q cs).length:Int)=false:=by rw[lK];simp[iLe];omega
  have hI1:CJ N [.rows (CK q cs),.int (cs.length:Nat),.rows [[.int ((i+1:Nat):Int),.str n,.rows A,.int a,.int b,.str m,.rows B,.int d,.int e,.rows F.S,.rows (AY F.U),.rows (AY F.V)]]]=some [.rows (CK q (cs++[F]))]:=by
   rw[←Xk,←lK,PF (by omega)];subst hq;rw[←nF];rfl
  have hI2:CJ N [.rows (CK q cs),.int (cs.length:Nat),.rows [[.int ((i+1:Nat):Int),.str n,.rows A,.int a,.int b,.str m,.rows B,.int d,.int e,.rows W.S,.rows (AY W.U),.rows (AY W.V)]]]=some [.rows (CK q (cs++[W]))]:=by
   rw[←Xk,←lK,PF (by omega)];subst hq;rw[←nW];rfl
  have hset:List.set (CK q (cs++[F])) cs.length (putRow (AB (CK q (cs++[F])) cs.length) 0 [.int ((i+1:Nat):Int),.str n,.rows A,.int a,.int b,.str m,.rows B,.int d,.int e,.rows W.S,.rows (AY W.U),.rows (AY W.V)])=CK q (cs++[W]):=by
   rw[←y9 (d:=W),nW,hq]
  have hin:iIn (cs.length:Int) ((CK q (cs++[F])).length:Int)=true:=AJ (by omega);simp only[PXb,PXc,PXn,AE,Aa hi,AJ hi,Int.toNat_natCast,hw1,hfew,hM,hF1,hL1,ht,hL0,hrg,hfst,hM2,hC1,hC2,hb1,hb2,hl1,hl2,le4,hI1,hI2,hin,hset,beq_self_eq_true,Nat.reduceAdd,Bool.not_true,Bool.not_false,cond_true,cond_false,Bool.or_false];have lU:=Fo W.U;have l4:=oW.u;have l5:=oW.s;rw[show IntKind.i64.wrap (MQ cs cs.length)=IntKind.i64.wrap (MQ cs cs.length+Rn W 0)from congrArg IntKind.i64.wrap (Int.add_zero _).symm];refine AN (BP (len:=W.U.length) (fun k=>[.int (IntKind.i64.wrap (MQ cs cs.length+Rn W k)),.int (k:Nat)]) [.int (IntKind.i64.wrap (MQ cs cs.length+Rn W W.U.length)),.int (W.U.length:Nat)] ?_ ?_ N (by omega)) ?_
  ·intro self;simp only[PXb,PXc,PXn,AE,lU,Aj,Nat.reduceAdd]
  ·intro k self hk;obtain⟨u1,u2⟩:=gu hk;have eT:Rn W (k+1)=Rn W k+lW (rwU W.U k) (rwU W.U k).length:=rfl;simp only[PXb,PXc,PXn,AE,lU,Aa hk,AJ hk,Int.toNat_natCast,u1,jU hN (oW.us _ u2),rZ,mz,eT,Int.add_assoc,Ai (show k≤1099511627776 by omega),Nat.reduceAdd]
  have lc2:(cs++[W]).length=cs.length+1:=by rw[List.length_append];rfl
  have tb:=zU (cs:=cs) (c:=W);rw[lc2]at tb;simp only[PXb,PXc,PXn,AE,lc2,tb,l4,Ai (show cs.length≤1099511627776 by omega),Nat.reduceAdd]
 have bkn:=bk Y.length;have good:(bkS (⟨r0,r1,r2,r3,r4,r5,r6,r7,r8,r9,r10,r11,r12,r13⟩:Rul) q Y Y.length).length≠0→H4 (BA (⟨r0,r1,r2,r3,r4,r5,r6,r7,r8,r9,r10,r11,r12,r13⟩:Rul)) r1 n A a b m B d e=0:=fun h=>by
  have main:∀i,(bkS (⟨r0,r1,r2,r3,r4,r5,r6,r7,r8,r9,r10,r11,r12,r13⟩:Rul) q Y i).length≠0→H4 (BA (⟨r0,r1,r2,r3,r4,r5,r6,r7,r8,r9,r10,r11,r12,r13⟩:Rul)) r1 n A a b m B d e=0:=fun i=>by
   induction i with
   |zero=>exact fun h=>absurd rfl h
   |succ i ih =>
    intro h;have h:(cond (okL (⟨r0,r1,r2,r3,r4,r5,r6,r7,r8,r9,r10,r11,r12,r13⟩:Rul) q (lgX Y i)) (bkS (⟨r0,r1,r2,r3,r4,r5,r6,r7,r8,r9,r10,r11,r12,r13⟩:Rul) q Y i++[B9 (⟨r0,r1,r2,r3,r4,r5,r6,r7,r8,r9,r10,r11,r12,r13⟩:Rul) ((i:Int)+1) (lgX Y i)]) (bkS (⟨r0,r1,r2,r3,r4,r5,r6,r7,r8,r9,r10,r11,r12,r13⟩:Rul) q Y i)).length≠0:=h;cases ho:okL (⟨r0,r1,r2,r3,r4,r5,r6,r7,r8,r9,r10,r11,r12,r13⟩:Rul) q (lgX Y i)
    ·rw[ho]at h;exact ih h
    unfold okL at ho;rw[zzj,beq_iff_eq]at ho;have:=ho.1;rw[hq]at this;exact this
  exact main _ h
 generalize bkS (⟨r0,r1,r2,r3,r4,r5,r6,r7,r8,r9,r10,r11,r12,r13⟩:Rul) q Y Y.length=cs at *
 have l3:cs.length≤3:=by have:=bkn.len;omega
 have two:cs.length≠0→Cm q.n q.A q.a q.b=0∧Cm q.m q.B q.d q.e=0∧q.B.length=q.A.length∧WK q.A q.B=false:=fun h=>by
  obtain⟨_,hcs,kA,kB,lA,lB,_,dc⟩:=kE (good h);rw[hq];exact⟨kA,kB,by show B.length=A.length;omega,dc⟩
 have el:cs.length≠0→q.A.length≤11∧q.B.length≤11:=fun h=>⟨(YW (two h).1).2.2,(YW (two h).2.1).2.2⟩
 have ne:cs≠[]→cs.length≠0:=fun h e=>h (List.length_eq_zero_iff.1 e)
 have ar:=zZ bkn (fun h=>(two (ne h)).1) (fun h=>(two (ne h)).2.1) (fun h=>(two (ne h)).2.2.1) (fun h=>(two (ne h)).2.2.2);have hpl:=WJ (N:=N) (q:=q) (cs:=cs) hN l3 (fun h=>by have:=el h;omega);change _=some [PV.rows (F2 q.A q.B cs.length)]at hpl;have lP:(F2 q.A q.B cs.length).length≤600:=by
  have h1:=eg (Fc (plS q.A q.B cs.length));rw[NP,cF]at h1;change(F2 q.A q.B cs.length).length≤_ at h1
  by_cases h0:cs.length=0
  ·rw[h0,Nat.zero_mul]at h1;rw[h0];omega
  have:=el h0;have:=Nat.mul_le_mul l3 (show q.A.length+q.B.length≤22 by omega);omega
 have mP:∀i,i<(F2 q.A q.B cs.length).length→cs.length≠0∧AB (F2 q.A q.B cs.length) i∈F2 q.A q.B cs.length:=fun i hi=>by
  refine⟨fun h0=>?_,gF hi⟩;have h1:=eg (Fc (plS q.A q.B cs.length));rw[NP,cF,h0,Nat.zero_mul]at h1;change(F2 q.A q.B 0).length≤_ at h1;rw[h0]at hi;omega
 have hMt:=WE (N:=N) (X:=CK q cs) hN (by rw[I4];omega);have lMt:=kP (CK q cs) (CK q cs).length;have lK:=I4 q cs;have nI:∀i,i<(F2 q.A q.B cs.length).length→_:=fun i hi=>ue (el (mP i hi).1).1 (el (mP i hi).1).2 (mP i hi).2
 simp only[PXb,PXc,PXn,AE,hpl,Nat.reduceAdd,cond_false];generalize F2 q.A q.B cs.length=P at *
 have cr:∀i,i<P.length→_:=fun i hi=>XJ (N:=N) (q:=q) (cs:=cs) (x:=Gj (AB P i)) (sd:=(Gk q.A q.B (Gj (AB P i))).1) (p:=(Gk q.A q.B (Gj (AB P i))).2) hN l3 (by rw[qA];exact tA.1) (by rw[qB];exact tB.1) (fun j hj=>(bkn.all j hj).2.1) rfl (by have:=(nI i hi).1;omega)
 refine AN (BP (len:=P.length) (fun i=>[.int (IntKind.i64.wrap (snm q cs P i)),.int (i:Nat),.rows (CK q cs),.rows (CK q cs)]) [.int 1,.int (IntKind.i64.wrap (snm q cs P P.length)),.rows (CK q cs)] ?_ ?_ N (by omega)) ?_
 ·intro self;simp only[PXb,PXc,PXn,AE,Aj,Nat.reduceAdd]
 ·intro i self hi;obtain⟨w,hw,s,a1,a2,a3,a4,a5,a6,a7,a8,a9,rfl⟩:=cr i hi;have hw2:DW N [.rows [[.rows (CK q cs)]],.str (pvS (AD P i 0))]=_:=hw;have eS:snm q cs P (i+1)=snm q cs P i+PR cs (Gk q.A q.B (Gj (AB P i))).1 (Gk q.A q.B (Gj (AB P i))).2 cs.length:=rfl;simp only[PXb,PXc,PXn,AE,Aa hi,AJ hi,Int.toNat_natCast,hw2,beq_self_eq_true,eS,mz,Ai (show i≤1099511627776 by omega),Nat.reduceAdd,Bool.and_self,Bool.not_true,Bool.or_self,cond_false,cond_true]
 rw[lK]at lMt;have e10:((1:Int)==((0:Nat):Int))=false:=rfl;simp only[PXb,PXc,PXn,AE,ar,hMt,lMt,lK,e10,beq_self_eq_true,Nat.reduceAdd,cond_true,cond_false]
end Go.Px
end
section
namespace Go.Proofs
open Go.Shelf
def Tryz.laysSo_ren:Go.Shelf.Ren:=⟨fun|54=>22|64=>59|65=>58|78=>86|79=>87|80=>77|81=>78|82=>79|83=>80|84=>81|85=>82|61=>83|86=>84|87=>85|93=>94|89=>95|90=>96|94=>97|95=>98|69=>99|97=>108|n=>n,fun|25=>25|26=>9|3=>3|51=>141|0=>0|67=>165|69=>167|4=>4|61=>158|60=>157|44=>65|5=>5|9=>9|75=>184|79=>188|83=>199|84=>75|n=>n,fun|n=>n⟩
theorem Tryz.laysSo:Go.Proofs.SlLaysN.n54 Tryz.prog Tryz.laysSo_ren:={
  mixed:=by kernel_rfl
  f54:=⟨Tryz.f22.name,by decide,Tryz.func22.trans (congrArg some (by kernel_rfl))⟩
  f61:=⟨Tryz.f83.name,by decide,Tryz.func83.trans (congrArg some (by kernel_rfl))⟩
  f64:=Tryz.func59.trans (congrArg some (by kernel_rfl))
  f65:=⟨Tryz.f58.name,by decide,Tryz.func58.trans (congrArg some (by kernel_rfl))⟩
  f69:=⟨Tryz.f99.name,by decide,Tryz.func99.trans (congrArg some (by kernel_rfl))⟩
  f78:=Tryz.func86.trans (congrArg some (by kernel_rfl))
  f79:=Tryz.func87.trans (congrArg some (by kernel_rfl))
  f80:=⟨Tryz.f77.name,by decide,Tryz.func77.trans (congrArg some (by kernel_rfl))⟩
  f81:=⟨Tryz.f78.name,by decide,Tryz.func78.trans (congrArg some (by kernel_rfl))⟩
  f82:=⟨Tryz.f79.name,by decide,Tryz.func79.trans (congrArg some (by kernel_rfl))⟩
  f83:=⟨Tryz.f80.name,by decide,Tryz.func80.trans (congrArg some (by kernel_rfl))⟩
  f84:=⟨Tryz.f81.name,by decide,Tryz.func81.trans (congrArg some (by kernel_rfl))⟩
  f85:=⟨Tryz.f82.name,by decide,Tryz.func82.trans (congrArg some (by kernel_rfl))⟩
  f86:=⟨Tryz.f84.name,by decide,Tryz.func84.trans (congrArg some (by kernel_rfl))⟩
  f87:=⟨Tryz.f85.name,by decide,Tryz.func85.trans (congrArg some (by kernel_rfl))⟩
  f89:=Tryz.func95.trans (congrArg some (by kernel_rfl))
  f90:=Tryz.func96.trans (congrArg some (by kernel_rfl))
  f93:=⟨Tryz.f94.name,by decide,Tryz.func94.trans (congrArg some (by kernel_rfl))⟩
  f94:=⟨Tryz.f97.name,by decide,Tryz.func97.trans (congrArg some (by kernel_rfl))⟩
  f95:=⟨Tryz.f98.name,by decide,Tryz.func98.trans (congrArg some (by kernel_rfl))⟩
  f97:=⟨Tryz.f108.name,by decide,Tryz.func108.trans (congrArg some (by kernel_rfl))⟩
  t0:=Tryz.underlying0
  a0:=Tryz.isAgg0
  z0:=Tryz.sizeOf0
  v0:=Tryz.zeroValue0
  t3:=Tryz.underlying3
  a3:=Tryz.isAgg3
  z3:=Tryz.sizeOf3
  v3:=Tryz.zeroValue3
  t4:=Tryz.underlying4
  a4:=Tryz.isAgg4
  z4:=Tryz.sizeOf4
  v4:=Tryz.zeroValue4
  t5:=Tryz.underlying5
  a5:=Tryz.isAgg5
  z5:=Tryz.sizeOf5
  v5:=Tryz.zeroValue5
  t9:=Tryz.underlying9
  a9:=Tryz.isAgg9
  z9:=Tryz.sizeOf9
  v9:=Tryz.zeroValue9
  t25:=Tryz.underlying25
  a25:=Tryz.isAgg25
  z25:=Tryz.sizeOf25
  v25:=Tryz.zeroValue25
  t26:=Tryz.underlying9
  a26:=Tryz.isAgg9
  z26:=Tryz.sizeOf9
  v26:=Tryz.zeroValue9
  t44:=Tryz.underlying65
  a44:=Tryz.isAgg65
  z44:=Tryz.sizeOf65
  v44:=Tryz.zeroValue65
  t51:=Tryz.underlying141
  a51:=Tryz.isAgg141
  z51:=Tryz.sizeOf141
  v51:=Tryz.zeroValue141
  t60:=Tryz.underlying157
  a60:=Tryz.isAgg157
  z60:=Tryz.sizeOf157
  v60:=Tryz.zeroValue157
  t61:=Tryz.underlying158
  a61:=Tryz.isAgg158
  z61:=Tryz.sizeOf158
  v61:=Tryz.zeroValue158
  t67:=Tryz.underlying165
  a67:=Tryz.isAgg165
  z67:=Tryz.sizeOf165
  v67:=Tryz.zeroValue165
  t69:=Tryz.underlying167
  a69:=Tryz.isAgg167
  z69:=Tryz.sizeOf167
  v69:=Tryz.zeroValue167
  t75:=Tryz.underlying184
  a75:=Tryz.isAgg184
  z75:=Tryz.sizeOf184
  v75:=Tryz.zeroValue184
  t79:=Tryz.underlying188
  a79:=Tryz.isAgg188
  z79:=Tryz.sizeOf188
  v79:=Tryz.zeroValue188
  t83:=Tryz.underlying199
  a83:=Tryz.isAgg199
  z83:=Tryz.sizeOf199
  v83:=Tryz.zeroValue199
  t84:=Tryz.underlying75
  a84:=Tryz.isAgg75
  z84:=Tryz.sizeOf75
  v84:=Tryz.zeroValue75 }
def Tryz.laysCo_ren:Go.Shelf.Ren:=⟨fun|44=>23|n=>n,fun|25=>25|26=>9|3=>3|4=>4|0=>0|n=>n,fun|n=>n⟩
theorem Tryz.laysCo:Go.Proofs.SlLaysN.n44 Tryz.prog Tryz.laysCo_ren:={
  mixed:=by kernel_rfl
  f44:=⟨Tryz.f23.name,by decide,Tryz.func23.trans (congrArg some (by kernel_rfl))⟩
  t0:=Tryz.underlying0
  a0:=Tryz.isAgg0
  z0:=Tryz.sizeOf0
  v0:=Tryz.zeroValue0
  t3:=Tryz.underlying3
  a3:=Tryz.isAgg3
  z3:=Tryz.sizeOf3
  v3:=Tryz.zeroValue3
  t4:=Tryz.underlying4
  a4:=Tryz.isAgg4
  z4:=Tryz.sizeOf4
  v4:=Tryz.zeroValue4
  t25:=Tryz.underlying25
  a25:=Tryz.isAgg25
  z25:=Tryz.sizeOf25
  v25:=Tryz.zeroValue25
  t26:=Tryz.underlying9
  a26:=Tryz.isAgg9
  z26:=Tryz.sizeOf9
  v26:=Tryz.zeroValue9
  i26:=by kernel_rfl }
end Go.Proofs
namespace Go.Px
open Go.Proofs Go.Sort
theorem YB:∀(x:List UInt8) (l:List (List UInt8)) (y:List UInt8),Jo.go x (l++[y])=Jo.go x l++cond ((l.getLastD x)==y) [] [y]
 |x,[],y=>by
  show cond (x==y) [] [y]=[]++cond (x==y) [] [y];rfl
 |x,z::l,y=>by
  have e:(z::l).getLastD x=l.getLastD z:=by cases l<;>rfl
  rw[e];show cond (x==z) (Jo.go x (l++[y])) (z::Jo.go z (l++[y]))=cond (x==z) (Jo.go x l) (z::Jo.go z l)++_;cases h:x==z
  ·rw[cond_false,cond_false,YB z l y];rfl
  rw[cond_true,cond_true,YB x l y,beq_iff_eq.1 h]
theorem vP {d d':Array (List UInt8)} {m:Nat} (h:∀j,j<m→d[j]! = d'[j]!):Lib.compactUpTo d m=Lib.compactUpTo d' m:=by
 unfold Lib.compactUpTo;have h1:(List.range m).filter (Lib.keeps d)=(List.range m).filter (Lib.keeps d'):=List.filter_congr (fun j hj=>by
  have:=List.mem_range.1 hj;unfold Lib.keeps;rw[h j this,h (j-1) (by omega)])
 rw[h1];exact List.map_congr_left (fun j hj=>h j (List.mem_range.1 (List.mem_filter.1 hj).1))
theorem Me {l:List (List UInt8)} {j:Nat}:l.toArray[j]! = l.getD j []:=by
 by_cases h:j<l.length
 ·rw[getElem!_pos _ j (by simpa using h)];simp[List.getD,h]
 rw[getElem!_neg _ j (by simpa using h)];simp[List.getD,Nat.not_lt.1 h];rfl
theorem rq {α:Type} {P:List α→Prop} (h0:P []) (h1:∀l y,P l→P (l++[y])) (l:List α):P l:=by
 rw[←List.reverse_reverse l];generalize l.reverse=r
 induction r with
 |nil=>exact h0
 |cons y r ih=>rw[List.reverse_cons];exact h1 _ _ ih
theorem ae {l r:List (List UInt8)} {j:Nat} (h:j<l.length):(l++r).getD j []=l.getD j []:=by
 rw[zzk,List.getElem?_append_left h,zzk]
theorem uz (x:List UInt8) (l:List (List UInt8)):Lib.compact (x::l)=x::Jo.go x l:=by
 refine rq (P:=fun l=>Lib.compact (x::l)=x::Jo.go x l) rfl (fun l y ih=>?_) l;show Lib.compact (x::(l++[y]))=x::Jo.go x (l++[y]);unfold Lib.compact at ih⊢;have hl:(x::(l++[y])).length=(x::l).length+1:=by simp
 rw[hl,Lib.compactUpTo_succ,vP (d':=(x::l).toArray) (fun j hj=>by
  rw[Me,Me,←List.cons_append,ae hj]),ih,YB,List.cons_append]
 congr 2;have e1:(x::(l++[y])).toArray[(x::l).length]! = y:=by
  rw[Me,←List.cons_append,zzk,List.getElem?_append_right (Nat.le_refl _),Nat.sub_self];rfl
 have e2:(x::(l++[y])).toArray[(x::l).length-1]! = l.getLastD x:=by
  rw[Me,←List.cons_append,ae (by simp)];exact rq (P:=fun l=>(x::l).getD ((x::l).length-1) []=l.getLastD x) rfl (fun l z _=>by simp[List.getD]) l
 unfold Lib.keeps;rw[e1,e2];cases h:l.getLastD x==y
 ·have:=beq_eq_false_iff_ne.1 h;generalize l.getLastD x=z at this;simp[Ne.symm this]
 have:=beq_iff_eq.1 h;generalize l.getLastD x=z at this;subst this;simp
theorem jV (l:List (List UInt8)):Lib.compact l=Jo l:=by
 cases l with
 |nil=>rfl
 |cons x l=>exact uz x l
theorem dG {w:World} {blk:Nat} {el:TypeId} {n:Nat} {ss:List (List UInt8)} (h:QE w blk el n ss) (hn:ss.length≤n):Sort.Holds encStr w blk 0 ss.toArray∧blk<w.heap.size:=by
 obtain⟨cells,h1,h2,h3⟩:=h;refine⟨fun j hj=>⟨?_,?_⟩,Ff h1⟩
 ·have hj:j<ss.length:=by simpa using hj
  have h4:(cells.toList.take ss.length)[j]?=some (sV ss[j]):=by rw[h3];simp[hj]
  rw[List.getElem?_take,if_pos hj,Array.getElem?_toList]at h4;rw[Nat.zero_add,Du h1,h4,getElem!_pos _ j (by simpa using hj)];rfl
 simp[World.frozen?,h1]
theorem mg {w:World} {blk:Nat} {el:TypeId} {n:Nat} {s0:List (List UInt8)} (h:QE w blk el n s0) (ss rest:List (List UInt8)) (hd:(ss++rest).length≤n) (q:Nat):Turned w (Sort.putRow encStr (Sort.ahead w q) blk 0 (ss++rest).toArray) blk el n ss:=by
 obtain⟨cells,h1,h2,h3⟩:=h;have hb:∀b,(Sort.putRow encStr (Sort.ahead w q) blk 0 (ss++rest).toArray).heap[b]?=if blk=b then(w.heap[b]?).map (Sort.onCells (Sort.putCells encStr 0 (ss++rest).toArray))else w.heap[b]?:=fun b=>by
  show(w.heap.modify blk _)[b]?=_;rw[Array.getElem?_modify]
 refine⟨rfl,rfl,rfl,by simp,fun b hne=>by rw[hb,if_neg (Ne.symm hne)],Sort.putCells encStr 0 (ss++rest).toArray cells,?_,by simp[Sort.putCells,h2],?_⟩
 ·rw[hb,if_pos rfl,h1];rfl
 apply List.ext_getElem?;intro i;rw[List.getElem?_take]
 by_cases hi:i<ss.length
 ·rw[if_pos hi,Array.getElem?_toList];have hc:i<cells.size:=by rw[List.length_append]at hd;omega
  unfold Sort.putCells;rw[Array.getElem?_mapIdx,Array.getElem?_eq_getElem hc,Option.map_some,if_pos ⟨Nat.zero_le _,by simp;omega⟩,Nat.sub_zero,Me,ae hi];simp[List.getD,hi];rfl
 rw[if_neg hi];simp[Nat.not_lt.1 hi]
def ABw:List (Nat×Nat):=[(22,0),(23,1)]
theorem ACc:∀p∈ABw,U8 Tryz.prog p.1 p.2:=fun p hp=>by
 rcases List.mem_cons.1 hp with rfl|hp
 ·refine⟨fun blk cap el n ss w hf hn hs=>?_,fun a w=>?_⟩
  ·obtain⟨h1,h2⟩:=dG hf hn;refine(AnyG.slices_Sort_string Tryz.laysSo blk 0 cap ss w h1 h2 (by omega)).mono (fun e w' hw=>?_);obtain⟨h3,q,os,rfl⟩:=hw;have t:=mg hf (ss.mergeSort fun x y=>decide (x≤y)) [] (by rw[List.append_nil,List.length_mergeSort];exact hn) q;rw[List.append_nil]at t;exact⟨h3,_,t,⟨rfl,rfl,rfl,by simp[grow],fun b hb=>by simp only[grow];rw[Array.getElem?_append_left hb]⟩⟩
  exact(AnyG.slices_Sort_string_none Tryz.laysSo a 0 w).mono (fun e w' hw=>⟨hw.1,hw.2▸Grow.refl w⟩)
 obtain rfl:=List.mem_singleton.1 hp;refine⟨fun blk cap el n ss w hf hn hc hs=>?_,fun a w=>AnyG.slices_Compact_string_empty Tryz.laysCo a 0 w⟩;obtain⟨h1,h2⟩:=dG hf hn;refine(AnyG.slices_Compact_string Tryz.laysCo blk 0 cap ss w h1 (by omega) hc).mono (fun e w' hw=>?_);obtain⟨h3,q,rfl⟩:=hw;rw[jV]at h3⊢;have hl:(Jo ss).length≤ss.length:=by
  rw[←jV];unfold Lib.compact Lib.compactUpTo;rw[List.length_map];exact Nat.le_trans (List.length_filter_le _ _) (by simp)
 exact⟨h3,mg hf (Jo ss) _ (by rw[List.length_append,List.length_replicate];omega) q⟩
end Go.Px
end
