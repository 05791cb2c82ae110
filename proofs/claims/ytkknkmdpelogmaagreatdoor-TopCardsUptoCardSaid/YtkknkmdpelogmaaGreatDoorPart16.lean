/- Part 16. -/
import Derived.Test.YtkknkmdpelogmaaGreatDoorPart15
set_option linter.unusedVariables false
set_option linter.unusedSimpArgs false
variable {r1 r2 r3 r4 r5 r6 r7 r9 r10 r11 r12:Int}
section
namespace Go.Px
set_option maxRecDepth 100000
def BQ(r:Rul)(L:Rows)(k:Int):Rows×Int:=cond (!(Ah r L==0)) ([],Ah r L) (cond (iLt k 0||iLe (opn L L.length:Int) k) ([],2) (fil k (BG r L),0))
theorem ij{r:Rul}{L:Rows}{k:Int}(h:((BQ r L k).2==0)=true):Ah r L=0∧0≤k∧k<(opn L L.length:Int)∧(BQ r L k).1=Ax r L k.toNat L.length∧(BQ r L k).2=0∧(BQ r L k).1.length≤4000∧∀i,i<(BQ r L k).1.length→RowF r (AB (BQ r L k).1 i):=by
 unfold BQ at h⊢;cases hc:Ah r L==0
 ·simp_all
 have c0:=beq_iff_eq.1 hc;cases hb:iLt k 0||iLe (opn L L.length:Int) k
 ·simp only[Bool.or_eq_false_iff,iLt,iLe,decide_eq_false_iff_not]at hb;obtain⟨K,rfl⟩:∃K:Nat,k=(K:Int):=⟨k.toNat,by omega⟩;have e:=UT c0 K;obtain⟨b1,b2⟩:=ku c0 K L.length (Nat.le_refl _);have l4:=(Bv c0).2.2.1;refine⟨c0,by omega,by omega,?_,rfl,?_,fun i hi=>?_⟩
  ·exact e
  ·grind
  change i<(fil (K:Int) (BG r L)).length at hi;show RowF r (AB (fil (K:Int) (BG r L)) i);rw[e]at hi⊢;refine b2 _ ?_;unfold AB
  simp_all
 simp_all
set_option maxHeartbeats 4000000 in
theorem cF{N:Nat}{r8:Bool}{r0:ByteArray}{r13:Rows}{L:Rows}{k:Int}(hN:2097152<N)(hs:r0.size≤1048576)(h13:r13.length≤1048576)(hL:L.length≤1000000):Di N [.str r0,.int r1,.int r2,.int r3,.int r4,.int r5,.int r6,.int r7,.bool r8,.int r9,.int r10,.int r11,.int r12,.rows r13,.rows L,.int k]=some [.rows (BQ (⟨r0,r1,r2,r3,r4,r5,r6,r7,r8,r9,r10,r11,r12,r13⟩:Rul) L k).1,.int (BQ (⟨r0,r1,r2,r3,r4,r5,r6,r7,r8,r9,r10,r11,r12,r13⟩:Rul) L k).2]:=by
 show Jy (std (DS N) N) (xOf _)=_;generalize hres:(some [.rows (BQ (⟨r0,r1,r2,r3,r4,r5,r6,r7,r8,r9,r10,r11,r12,r13⟩:Rul) L k).1,.int (BQ (⟨r0,r1,r2,r3,r4,r5,r6,r7,r8,r9,r10,r11,r12,r13⟩:Rul) L k).2]:Option (List PV))=RR;have hl:L.length≤1048576:=by omega
 simp only[Jy,S0,WR,X6,lq9,std,xOf,PXb,Hw hN hs h13 hl,Ds hN hl,Je hN hs h13 hl,Ps,PXc];subst hres;simp only[BQ];cases hc:Ah (⟨r0,r1,r2,r3,r4,r5,r6,r7,r8,r9,r10,r11,r12,r13⟩:Rul) L==0
 ·rfl
 have pl:=PK (⟨r0,r1,r2,r3,r4,r5,r6,r7,r8,r9,r10,r11,r12,r13⟩:Rul) L;cases h0:iLt k 0
 ·simp only[PXb,Bool.not_true,Bool.not_false,PXp,IV];cases h1:iLe (opn L L.length:Int) k
  ·simp only[PXb];generalize BG (⟨r0,r1,r2,r3,r4,r5,r6,r7,r8,r9,r10,r11,r12,r13⟩:Rul) L=D at *
   refine AQ (ABM hN (show D.length≤1000000 by omega) ?_ ?_) rfl
   ·intro self;simp only[PXb,PXc,PXn,AH,Aq]
   intro i self out hi ho;have sm:iSm ((out.length+1:Nat):Int) 216=true:=Dk (by omega) (by omega);simp only[PXb,PXc,PXn,AH,Ao (show i≤1099511627776 by omega),Ae hi,AM hi,Nat.reduceAdd,List.length_append,List.length_cons,List.length_nil,sm];cases pvI (AD D i 1)==k<;>rfl
  rfl
 rfl
def whX(x:List PV)(p:Int)(xs:List Int):List Int:=cond (p==0||pvI (AA x 5)==p) (xs.set (pvI (AA x 19)).toNat (IntKind.i64.wrap (xs.getD (pvI (AA x 19)).toNat 0+pvI (AA x 20)))) xs
def whN(X:Rows)(p:Int):Nat→List Int
 |0=>List.replicate 9 0
 |i+1=>whX (AB X i) p (whN X p i)
theorem Ug(X:Rows)(p:Int):∀i,(whN X p i).length=9
 |0=>List.length_replicate
 |i+1=>by
  show(cond _ _ (whN X p i)).length=9;cases(p==0||pvI (AA (AB X i) 5)==p)
  ·exact Ug X p i
  exact List.length_set.trans (Ug X p i)
def SN(r:Rul)(L:Rows)(k p:Int):List Int×Int:=cond (!((BQ r L k).2==0)) ([],(BQ r L k).2) (cond (iLt p 0||iLt r.side p) ([],2) (whN (BQ r L k).1 p (BQ r L k).1.length,0))
theorem ADS{N:Nat}{r:Rul}{X:Rows}{p:Int}(hN:2097152<N)(hX:X.length≤4000)(rf:∀i,i<X.length→RowF r (AB X i)){F:(List AW→Option (List PV))→List PV→Option (List PV)}
    (h0:∀xs self,F self [.rows (BJ xs),.int (X.length:Int)]=some [.rows (BJ xs)])
    (h1:∀(i s:Nat) self (xs:List Int),i<X.length→s≤8→xs.length=9→pvI (AD X i 19)=(s:Int)→F self [.rows (BJ xs),.int (i:Int)]=self [.rows (BJ (cond (p==0||pvI (AD X i 5)==p) (xs.set s (IntKind.i64.wrap (xs.getD s 0+pvI (AD X i 20)))) xs)),.int ((i+1:Nat):Int)]):CP F N [.rows (BJ (List.replicate 9 0)),.int 0]=some [.rows (BJ (whN X p X.length))]:=by
  have:=BC (F:=F) (len:=X.length) (fun i=>[.rows (BJ (whN X p i)),.int (i:Int)]) [.rows (BJ (whN X p X.length))] (fun self=>h0 _ self) (fun i self hi=>by
    obtain⟨s,s1,s2⟩:=(rf i hi).sector;have:=h1 i s self (whN X p i) hi s1 (Ug X p i) s2;have e:whN X p (i+1)=cond (p==0||pvI (AD X i 5)==p) ((whN X p i).set s (IntKind.i64.wrap ((whN X p i).getD s 0+pvI (AD X i 20)))) (whN X p i):=by
      show whX (AB X i) p (whN X p i)=_;unfold whX;rw[s2];rfl
    rw[←e]at this;exact this) N (by omega)
  exact this
set_option maxHeartbeats 4000000 in
theorem qq{N:Nat}{r8:Bool}{r0:ByteArray}{r13:Rows}{L:Rows}{k:Int}{p:Int}(hN:2097152<N)(hs:r0.size≤1048576)(h13:r13.length≤1048576)(hL:L.length≤1000000):ND N [.str r0,.int r1,.int r2,.int r3,.int r4,.int r5,.int r6,.int r7,.bool r8,.int r9,.int r10,.int r11,.int r12,.rows r13,.rows L,.int k,.int p]=some [.rows (BJ (SN (⟨r0,r1,r2,r3,r4,r5,r6,r7,r8,r9,r10,r11,r12,r13⟩:Rul) L k p).1),.int (SN (⟨r0,r1,r2,r3,r4,r5,r6,r7,r8,r9,r10,r11,r12,r13⟩:Rul) L k p).2]:=by
 show Nc (std (PE N) N) (xOf _)=_;generalize hres:(some [.rows (BJ (SN (⟨r0,r1,r2,r3,r4,r5,r6,r7,r8,r9,r10,r11,r12,r13⟩:Rul) L k p).1),.int (SN (⟨r0,r1,r2,r3,r4,r5,r6,r7,r8,r9,r10,r11,r12,r13⟩:Rul) L k p).2]:Option (List PV))=RR;simp only[Nc,T7,lq9,std,xOf,PXb,cF hN hs h13 hL];subst hres;simp only[SN];cases hb:(BQ (⟨r0,r1,r2,r3,r4,r5,r6,r7,r8,r9,r10,r11,r12,r13⟩:Rul) L k).2==0
 ·rfl
 obtain⟨b1,b2,b3,b4,b5,b6,b7⟩:=ij hb;generalize(BQ (⟨r0,r1,r2,r3,r4,r5,r6,r7,r8,r9,r10,r11,r12,r13⟩:Rul) L k).1=X at *
 have s9:iSm 9 8=true:=by decide
 simp only[PXb,Bool.not_true];cases iLt p 0||iLt r1 p
 ·have rz:List.replicate (Int.toNat 9) [PV.int 0]=BJ (List.replicate 9 0):=rfl;simp only[PXb,s9,rz];refine AQ (ADS hN b6 b7 ?_ ?_) rfl
  ·intro xs self;simp only[PXb,PXc,PXn,AH,Aq]
  intro i s self xs hi h8 hx he;have i9:iIn (s:Int) (xs.length:Int)=true:=AM (by omega);simp only[PXb,PXc,PXn,AH,Ao (show i≤1099511627776 by omega),Ae hi,AM hi,he,EB,i9,Int.toNat_natCast,CC,nN,yz]
  grind
 rfl
def Pb(xs:List Int)(n:Nat):List Int:=xs++List.replicate (n-xs.length) 0
def YJ(x:List PV):Cre:=⟨pvI (AA x 20),pvI (AA x 21),pvI (AA x 22),pvI (AA x 23),pvI (AA x 24),pvI (AA x 25),pvB (AA x 26),pvB (AA x 27),pvB (AA x 28),pvB (AA x 29)⟩
def ovX(x:List PV)(xs:List Int):List Int:=(Pb xs ((pvI (AA x 2)).toNat+1)).set (pvI (AA x 2)).toNat (IntKind.i64.wrap ((Pb xs ((pvI (AA x 2)).toNat+1)).getD (pvI (AA x 2)).toNat 0+Bk (YJ x)))
def ovN(X:Rows):Nat→List Int
 |0=>[]
 |i+1=>ovX (AB X i) (ovN X i)
theorem mw(xs:List Int)(n:Nat):(Pb xs n).length=max xs.length n:=by
 unfold Pb
 grind
theorem nE{r:Rul}{X:Rows}(rf:∀i,i<X.length→RowF r (AB X i)):∀i,i≤X.length→(ovN X i).length≤1001
 |0,_=>Nat.zero_le _
 |i+1,hi=>by
  have ih:=nE rf i (by omega);obtain⟨o,o1,o2⟩:=(rf i (by omega)).over;show(ovX (AB X i) (ovN X i)).length≤1001;unfold ovX;rw[List.length_set,mw,o2];omega
theorem ACB{N:Nat}{xs:List Int}{o:Nat}(hN:2097152<N)(ho:o≤1000)(hx:xs.length≤1001){F:(List AW→Option (List PV))→List PV→Option (List PV)}
    (h:∀(ys:List Int) self,ys.length≤1001→F self [.rows (BJ ys)]=cond (iLe (ys.length:Int) (o:Int)) (self [.rows (BJ (ys++[0]))]) (some [.rows (BJ ys)])):CP F N [.rows (BJ xs)]=some [.rows (BJ (Pb xs (o+1)))]:=by
  have:=BC (F:=F) (len:=o+1-xs.length) (fun j=>[.rows (BJ (xs++List.replicate j 0))]) [.rows (BJ (Pb xs (o+1)))] (fun self=>by
    have:=h (xs++List.replicate (o+1-xs.length) 0) self (by grind);rw[List.length_append,List.length_replicate,show iLe ((xs.length+(o+1-xs.length):Nat):Int) (o:Int)=false by simp only[iLe,decide_eq_false_iff_not];omega]at this;exact this) (fun j self hj=>by
    have:=h (xs++List.replicate j 0) self (by grind);rw[List.length_append,List.length_replicate,show iLe ((xs.length+j:Nat):Int) (o:Int)=true by simp only[iLe,decide_eq_true_eq];omega,List.append_assoc,←List.replicate_succ']at this;exact this) N (by omega)
  have e:xs++List.replicate 0 (0:Int)=xs:=List.append_nil _;rw[e]at this;exact this
def Hm(r:Rul)(L:Rows)(k:Int):List Int×Int:=cond (!((BQ r L k).2==0)) ([],(BQ r L k).2) (ovN (BQ r L k).1 (BQ r L k).1.length,0)
theorem AD7{N:Nat}{r:Rul}{X:Rows}(hN:2097152<N)(hX:X.length≤4000)(rf:∀i,i<X.length→RowF r (AB X i)){F:(List AW→Option (List PV))→List PV→Option (List PV)}
    (h0:∀xs self,F self [.rows (BJ xs),.int (X.length:Int)]=some [.rows (BJ xs)])
    (h1:∀(i o:Nat) self (xs:List Int),i<X.length→o≤1000→xs.length≤1001→pvI (AD X i 2)=(o:Int)→F self [.rows (BJ xs),.int (i:Int)]=self [.rows (BJ ((Pb xs (o+1)).set o (IntKind.i64.wrap ((Pb xs (o+1)).getD o 0+Bk (YJ (AB X i)))))),.int ((i+1:Nat):Int)]):CP F N [.rows [],.int 0]=some [.rows (BJ (ovN X X.length))]:=by
  have:=BC (F:=F) (len:=X.length) (fun i=>[.rows (BJ (ovN X i)),.int (i:Int)]) [.rows (BJ (ovN X X.length))] (fun self=>h0 _ self) (fun i self hi=>by
    obtain⟨o,o1,o2⟩:=(rf i hi).over;have:=h1 i o self (ovN X i) hi o1 (nE rf i (by omega)) o2;have e:ovN X (i+1)=(Pb (ovN X i) (o+1)).set o (IntKind.i64.wrap ((Pb (ovN X i) (o+1)).getD o 0+Bk (YJ (AB X i)))):=by
      show ovX (AB X i) (ovN X i)=_;unfold ovX
      simp_all
    rw[←e]at this;exact this) N (by omega)
  exact this
theorem AFi(ys:List Int)(v:Int):BJ ys++[[.int v]]=BJ (ys++[v]):=(List.map_append (f:=fun x:Int=>[PV.int x]) (l₁:=ys) (l₂:=[v])).symm
set_option maxHeartbeats 4000000 in
theorem nz{N:Nat}{r8:Bool}{r0:ByteArray}{r13:Rows}{L:Rows}{k:Int}(hN:2097152<N)(hs:r0.size≤1048576)(h13:r13.length≤1048576)(hL:L.length≤1000000):Ii N [.str r0,.int r1,.int r2,.int r3,.int r4,.int r5,.int r6,.int r7,.bool r8,.int r9,.int r10,.int r11,.int r12,.rows r13,.rows L,.int k]=some [.rows (BJ (Hm (⟨r0,r1,r2,r3,r4,r5,r6,r7,r8,r9,r10,r11,r12,r13⟩:Rul) L k).1),.int (Hm (⟨r0,r1,r2,r3,r4,r5,r6,r7,r8,r9,r10,r11,r12,r13⟩:Rul) L k).2]:=by
 show Lo (std (JM N) N) (xOf _)=_;generalize hres:(some [.rows (BJ (Hm (⟨r0,r1,r2,r3,r4,r5,r6,r7,r8,r9,r10,r11,r12,r13⟩:Rul) L k).1),.int (Hm (⟨r0,r1,r2,r3,r4,r5,r6,r7,r8,r9,r10,r11,r12,r13⟩:Rul) L k).2]:Option (List PV))=RR;simp only[Lo,H6,Sm,lq9,std,xOf,PXb,cF hN hs h13 hL];subst hres;simp only[Hm];cases hb:(BQ (⟨r0,r1,r2,r3,r4,r5,r6,r7,r8,r9,r10,r11,r12,r13⟩:Rul) L k).2==0
 ·rfl
 obtain⟨b1,b2,b3,b4,b5,b6,b7⟩:=ij hb;generalize(BQ (⟨r0,r1,r2,r3,r4,r5,r6,r7,r8,r9,r10,r11,r12,r13⟩:Rul) L k).1=X at *
 simp only[PXb,Bool.not_true];refine AQ (AD7 hN b6 b7 ?_ ?_) rfl
 ·intro xs self;simp only[PXb,PXc,PXn,AH,Aq]
 intro i o self xs hi h8 hx he;simp only[PXb,PXc,PXn,AH,Ae hi,AM hi,he];refine AQ (ACB hN h8 hx ?_) ?_
 ·intro ys self hy;have sm:iSm ((ys.length+1:Nat):Int) 8=true:=Dk (by omega) (by omega);simp only[PXb,PXc,PXn,AH,EB,AFi,List.length_append,List.length_cons,List.length_nil,sm,Nat.reduceAdd]
 have io:iIn (o:Int) ((Pb xs (o+1)).length:Int)=true:=AM (by rw[mw];omega);simp only[PXb,PXc,PXn,AH,PXc,Ao (show i≤1099511627776 by omega),EB,io,H6,Gd,Nat.reduceAdd,Int.toNat_natCast,CC,nN,yz];rfl
def woN(xs:List Int):Nat→List Int
 |0=>xs
 |j+1=>(woN xs j).set (j+1) (IntKind.i64.wrap ((woN xs j).getD (j+1) 0+(woN xs j).getD j 0))
theorem Yt(xs:List Int):∀j,(woN xs j).length=xs.length
 |0=>rfl
 |j+1=>by
  show((woN xs j).set _ _).length=_;rw[List.length_set,Yt xs j]
def MS(xs:List Int):List Int:=woN xs (xs.length-1)
theorem AD2{N:Nat}{xs:List Int}(hN:2097152<N)(hx:xs.length≤1001){F:(List AW→Option (List PV))→List PV→Option (List PV)}
    (h:∀(ys:List Int) (j:Nat) self,ys.length=xs.length→j≤1001→F self [.rows (BJ ys),.int ((j:Int)+1)]=cond (iLt ((j:Int)+1) (xs.length:Int)) (self [.rows (BJ (ys.set (j+1) (IntKind.i64.wrap (ys.getD (j+1) 0+ys.getD j 0)))),.int (((j+1:Nat):Int)+1)]) (some [.rows (BJ ys)])):CP F N [.rows (BJ xs),.int 1]=some [.rows (BJ (MS xs))]:=by
  have:=BC (F:=F) (len:=xs.length-1) (fun j=>[.rows (BJ (woN xs j)),.int ((j:Int)+1)]) [.rows (BJ (MS xs))] (fun self=>by
    have:=h (woN xs (xs.length-1)) (xs.length-1) self (Yt xs _) (by omega);rw[show iLt (((xs.length-1:Nat):Int)+1) (xs.length:Int)=false by simp only[iLt,decide_eq_false_iff_not];omega]at this;exact this) (fun j self hj=>by
    have:=h (woN xs j) j self (Yt xs _) (by omega);rw[show iLt ((j:Int)+1) (xs.length:Int)=true by simp only[iLt,decide_eq_true_eq];omega]at this;exact this) N (by omega)
  exact this
theorem sH(r:Rul)(L:Rows)(k:Int):(Hm r L k).1.length≤1001:=by
 unfold Hm;cases hb:(BQ r L k).2==0
 ·simp_all
 obtain⟨b1,b2,b3,b4,b5,b6,b7⟩:=ij hb;exact nE b7 _ (Nat.le_refl _)
set_option maxHeartbeats 4000000 in
theorem tP{N:Nat}{r8:Bool}{r0:ByteArray}{r13:Rows}{L:Rows}{k:Int}(hN:2097152<N)(hs:r0.size≤1048576)(h13:r13.length≤1048576)(hL:L.length≤1000000):PF N [.str r0,.int r1,.int r2,.int r3,.int r4,.int r5,.int r6,.int r7,.bool r8,.int r9,.int r10,.int r11,.int r12,.rows r13,.rows L,.int k]=some [.rows (BJ (MS (Hm (⟨r0,r1,r2,r3,r4,r5,r6,r7,r8,r9,r10,r11,r12,r13⟩:Rul) L k).1)),.int (Hm (⟨r0,r1,r2,r3,r4,r5,r6,r7,r8,r9,r10,r11,r12,r13⟩:Rul) L k).2]:=by
 show O6 (std (RY N) N) (xOf _)=_;generalize hres:(some [.rows (BJ (MS (Hm (⟨r0,r1,r2,r3,r4,r5,r6,r7,r8,r9,r10,r11,r12,r13⟩:Rul) L k).1)),.int (Hm (⟨r0,r1,r2,r3,r4,r5,r6,r7,r8,r9,r10,r11,r12,r13⟩:Rul) L k).2]:Option (List PV))=RR;simp only[O6,Tz,lq9,std,xOf,PXb,nz hN hs h13 hL];subst hres;have ol:=sH (⟨r0,r1,r2,r3,r4,r5,r6,r7,r8,r9,r10,r11,r12,r13⟩:Rul) L k;generalize Hm (⟨r0,r1,r2,r3,r4,r5,r6,r7,r8,r9,r10,r11,r12,r13⟩:Rul) L k=o at *
 obtain⟨xs,e⟩:=o;refine AQ (AD2 hN ol ?_) rfl;intro ys j self hy hj;have w1:IntKind.i64.wrap ((j:Int)+1-1)=(j:Int):=by rw[A0 (by omega) (by omega)];omega
 have w2:IntKind.i64.wrap ((j:Int)+1+1)=((j+1:Nat):Int)+1:=by rw[A0 (by omega) (by omega)];omega
 have t1:((j:Int)+1).toNat=j+1:=by omega
 simp only[PXb,PXc,PXn,AH,EB,hy,w1,w2,t1,Int.toNat_natCast,CC,nN,yz];cases hl:iLt ((j:Int)+1) (xs.length:Int)
 ·rfl
 simp only[iLt,decide_eq_true_eq]at hl;have i1:iIn ((j:Int)+1) (xs.length:Int)=true:=by simp only[iIn,decide_eq_true_eq];omega
 have i2:iIn (j:Int) (xs.length:Int)=true:=by simp only[iIn,decide_eq_true_eq];omega
 simp_all
theorem pC{p:Int}{n:Nat}:inR p n=true↔1≤p∧p≤(n:Int):=by
 unfold inR;simp only[iLe,zzk,decide_eq_true_eq]
theorem ADs{s:Inn}{p q:Int}(h:((Rf s p q).2==0)=true):inR p s.batters.length=true∧inR q s.batters.length=true:=by
 unfold Rf at h
 grind
structure EvIn(r:Rul)(e:Ev):Prop where
 op:e.kind=2→(1≤e.player∧e.player≤r.side)∧(1≤e.other∧e.other≤r.side)
 en:e.kind=5→1≤e.player∧e.player≤r.side
 re:e.kind=6→1≤e.player∧e.player≤r.side
theorem xw{r:Rul}{s:Inn}{e:Ev}(hl:(s.batters.length:Int)=r.side)(h:((Cx r s e).2==0)=true):EvIn r e:=by
 unfold Cx at h;refine⟨fun k=>?_,fun k=>?_,fun k=>?_⟩
 ·rw[k]at h;have h:((Rf s e.player e.other).2==0)=true:=h;obtain⟨a,b⟩:=ADs h;rw[pC,hl]at a b;omega
 ·rw[k]at h;have h:((cond e.yes (GW s e.player) (M3 s e.player)).2==0)=true:=h;have m:(P3 s e.player==0)=true:=by
   cases hm:P3 s e.player==0
   ·cases hy:e.yes
    ·rw[hy]at h;unfold M3 at h;simp_all
    rw[hy]at h;unfold GW at h;simp_all
   rfl
  have:=de m;rw[pC,hl]at this;exact this
 rw[k]at h;have h:((G2 s e.player e.yes).2==0)=true:=h;have:=(AAv h).1;rw[pC,hl]at this;exact this
theorem xH{r:Rul}{s:Inn}{e:Ev}(h:((A7 r s e).2==0)=true):EvIn r e:=by
 obtain⟨hv,he,hn,hw,hp,hs⟩:=Qq h;exact xw (LX.1 hv).lb hp
theorem AEB{r:Rul}{e:Ev}(h2:(e.kind==2)=false)(h5:(e.kind==5)=false)(h6:(e.kind==6)=false):EvIn r e where
 op k:=by simp_all
 en k:=by simp_all
 re k:=by simp_all
theorem jq{m:Mat}{b:Bool}{x:Mat×Int}(h:((cond (!b) (m,1) x).2==0)=true):b=true∧(x.2==0)=true:=by
 grind
theorem ug{m:Mat}{t:Int}{x:Mat×Int}(h:((cond (!(t==0)) (m,t) x).2==0)=true):(t==0)=true:=by
 grind
theorem ADu{m:Mat}{e:Ev}(h:((FC m e).2==0)=true):EvIn m.rules e:=by
 unfold FC at h;exact xH (ug h)
theorem ACU{m:Mat}{e:Ev}(h:((EW m e).2==0)=true):EvIn m.rules e:=by
 obtain⟨hv,he,h5,ha,hs⟩:=Zz h;unfold Ky at ha;have go:∀k,e.kind=k→(k==1)=false→(k==2)=false→(k==12)=false→(k==16)=false→EvIn m.rules e:=fun k hk a b c d=>by
  rw[hk,a,b,c,d]at ha;have ha:((cond (!(m.stage==3)) (m,1) (FC m e)).2==0)=true:=ha;exact ADu (jq ha).2
 cases k2:e.kind==2
 ·cases k5:e.kind==5
  ·cases k6:e.kind==6
   ·exact AEB k2 k5 k6
   simp_all
  simp_all
 have k:=beq_iff_eq.1 k2;rw[k]at ha;have ha:((cond (!(m.stage==2)) (m,1) (aX m e)).2==0)=true:=ha;have ha:=(jq ha).2;unfold aX at ha;exact xH (ug (jq ha).2)
theorem xy{r:Rul}{L:Rows}(hc:Ah r L=0){a:Nat}(ha:a<L.length):EvIn r (evR L a):=by
 obtain⟨h1,h2,h3,h4,h5⟩:=Bv hc;obtain⟨li,so,_⟩:=MH h1 h4 a (by omega);have a0:=PP L.length 0 _ h4 a ha;rw[Nat.zero_add]at a0;have q:=(YX a0).1;rw[q]at a0;have:=ACU a0;rw[so.rules]at this;exact this
def CV(x:List PV):Int:=cond (pvI (AA x 14)==0) 0 (cond (pvI (AA x 15)==1) (pvI (AA x 5)) (cond (pvI (AA x 15)==2) (pvI (AA x 6)) 0))
def aP(x:List PV):Bool:=pvI (AA x 9)==1&&pvI (AA x 10)==0
def Q7(x:List PV)(l:Ln):Ln:={ l with runs:=IntKind.i64.wrap (l.runs+pvI (AA x 20)),balls:=cond (pvB (AA x 27)) (IntKind.i64.wrap (l.balls+1)) l.balls,fours:=cond (aP x&&pvI (AA x 12)==4) (IntKind.i64.wrap (l.fours+1)) l.fours,sixes:=cond (aP x&&pvI (AA x 12)==6) (IntKind.i64.wrap (l.sixes+1)) l.sixes }
def AEw(x:List PV)(l:Ln):Ln:={ l with out:=true,how:=pvI (AA x 14),fielder:=pvI (AA x 16),bowler:=cond (pvB (AA x 28)) (pvI (AA x 4)) l.bowler }
def Hx(x:List PV)(p:Int)(l:Ln):Ln:=cond (CV x==p) (AEw x (cond (pvI (AA x 5)==p) (Q7 x l) l)) (cond (pvI (AA x 5)==p) (Q7 x l) l)
def dLn(k:Int)(D:Rows)(F:Int→Ln):Nat→Int→Ln
 |0,p=>F p
 |n+1,p=>cond (pvI (AD D n 1)==k) (Hx (AB D n) p (dLn k D F n p)) (dLn k D F n p)
def evL(e:Ev)(p:Int)(l:Ln):Ln:=cond (e.kind==5&&e.yes) (cond (e.player==p) { l with out:=true,how:=9 } l) (cond (e.kind==6 && !e.yes) (cond (e.player==p) { l with out:=true,how:=10 } l) l)
def eLn(E:Rows)(F:Int→Ln):Nat→Int→Ln
 |0,p=>F p
 |n+1,p=>evL (evR E n) p (eLn E F n p)
def Rv(r:Rul)(L:Rows)(k:Int):Rows×Int:=cond ((BQ r L k).2==0)
  (AU (QB (Bz (Cl L k.toNat) (Cl L k.toNat).length) r.side.toNat) (eLn (Cl L k.toNat) (dLn k (BG r L) (FU fun p=>CU (Cl L k.toNat) p (Cl L k.toNat).length) (BG r L).length) (Cl L k.toNat).length),0) ([],(BQ r L k).2)
theorem SF{N:Nat}{a:Int}{b:Int}{c:Int}{d:Int}{f:Int}{x:Bool}{h:Int}{v:Int}{i:Int}{j:Int}{y:Bool}{g:Int}{p:Int}{q:Int}  : DD N [.int a,.int b,.int c,.int d,.int f,.bool x,.int h,.int v,.int i,.int j,.bool y,.int g,.int p,.int q]=some [.int (cond (h==0) 0 (cond (v==1) p (cond (v==2) q 0)))]:=by
 show HW (std (Pl N) N) (xOf _)=_;simp only[HW,lq9,std,xOf,PXb]
 grind
theorem ADM{r:Rul}{L:Rows}(hc:Ah r L=0){a:Nat}(ha:a<L.length)(hk:((evR L a).kind==4)=true)(t:Mat):CV (Ca (a:Int) (stM L a 0 (AO r).1) t (evR L a).ball)=0∨(1≤CV (Ca (a:Int) (stM L a 0 (AO r).1) t (evR L a).ball)∧CV (Ca (a:Int) (stM L a 0 (AO r).1) t (evR L a).ball)≤r.side):=by
 have bf:=NC hc ha hk;have st:=bf.ok.st;have ot:=bf.ok.ot;have e:CV (Ca (a:Int) (stM L a 0 (AO r).1) t (evR L a).ball)=cond ((evR L a).ball.how==0) 0 (cond ((evR L a).ball.victim==1) (AZ (stM L a 0 (AO r).1)).striker (cond ((evR L a).ball.victim==2) (AZ (stM L a 0 (AO r).1)).other 0)):=rfl
 grind
theorem xk{r:Rul}{L:Rows}(hc:Ah r L=0):∀n,n≤L.length→∀x,x∈HH L n 0 (AO r).1 []→RowF r x∧(CV x=0∨(1≤CV x∧CV x≤r.side))
 |0,_,x,hx=>absurd hx List.not_mem_nil
 |n+1,hn,x,hx=>by
  have ih:=xk hc n (by omega);rw[L6,Nat.zero_add]at hx;cases hk:(evR L n).kind==4
  ·simp_all
  rw[hk,cond_true]at hx
  rcases List.mem_append.1 hx with hx|hx
  ·grind
  rw[List.mem_singleton.1 hx];exact⟨ACn hc (show n<L.length by omega) hk _,ADM hc (show n<L.length by omega) hk _⟩
theorem SL{r:Rul}{L:Rows}(hc:Ah r L=0):BG r L=HH L L.length 0 (AO r).1 []:=by
 obtain⟨h1,h2,h3,h4,h5⟩:=Bv hc;unfold BG;rw[h1];obtain⟨j,j1,j2,j3,j4⟩:=Ul L L.length 0 (AO r).1;show ML L L.length 0 (AO r).1 []=_;rw[j3 []]
 rcases j4 with⟨j5,_⟩|⟨j5,j6,j7⟩
 ·rw[j5]
 have hh:=PP L.length 0 _ h4 j j5
 simp_all
theorem ABD{D:Rows}{j:Nat}(h:j<D.length):AB D j∈D:=by
 unfold AB
 simp_all
theorem AAo{r:Rul}{L:Rows}(hc:Ah r L=0){j:Nat}(hj:j<(BG r L).length):RowF r (AB (BG r L) j)∧(CV (AB (BG r L) j)=0∨(1≤CV (AB (BG r L) j)∧CV (AB (BG r L) j)≤r.side)):=by
 have:=ABD hj;rw[SL hc]at this;have e:=SL hc;rw[e]at hj⊢;exact xk hc L.length (Nat.le_refl _) _ this
theorem xE{r:Rul}{L:Rows}{k:Nat}(hc:Ah r L=0)(hk:k<opn L L.length):∀n,n≤(Cl L k).length→∀p,p∈Bz (Cl L k) n→1≤p∧p≤r.side
 |0,_,p,hp=>absurd hp List.not_mem_nil
 |n+1,hn,p,hp=>by
  have l4:=(Bv hc).2.2.1;have ih:=xE hc hk n (by omega);have sl:=jH (L:=L) (by omega) hk;have sg:=seg (L:=L) (by omega) hk;have ei:evR (Cl L k) n=evR L (AG L k+n):=mh L n (by omega);have hi:=xy hc (a:=AG L k+n) (by have:=sg.le;omega);unfold Bz at hp;rw[ei]at hp;cases h2:(evR L (AG L k+n)).kind==2
  ·rw[h2,cond_false]at hp;cases h5:(evR L (AG L k+n)).kind==5
   ·rw[h5,cond_false]at hp;exact ih p hp
   rw[h5,cond_true]at hp
   rcases MG.1 hp with hp|rfl
   ·exact ih p hp
   exact hi.en (beq_iff_eq.1 h5)
  rw[h2,cond_true]at hp;have o:=hi.op (beq_iff_eq.1 h2)
  rcases MG.1 hp with hp|rfl
  ·rcases MG.1 hp with hp|rfl
   ·exact ih p hp
   exact o.1
  exact o.2
theorem fP{r:Rul}{L:Rows}{k:Nat}(hc:Ah r L=0)(hk:k<opn L L.length)(h0:0≤r.side){p:Int}:p∈QB (Bz (Cl L k) (Cl L k).length) r.side.toNat↔1≤p∧p≤r.side:=by
 rw[iy];constructor
 ·rintro(h|h)
  ·exact xE hc hk _ (Nat.le_refl _) p h
  omega
 intro h;exact .inr (by omega)
theorem mC{o:List Int}{p:Int}(hn:o.Nodup)(h:p∈o) :
    (∀(F:Int→Ln) (a:Int),(AU o F).set (Aw p o) (Ad (AB (AU o F) (Aw p o)) 1 [.int a])=AU o (Bx F p { F p with runs:=a })) ∧
    (∀(F:Int→Ln) (a:Int),(AU o F).set (Aw p o) (Ad (AB (AU o F) (Aw p o)) 2 [.int a])=AU o (Bx F p { F p with balls:=a })) ∧
    (∀(F:Int→Ln) (a:Int),(AU o F).set (Aw p o) (Ad (AB (AU o F) (Aw p o)) 3 [.int a])=AU o (Bx F p { F p with fours:=a })) ∧
    (∀(F:Int→Ln) (a:Int),(AU o F).set (Aw p o) (Ad (AB (AU o F) (Aw p o)) 4 [.int a])=AU o (Bx F p { F p with sixes:=a })) ∧
    (∀(F:Int→Ln) (a:Bool),(AU o F).set (Aw p o) (Ad (AB (AU o F) (Aw p o)) 5 [.bool a])=AU o (Bx F p { F p with out:=a })) ∧
    (∀(F:Int→Ln) (a:Int),(AU o F).set (Aw p o) (Ad (AB (AU o F) (Aw p o)) 6 [.int a])=AU o (Bx F p { F p with how:=a })) ∧
    (∀(F:Int→Ln) (a:Int),(AU o F).set (Aw p o) (Ad (AB (AU o F) (Aw p o)) 7 [.int a])=AU o (Bx F p { F p with bowler:=a })) ∧
    (∀(F:Int→Ln) (a:Int),(AU o F).set (Aw p o) (Ad (AB (AU o F) (Aw p o)) 8 [.int a])=AU o (Bx F p { F p with fielder:=a })) ∧
    (∀(F:Int→Ln),pvI (AD (AU o F) (Aw p o) 1)=(F p).runs)∧(∀(F:Int→Ln),pvI (AD (AU o F) (Aw p o) 2)=(F p).balls) ∧
    (∀(F:Int→Ln),pvI (AD (AU o F) (Aw p o) 3)=(F p).fours)∧(∀(F:Int→Ln),pvI (AD (AU o F) (Aw p o) 4)=(F p).sixes):=by
  refine⟨fun F a=>GO hn h rfl,fun F a=>GO hn h rfl,fun F a=>GO hn h rfl,fun F a=>GO hn h rfl,fun F a=>GO hn h rfl,fun F a=>GO hn h rfl,fun F a=>GO hn h rfl,fun F a=>GO hn h rfl,fun F=>?_,fun F=>?_,fun F=>?_,fun F=>?_⟩ <;>
  · unfold AD;rw[nZ h];rfl
set_option maxHeartbeats 8000000 in
theorem Y8{N:Nat}{r8:Bool}{r0:ByteArray}{r13:Rows}{L:Rows}{k:Int}(hN:2097152<N)(hs:r0.size≤1048576)(h13:r13.length≤1048576)(hL:L.length≤1000000):DJ N [.str r0,.int r1,.int r2,.int r3,.int r4,.int r5,.int r6,.int r7,.bool r8,.int r9,.int r10,.int r11,.int r12,.rows r13,.rows L,.int k]=some [.rows (Rv (⟨r0,r1,r2,r3,r4,r5,r6,r7,r8,r9,r10,r11,r12,r13⟩:Rul) L k).1,.int (Rv (⟨r0,r1,r2,r3,r4,r5,r6,r7,r8,r9,r10,r11,r12,r13⟩:Rul) L k).2]:=by
 show IY (std (Bs N) N) (xOf _)=_;generalize hres:(some [.rows (Rv (⟨r0,r1,r2,r3,r4,r5,r6,r7,r8,r9,r10,r11,r12,r13⟩:Rul) L k).1,.int (Rv (⟨r0,r1,r2,r3,r4,r5,r6,r7,r8,r9,r10,r11,r12,r13⟩:Rul) L k).2]:Option (List PV))=RR;have hl:L.length≤1048576:=by omega
 simp only[IY,SD,WA,WZ,RA,Jj,Oh,lq9,std,xOf,PXb,Hw hN hs h13 hl,Ds hN hl,Je hN hs h13 hl,Ps,PXc];subst hres;simp only[Rv,BQ];cases hc:Ah (⟨r0,r1,r2,r3,r4,r5,r6,r7,r8,r9,r10,r11,r12,r13⟩:Rul) L==0
 ·simp only[PXb,Bool.not_false,hc]
 have pl:=PK (⟨r0,r1,r2,r3,r4,r5,r6,r7,r8,r9,r10,r11,r12,r13⟩:Rul) L;have c0:=beq_iff_eq.1 hc;simp only[PXb,Bool.not_true,PXp,IV];cases hb:iLt k 0||iLe (opn L L.length:Int) k
 ·simp only[Bool.or_eq_false_iff,iLt,iLe,decide_eq_false_iff_not]at hb;obtain⟨K,rfl⟩:∃K:Nat,k=(K:Int):=⟨k.toNat,by omega⟩;have hk:K<opn L L.length:=by omega
  have l4:=(Bv c0).2.2.1;have sg:=seg hl hk;have sgl:=sg.lt;have sge:=sg.le;have sl:=jH hl hk;have rk:=Ek (Bv c0).2.1;have rs:2≤r1∧r1≤11:=rk.side;have rg:iRg (AG L K:Int) (AG L (K+1):Int) (L.length:Int)=true:=by simp only[iRg,decide_eq_true_eq];omega
  have om:=fun p=>fP (p:=p) c0 hk (show 0≤r1 by omega)
  have pin:=fun j (hj:j<(BG (⟨r0,r1,r2,r3,r4,r5,r6,r7,r8,r9,r10,r11,r12,r13⟩:Rul) L).length)=>AAo c0 hj
  have ein:=fun j (hj:j<(Cl L K).length)=>xy c0 (a:=AG L K+j) (by omega)
  have esub:=fun j (hj:j<(Cl L K).length)=>mh L (a:=AG L K) (b:=AG L (K+1)) j (by omega)
  change∀j,j<(Cl L K).length→evR (Cl L K) j=_ at esub;have on:=PH (MR (Cl L K) (Cl L K).length) r1.toNat;have ol:=jt (Bz (Cl L K) (Cl L K).length) r1.toNat;have oe:=Zq (Cl L K) (Cl L K).length;simp only[PXb,AM hk,sg.x0,sg.x1,rg,Int.toNat_natCast,beq_self_eq_true];have ex:List.drop (AG L K) (List.take (AG L (K+1)) L)=Cl L K:=rfl;rw[ex];have einE:=fun j (hj:j<(Cl L K).length)=>(esub j hj)▸(ein j hj)
  clear ein esub ex rg sg;generalize hE:Cl L K=E at *
  generalize BG (⟨r0,r1,r2,r3,r4,r5,r6,r7,r8,r9,r10,r11,r12,r13⟩:Rul) L=D at *
  have e1:E.length≤4000:=by omega
  have e2:=lO (r0:=r0) (r1:=r1) (r2:=r2) (r3:=r3) (r4:=r4) (r5:=r5) (r6:=r6) (r7:=r7) (r8:=r8) (r9:=r9) (r10:=r10) (r11:=r11) (r12:=r12) (r13:=r13) hN e1 (by omega) (by omega);refine BZ e2 ?_;simp only[PXb,nQ];generalize hO:QB (Bz E E.length) r1.toNat=o at *
  refine AQ (BC (len:=D.length) (fun i=>[.int (i:Int),.rows (AU o (dLn K D (FU fun p=>CU E p E.length) i))]) [.rows (AU o (dLn K D (FU fun p=>CU E p E.length) D.length))] ?_ ?_ N (by omega)) ?_
  ·intro self;simp only[PXb,PXc,PXn,AH,Aq]
  ·intro i self hi;have wi:IntKind.i64.wrap ((i:Int)+1)=((i+1:Nat):Int):=Ao (show i≤1099511627776 by omega);obtain⟨rf,vf⟩:=pin i hi;have st:=rf.striker;have so:pvI (AD D i 5)∈o:=(om _).2 st;have ix:=De (o:=o) (F:=dLn K D (FU fun p=>CU E p E.length) i) (p:=pvI (AD D i 5)) (by omega) hN;rw[MN.2 so,cond_true]at ix;generalize hF:dLn (K:Int) D (FU fun p=>CU E p E.length)=G at *
   have nx:G (i+1)=fun p=>cond (pvI (AD D i 1)==(K:Int)) (Hx (AB D i) p (G i p)) (G i p):=by rw[←hF];rfl
   simp only[PXb,Ae hi,AM hi,wi];cases hk1:pvI (AD D i 1)==(K:Int)
   ·have:G (i+1)=G i:=by rw[nx,hk1];rfl
    rw[this];rfl
   rw[Bool.not_true,cond_false];refine BZ ix ?_;simp only[PXb,Br,AM (G0 so).1,Int.toNat_natCast];have cs:=mC on so;generalize hp:pvI (AD D i 5)=p at *
   generalize hx:AB D i=x at *
   have xx:∀c,AD D i c=AA x c:=fun c=>by unfold AD;rw[hx]
   simp only[xx]at hp⊢;have b46:(pvI (AA x 12)==4)=true→(pvI (AA x 12)==6)=false:=fun h=>by rw[beq_iff_eq.1 h];rfl
   refine BZ (v:=[.rows (AU o (Bx (G i) p { G i p with runs:=IntKind.i64.wrap ((G i p).runs+pvI (AA x 20)),balls:=cond (pvB (AA x 27)) (IntKind.i64.wrap ((G i p).balls+1)) (G i p).balls }))]) ?_ ?_
   ·cases pvB (AA x 27)<;>simp only[cond_true,cond_false,cs,I4,Qk]
   simp only[PXb];refine BZ (v:=[.rows (AU o (Bx (G i) p (Q7 x (G i p))))]) ?_ ?_
   ·unfold Q7 aP;cases pvI (AA x 9)==1<;>cases pvI (AA x 10)==0<;>cases h4:pvI (AA x 12)==4<;>cases h6:pvI (AA x 12)==6 <;>
     simp only[Bool.and_true,Bool.and_false,Bool.true_and,Bool.false_and,cond_true,cond_false,cs,I4,Qk]
    rw[b46 h4]at h6;cases h6
   simp only[PXb];have vr:CV x=cond (pvI (AA x 14)==0) 0 (cond (pvI (AA x 15)==1) p (cond (pvI (AA x 15)==2) (pvI (AA x 6)) 0)):=by unfold CV;rw[hp]
   refine BZ (v:=[.int (CV x)]) (by rw[vr];exact SF) ?_;simp only[PXb];have fin:∀F:Int→Ln,(∀q,1≤q→F q=Hx x q (G i q))→AU o F=AU o (G (i+1)):=fun F hF=>yI fun q hq=>by
    rw[nx,hF q ((om q).1 hq).1,hk1];exact rfl
   have two:∀q,Bx (G i) p (Q7 x (G i p)) q=cond (pvI (AA x 5)==q) (Q7 x (G i q)) (G i q):=fun q=>by
    unfold Bx;rw[hp];cases hq:q==p
    ·rw[show(p==q)=false from beq_eq_false_iff_ne.2 (fun e=>by rw[e,beq_self_eq_true]at hq;cases hq)];rfl
    rw[beq_iff_eq.1 hq,beq_self_eq_true]
   rcases vf with v0|v1
   ·have e:iLt 0 (CV x)=false:=by rw[v0];rfl
    rw[e,cond_false,fin _ fun q hq=>by
     rw[two];unfold Hx;rw[v0,show((0:Int)==q)=false from beq_eq_false_iff_ne.2 (by omega),cond_false]]
   have e:iLt 0 (CV x)=true:=by simp only[iLt,decide_eq_true_eq];omega
   have vo:CV x∈o:=(om _).2 v1;have cv:=mC on vo;have iv:=De (o:=o) (F:=Bx (G i) p (Q7 x (G i p))) (p:=CV x) (by omega) hN;rw[MN.2 vo,cond_true]at iv;rw[e,cond_true];refine BZ iv ?_;simp only[PXb,Br,AM (G0 vo).1,Int.toNat_natCast,cv,I4,Qk];have last:∀(b:Bool) (bw:Int),b=pvB (AA x 28)→bw=cond b (pvI (AA x 4)) (Bx (G i) p (Q7 x (G i p)) (CV x)).bowler→AU o (Bx (Bx (G i) p (Q7 x (G i p))) (CV x) { Bx (G i) p (Q7 x (G i p)) (CV x)with out:=true,how:=pvI (AA x 14),fielder:=pvI (AA x 16),bowler:=bw })=AU o (G (i+1)):=fun b bw hb hw=>fin _ fun q hq=>by
    subst hb;subst hw;show Bx _ (CV x) (AEw x (Bx (G i) p (Q7 x (G i p)) (CV x))) q=_;unfold Hx;rw[←two q];unfold Bx;cases hq2:q==CV x
    ·rw[show(CV x==q)=false from beq_eq_false_iff_ne.2 (fun e=>by rw[e,beq_self_eq_true]at hq2;cases hq2)];rfl
    rw[beq_iff_eq.1 hq2,beq_self_eq_true]
   cases hw:pvB (AA x 28)
   ·rw[cond_false];exact congrArg (fun R=>self [Leaf.int ((i+1:Nat):Int),Leaf.rows R]) (last false _ hw.symm rfl)
   rw[cond_true];exact congrArg (fun R=>self [Leaf.int ((i+1:Nat):Int),Leaf.rows R]) (last true _ hw.symm rfl)
  simp only[PXb];generalize dLn (K:Int) D (FU fun p=>CU E p E.length) D.length=F0 at *
  refine AQ (BC (len:=E.length) (fun i=>[.int (i:Int),.rows (AU o (eLn E F0 i))]) [.rows (AU o (eLn E F0 E.length))] ?_ ?_ N (by omega)) rfl
  ·intro self;simp only[PXb,Aq]
  intro i self hi;have wi:IntKind.i64.wrap ((i:Int)+1)=((i+1:Nat):Int):=Ao (show i≤1099511627776 by omega);have ei:=einE i hi;have kk:(evR E i).kind=pvI (AD E i 0):=rfl;have kp:(evR E i).player=pvI (AD E i 2):=rfl;have ky:(evR E i).yes=pvB (AD E i 4):=rfl;have nx:eLn E F0 (i+1)=fun p=>evL (evR E i) p (eLn E F0 i p):=rfl
  generalize eLn E F0 i=G at *
  simp only[PXb,Ae hi,AM hi,wi,←kk,←kp,←ky];rw[nx];have fin:∀(h:Int),(∀q,evL (evR E i) q (G q)=cond ((evR E i).player==q) { G q with out:=true,how:=h } (G q))→AU o (Bx G (evR E i).player { G (evR E i).player with out:=true,how:=h })=AU o fun p=>evL (evR E i) p (G p):=fun h hq=>by
   congr 1
   funext q
   rw[hq];unfold Bx;cases hq2:q==(evR E i).player
   ·rw[show((evR E i).player==q)=false from beq_eq_false_iff_ne.2 (fun e=>by rw[e,beq_self_eq_true]at hq2;cases hq2)];rfl
   rw[beq_iff_eq.1 hq2,beq_self_eq_true]
  cases h5:(evR E i).kind==5&&(evR E i).yes
  ·cases h6:(evR E i).kind==6 && !(evR E i).yes
   ·rw[cond_false,cond_false];have:(fun p=>evL (evR E i) p (G p))=G:=funext fun q=>by unfold evL;rw[h5,h6];rfl
    rw[this]
   have h6':=h6;simp only[zzk]at h6';have po:(evR E i).player∈o:=(om _).2 (ei.re (beq_iff_eq.1 h6'.1));have cs:=mC on po;have ix:=De (o:=o) (F:=G) (p:=(evR E i).player) (by omega) hN;rw[MN.2 po,cond_true]at ix;rw[cond_false,cond_true];refine BZ ix ?_;simp only[PXb,Br,AM (G0 po).1,Int.toNat_natCast,cs,I4,Qk];rw[←fin 10 fun q=>by unfold evL;rw[h5,h6];rfl]
  simp only[zzk]at h5;have po:(evR E i).player∈o:=(om _).2 (ei.en (beq_iff_eq.1 h5.1));have cs:=mC on po;have ix:=De (o:=o) (F:=G) (p:=(evR E i).player) (by omega) hN;rw[MN.2 po,cond_true]at ix;rw[cond_true];refine BZ ix ?_;simp only[PXb,Br,AM (G0 po).1,Int.toNat_natCast,cs,I4,Qk];rw[←fin 9 fun q=>by unfold evL;rw[h5.1,h5.2];rfl]
 rfl
def HA(X:Rows)(p:Int):Nat→Ln
 |0=>ln0
 |n+1=>Hx (AB X n) p (HA X p n)
def evX(e:Ev)(p:Int)(l:Ln):Ln:=cond (e.kind==2&&(e.player==p||e.other==p)) { l with batted:=true } (cond ((e.kind==5&&e.player==p) && !e.yes) { l with batted:=true } (cond (e.kind==5&&e.player==p) { l with out:=true,how:=9 } (cond ((e.kind==6&&e.player==p) && !e.yes) { l with out:=true,how:=10 } l)))
def XS(E:Rows)(p:Int)(l:Ln):Nat→Ln
 |0=>l
 |n+1=>evX (evR E n) p (XS E p l n)
theorem xX(E:Rows)(p:Int)(F:Int→Ln):∀n,XS E p (F p) n={ eLn E F n p with batted:=(F p).batted||CU E p n }
 |0=>by
  show F p={ F p with batted:=(F p).batted||false }
  simp_all
 |n+1=>by
  show evX (evR E n) p (XS E p (F p) n)={ evL (evR E n) p (eLn E F n p)with batted:=(F p).batted||(CU E p n||cond ((evR E n).kind==2) (p==(evR E n).player||p==(evR E n).other) (cond ((evR E n).kind==5) (p==(evR E n).player && !(evR E n).yes) false)) };rw[xX E p F n];generalize eLn E F n p=l;generalize(F p).batted=b;generalize CU E p n=c;have c1:((evR E n).player==p)=(p==(evR E n).player):=by grind
  have c2:((evR E n).other==p)=(p==(evR E n).other):=by grind
  unfold evX evL
  grind
theorem AFB(x:List PV)(p:Int)(l:Ln)(b:Bool):Hx x p { l with batted:=b }={ Hx x p l with batted:=b }:=by
 unfold Hx;cases CV x==p<;>cases pvI (AA x 5)==p<;>rfl
theorem AFx(e:Ev)(p:Int)(l:Ln)(b:Bool):evL e p { l with batted:=b }={ evL e p l with batted:=b }:=by
 unfold evL
 grind
theorem ABQ(x:List PV)(p:Int)(l:Ln):(Hx x p l).batted=l.batted:=by
 unfold Hx;cases CV x==p<;>cases pvI (AA x 5)==p<;>rfl
theorem qM(X:Rows)(p:Int):∀n,(HA X p n).batted=false
 |0=>rfl
 |n+1=>(ABQ _ _ _).trans (qM X p n)
theorem gy{X Y:Rows}{p:Int}:∀n,(∀i,i<n→AB X i=AB Y i)→HA X p n=HA Y p n
 |0,_=>rfl
 |n+1,h=>by
  show Hx (AB X n) p _=Hx (AB Y n) p _;rw[h n (Nat.lt_succ_self n),gy n (fun i hi=>h i (Nat.lt_succ_of_lt hi))]
theorem AAT(A:Rows)(y:List PV)(p:Int):HA (A++[y]) p (A++[y]).length=Hx y p (HA A p A.length):=by
 rw[List.length_append];show Hx (AB (A++[y]) A.length) p (HA (A++[y]) p A.length)=_;have e:AB (A++[y]) A.length=y:=by
  unfold AB
  simp_all
 rw[e,gy (Y:=A) A.length (fun i hi=>by
  unfold AB
  grind)]
theorem vA(k:Int)(D:Rows)(B:Int→Bool)(p:Int):∀n,n≤D.length→dLn k D (FU B) n p={ HA (fil k (D.take n)) p (fil k (D.take n)).length with batted:=B p }
 |0,_=>rfl
 |n+1,h=>by
  show cond (pvI (AD D n 1)==k) (Hx (AB D n) p (dLn k D (FU B) n p)) (dLn k D (FU B) n p)=_;rw[Zg (by omega),vA k D B p n (by omega)];cases pvI (AD D n 1)==k
  ·rfl
  rw[cond_true,cond_true,AAT,AFB];rfl
theorem AC3(E:Rows){F G:Int→Ln}{B:Int→Bool}{p:Int}(h:F p={ G p with batted:=B p }):∀n,eLn E F n p={ eLn E G n p with batted:=B p }
 |0=>h
 |n+1=>by
  show evL (evR E n) p (eLn E F n p)=_;rw[AC3 E h n,AFx];rfl
theorem ADo(k:Int)(D E:Rows)(p:Int):XS E p (HA (fil k D) p (fil k D).length) E.length=eLn E (dLn k D (FU fun p=>CU E p E.length) D.length) E.length p:=by
 have h1:=xX E p (fun p=>HA (fil k D) p (fil k D).length) E.length;have h2:=vA k D (fun p=>CU E p E.length) p D.length (Nat.le_refl _);rw[List.take_length]at h2;rw[AC3 E (G:=fun p=>HA (fil k D) p (fil k D).length) (B:=fun p=>CU E p E.length) h2 E.length];refine h1.trans ?_;rw[qM,Bool.false_or]
def AFZ(B:Rows)(p:Int):Bool:=atI B (ix p) 0==2
def NS(e:Ev)(p:Int):Bool:=(e.kind==5&&e.yes&&e.player==p)||(e.kind==6 && !e.yes&&e.player==p)
def cu(X:Rows)(q:Int):Bool:=X.any fun x=>CV x==q
def cq(L:Rows)(k:Nat)(q:Int):Nat→Bool
 |0=>false
 |n+1=>cq L k q n||(Nat.beq (opn L (n+1)) (k+1)&&NS (evR L n) q)
theorem xf{r:Rul}{L:Rows}{k:Nat}:∀n,opn L n≤k→Ax r L k n=[]
 |0,_=>rfl
 |n+1,h=>by
  have:=Nj L n;unfold Ax;rw[J2 (show¬opn L (n+1)=k+1 by omega),Bool.and_false,cond_false];exact xf n (by omega)
theorem jT{L:Rows}{k:Nat}{q:Int}:∀n,opn L n≤k→cq L k q n=false
 |0,_=>rfl
 |n+1,h=>by
  have:=Nj L n;unfold cq;rw[J2 (show¬opn L (n+1)=k+1 by omega),jT n (by omega)];rfl
structure DeadN(r:Rul)(L:Rows)(k n:Nat):Prop where
 shp:Shp (AZ (stM L n 0 (AO r).1)).batters
 len:((AZ (stM L n 0 (AO r).1)).batters.length:Int)=r.side
 wk:fA (AZ (stM L n 0 (AO r).1)).batters=smi L Da k n
 dead:∀q,inR q (AZ (stM L n 0 (AO r).1)).batters.length=true→AFZ (AZ (stM L n 0 (AO r).1)).batters q=(cu (Ax r L k n) q||cq L k q n)
def jP(L:Rows):Nat→Int
 |0=>0
 |n+1=>IntKind.i64.wrap (jP L n+pvI (AD L n 1))
theorem lL{N:Nat}(hN:2097152<N){L:Rows}(hl:L.length≤1048576):Hp N [.rows L]=some [.int (jP L L.length)]:=by
 show Kd (std (TO N) N) (xOf _)=_;simp only[Kd,lq9,std,xOf,PXb];refine AQ (BC (len:=L.length) (fun i=>[.int (jP L i),.int (i:Int)]) [.int (jP L L.length)] ?_ ?_ N (by omega)) rfl
 ·intro self;simp only[PXb,Aq]
 intro i self hi;simp only[PXb,Ao (show i≤1099511627776 by omega),Ae hi,AM hi,jP]
def Av(f:List PV→Int):Rows→Int
 | []=>0
 |x::D=>f x+Av f D
theorem Nx(f:List PV→Int):∀A B,Av f (A++B)=Av f A+Av f B
 | [],B=>by rw[List.nil_append];show _=0+Av f B;omega
 |x::A,B=>by
  have:=Nx f A B;show f x+Av f (A++B)=f x+Av f A+Av f B;omega
theorem OJ(f:List PV→Int){D:Rows}{i:Nat}(h:i<D.length):Av f (D.take (i+1))=Av f (D.take i)+f (AB D i):=by
 rw[OB h,Nx];show _+(f (AB D i)+0)=_;omega
theorem Yh{f:List PV→Int}{c:Int}:∀(D:Rows),(∀x,x∈D→0≤f x∧f x≤c)→0≤Av f D∧Av f D≤c*(D.length:Int)
 | [],_=>by
  show(0:Int)≤0∧(0:Int)≤c*((0:Nat):Int);omega
 |x::D,h=>by
  have ih:=Yh D (fun y hy=>h y (zzn _ hy));have h1:=h x zzm;have e:c*(((x::D).length:Nat):Int)=c*(D.length:Int)+c:=by rw[List.length_cons,show((D.length+1:Nat):Int)=(D.length:Int)+1 by omega,Int.mul_add,Int.mul_one]
  rw[e];show 0≤f x+Av f D∧f x+Av f D≤_;omega
theorem tD{f g h:List PV→Int}:∀(D:Rows),(∀x,x∈D→f x+g x=h x)→Av f D+Av g D=Av h D
 | [],_=>rfl
 |x::D,e=>by
  have ih:=tD D (fun y hy=>e y (zzn _ hy));have h1:=e x zzm;show f x+Av f D+(g x+Av g D)=h x+Av h D;omega
theorem Pu{f g:List PV→Int}:∀(D:Rows),(∀x,x∈D→f x=g x)→Av f D=Av g D
 | [],_=>rfl
 |x::D,e=>by
  have ih:=Pu D (fun y hy=>e y (zzn _ hy));have h1:=e x zzm;show f x+Av f D=g x+Av g D;omega
theorem qC:∀(D:Rows),Av (fun _=>0) D=0
 | []=>rfl
 |x::D=>by
  have:=qC D;show(0:Int)+Av (fun _=>0) D=0;omega
theorem Ub{D:Rows}{i:Nat}(h:i<D.length):AB D i∈D:=by
 unfold AB
 simp_all
structure RowG(n:Int)(x:List PV):Prop where
 over:∃o:Nat,o≤1000∧pvI (AA x 2)=(o:Int)
 sector:∃s:Nat,s≤8∧pvI (AA x 19)=(s:Int)
 striker:1≤pvI (AA x 5)∧pvI (AA x 5)≤n
 bat:0≤pvI (AA x 20)∧pvI (AA x 20)≤62
 tot:0≤Bk (YJ x)∧Bk (YJ x)≤62
theorem ACl{r:Rul}(rk:RulOk r){x:List PV}(h:RowF r x):RowG r.side x:=by
 obtain⟨d,e0,e1,e2,e3,e4,e5⟩:=h.cre;have c:=mU rk d;have t:Bk (YJ x)=Bk (AF r d):=by
  unfold Bk YJ
  simp_all
 have h0:=c.ba;have h1:=c.wi;have h2:=c.no;have h3:=c.bb;have h4:=c.lb;have h5:=c.tot;exact⟨h.over,h.sector,h.striker,by omega,by omega⟩
theorem og(xs:List Int)(i s:Nat)(v:Int)(h:i<xs.length):(xs.set i v).getD s 0=if i=s then v else xs.getD s 0:=by
 grind
def pre(xs:List Int):Nat→Int
 |0=>0
 |j+1=>pre xs j+xs.getD j 0
theorem oO{xs:List Int}{D:Rows}(q:List PV→Bool)(g:List PV→Int)(b:List PV→Int):∀j,(∀s,s<j→xs.getD s 0=Av (fun x=>cond (q x&&g x==(s:Int)) (b x) 0) D)→(∀x,x∈D→0≤g x)→pre xs j=Av (fun x=>cond (q x&&decide (g x<(j:Int))) (b x) 0) D
 |0,_,hg=>by
  show(0:Int)=_;refine(qC D).symm.trans (Pu D fun x hx=>?_)
  grind
 |j+1,h,hg=>by
  have ih:=oO q g b j (fun s hs=>h s (by omega)) hg;show pre xs j+xs.getD j 0=_;rw[ih,h j (by omega)];refine tD D fun x hx=>?_
  grind
def dM(p:Int)(x:List PV):Bool:=p==0||pvI (AA x 5)==p
def Nm(x:List PV):Int:=pvI (AA x 20)
def oG(x:List PV):Int:=pvI (AA x 19)
def nS(q:List PV→Bool)(s:Nat)(x:List PV):Int:=cond (q x&&oG x==(s:Int)) (Nm x) 0
theorem AAH{n:Int}{x:List PV}(h:RowG n x)(q:List PV→Bool)(s:Nat):0≤nS q s x∧nS q s x≤62:=by
 unfold nS;have:=h.bat;cases q x&&oG x==(s:Int)
 ·simp_all
 trivial
theorem uK{n:Int}{X:Rows}(hX:X.length≤4000)(rg:∀x,x∈X→RowG n x)(p:Int){s:Nat}(hs:s<9):∀i,i≤X.length→(whN X p i).getD s 0=Av (nS (dM p) s) (X.take i)
 |0,_=>by
  show(List.replicate 9 (0:Int)).getD s 0=0
  grind
 |i+1,hi=>by
  have ih:=uK hX rg p hs i (by omega);have bd:=Yh (f:=nS (dM p) s) (c:=62) (X.take i) (fun x hx=>AAH (rg x (List.mem_of_mem_take hx)) _ _);have lt:(X.take i).length=i:=by grind
  rw[lt]at bd;have g:=rg _ (Ub (show i<X.length by omega));obtain⟨o,o1,o2⟩:=g.sector;have gb:=g.bat;rw[OJ _ (show i<X.length by omega),←ih];rw[←ih]at bd;show(whX (AB X i) p (whN X p i)).getD s 0=(whN X p i).getD s 0+cond (dM p (AB X i)&&oG (AB X i)==(s:Int)) (Nm (AB X i)) 0;unfold whX oG Nm;have wl:=Ug X p i;generalize whN X p i=xs at *
  rw[o2,Int.toNat_natCast];show(cond (dM p (AB X i)) _ _:List Int).getD s 0=_;cases dM p (AB X i)
  ·simp_all
  show(xs.set o _).getD s 0=_;rw[og _ _ _ _ (by omega)]
  by_cases e:o=s
  ·rw[if_pos e,e,beq_self_eq_true];exact A0 (by omega) (by omega)
  grind
def j0(a:Int)(ys:List Int):Nat→Int
 |0=>a
 |j+1=>IntKind.i64.wrap (j0 a ys j+ys.getD j 0)
theorem vS{a:Int}{ys:List Int}(ha:0≤a∧a≤100000000):∀j,j≤9→(∀s,s<j→0≤ys.getD s 0∧ys.getD s 0≤1000000)→j0 a ys j=a+pre ys j∧0≤pre ys j∧pre ys j≤1000000*(j:Int)
 |0,_,_=>by
  show a=a+0∧(0:Int)≤0∧(0:Int)≤1000000*((0:Nat):Int);omega
 |j+1,hj,h=>by
  obtain⟨i1,i2,i3⟩:=vS ha j (by omega) (fun s hs=>h s (by omega));have h1:=h j (by omega);show IntKind.i64.wrap (j0 a ys j+ys.getD j 0)=a+(pre ys j+ys.getD j 0)∧0≤pre ys j+ys.getD j 0∧pre ys j+ys.getD j 0≤_;rw[i1,A0 (by omega) (by omega)];omega
theorem AEZ{n:Int}{X:Rows}(hX:X.length≤4000)(rg:∀x,x∈X→RowG n x)(p:Int):pre (whN X p X.length) 9=Av (fun x=>cond (dM p x) (Nm x) 0) X:=by
 rw[oO (dM p) oG Nm (D:=X) 9 (fun s hs=>by
  have:=uK hX rg p hs X.length (Nat.le_refl _);rw[List.take_length]at this;exact this) (fun x hx=>by
  obtain⟨o,o1,o2⟩:=(rg x hx).sector;show 0≤pvI (AA x 19);omega)]
 refine Pu X fun x hx=>?_
 obtain⟨o,o1,o2⟩:=(rg x hx).sector;rw[decide_eq_true (show oG x<((9:Nat):Int) by show pvI (AA x 19)<_;omega),Bool.and_true]
def yp(x:List PV):Int:=pvI (AA x 2)
def sO(x:List PV):Int:=Bk (YJ x)
def ovF(s:Nat)(x:List PV):Int:=cond (true&&yp x==(s:Int)) (sO x) 0
theorem ACj{n:Int}{x:List PV}(h:RowG n x)(s:Nat):0≤ovF s x∧ovF s x≤62:=by
 unfold ovF;have:=h.tot;cases true&&yp x==(s:Int)
 ·simp_all
 trivial
theorem xR(xs:List Int)(n s:Nat):(Pb xs n).getD s 0=xs.getD s 0:=by
 unfold Pb
 grind
theorem td{n:Int}{X:Rows}(hX:X.length≤4000)(rg:∀x,x∈X→RowG n x)(s:Nat):∀i,i≤X.length→(ovN X i).getD s 0=Av (ovF s) (X.take i)∧∀x,x∈X.take i→yp x<((ovN X i).length:Int)
 |0,_=>by
  refine⟨?_,fun x hx=>?_⟩
  ·rfl
  trivial
 |i+1,hi=>by
  obtain⟨ih,il⟩:=td hX rg s i (by omega);have bd:=Yh (f:=ovF s) (c:=62) (X.take i) (fun x hx=>ACj (rg x (List.mem_of_mem_take hx)) _);have lt:(X.take i).length=i:=by grind
  rw[lt]at bd;have g:=rg _ (Ub (show i<X.length by omega));obtain⟨o,o1,o2⟩:=g.over;have gb:=g.tot;have tl:∀xs:List Int,(Pb xs (o+1)).length=max xs.length (o+1):=fun xs=>mw xs (o+1)
  refine⟨?_,fun x hx=>?_⟩
  ·rw[OJ _ (show i<X.length by omega),←ih];rw[←ih]at bd;show(ovX (AB X i) (ovN X i)).getD s 0=(ovN X i).getD s 0+cond (true&&pvI (AA (AB X i) 2)==(s:Int)) (Bk (YJ (AB X i))) 0;unfold ovX;generalize ovN X i=xs at *
   rw[o2,Int.toNat_natCast,Bool.true_and];rw[og _ _ _ _ (by grind),xR,xR]
   by_cases e:o=s
   ·rw[if_pos e,e,beq_self_eq_true];exact A0 (by omega) (by omega)
   grind
  have ll:(ovN X (i+1)).length=max (ovN X i).length (o+1):=by
   show(ovX (AB X i) (ovN X i)).length=_;unfold ovX
   simp_all
  rw[ll];rw[OB (show i<X.length by omega)]at hx
  rcases List.mem_append.1 hx with hx|hx
  ·grind
  rw[List.mem_singleton.1 hx];show pvI (AA (AB X i) 2)<_;omega
theorem AFQ{n:Int}{X:Rows}(hX:X.length≤4000)(rg:∀x,x∈X→RowG n x):pre (ovN X X.length) (ovN X X.length).length=Av sO X∧(∀s,0≤(ovN X X.length).getD s 0∧(ovN X X.length).getD s 0≤1000000):=by
 have ft:∀s,(ovN X X.length).getD s 0=Av (ovF s) X:=fun s=>by
  have:=(td hX rg s X.length (Nat.le_refl _)).1
  simp_all
 refine⟨?_,fun s=>?_⟩
 ·rw[oO (fun _=>true) yp sO (D:=X) (ovN X X.length).length (fun s _=>ft s) (fun x hx=>by
   obtain⟨o,o1,o2⟩:=(rg x hx).over;show 0≤pvI (AA x 2);omega)]
  refine Pu X fun x hx=>?_
  have:=(td hX rg 0 X.length (Nat.le_refl _)).2 x (by simp_all)
  simp_all
 rw[ft s];have:=Yh (f:=ovF s) (c:=62) X (fun x hx=>ACj (rg x hx) _);omega
theorem ACf{xs:List Int}(h:∀s,0≤xs.getD s 0∧xs.getD s 0≤1000000):∀j,0≤pre xs j∧pre xs j≤1000000*(j:Int)
 |0=>by
  show(0:Int)≤0∧(0:Int)≤1000000*((0:Nat):Int);omega
 |j+1=>by
  have ih:=ACf h j;have:=h j;show 0≤pre xs j+xs.getD j 0∧pre xs j+xs.getD j 0≤_;omega
theorem lG{xs:List Int}(h:∀s,0≤xs.getD s 0∧xs.getD s 0≤1000000)(hl:xs.length≤1001)(t:Nat):∀j,j<xs.length→(woN xs j).getD t 0=if t≤j then pre xs (t+1)else xs.getD t 0
 |0,hj=>by
  by_cases e:t≤0
  ·rw[if_pos e];have:t=0:=by omega
   rw[this];show xs.getD 0 0=0+xs.getD 0 0;omega
  rw[if_neg e];rfl
 |j+1,hj=>by
  have ih:=lG h hl t j (by omega);have i1:=lG h hl (j+1) j (by omega);have i2:=lG h hl j j (by omega);rw[if_neg (by omega)]at i1;rw[if_pos (Nat.le_refl _)]at i2;have pb:=ACf h (j+1);have xb:=h (j+1);show((woN xs j).set (j+1) _).getD t 0=_;rw[og _ _ _ _ (by rw[Yt];omega),i1,i2]
  by_cases e:j+1=t
  ·rw[if_pos e,←e,if_pos (Nat.le_refl _),A0 (by omega) (by omega)];show _=pre xs (j+1)+xs.getD (j+1) 0;omega
  omega
theorem ABr{xs:List Int}(h:∀s,0≤xs.getD s 0∧xs.getD s 0≤1000000)(hl:xs.length≤1001){t:Nat}(ht:t<xs.length):(MS xs).getD t 0=pre xs (t+1):=by
 unfold MS;rw[lG h hl t (xs.length-1) (by omega),if_pos (by omega)]
theorem nP{r:Rul}{L:Rows}(hc:Ah r L=0)(k:Nat):∀n,n≤L.length→Av Nm (Ax r L k n)=smi L (fun e=>(BM r e).batter) k n∧Av sO (Ax r L k n)=smi L (ET r) k n
 |0,_=>⟨rfl,rfl⟩
 |n+1,hn=>by
  obtain⟨i1,i2⟩:=nP hc k n (by omega);rw[CM,CM];show Av Nm (cond ((evR L n).kind==4&&Nat.beq (opn L (n+1)) (k+1)) _ (Ax r L k n))=_∧Av sO (cond ((evR L n).kind==4&&Nat.beq (opn L (n+1)) (k+1)) _ (Ax r L k n))=_;unfold ET BM;unfold ET BM at i2;unfold BM at i1;cases hk:(evR L n).kind==4
  ·have z:Bk Zv=0:=by decide
   have z1:Zv.batter=0:=rfl
   simp_all
  have bf:=NC hc (show n<L.length by omega) hk;have rl:=bf.rules;cases Nat.beq (opn L (n+1)) (k+1)
  ·simp_all
  simp only[Bool.and_true,cond_true,Nx];rw[i1,i2];refine⟨?_,?_⟩
  ·show _+((AF (stM L n 0 (AO r).1).rules (evR L n).ball).batter+0)=_
   simp_all
  show _+(Bk (AF (stM L n 0 (AO r).1).rules (evR L n).ball)+0)=_
  simp_all
theorem ja{r:Rul}{L:Rows}{k:Nat}(hc:Ah r L=0)(hk:k<opn L L.length):BQ r L (k:Int)=(Ax r L k L.length,0):=by
 unfold BQ;have e:(iLt (k:Int) 0||iLe (opn L L.length:Int) (k:Int))=false:=by
  simp only[Bool.or_eq_false_iff,iLt,iLe,decide_eq_false_iff_not];omega
 rw[hc,e,UT hc];rfl
theorem ACH{r:Rul}{L:Rows}{k:Nat}(hc:Ah r L=0)(hk:k<opn L L.length){p:Int}(hp:0≤p∧p≤r.side):SN r L (k:Int) p=(whN (Ax r L k L.length) p (Ax r L k L.length).length,0):=by
 unfold SN;rw[ja hc hk];have e:(iLt p 0||iLt r.side p)=false:=by
  simp only[Bool.or_eq_false_iff,iLt,decide_eq_false_iff_not];omega
 grind
theorem ADJ{r:Rul}{L:Rows}{k:Nat}(hc:Ah r L=0)(hk:k<opn L L.length):Hm r L (k:Int)=(ovN (Ax r L k L.length) (Ax r L k L.length).length,0):=by
 unfold Hm;rw[ja hc hk];rfl
def DI(g:Int→Int):List Int→Int
 | []=>0
 |b::B=>g b+DI g B
theorem eg:∀B,DI (fun _=>0) B=0
 | []=>rfl
 |b::B=>by
  have:=eg B;show 0+DI (fun _=>0) B=0;omega
theorem jc(g h:Int→Int):∀B,DI (fun b=>g b+h b) B=DI g B+DI h B
 | []=>rfl
 |b::B=>by
  have:=jc g h B;show g b+h b+DI (fun b=>g b+h b) B=g b+DI g B+(h b+DI h B);omega
theorem PQ{g h:Int→Int}:∀{B:List Int},(∀b,b∈B→g b=h b)→DI g B=DI h B
 | [],_=>rfl
 |b::B,e=>by
  have:=PQ (B:=B) (fun y hy=>e y (zzn _ hy));have h1:=e b zzm;show g b+DI g B=h b+DI h B;omega
theorem qG{c v:Int}:∀{B:List Int},c∉B→DI (fun b=>cond (c==b) v 0) B=0
 | [],_=>rfl
 |b::B,h=>by
  have ih:=qG (c:=c) (v:=v) (B:=B) (fun hm=>h (zzn _ hm));show cond (c==b) v 0+DI (fun b=>cond (c==b) v 0) B=0;rw[ih,beq_eq_false_iff_ne.2 (fun e=>h (by rw[e];exact zzm))];rfl
theorem ip{c v:Int}:∀{B:List Int},B.Nodup→c∈B→DI (fun b=>cond (c==b) v 0) B=v
 | [],_,h=>absurd h List.not_mem_nil
 |b::B,hn,h=>by
  obtain⟨n1,n2⟩:=List.nodup_cons.1 hn;show cond (c==b) v 0+DI (fun b=>cond (c==b) v 0) B=v
  by_cases e:c=b
  ·subst e;rw[qG n1,beq_self_eq_true];show v+0=v;omega
  have hc:c∈B:=(List.mem_cons.1 h).resolve_left e;rw[ip n2 hc,beq_eq_false_iff_ne.2 e];show 0+v=v;omega
theorem tZ{B:List Int}(hn:B.Nodup)(g f:List PV→Int):∀(D:Rows),(∀x,x∈D→g x∈B)→DI (fun b=>Av (fun x=>cond (g x==b) (f x) 0) D) B=Av f D
 | [],_=>eg B
 |x::D,h=>by
  have ih:=tZ hn g f D (fun y hy=>h y (zzn _ hy));have h1:=h x zzm;show DI (fun b=>cond (g x==b) (f x) 0+Av (fun x=>cond (g x==b) (f x) 0) D) B=f x+Av f D;rw[jc,ih];refine congrArg (·+_) ?_;exact ip hn h1
theorem wy{P:Int→Bool}{o:List Int}(hn:o.Nodup):∀n:Nat,(∀i:Nat,i<n→((i:Int)+1)∈o)→DI (fun p=>cond ((iLe 1 p&&iLe p (n:Int))&&P p) 1 0) o=Cz (fun i=>P ((i:Int)+1)) n
 |0,_=>by
  rw[PQ (h:=fun _=>0) (fun b _=>by
   have:(iLe 1 b&&iLe b ((0:Nat):Int))=false:=by
    rw[Bool.eq_false_iff];intro h;simp only[iLe,zzk,decide_eq_true_eq]at h;omega
   rw[this];rfl),eg]
  rfl
 |n+1,h=>by
  have ih:=wy (P:=P) hn n (fun i hi=>h i (by omega));have one:=ip (v:=cond (P ((n:Int)+1)) 1 0) hn (h n (by omega));have key:=jc (fun p=>cond ((iLe 1 p&&iLe p (n:Int))&&P p) 1 0) (fun b=>cond (((n:Int)+1)==b) (cond (P ((n:Int)+1)) 1 0) 0) o;rw[ih,one]at key;rw[PQ (h:=fun b=>cond ((iLe 1 b&&iLe b (n:Int))&&P b) 1 0+cond (((n:Int)+1)==b) (cond (P ((n:Int)+1)) 1 0) 0) (fun b _=>?_),key]
  ·show _=cond (P ((n:Int)+1)) (Cz _ n+1) (Cz _ n);cases P ((n:Int)+1)<;>simp
  by_cases e:(n:Int)+1=b
  ·subst e;have h1:iLe 1 ((n:Int)+1)=true:=by simp only[iLe,decide_eq_true_eq];omega
   have h2:iLe ((n:Int)+1) (n:Int)=false:=by simp only[iLe,decide_eq_false_iff_not];omega
   have h3:iLe ((n:Int)+1) ((n+1:Nat):Int)=true:=by simp only[iLe,decide_eq_true_eq];omega
   rw[h1,h2,h3,beq_self_eq_true];cases P ((n:Int)+1)<;>rfl
  have h1:iLe b ((n+1:Nat):Int)=iLe b (n:Int):=by
   unfold iLe;rw[Bool.eq_iff_iff,decide_eq_true_eq,decide_eq_true_eq];omega
  rw[h1,beq_false_of_ne e];cases((iLe 1 b&&iLe b (n:Int))&&P b)<;>rfl
theorem ABA(x:List PV)(p:Int)(l:Ln):(Hx x p l).out=(l.out||CV x==p):=by
 unfold Hx;cases CV x==p
 ·rw[cond_false,Bool.or_false];cases pvI (AA x 5)==p<;>rfl
 rw[cond_true,Bool.or_true];rfl
theorem AEE(e:Ev)(p:Int)(l:Ln):(evX e p l).out=(l.out||NS e p):=by
 unfold evX NS;cases k2:e.kind==2
 ·cases k5:e.kind==5
  ·cases e.kind==6<;>cases e.player==p<;>cases e.yes<;>first|exact(Bool.or_false _).symm|exact(Bool.or_true _).symm
  have e5:=beq_iff_eq.1 k5;rw[e5];cases e.player==p<;>cases e.yes<;>first|exact(Bool.or_false _).symm|exact(Bool.or_true _).symm
 have e2:=beq_iff_eq.1 k2;rw[e2];cases(e.player==p||e.other==p)
 ·exact(Bool.or_false _).symm
 exact(Bool.or_false _).symm
theorem pV(X:Rows)(p:Int):∀n,n≤X.length→(HA X p n).out=cu (X.take n) p
 |0,_=>rfl
 |n+1,h=>by
  show(Hx (AB X n) p (HA X p n)).out=_;have ih:=pV X p n (by omega);have e:cu (X.take (n+1)) p=(cu (X.take n) p||CV (AB X n)==p):=by
   rw[OB (by omega)];unfold cu;rw[List.any_append];show(_||(CV (AB X n)==p||false))=_;rw[Bool.or_false]
  rw[e,←ih,ABA]
def yr(E:Rows)(q:Int):Nat→Bool
 |0=>false
 |n+1=>yr E q n||NS (evR E n) q
theorem pL(E:Rows)(p:Int)(l:Ln):∀n,(XS E p l n).out=(l.out||yr E p n)
 |0=>(Bool.or_false _).symm
 |n+1=>by
  show(evX (evR E n) p (XS E p l n)).out=(l.out||(yr E p n||NS (evR E n) p));rw[←Bool.or_assoc,←pL E p l n];exact AEE _ _ _
theorem tJ{L:Rows}{k:Nat}{q:Int}(sg:Seg L k):∀i,AG L k+i≤AG L (k+1)→cq L k q (AG L k+i)=yr (Cl L k) q i
 |0,_=>jT _ (by rw[Nat.add_zero,sg.o0];exact Nat.le_refl _)
 |i+1,h=>by
  show(cq L k q (AG L k+i)||(Nat.beq (opn L (AG L k+i+1)) (k+1)&&NS (evR L (AG L k+i)) q))=_;rw[tJ sg i (by omega),sg.mid (AG L k+i) (by omega) (by omega),KE,Bool.true_and];have:evR (Cl L k) i=evR L (AG L k+i):=mh L i (by omega);show _=(_||NS (evR (Cl L k) i) q);rw[this]
theorem qB{r:Rul}{L:Rows}{k p:Nat}(h:opn L p=k+1)(hn:p=L.length∨((evR L p).kind==2)=true):∀c,p+c≤L.length→Ax r L k (p+c)=Ax r L k p
 |0,_=>rfl
 |c+1,hc=>by
  rw[show p+(c+1)=p+c+1 by omega];show cond ((evR L (p+c)).kind==4&&Nat.beq (opn L (p+c+1)) (k+1)) _ (Ax r L k (p+c))=_
  rcases hn with hn|hn
  ·omega
  have:=Ei L (show p+1≤p+c+1 by omega);rw[Nn hn]at this;rw[J2 (by omega),Bool.and_false,cond_false];exact qB h (.inr hn) c (by omega)
def plL(r:Rul)(L:Rows)(k:Nat)(p:Int):Ln:=XS (Cl L k) p (HA (Ax r L k L.length) p (Ax r L k L.length).length) (Cl L k).length
def V0(r:Rul)(L:Rows)(k:Nat):List Int:=QB (Bz (Cl L k) (Cl L k).length) r.side.toNat
theorem AC5{r:Rul}{L:Rows}{k:Nat}(hc:Ah r L=0)(hk:k<opn L L.length):Rv r L (k:Int)=(AU (V0 r L k) (plL r L k),0):=by
 unfold Rv;rw[ja hc hk];show(AU (V0 r L k) _,0)=_;refine congrArg (fun X=>(AU (V0 r L k) X,(0:Int))) (funext fun p=>?_);have e:=ADo (k:Int) (BG r L) (Cl L k) p;rw[UT hc]at e;exact e.symm
def ABT(x:List PV):Prop:=((aP x&&pvI (AA x 12)==4)=true→4≤Nm x)∧((aP x&&pvI (AA x 12)==6)=true→6≤Nm x)
theorem AFC{r:Rul}{d:Del}(hl:(D6 d==0)=true){b:Int}(h1:d.source=1)(h2:d.runs=0)(hb:d.boundary=b)(h0:0≤b∧b≤6):b≤(AF r d).batter:=by
 unfold AF;rw[hl];show b≤(Kb r d).batter;unfold D6 at hl;cases k1:(iLt d.type 1||iLt 3 d.type||iLt 3 d.source||iLt 10 d.how || !btw d.sector 0 8)
 ·cases k2:(!btw d.runs 0 7 || !btw d.short 0 d.runs||(!(d.boundary==0) && !(d.boundary==4) && !(d.boundary==6)))
  ·cases k3:R7 d
   ·rw[k1,k2,k3]at hl;cases hl
   rw[Bool.or_eq_false_iff,Bool.or_eq_false_iff]at k2;have s0:=k2.1.2;rw[h2]at s0;simp only[btw,iLe,Bool.not_eq_false',zzk,decide_eq_true_eq]at s0;have sh:d.short=0:=by omega
   have t2:(d.type==2)=false:=by
    cases ht:d.type==2
    ·rfl
    unfold R7 at k3;rw[ht,h1]at k3;cases k3
   unfold Kb;simp only[t2,h1,h2,sh,hb];rw[show IntKind.i64.wrap (0-0)=0 from rfl,Int.zero_add,A0 (by omega) (by omega)];exact Int.le_refl _
  rw[k1,k2]at hl;cases hl
 rw[k1]at hl;cases hl
theorem AFg{r:Rul}{L:Rows}(hc:Ah r L=0){a:Nat}(ha:a<L.length)(hk:((evR L a).kind==4)=true)(t:Mat):ABT (Ca (a:Int) (stM L a 0 (AO r).1) t (evR L a).ball):=by
 have bf:=NC hc ha hk;obtain⟨q1,q2,q3,q4,q5,q6⟩:=LW bf.ref;have go:∀b:Int,0≤b∧b≤6→(((evR L a).ball.source==1&&(evR L a).ball.runs==0)&&(evR L a).ball.boundary==b)=true→b≤(AF (stM L a 0 (AO r).1).rules (evR L a).ball).batter:=fun b hb h=>by
  simp only[zzk,beq_iff_eq]at h;exact AFC q4 h.1.1 h.1.2 h.2 hb
 exact⟨go 4 (by omega),go 6 (by omega)⟩
theorem ACd{r:Rul}{L:Rows}(hc:Ah r L=0)(k:Nat):∀n,n≤L.length→∀x,x∈Ax r L k n→ABT x
 |0,_,x,hx=>absurd hx List.not_mem_nil
 |n+1,hn,x,hx=>by
  have ih:=ACd hc k n (by omega);change x∈cond ((evR L n).kind==4&&Nat.beq (opn L (n+1)) (k+1)) _ (Ax r L k n)at hx;cases hk:(evR L n).kind==4
  ·rw[hk]at hx;exact ih x hx
  cases hb:Nat.beq (opn L (n+1)) (k+1)
  ·rw[hk,hb]at hx;exact ih x hx
  rw[hk,hb]at hx
  rcases List.mem_append.1 hx with hx|hx
  ·exact ih x hx
  rw[List.mem_singleton.1 hx];exact AFg hc (by omega) hk _
def oX(p:Int)(x:List PV):Int:=cond (pvI (AA x 5)==p) (Nm x) 0
structure LnF(p:Int)(X:Rows)(i:Nat)(l:Ln):Prop where
 runs:l.runs=Av (oX p) (X.take i)
 rb:0≤l.runs∧l.runs≤62*(i:Int)
 fb:0≤l.fours∧l.fours≤(i:Int)
 sb:0≤l.sixes∧l.sixes≤(i:Int)
 bnd:4*l.fours+6*l.sixes≤l.runs
 how:l.out = !(l.how==0)
theorem AED{x:List PV}{p:Int}(hp:1≤p)(h:(CV x==p)=true):(pvI (AA x 14)==0)=false:=by
 cases h0:pvI (AA x 14)==0
 ·rfl
 unfold CV at h;rw[h0]at h;have:(0:Int)=p:=beq_iff_eq.1 h;omega
theorem zU{n:Int}{X:Rows}(hX:X.length≤4000)(rg:∀x,x∈X→RowG n x)(rk:∀x,x∈X→ABT x){p:Int}(hp:1≤p):∀i,i≤X.length→LnF p X i (HA X p i)
 |0,_=>⟨rfl,⟨Int.le_refl _,by show(0:Int)≤_;omega⟩,⟨Int.le_refl _,by show(0:Int)≤_;omega⟩,⟨Int.le_refl _,by show(0:Int)≤_;omega⟩,Int.le_refl _,rfl⟩
 |i+1,h=>by
  have ih:=zU hX rg rk hp i (by omega);have hm:=Ub (D:=X) (i:=i) (by omega);have g:=(rg _ hm).bat;obtain⟨k4,k6⟩:=rk _ hm;have st:=OJ (oX p) (D:=X) (i:=i) (by omega);show LnF p X (i+1) (Hx (AB X i) p (HA X p i));generalize HA X p i=l at *
  generalize AB X i=x at *
  obtain⟨i1,i2,i3,i4,i5,i6⟩:=ih;have hit:LnF p X (i+1) (cond (pvI (AA x 5)==p) (Q7 x l) l):=by
   cases hs:pvI (AA x 5)==p
   ·have sv:oX p x=0:=by unfold oX;rw[hs];rfl
    exact⟨by rw[st,sv,Int.add_zero];exact i1,⟨i2.1,by show l.runs≤_;omega⟩,⟨i3.1,by show l.fours≤_;omega⟩,⟨i4.1,by show l.sixes≤_;omega⟩,i5,i6⟩
   have sv:oX p x=pvI (AA x 20):=by unfold oX;rw[hs];rfl
   have bx:Nm x=pvI (AA x 20):=rfl;have w1:IntKind.i64.wrap (l.runs+pvI (AA x 20))=l.runs+pvI (AA x 20):=A0 (by omega) (by omega);have w2:IntKind.i64.wrap (l.fours+1)=l.fours+1:=A0 (by omega) (by omega);have w3:IntKind.i64.wrap (l.sixes+1)=l.sixes+1:=A0 (by omega) (by omega);have excl:(aP x&&pvI (AA x 12)==4)=true→(aP x&&pvI (AA x 12)==6)=false:=fun h=>by
    rw[zzk,beq_iff_eq]at h;rw[h.2];exact Bool.and_false _
   rw[cond_true];unfold Q7;rw[w1,w2,w3];cases h4:(aP x&&pvI (AA x 12)==4)
   ·cases h6:(aP x&&pvI (AA x 12)==6)
    ·exact⟨by rw[st,sv,←i1],⟨by show 0≤l.runs+pvI (AA x 20);omega,by show l.runs+pvI (AA x 20)≤_;omega⟩,⟨i3.1,by show l.fours≤_;omega⟩,⟨i4.1,by show l.sixes≤_;omega⟩,by show 4*l.fours+6*l.sixes≤l.runs+pvI (AA x 20);omega,i6⟩
    have b6:=k6 h6;exact⟨by rw[st,sv,←i1],⟨by show 0≤l.runs+pvI (AA x 20);omega,by show l.runs+pvI (AA x 20)≤_;omega⟩,⟨i3.1,by show l.fours≤_;omega⟩,⟨by show 0≤l.sixes+1;omega,by show l.sixes+1≤_;omega⟩,by show 4*l.fours+6*(l.sixes+1)≤l.runs+pvI (AA x 20);omega,i6⟩
   have b4:=k4 h4;rw[excl h4];exact⟨by rw[st,sv,←i1],⟨by show 0≤l.runs+pvI (AA x 20);omega,by show l.runs+pvI (AA x 20)≤_;omega⟩,⟨by show 0≤l.fours+1;omega,by show l.fours+1≤_;omega⟩,⟨i4.1,by show l.sixes≤_;omega⟩,by show 4*(l.fours+1)+6*l.sixes≤l.runs+pvI (AA x 20);omega,i6⟩
  unfold Hx;cases hv:CV x==p
  ·exact hit
  have:=AED hp hv;exact⟨hit.runs,hit.rb,hit.fb,hit.sb,hit.bnd,by show true = !(pvI (AA x 14)==0);rw[this];rfl⟩
theorem AFh{e:Ev}{p:Int}{X:Rows}{i:Nat}{l:Ln}(h:LnF p X i l):LnF p X i (evX e p l):=by
 unfold evX;exact P_c (P:=LnF p X i) _ _ _ ⟨h.runs,h.rb,h.fb,h.sb,h.bnd,h.how⟩ (P_c (P:=LnF p X i) _ _ _ ⟨h.runs,h.rb,h.fb,h.sb,h.bnd,h.how⟩ (P_c (P:=LnF p X i) _ _ _ ⟨h.runs,h.rb,h.fb,h.sb,h.bnd,rfl⟩ (P_c (P:=LnF p X i) _ _ _ ⟨h.runs,h.rb,h.fb,h.sb,h.bnd,rfl⟩ h)))
theorem xU{E:Rows}{p:Int}{X:Rows}{i:Nat}{l:Ln}(h:LnF p X i l):∀n,LnF p X i (XS E p l n)
 |0=>h
 |n+1=>AFh (xU h n)
theorem AE7{r:Rul}{L:Rows}{k:Nat}(hc:Ah r L=0)(rk:RulOk r){p:Int}(hp:1≤p):LnF p (Ax r L k L.length) (Ax r L k L.length).length (plL r L k p):=by
 have l4:=(Bv hc).2.2.1;obtain⟨b1,b2⟩:=ku hc k L.length (Nat.le_refl _);exact xU (zU (by omega) (fun x hx=>ACl rk (b2 x hx)) (ACd hc k L.length (Nat.le_refl _)) hp _ (Nat.le_refl _)) _
theorem ADm{r:Rul}{L:Rows}{k:Nat}(hc:Ah r L=0)(hk:k<opn L L.length):((V0 r L k).length:Int)=r.side:=by
 have rs:=(Ek (Bv hc).2.1).side;have on:(V0 r L k).Nodup:=PH (MR (Cl L k) (Cl L k).length) r.side.toNat;have om:=fun p=>fP (p:=p) hc hk (show 0≤r.side by omega)
 have sc:=wy (P:=fun _=>true) on r.side.toNat (fun i hi=>(om _).2 (by omega));have all:∀B:List Int,DI (fun _=>1) B=(B.length:Int):=fun B=>by
  induction B with
  |nil=>rfl
  |cons b B ih=>show 1+DI (fun _=>1) B=((B.length+1:Nat):Int);omega
 have one:∀n,Cz (fun _=>true) n=(n:Int):=fun n=>by
  induction n with
  |zero=>rfl
  |succ n ih=>show Cz (fun _=>true) n+1=_;omega
 rw[one,PQ (h:=fun _=>1) (fun p hp=>by
  have:=(om p).1 hp;have h1:iLe 1 p=true:=by simp only[iLe,decide_eq_true_eq];omega
  have h2:iLe p (r.side.toNat:Int)=true:=by simp only[iLe,decide_eq_true_eq];omega
  rw[h1,h2];rfl),all]at sc
 omega
theorem AA8{r:Rul}{L:Rows}{k:Nat}(hc:Ah r L=0)(rk:RulOk r)(hk:k<opn L L.length):DI (fun p=>(plL r L k p).runs) (V0 r L k)=smi L (fun e=>(BM r e).batter) k L.length:=by
 have rs:=rk.side;have on:(V0 r L k).Nodup:=PH (MR (Cl L k) (Cl L k).length) r.side.toNat;have om:=fun p=>fP (p:=p) hc hk (show 0≤r.side by omega)
 obtain⟨b1,b2⟩:=ku hc k L.length (Nat.le_refl _);rw[←(nP hc k L.length (Nat.le_refl _)).1,←tZ on (fun x=>pvI (AA x 5)) Nm (Ax r L k L.length) (fun x hx=>(om _).2 (b2 x hx).striker)];refine PQ fun p hp=>?_
 have:=(AE7 (k:=k) hc rk ((om p).1 hp).1).runs;rw[List.take_length]at this;exact this
theorem pQ(g:Int→Int){o:List Int}{j:Nat}(h:j<o.length):DI g (o.take (j+1))=DI g (o.take j)+g (o.getD j 0):=by
 have app:∀A B:List Int,DI g (A++B)=DI g A+DI g B:=fun A B=>by
  induction A with
  |nil=>show DI g B=0+_;omega
  |cons a A ih=>show g a+DI g (A++B)=g a+DI g A+_;omega
 rw[List.take_add_one,app,zzl,zzo h];show _+(g o[j]+0)=_;show _=_+g o[j];omega
theorem z7{g:Int→Int}{c:Int}{o:List Int}(h:∀p,p∈o→0≤g p∧g p≤c):∀j,j≤o.length→0≤DI g (o.take j)∧DI g (o.take j)≤c*(j:Int)
 |0,_=>by show(0:Int)≤0∧(0:Int)≤c*((0:Nat):Int);omega
 |j+1,hj=>by
  have ih:=z7 h j (by omega);rw[pQ g (by omega)];have:=h (o.getD j 0) (by rw[zzl,zzo (show j<o.length by omega)];exact List.getElem_mem _);have e:c*((j+1:Nat):Int)=c*(j:Int)+c:=by rw[show((j+1:Nat):Int)=(j:Int)+1 by omega,Int.mul_add,Int.mul_one]
  rw[e];omega
theorem rm{o:List Int}{F:Int→Ln}(hb:∀p,p∈o→0≤(F p).runs∧(F p).runs≤1000000)(hl:o.length≤1000):∀j,j≤o.length→jP (AU o F) j=DI (fun p=>(F p).runs) (o.take j)
 |0,_=>rfl
 |j+1,h=>by
  have b:=z7 (g:=fun p=>(F p).runs) hb j (by omega);have m:o.getD j 0∈o:=by rw[zzl,zzo (show j<o.length by omega)];exact List.getElem_mem _
  have b1:=hb _ m;show IntKind.i64.wrap (jP (AU o F) j+pvI (AD (AU o F) j 1))=_;have e:pvI (AD (AU o F) j 1)=(F (o.getD j 0)).runs:=by unfold AD;rw[Zo (by omega)];rfl
  rw[rm hb hl j (by omega),e,pQ _ (by omega),A0 (by omega) (by omega)]
end Go.Px
end
