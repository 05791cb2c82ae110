/- Part 16. -/
import Derived.Test.YtefmhiojnbekpaaGreatDoorPart15
import Derived.Shelf.Strconv.Itoa3
import Derived.Test.YtefmhiojnbekpaaGreatDoorProg
set_option linter.unusedVariables false
set_option linter.unusedSimpArgs false
variable {r1 r2 r3 r4 r5 r6 r7 r9 r10 r11 r12:Int}
section
namespace Go.Px
set_option maxRecDepth 100000
def kh (x:List PV):Prop:=x.length=32∧Ey x=x
theorem qp {L:Rows}:∀ k i m out,(∀ x∈out,kh x)→∀ x∈LG L k i m out,kh x
 | 0,i,m,out,h=>h
 | k+1,i,m,out,h=>by
  show ∀ x∈LG L k (i+1) (As i m (evR L i)).1 (cond ((evR L i).kind==4) (out++[H3 i m (As i m (evR L i)).1 (evR L i).ball]) out),kh x;refine qp k (i+1) _ _ ?_;cases (evR L i).kind==4 with
  | false=>exact h
  | true =>
   intro x hx
   rcases List.mem_append.1 hx with hx | hx
   ·exact h x hx
   ·rw [List.mem_singleton.1 hx];exact ⟨rfl,rfl⟩
theorem wY {r:Rul} {L:Rows} (hc:Cl r L=0):∀ x∈Bp r L,kh x:=by
 obtain ⟨h1,h2,h3,h4,h5⟩:=KX hc;have:Bp r L=LG L L.length 0 (Aa r).1 []:=by
  unfold Bp;rw [h1];obtain ⟨j,j1,j2,j3,j4⟩:=VN L L.length 0 (Aa r).1;show LT L L.length 0 (Aa r).1 []=_;rw [j3 []]
  rcases j4 with ⟨j5,_⟩ | ⟨j5,j6,j7⟩
  ·rw [j5]
  ·have hh:=VB L.length 0 _ h4 j j5;rw [hh] at j6;cases j6
 rw [this];exact qp _ _ _ _ (fun x hx=>absurd hx List.not_mem_nil)
theorem px {k:Int}:∀ {A:Rows},(∀ x∈A,kh x)→(∀ x∈A,(pvI (AA x 1)==k)=true)→fil k A=A
 | [],_,_=>rfl
 | x::A,h,h1=>by
  show cond (pvI (AA x 1)==k) (Ey x::fil k A) (fil k A)=_;rw [h1 x List.mem_cons_self,px (fun y hy=>h y (List.mem_cons_of_mem _ hy)) (fun y hy=>h1 y (List.mem_cons_of_mem _ hy)),(h x List.mem_cons_self).2];rfl
theorem gC {D:Rows} {i:Nat} (h:i<D.length):AB D i∈D:=by
 unfold AB;rw [List.getD_eq_getElem?_getD,List.getElem?_eq_getElem h];exact List.getElem_mem h
theorem wW {D:Rows} {x:List PV} {n:Nat} (h:x∈D.take n):∃ j,j<n∧j<D.length∧x=AB D j:=by
 obtain ⟨j,hj,e⟩:=List.getElem_of_mem h;rw [List.length_take] at hj;refine ⟨j,by omega,by omega,?_⟩;rw [← e,List.getElem_take];unfold AB;rw [List.getD_eq_getElem?_getD,List.getElem?_eq_getElem (by omega)];rfl
theorem mv:∀ (ps r:List PV) (off:Nat),r.length=off+ps.length→BC r off ps=r.take off++ps
 | [],r,off,h=>by
  show r=_;rw [List.append_nil,List.take_of_length_le (by simpa using Nat.le_of_eq h)]
 | p::ps,r,off,h=>by
  show BC (r.set off p) (off+1) ps=_;have hl:off<r.length:=by rw [h];simp
  rw [mv ps (r.set off p) (off+1) (by rw [List.length_set,h];simp;omega),List.take_add_one,List.getElem?_set_self hl,List.take_set_of_le (Nat.le_refl _)];simp
theorem xJ {ps r:List PV} (h:r.length=ps.length):BC r 0 ps=ps:=by rw [mv ps r 0 (by omega)];rfl
def dlN (D:Rows) (k:Int) (p:Nat):Nat→Rows×Nat
 | 0=>(D,p)
 | t+1=>cond (pvI (AA (AB (dlN D k p t).1 (p+1+t)) 1)==k) ((dlN D k p t).1.set (dlN D k p t).2 (Ey (AB (dlN D k p t).1 (p+1+t))),(dlN D k p t).2+1) (dlN D k p t)
structure DlF (D:Rows) (k:Int) (p t:Nat):Prop where
 len:(dlN D k p t).1.length=D.length
 le:(dlN D k p t).2≤p+t
 cut:(dlN D k p t).1.take (dlN D k p t).2=fil k (D.take (p+1+t))
 rest:∀ j,p+1+t≤j→AB (dlN D k p t).1 j=AB D j
 row:∀ x∈(dlN D k p t).1,kh x
theorem ADN {D:Rows} {k:Int} {p:Nat} (hD:∀ x∈D,kh x) (hp:p<D.length) (h0:∀ j,j<p→(pvI (AA (AB D j) 1)==k)=true) (h1:(pvI (AA (AB D p) 1)==k)=false):∀ t,p+1+t≤D.length→DlF D k p t
 | 0,_=>by
  refine ⟨rfl,Nat.le_refl _,?_,fun j _=>rfl,hD⟩;show D.take p=fil k (D.take (p+1));rw [kv hp,show pvI (AK D p 1)=pvI (AA (AB D p) 1) from rfl,h1,cond_false,px (fun x hx=>hD x (List.mem_of_mem_take hx)) (fun x hx=>by
   obtain ⟨j,h2,h3,rfl⟩:=wW hx;exact h0 j h2)]
 | t+1,ht=>by
  obtain ⟨f1,f2,f3,f4,f5⟩:=ADN hD hp h0 h1 t (by omega);have hj:p+1+t<D.length:=by omega
  have hr:=f4 (p+1+t) (Nat.le_refl _);have ft:=kv (k:=k) hj;rw [show pvI (AK D (p+1+t) 1)=pvI (AA (AB D (p+1+t)) 1) from rfl] at ft;have e:dlN D k p (t+1)=cond (pvI (AA (AB D (p+1+t)) 1)==k) ((dlN D k p t).1.set (dlN D k p t).2 (Ey (AB D (p+1+t))),(dlN D k p t).2+1) (dlN D k p t):=by rw [← hr];rfl
  cases hk:pvI (AA (AB D (p+1+t)) 1)==k with
  | false =>
   rw [hk,cond_false] at e ft;exact ⟨by rw [e];exact f1,by rw [e];omega,by rw [e,f3,show p+1+(t+1)=p+1+t+1 by omega,ft],fun j hj2=>by rw [e];exact f4 j (by omega),by rw [e];exact f5⟩
  | true =>
   rw [hk,cond_true] at e ft;have hl:(dlN D k p t).2<(dlN D k p t).1.length:=by omega
   refine ⟨by rw [e];show (List.set _ _ _).length=_;rw [List.length_set];exact f1,by rw [e];show (dlN D k p t).2+1≤_;omega,?_,fun j hj2=>?_,?_⟩
   ·rw [e,show p+1+(t+1)=p+1+t+1 by omega,ft,← f3];show ((dlN D k p t).1.set (dlN D k p t).2 _).take ((dlN D k p t).2+1)=_;rw [List.take_add_one,List.getElem?_set_self hl,List.take_set_of_le (Nat.le_refl _)];rfl
   ·rw [e,← f4 j (by omega)];show AB ((dlN D k p t).1.set (dlN D k p t).2 _) j=_;unfold AB;simp only [List.getD_eq_getElem?_getD,List.getElem?_set_ne (show (dlN D k p t).2≠j by omega)]
   ·rw [e];intro x hx
    rcases List.mem_or_eq_of_mem_set hx with h | h
    ·exact f5 x h
    ·have:=hD _ (gC hj);rw [h,this.2];exact this
def L1 (r:Rul) (L:Rows) (k:Int):Rows×Int:=cond ((Cg r L k).2==0) (Ak (RD (mdA r.balls (Cg r L k).1) (Cg r L k).1 (Cg r L k).1.length),0) ([],(Cg r L k).2)
def AB2 (x:List PV):List Ae:=[.int (pvI (AA x 0)),.int (pvI (AA x 1)),.int (pvI (AA x 2)),.int (pvI (AA x 3)),.int (pvI (AA x 4)),.int (pvI (AA x 5)),.int (pvI (AA x 6)),.bool (pvB (AA x 7)),.int (pvI (AA x 8)),.int (pvI (AA x 9)),.int (pvI (AA x 10)),.int (pvI (AA x 11)),.int (pvI (AA x 12)),.bool (pvB (AA x 13)),.int (pvI (AA x 14)),.int (pvI (AA x 15)),.int (pvI (AA x 16)),.int (pvI (AA x 17)),.bool (pvB (AA x 18)),.int (pvI (AA x 19)),.int (pvI (AA x 20)),.int (pvI (AA x 21)),.int (pvI (AA x 22)),.int (pvI (AA x 23)),.int (pvI (AA x 24)),.int (pvI (AA x 25)),.bool (pvB (AA x 26)),.bool (pvB (AA x 27)),.bool (pvB (AA x 28)),.bool (pvB (AA x 29)),.int (pvI (AA x 30)),.int (pvI (AA x 31))]
theorem ACi {ys:List BL} {p:Nat} (h:p<ys.length) (s:BL):bln (ys.set p s) p=s:=by rw [gR (by rw [List.length_set];exact h),List.getElem_set_self]
theorem ACT (b:Int) (xs:List BL):Es b xs<(Z8 b xs).length∧(Z8 b xs).length≤xs.length+1:=by
 have ple:=N8 (fun j=>(bln xs j).p==b) xs.length 0;rw [Nat.zero_add] at ple;change Es b xs≤xs.length at ple;unfold Z8
 by_cases h:Es b xs<xs.length
 ·rw [nU h,cond_true];exact ⟨h,Nat.le_succ _⟩
 ·rw [mL h,cond_false,List.length_append];exact ⟨by simp only [List.length_cons,List.length_nil];omega,Nat.le_refl _⟩
theorem PXw:(∀ (xs:List BL) (i:Nat),pvI (AA (AB (Ak xs) i) 0)=(bln xs i).p)∧(∀ (xs:List BL) (i:Nat),pvI (AA (AB (Ak xs) i) 1)=(bln xs i).b)∧(∀ (xs:List BL) (i:Nat),pvI (AA (AB (Ak xs) i) 2)=(bln xs i).m)∧(∀ (xs:List BL) (i:Nat),pvI (AA (AB (Ak xs) i) 3)=(bln xs i).r)∧(∀ (xs:List BL) (i:Nat),pvI (AA (AB (Ak xs) i) 4)=(bln xs i).w)∧(∀ (xs:List BL) (i:Nat),pvI (AA (AB (Ak xs) i) 5)=(bln xs i).wd)∧(∀ (xs:List BL) (i:Nat),pvI (AA (AB (Ak xs) i) 6)=(bln xs i).nb):=PXv.2
theorem AC7 {N : Nat} (hN : 2097152 < N) {xs : List BL} (hx : xs.length ≤ 1000000) {b : Int} {J : List Ae} {F : (List Ae → Option (List PV)) → List PV → Option (List PV)}
    (h0:∀ self,F self (.int (xs.length:Int)::J.map Leaf.pv)=some (.int 1::J.map Leaf.pv)) (h1:∀ i self,i<xs.length→F self (.int (i:Int)::J.map Leaf.pv)=cond ((bln xs i).p==b) (some (.int 0::.int (i:Int)::J.map Leaf.pv)) (self (.int ((i+1:Nat):Int)::J))) :
    Ds F N (.int 0::J.map Leaf.pv)=some (cond (Nat.blt (Es b xs) xs.length) (.int 0::.int (Es b xs:Int)::J.map Leaf.pv) (.int 1::J.map Leaf.pv)):=by
  have ple:=N8 (fun j=>(bln xs j).p==b) xs.length 0;have pno:=UQ (fun j=>(bln xs j).p==b) xs.length 0;have pyes:=Qk (fun j=>(bln xs j).p==b) xs.length 0;rw [Nat.zero_add] at ple pyes;have:=fq (F:=F) (len:=xs.length) (p:=Es b xs) (fun i=>.int (i:Int)::J) (.int 0::.int (Es b xs:Int)::J.map Leaf.pv) (.int 1::J.map Leaf.pv) ple (fun _ self=>h0 self) (fun i self hi=>by
    have:=h1 i self (Nat.lt_of_lt_of_le hi ple);rw [show ((bln xs i).p==b)=false from pno i (Nat.zero_le _) hi] at this;exact this) (fun hl self=>by
    have:=h1 (Es b xs) self hl;rw [show ((bln xs (Es b xs)).p==b)=true from pyes hl] at this;exact this) N (by omega)
  exact this
set_option maxHeartbeats 8000000 in
theorem TN {N:Nat} {r8:Bool} {r0:ByteArray} {r13:Rows} {L:Rows} {k:Int} (hN:2097152<N) (hs:r0.size≤1048576) (h13:r13.length≤1048576) (hL:L.length≤1000000):Bu N [.str r0,.int r1,.int r2,.int r3,.int r4,.int r5,.int r6,.int r7,.bool r8,.int r9,.int r10,.int r11,.int r12,.rows r13,.rows L,.int k]=some [.rows (L1 (⟨r0,r1,r2,r3,r4,r5,r6,r7,r8,r9,r10,r11,r12,r13⟩:Rul) L k).1,.int (L1 (⟨r0,r1,r2,r3,r4,r5,r6,r7,r8,r9,r10,r11,r12,r13⟩:Rul) L k).2]:=by
 show Ei (std (Bc N) N) (xOf _)=_;generalize hres:(some [.rows (L1 (⟨r0,r1,r2,r3,r4,r5,r6,r7,r8,r9,r10,r11,r12,r13⟩:Rul) L k).1,.int (L1 (⟨r0,r1,r2,r3,r4,r5,r6,r7,r8,r9,r10,r11,r12,r13⟩:Rul) L k).2]:Option (List PV))=RR;have hl:L.length≤1048576:=by omega
 simp only [Ei,Sg,O4,Sr,Nb,Alg.q,std,xOf,PXb,xD hN hs h13 hl,pw hN hl,lZ hN hs h13 hl,ZD,PXc];subst hres;simp only [L1,Cg];cases hc:Cl (⟨r0,r1,r2,r3,r4,r5,r6,r7,r8,r9,r10,r11,r12,r13⟩:Rul) L==0 with
 | false=>simp only [PXb,Bool.not_false,hc]
 | true =>
  have c0:=beq_iff_eq.1 hc;have pl:=mg (⟨r0,r1,r2,r3,r4,r5,r6,r7,r8,r9,r10,r11,r12,r13⟩:Rul) L;have l4:=(KX c0).2.2.1;have rd:=wY c0;cases h0:iLt k 0 with
  | true=>rfl
  | false =>
   simp only [PXb,Bool.not_true,Bool.not_false,PXp,Y9];cases h1:iLe (opn L L.length:Int) k with
   | true=>rfl
   | false =>
    simp only [PXb];generalize Bp (⟨r0,r1,r2,r3,r4,r5,r6,r7,r8,r9,r10,r11,r12,r13⟩:Rul) L=D at *
    have ple:=N8 (fun j => !(pvI (AA (AB D j) 1)==k)) D.length 0;have pno:=UQ (fun j => !(pvI (AA (AB D j) 1)==k)) D.length 0;have pyes:=Qk (fun j => !(pvI (AA (AB D j) 1)==k)) D.length 0;rw [Nat.zero_add] at ple pyes;generalize Ji (fun j => !(pvI (AA (AB D j) 1)==k)) D.length 0=p at *
    refine HX (v:=[.rows (fil k D),.int k]) ?_ ?_
    ·refine HX (v:=[.int (cond (Nat.blt p D.length) (p:Int) (-1)),.int k]) ?_ ?_
     ·refine AM (fq (len:=D.length) (p:=p) (fun i=>[.int (i:Int),.int k]) [.int 0,.int (p:Int),.int k] [.int 1,.int k] ple ?_ ?_ ?_ N (by omega)) ?_
      ·intro _ self;simp only [PXb,PXc,PXn,AD,Ao]
      ·intro i self hi;have hb:=pno i (Nat.zero_le _) hi;have hl2:i<D.length:=by omega
       simp only [PXb,PXc,PXn,AD,Bq (show i≤1099511627776 by omega),Ad hl2,AN hl2,AK,hb]
      ·intro hl2 self;have hb:=pyes hl2;simp only [PXb,PXc,PXn,AD,Ad hl2,AN hl2,AK,hb]
      ·cases Nat.blt p D.length<;>rfl
     ·by_cases hp:p<D.length
      ·have f:=ADN rd hp (fun j hj=>by
        have:=pno j (Nat.zero_le _) hj
        rwa [Bool.not_eq_false'] at this) (by
        have:=pyes hp
        rwa [Bool.not_eq_true'] at this)
       have pm:((p:Int) == -1)=false:=beq_eq_false_iff_ne.2 (by omega);have e9:p+1+(D.length - (p+1))=D.length:=by omega
       simp only [PXb,nU hp,pm,Bq (show p≤1099511627776 by omega)];refine AM (Bz (len:=D.length - (p+1)) (fun t=>[.rows (dlN D k p t).1,.int ((dlN D k p t).2:Int),.int ((p+1+t:Nat):Int),.int k]) [.rows (dlN D k p (D.length - (p+1))).1,.int ((dlN D k p (D.length - (p+1))).2:Int),.int k] ?_ ?_ N (by omega)) ?_
       ·intro self;have fl:=(f (D.length - (p+1)) (by omega)).len;have el:(dlN D k p (D.length - (p+1))).1.length=p+1+(D.length - (p+1)):=by omega
        simp only [PXb,PXc,PXn,AD,el,Ao]
       ·intro t self ht;obtain ⟨f1,f2,f3,f4,f5⟩:=f t (by omega);have hj:p+1+t<(dlN D k p t).1.length:=by omega
        have hi:(dlN D k p t).2<(dlN D k p t).1.length:=by omega
        have rl:=(f5 _ (gC hi)).1;have rj:=(f5 _ (gC hj)).1;have e:dlN D k p (t+1)=cond (pvI (AA (AB (dlN D k p t).1 (p+1+t)) 1)==k) ((dlN D k p t).1.set (dlN D k p t).2 (Ey (AB (dlN D k p t).1 (p+1+t))),(dlN D k p t).2+1) (dlN D k p t):=rfl;have pf:BC (AB (dlN D k p t).1 (dlN D k p t).2) 0 (Ey (AB (dlN D k p t).1 (p+1+t)))=Ey (AB (dlN D k p t).1 (p+1+t)):=xJ (by rw [rl];rfl);rw [e];generalize dlN D k p t=q at *
        simp only [PXb,PXc,PXn,AD,Ad hj,AN hj,AN hi,Bq (show p+1+t≤1099511627776 by omega),Bq (show q.2≤1099511627776 by omega),AK,Int.toNat_natCast];cases pvI (AA (AB q.1 (p+1+t)) 1)==k with
        | false=>rfl
        | true =>
         refine congrArg self ?_;refine congrArg (fun z:Rows=>([Leaf.rows z,.int ((q.2+1:Nat):Int),.int ((p+1+t+1:Nat):Int),.int k]:List Ae)) ?_;exact congrArg (fun z=>List.set q.1 q.2 z) pf
       ·obtain ⟨f1,f2,f3,f4,f5⟩:=f (D.length - (p+1)) (by omega);rw [e9,List.take_length] at f3;generalize dlN D k p (D.length - (p+1))=q at *
        have g1:iRg (q.2:Int) (q.1.length:Int) (q.1.length:Int)=true:=by simp only [iRg,decide_eq_true_eq];omega
        have t1:∀ z:List PV,(List.drop (Int.toNat 0) (List.take q.2 q.1)++List.replicate (List.drop q.2 (List.take q.1.length q.1)).length z).take q.2=fil k D:=fun z=>by
         rw [← f3];show List.take q.2 (List.take q.2 q.1++_)=_;rw [List.take_append_of_le_length (by rw [List.length_take];omega),List.take_take,Nat.min_self]
        have t2:∀ z:List PV,iRg 0 (q.2:Int) (((List.drop (Int.toNat 0) (List.take q.2 q.1)++List.replicate (List.drop q.2 (List.take q.1.length q.1)).length z).length:Nat):Int)=true:=fun z=>by
         simp only [iRg,decide_eq_true_eq,List.length_append,List.length_drop,List.length_take];have:(Int.toNat 0)=0:=rfl;omega
        simp only [PXb,PXc,PXn,AD,g1,Int.toNat_natCast,t1,t2];rfl
      ·have pe:p=D.length:=by omega
       have fa:fil k D=D:=px rd (fun x hx=>by
        obtain ⟨j,hj,e⟩:=List.getElem_of_mem hx;have:=pno j (Nat.zero_le _) (by omega);rw [Bool.not_eq_false'] at this;rw [← e];unfold AB at this
        rwa [List.getD_eq_getElem?_getD,List.getElem?_eq_getElem hj] at this)
       have pm:((-1:Int) == -1)=true:=rfl;simp only [PXb,mL hp,pm,fa]
    ·have X4:(fil k D).length≤1000000:=Nat.le_trans (o9 k D) (by omega);generalize fil k D=X at *
     simp only [PXb];refine AM (Bz (len:=X.length) (fun i=>[.rows (Ak (RD (mdA r4 X) X i)),.int (i:Int)]) [.rows (Ak (RD (mdA r4 X) X X.length))] ?_ ?_ N (by omega)) rfl
     ·intro self;simp only [PXb,PXc,PXn,AD,Ao]
     ·intro i self hi;have e:RD (mdA r4 X) X (i+1)=nJ (AB X i) (mdA r4 X i) (RD (mdA r4 X) X i):=rfl;have ln:(RD (mdA r4 X) X i).length≤i:=by rw [gu,List.length_map];exact gq X i
      rw [e];generalize RD (mdA r4 X) X i=xs at *
      simp only [PXb,PXc,PXn,AD,Ad hi,AN hi,AK];have hnew:dq X i=(Nat.beq i 0 || !(pvI (AA (AB X (i - 1)) 2)==pvI (AA (AB X i) 2))):=rfl;have hmd:mdA r4 X i=(dq X i&&mdS r4 X (pvI (AA (AB X i) 2)) (pvI (AA (AB X i) 4))):=rfl;rw [hmd,hnew];generalize AB X i=x at *
      obtain ⟨pa1,pa2⟩:=ACT (pvI (AA x 4)) xs;refine HX (v:=.int (cond (Nat.blt (Es (pvI (AA x 4)) xs) xs.length) (Es (pvI (AA x 4)) xs:Int) (-1))::Ey x) ?_ ?_
      ·refine AM (AC7 hN (show xs.length≤1000000 by omega) (b:=pvI (AA x 4)) (J:=AB2 x) ?_ ?_) ?_
       ·intro self;simp only [PXb,PXc,PXn,AD,PXv,Ao];rfl
       ·intro j self hj;simp only [PXb,PXc,PXn,AD,PXw,Bq (show j≤1099511627776 by omega),Ad (show j<(Ak xs).length by rw [E8];exact hj),AN (show j<(Ak xs).length by rw [E8];exact hj),AB2]
       ·cases Nat.blt (Es (pvI (AA x 4)) xs) xs.length<;>rfl
      ·refine HX (v:=[.rows (Ak (Z8 (pvI (AA x 4)) xs)),.int (Es (pvI (AA x 4)) xs:Int)]) ?_ ?_
       ·have ple:=N8 (fun j=>(bln xs j).p==pvI (AA x 4)) xs.length 0;rw [Nat.zero_add] at ple;change Es (pvI (AA x 4)) xs≤xs.length at ple;unfold Z8;simp only [PXb,PXc,PXn,AD,Ey];generalize Es (pvI (AA x 4)) xs=q at *
        by_cases hq:q<xs.length
        ·have q0:iLt (q:Int) 0=false:=by simp only [iLt,decide_eq_false_iff_not];omega
         simp only [nU hq,cond_true,q0,cond_false]
        ·obtain rfl:q=xs.length:=by omega
         have q0:iLt (-1) 0=true:=rfl;have sm:iSm ((xs.length+1:Nat):Int) 56=true:=DP (by omega) (by omega);have w1:IntKind.i64.wrap (((xs.length+1:Nat):Int) - 1)=(xs.length:Int):=by rw [B3 (by omega) (by omega)];omega
         simp only [mL hq,cond_false,q0,cond_true,E8,List.length_append,List.length_cons,List.length_nil,Nat.zero_add,sm,w1,PXx];rfl
       ·unfold nJ;generalize Z8 (pvI (AA x 4)) xs=ys at *
        generalize Es (pvI (AA x 4)) xs=q at *
        have iq:iIn (q:Int) ((Ak ys).length:Int)=true:=by rw [E8];exact AN pa1
        have bs:=fun s=>ACi pa1 s
        have hz:((i:Int)==0)=Nat.beq i 0:=by
         cases i with
         | zero=>rfl
         | succ i=>exact beq_eq_false_iff_ne.2 (by omega)
        have hw:Nat.beq i 0=false→IntKind.i64.wrap ((i:Int) - 1)=((i - 1:Nat):Int)∧iIn ((i - 1:Nat):Int) (X.length:Int)=true:=fun h=>by
         have:i≠0:=fun e=>by rw [e] at h;cases h
         exact ⟨by rw [B3 (by omega) (by omega)];omega,AN (by omega)⟩
        have fin:∀ {K:Option (List PV)} {y z:BL},K=self [.rows (Ak (ys.set q y)),.int ((i+1:Nat):Int)]→y=z→K=self [.rows (Ak (ys.set q z)),.int ((i+1:Nat):Int)]:=fun {K y z} h e=>by rw [h,e]
        unfold blX;have wi:IntKind.i64.wrap ((i:Int)+1)=((i+1:Nat):Int):=Bq (show i≤1099511627776 by omega);cases hn:Nat.beq i 0 with
        | true =>
         cases hct:pvB (AA x 26)<;>cases hwk:pvB (AA x 28)<;>cases ht2:pvI (AA x 8)==2<;>cases ht3:pvI (AA x 8)==3<;>simp only [PXb,PXc,PXn,AD,Ey,iq,PXx,PXw,Int.toNat_natCast,bs,List.set_set,hct,hwk,ht2,ht3,hz,hn,wi]<;>(refine HX (VK hN X4) ?_;cases mdS r4 X (pvI (AA x 2)) (pvI (AA x 4))<;>rfl)
        | false =>
         obtain ⟨w1,w2⟩:=hw hn;cases ho:pvI (AA (AB X (i - 1)) 2)==pvI (AA x 2) with
         | true =>
          cases hct:pvB (AA x 26)<;>cases hwk:pvB (AA x 28)<;>cases ht2:pvI (AA x 8)==2<;>cases ht3:pvI (AA x 8)==3<;>simp only [PXb,PXc,PXn,AD,Ey,iq,PXx,PXw,Int.toNat_natCast,bs,List.set_set,hct,hwk,ht2,ht3,hz,hn,wi,w1,w2,ho]<;>rfl
         | false =>
          cases hct:pvB (AA x 26)<;>cases hwk:pvB (AA x 28)<;>cases ht2:pvI (AA x 8)==2<;>cases ht3:pvI (AA x 8)==3<;>simp only [PXb,PXc,PXn,AD,Ey,iq,PXx,PXw,Int.toNat_natCast,bs,List.set_set,hct,hwk,ht2,ht3,hz,hn,wi,w1,w2,ho]<;>(refine HX (VK hN X4) ?_;cases mdS r4 X (pvI (AA x 2)) (pvI (AA x 4))<;>rfl)
end Go.Px
end
section
namespace Go.Px
set_option maxRecDepth 100000
theorem ACJ {r:Rul} (rk:RulOk r) {x:List PV} (h:RowF r x):0≤pvI (AA x 25)∧pvI (AA x 25)≤36:=by
 obtain ⟨d,h0,h1,h2,h3,h4,h5⟩:=h.cre;have:=ADs rk { (evR [] 0) with kind:=4,ball:=d };rw [h5];exact this
def fg (B:List Int) (b:Int):Nat→Bool
 | 0=>false
 | j+1=>fg B b j||(B.getD j 0==b)
theorem ACv (B:List Int) (b:Int):fg B b B.length=B.any (·==b):=by
 have main:∀ j,j≤B.length→fg B b j=(B.take j).any (·==b):=by
  intro j
  induction j with
  | zero=>intro _;rfl
  | succ j ih =>
   intro hj;have e:B.take (j+1)=B.take j++[B.getD j 0]:=by
    rw [List.take_add_one,List.getD_eq_getElem?_getD,List.getElem?_eq_getElem (by omega)];rfl
   rw [e,List.any_append];show (fg B b j||_)=_;rw [ih (by omega)];simp
 rw [main B.length (Nat.le_refl _),List.take_length]
def kQ (bal:Int) (X:Rows) (b:Int):BL:=BF (fun _=>false) X b (mdR bal X b X.length) X.length
theorem ACd {r:Rul} (rk:RulOk r) {X:Rows} (h4:X.length≤4000) (hf:∀ i,i<X.length→RowF r (AB X i)):RD (mdA r.balls X) X X.length=(boN X X.length).map (kQ r.balls X):=by
 rw [gu];refine List.map_congr_left (fun b _=>?_);rw [ACa,← AAu (by omega) (fun j hj=>by have:=ACJ rk (hf j hj);omega) b X.length (Nat.le_refl _)];rfl
set_option maxHeartbeats 4000000 in
theorem sC {N:Nat} {r8:Bool} {r0:ByteArray} {r13:Rows} {L:Rows} {k:Int} (hN:2097152<N) (hs:r0.size≤1048576) (h13:r13.length≤1048576) (hL:L.length≤1000000):Iw N [.str r0,.int r1,.int r2,.int r3,.int r4,.int r5,.int r6,.int r7,.bool r8,.int r9,.int r10,.int r11,.int r12,.rows r13,.rows L,.int k]=some [.rows (L1 (⟨r0,r1,r2,r3,r4,r5,r6,r7,r8,r9,r10,r11,r12,r13⟩:Rul) L k).1,.int (L1 (⟨r0,r1,r2,r3,r4,r5,r6,r7,r8,r9,r10,r11,r12,r13⟩:Rul) L k).2]:=by
 show Iz (std (DM N) N) (xOf _)=_;generalize hres:(some [.rows (L1 (⟨r0,r1,r2,r3,r4,r5,r6,r7,r8,r9,r10,r11,r12,r13⟩:Rul) L k).1,.int (L1 (⟨r0,r1,r2,r3,r4,r5,r6,r7,r8,r9,r10,r11,r12,r13⟩:Rul) L k).2]:Option (List PV))=RR;simp only [Iz,am,YF,Alg.q,std,xOf,PXb,ABx hN hs h13 hL];subst hres;simp only [L1];cases hb:(Cg (⟨r0,r1,r2,r3,r4,r5,r6,r7,r8,r9,r10,r11,r12,r13⟩:Rul) L k).2==0 with
 | false=>rfl
 | true =>
  obtain ⟨b1,b2,b3,b4,b5,b6,b7⟩:=vq hb;have fe:=ACd (ADo b1).2 b6 b7;generalize (Cg (⟨r0,r1,r2,r3,r4,r5,r6,r7,r8,r9,r10,r11,r12,r13⟩:Rul) L k).1=X at *
  change RD (mdA r4 X) X X.length=(boN X X.length).map (kQ r4 X) at fe;simp only [PXb,Bool.not_true,fe];refine AM (Bz (len:=X.length) (fun i=>[.rows (Ak ((boN X i).map (kQ r4 X))),.int (i:Int)]) [.rows (Ak ((boN X X.length).map (kQ r4 X)))] ?_ ?_ N (by omega)) rfl
  ·intro self;simp only [PXb,PXc,PXn,AD,Ao]
  ·intro i self hi;have bl:=gq X i;have e:boN X (i+1)=cond ((boN X i).any (·==pvI (AA (AB X i) 4))) (boN X i) (boN X i++[pvI (AA (AB X i) 4)]):=rfl;have wi:IntKind.i64.wrap ((i:Int)+1)=((i+1:Nat):Int):=Bq (show i≤1099511627776 by omega);rw [e];simp only [PXb,PXc,PXn,AD,Ad hi,AN hi,AK];generalize pvI (AA (AB X i) 4)=b;generalize boN X i=B at *
   refine HX (v:=[.bool (B.any (·==b)),.int (B.length:Int)]) ?_ ?_
   ·have ll:(Ak (B.map (kQ r4 X))).length=B.length:=by rw [E8,List.length_map]
    have:=ACv B b;refine (Bz (len:=B.length) (fun j=>[.bool (fg B b j),.int (j:Int)]) [.bool (fg B b B.length),.int (B.length:Int)] ?_ ?_ N (by omega)).trans (by rw [this])
    ·intro self;simp only [PXb,PXc,PXn,AD,ll,Ao]
    ·intro j self hj;have rp:pvI (AA (AB (Ak (B.map (kQ r4 X))) j) 0)=B.getD j 0:=by
      rw [PXw.1,gR (by rw [List.length_map];exact hj),List.getElem_map,List.getD_eq_getElem?_getD,List.getElem?_eq_getElem hj];exact zM _ _ _ _ _
     simp only [PXb,PXc,PXn,AD,ll,Ad hj,AN hj,AK,rp,Bq (show j≤1099511627776 by omega)];show _=self [.bool (fg B b j||(B.getD j 0==b)),_];cases fg B b j<;>rfl
   ·simp only [PXb,PXc,PXn,AD];cases B.any (·==b) with
    | true=>simp only [PXb,Bool.not_true,wi]
    | false =>
     have ll:(Ak (B.map (kQ r4 X))).length=B.length:=by rw [E8,List.length_map]
     simp only [PXb,Bool.not_false];refine HX (zY hN (show X.length≤1000000 by omega)) ?_;have sm:iSm ((B.length+1:Nat):Int) 56=true:=DP (by omega) (by omega);simp only [PXb,PXc,PXn,AD,BL.ls,List.length_append,List.length_cons,List.length_nil,E8,List.length_map,Nat.zero_add,sm,PXx,wi,List.map_append,List.map_cons,List.map_nil];rfl
theorem ADf:L1 gr gY 1=(Ak [⟨2,1,0,5,0,1,0⟩],0):=by kernel_rfl
theorem ADb:Hv 4194304 [.int 2,.int 1,.int 0,.int 5,.int 0,.int 1,.int 0,.int 4]=some [.str ⟨#[48,46,49,45,48,45,53,45,48]⟩,.int 0]:=by kernel_rfl
theorem ADO:Ef 4194304 [.int 2,.int 1,.int 0,.int 5,.int 0,.int 1,.int 0,.int 4]=some [.int 20,.int 1,.int 0]:=by kernel_rfl
theorem V8 {N:Nat} {L:Rows} (hN:2097152<N) (hl:L.length≤1048576):Dh N [.rows L,.rows L]=some [.bool true]:=by
 show Dg (std (J5 N) N) (xOf _)=_;simp only [Dg,Alg.q,std,xOf,PXb];simp only [PXb,PXc,PXn,AD,beq_self_eq_true,Bool.not_true];refine AM (Bz (len:=L.length) (fun i=>[.int (i:Int)]) [.int 1] ?_ ?_ N (by omega)) rfl
 ·intro self;simp only [PXb,PXc,PXn,AD,Ao]
 ·intro i self hi;simp only [PXb,PXc,PXn,AD,Bq (show i≤1099511627776 by omega),Ad hi,AN hi,beq_self_eq_true,Bool.not_true]
set_option maxHeartbeats 2000000 in
theorem wg:MQ 4194304 []=some [.bool true]:=by
 have hs:gr.name.size≤1048576:=by decide
 have hl:gY.length≤1000000:=by decide
 have hN:2097152<4194304:=by omega
 have k1:Bu 4194304 (gr.ls++[.rows gY,.int 1])=some [.rows (L1 gr gY 1).1,.int (L1 gr gY 1).2]:=TN hN hs (Nat.zero_le _) hl;rw [ADf] at k1;obtain ⟨xs,hxs⟩:∃ xs:List BL,xs=[⟨2,1,0,5,0,1,0⟩]:=⟨_,rfl⟩;rw [← hxs] at k1;have i1:iIn 0 ((Ak xs).length:Int)=true:=by rw [hxs];rfl
 have i2:(((Ak xs).length:Int)==1)=true:=by rw [hxs];rfl
 have z0:(0:Int).toNat=0:=rfl;have e0:pvI (AK (Ak xs) 0 0)=2:=by rw [hxs];rfl
 have e1:pvI (AK (Ak xs) 0 1)=1:=by rw [hxs];rfl
 have e2:pvI (AK (Ak xs) 0 2)=0:=by rw [hxs];rfl
 have e3:pvI (AK (Ak xs) 0 3)=5:=by rw [hxs];rfl
 have e4:pvI (AK (Ak xs) 0 4)=0:=by rw [hxs];rfl
 have e5:pvI (AK (Ak xs) 0 5)=1:=by rw [hxs];rfl
 have e6:pvI (AK (Ak xs) 0 6)=0:=by rw [hxs];rfl
 show RO (std (EV 4194304) 4194304) (xOf [])=_;simp only [RO,SV,Ui,Sd,ZJ,dM,Alg.q,std,xOf,PXb,ADr,ACu];refine HX k1 ?_;simp only [PXb,PXc,PXn,AD,Nat.reduceAdd,z0,i1,i2,e0,e1,e2,e3,e4,e5,e6];have cb:(!(0:Int)==0||(!(2:Int)==2||(!(1:Int)==1||(!(0:Int)==0||(!(5:Int)==5||(!(0:Int)==0||(!(1:Int)==1 || !(0:Int)==0)))))))=false:=by decide
 rw [cb,cond_false];refine HX ADb ?_;simp only [PXb,PXc,PXn,AD,Nat.reduceAdd,z0,i1,i2,e0,e1,e2,e3,e4,e5,e6];refine HX ADO ?_;simp only [PXb,PXc,PXn,AD,beq_self_eq_true]
theorem ACh (r:Rul) (L:Rows) (k:Int):(L1 r L k).1.length≤4000:=by
 unfold L1;cases hb:(Cg r L k).2==0 with
 | false=>exact Nat.zero_le _
 | true =>
  obtain ⟨b1,b2,b3,b4,b5,b6,b7⟩:=vq hb;show (Ak (RD _ _ _)).length≤4000;rw [E8,gu,List.length_map];exact Nat.le_trans (gq _ _) b6
set_option maxHeartbeats 4000000 in
theorem aq {N:Nat} {r8:Bool} {r0:ByteArray} {r13:Rows} {L:Rows} {k:Int} (ha:MQ N []=some [.bool true]) (hN:2097152<N) (hs:r0.size≤1048576) (h13:r13.length≤1048576):DL N [.str r0,.int r1,.int r2,.int r3,.int r4,.int r5,.int r6,.int r7,.bool r8,.int r9,.int r10,.int r11,.int r12,.rows r13,.rows L,.int k]=some [.bool true]:=by
 show DQ (std (A8 N) N) (xOf _)=_;have l:(cut L 60).length≤1000000:=Nat.le_trans (ADR L 60) (show 60≤1000000 by omega);simp only [DQ,O8,Qs,KH,Ni,HZ,Alg.q,std,xOf,PXb,ha,AAb,TN hN hs h13 l,sC hN hs h13 l];have fl:=ACh (⟨r0,r1,r2,r3,r4,r5,r6,r7,r8,r9,r10,r11,r12,r13⟩:Rul) (cut L 60) k;simp only [V8 hN (show (L1 (⟨r0,r1,r2,r3,r4,r5,r6,r7,r8,r9,r10,r11,r12,r13⟩:Rul) (cut L 60) k).1.length≤1048576 by omega),PXb,PXc,PXn,PXm,Nat.reduceAdd,Int.reduceBEq,beq_self_eq_true]
end Go.Px
end
section
namespace Go.Proofs
open Go.Shelf
def Tryz.lays246_ren:Go.Shelf.Ren:=⟨fun | 246=>91 | 283=>111 | 284=>112 | 285=>113 | 286=>114 | 129=>136 | 317=>135 | 318=>137 | 319=>138 | 320=>139 | 337=>162 | 338=>163 | n=>n,fun | 2=>2 | 3=>3 | 9=>9 | 4=>4 | 171=>158 | 0=>0 | 53=>146 | 37=>161 | 5=>5 | 173=>162 | 212=>179 | 51=>180 | 20=>20 | 213=>181 | 46=>182 | 232=>209 | 233=>210 | n=>n,fun | 17=>0 | 18=>1 | 19=>2 | n=>n⟩
theorem Tryz.lays246:Go.Proofs.Lays.n246 Tryz.prog Tryz.lays246_ren:={
  mixed:=by kernel_rfl
  f129:=Tryz.func136.trans (congrArg some (by kernel_rfl))
  f246:=Tryz.func91.trans (congrArg some (by kernel_rfl))
  f283:=Tryz.func111.trans (congrArg some (by kernel_rfl))
  f284:=Tryz.func112.trans (congrArg some (by kernel_rfl))
  f285:=Tryz.func113.trans (congrArg some (by kernel_rfl))
  f286:=Tryz.func114.trans (congrArg some (by kernel_rfl))
  f317:=Tryz.func135.trans (congrArg some (by kernel_rfl))
  f318:=Tryz.func137.trans (congrArg some (by kernel_rfl))
  f319:=Tryz.func138.trans (congrArg some (by kernel_rfl))
  f320:=Tryz.func139.trans (congrArg some (by kernel_rfl))
  f337:=Tryz.func162.trans (congrArg some (by kernel_rfl))
  f338:=Tryz.func163.trans (congrArg some (by kernel_rfl))
  t0:=Tryz.underlying0
  a0:=Tryz.isAgg0
  z0:=Tryz.sizeOf0
  v0:=Tryz.zeroValue0
  t2:=Tryz.underlying2
  a2:=Tryz.isAgg2
  z2:=Tryz.sizeOf2
  v2:=Tryz.zeroValue2
  t3:=Tryz.underlying3
  a3:=Tryz.isAgg3
  z3:=Tryz.sizeOf3
  v3:=Tryz.zeroValue3
  t4:=Tryz.underlying4
  a4:=Tryz.isAgg4
  z4:=Tryz.sizeOf4
  v4:=Tryz.zeroValue4
  t5:=Tryz.underlying5
  a5:=Tryz.isAgg5
  z5:=Tryz.sizeOf5
  v5:=Tryz.zeroValue5
  t9:=Tryz.underlying9
  a9:=Tryz.isAgg9
  z9:=Tryz.sizeOf9
  v9:=Tryz.zeroValue9
  t20:=Tryz.underlying20
  a20:=Tryz.isAgg20
  z20:=Tryz.sizeOf20
  v20:=Tryz.zeroValue20
  t37:=Tryz.underlying161
  a37:=Tryz.isAgg161
  z37:=Tryz.sizeOf161
  v37:=Tryz.zeroValue161
  t46:=Tryz.underlying182
  a46:=Tryz.isAgg182
  z46:=Tryz.sizeOf182
  v46:=Tryz.zeroValue182
  t51:=Tryz.underlying180
  a51:=Tryz.isAgg180
  z51:=Tryz.sizeOf180
  v51:=Tryz.zeroValue180
  t53:=Tryz.underlying146
  a53:=Tryz.isAgg146
  z53:=Tryz.sizeOf146
  v53:=Tryz.zeroValue146
  t171:=Tryz.underlying158
  a171:=Tryz.isAgg158
  z171:=Tryz.sizeOf158
  v171:=Tryz.zeroValue158
  t173:=Tryz.underlying162
  a173:=Tryz.isAgg162
  z173:=Tryz.sizeOf162
  v173:=Tryz.zeroValue162
  t212:=Tryz.underlying179
  a212:=Tryz.isAgg179
  z212:=Tryz.sizeOf179
  v212:=Tryz.zeroValue179
  t213:=Tryz.underlying181
  a213:=Tryz.isAgg181
  z213:=Tryz.sizeOf181
  t232:=Tryz.underlying209
  a232:=Tryz.isAgg209
  z232:=Tryz.sizeOf209
  v232:=Tryz.zeroValue209
  t233:=Tryz.underlying210
  a233:=Tryz.isAgg210
  z233:=Tryz.sizeOf210
  v233:=Tryz.zeroValue210
  g17:=by kernel_rfl
  g18:=by kernel_rfl
  g19:=by kernel_rfl }
open Go.RowKit Go.Sort Go.Lib in
theorem Tryz.internal_strconv_FormatInt_10_small (i : Nat) (hi : i < 100) (w : World) :
    Calls Tryz.prog 91 #[.int .i64 i,.int .i64 10] w fun e w'=>e=.returned (.string ⟨(Lib.decDigits i).toArray⟩)∧w'=w:=Any.internal_strconv_FormatInt_10_small Tryz.lays246 i hi w
def Tryz.lays243_ren:Go.Shelf.Ren:=⟨fun | 243=>90 | 246=>91 | 283=>111 | 284=>112 | 285=>113 | 286=>114 | 129=>136 | 317=>135 | 318=>137 | 319=>138 | 320=>139 | 337=>162 | 338=>163 | n=>n,fun | 3=>3 | 9=>9 | 2=>2 | 4=>4 | 171=>158 | 0=>0 | 53=>146 | 37=>161 | 5=>5 | 173=>162 | 212=>179 | 51=>180 | 20=>20 | 213=>181 | 46=>182 | 232=>209 | 233=>210 | n=>n,fun | 17=>0 | 18=>1 | 19=>2 | n=>n⟩
theorem Tryz.lays243:Go.Proofs.Lays.n243 Tryz.prog Tryz.lays243_ren:={
  mixed:=by kernel_rfl
  f129:=Tryz.func136.trans (congrArg some (by kernel_rfl))
  f243:=Tryz.func90.trans (congrArg some (by kernel_rfl))
  f246:=Tryz.func91.trans (congrArg some (by kernel_rfl))
  f283:=Tryz.func111.trans (congrArg some (by kernel_rfl))
  f284:=Tryz.func112.trans (congrArg some (by kernel_rfl))
  f285:=Tryz.func113.trans (congrArg some (by kernel_rfl))
  f286:=Tryz.func114.trans (congrArg some (by kernel_rfl))
  f317:=Tryz.func135.trans (congrArg some (by kernel_rfl))
  f318:=Tryz.func137.trans (congrArg some (by kernel_rfl))
  f319:=Tryz.func138.trans (congrArg some (by kernel_rfl))
  f320:=Tryz.func139.trans (congrArg some (by kernel_rfl))
  f337:=Tryz.func162.trans (congrArg some (by kernel_rfl))
  f338:=Tryz.func163.trans (congrArg some (by kernel_rfl))
  t0:=Tryz.underlying0
  a0:=Tryz.isAgg0
  z0:=Tryz.sizeOf0
  v0:=Tryz.zeroValue0
  t2:=Tryz.underlying2
  a2:=Tryz.isAgg2
  z2:=Tryz.sizeOf2
  v2:=Tryz.zeroValue2
  t3:=Tryz.underlying3
  a3:=Tryz.isAgg3
  z3:=Tryz.sizeOf3
  v3:=Tryz.zeroValue3
  t4:=Tryz.underlying4
  a4:=Tryz.isAgg4
  z4:=Tryz.sizeOf4
  v4:=Tryz.zeroValue4
  t5:=Tryz.underlying5
  a5:=Tryz.isAgg5
  z5:=Tryz.sizeOf5
  v5:=Tryz.zeroValue5
  t9:=Tryz.underlying9
  a9:=Tryz.isAgg9
  z9:=Tryz.sizeOf9
  v9:=Tryz.zeroValue9
  t20:=Tryz.underlying20
  a20:=Tryz.isAgg20
  z20:=Tryz.sizeOf20
  v20:=Tryz.zeroValue20
  t37:=Tryz.underlying161
  a37:=Tryz.isAgg161
  z37:=Tryz.sizeOf161
  v37:=Tryz.zeroValue161
  t46:=Tryz.underlying182
  a46:=Tryz.isAgg182
  z46:=Tryz.sizeOf182
  v46:=Tryz.zeroValue182
  t51:=Tryz.underlying180
  a51:=Tryz.isAgg180
  z51:=Tryz.sizeOf180
  v51:=Tryz.zeroValue180
  t53:=Tryz.underlying146
  a53:=Tryz.isAgg146
  z53:=Tryz.sizeOf146
  v53:=Tryz.zeroValue146
  t171:=Tryz.underlying158
  a171:=Tryz.isAgg158
  z171:=Tryz.sizeOf158
  v171:=Tryz.zeroValue158
  t173:=Tryz.underlying162
  a173:=Tryz.isAgg162
  z173:=Tryz.sizeOf162
  v173:=Tryz.zeroValue162
  t212:=Tryz.underlying179
  a212:=Tryz.isAgg179
  z212:=Tryz.sizeOf179
  v212:=Tryz.zeroValue179
  t213:=Tryz.underlying181
  a213:=Tryz.isAgg181
  z213:=Tryz.sizeOf181
  t232:=Tryz.underlying209
  a232:=Tryz.isAgg209
  z232:=Tryz.sizeOf209
  v232:=Tryz.zeroValue209
  t233:=Tryz.underlying210
  a233:=Tryz.isAgg210
  z233:=Tryz.sizeOf210
  v233:=Tryz.zeroValue210
  g17:=by kernel_rfl
  g18:=by kernel_rfl
  g19:=by kernel_rfl }
open Go.RowKit Go.Sort Go.Lib in
theorem Tryz.internal_strconv_Itoa_small (i : Nat) (hi : i < 100) (w : World) :
    Calls Tryz.prog 90 #[.int .i64 i] w fun e w'=>e=.returned (.string ⟨(Lib.decDigits i).toArray⟩)∧w'=w:=Any.internal_strconv_Itoa_small Tryz.lays243 i hi w
end Go.Proofs
end
