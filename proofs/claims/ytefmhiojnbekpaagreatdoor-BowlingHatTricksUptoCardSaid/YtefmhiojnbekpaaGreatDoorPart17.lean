/- Part 17. -/
import Derived.Test.YtefmhiojnbekpaaGreatDoorPart16
import Derived.Test.YtefmhiojnbekpaaGreatDoorPart04
import Derived.Shelf.Strconv.Itoa3
import Derived.Test.YtefmhiojnbekpaaGreatDoorProg
set_option linter.unusedVariables false
set_option linter.unusedSimpArgs false
variable {r1 r2 r3 r4 r5 r6 r7 r9 r10 r11 r12:Int}
section
namespace Go.Px
set_option maxRecDepth 100000
def mP (x:List PV):Prop:=x.length=32∧Fz x=x
theorem tR {L:Rows}:∀ k i m out,(∀ x∈out,mP x)→∀ x∈L6 L k i m out,mP x
 | 0,i,m,out,h=>h
 | k+1,i,m,out,h=>by
  show ∀ x∈L6 L k (i+1) (Au i m (evR L i)).1 (cond ((evR L i).kind==4) (out++[K5 i m (Au i m (evR L i)).1 (evR L i).ball]) out),mP x;refine tR k (i+1) _ _ ?_;cases (evR L i).kind==4 with
  | false=>exact h
  | true =>
   intro x hx
   rcases List.mem_append.1 hx with hx | hx
   ·exact h x hx
   ·rw [List.mem_singleton.1 hx];exact ⟨rfl,rfl⟩
theorem zT {r:Rul} {L:Rows} (hc:Ca r L=0):∀ x∈Bs r L,mP x:=by
 obtain ⟨h1,h2,h3,h4,h5⟩:=Sa hc;have:Bs r L=L6 L L.length 0 (Ao r).1 []:=by
  unfold Bs;rw [h1];obtain ⟨j,j1,j2,j3,j4⟩:=WE L L.length 0 (Ao r).1;show MD L L.length 0 (Ao r).1 []=_;rw [j3 []]
  rcases j4 with ⟨j5,_⟩ | ⟨j5,j6,j7⟩
  ·rw [j5]
  ·have hh:=ZF L.length 0 _ h4 j j5;rw [hh] at j6;cases j6
 rw [this];exact tR _ _ _ _ (fun x hx=>absurd hx List.not_mem_nil)
theorem sI {k:Int}:∀ {A:Rows},(∀ x∈A,mP x)→(∀ x∈A,(pvI (AA x 1)==k)=true)→fil k A=A
 | [],_,_=>rfl
 | x::A,h,h1=>by
  show cond (pvI (AA x 1)==k) (Fz x::fil k A) (fil k A)=_;rw [h1 x zzm,sI (fun y hy=>h y (zzn _ hy)) (fun y hy=>h1 y (zzn _ hy)),(h x zzm).2];rfl
theorem fi {D:Rows} {i:Nat} (h:i<D.length):AE D i∈D:=by
 unfold AE;rw [zzl,zzo h];exact List.getElem_mem h
theorem yv {D:Rows} {x:List PV} {n:Nat} (h:x∈D.take n):∃ j,j<n∧j<D.length∧x=AE D j:=by
 obtain ⟨j,hj,e⟩:=List.getElem_of_mem h;rw [List.length_take] at hj;refine ⟨j,by omega,by omega,?_⟩;rw [← e,List.getElem_take];unfold AE;rw [zzl,zzo (by omega)];rfl
theorem qJ:∀ (ps r:List PV) (off:Nat),r.length=off+ps.length→BB r off ps=r.take off++ps
 | [],r,off,h=>by
  show r=_;rw [List.append_nil,List.take_of_length_le (by simpa using Nat.le_of_eq h)]
 | p::ps,r,off,h=>by
  show BB (r.set off p) (off+1) ps=_;have hl:off<r.length:=by rw [h];simp
  rw [qJ ps (r.set off p) (off+1) (by rw [List.length_set,h];simp;omega),List.take_add_one,List.getElem?_set_self hl,List.take_set_of_le (Nat.le_refl _)];simp
theorem yt {ps r:List PV} (h:r.length=ps.length):BB r 0 ps=ps:=by rw [qJ ps r 0 (by omega)];rfl
def dlN (D:Rows) (k:Int) (p:Nat):Nat→Rows×Nat
 | 0=>(D,p)
 | t+1=>cond (pvI (AA (AE (dlN D k p t).1 (p+1+t)) 1)==k) ((dlN D k p t).1.set (dlN D k p t).2 (Fz (AE (dlN D k p t).1 (p+1+t))),(dlN D k p t).2+1) (dlN D k p t)
structure DlF (D:Rows) (k:Int) (p t:Nat):Prop where
 len:(dlN D k p t).1.length=D.length
 le:(dlN D k p t).2≤p+t
 cut:(dlN D k p t).1.take (dlN D k p t).2=fil k (D.take (p+1+t))
 rest:∀ j,p+1+t≤j→AE (dlN D k p t).1 j=AE D j
 row:∀ x∈(dlN D k p t).1,mP x
theorem AGD {D:Rows} {k:Int} {p:Nat} (hD:∀ x∈D,mP x) (hp:p<D.length) (h0:∀ j,j<p→(pvI (AA (AE D j) 1)==k)=true) (h1:(pvI (AA (AE D p) 1)==k)=false):∀ t,p+1+t≤D.length→DlF D k p t
 | 0,_=>by
  refine ⟨rfl,Nat.le_refl _,?_,fun j _=>rfl,hD⟩;show D.take p=fil k (D.take (p+1));rw [xJ hp,show pvI (AG D p 1)=pvI (AA (AE D p) 1) from rfl,h1,cond_false,sI (fun x hx=>hD x (List.mem_of_mem_take hx)) (fun x hx=>by
   obtain ⟨j,h2,h3,rfl⟩:=yv hx;exact h0 j h2)]
 | t+1,ht=>by
  obtain ⟨f1,f2,f3,f4,f5⟩:=AGD hD hp h0 h1 t (by omega);have hj:p+1+t<D.length:=by omega
  have hr:=f4 (p+1+t) (Nat.le_refl _);have ft:=xJ (k:=k) hj;rw [show pvI (AG D (p+1+t) 1)=pvI (AA (AE D (p+1+t)) 1) from rfl] at ft;have e:dlN D k p (t+1)=cond (pvI (AA (AE D (p+1+t)) 1)==k) ((dlN D k p t).1.set (dlN D k p t).2 (Fz (AE D (p+1+t))),(dlN D k p t).2+1) (dlN D k p t):=by rw [← hr];rfl
  cases hk:pvI (AA (AE D (p+1+t)) 1)==k with
  | false =>
   rw [hk,cond_false] at e ft;exact ⟨by rw [e];exact f1,by rw [e];omega,by rw [e,f3,show p+1+(t+1)=p+1+t+1 by omega,ft],fun j hj2=>by rw [e];exact f4 j (by omega),by rw [e];exact f5⟩
  | true =>
   rw [hk,cond_true] at e ft;have hl:(dlN D k p t).2<(dlN D k p t).1.length:=by omega
   refine ⟨by rw [e];show (List.set _ _ _).length=_;rw [List.length_set];exact f1,by rw [e];show (dlN D k p t).2+1≤_;omega,?_,fun j hj2=>?_,?_⟩
   ·rw [e,show p+1+(t+1)=p+1+t+1 by omega,ft,← f3];show ((dlN D k p t).1.set (dlN D k p t).2 _).take ((dlN D k p t).2+1)=_;rw [List.take_add_one,List.getElem?_set_self hl,List.take_set_of_le (Nat.le_refl _)];rfl
   ·rw [e,← f4 j (by omega)];show AE ((dlN D k p t).1.set (dlN D k p t).2 _) j=_;unfold AE;simp only [zzl,List.getElem?_set_ne (show (dlN D k p t).2≠j by omega)]
   ·rw [e];intro x hx
    rcases List.mem_or_eq_of_mem_set hx with h | h
    ·exact f5 x h
    ·have:=hD _ (fi hj);rw [h,this.2];exact this
def jA (r:Rul) (L:Rows) (k:Int):Rows×Int:=cond ((aL r L k).2==0) (Av (Yu (mdA r.balls (aL r L k).1) (aL r L k).1 (aL r L k).1.length),0) ([],(aL r L k).2)
def AEl (x:List PV):List Ad:=[.int (pvI (AA x 0)),.int (pvI (AA x 1)),.int (pvI (AA x 2)),.int (pvI (AA x 3)),.int (pvI (AA x 4)),.int (pvI (AA x 5)),.int (pvI (AA x 6)),.bool (pvB (AA x 7)),.int (pvI (AA x 8)),.int (pvI (AA x 9)),.int (pvI (AA x 10)),.int (pvI (AA x 11)),.int (pvI (AA x 12)),.bool (pvB (AA x 13)),.int (pvI (AA x 14)),.int (pvI (AA x 15)),.int (pvI (AA x 16)),.int (pvI (AA x 17)),.bool (pvB (AA x 18)),.int (pvI (AA x 19)),.int (pvI (AA x 20)),.int (pvI (AA x 21)),.int (pvI (AA x 22)),.int (pvI (AA x 23)),.int (pvI (AA x 24)),.int (pvI (AA x 25)),.bool (pvB (AA x 26)),.bool (pvB (AA x 27)),.bool (pvB (AA x 28)),.bool (pvB (AA x 29)),.int (pvI (AA x 30)),.int (pvI (AA x 31))]
theorem AFG {ys:List BL} {p:Nat} (h:p<ys.length) (s:BL):bln (ys.set p s) p=s:=by rw [pX (by rw [List.length_set];exact h),List.getElem_set_self]
theorem AE9 (b:Int) (xs:List BL):FI b xs<(dK b xs).length∧(dK b xs).length≤xs.length+1:=by
 have ple:=Rf (fun j=>(bln xs j).p==b) xs.length 0;rw [Nat.zero_add] at ple;change FI b xs≤xs.length at ple;unfold dK
 by_cases h:FI b xs<xs.length
 ·rw [vS h,cond_true];exact ⟨h,Nat.le_succ _⟩
 ·rw [vQ h,cond_false,List.length_append];exact ⟨by simp only [List.length_cons,List.length_nil];omega,Nat.le_refl _⟩
theorem PXw:(∀ (xs:List BL) (i:Nat),pvI (AA (AE (Av xs) i) 0)=(bln xs i).p)∧(∀ (xs:List BL) (i:Nat),pvI (AA (AE (Av xs) i) 1)=(bln xs i).b)∧(∀ (xs:List BL) (i:Nat),pvI (AA (AE (Av xs) i) 2)=(bln xs i).m)∧(∀ (xs:List BL) (i:Nat),pvI (AA (AE (Av xs) i) 3)=(bln xs i).r)∧(∀ (xs:List BL) (i:Nat),pvI (AA (AE (Av xs) i) 4)=(bln xs i).w)∧(∀ (xs:List BL) (i:Nat),pvI (AA (AE (Av xs) i) 5)=(bln xs i).wd)∧(∀ (xs:List BL) (i:Nat),pvI (AA (AE (Av xs) i) 6)=(bln xs i).nb):=PXv.2
theorem AFc {N : Nat} (hN : 2097152 < N) {xs : List BL} (hx : xs.length ≤ 1000000) {b : Int} {J : List Ad} {F : (List Ad → Option (List PV)) → List PV → Option (List PV)}
    (h0:∀ self,F self (.int (xs.length:Int)::J.map Leaf.pv)=some (.int 1::J.map Leaf.pv)) (h1:∀ i self,i<xs.length→F self (.int (i:Int)::J.map Leaf.pv)=cond ((bln xs i).p==b) (some (.int 0::.int (i:Int)::J.map Leaf.pv)) (self (.int ((i+1:Nat):Int)::J))) :
    DU F N (.int 0::J.map Leaf.pv)=some (cond (Nat.blt (FI b xs) xs.length) (.int 0::.int (FI b xs:Int)::J.map Leaf.pv) (.int 1::J.map Leaf.pv)):=by
  have ple:=Rf (fun j=>(bln xs j).p==b) xs.length 0;have pno:=ZZ (fun j=>(bln xs j).p==b) xs.length 0;have pyes:=WQ (fun j=>(bln xs j).p==b) xs.length 0;rw [Nat.zero_add] at ple pyes;have:=f7 (F:=F) (len:=xs.length) (p:=FI b xs) (fun i=>.int (i:Int)::J) (.int 0::.int (FI b xs:Int)::J.map Leaf.pv) (.int 1::J.map Leaf.pv) ple (fun _ self=>h0 self) (fun i self hi=>by
    have:=h1 i self (Nat.lt_of_lt_of_le hi ple);rw [show ((bln xs i).p==b)=false from pno i (Nat.zero_le _) hi] at this;exact this) (fun hl self=>by
    have:=h1 (FI b xs) self hl;rw [show ((bln xs (FI b xs)).p==b)=true from pyes hl] at this;exact this) N (by omega)
  exact this
set_option maxHeartbeats 8000000 in
theorem jk {N:Nat} {r8:Bool} {r0:ByteArray} {r13:Rows} {L:Rows} {k:Int} (hN:2097152<N) (hs:r0.size≤1048576) (h13:r13.length≤1048576) (hL:L.length≤1000000):C0 N [.str r0,.int r1,.int r2,.int r3,.int r4,.int r5,.int r6,.int r7,.bool r8,.int r9,.int r10,.int r11,.int r12,.rows r13,.rows L,.int k]=some [.rows (jA (⟨r0,r1,r2,r3,r4,r5,r6,r7,r8,r9,r10,r11,r12,r13⟩:Rul) L k).1,.int (jA (⟨r0,r1,r2,r3,r4,r5,r6,r7,r8,r9,r10,r11,r12,r13⟩:Rul) L k).2]:=by
 show Et (std (Bb N) N) (xOf _)=_;generalize hres:(some [.rows (jA (⟨r0,r1,r2,r3,r4,r5,r6,r7,r8,r9,r10,r11,r12,r13⟩:Rul) L k).1,.int (jA (⟨r0,r1,r2,r3,r4,r5,r6,r7,r8,r9,r10,r11,r12,r13⟩:Rul) L k).2]:Option (List PV))=RR;have hl:L.length≤1048576:=by omega
 simp only [Et,TH,P6,Ta,Nw,lq9,std,xOf,PXb,kw hN hs h13 hl,ZL hN hl,dG hN hs h13 hl,WX,PXc];subst hres;simp only [jA,aL];cases hc:Ca (⟨r0,r1,r2,r3,r4,r5,r6,r7,r8,r9,r10,r11,r12,r13⟩:Rul) L==0 with
 | false=>simp only [PXb,Bool.not_false,hc]
 | true =>
  have c0:=beq_iff_eq.1 hc;have pl:=UW (⟨r0,r1,r2,r3,r4,r5,r6,r7,r8,r9,r10,r11,r12,r13⟩:Rul) L;have l4:=(Sa c0).2.2.1;have rd:=zT c0;cases h0:iLt k 0 with
  | true=>rfl
  | false =>
   simp only [PXb,Bool.not_true,Bool.not_false,PXp,U7];cases h1:iLe (opn L L.length:Int) k with
   | true=>rfl
   | false =>
    simp only [PXb];generalize Bs (⟨r0,r1,r2,r3,r4,r5,r6,r7,r8,r9,r10,r11,r12,r13⟩:Rul) L=D at *
    have ple:=Rf (fun j => !(pvI (AA (AE D j) 1)==k)) D.length 0;have pno:=ZZ (fun j => !(pvI (AA (AE D j) 1)==k)) D.length 0;have pyes:=WQ (fun j => !(pvI (AA (AE D j) 1)==k)) D.length 0;rw [Nat.zero_add] at ple pyes;generalize Kh (fun j => !(pvI (AA (AE D j) 1)==k)) D.length 0=p at *
    refine Le (v:=[.rows (fil k D),.int k]) ?_ ?_
    ·refine Le (v:=[.int (cond (Nat.blt p D.length) (p:Int) (-1)),.int k]) ?_ ?_
     ·refine AN (f7 (len:=D.length) (p:=p) (fun i=>[.int (i:Int),.int k]) [.int 0,.int (p:Int),.int k] [.int 1,.int k] ple ?_ ?_ ?_ N (by omega)) ?_
      ·intro _ self;simp only [PXb,PXc,PXn,AB,Ak]
      ·intro i self hi;have hb:=pno i (Nat.zero_le _) hi;have hl2:i<D.length:=by omega
       simp only [PXb,PXc,PXn,AB,CS (show i≤1099511627776 by omega),Af hl2,AO hl2,AG,hb]
      ·intro hl2 self;have hb:=pyes hl2;simp only [PXb,PXc,PXn,AB,Af hl2,AO hl2,AG,hb]
      ·cases Nat.blt p D.length<;>rfl
     ·by_cases hp:p<D.length
      ·have f:=AGD rd hp (fun j hj=>by
        have:=pno j (Nat.zero_le _) hj
        rwa [Bool.not_eq_false'] at this) (by
        have:=pyes hp
        rwa [Bool.not_eq_true'] at this)
       have pm:((p:Int) == -1)=false:=beq_eq_false_iff_ne.2 (by omega);have e9:p+1+(D.length - (p+1))=D.length:=by omega
       simp only [PXb,vS hp,pm,CS (show p≤1099511627776 by omega)];refine AN (CV (len:=D.length - (p+1)) (fun t=>[.rows (dlN D k p t).1,.int ((dlN D k p t).2:Int),.int ((p+1+t:Nat):Int),.int k]) [.rows (dlN D k p (D.length - (p+1))).1,.int ((dlN D k p (D.length - (p+1))).2:Int),.int k] ?_ ?_ N (by omega)) ?_
       ·intro self;have fl:=(f (D.length - (p+1)) (by omega)).len;have el:(dlN D k p (D.length - (p+1))).1.length=p+1+(D.length - (p+1)):=by omega
        simp only [PXb,PXc,PXn,AB,el,Ak]
       ·intro t self ht;obtain ⟨f1,f2,f3,f4,f5⟩:=f t (by omega);have hj:p+1+t<(dlN D k p t).1.length:=by omega
        have hi:(dlN D k p t).2<(dlN D k p t).1.length:=by omega
        have rl:=(f5 _ (fi hi)).1;have rj:=(f5 _ (fi hj)).1;have e:dlN D k p (t+1)=cond (pvI (AA (AE (dlN D k p t).1 (p+1+t)) 1)==k) ((dlN D k p t).1.set (dlN D k p t).2 (Fz (AE (dlN D k p t).1 (p+1+t))),(dlN D k p t).2+1) (dlN D k p t):=rfl;have pf:BB (AE (dlN D k p t).1 (dlN D k p t).2) 0 (Fz (AE (dlN D k p t).1 (p+1+t)))=Fz (AE (dlN D k p t).1 (p+1+t)):=yt (by rw [rl];rfl);rw [e];generalize dlN D k p t=q at *
        simp only [PXb,PXc,PXn,AB,Af hj,AO hj,AO hi,CS (show p+1+t≤1099511627776 by omega),CS (show q.2≤1099511627776 by omega),AG,Int.toNat_natCast];cases pvI (AA (AE q.1 (p+1+t)) 1)==k with
        | false=>rfl
        | true =>
         refine congrArg self ?_;refine congrArg (fun z:Rows=>([Leaf.rows z,.int ((q.2+1:Nat):Int),.int ((p+1+t+1:Nat):Int),.int k]:List Ad)) ?_;exact congrArg (fun z=>List.set q.1 q.2 z) pf
       ·obtain ⟨f1,f2,f3,f4,f5⟩:=f (D.length - (p+1)) (by omega);rw [e9,List.take_length] at f3;generalize dlN D k p (D.length - (p+1))=q at *
        have g1:iRg (q.2:Int) (q.1.length:Int) (q.1.length:Int)=true:=by simp only [iRg,decide_eq_true_eq];omega
        have t1:∀ z:List PV,(List.drop (Int.toNat 0) (List.take q.2 q.1)++List.replicate (List.drop q.2 (List.take q.1.length q.1)).length z).take q.2=fil k D:=fun z=>by
         rw [← f3];show List.take q.2 (List.take q.2 q.1++_)=_;rw [List.take_append_of_le_length (by rw [List.length_take];omega),List.take_take,Nat.min_self]
        have t2:∀ z:List PV,iRg 0 (q.2:Int) (((List.drop (Int.toNat 0) (List.take q.2 q.1)++List.replicate (List.drop q.2 (List.take q.1.length q.1)).length z).length:Nat):Int)=true:=fun z=>by
         simp only [iRg,decide_eq_true_eq,List.length_append,List.length_drop,List.length_take];have:(Int.toNat 0)=0:=rfl;omega
        simp only [PXb,PXc,PXn,AB,g1,Int.toNat_natCast,t1,t2];rfl
      ·have pe:p=D.length:=by omega
       have fa:fil k D=D:=sI rd (fun x hx=>by
        obtain ⟨j,hj,e⟩:=List.getElem_of_mem hx;have:=pno j (Nat.zero_le _) (by omega);rw [Bool.not_eq_false'] at this;rw [← e];unfold AE at this
        rwa [zzl,zzo hj] at this)
       have pm:((-1:Int) == -1)=true:=rfl;simp only [PXb,vQ hp,pm,fa]
    ·have X4:(fil k D).length≤1000000:=Nat.le_trans (AAG k D) (by omega);generalize fil k D=X at *
     simp only [PXb];refine AN (CV (len:=X.length) (fun i=>[.rows (Av (Yu (mdA r4 X) X i)),.int (i:Int)]) [.rows (Av (Yu (mdA r4 X) X X.length))] ?_ ?_ N (by omega)) rfl
     ·intro self;simp only [PXb,PXc,PXn,AB,Ak]
     ·intro i self hi;have e:Yu (mdA r4 X) X (i+1)=qb (AE X i) (mdA r4 X i) (Yu (mdA r4 X) X i):=rfl;have ln:(Yu (mdA r4 X) X i).length≤i:=by rw [AAZ,List.length_map];exact AAa X i
      rw [e];generalize Yu (mdA r4 X) X i=xs at *
      simp only [PXb,PXc,PXn,AB,Af hi,AO hi,AG];have hnew:AD5 X i=(Nat.beq i 0 || !(pvI (AA (AE X (i - 1)) 2)==pvI (AA (AE X i) 2))):=rfl;have hmd:mdA r4 X i=(AD5 X i&&mdS r4 X (pvI (AA (AE X i) 2)) (pvI (AA (AE X i) 4))):=rfl;rw [hmd,hnew];generalize AE X i=x at *
      obtain ⟨pa1,pa2⟩:=AE9 (pvI (AA x 4)) xs;refine Le (v:=.int (cond (Nat.blt (FI (pvI (AA x 4)) xs) xs.length) (FI (pvI (AA x 4)) xs:Int) (-1))::Fz x) ?_ ?_
      ·refine AN (AFc hN (show xs.length≤1000000 by omega) (b:=pvI (AA x 4)) (J:=AEl x) ?_ ?_) ?_
       ·intro self;simp only [PXb,PXc,PXn,AB,PXv,Ak];rfl
       ·intro j self hj;simp only [PXb,PXc,PXn,AB,PXw,CS (show j≤1099511627776 by omega),Af (show j<(Av xs).length by rw [OU];exact hj),AO (show j<(Av xs).length by rw [OU];exact hj),AEl]
       ·cases Nat.blt (FI (pvI (AA x 4)) xs) xs.length<;>rfl
      ·refine Le (v:=[.rows (Av (dK (pvI (AA x 4)) xs)),.int (FI (pvI (AA x 4)) xs:Int)]) ?_ ?_
       ·have ple:=Rf (fun j=>(bln xs j).p==pvI (AA x 4)) xs.length 0;rw [Nat.zero_add] at ple;change FI (pvI (AA x 4)) xs≤xs.length at ple;unfold dK;simp only [PXb,PXc,PXn,AB,Fz];generalize FI (pvI (AA x 4)) xs=q at *
        by_cases hq:q<xs.length
        ·have q0:iLt (q:Int) 0=false:=by simp only [iLt,decide_eq_false_iff_not];omega
         simp only [vS hq,cond_true,q0,cond_false]
        ·obtain rfl:q=xs.length:=by omega
         have q0:iLt (-1) 0=true:=rfl;have sm:iSm ((xs.length+1:Nat):Int) 56=true:=DL (by omega) (by omega);have w1:IntKind.i64.wrap (((xs.length+1:Nat):Int) - 1)=(xs.length:Int):=by rw [Bv (by omega) (by omega)];omega
         simp only [vQ hq,cond_false,q0,cond_true,OU,List.length_append,List.length_cons,List.length_nil,Nat.zero_add,sm,w1,PXx];rfl
       ·unfold qb;generalize dK (pvI (AA x 4)) xs=ys at *
        generalize FI (pvI (AA x 4)) xs=q at *
        have iq:iIn (q:Int) ((Av ys).length:Int)=true:=by rw [OU];exact AO pa1
        have bs:=fun s=>AFG pa1 s
        have hz:((i:Int)==0)=Nat.beq i 0:=by
         cases i with
         | zero=>rfl
         | succ i=>exact beq_eq_false_iff_ne.2 (by omega)
        have hw:Nat.beq i 0=false→IntKind.i64.wrap ((i:Int) - 1)=((i - 1:Nat):Int)∧iIn ((i - 1:Nat):Int) (X.length:Int)=true:=fun h=>by
         have:i≠0:=fun e=>by rw [e] at h;cases h
         exact ⟨by rw [Bv (by omega) (by omega)];omega,AO (by omega)⟩
        have fin:∀ {K:Option (List PV)} {y z:BL},K=self [.rows (Av (ys.set q y)),.int ((i+1:Nat):Int)]→y=z→K=self [.rows (Av (ys.set q z)),.int ((i+1:Nat):Int)]:=fun {K y z} h e=>by rw [h,e]
        unfold blX;have wi:IntKind.i64.wrap ((i:Int)+1)=((i+1:Nat):Int):=CS (show i≤1099511627776 by omega);cases hn:Nat.beq i 0 with
        | true =>
         cases hct:pvB (AA x 26)<;>cases hwk:pvB (AA x 28)<;>cases ht2:pvI (AA x 8)==2<;>cases ht3:pvI (AA x 8)==3<;>simp only [PXb,PXc,PXn,AB,Fz,iq,PXx,PXw,Int.toNat_natCast,bs,List.set_set,hct,hwk,ht2,ht3,hz,hn,wi]<;>(refine Le (Vp hN X4) ?_;cases mdS r4 X (pvI (AA x 2)) (pvI (AA x 4))<;>rfl)
        | false =>
         obtain ⟨w1,w2⟩:=hw hn;cases ho:pvI (AA (AE X (i - 1)) 2)==pvI (AA x 2) with
         | true =>
          cases hct:pvB (AA x 26)<;>cases hwk:pvB (AA x 28)<;>cases ht2:pvI (AA x 8)==2<;>cases ht3:pvI (AA x 8)==3<;>simp only [PXb,PXc,PXn,AB,Fz,iq,PXx,PXw,Int.toNat_natCast,bs,List.set_set,hct,hwk,ht2,ht3,hz,hn,wi,w1,w2,ho]<;>rfl
         | false =>
          cases hct:pvB (AA x 26)<;>cases hwk:pvB (AA x 28)<;>cases ht2:pvI (AA x 8)==2<;>cases ht3:pvI (AA x 8)==3<;>simp only [PXb,PXc,PXn,AB,Fz,iq,PXx,PXw,Int.toNat_natCast,bs,List.set_set,hct,hwk,ht2,ht3,hz,hn,wi,w1,w2,ho]<;>(refine Le (Vp hN X4) ?_;cases mdS r4 X (pvI (AA x 2)) (pvI (AA x 4))<;>rfl)
theorem AGI:jA jX jb 1=(Av [⟨2,1,0,5,0,1,0⟩],0):=by kernel_rfl
theorem AGA:Hw 4194304 [.int 2,.int 1,.int 0,.int 5,.int 0,.int 1,.int 0,.int 4]=some [.str ⟨#[48,46,49,45,48,45,53,45,48]⟩,.int 0]:=by kernel_rfl
theorem AF2:E3 4194304 [.int 2,.int 1,.int 0,.int 5,.int 0,.int 1,.int 0,.int 4]=some [.int 20,.int 1,.int 0]:=by kernel_rfl
set_option maxHeartbeats 2000000 in
theorem yo:Mu 4194304 []=some [.bool true]:=by
 have hs:jX.name.size≤1048576:=by decide
 have hl:jb.length≤1000000:=by decide
 have hN:2097152<4194304:=by omega
 have k1:C0 4194304 (jX.ls++[.rows jb,.int 1])=some [.rows (jA jX jb 1).1,.int (jA jX jb 1).2]:=jk hN hs (Nat.zero_le _) hl;rw [AGI] at k1;obtain ⟨xs,hxs⟩:∃ xs:List BL,xs=[⟨2,1,0,5,0,1,0⟩]:=⟨_,rfl⟩;rw [← hxs] at k1;have i1:iIn 0 ((Av xs).length:Int)=true:=by rw [hxs];rfl
 have i2:(((Av xs).length:Int)==1)=true:=by rw [hxs];rfl
 have z0:(0:Int).toNat=0:=rfl;have e0:pvI (AG (Av xs) 0 0)=2:=by rw [hxs];rfl
 have e1:pvI (AG (Av xs) 0 1)=1:=by rw [hxs];rfl
 have e2:pvI (AG (Av xs) 0 2)=0:=by rw [hxs];rfl
 have e3:pvI (AG (Av xs) 0 3)=5:=by rw [hxs];rfl
 have e4:pvI (AG (Av xs) 0 4)=0:=by rw [hxs];rfl
 have e5:pvI (AG (Av xs) 0 5)=1:=by rw [hxs];rfl
 have e6:pvI (AG (Av xs) 0 6)=0:=by rw [hxs];rfl
 show Ro (std (En 4194304) 4194304) (xOf [])=_;simp only [Ro,Sx,V9,TA,Zb,ei,lq9,std,xOf,PXb,AGY,AEy];refine Le k1 ?_;simp only [PXb,PXc,PXn,AB,Nat.reduceAdd,z0,i1,i2,e0,e1,e2,e3,e4,e5,e6];have cb:(!(0:Int)==0||(!(2:Int)==2||(!(1:Int)==1||(!(0:Int)==0||(!(5:Int)==5||(!(0:Int)==0||(!(1:Int)==1 || !(0:Int)==0)))))))=false:=by decide
 rw [cb,cond_false];refine Le AGA ?_;simp only [PXb,PXc,PXn,AB,Nat.reduceAdd,z0,i1,i2,e0,e1,e2,e3,e4,e5,e6];refine Le AF2 ?_;simp only [PXb,PXc,PXn,AB,beq_self_eq_true]
def bkN (same wk:Nat→Bool):Nat→Nat
 | 0=>0
 | t+1=>cond (same t) (cond (wk t) (bkN same wk t+1) 0) (bkN same wk t)
theorem AEh (same wk:Nat→Bool):∀ t,bkN same wk t≤t
 | 0=>Nat.le_refl _
 | t+1=>by
  have:=AEh same wk t;unfold bkN;cases same t
  ·exact Nat.le_succ_of_le this
  ·cases wk t
   ·exact Nat.zero_le _
   ·exact Nat.succ_le_succ this
theorem xm {same same' wk:Nat→Bool}:∀ t,(∀ j,j<t→same j=same' j)→bkN same wk t=bkN same' wk t
 | 0,_=>rfl
 | t+1,h=>by
  unfold bkN;rw [h t (Nat.lt_succ_self t),xm t (fun j hj=>h j (Nat.lt_succ_of_lt hj))]
theorem jG {T : Nat} {same wk : Nat → Bool} {F : (List Ad → Option (List PV)) → List PV → Option (List PV)}
    (h0:∀ (n:Nat) self,F self [.int (n:Int),.int (-1)]=some [.int (n:Int),.int (-1)])
    (h1:∀ (n t:Nat) self,t<T→n≤T→F self [.int (n:Int),.int (t:Int)]=cond (same t) (cond (wk t) (self [.int ((n+1:Nat):Int),.int ((t:Int) - 1)]) (some [.int (n:Int),.int (t:Int)])) (self [.int (n:Int),.int ((t:Int) - 1)])) :
    ∀ (t n f:Nat),n+t≤T→t<f→∃ z,DU F f [.int (n:Int),.int ((t:Int) - 1)]=some [.int ((n+bkN same wk t:Nat):Int),.int z]
  | 0,n,f,hn,hf=>by
    obtain ⟨f,rfl⟩:∃ m,f=m+1:=⟨f - 1,by omega⟩;exact ⟨-1,h0 n _⟩
  | t+1,n,f,hn,hf=>by
    obtain ⟨f,rfl⟩:∃ m,f=m+1:=⟨f - 1,by omega⟩;have e:((t+1:Nat):Int) - 1=(t:Int):=by omega
    rw [e];have h2:=h1 n t (fun ls=>DU F f (ls.map Leaf.pv)) (by omega) (by omega);show ∃ z,F _ _=_;rw [h2];unfold bkN;cases same t with
    | false =>
      obtain ⟨z,hz⟩:=jG h0 h1 t n f (by omega) (by omega);exact ⟨z,hz⟩
    | true =>
      cases wk t with
      | false=>exact ⟨t,rfl⟩
      | true =>
        obtain ⟨z,hz⟩:=jG h0 h1 t (n+1) f (by omega) (by omega);refine ⟨z,?_⟩;simp only [cond_true];rw [show n+(bkN same wk t+1)=n+1+bkN same wk t by omega];exact hz
theorem ACe {T : Nat} {same wk : Nat → Bool} {F : (List Ad → Option (List PV)) → List PV → Option (List PV)} {k1 k2 : List PV → Option (List PV)} {g : Option (List PV)} {i f : Nat} (hi : i < T) (hf : T < f)
    (h0:∀ (n:Nat) self,F self [.int (n:Int),.int (-1)]=some [.int (n:Int),.int (-1)])
    (h1:∀ (n t:Nat) self,t<T→n≤T→F self [.int (n:Int),.int (t:Int)]=cond (same t) (cond (wk t) (self [.int ((n+1:Nat):Int),.int ((t:Int) - 1)]) (some [.int (n:Int),.int (t:Int)])) (self [.int (n:Int),.int ((t:Int) - 1)]))
    (hk:∀ z:Int,(k1 [.int (bkN same wk (i+1):Int),.int z]).bind k2=g):((DU F f [.int 0,.int (i:Int)]).bind k1).bind k2=g:=by
  obtain ⟨z,hz⟩:=jG h0 h1 (i+1) 0 f (by omega) (by omega);rw [show ((i+1:Nat):Int) - 1=(i:Int) by omega,Nat.zero_add] at hz;have hz:DU F f [.int 0,.int (i:Int)]=some [.int (bkN same wk (i+1):Int),.int z]:=hz;rw [hz];exact hk z
def hSd (z:List Int) (D:Rows) (j:Nat):Int:=z.getD (pvI (AG D j 1)).toNat 0
def X0 (z:List Int) (D:Rows) (i j:Nat):Bool:=pvI (AG D j 4)==pvI (AG D i 4)&&hSd z D j==hSd z D i
def hWk (D:Rows) (j:Nat):Bool:=pvB (AG D j 28)
def RA (z:List Int) (D:Rows) (i:Nat):Nat:=bkN (X0 z D i) (hWk D) (i+1)
def AEU (z:List Int) (D:Rows) (i:Nat):List PV:=[.int 5,.int (pvI (AG D i 4)),.int (RA z D i:Int),.int (pvI (AG D i 0))]
def K8 (z:List Int) (D:Rows):Nat→Rows
 | 0=>[]
 | i+1=>cond (iLe 3 (RA z D i:Int)) (K8 z D i++[AEU z D i]) (K8 z D i)
theorem ja (z:List Int) (D:Rows):∀ i,(K8 z D i).length≤i
 | 0=>Nat.le_refl _
 | i+1=>by
  have:=ja z D i;unfold K8;cases iLe 3 (RA z D i:Int)
  ·exact Nat.le_succ_of_le this
  ·rw [cond_true,List.length_append,List.length_singleton];omega
def ADq (z:List Int) (D:Rows):Prop:=∀ j,j<D.length→∃ k:Nat,k<z.length∧pvI (AG D j 1)=(k:Int)
theorem wx {r:Rul} {L:Rows} (hc:Ca r L=0):∀ n,n≤L.length→∀ x,x∈L6 L n 0 (Ao r).1 []→∃ a:Nat,a<n∧((evR L a).kind==4)=true∧pvI (AA x 0)=(a:Int)∧pvI (AA x 1)=((opn L a - 1:Nat):Int)∧1≤opn L a∧pvB (AA x 28)=(AH r (evR L a).ball).wicket
 | 0,_,x,hx=>absurd hx List.not_mem_nil
 | n+1,hn,x,hx=>by
  have ih:=wx hc n (by omega);rw [pD,Nat.zero_add] at hx;cases hk:(evR L n).kind==4 with
  | false =>
   rw [hk,cond_false] at hx;obtain ⟨a,h1,h2⟩:=ih x hx;exact ⟨a,by omega,h2⟩
  | true =>
   rw [hk,cond_true] at hx
   rcases List.mem_append.1 hx with hx | hx
   ·obtain ⟨a,h1,h2⟩:=ih x hx;exact ⟨a,by omega,h2⟩
   ·have bf:=AFt hc (show n<L.length by omega) hk;rw [List.mem_singleton.1 hx];refine ⟨n,Nat.lt_succ_self n,hk,rfl,bf.inn,bf.one,?_⟩;show (AH (stM L n 0 (Ao r).1).rules (evR L n).ball).wicket=_;rw [bf.rules]
theorem zZ {r:Rul} {L:Rows} (hc:Ca r L=0):Bs r L=L6 L L.length 0 (Ao r).1 []:=by
 obtain ⟨h1,h2,h3,h4,h5⟩:=Sa hc;unfold Bs;rw [h1];obtain ⟨j,j1,j2,j3,j4⟩:=WE L L.length 0 (Ao r).1;show MD L L.length 0 (Ao r).1 []=_;rw [j3 []]
 rcases j4 with ⟨j5,_⟩ | ⟨j5,j6,j7⟩
 ·rw [j5]
 ·have hh:=ZF L.length 0 _ h4 j j5;rw [hh] at j6;cases j6
theorem AF0 {D:Rows} {j:Nat} (h:j<D.length):AE D j∈D:=by
 unfold AE;rw [zzl,zzo h];exact List.getElem_mem h
theorem oP {r:Rul} {L:Rows} (hc:Ca r L=0) (g:Nat→Int):ADq (zs g (opn L L.length)) (Bs r L):=fun j hj=>by
 rw [zZ hc] at hj ⊢;obtain ⟨a,h1,h2,h3,h4,h5,h6⟩:=wx hc L.length (Nat.le_refl _) _ (AF0 hj);have om:=bQ L (show a≤L.length by omega);exact ⟨opn L a - 1,by rw [xT];omega,h4⟩
def gD (r:Rul) (L:Rows):Rows×Int:=cond (Ca r L==0) (K8 (zs (Im (Fe L) (B6 L L.length)) (opn L L.length)) (Bs r L) (Bs r L).length,0) ([],Ca r L)
set_option maxHeartbeats 8000000 in
theorem oY {N:Nat} {r8:Bool} {r0:ByteArray} {r13:Rows} {L:Rows} (hN:2097152<N) (hs:r0.size≤1048576) (h13:r13.length≤1048576) (hL:L.length≤1000000):Gf N [.str r0,.int r1,.int r2,.int r3,.int r4,.int r5,.int r6,.int r7,.bool r8,.int r9,.int r10,.int r11,.int r12,.rows r13,.rows L]=some [.rows (gD (⟨r0,r1,r2,r3,r4,r5,r6,r7,r8,r9,r10,r11,r12,r13⟩:Rul) L).1,.int (gD (⟨r0,r1,r2,r3,r4,r5,r6,r7,r8,r9,r10,r11,r12,r13⟩:Rul) L).2]:=by
 show GS (std (CQ N) N) (xOf _)=_;have hl:L.length≤1048576:=by omega
 simp only [GS,UH,Vn,Ut,lq9,std,xOf,PXb,zd hN hs h13 hl,AA8 hN hs h13 hl,zV hN hl,WX,PXc];unfold gD;cases hc:Ca (⟨r0,r1,r2,r3,r4,r5,r6,r7,r8,r9,r10,r11,r12,r13⟩:Rul) L==0 with
 | false=>rfl
 | true =>
  have c0:=beq_iff_eq.1 hc;have hd:=oP c0 (Im (Fe L) (B6 L L.length));have pl:=UW (⟨r0,r1,r2,r3,r4,r5,r6,r7,r8,r9,r10,r11,r12,r13⟩:Rul) L;generalize Bs (⟨r0,r1,r2,r3,r4,r5,r6,r7,r8,r9,r10,r11,r12,r13⟩:Rul) L=D at *
  generalize zs (Im (Fe L) (B6 L L.length)) (opn L L.length)=z at *
  simp only [PXb,Bool.not_true,cond_false,cond_true];refine AN (CV (len:=D.length) (fun i=>[.rows (K8 z D i),.int (i:Int)]) [.rows (K8 z D D.length)] ?_ ?_ N (by omega)) rfl
  ·intro self;simp only [PXb,PXc,PXn,AB,Ak]
  ·intro i self hi;have hlen:=ja z D i;have h3:iSm ((K8 z D i).length+1:Nat) 32=true:=DL (by omega) (by omega);obtain ⟨ki,hki,eki⟩:=hd i hi;simp only [PXb,PXc,PXn,AB,CS (show i≤1099511627776 by omega),Af hi,AO hi];refine ACe (T:=D.length) (same:=X0 z D i) (wk:=hWk D) hi (by omega) ?_ ?_ ?_
   ·intro n self;rfl
   ·intro n t self ht hn;obtain ⟨kt,hkt,ekt⟩:=hd t ht;have z1:iIn (kt:Int) (z.length:Int)=true:=AO hkt;have z2:iIn (ki:Int) (z.length:Int)=true:=AO hki;have l0:iLe 0 (t:Int)=true:=by simp only [iLe,decide_eq_true_eq];omega
    have w1:IntKind.i64.wrap ((t:Int) - 1)=(t:Int) - 1:=Bv (by omega) (by omega);have q1:pvI (AG (Ii z) kt 0)=hSd z D t:=by
     have:=AD3 z kt;unfold atI at this;rw [this];unfold hSd;rw [ekt];rfl
    have q2:pvI (AG (Ii z) ki 0)=hSd z D i:=by
     have:=AD3 z ki;unfold atI at this;rw [this];unfold hSd;rw [eki];rfl
    simp only [PXb,PXc,PXn,AB,l0,AO ht,ekt,eki,Int.toNat_natCast,cm,z1,z2,q1,q2,w1,CS (show n≤1099511627776 by omega)];unfold X0 hWk;cases pvI (AG D t 4)==pvI (AG D i 4)<;>cases hSd z D t==hSd z D i<;>cases pvB (AG D t 28)<;>rfl
   ·intro y;simp only [PXb,PXc,PXn,AB];show _=self [.rows (cond (iLe 3 (RA z D i:Int)) (K8 z D i++[AEU z D i]) (K8 z D i)),.int ((i+1:Nat):Int)];have e:(bkN (X0 z D i) (hWk D) (i+1):Int)=(RA z D i:Int):=rfl;rw [e];cases iLe 3 (RA z D i:Int) with
    | false=>rfl
    | true =>
     simp only [PXb,PXc,PXn,AB,List.length_append,List.length_cons,List.length_nil,Nat.reduceAdd,h3];rfl
def DY (z:List Int) (D:Rows) (j:Nat):List Int:=[IntKind.i64.wrap (3 - hSd z D j),pvI (AG D j 4)]
def FE (z:List Int) (D:Rows):Nat→Rows
 | 0=>[]
 | t+1=>cond (hWk D t) (Dp 2 (DY z D t) (B8 2 (DY z D t) (FE z D t)+1) (FE z D t)) (Dp 2 (DY z D t) 0 (FE z D t))
theorem fY (z:List Int) (D:Rows):∀ t,jc 2 (FE z D t)
 | 0=>fun x hx=>absurd hx List.not_mem_nil
 | t+1=>by
  have ih:=fY z D t;unfold FE;cases hWk D t
  ·exact Xs rfl ih
  ·exact Xs rfl ih
theorem mw (z:List Int) (D:Rows) (k:List Int):∀ t,B8 2 k (FE z D t)=(bkN (fun j=>k==DY z D j) (hWk D) t:Int)
 | 0=>rfl
 | t+1=>by
  have ih:=mw z D k t;have rw0:=fY z D t;unfold FE bkN;cases hk:k==DY z D t with
  | true =>
   have e:=beq_iff_eq.1 hk;rw [← e];cases hWk D t with
   | true =>
    rw [cond_true,tT (by rw [e];rfl) rw0,ih];rfl
   | false =>
    rw [cond_false,tT (by rw [e];rfl) rw0];rfl
  | false =>
   cases hWk D t with
   | true =>
    rw [cond_true,qf (show (DY z D t).length=2 from rfl) rw0 hk,ih];rfl
   | false =>
    rw [cond_false,qf (show (DY z D t).length=2 from rfl) rw0 hk,ih];rfl
theorem AEW {z:List Int} {D:Rows} (hz:∀ v,v∈z→v=1∨v=2) (hd:ADq z D) {i j:Nat} (hi:i<D.length) (hj:j<D.length):(DY z D i==DY z D j)=X0 z D i j:=by
 have sd:∀ {a:Nat},a<D.length→hSd z D a=1∨hSd z D a=2:=fun {a} ha=>by
  obtain ⟨k,hk,e⟩:=hd a ha;unfold hSd;rw [e,Int.toNat_natCast,zzl,zzo hk];exact hz _ (List.getElem_mem hk)
 unfold DY X0;have w:∀ v:Int,v=1∨v=2→IntKind.i64.wrap (3 - v)=3 - v:=fun v hv=>Bv (by omega) (by omega)
 rw [w _ (sd hi),w _ (sd hj)];rw [Bool.eq_iff_iff];simp only [beq_iff_eq,zzk,List.cons.injEq,and_true];constructor
 ·intro ⟨h1,h2⟩;exact ⟨h2.symm,by omega⟩
 ·intro ⟨h1,h2⟩;exact ⟨by omega,h1.symm⟩
theorem AD0 {z:List Int} {D:Rows} (hz:∀ v,v∈z→v=1∨v=2) (hd:ADq z D) {i:Nat} (hi:i<D.length):B8 2 (DY z D i) (FE z D (i+1))=(RA z D i:Int):=by
 rw [mw];unfold RA;congr 1;exact xm (i+1) (fun j hj=>AEW hz hd hi (by omega))
theorem AFm {z:List Int} {D:Rows} {i:Nat} (h:hWk D i=false):RA z D i=0:=by
 unfold RA bkN;have e:X0 z D i i=true:=by unfold X0;rw [beq_self_eq_true,beq_self_eq_true];rfl
 rw [e,h];rfl
theorem ADz {n:Nat} {k:List Int} {v:Int} {L:Rows} (hk:k.length=n):AZ n k L<(Dp n k v L).length:=by
 unfold Dp;cases hb:Nat.blt (AZ n k L) L.length with
 | true =>
  have hm:AZ n k L<L.length:=Nat.le_of_ble_eq_true hb;rw [cond_true,List.length_set];exact hm
 | false =>
  have:=U8 n k L;rw [cond_false,List.length_append,List.length_singleton];omega
theorem ABG {n:Nat} {k:List Int} {u v:Int} {L:Rows} (hk:k.length=n) (hr:jc n L):(Dp n k u L).set (AZ n k L) (BB (AE (Dp n k u L) (AZ n k L)) n [.int v])=Dp n k v L:=by
 unfold Dp;cases hb:Nat.blt (AZ n k L) L.length with
 | true =>
  have hm:AZ n k L<L.length:=Nat.le_of_ble_eq_true hb;rw [cond_true,cond_true,List.set_set];congr 1;have e:AE (L.set (AZ n k L) (G6 n u (AE L (AZ n k L)))) (AZ n k L)=G6 n u (AE L (AZ n k L)):=by
   show (L.set _ _).getD _ _=_;rw [zzl,List.getElem?_set_self hm];rfl
  rw [e];show ((AE L (AZ n k L)).set n (.int u)).set n (.int v)=(AE L (AZ n k L)).set n (.int v);rw [List.set_set]
 | false =>
  have hm:¬ AZ n k L<L.length:=fun hc=>by
   have:=Nat.ble_eq_true_of_le hc;unfold Nat.blt at hb;rw [hb] at this;cases this
  have h2:AZ n k L=L.length:=by have:=U8 n k L;omega
  rw [cond_false,cond_false,h2];have e:AE (L++[I0 k u]) L.length=I0 k u:=by
   unfold AE;rw [zzl,List.getElem?_append_right (Nat.le_refl _),Nat.sub_self];rfl
  rw [e,List.set_append_right _ _ (Nat.le_refl _),Nat.sub_self];show L++[(I0 k u).set n (.int v)]=_;congr 2;unfold I0;rw [List.set_append_right _ _ (by rw [List.length_map];omega),List.length_map,hk,Nat.sub_self];rfl
theorem ADy {r:Rul} {L:Rows} (c0:Ca r L=0):zs (dA (Fe L) (B6 L L.length)) (opn L L.length)=zs (Im (Fe L) (B6 L L.length)) (opn L L.length):=by
 unfold zs;refine List.map_congr_left (fun k hk=>?_);obtain ⟨_,q1,_,_⟩:=qk c0 (List.mem_range.1 hk);exact AAc (by rcases q1 with e | e<;>rw [e]<;>decide) _ k
theorem AES {r:Rul} {L:Rows} (c0:Ca r L=0):∀ v,v∈zs (Im (Fe L) (B6 L L.length)) (opn L L.length)→v=1∨v=2:=fun v hv=>by
 unfold zs at hv;obtain ⟨k,hk,e⟩:=List.mem_map.1 hv;obtain ⟨_,q1,_,_⟩:=qk c0 (List.mem_range.1 hk);rw [← e];unfold Im
 rcases q1 with e | e<;>rw [e]
 ·cases cond (B6 L L.length&&((k:Int)==2||(k:Int)==3)) ((k:Int)==2) ((k:Int).tmod 2==1)
  ·exact .inl rfl
  ·exact .inr rfl
 ·cases cond (B6 L L.length&&((k:Int)==2||(k:Int)==3)) ((k:Int)==2) ((k:Int).tmod 2==1)
  ·exact .inr rfl
  ·exact .inl rfl
set_option maxHeartbeats 8000000 in
theorem ej {N:Nat} {r8:Bool} {r0:ByteArray} {r13:Rows} {L:Rows} (hN:2097152<N) (hs:r0.size≤1048576) (h13:r13.length≤1048576) (hL:L.length≤1000000):D0 N [.str r0,.int r1,.int r2,.int r3,.int r4,.int r5,.int r6,.int r7,.bool r8,.int r9,.int r10,.int r11,.int r12,.rows r13,.rows L]=some [.rows (gD (⟨r0,r1,r2,r3,r4,r5,r6,r7,r8,r9,r10,r11,r12,r13⟩:Rul) L).1,.int (gD (⟨r0,r1,r2,r3,r4,r5,r6,r7,r8,r9,r10,r11,r12,r13⟩:Rul) L).2]:=by
 show D2 (std (Bg N) N) (xOf _)=_;have hl:L.length≤1048576:=by omega
 simp only [D2,Qg,RQ,Oi,lq9,std,xOf,PXb,kw hN hs h13 hl,dG hN hs h13 hl,vC hN hl,WX,PXc];unfold gD;cases hc:Ca (⟨r0,r1,r2,r3,r4,r5,r6,r7,r8,r9,r10,r11,r12,r13⟩:Rul) L==0 with
 | false=>rfl
 | true =>
  have c0:=beq_iff_eq.1 hc;have hd:=oP c0 (Im (Fe L) (B6 L L.length));have hz:=AES c0;have pl:=UW (⟨r0,r1,r2,r3,r4,r5,r6,r7,r8,r9,r10,r11,r12,r13⟩:Rul) L;rw [ADy c0];generalize Bs (⟨r0,r1,r2,r3,r4,r5,r6,r7,r8,r9,r10,r11,r12,r13⟩:Rul) L=D at *
  generalize zs (Im (Fe L) (B6 L L.length)) (opn L L.length)=z at *
  simp only [PXb,Bool.not_true,cond_false,cond_true];refine AN (CV (len:=D.length) (fun i=>[.rows (FE z D i),.rows (K8 z D i),.int (i:Int)]) [.rows (FE z D D.length),.rows (K8 z D D.length)] ?_ ?_ N (by omega)) rfl
  ·intro self;simp only [PXb,PXc,PXn,AB,Ak]
  ·intro i self hi;have hlen:=ja z D i;have h3:iSm ((K8 z D i).length+1:Nat) 32=true:=DL (by omega) (by omega);obtain ⟨ki,hki,eki⟩:=hd i hi;have z2:iIn (ki:Int) (z.length:Int)=true:=AO hki;have q2:pvI (AG (Ii z) ki 0)=hSd z D i:=by
    have:=AD3 z ki;unfold atI at this;rw [this];unfold hSd;rw [eki];rfl
   have mr:=fY z D i;have kl:(DY z D i).length=2:=rfl;simp only [PXb,PXc,PXn,AB,CS (show i≤1099511627776 by omega),Af hi,AO hi,eki,Int.toNat_natCast,cm,z2,q2];have ek:[IntKind.i64.wrap (3 - hSd z D i),pvI (AG D i 4)]=DY z D i:=rfl;have gi:B8 2 (DY z D i) (FE z D i)=(bkN (fun j=>DY z D i==DY z D j) (hWk D) i:Int):=mw z D (DY z D i) i;have gle:=AEh (fun j=>DY z D i==DY z D j) (hWk D) i;have wr1:IntKind.i64.wrap (B8 2 (DY z D i) (FE z D i)+1)=B8 2 (DY z D i) (FE z D i)+1:=by rw [gi];exact Bv (by omega) (by omega)
   have st:=ABG (u:=B8 2 (DY z D i) (FE z D i)) (v:=B8 2 (DY z D i) (FE z D i)+1) kl mr;have ib:iIn (AZ 2 (DY z D i) (FE z D i):Int) (List.length (Dp 2 (DY z D i) (B8 2 (DY z D i) (FE z D i)) (FE z D i)):Int)=true:=AO (ADz kl);have num:=AD0 hz hd hi;rw [ek,wr1,st,ib];cases hw:pvB (AG D i 28) with
   | false =>
    have e1:FE z D (i+1)=Dp 2 (DY z D i) 0 (FE z D i):=by
     show cond (hWk D i) _ _=_;rw [show hWk D i=false from hw,cond_false]
    have e2:K8 z D (i+1)=K8 z D i:=by
     show cond (iLe 3 (RA z D i:Int)) _ _=_;rw [AFm hw];rfl
    rw [e1,e2];rfl
   | true =>
    have e1:FE z D (i+1)=Dp 2 (DY z D i) (B8 2 (DY z D i) (FE z D i)+1) (FE z D i):=by
     show cond (hWk D i) _ _=_;rw [show hWk D i=true from hw,cond_true]
    rw [← e1,num];show _=self [.rows (FE z D (i+1)),.rows (cond (iLe 3 (RA z D i:Int)) (K8 z D i++[AEU z D i]) (K8 z D i)),.int ((i+1:Nat):Int)];cases iLe 3 (RA z D i:Int) with
    | false=>rfl
    | true =>
     simp only [Bool.not_true,cond_false,cond_true,List.length_append,List.length_cons,List.length_nil,Nat.reduceAdd,h3];rfl
theorem fL {N:Nat} {L:Rows} (hN:2097152<N) (h:L.length≤1048576):F3 N [.rows L,.rows L]=some [.bool true]:=by
 show F4 (std (OV N) N) (xOf _)=_;simp only [F4,lq9,std,xOf,PXb,PXm];refine AN (CV (len:=L.length) (fun i=>[.int (i:Int)]) [.int 1] ?_ ?_ N (by omega)) ?_
 ·intro self;simp only [PXb,PXc,PXn,AB,Ak]
 ·intro i self hi;simp only [PXb,PXc,PXn,PXm,Nat.reduceAdd,Int.reduceBEq,Aa (show i≤1099511627776 by omega),Af hi,AO hi];rfl
 ·simp only [PXb,PXc,PXn,PXm,Nat.reduceAdd,Int.reduceBEq]
set_option maxHeartbeats 4000000 in
theorem Y2 {N:Nat} {r8:Bool} {r0:ByteArray} {r13:Rows} {L:Rows} (ha:Mu N []=some [.bool true]) (hN:2097152<N) (hs:r0.size≤1048576) (h13:r13.length≤1048576):DD N [.str r0,.int r1,.int r2,.int r3,.int r4,.int r5,.int r6,.int r7,.bool r8,.int r9,.int r10,.int r11,.int r12,.rows r13,.rows L]=some [.bool true]:=by
 show DB (std (A4 N) N) (xOf _)=_;have l:(cut L 60).length≤1000000:=Nat.le_trans (ADH L 60) (show 60≤1000000 by omega);simp only [DB,Nu,PE,I7,LP,I2,lq9,std,xOf,PXb,ha,ACT,ej hN hs h13 l,oY hN hs h13 l];have hl:(gD (⟨r0,r1,r2,r3,r4,r5,r6,r7,r8,r9,r10,r11,r12,r13⟩:Rul) (cut L 60)).1.length≤1048576:=by
  have c60:=AGH L;have pl:=UW (⟨r0,r1,r2,r3,r4,r5,r6,r7,r8,r9,r10,r11,r12,r13⟩:Rul) (cut L 60);unfold gD;cases Ca (⟨r0,r1,r2,r3,r4,r5,r6,r7,r8,r9,r10,r11,r12,r13⟩:Rul) (cut L 60)==0 with
  | false=>exact Nat.zero_le _
  | true=>exact Nat.le_trans (ja _ _ _) (by omega)
 simp only [fL hN hl,PXb,PXc,PXn,PXm,Nat.reduceAdd,Int.reduceBEq,beq_self_eq_true]
end Go.Px
end
section
namespace Go.Proofs
open Go.Shelf
def Tryz.lays246_ren:Go.Shelf.Ren:=⟨fun | 246=>91 | 283=>111 | 284=>112 | 285=>113 | 286=>114 | 129=>136 | 317=>135 | 318=>137 | 319=>138 | 320=>139 | 337=>162 | 338=>163 | n=>n,fun | 2=>2 | 3=>3 | 9=>9 | 4=>4 | 171=>158 | 0=>0 | 53=>146 | 37=>161 | 5=>5 | 173=>162 | 212=>179 | 51=>180 | 20=>20 | 213=>181 | 46=>182 | 232=>209 | 233=>210 | n=>n,fun | 17=>0 | 18=>1 | 19=>2 | n=>n⟩
theorem Tryz.lays246:Go.Proofs.Lays.n246 Tryz.prog Tryz.lays246_ren:={
  mixed:=by kernel_rfl
  f129:=Tryz.func136.trans (congrArg some (by kernel_rfl))
  f246:=Tryz.func91.trans (congrArg some (by kernel_rfl))
  f283:=Tryz.func111.trans (congrArg some (by kernel_rfl))
  f284:=Tryz.func112.trans (congrArg some (by kernel_rfl))
  f285:=Tryz.func113.trans (congrArg some (by kernel_rfl))
  f286:=Tryz.func114.trans (congrArg some (by kernel_rfl))
  f317:=Tryz.func135.trans (congrArg some (by kernel_rfl))
  f318:=Tryz.func137.trans (congrArg some (by kernel_rfl))
  f319:=Tryz.func138.trans (congrArg some (by kernel_rfl))
  f320:=Tryz.func139.trans (congrArg some (by kernel_rfl))
  f337:=Tryz.func162.trans (congrArg some (by kernel_rfl))
  f338:=Tryz.func163.trans (congrArg some (by kernel_rfl))
  t0:=Tryz.underlying0
  a0:=Tryz.isAgg0
  z0:=Tryz.sizeOf0
  v0:=Tryz.zeroValue0
  t2:=Tryz.underlying2
  a2:=Tryz.isAgg2
  z2:=Tryz.sizeOf2
  v2:=Tryz.zeroValue2
  t3:=Tryz.underlying3
  a3:=Tryz.isAgg3
  z3:=Tryz.sizeOf3
  v3:=Tryz.zeroValue3
  t4:=Tryz.underlying4
  a4:=Tryz.isAgg4
  z4:=Tryz.sizeOf4
  v4:=Tryz.zeroValue4
  t5:=Tryz.underlying5
  a5:=Tryz.isAgg5
  z5:=Tryz.sizeOf5
  v5:=Tryz.zeroValue5
  t9:=Tryz.underlying9
  a9:=Tryz.isAgg9
  z9:=Tryz.sizeOf9
  v9:=Tryz.zeroValue9
  t20:=Tryz.underlying20
  a20:=Tryz.isAgg20
  z20:=Tryz.sizeOf20
  v20:=Tryz.zeroValue20
  t37:=Tryz.underlying161
  a37:=Tryz.isAgg161
  z37:=Tryz.sizeOf161
  v37:=Tryz.zeroValue161
  t46:=Tryz.underlying182
  a46:=Tryz.isAgg182
  z46:=Tryz.sizeOf182
  v46:=Tryz.zeroValue182
  t51:=Tryz.underlying180
  a51:=Tryz.isAgg180
  z51:=Tryz.sizeOf180
  v51:=Tryz.zeroValue180
  t53:=Tryz.underlying146
  a53:=Tryz.isAgg146
  z53:=Tryz.sizeOf146
  v53:=Tryz.zeroValue146
  t171:=Tryz.underlying158
  a171:=Tryz.isAgg158
  z171:=Tryz.sizeOf158
  v171:=Tryz.zeroValue158
  t173:=Tryz.underlying162
  a173:=Tryz.isAgg162
  z173:=Tryz.sizeOf162
  v173:=Tryz.zeroValue162
  t212:=Tryz.underlying179
  a212:=Tryz.isAgg179
  z212:=Tryz.sizeOf179
  v212:=Tryz.zeroValue179
  t213:=Tryz.underlying181
  a213:=Tryz.isAgg181
  z213:=Tryz.sizeOf181
  t232:=Tryz.underlying209
  a232:=Tryz.isAgg209
  z232:=Tryz.sizeOf209
  v232:=Tryz.zeroValue209
  t233:=Tryz.underlying210
  a233:=Tryz.isAgg210
  z233:=Tryz.sizeOf210
  v233:=Tryz.zeroValue210
  g17:=by kernel_rfl
  g18:=by kernel_rfl
  g19:=by kernel_rfl }
open Go.RowKit Go.Sort Go.Lib in
theorem Tryz.internal_strconv_FormatInt_10_small (i : Nat) (hi : i < 100) (w : World) :
    Calls Tryz.prog 91 #[.int .i64 i,.int .i64 10] w fun e w'=>e=.returned (.string ⟨(Lib.decDigits i).toArray⟩)∧w'=w:=Any.internal_strconv_FormatInt_10_small Tryz.lays246 i hi w
def Tryz.lays243_ren:Go.Shelf.Ren:=⟨fun | 243=>90 | 246=>91 | 283=>111 | 284=>112 | 285=>113 | 286=>114 | 129=>136 | 317=>135 | 318=>137 | 319=>138 | 320=>139 | 337=>162 | 338=>163 | n=>n,fun | 3=>3 | 9=>9 | 2=>2 | 4=>4 | 171=>158 | 0=>0 | 53=>146 | 37=>161 | 5=>5 | 173=>162 | 212=>179 | 51=>180 | 20=>20 | 213=>181 | 46=>182 | 232=>209 | 233=>210 | n=>n,fun | 17=>0 | 18=>1 | 19=>2 | n=>n⟩
theorem Tryz.lays243:Go.Proofs.Lays.n243 Tryz.prog Tryz.lays243_ren:={
  mixed:=by kernel_rfl
  f129:=Tryz.func136.trans (congrArg some (by kernel_rfl))
  f243:=Tryz.func90.trans (congrArg some (by kernel_rfl))
  f246:=Tryz.func91.trans (congrArg some (by kernel_rfl))
  f283:=Tryz.func111.trans (congrArg some (by kernel_rfl))
  f284:=Tryz.func112.trans (congrArg some (by kernel_rfl))
  f285:=Tryz.func113.trans (congrArg some (by kernel_rfl))
  f286:=Tryz.func114.trans (congrArg some (by kernel_rfl))
  f317:=Tryz.func135.trans (congrArg some (by kernel_rfl))
  f318:=Tryz.func137.trans (congrArg some (by kernel_rfl))
  f319:=Tryz.func138.trans (congrArg some (by kernel_rfl))
  f320:=Tryz.func139.trans (congrArg some (by kernel_rfl))
  f337:=Tryz.func162.trans (congrArg some (by kernel_rfl))
  f338:=Tryz.func163.trans (congrArg some (by kernel_rfl))
  t0:=Tryz.underlying0
  a0:=Tryz.isAgg0
  z0:=Tryz.sizeOf0
  v0:=Tryz.zeroValue0
  t2:=Tryz.underlying2
  a2:=Tryz.isAgg2
  z2:=Tryz.sizeOf2
  v2:=Tryz.zeroValue2
  t3:=Tryz.underlying3
  a3:=Tryz.isAgg3
  z3:=Tryz.sizeOf3
  v3:=Tryz.zeroValue3
  t4:=Tryz.underlying4
  a4:=Tryz.isAgg4
  z4:=Tryz.sizeOf4
  v4:=Tryz.zeroValue4
  t5:=Tryz.underlying5
  a5:=Tryz.isAgg5
  z5:=Tryz.sizeOf5
  v5:=Tryz.zeroValue5
  t9:=Tryz.underlying9
  a9:=Tryz.isAgg9
  z9:=Tryz.sizeOf9
  v9:=Tryz.zeroValue9
  t20:=Tryz.underlying20
  a20:=Tryz.isAgg20
  z20:=Tryz.sizeOf20
  v20:=Tryz.zeroValue20
  t37:=Tryz.underlying161
  a37:=Tryz.isAgg161
  z37:=Tryz.sizeOf161
  v37:=Tryz.zeroValue161
  t46:=Tryz.underlying182
  a46:=Tryz.isAgg182
  z46:=Tryz.sizeOf182
  v46:=Tryz.zeroValue182
  t51:=Tryz.underlying180
  a51:=Tryz.isAgg180
  z51:=Tryz.sizeOf180
  v51:=Tryz.zeroValue180
  t53:=Tryz.underlying146
  a53:=Tryz.isAgg146
  z53:=Tryz.sizeOf146
  v53:=Tryz.zeroValue146
  t171:=Tryz.underlying158
  a171:=Tryz.isAgg158
  z171:=Tryz.sizeOf158
  v171:=Tryz.zeroValue158
  t173:=Tryz.underlying162
  a173:=Tryz.isAgg162
  z173:=Tryz.sizeOf162
  v173:=Tryz.zeroValue162
  t212:=Tryz.underlying179
  a212:=Tryz.isAgg179
  z212:=Tryz.sizeOf179
  v212:=Tryz.zeroValue179
  t213:=Tryz.underlying181
  a213:=Tryz.isAgg181
  z213:=Tryz.sizeOf181
  t232:=Tryz.underlying209
  a232:=Tryz.isAgg209
  z232:=Tryz.sizeOf209
  v232:=Tryz.zeroValue209
  t233:=Tryz.underlying210
  a233:=Tryz.isAgg210
  z233:=Tryz.sizeOf210
  v233:=Tryz.zeroValue210
  g17:=by kernel_rfl
  g18:=by kernel_rfl
  g19:=by kernel_rfl }
open Go.RowKit Go.Sort Go.Lib in
theorem Tryz.internal_strconv_Itoa_small (i : Nat) (hi : i < 100) (w : World) :
    Calls Tryz.prog 90 #[.int .i64 i] w fun e w'=>e=.returned (.string ⟨(Lib.decDigits i).toArray⟩)∧w'=w:=Any.internal_strconv_Itoa_small Tryz.lays243 i hi w
end Go.Proofs
end
