/- Part 16. -/
import Derived.Test.YtefmhiojnbekpaaGreatDoorPart15
import Derived.KernelRfl
import Derived.Test.YtefmhiojnbekpaaGreatDoorPart08
set_option linter.unusedVariables false
set_option linter.unusedSimpArgs false
section
namespace Go.Px
set_option maxRecDepth 100000
theorem jE (L:Rows):∀ i,opn L i≤i
 | 0=>Nat.le_refl _
 | i+1=>by
  have:=jE L i;show opn L i+cond _ 1 0≤_;cases (evR L i).kind==2<;>simp only [cond_true,cond_false]<;>omega
def Hs (xs:List (Int×Int)) (v:Int):List (Int×Int):=cond (iLt 0 (xs.length:Int)) (xs.set (IntKind.i64.wrap ((xs.length:Int) - 1)).toNat ((pr xs (IntKind.i64.wrap ((xs.length:Int) - 1)).toNat).1,v)) xs
def B4 (L:Rows):Nat→List (Int×Int)
 | 0=>[]
 | i+1=>cond ((evR L i).kind==2) (Hs (B4 L i) (i:Int)++[((i:Int),(L.length:Int))]) (B4 L i)
theorem YX (xs:List (Int×Int)) (v:Int):(Hs xs v).length=xs.length:=by
 unfold Hs;cases iLt 0 (xs.length:Int)
 ·rfl
 ·exact List.length_set
theorem U7 (L:Rows):∀ i,(B4 L i).length=opn L i
 | 0=>rfl
 | i+1=>by
  have ih:=U7 L i;show (cond ((evR L i).kind==2) _ (B4 L i)).length=opn L i+cond ((evR L i).kind==2) 1 0;cases (evR L i).kind==2 with
  | false=>exact ih
  | true=>rw [cond_true,cond_true,List.length_append,YX,ih];rfl
theorem qx {n:Nat} (h:0<n) (h2:n≤1048576):(IntKind.i64.wrap ((n:Int) - 1)).toNat=n - 1∧iIn (IntKind.i64.wrap ((n:Int) - 1)) (n:Int)=true:=by
 rw [Bv (by omega) (by omega)];refine ⟨by omega,?_⟩;simp only [iIn,decide_eq_true_eq];omega
theorem wA {N : Nat} {L : Rows} (hN : 2097152 < N) (hL : L.length ≤ 1048576) {F : (List Ad → Option (List PV)) → List PV → Option (List PV)}
    (h0:∀ self,F self [.rows (GC (B4 L L.length)),.int (L.length:Int)]=some [.rows (GC (B4 L L.length))])
    (h1:∀ i self,i<L.length→(B4 L i).length≤1048575→F self [.rows (GC (B4 L i)),.int (i:Int)]=self [.rows (GC (B4 L (i+1))),.int (((i+1:Nat)):Int)]):DU F N [.rows (GC []),.int 0]=some [.rows (GC (B4 L L.length))]:=by
  have:=CV (F:=F) (len:=L.length) (fun i=>[.rows (GC (B4 L i)),.int (i:Int)]) [.rows (GC (B4 L L.length))] h0 (fun i self hi=>h1 i self hi (by rw [U7];have:=jE L i;omega)) N (by omega);exact this
theorem CS {i:Nat} (h:i≤1099511627776):IntKind.i64.wrap ((i:Int)+1)=((i+1:Nat):Int):=Aa h
theorem w9 {L:Rows} {i:Nat} {xs:List (Int×Int)} (hk:((evR L i).kind==2)=true) (he:B4 L i=xs) (h:iLt 0 (xs.length:Int)=true):B4 L (i+1)=xs.set (IntKind.i64.wrap ((xs.length:Int) - 1)).toNat ((pr xs (IntKind.i64.wrap ((xs.length:Int) - 1)).toNat).1,(i:Int))++[((i:Int),(L.length:Int))]:=by
 show cond ((evR L i).kind==2) (Hs (B4 L i) (i:Int)++[((i:Int),(L.length:Int))]) (B4 L i)=_;rw [hk,he];unfold Hs;rw [h];rfl
theorem tw {L:Rows} {i:Nat} {xs:List (Int×Int)} (hk:((evR L i).kind==2)=true) (he:B4 L i=xs) (h:iLt 0 (xs.length:Int)=false):B4 L (i+1)=xs++[((i:Int),(L.length:Int))]:=by
 show cond ((evR L i).kind==2) (Hs (B4 L i) (i:Int)++[((i:Int),(L.length:Int))]) (B4 L i)=_;rw [hk,he];unfold Hs;rw [h];rfl
theorem nn {L:Rows} {i:Nat} (hk:((evR L i).kind==2)=false):B4 L (i+1)=B4 L i:=by
 show cond ((evR L i).kind==2) _ (B4 L i)=_;rw [hk];rfl
set_option maxHeartbeats 1000000 in
theorem ZL {N:Nat} {L:Rows} (hN:2097152<N) (hL:L.length≤1048576):D4 N [.rows L]=some [.rows (GC (B4 L L.length))]:=by
 show Lw (std (VW N) N) (xOf _)=_;simp only [Lw,lq9,std,xOf,PXb];refine AN (wA hN hL ?_ ?_) rfl
 ·intro self;simp only [PXb,PXc,PXn,AB,Ak]
 ·intro i self hi hlen;have kk:(evR L i).kind=atI L i 0:=rfl;simp only [PXb,PXc,PXn,AB,CS (show i≤1099511627776 by omega),Af hi,AO hi,BJ,PXp,← kk];cases hk:(evR L i).kind==2 with
  | false =>
   rw [nn hk];rfl
  | true =>
   simp only [PXb,Bool.not_true];generalize he:B4 L i=xs at hlen;cases h0:iLt 0 (xs.length:Int) with
   | false =>
    have sm:iSm ((xs.length+1:Nat):Int) 16=true:=DL (by omega) (by omega);rw [tw hk he h0];simp only [PXb,PXc,PXn,AB,PXp,List.length_append,List.length_cons,List.length_nil,sm,Nat.reduceAdd]
   | true =>
    have h1:0<xs.length:=by simp only [iLt,decide_eq_true_eq] at h0;omega
    have sm:iSm ((xs.length+1:Nat):Int) 16=true:=DL (by omega) (by omega);rw [w9 hk he h0];simp only [PXb,PXc,PXn,AB,PXp,List.length_append,List.length_cons,List.length_nil,List.length_set,sm,Nat.reduceAdd,(qx h1 (by omega)).2]
set_option maxHeartbeats 1000000 in
theorem xP {N:Nat} {L:Rows} (hN:2097152<N) (hL:L.length≤1048576):Kc N [.rows L]=some [.rows (GC (B4 L L.length))]:=by
 show Pj (std (aF N) N) (xOf _)=_;simp only [Pj,lq9,std,xOf,PXb];refine AN (wA hN hL ?_ ?_) rfl
 ·intro self;simp only [PXb,PXc,PXn,AB,Ak]
 ·intro i self hi hlen;have kk:(evR L i).kind=atI L i 0:=rfl;simp only [PXb,PXc,PXn,AB,CS (show i≤1099511627776 by omega),Af hi,AO hi,BJ,PXp,← kk];cases hk:(evR L i).kind==2 with
  | false =>
   rw [nn hk];rfl
  | true =>
   simp only [PXb,Bool.not_true];generalize he:B4 L i=xs at hlen;cases h0:iLt 0 (xs.length:Int) with
   | false =>
    have sm:iSm ((xs.length+1:Nat):Int) 16=true:=DL (by omega) (by omega);rw [tw hk he h0];simp only [PXb,PXc,PXn,AB,PXp,List.length_append,List.length_cons,List.length_nil,sm,Nat.reduceAdd]
   | true =>
    have h1:0<xs.length:=by simp only [iLt,decide_eq_true_eq] at h0;omega
    have sm:iSm ((xs.length+1:Nat):Int) 16=true:=DL (by omega) (by omega);rw [w9 hk he h0];simp only [PXb,PXc,PXn,AB,PXp,List.length_append,List.length_cons,List.length_nil,List.length_set,sm,Nat.reduceAdd,(qx h1 (by omega)).2]
theorem oz (ans:Nat→Option (List PV)):∀ k i,Bc ans (k+1) i=match Bc ans k i with | some r=>some r | none=>ans (i+k)
 | 0,i=>by
  simp only [Bc];cases ans i<;>rfl
 | k+1,i=>by
  have ih:=oz ans k (i+1);have e1:Bc ans (k+1+1) i=match ans i with | some r=>some r | none=>Bc ans (k+1) (i+1):=rfl
  have e2:Bc ans (k+1) i=match ans i with | some r=>some r | none=>Bc ans k (i+1):=rfl
  rw [e1,e2,ih,show i+(k+1)=i+1+k by omega];cases ans i<;>rfl
def nH (L:Rows) (i:Nat):Option (List PV):=cond ((evR L i).kind==1) (some [.int (So (evR L i))]) none
theorem wn (L:Rows):∀ n,Bc (nH L) n 0=(Dy L n).map fun v=>[.int v]
 | 0=>rfl
 | n+1=>by
  rw [oz,wn L n,Nat.zero_add];show _=(match Dy L n with | some v=>some v | none=>cond ((evR L n).kind==1) (some (So (evR L n))) none).map fun v=>[PV.int v]
  cases Dy L n with
  | some v=>rfl
  | none =>
   show nH L n=_;unfold nH;cases (evR L n).kind==1<;>rfl
def Fe (L:Rows):Int:=(Dy L L.length).getD 1
theorem xu {N : Nat} {L : Rows} (hN : 2097152 < N) (hL : L.length ≤ 1048576) {F : (List Ad → Option (List PV)) → List PV → Option (List PV)} (h0 : ∀ self, F self [.int (L.length : Int)] = some [.int 1])
    (h1:∀ i self,i<L.length→F self [.int (i:Int)]=match nH L i with | some r=>some (.int 0::r) | none=>self [.int ((i:Int)+1)]):DU F N [.int 0]=some (Nf ((Dy L L.length).map fun v=>[.int v])):=by
  have:=Cg (F:=F) (len:=L.length) (nH L) h0 h1 L.length 0 N (by omega) (by omega);rw [wn] at this;exact this
theorem z6 (o:Option Int):cond (pvI (AA (Nf (o.map fun v=>[.int v])) 0)==((0:Nat):Int)) (some [PV.int (pvI (AA (Nf (o.map fun v=>[.int v])) 1))]) (some [PV.int 1])=some [.int (o.getD 1)]:=by
 cases o<;>rfl
theorem ux {N:Nat} {L:Rows} (hN:2097152<N) (hL:L.length≤1048576):JB N [.rows L]=some [.int (Fe L)]:=by
 show NE (std (XZ N) N) (xOf _)=_;simp only [NE,lq9,std,xOf,PXb];refine AN (xu hN hL ?_ ?_) (z6 _)
 ·intro self;simp only [PXb,PXc,PXn,AB,Ak]
 ·intro i self hi;have kk:(evR L i).kind=atI L i 0:=rfl;have ky:(evR L i).yes=atB L i 4:=rfl;have ks:(evR L i).side=atI L i 1:=rfl;simp only [PXb,PXc,PXn,AB,Aa (show i≤1099511627776 by omega),Af hi,AO hi,BJ,RT,nH,So,A2,kk,ky,ks];cases atI L i 0==1<;>cases atB L i 4<;>rfl
theorem lM {N:Nat} {L:Rows} (hN:2097152<N) (hL:L.length≤1048576):Mh N [.rows L]=some [.int (Fe L)]:=by
 show R9 (std (de N) N) (xOf _)=_;simp only [R9,lq9,std,xOf,PXb];refine AN (xu hN hL ?_ ?_) (z6 _)
 ·intro self;simp only [PXb,PXc,PXn,AB,Ak]
 ·intro i self hi;have kk:(evR L i).kind=atI L i 0:=rfl;have ky:(evR L i).yes=atB L i 4:=rfl;have ks:(evR L i).side=atI L i 1:=rfl;simp only [PXb,PXc,PXn,AB,Aa (show i≤1099511627776 by omega),Af hi,AO hi,BJ,RT,nH,So,A2,kk,ky,ks];cases atI L i 0==1<;>cases atB L i 4<;>rfl
def dA (f:Int) (en:Bool) (k:Nat):Int:=cond (en&&((k:Int)==2||(k:Int)==3)) (A2 (cond ((k:Int).tmod 2==1) (A2 f) f)) (cond ((k:Int).tmod 2==1) (A2 f) f)
def Im (f:Int) (en:Bool) (k:Nat):Int:=cond (cond (en&&((k:Int)==2||(k:Int)==3)) ((k:Int)==2) ((k:Int).tmod 2==1)) (A2 f) f
theorem AAc {f:Int} (h:A2 (A2 f)=f) (en:Bool) (k:Nat):dA f en k=Im f en k:=by
 unfold dA Im;cases h2:((k:Int)==2) with
 | true =>
  have:=beq_iff_eq.1 h2;rw [this];cases en<;>rfl
 | false =>
  cases h3:((k:Int)==3) with
  | true =>
   have:=beq_iff_eq.1 h3;rw [this];cases en
   ·rfl
   ·exact h
  | false=>rw [Bool.or_false,Bool.and_false];rfl
theorem AFP (f:Int) (en:Bool) {k:Nat} (h:k≤3):Im f en k=L3 f en (k:Int):=by
 have:k=0∨k=1∨k=2∨k=3:=by omega
 rcases this with h | h | h | h<;>subst h<;>cases en<;>rfl
def zs (g:Nat→Int) (n:Nat):List Int:=(List.range n).map g
theorem xT (g:Nat→Int) (n:Nat):(zs g n).length=n:=by unfold zs;rw [List.length_map,List.length_range]
theorem AAe (g:Nat→Int) (n:Nat):Ii (zs g n)++[[.int (g n)]]=Ii (zs g (n+1)):=by
 unfold zs Ii;rw [List.range_succ,List.map_append,List.map_append];rfl
theorem wB {N : Nat} {L : Rows} (hN : 2097152 < N) (hL : L.length ≤ 1048576) {F : (List Ad → Option (List PV)) → List PV → Option (List PV)} (h0 : ∀ self, F self [.bool (B6 L L.length), .int (L.length : Int)] = some [.bool (B6 L L.length)])
    (h1:∀ i self,i<L.length→F self [.bool (B6 L i),.int (i:Int)]=self [.bool (B6 L (i+1)),.int (((i+1:Nat)):Int)]):DU F N [.bool false,.int 0]=some [.bool (B6 L L.length)] :=
  CV (F:=F) (len:=L.length) (fun i=>[.bool (B6 L i),.int (i:Int)]) [.bool (B6 L L.length)] h0 h1 N (by omega)
theorem AAY {N n : Nat} {g : Nat → Int} (hN : 2097152 < N) (hL : n ≤ 1048576) {F : (List Ad → Option (List PV)) → List PV → Option (List PV)} (h0 : ∀ self, F self [.rows (Ii (zs g n)), .int (n : Int)] = some [.rows (Ii (zs g n))])
    (h1:∀ i self,i<n→F self [.rows (Ii (zs g i)),.int (i:Int)]=self [.rows (Ii (zs g (i+1))),.int (((i+1:Nat)):Int)]):DU F N [.rows [],.int 0]=some [.rows (Ii (zs g n))] :=
  CV (F:=F) (len:=n) (fun i=>[.rows (Ii (zs g i)),.int (i:Int)]) [.rows (Ii (zs g n))] h0 h1 N (by omega)
set_option maxHeartbeats 1000000 in
theorem vC {N:Nat} {L:Rows} (hN:2097152<N) (hL:L.length≤1048576):NR N [.rows L]=some [.rows (Ii (zs (dA (Fe L) (B6 L L.length)) (opn L L.length)))]:=by
 show Nb (std (J2 N) N) (xOf _)=_;simp only [Nb,TR,UX,lq9,std,xOf,PXb,ux hN hL];refine AN (wB hN hL ?_ ?_) ?_
 ·intro self;simp only [PXb,PXc,PXn,AB,Ak]
 ·intro i self hi;have kk:(evR L i).kind=atI L i 0:=rfl;have ky:(evR L i).yes=atB L i 4:=rfl;have e:B6 L (i+1)=(B6 L i||((evR L i).kind==12&&(evR L i).yes)):=rfl;rw [e,kk,ky];simp only [PXb,PXc,PXn,AB,CS (show i≤1099511627776 by omega),Af hi,AO hi,BJ,RT]
 ·have ol:=jE L L.length;simp only [PXb,PXc,PXn,AB,ZL hN hL,PXp,U7];generalize B6 L L.length=en;generalize hn:opn L L.length=n at ol;refine AN (AAY (n:=n) (g:=dA (Fe L) en) hN (by omega) ?_ ?_) rfl
  ·intro self;simp only [PXb,PXc,PXn,AB,Ak]
  ·intro i self hi;have sm:iSm ((i+1:Nat):Int) 8=true:=DL (by omega) (by omega);rw [← AAe];unfold dA;cases h1:(i:Int).tmod 2==1<;>cases h2:(en&&((i:Int)==2||(i:Int)==3)) <;>
    simp only [PXb,PXc,PXn,AB,CS (show i≤1099511627776 by omega),Af hi,h1,h2,cm,xT,List.length_append,List.length_cons,List.length_nil,Nat.reduceAdd,sm,A2]
set_option maxHeartbeats 1000000 in
theorem zV {N:Nat} {L:Rows} (hN:2097152<N) (hL:L.length≤1048576):SR N [.rows L]=some [.rows (Ii (zs (Im (Fe L) (B6 L L.length)) (opn L L.length)))]:=by
 show Ry (std (NX N) N) (xOf _)=_;simp only [Ry,YD,ZM,lq9,std,xOf,PXb,lM hN hL];refine AN (wB hN hL ?_ ?_) ?_
 ·intro self;simp only [PXb,PXc,PXn,AB,Ak]
 ·intro i self hi;have kk:(evR L i).kind=atI L i 0:=rfl;have ky:(evR L i).yes=atB L i 4:=rfl;have e:B6 L (i+1)=(B6 L i||((evR L i).kind==12&&(evR L i).yes)):=rfl;rw [e,kk,ky];simp only [PXb,PXc,PXn,AB,CS (show i≤1099511627776 by omega),Af hi,AO hi,BJ,RT]
 ·have ol:=jE L L.length;simp only [PXb,PXc,PXn,AB,lM hN hL,xP hN hL,PXp,U7];generalize B6 L L.length=en;generalize hn:opn L L.length=n at ol;refine AN (AAY (n:=n) (g:=Im (Fe L) en) hN (by omega) ?_ ?_) rfl
  ·intro self;simp only [PXb,PXc,PXn,AB,Ak]
  ·intro i self hi;have sm:iSm ((i+1:Nat):Int) 8=true:=DL (by omega) (by omega);rw [← AAe];unfold Im;cases h1:(i:Int).tmod 2==1<;>cases en<;>cases h2:(i:Int)==3<;>cases h3:(i:Int)==2 <;>
    simp only [PXb,PXc,PXn,AB,CS (show i≤1099511627776 by omega),Af hi,h1,h2,h3,cm,xT,List.length_append,List.length_cons,List.length_nil,Nat.reduceAdd,sm,A2]
theorem AF6 (xs:List (Int×Int)) (k:Nat) (s:Int×Int) (i:Nat) (hi:i<xs.length):pr (xs.set k s) i=(if k=i then s else pr xs i):=by
 rw [dM,dM,List.getElem?_set]
 by_cases h:k=i
 ·subst h;rw [if_pos rfl,if_pos rfl,if_pos hi]
 ·rw [if_neg h,if_neg h]
theorem AGF (xs:List (Int×Int)) (s:Int×Int) (i:Nat) (hi:i<xs.length+1):pr (xs++[s]) i=(if i<xs.length then pr xs i else s):=by
 rw [dM,dM]
 by_cases h:i<xs.length
 ·rw [if_pos h,List.getElem?_append_left h]
 ·have:i=xs.length:=by omega
  subst this;rw [if_neg h,List.getElem?_append_right (Nat.le_refl _),Nat.sub_self];rfl
theorem AEX {L:Rows} {i:Nat} (h:((evR L i).kind==2)=true):opn L (i+1)=opn L i+1:=by
 show opn L i+cond ((evR L i).kind==2) 1 0=_;rw [h];rfl
theorem AD2 {L:Rows} {i:Nat} (h:((evR L i).kind==2)=false):opn L (i+1)=opn L i:=by
 show opn L i+cond ((evR L i).kind==2) 1 0=_;rw [h];rfl
theorem ACu {L : Rows} (hL : L.length ≤ 1048576) : ∀ i, i ≤ L.length → ∀ k, k < opn L i → ∃ a : Nat, (pr (B4 L i) k).1 = (a : Int) ∧ a < i ∧ opn L a = k ∧ ((evR L a).kind == 2) = true ∧
    ((k+1<opn L i∧∃ b:Nat,(pr (B4 L i) k).2=(b:Int)∧b<i∧opn L b=k+1∧((evR L b).kind==2)=true)∨(k+1=opn L i∧(pr (B4 L i) k).2=(L.length:Int)))
  | 0,_,k,hk=>absurd hk (Nat.not_lt_zero k)
  | i+1,hi,k,hk=>by
    have ih:=ACu hL i (by omega);cases h2:(evR L i).kind==2 with
    | false =>
      rw [AD2 h2] at hk ⊢;rw [nn h2];obtain ⟨a,h3,h4,h5,h6,h7⟩:=ih k hk;refine ⟨a,h3,by omega,h5,h6,?_⟩
      rcases h7 with ⟨q,b,q1,q2,q3,q4⟩ | q
      · exact Or.inl ⟨q,b,q1,by omega,q3,q4⟩
      · exact Or.inr q
    | true =>
      rw [AEX h2] at hk ⊢;have sl:=U7 L i;have hle:=jE L i;have ha:=fun (j:Nat) (hj:j<opn L i+1)=>AGF (Hs (B4 L i) (i:Int)) ((i:Int),(L.length:Int)) j (by rw [YX,sl];exact hj)
      have e:B4 L (i+1)=Hs (B4 L i) (i:Int)++[((i:Int),(L.length:Int))]:=by
        show cond ((evR L i).kind==2) _ _=_;rw [h2];rfl
      rw [e,ha k hk,YX,sl]
      by_cases hkn:k<opn L i
      · rw [if_pos hkn];obtain ⟨a,h3,h4,h5,h6,h7⟩:=ih k hkn;have hp:0<opn L i:=by omega
        have ix:=(qx hp (by omega)).1;have es:Hs (B4 L i) (i:Int)=(B4 L i).set (opn L i - 1) ((pr (B4 L i) (opn L i - 1)).1,(i:Int)):=by
          unfold Hs;rw [sl,show iLt 0 (opn L i:Int)=true by simp only [iLt,decide_eq_true_eq];omega,ix];rfl
        rw [es,AF6 _ _ _ _ (by rw [sl];exact hkn)]
        by_cases hl:opn L i - 1=k
        · rw [if_pos hl,hl];exact ⟨a,h3,by omega,h5,h6,Or.inl ⟨by omega,i,rfl,by omega,by omega,h2⟩⟩
        · rw [if_neg hl];refine ⟨a,h3,by omega,h5,h6,Or.inl ⟨by omega,?_⟩⟩
          rcases h7 with ⟨q,b,q1,q2,q3,q4⟩ | q
          · exact ⟨b,q1,by omega,q3,q4⟩
          · omega
      · have hke:k=opn L i:=by omega
        rw [if_neg hkn];exact ⟨i,rfl,by omega,hke.symm,h2,Or.inr ⟨by omega,rfl⟩⟩
def bX (L:Rows) (k:Nat):Nat:=if k<opn L L.length then (pr (B4 L L.length) k).1.toNat else L.length
structure Seg (L:Rows) (k:Nat):Prop where
 x0:(pr (B4 L L.length) k).1=(bX L k:Int)
 x1:(pr (B4 L L.length) k).2=(bX L (k+1):Int)
 lt:bX L k<bX L (k+1)
 le:bX L (k+1)≤L.length
 o0:opn L (bX L k)=k
 o1:opn L (bX L (k+1))=k+1
 mid:∀ j,bX L k≤j→j<bX L (k+1)→opn L (j+1)=k+1
theorem AEj {L:Rows} {f:Ev→Int} {c:Int} (hf:∀ e,0≤f e∧f e≤c) (j:Nat):∀ i:Nat,0≤smi L f j i∧smi L f j i≤c * (i:Int)
 | 0=>by
  have:smi L f j 0=0:=rfl;rw [this];omega
 | i+1=>by
  have ih:=AEj (L:=L) hf j i;have h1:=hf (evR L i);rw [w6,show c * ((i+1:Nat):Int)=c * (i:Int)+c by rw [show ((i+1:Nat):Int)=(i:Int)+1 by omega,Int.mul_add,Int.mul_one]];have h2:=hf (evR L i);generalize c * (i:Int)=z at ih ⊢;cases Nat.beq (opn L (i+1)) (j+1)<;>simp only [cond_true,cond_false]<;>omega
structure Sml (x:Sco):Prop where
 runs:0≤x.runs∧x.runs≤1000000
 wk:0≤x.wickets∧x.wickets≤1000000
 balls:0≤x.balls∧x.balls≤1000000
 wides:0≤x.wides∧x.wides≤1000000
 no:0≤x.noballs∧x.noballs≤1000000
 bb:0≤x.byes∧x.byes≤1000000
 lb:0≤x.legbyes∧x.legbyes≤1000000
 pens:0≤x.pens∧x.pens≤1000000
def sdT (L:Rows):Nat→Int:=dA (Fe L) (B6 L L.length)
structure InLog (L:Rows):Prop where
 len:L.length≤4000
 pen:∀ j,j<L.length→((evR L j).kind==13)=true→1≤opn L (j+1)
theorem Sa {r:Rul} {L:Rows} (h:Ca r L=0):((Ao r).2==0)=true∧A5 r=0∧L.length≤4000∧acc L L.length 0 (Ao r).1∧BN r L=(stM L L.length 0 (Ao r).1,-1,0):=by
 unfold Ca at h;cases hc:A5 r==0 with
 | false=>rw [hc] at h;rw [show A5 r=0 from h] at hc;cases hc
 | true =>
  cases hl:iLt 4000 (L.length:Int) with
  | true=>rw [hc,hl] at h;cases h
  | false =>
   cases hr:(BN r L).2.2==0 with
   | false=>rw [hc,hl,hr] at h;cases h
   | true =>
    have hn:=(ADO r).trans hc;have hrep:BN r L=C3 L L.length 0 (Ao r).1:=by unfold BN;rw [hn];rfl
    obtain ⟨k,h1,h2,h3,h4⟩:=WE L L.length 0 (Ao r).1;have l4:L.length≤4000:=by simp only [iLt,decide_eq_false_iff_not] at hl;omega
    rcases h4 with ⟨h5,h6⟩ | ⟨h5,h6,h7⟩
    ·subst h5;exact ⟨hn,beq_iff_eq.1 hc,l4,h2,hrep.trans h6⟩
    ·rw [hrep,h7] at hr;rw [h6] at hr;cases hr
theorem qk {r:Rul} {L:Rows} (h:Ca r L=0) {j:Nat} (hj:j<opn L L.length):j≤3∧(Fe L=1∨Fe L=2)∧sdT L j=sdF L L.length j∧Im (Fe L) (B6 L L.length) j=sdF L L.length j:=by
 obtain ⟨h1,h2,h3,h4,h5⟩:=Sa h;obtain ⟨_,_,h6⟩:=RN h1 h4 L.length (Nat.le_refl _);obtain ⟨a,p1,p2,p3,p4,p5⟩:=ACu (L:=L) (by omega) L.length (Nat.le_refl _) j hj;obtain ⟨q1,v,q2,q3⟩:=(h6 a p2).2.two p4;rw [p3] at q1;have f:=Yn q2 (show a≤L.length by omega);have fs:Fe L=v:=by unfold Fe;rw [f];rfl
 have oo:A2 (A2 (Fe L))=Fe L:=by rw [fs];rcases q3 with e | e<;>rw [e]<;>decide
 have un:=AFP (Fe L) (B6 L L.length) q1;refine ⟨q1,by rw [fs];exact q3,?_,un⟩;unfold sdT;rw [AAc oo];exact un
theorem ACT {N:Nat} {L:Rows}  : TE N [.rows L]=some [.rows (cut L 60)]:=by
 show Sg (std (M1 N) N) (xOf _)=_;simp only [Sg,lq9,std,xOf,PXb,PXc,PXn,PXm,Nat.reduceAdd,Int.reduceBEq,AGa (show (0:Int)≤60 by omega)];rfl
def Pd (k s p o:Int) (y:Bool) (t f n b h v:Int):List PV:=[.int k,.int s,.int p,.int o,.bool y,.int 0,.int 0,.int t,.int f,.int n,.int 0,.int b,.bool false,.int h,.int v,.int 0,.int 0,.bool false,.int 0]
def jb:Rows:=[Pd 1 1 0 0 true 0 0 0 0 0 0,Pd 2 0 1 2 false 0 0 0 0 0 0,Pd 8 0 2 0 false 0 0 0 0 0 0,Pd 3 0 1 0 false 0 0 0 0 0 0,Pd 4 0 0 0 false 1 1 1 0 0 0,Pd 4 0 0 0 false 1 0 0 0 1 1,Pd 2 0 2 1 false 0 0 0 0 0 0,Pd 8 0 1 0 false 0 0 0 0 0 0,Pd 3 0 2 0 false 0 0 0 0 0 0,Pd 4 0 0 0 false 2 0 0 0 0 0,Pd 4 0 0 0 false 1 1 0 4 0 0]
def jX:Rul:=⟨⟨#[84,69,83,84]⟩,2,1,1,4,0,1,1,false,0,0,0,11,[]⟩
theorem AGY:Su 4194304 []=some [.rows jb]:=by kernel_rfl
theorem AEy:Mt 4194304 []=some jX.ls:=by kernel_rfl
theorem Le {x:Option (List PV)} {v:List PV} {f:List PV→Option (List PV)} {r:Option (List PV)} (h:x=some v) (hk:f v=r):x.bind f=r:=by rw [h];exact hk
theorem AGH (L:Rows):(cut L 60).length≤1048576:=Nat.le_trans (ADH L 60) (show 60≤1048576 by omega)
structure Up (x y:Sco):Prop where
 side:y.side=x.side
 runs:x.runs≤y.runs
 wk:x.wickets≤y.wickets
 balls:x.balls≤y.balls
theorem Up.refl (x:Sco):Up x x:=⟨rfl,Int.le_refl _,Int.le_refl _,Int.le_refl _⟩
theorem pD {L:Rows}:∀ k i m out,L6 L (k+1) i m out=cond ((evR L (i+k)).kind==4) (L6 L k i m out++[K5 ((i+k:Nat):Int) (stM L k i m) (Au ((i+k:Nat):Int) (stM L k i m) (evR L (i+k))).1 (evR L (i+k)).ball]) (L6 L k i m out)
 | 0,i,m,out=>rfl
 | k+1,i,m,out=>by
  have ih:=pD (L:=L) k (i+1) (Au i m (evR L i)).1 (cond ((evR L i).kind==4) (out++[K5 i m (Au i m (evR L i)).1 (evR L i).ball]) out);rw [show i+1+k=i+(k+1) by omega] at ih;exact ih
def Fz (x:List PV):List PV:=[.int (pvI (AA x 0)),.int (pvI (AA x 1)),.int (pvI (AA x 2)),.int (pvI (AA x 3)),.int (pvI (AA x 4)),.int (pvI (AA x 5)),.int (pvI (AA x 6)),.bool (pvB (AA x 7)),.int (pvI (AA x 8)),.int (pvI (AA x 9)),.int (pvI (AA x 10)),.int (pvI (AA x 11)),.int (pvI (AA x 12)),.bool (pvB (AA x 13)),.int (pvI (AA x 14)),.int (pvI (AA x 15)),.int (pvI (AA x 16)),.int (pvI (AA x 17)),.bool (pvB (AA x 18)),.int (pvI (AA x 19)),.int (pvI (AA x 20)),.int (pvI (AA x 21)),.int (pvI (AA x 22)),.int (pvI (AA x 23)),.int (pvI (AA x 24)),.int (pvI (AA x 25)),.bool (pvB (AA x 26)),.bool (pvB (AA x 27)),.bool (pvB (AA x 28)),.bool (pvB (AA x 29)),.int (pvI (AA x 30)),.int (pvI (AA x 31))]
def fil (k:Int):Rows→Rows
 | []=>[]
 | x::D=>cond (pvI (AA x 1)==k) (Fz x::fil k D) (fil k D)
theorem AAC (k:Int):∀ A B,fil k (A++B)=fil k A++fil k B
 | [],B=>rfl
 | x::A,B=>by
  show cond _ (Fz x::fil k (A++B)) (fil k (A++B))=_;rw [AAC k A B];show _=cond (pvI (AA x 1)==k) (Fz x::fil k A) (fil k A)++fil k B;cases pvI (AA x 1)==k<;>rfl
theorem AAG (k:Int):∀ D,(fil k D).length≤D.length
 | []=>Nat.le_refl _
 | x::D=>by
  have:=AAG k D;show (cond (pvI (AA x 1)==k) (Fz x::fil k D) (fil k D)).length≤D.length+1;cases pvI (AA x 1)==k
  ·exact Nat.le_succ_of_le this
  ·exact Nat.succ_le_succ this
theorem ADt {D:Rows} {i:Nat} (h:i<D.length):D.take (i+1)=D.take i++[AE D i]:=by
 rw [List.take_add_one,zzo h];unfold AE;rw [zzl,zzo h];rfl
theorem xJ {D:Rows} {i:Nat} {k:Int} (h:i<D.length):fil k (D.take (i+1))=cond (pvI (AG D i 1)==k) (fil k (D.take i)++[Fz (AE D i)]) (fil k (D.take i)):=by
 rw [ADt h,AAC];show fil k (D.take i)++cond (pvI (AA (AE D i) 1)==k) [Fz (AE D i)] []=_;show _=cond (pvI (AA (AE D i) 1)==k) _ _;cases pvI (AA (AE D i) 1)==k
 ·exact List.append_nil _
 ·rfl
structure BallF (r:Rul) (L:Rows) (a:Nat):Prop where
 one:1≤opn L a
 lnx:lnx (stM L a 0 (Ao r).1).inns=opn L a - 1
 inn:IntKind.i64.wrap (((stM L a 0 (Ao r).1).inns.length:Int) - 1)=((opn L a - 1:Nat):Int)
 ok:InnOk r (Ai (stM L a 0 (Ao r).1))
 rules:(stM L a 0 (Ao r).1).rules=r
 ref:(GG r (Ai (stM L a 0 (Ao r).1)) (evR L a).ball==0)=true
 over:(Ai (stM L a 0 (Ao r).1)).complete≤1000
theorem AFt {r:Rul} {L:Rows} (hc:Ca r L=0) {a:Nat} (ha:a<L.length) (hk:((evR L a).kind==4)=true):BallF r L a:=by
 obtain ⟨h1,h2,h3,h4,h5⟩:=Sa hc;obtain ⟨li,so,_⟩:=RN h1 h4 a (by omega);obtain ⟨_,_,hi⟩:=RN h1 h4 L.length (Nat.le_refl _);have e:=beq_iff_eq.1 hk;have one:=(hi a ha).2.play (by rw [e];rfl) (by rw [e];rfl) (by rw [e];rfl) (by rw [e];rfl);have a0:=ZF L.length 0 _ h4 a ha;rw [Nat.zero_add] at a0;have q:=(gM a0).1;rw [q] at a0;obtain ⟨g1,g2,g3,g4⟩:=pt a0 hk;have sl:=so.len;have ll:=li.len;have lx:Px.lnx (stM L a 0 (Ao r).1).inns=opn L a - 1:=by
  unfold Px.lnx;rw [ll,Bv (by omega) (by omega)];omega
 have rl:=so.rules;obtain ⟨hv,he,hn,hw,hp,hs⟩:=ji g3;rw [rl] at hv hp;have ok:=OK.1 hv;have hpb:BQ r (Ai (stM L a 0 (Ao r).1)) (evR L a)=Ix r (Ai (stM L a 0 (Ao r).1)) (evR L a).ball:=by unfold BQ;rw [e];rfl
 rw [hpb] at hp;have cl:=ADB h1 h4 a (by omega);have at1:=cl.at' (opn L a - 1) (by omega);have kx:sco (GB (stM L a 0 (Ao r).1)).xs (opn L a - 1)=Bl r.balls (Ai (stM L a 0 (Ao r).1)):=by
  unfold GB Ai;rw [rl,lx];exact U4 _ _ (by omega)
 rw [kx] at at1;have bl:Ce r.balls (Ai (stM L a 0 (Ao r).1)).complete (Ai (stM L a 0 (Ao r).1)).inover=smi L (ABe r) (opn L a - 1) a:=congrArg Sco.balls at1;have be:=(xe ok).1;have cb:=AEj (L:=L) (f:=ABe r) (c:=1) (fun e=>by unfold ABe;cases (Km r e).counts<;>simp) (opn L a - 1) a;have q4:=(D8 ok.code).balls;have io:=ok.io;have co:=ok.complete;unfold Bz at co;have m1:=Int.mul_le_mul_of_nonneg_left q4.1 co.1;refine ⟨one,lx,by rw [ll,Bv (by omega) (by omega)];omega,ok,rl,(rF hp).1,?_⟩;rw [bl] at be;omega
structure RowF (r:Rul) (x:List PV):Prop where
 over:∃ o:Nat,o≤1000∧pvI (AA x 2)=(o:Int)
 sector:∃ s:Nat,s≤8∧pvI (AA x 19)=(s:Int)
 striker:1≤pvI (AA x 5)∧pvI (AA x 5)≤r.side
 cre:∃ d,pvI (AA x 20)=(AH r d).batter∧pvI (AA x 21)=(AH r d).wides∧pvI (AA x 22)=(AH r d).noballs∧pvI (AA x 23)=(AH r d).byes∧pvI (AA x 24)=(AH r d).legbyes∧pvI (AA x 25)=(AH r d).bowler
def aL (r:Rul) (L:Rows) (k:Int):Rows×Int:=cond (!(Ca r L==0)) ([],Ca r L) (cond (iLt k 0||iLe (opn L L.length:Int) k) ([],2) (fil k (Bs r L),0))
theorem f7 {F : (List Ad → Option (List PV)) → List PV → Option (List PV)} {len p : Nat} (enc : Nat → List Ad) (stop fin : List PV) (hp : p ≤ len)
    (h0:p=len→∀ self,F self ((enc len).map Leaf.pv)=some fin) (h1:∀ i self,i<p→F self ((enc i).map Leaf.pv)=self (enc (i+1)))
    (h2:p<len→∀ self,F self ((enc p).map Leaf.pv)=some stop) (n:Nat) (hn:len<n) :
    DU F n ((enc 0).map Leaf.pv)=some (cond (Nat.blt p len) stop fin):=by
  have main:∀ (k i n:Nat),i+k=p→k<n→DU F n ((enc i).map Leaf.pv)=some (cond (Nat.blt p len) stop fin):=by
    intro k
    induction k with
    | zero =>
      intro i n hk hn;obtain ⟨n,rfl⟩:∃ m,n=m+1:=⟨n - 1,by omega⟩;obtain rfl:i=p:=by omega
      show F _ _=_
      rcases Nat.lt_or_ge i len with h | h
      · rw [h2 h,show Nat.blt i len=true from Nat.ble_eq_true_of_le h];rfl
      · obtain rfl:i=len:=by omega
        rw [h0 rfl,show Nat.blt i i=false from by
          cases hq:Nat.blt i i with
          | false=>rfl
          | true=>exact absurd (Nat.le_of_ble_eq_true hq) (by omega)]
        rfl
    | succ k ih =>
      intro i n hk hn;obtain ⟨n,rfl⟩:∃ m,n=m+1:=⟨n - 1,by omega⟩;show F _ _=_;rw [h1 i _ (by omega)];exact ih (i+1) n (by omega) (by omega)
  exact main p 0 n (by omega) (by omega)
def Kh (f:Nat→Bool):Nat→Nat→Nat
 | 0,i=>i
 | k+1,i=>cond (f i) i (Kh f k (i+1))
theorem Rf (f:Nat→Bool):∀ k i,Kh f k i≤i+k
 | 0,i=>Nat.le_refl _
 | k+1,i=>by
  show cond (f i) i (Kh f k (i+1))≤_;have:=Rf f k (i+1);cases f i
  ·show Kh f k (i+1)≤_;omega
  ·show i≤_;omega
theorem ZZ (f:Nat→Bool):∀ k i j,i≤j→j<Kh f k i→f j=false
 | 0,i,j,h1,h2=>by change j<i at h2;omega
 | k+1,i,j,h1,h2=>by
  change j<cond (f i) i (Kh f k (i+1)) at h2;cases hf:f i with
  | true=>rw [hf] at h2;change j<i at h2;omega
  | false =>
   rw [hf] at h2
   rcases Nat.lt_or_ge i j with h | h
   ·exact ZZ f k (i+1) j h h2
   ·obtain rfl:j=i:=by omega
    exact hf
theorem WQ (f:Nat→Bool):∀ k i,Kh f k i<i+k→f (Kh f k i)=true
 | 0,i,h=>by change i<i at h;omega
 | k+1,i,h=>by
  change cond (f i) i (Kh f k (i+1))<i+(k+1) at h;show f (cond (f i) i (Kh f k (i+1)))=true;cases hf:f i with
  | true=>exact hf
  | false =>
   rw [hf] at h;change Kh f k (i+1)<i+(k+1) at h;exact WQ f k (i+1) (by omega)
structure BL where
 p:Int
 b:Int
 m:Int
 r:Int
 w:Int
 wd:Int
 nb:Int
def BL.ls (s:BL):List PV:=[.int s.p,.int s.b,.int s.m,.int s.r,.int s.w,.int s.wd,.int s.nb]
def Av (xs:List BL):Rows:=xs.map BL.ls
def zBL (b m:Int):BL:=⟨b,0,m,0,0,0,0⟩
def bln (xs:List BL) (i:Nat):BL:=xs.getD i (zBL 0 0)
theorem yM (xs:List BL) (i:Nat):bln xs i=(match xs[i]? with | some s=>s | none=>zBL 0 0):=by
 unfold bln;rw [zzl];cases xs[i]?<;>rfl
theorem pX {xs:List BL} {i:Nat} (h:i<xs.length):bln xs i=xs[i]:=by rw [yM,zzo h]
theorem AAS (xs:List BL) (i:Nat):AE (Av xs) i=(match xs[i]? with | some s=>s.ls | none=>[]):=by
 unfold AE Av;rw [zzl,List.getElem?_map];cases xs[i]?<;>rfl
theorem OU (xs:List BL):(Av xs).length=xs.length:=List.length_map _
theorem PXv : (∀ xs : List BL, (Av xs).length = xs.length) ∧ (∀ (xs : List BL) (i : Nat), pvI (AG (Av xs) i 0) = (bln xs i).p) ∧ (∀ (xs : List BL) (i : Nat), pvI (AG (Av xs) i 1) = (bln xs i).b) ∧ (∀ (xs : List BL) (i : Nat), pvI (AG (Av xs) i 2) = (bln xs i).m) ∧ (∀ (xs : List BL) (i : Nat), pvI (AG (Av xs) i 3) = (bln xs i).r) ∧
    (∀ (xs:List BL) (i:Nat),pvI (AG (Av xs) i 4)=(bln xs i).w)∧(∀ (xs:List BL) (i:Nat),pvI (AG (Av xs) i 5)=(bln xs i).wd)∧(∀ (xs:List BL) (i:Nat),pvI (AG (Av xs) i 6)=(bln xs i).nb):=by
  refine ⟨OU,?_,?_,?_,?_,?_,?_,?_⟩
  all_goals (intro xs i;rw [yM];unfold AG;rw [AAS];cases xs[i]?<;>rfl)
theorem L2 {xs:List BL} {i j:Nat} {v:Int} (f:BL→BL) (h:∀ s:BL,BB s.ls j [.int v]=(f s).ls):(Av xs).set i (BB (AE (Av xs) i) j [.int v])=Av (xs.set i (f (bln xs i))):=by
 by_cases hi:i<xs.length
 ·have e:AE (Av xs) i=(bln xs i).ls:=by rw [AAS,yM,zzo hi]
  rw [e,h];exact List.map_set.symm
 ·rw [List.set_eq_of_length_le (by rw [OU];omega),List.set_eq_of_length_le (by omega)]
theorem PXx : (∀ (xs : List BL) (i : Nat) (v : Int), (Av xs).set i (BB (AE (Av xs) i) 1 [.int v]) = Av (xs.set i { bln xs i with b := v })) ∧ (∀ (xs : List BL) (i : Nat) (v : Int), (Av xs).set i (BB (AE (Av xs) i) 2 [.int v]) = Av (xs.set i { bln xs i with m := v })) ∧
    (∀ (xs:List BL) (i:Nat) (v:Int),(Av xs).set i (BB (AE (Av xs) i) 3 [.int v])=Av (xs.set i { bln xs i with r:=v }))∧(∀ (xs:List BL) (i:Nat) (v:Int),(Av xs).set i (BB (AE (Av xs) i) 4 [.int v])=Av (xs.set i { bln xs i with w:=v })) ∧
    (∀ (xs:List BL) (i:Nat) (v:Int),(Av xs).set i (BB (AE (Av xs) i) 5 [.int v])=Av (xs.set i { bln xs i with wd:=v }))∧(∀ (xs:List BL) (i:Nat) (v:Int),(Av xs).set i (BB (AE (Av xs) i) 6 [.int v])=Av (xs.set i { bln xs i with nb:=v })) ∧
    (∀ (xs:List BL) (a b c d e f g:Int),Av xs++[([.int a,.int b,.int c,.int d,.int e,.int f,.int g]:List PV)]=Av (xs++[⟨a,b,c,d,e,f,g⟩])) :=
  ⟨fun xs i v=>L2 (j:=1) (v:=v) (fun s=>{ s with b:=v }) (fun s=>rfl),fun xs i v=>L2 (j:=2) (v:=v) (fun s=>{ s with m:=v }) (fun s=>rfl),fun xs i v=>L2 (j:=3) (v:=v) (fun s=>{ s with r:=v }) (fun s=>rfl),fun xs i v=>L2 (j:=4) (v:=v) (fun s=>{ s with w:=v }) (fun s=>rfl),fun xs i v=>L2 (j:=5) (v:=v) (fun s=>{ s with wd:=v }) (fun s=>rfl),fun xs i v=>L2 (j:=6) (v:=v) (fun s=>{ s with nb:=v }) (fun s=>rfl),
    fun xs a b c d e f g=>(List.map_append (f:=BL.ls) (l₁:=xs) (l₂:=[⟨a,b,c,d,e,f,g⟩])).symm⟩
abbrev wr6 (n:Int):Int:=IntKind.i64.wrap n
def blX (x:List PV) (md:Bool) (s:BL):BL:=⟨s.p,cond (pvB (AA x 26)) (wr6 (s.b+1)) s.b,cond md (wr6 (s.m+1)) s.m,wr6 (s.r+pvI (AA x 25)),cond (pvB (AA x 28)) (wr6 (s.w+1)) s.w,cond (pvI (AA x 8)==2) (wr6 (s.wd+1)) s.wd,cond (pvI (AA x 8)==2) s.nb (cond (pvI (AA x 8)==3) (wr6 (s.nb+1)) s.nb)⟩
def FI (b:Int) (xs:List BL):Nat:=Kh (fun j=>(bln xs j).p==b) xs.length 0
def dK (b:Int) (xs:List BL):List BL:=cond (Nat.blt (FI b xs) xs.length) xs (xs++[zBL b 0])
def qb (x:List PV) (md:Bool) (xs:List BL):List BL:=(dK (pvI (AA x 4)) xs).set (FI (pvI (AA x 4)) xs) (blX x md (bln (dK (pvI (AA x 4)) xs) (FI (pvI (AA x 4)) xs)))
def Yu (md:Nat→Bool) (X:Rows):Nat→List BL
 | 0=>[]
 | i+1=>qb (AE X i) (md i) (Yu md X i)
def DE (md:Nat→Bool) (X:Rows) (b m0:Int):Nat→BL
 | 0=>zBL b m0
 | i+1=>cond (pvI (AA (AE X i) 4)==b) (blX (AE X i) (md i) (DE md X b m0 i)) (DE md X b m0 i)
def boN (X:Rows):Nat→List Int
 | 0=>[]
 | i+1=>cond ((boN X i).any (·==pvI (AA (AE X i) 4))) (boN X i) (boN X i++[pvI (AA (AE X i) 4)])
theorem AAa (X:Rows):∀ i,(boN X i).length≤i
 | 0=>Nat.le_refl _
 | i+1=>by
  have:=AAa X i;show (cond _ (boN X i) (boN X i++[_])).length≤i+1;cases (boN X i).any (·==pvI (AA (AE X i) 4))
  ·show (boN X i++[_]).length≤_;rw [List.length_append];exact Nat.succ_le_succ this
  ·exact Nat.le_succ_of_le this
theorem ACU {l:List Int} {b:Int} (h:l.any (·==b)=false):b∉l:=fun hm=>by
 have:l.any (·==b)=true:=List.any_eq_true.2 ⟨b,hm,beq_self_eq_true b⟩;rw [h] at this;cases this
theorem tz (X:Rows):∀ i,(boN X i).Nodup
 | 0=>List.nodup_nil
 | i+1=>by
  have ih:=tz X i;show (cond _ (boN X i) (boN X i++[_])).Nodup;cases ha:(boN X i).any (·==pvI (AA (AE X i) 4)) with
  | true=>exact ih
  | false =>
   refine List.nodup_append.2 ⟨ih,List.pairwise_singleton _ _,fun x hx y hy=>?_⟩;rw [List.mem_singleton.1 hy];exact fun e=>ACU ha (e▸hx)
theorem AEi (md:Nat→Bool) (X:Rows) (b m0:Int):∀ i,(DE md X b m0 i).p=b
 | 0=>rfl
 | i+1=>by
  have ih:=AEi md X b m0 i;show (cond _ (blX _ _ (DE md X b m0 i)) (DE md X b m0 i)).p=b;cases pvI (AA (AE X i) 4)==b<;>exact ih
theorem wN (md:Nat→Bool) (X:Rows) (b m0:Int):∀ i,b∉boN X i→DE md X b m0 i=zBL b m0
 | 0,_=>rfl
 | i+1,h=>by
  change b∉cond _ (boN X i) (boN X i++[_]) at h;have h1:b∉boN X i∧(pvI (AA (AE X i) 4)==b)=false:=by
   cases ha:(boN X i).any (·==pvI (AA (AE X i) 4)) with
   | true =>
    rw [ha] at h;refine ⟨h,beq_eq_false_iff_ne.2 (fun e=>h ?_)⟩;obtain ⟨y,hy,hye⟩:=List.any_eq_true.1 ha;rw [← e,← beq_iff_eq.1 hye];exact hy
   | false =>
    rw [ha] at h;have h:b∉boN X i++[_]:=h;exact ⟨fun hm=>h (List.mem_append_left _ hm),beq_eq_false_iff_ne.2 (fun e=>h (List.mem_append_right _ (by rw [e];exact List.mem_singleton.2 rfl)))⟩
  show cond _ (blX _ _ (DE md X b m0 i)) (DE md X b m0 i)=_;rw [h1.2];exact wN md X b m0 i h1.1
theorem vS {a b:Nat} (h:a<b):Nat.blt a b=true:=Nat.ble_eq_true_of_le h
theorem vQ {a b:Nat} (h:¬ a<b):Nat.blt a b=false:=by
 cases hq:Nat.blt a b with
 | false=>rfl
 | true=>exact absurd (Nat.le_of_ble_eq_true hq) h
theorem AAZ (md:Nat→Bool) (X:Rows):∀ i,Yu md X i=(boN X i).map fun b=>DE md X b 0 i
 | 0=>rfl
 | i+1=>by
  have ih:=AAZ md X i;have nd:=tz X i;show qb (AE X i) (md i) (Yu md X i)=(cond ((boN X i).any (·==pvI (AA (AE X i) 4))) (boN X i) (boN X i++[pvI (AA (AE X i) 4)])).map _;rw [ih];generalize hb:pvI (AA (AE X i) 4)=b;generalize hB:boN X i=B at *
  have ls1:∀ c,DE md X c 0 (i+1)=cond (b==c) (blX (AE X i) (md i) (DE md X c 0 i)) (DE md X c 0 i):=fun c=>by rw [← hb];rfl
  have hpj:∀ j (hj:j<B.length),(bln (B.map fun b=>DE md X b 0 i) j).p=B[j]:=fun j hj=>by
   rw [pX (by rw [List.length_map];exact hj),List.getElem_map,AEi]
  have ple:=Rf (fun j=>(bln (B.map fun b=>DE md X b 0 i) j).p==b) (B.map fun b=>DE md X b 0 i).length 0;have pno:=ZZ (fun j=>(bln (B.map fun b=>DE md X b 0 i) j).p==b) (B.map fun b=>DE md X b 0 i).length 0;have pyes:=WQ (fun j=>(bln (B.map fun b=>DE md X b 0 i) j).p==b) (B.map fun b=>DE md X b 0 i).length 0;unfold qb;rw [hb];change FI b (B.map fun b=>DE md X b 0 i)≤_ at ple;change ∀ j,0≤j→j<FI b (B.map fun b=>DE md X b 0 i)→_ at pno;change FI b (B.map fun b=>DE md X b 0 i)<_→((bln (B.map fun b=>DE md X b 0 i) (FI b (B.map fun b=>DE md X b 0 i))).p==b)=true at pyes;rw [Nat.zero_add,List.length_map] at ple;rw [Nat.zero_add,List.length_map] at pyes;unfold dK;rw [List.length_map];generalize FI b (B.map fun b=>DE md X b 0 i)=p at *
  by_cases hp:p<B.length
  ·have hbp:B[p]=b:=by rw [← hpj p hp];exact beq_iff_eq.1 (pyes hp)
   have hany:B.any (·==b)=true:=List.any_eq_true.2 ⟨b,by rw [← hbp];exact List.getElem_mem hp,beq_self_eq_true b⟩;rw [vS hp,hany,cond_true,cond_true];apply List.ext_getElem
   ·simp
   ·intro j h1 h2o;have h2:j<B.length:=by rw [List.length_map] at h2o;exact h2o
    rw [List.getElem_set,show (List.map (fun b=>DE md X b 0 (i+1)) B)[j]'h2o=DE md X B[j] 0 (i+1) from List.getElem_map _,ls1]
    by_cases hj:p=j
    ·subst hj;rw [if_pos rfl,hbp,beq_self_eq_true,cond_true,pX (by rw [List.length_map];exact hp),List.getElem_map,hbp]
    ·rw [if_neg hj,List.getElem_map];have:¬ b=B[j]:=fun e=>hj (by
      rcases Nat.lt_trichotomy p j with h | h | h
      ·exact absurd (hbp.trans e) (List.pairwise_iff_getElem.1 nd p j hp h2 h)
      ·exact h
      ·exact absurd (e.symm.trans hbp.symm) (List.pairwise_iff_getElem.1 nd j p h2 hp h))
     rw [beq_eq_false_iff_ne.2 this,cond_false]
  ·obtain rfl:p=B.length:=by omega
   have hno:b∉B:=fun hm=>by
    obtain ⟨j,hj,e⟩:=List.getElem_of_mem hm;have:=pno j (Nat.zero_le _) hj;change ((bln (B.map fun b=>DE md X b 0 i) j).p==b)=false at this;rw [hpj j hj,e,beq_self_eq_true] at this;cases this
   have hany:B.any (·==b)=false:=by
    cases h:B.any (·==b) with
    | false=>rfl
    | true =>
     obtain ⟨y,hy,hye⟩:=List.any_eq_true.1 h;exact absurd (beq_iff_eq.1 hye▸hy) hno
   have hz:DE md X b 0 i=zBL b 0:=wN md X b 0 i (by rw [hB];exact hno);rw [vQ hp,hany,cond_false,cond_false,List.map_append];have hs:bln ((B.map fun b=>DE md X b 0 i)++[zBL b 0]) B.length=zBL b 0:=by
    rw [pX (by simp),List.getElem_append_right (by simp)];simp
   rw [hs,List.set_append_right _ _ (by simp)];have e1:(B.map fun b=>DE md X b 0 (i+1))=B.map fun b=>DE md X b 0 i:=List.map_congr_left (fun c hc=>by
    rw [ls1,beq_eq_false_iff_ne.2 (fun e=>hno (by rw [e];exact hc)),cond_false])
   rw [e1];simp only [List.length_map,Nat.sub_self,List.set_cons_zero,List.map_cons,List.map_nil,ls1,beq_self_eq_true,cond_true,hz]
def Ub (X:Rows) (o b:Int) (j:Nat):Bool:=(pvI (AA (AE X j) 2)==o)&&(!(pvI (AA (AE X j) 4)==b) || !(pvI (AA (AE X j) 25)==0))
def rG (X:Rows) (o:Int):Nat→Int
 | 0=>0
 | j+1=>cond ((pvI (AA (AE X j) 2)==o)&&pvB (AA (AE X j) 26)) (wr6 (rG X o j+1)) (rG X o j)
def mdS (bal:Int) (X:Rows) (o b:Int):Bool := !Nat.blt (Kh (Ub X o b) X.length 0) X.length&&(rG X o X.length==bal)
def AD5 (X:Rows) (i:Nat):Bool:=Nat.beq i 0 || !(pvI (AA (AE X (i - 1)) 2)==pvI (AA (AE X i) 2))
def mdA (bal:Int) (X:Rows) (i:Nat):Bool:=AD5 X i&&mdS bal X (pvI (AA (AE X i) 2)) (pvI (AA (AE X i) 4))
set_option maxHeartbeats 2000000 in
theorem Vp {N:Nat} {r1 r2 r3 r4 r5 r6 r7 r9 r10 r11 r12:Int} {r8:Bool} {r0:ByteArray} {r13:Rows} {X:Rows} {o:Int} {b:Int} (hN:2097152<N) (hX:X.length≤1000000):Ic N [.str r0,.int r1,.int r2,.int r3,.int r4,.int r5,.int r6,.int r7,.bool r8,.int r9,.int r10,.int r11,.int r12,.rows r13,.rows X,.int o,.int b]=some [.bool (mdS r4 X o b)]:=by
 show Ig (std (S5 N) N) (xOf _)=_;simp only [Ig,lq9,std,xOf,PXb];have ple:=Rf (Ub X o b) X.length 0;have pno:=ZZ (Ub X o b) X.length 0;have pyes:=WQ (Ub X o b) X.length 0;rw [Nat.zero_add] at ple pyes;refine AN (f7 (len:=X.length) (p:=Kh (Ub X o b) X.length 0) (fun i=>[.int (rG X o i),.int (i:Int)]) [.int 0,.bool false] [.int 1,.int (rG X o X.length)] ple ?_ ?_ ?_ N (by omega)) ?_
 ·intro _ self;simp only [PXb,PXc,PXn,AB,Ak]
 ·intro i self hi;have hb:=pno i (Nat.zero_le _) hi;unfold Ub at hb;have hl:i<X.length:=by omega
  simp only [PXb,PXc,PXn,AB,CS (show i≤1099511627776 by omega),Af hl,AO hl,AG,rG];cases h1:pvI (AA (AE X i) 2)==o with
  | false=>rfl
  | true =>
   rw [h1,Bool.true_and] at hb;cases h2:pvI (AA (AE X i) 4)==b<;>cases h3:pvI (AA (AE X i) 25)==0<;>rw [h2,h3] at hb<;>first | (cases hb;done) | (cases pvB (AA (AE X i) 26)<;>rfl)
 ·intro hl self;have hb:=pyes hl;generalize Kh (Ub X o b) X.length 0=p at *
  unfold Ub at hb;simp only [PXb,PXc,PXn,AB,Af hl,AO hl,AG];cases h1:pvI (AA (AE X p) 2)==o<;>cases h2:pvI (AA (AE X p) 4)==b<;>cases h3:pvI (AA (AE X p) 25)==0<;>rw [h1,h2,h3] at hb<;>first | (cases hb;done) | rfl
 ·unfold mdS;cases Nat.blt (Kh (Ub X o b) X.length 0) X.length<;>rfl
end Go.Px
end
