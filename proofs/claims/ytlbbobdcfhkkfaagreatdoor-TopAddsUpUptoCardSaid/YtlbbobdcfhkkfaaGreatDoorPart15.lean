/- Part 15. -/
import Derived.Test.YtlbbobdcfhkkfaaGreatDoorPart14
import Derived.KernelRfl
set_option linter.unusedVariables false
set_option linter.unusedSimpArgs false
section
namespace Go.Px
set_option maxRecDepth 100000
theorem Za (L:Rows):∀ i,opn L i≤i
 | 0=>Nat.le_refl _
 | i+1=>by
  have:=Za L i;show opn L i+cond _ 1 0≤_;cases (evR L i).kind==2<;>simp only [cond_true,cond_false]<;>omega
def IE (xs:List (Int×Int)) (v:Int):List (Int×Int):=cond (iLt 0 (xs.length:Int)) (xs.set (IntKind.i64.wrap ((xs.length:Int) - 1)).toNat ((pr xs (IntKind.i64.wrap ((xs.length:Int) - 1)).toNat).1,v)) xs
def Cc (L:Rows):Nat→List (Int×Int)
 | 0=>[]
 | i+1=>cond ((evR L i).kind==2) (IE (Cc L i) (i:Int)++[((i:Int),(L.length:Int))]) (Cc L i)
theorem Vt (xs:List (Int×Int)) (v:Int):(IE xs v).length=xs.length:=by
 unfold IE;cases iLt 0 (xs.length:Int)
 ·rfl
 ·exact List.length_set
theorem Nk (L:Rows):∀ i,(Cc L i).length=opn L i
 | 0=>rfl
 | i+1=>by
  have ih:=Nk L i;show (cond ((evR L i).kind==2) _ (Cc L i)).length=opn L i+cond ((evR L i).kind==2) 1 0;cases (evR L i).kind==2 with
  | false=>exact ih
  | true=>rw [cond_true,cond_true,List.length_append,Vt,ih];rfl
theorem qu {n:Nat} (h:0<n) (h2:n≤1048576):(IntKind.i64.wrap ((n:Int) - 1)).toNat=n - 1∧iIn (IntKind.i64.wrap ((n:Int) - 1)) (n:Int)=true:=by
 rw [A9 (by omega) (by omega)];refine ⟨by omega,?_⟩;simp only [iIn,decide_eq_true_eq];omega
theorem wX {N : Nat} {L : Rows} (hN : 2097152 < N) (hL : L.length ≤ 1048576) {F : (List AU → Option (List PV)) → List PV → Option (List PV)}
    (h0:∀ self,F self [.rows (GW (Cc L L.length)),.int (L.length:Int)]=some [.rows (GW (Cc L L.length))])
    (h1:∀ i self,i<L.length→(Cc L i).length≤1048575→F self [.rows (GW (Cc L i)),.int (i:Int)]=self [.rows (GW (Cc L (i+1))),.int (((i+1:Nat)):Int)]):DB F N [.rows (GW []),.int 0]=some [.rows (GW (Cc L L.length))]:=by
  have:=CA (F:=F) (len:=L.length) (fun i=>[.rows (GW (Cc L i)),.int (i:Int)]) [.rows (GW (Cc L L.length))] h0 (fun i self hi=>h1 i self hi (by rw [Nk];have:=Za L i;omega)) N (by omega);exact this
theorem BN {i:Nat} (h:i≤1099511627776):IntKind.i64.wrap ((i:Int)+1)=((i+1:Nat):Int):=BO h
theorem wR {L:Rows} {i:Nat} {xs:List (Int×Int)} (hk:((evR L i).kind==2)=true) (he:Cc L i=xs) (h:iLt 0 (xs.length:Int)=true):Cc L (i+1)=xs.set (IntKind.i64.wrap ((xs.length:Int) - 1)).toNat ((pr xs (IntKind.i64.wrap ((xs.length:Int) - 1)).toNat).1,(i:Int))++[((i:Int),(L.length:Int))]:=by
 show cond ((evR L i).kind==2) (IE (Cc L i) (i:Int)++[((i:Int),(L.length:Int))]) (Cc L i)=_;rw [hk,he];unfold IE;rw [h];rfl
theorem uF {L:Rows} {i:Nat} {xs:List (Int×Int)} (hk:((evR L i).kind==2)=true) (he:Cc L i=xs) (h:iLt 0 (xs.length:Int)=false):Cc L (i+1)=xs++[((i:Int),(L.length:Int))]:=by
 show cond ((evR L i).kind==2) (IE (Cc L i) (i:Int)++[((i:Int),(L.length:Int))]) (Cc L i)=_;rw [hk,he];unfold IE;rw [h];rfl
theorem ph {L:Rows} {i:Nat} (hk:((evR L i).kind==2)=false):Cc L (i+1)=Cc L i:=by
 show cond ((evR L i).kind==2) _ (Cc L i)=_;rw [hk];rfl
set_option maxHeartbeats 1000000 in
theorem IP {N:Nat} {L:Rows} (hN:2097152<N) (hL:L.length≤1048576):BT N [.rows L]=some [.rows (GW (Cc L L.length))]:=by
 show LJ (std (Ti N) N) (xOf _)=_;simp only [LJ,lq9,std,xOf,PXb];refine AZ (wX hN hL ?_ ?_) rfl
 ·intro self;simp only [PXb,PXc,PXn,AG,A3]
 ·intro i self hi hlen;have kk:(evR L i).kind=atI L i 0:=rfl;simp only [PXb,PXc,PXn,AG,BN (show i≤1099511627776 by omega),Ay hi,AN hi,C9,PXp,← kk];cases hk:(evR L i).kind==2 with
  | false =>
   rw [ph hk];rfl
  | true =>
   simp only [PXb,Bool.not_true];generalize he:Cc L i=xs at hlen;cases h0:iLt 0 (xs.length:Int) with
   | false =>
    have sm:iSm ((xs.length+1:Nat):Int) 16=true:=Gu (by omega) (by omega);rw [uF hk he h0];simp only [PXb,PXc,PXn,AG,PXp,List.length_append,List.length_cons,List.length_nil,sm,Nat.reduceAdd]
   | true =>
    have h1:0<xs.length:=by simp only [iLt,decide_eq_true_eq] at h0;omega
    have sm:iSm ((xs.length+1:Nat):Int) 16=true:=Gu (by omega) (by omega);rw [wR hk he h0];simp only [PXb,PXc,PXn,AG,PXp,List.length_append,List.length_cons,List.length_nil,List.length_set,sm,Nat.reduceAdd,(qu h1 (by omega)).2]
theorem gY (ans:Nat→Option (List PV)):∀ k i,Bd ans (k+1) i=match Bd ans k i with | some r=>some r | none=>ans (i+k)
 | 0,i=>by
  simp only [Bd];cases ans i<;>rfl
 | k+1,i=>by
  have ih:=gY ans k (i+1);have e1:Bd ans (k+1+1) i=match ans i with | some r=>some r | none=>Bd ans (k+1) (i+1):=rfl
  have e2:Bd ans (k+1) i=match ans i with | some r=>some r | none=>Bd ans k (i+1):=rfl
  rw [e1,e2,ih,show i+(k+1)=i+1+k by omega];cases ans i<;>rfl
def iu (L:Rows) (i:Nat):Option (List PV):=cond ((evR L i).kind==1) (some [.int (S7 (evR L i))]) none
theorem oK (L:Rows):∀ n,Bd (iu L) n 0=(EK L n).map fun v=>[.int v]
 | 0=>rfl
 | n+1=>by
  rw [gY,oK L n,Nat.zero_add];show _=(match EK L n with | some v=>some v | none=>cond ((evR L n).kind==1) (some (S7 (evR L n))) none).map fun v=>[PV.int v]
  cases EK L n with
  | some v=>rfl
  | none =>
   show iu L n=_;unfold iu;cases (evR L n).kind==1<;>rfl
def Ok (L:Rows):Int:=(EK L L.length).getD 1
theorem xA {N : Nat} {L : Rows} (hN : 2097152 < N) (hL : L.length ≤ 1048576) {F : (List AU → Option (List PV)) → List PV → Option (List PV)} (h0 : ∀ self, F self [.int (L.length : Int)] = some [.int 1])
    (h1:∀ i self,i<L.length→F self [.int (i:Int)]=match iu L i with | some r=>some (.int 0::r) | none=>self [.int ((i:Int)+1)]):DB F N [.int 0]=some (SY ((EK L L.length).map fun v=>[.int v])):=by
  have:=DN (F:=F) (len:=L.length) (iu L) h0 h1 L.length 0 N (by omega) (by omega);rw [oK] at this;exact this
theorem yn (o:Option Int):cond (pvI (AA (SY (o.map fun v=>[.int v])) 0)==((0:Nat):Int)) (some [PV.int (pvI (AA (SY (o.map fun v=>[.int v])) 1))]) (some [PV.int 1])=some [.int (o.getD 1)]:=by
 cases o<;>rfl
theorem l7 {N:Nat} {L:Rows} (hN:2097152<N) (hL:L.length≤1048576):JZ N [.rows L]=some [.int (Ok L)]:=by
 show Mo (std (Vj N) N) (xOf _)=_;simp only [Mo,lq9,std,xOf,PXb];refine AZ (xA hN hL ?_ ?_) (yn _)
 ·intro self;simp only [PXb,PXc,PXn,AG,A3]
 ·intro i self hi;have kk:(evR L i).kind=atI L i 0:=rfl;have ky:(evR L i).yes=atB L i 4:=rfl;have ks:(evR L i).side=atI L i 1:=rfl;simp only [PXb,PXc,PXn,AG,BO (show i≤1099511627776 by omega),Ay hi,AN hi,C9,jG,iu,S7,Bg,kk,ky,ks];cases atI L i 0==1<;>cases atB L i 4<;>rfl
def U3 (f:Int) (en:Bool) (k:Nat):Int:=cond (en&&((k:Int)==2||(k:Int)==3)) (Bg (cond ((k:Int).tmod 2==1) (Bg f) f)) (cond ((k:Int).tmod 2==1) (Bg f) f)
def mB (f:Int) (en:Bool) (k:Nat):Int:=cond (cond (en&&((k:Int)==2||(k:Int)==3)) ((k:Int)==2) ((k:Int).tmod 2==1)) (Bg f) f
theorem zP {f:Int} (h:Bg (Bg f)=f) (en:Bool) (k:Nat):U3 f en k=mB f en k:=by
 unfold U3 mB;cases h2:((k:Int)==2) with
 | true =>
  have:=beq_iff_eq.1 h2;rw [this];cases en<;>rfl
 | false =>
  cases h3:((k:Int)==3) with
  | true =>
   have:=beq_iff_eq.1 h3;rw [this];cases en
   ·rfl
   ·exact h
  | false=>rw [Bool.or_false,Bool.and_false];rfl
theorem yx (f:Int) (en:Bool) {k:Nat} (h:k≤3):mB f en k=LO f en (k:Int):=by
 have:k=0∨k=1∨k=2∨k=3:=by omega
 rcases this with h | h | h | h<;>subst h<;>cases en<;>rfl
def zs (g:Nat→Int) (n:Nat):List Int:=(List.range n).map g
theorem Wm (g:Nat→Int) (n:Nat):(zs g n).length=n:=by unfold zs;rw [List.length_map,List.length_range]
theorem y8 (g:Nat→Int) (n:Nat):H6 (zs g n)++[[.int (g n)]]=H6 (zs g (n+1)):=by
 unfold zs H6;rw [List.range_succ,List.map_append,List.map_append];rfl
theorem tH (g:Nat→Int) {n k:Nat} (h:k<n):atI (H6 (zs g n)) k 0=g k:=by
 rw [AB5,zzk];unfold zs;rw [List.getElem?_map,List.getElem?_range h];rfl
theorem wY {N : Nat} {L : Rows} (hN : 2097152 < N) (hL : L.length ≤ 1048576) {F : (List AU → Option (List PV)) → List PV → Option (List PV)} (h0 : ∀ self, F self [.bool (ES L L.length), .int (L.length : Int)] = some [.bool (ES L L.length)])
    (h1:∀ i self,i<L.length→F self [.bool (ES L i),.int (i:Int)]=self [.bool (ES L (i+1)),.int (((i+1:Nat)):Int)]):DB F N [.bool false,.int 0]=some [.bool (ES L L.length)] :=
  CA (F:=F) (len:=L.length) (fun i=>[.bool (ES L i),.int (i:Int)]) [.bool (ES L L.length)] h0 h1 N (by omega)
theorem zf {N n : Nat} {g : Nat → Int} (hN : 2097152 < N) (hL : n ≤ 1048576) {F : (List AU → Option (List PV)) → List PV → Option (List PV)} (h0 : ∀ self, F self [.rows (H6 (zs g n)), .int (n : Int)] = some [.rows (H6 (zs g n))])
    (h1:∀ i self,i<n→F self [.rows (H6 (zs g i)),.int (i:Int)]=self [.rows (H6 (zs g (i+1))),.int (((i+1:Nat)):Int)]):DB F N [.rows [],.int 0]=some [.rows (H6 (zs g n))] :=
  CA (F:=F) (len:=n) (fun i=>[.rows (H6 (zs g i)),.int (i:Int)]) [.rows (H6 (zs g n))] h0 h1 N (by omega)
set_option maxHeartbeats 1000000 in
theorem lh {N:Nat} {L:Rows} (hN:2097152<N) (hL:L.length≤1048576):Ja N [.rows L]=some [.rows (H6 (zs (U3 (Ok L) (ES L L.length)) (opn L L.length)))]:=by
 show Mu (std (J9 N) N) (xOf _)=_;simp only [Mu,Rf,SW,lq9,std,xOf,PXb,l7 hN hL];refine AZ (wY hN hL ?_ ?_) ?_
 ·intro self;simp only [PXb,PXc,PXn,AG,A3]
 ·intro i self hi;have kk:(evR L i).kind=atI L i 0:=rfl;have ky:(evR L i).yes=atB L i 4:=rfl;have e:ES L (i+1)=(ES L i||((evR L i).kind==12&&(evR L i).yes)):=rfl;rw [e,kk,ky];simp only [PXb,PXc,PXn,AG,BN (show i≤1099511627776 by omega),Ay hi,AN hi,C9,jG]
 ·have ol:=Za L L.length;simp only [PXb,PXc,PXn,AG,IP hN hL,PXp,Nk];generalize ES L L.length=en;generalize hn:opn L L.length=n at ol;refine AZ (zf (n:=n) (g:=U3 (Ok L) en) hN (by omega) ?_ ?_) rfl
  ·intro self;simp only [PXb,PXc,PXn,AG,A3]
  ·intro i self hi;have sm:iSm ((i+1:Nat):Int) 8=true:=Gu (by omega) (by omega);rw [← y8];unfold U3;cases h1:(i:Int).tmod 2==1<;>cases h2:(en&&((i:Int)==2||(i:Int)==3)) <;>
    simp only [PXb,PXc,PXn,AG,BN (show i≤1099511627776 by omega),Ay hi,h1,h2,QL,Wm,List.length_append,List.length_cons,List.length_nil,Nat.reduceAdd,sm,Bg]
theorem AAu (xs:List (Int×Int)) (k:Nat) (s:Int×Int) (i:Nat) (hi:i<xs.length):pr (xs.set k s) i=(if k=i then s else pr xs i):=by
 rw [XR,XR,List.getElem?_set]
 by_cases h:k=i
 ·subst h;rw [if_pos rfl,if_pos rfl,if_pos hi]
 ·rw [if_neg h,if_neg h]
theorem AAj (xs:List (Int×Int)) (s:Int×Int) (i:Nat) (hi:i<xs.length+1):pr (xs++[s]) i=(if i<xs.length then pr xs i else s):=by
 rw [XR,XR]
 by_cases h:i<xs.length
 ·rw [if_pos h,List.getElem?_append_left h]
 ·have:i=xs.length:=by omega
  subst this;rw [if_neg h,List.getElem?_append_right (Nat.le_refl _),Nat.sub_self];rfl
theorem Pj {L:Rows} {i:Nat} (h:((evR L i).kind==2)=true):opn L (i+1)=opn L i+1:=by
 show opn L i+cond ((evR L i).kind==2) 1 0=_;rw [h];rfl
theorem YN {L:Rows} {i:Nat} (h:((evR L i).kind==2)=false):opn L (i+1)=opn L i:=by
 show opn L i+cond ((evR L i).kind==2) 1 0=_;rw [h];rfl
theorem Z8 {L : Rows} (hL : L.length ≤ 1048576) : ∀ i, i ≤ L.length → ∀ k, k < opn L i → ∃ a : Nat, (pr (Cc L i) k).1 = (a : Int) ∧ a < i ∧ opn L a = k ∧ ((evR L a).kind == 2) = true ∧
    ((k+1<opn L i∧∃ b:Nat,(pr (Cc L i) k).2=(b:Int)∧b<i∧opn L b=k+1∧((evR L b).kind==2)=true)∨(k+1=opn L i∧(pr (Cc L i) k).2=(L.length:Int)))
  | 0,_,k,hk=>absurd hk (Nat.not_lt_zero k)
  | i+1,hi,k,hk=>by
    have ih:=Z8 hL i (by omega);cases h2:(evR L i).kind==2 with
    | false =>
      rw [YN h2] at hk ⊢;rw [ph h2];obtain ⟨a,h3,h4,h5,h6,h7⟩:=ih k hk;refine ⟨a,h3,by omega,h5,h6,?_⟩
      rcases h7 with ⟨q,b,q1,q2,q3,q4⟩ | q
      · exact Or.inl ⟨q,b,q1,by omega,q3,q4⟩
      · exact Or.inr q
    | true =>
      rw [Pj h2] at hk ⊢;have sl:=Nk L i;have hle:=Za L i;have ha:=fun (j:Nat) (hj:j<opn L i+1)=>AAj (IE (Cc L i) (i:Int)) ((i:Int),(L.length:Int)) j (by rw [Vt,sl];exact hj)
      have e:Cc L (i+1)=IE (Cc L i) (i:Int)++[((i:Int),(L.length:Int))]:=by
        show cond ((evR L i).kind==2) _ _=_;rw [h2];rfl
      rw [e,ha k hk,Vt,sl]
      by_cases hkn:k<opn L i
      · rw [if_pos hkn];obtain ⟨a,h3,h4,h5,h6,h7⟩:=ih k hkn;have hp:0<opn L i:=by omega
        have ix:=(qu hp (by omega)).1;have es:IE (Cc L i) (i:Int)=(Cc L i).set (opn L i - 1) ((pr (Cc L i) (opn L i - 1)).1,(i:Int)):=by
          unfold IE;rw [sl,show iLt 0 (opn L i:Int)=true by simp only [iLt,decide_eq_true_eq];omega,ix];rfl
        rw [es,AAu _ _ _ _ (by rw [sl];exact hkn)]
        by_cases hl:opn L i - 1=k
        · rw [if_pos hl,hl];exact ⟨a,h3,by omega,h5,h6,Or.inl ⟨by omega,i,rfl,by omega,by omega,h2⟩⟩
        · rw [if_neg hl];refine ⟨a,h3,by omega,h5,h6,Or.inl ⟨by omega,?_⟩⟩
          rcases h7 with ⟨q,b,q1,q2,q3,q4⟩ | q
          · exact ⟨b,q1,by omega,q3,q4⟩
          · omega
      · have hke:k=opn L i:=by omega
        rw [if_neg hkn];exact ⟨i,rfl,by omega,hke.symm,h2,Or.inr ⟨by omega,rfl⟩⟩
theorem yE {L:Rows} {a b:Nat} (h:opn L a=opn L b) (ha:((evR L a).kind==2)=true) (hb:((evR L b).kind==2)=true):a=b:=by
 rcases Nat.lt_trichotomy a b with h1 | h1 | h1
 ·have:=E6 L (show a+1≤b by omega);have:=Pj ha;omega
 ·exact h1
 ·have:=E6 L (show b+1≤a by omega);have:=Pj hb;omega
def AR (L:Rows) (k:Nat):Nat:=if k<opn L L.length then (pr (Cc L L.length) k).1.toNat else L.length
structure Seg (L:Rows) (k:Nat):Prop where
 x0:(pr (Cc L L.length) k).1=(AR L k:Int)
 x1:(pr (Cc L L.length) k).2=(AR L (k+1):Int)
 lt:AR L k<AR L (k+1)
 le:AR L (k+1)≤L.length
 o0:opn L (AR L k)=k
 o1:opn L (AR L (k+1))=k+1
 mid:∀ j,AR L k≤j→j<AR L (k+1)→opn L (j+1)=k+1
theorem seg {L:Rows} (hL:L.length≤1048576) {k:Nat} (h:k<opn L L.length):Seg L k:=by
 obtain ⟨a,h1,h2,h3,h4,h5⟩:=Z8 hL L.length (Nat.le_refl _) k h;have p0:AR L k=a:=by unfold AR;rw [if_pos h,h1];rfl
 have key:(pr (Cc L L.length) k).2=(AR L (k+1):Int)∧a<AR L (k+1)∧AR L (k+1)≤L.length∧opn L (AR L (k+1))=k+1:=by
  rcases h5 with ⟨q,b,q1,q2,q3,q4⟩ | ⟨q,q1⟩
  ·obtain ⟨a',g1,g2,g3,g4,_⟩:=Z8 hL L.length (Nat.le_refl _) (k+1) q;have e:a'=b:=yE (g3.trans q3.symm) g4 q4;subst e;have p1:AR L (k+1)=a':=by unfold AR;rw [if_pos q,g1];rfl
   rw [p1];refine ⟨q1,?_,by omega,q3⟩
   rcases Nat.lt_or_ge a a' with hl | hl
   ·exact hl
   ·have:=E6 L hl;omega
  ·have p1:AR L (k+1)=L.length:=by unfold AR;rw [if_neg (by omega)]
   rw [p1];exact ⟨q1,h2,Nat.le_refl _,q.symm⟩
 obtain ⟨k1,k2,k3,k4⟩:=key;refine ⟨by rw [h1,p0],k1,by rw [p0];exact k2,k3,by rw [p0];exact h3,k4,fun j j1 j2=>?_⟩;rw [p0] at j1;have m1:=E6 L (show a+1≤j+1 by omega);have m2:=E6 L (show j+1≤AR L (k+1) by omega);rw [Pj h4] at m1;omega
theorem zh (L:Rows):AR L (opn L L.length)=L.length:=by unfold AR;rw [if_neg (Nat.lt_irrefl _)]
theorem AA0 (L:Rows) {a b:Nat} (i j:Nat) (h:i<b - a):AF ((L.take b).drop a) i j=AF L (a+i) j:=by
 unfold AF AB;rw [zzk,zzk,List.getElem?_drop,List.getElem?_take,if_pos (by omega)]
theorem gR (L:Rows) {a b:Nat} (i:Nat) (h:i<b - a):evR ((L.take b).drop a) i=evR L (a+i):=by
 unfold evR atI atB;simp only [AA0 L i _ h]
theorem ru {L:Rows} {a b:Nat} (h:b≤L.length):((L.take b).drop a).length=b - a:=by
 rw [List.length_drop,List.length_take];omega
def WA (e:Ev):Bool:=cond (e.kind==4) (!(e.ball.how==0)) (cond (e.kind==5) e.yes (cond (e.kind==6) (!e.yes) false))
theorem vP (e:Ev):Bp e=cond (WA e) 1 0:=by
 unfold Bp WA Bj;cases h4:e.kind==4
 ·cases h5:e.kind==5
  ·cases h6:e.kind==6<;>cases e.yes<;>rfl
  ·rw [beq_iff_eq.1 h5];cases e.yes<;>rfl
 ·cases e.ball.how==0<;>rfl
theorem qb {N:Nat} {e0 e1 e2 e3 e5 e6 e7 e8 e9 e10 e11 e13 e14 e15 e16 e18:Int} {e4 e12 e17:Bool}  : MZ N [.int e0,.int e1,.int e2,.int e3,.bool e4,.int e5,.int e6,.int e7,.int e8,.int e9,.int e10,.int e11,.bool e12,.int e13,.int e14,.int e15,.int e16,.bool e17,.int e18]=some [.bool (WA (⟨e0,e1,e2,e3,e4,e5,e6,⟨e7,e8,e9,e10,e11,e12,e13,e14,e15,e16,e17,e18⟩⟩:Ev))]:=by
 show Qd (std (Yb N) N) (xOf _)=_;simp only [Qd,lq9,std,xOf,PXb,PXc,PXn,PXm,Nat.reduceAdd,Int.reduceBEq];unfold WA;simp only;cases e0==4<;>cases e0==5<;>cases e0==6<;>rfl
def sG:Option Nat→Int
 | some j=>(j:Int)
 | none => -1
theorem kv (sd:Nat→Int) (s:Int) (k:Nat):∀ c,c≤k+1→Bd (fun i=>cond (sd (k - i)==s) (some [.int ((k - i:Nat):Int)]) none) c (k+1 - c)=(CD sd s c).map fun j:Nat=>[PV.int (j:Int)]
 | 0,_=>rfl
 | c+1,h=>by
  have ih:=kv sd s k c (by omega);have e1:k - (k+1 - (c+1))=c:=by omega
  have e2:k+1 - (c+1)+1=k+1 - c:=by omega
  simp only [Bd,CD,e1,e2,ih];cases sd c==s<;>rfl
theorem pW (sd:Nat→Int) (s:Int):∀ c i,Bd (fun i=>cond (sd i==s) (some [.int (i:Int)]) none) c i=(QF sd s c i).map fun j:Nat=>[PV.int (j:Int)]
 | 0,_=>rfl
 | c+1,i=>by
  simp only [Bd,QF,pW sd s c (i+1)];cases sd i==s<;>rfl
theorem ur {N : Nat} {sd : Nat → Int} {n k : Nat} {s : Int} (hN : 2097152 < N) (hn : n ≤ 1048576) (hk : k < n) {F G : (List AU → Option (List PV)) → List PV → Option (List PV)}
    (f0:∀ self,F self [.int (-1)]=some [.int 1]) (f1:∀ (j:Nat) self,j<n→F self [.int (j:Int)]=cond (sd j==s) (some [.int 0,.int (j:Int)]) (self [.int ((j:Int) - 1)]))
    (g0:∀ self,G self [.int (n:Int)]=some [.int 1]) (g1:∀ (j:Nat) self,j<n→G self [.int (j:Int)]=cond (sd j==s) (some [.int 0,.int (j:Int)]) (self [.int ((j:Int)+1)])) :
    ((DB F N [.int (k:Int)]).bind fun c=>cond (pvI (AA c 0)==((0:Nat):Int)) (some [PV.int (pvI (AA c 1))]) ((DB G N [.int (IntKind.i64.wrap ((k:Int)+1))]).bind fun c=>cond (pvI (AA c 0)==((0:Nat):Int)) (some [PV.int (pvI (AA c 1))]) (some [PV.int (-1)])))=some [.int (sG (Dh sd n k s))]:=by
  have a1:=YD (F:=F) (len:=k+1) (fun i=>[.int ((k:Int) - (i:Int))]) (fun i=>cond (sd (k - i)==s) (some [.int ((k - i:Nat):Int)]) none)
    (fun self=>by
      show F self [.int ((k:Int) - ((k+1:Nat):Int))]=_;rw [show (k:Int) - ((k+1:Nat):Int) = -1 by omega];exact f0 self)
    (fun i self hi=>by
      show F self [.int ((k:Int) - (i:Int))]=_;rw [show (k:Int) - (i:Int)=((k - i:Nat):Int) by omega,f1 (k - i) self (by omega),show ((k - i:Nat):Int) - 1=(k:Int) - ((i+1:Nat):Int) by omega];cases sd (k - i)==s<;>rfl) (k+1) 0 N (by omega) (by omega)
  have fb:=kv sd s k (k+1) (Nat.le_refl _);rw [Nat.sub_self] at fb;rw [fb] at a1;have a1:DB F N [.int ((k:Int) - ((0:Nat):Int))]=_:=a1;rw [show (k:Int) - ((0:Nat):Int)=(k:Int) by omega] at a1;rw [a1,BO (show k≤1099511627776 by omega)];unfold Dh;cases CD sd s (k+1) with
  | some j=>rfl
  | none =>
    have a2:=DN (F:=G) (len:=n) (fun i=>cond (sd i==s) (some [.int (i:Int)]) none) g0 (fun i self hi=>by rw [g1 i self hi];cases sd i==s<;>rfl) (n - (k+1)) (k+1) N (by omega) (by omega);rw [pW] at a2;rw [show ((k:Int)+1)=((k+1:Nat):Int) by omega,a2];cases QF sd s (n - (k+1)) (k+1)<;>rfl
theorem AAS (n:Int):iLe 0 (-1)=false:=rfl
theorem vL (j:Nat):iLe 0 (j:Int)=true:=by simp only [iLe,decide_eq_true_eq];omega
theorem uA {j:Nat} (h:j≤1048576):IntKind.i64.wrap ((j:Int) - 1)=(j:Int) - 1:=A9 (by omega) (by omega)
set_option maxHeartbeats 1000000 in
theorem qB {N:Nat} {sd:Nat→Int} {n k:Nat} {s:Int} (hN:2097152<N) (hn:n≤1048576) (hk:k<n):Jr N [.rows (H6 (zs sd n)),.int (k:Int),.int s]=some [.int (sG (Dh sd n k s))]:=by
 show QX (std (YT N) N) (xOf _)=_;simp only [QX,lq9,std,xOf,PXb];refine ur hN hn hk ?_ ?_ ?_ ?_
 ·intro self;simp only [PXb,PXc,PXn,AG,AAS 0]
 ·intro j self hj;simp only [PXb,PXc,PXn,AG,vL,QL,Wm,AN hj,C9,tH _ hj,uA (show j≤1048576 by omega)]
 ·intro self;simp only [PXb,PXc,PXn,AG,QL,Wm,A3]
 ·intro j self hj;simp only [PXb,PXc,PXn,AG,QL,Wm,Ay hj,AN hj,C9,tH _ hj,BO (show j≤1099511627776 by omega)]
theorem KO {L:Rows} {f:Ev→Int} {c:Int} (hf:∀ e,0≤f e∧f e≤c) (j:Nat):∀ i:Nat,0≤smi L f j i∧smi L f j i≤c * (i:Int)
 | 0=>by
  have:smi L f j 0=0:=rfl;rw [this];omega
 | i+1=>by
  have ih:=KO (L:=L) hf j i;have h1:=hf (evR L i);rw [CP,show c * ((i+1:Nat):Int)=c * (i:Int)+c by rw [show ((i+1:Nat):Int)=(i:Int)+1 by omega,Int.mul_add,Int.mul_one]];have h2:=hf (evR L i);generalize c * (i:Int)=z at ih ⊢;cases Nat.beq (opn L (i+1)) (j+1)<;>simp only [cond_true,cond_false]<;>omega
theorem AAc (L:Rows) (sd:Nat→Int) (n j:Nat):∀ i:Nat,0≤pnS L sd n j i∧pnS L sd n j i≤5 * (i:Int)
 | 0=>by
  have:pnS L sd n j 0=0:=rfl;rw [this];omega
 | i+1=>by
  have ih:=AAc L sd n j i;rw [XH];cases ((evR L i).kind==13&&isS (Dh sd n (opn L (i+1) - 1) (evR L i).side) j)<;>simp only [cond_true,cond_false]<;>omega
structure Sml (x:Sco):Prop where
 runs:0≤x.runs∧x.runs≤1000000
 wk:0≤x.wickets∧x.wickets≤1000000
 balls:0≤x.balls∧x.balls≤1000000
 wides:0≤x.wides∧x.wides≤1000000
 no:0≤x.noballs∧x.noballs≤1000000
 bb:0≤x.byes∧x.byes≤1000000
 lb:0≤x.legbyes∧x.legbyes≤1000000
 pens:0≤x.pens∧x.pens≤1000000
theorem yd {r:Rul} (h:RulOk r) (e:Ev):0≤Rj r e∧Rj r e≤62:=by
 have c:=Fj h e;have h0:=c.ba;have h1:=c.wi;have h2:=c.no;have h3:=c.bb;have h4:=c.lb;have h5:=c.tot;unfold Rj;omega
theorem rI {r:Rul} (h:RulOk r) (L:Rows) (sd:Nat→Int) (n j:Nat) {i:Nat} (hi:i≤4000):Sml (BI r L sd n j i):=by
 have p:=AAc L sd n j i;have b1:=KO (L:=L) (yd h) j i;have b2:=KO (L:=L) vY j i;have b3:=KO (L:=L) (f:=O6 r) (c:=1) (fun e=>by unfold O6;cases (A1 r e).counts<;>simp) j i;have b4:=KO (L:=L) (f:=fun e=>(A1 r e).wides) (fun e=>(Fj h e).wi) j i;have b5:=KO (L:=L) (f:=fun e=>(A1 r e).noballs) (fun e=>(Fj h e).no) j i;have b6:=KO (L:=L) (f:=fun e=>(A1 r e).byes) (fun e=>(Fj h e).bb) j i;have b7:=KO (L:=L) (f:=fun e=>(A1 r e).legbyes) (fun e=>(Fj h e).lb) j i;unfold BI;constructor<;>(simp only;omega)
theorem S0 {xs ys:List Sco} (hl:xs.length=ys.length) (h:∀ j,j<xs.length→sco xs j=sco ys j):xs=ys:=by
 apply List.ext_getElem?;intro i
 by_cases hi:i<xs.length
 ·have:=h i hi;rw [FG,FG,zzn hi,zzn (by omega)] at this;rw [zzn hi,zzn (by omega)];exact congrArg some this
 ·rw [List.getElem?_eq_none (by omega),List.getElem?_eq_none (by omega)]
def Eo (r:Rul) (L:Rows) (sd:Nat→Int) (n q i:Nat):List Sco:=(List.range n).map fun j=>{ BI r L sd n j i with side:=cond (Nat.blt j q) (sd j) 0 }
theorem Dj (r:Rul) (L:Rows) (sd:Nat→Int) (n q i:Nat):(Eo r L sd n q i).length=n:=by unfold Eo;rw [List.length_map,List.length_range]
theorem H5 (r:Rul) (L:Rows) (sd:Nat→Int) {n q i j:Nat} (h:j<n):sco (Eo r L sd n q i) j={ BI r L sd n j i with side:=cond (Nat.blt j q) (sd j) 0 }:=by
 rw [FG];unfold Eo;rw [List.getElem?_map,List.getElem?_range h];rfl
theorem bO {a b:Nat} (h:a<b):Nat.blt a b=true:=Nat.ble_eq_true_of_le h
theorem nL {a b:Nat} (h:¬ a<b):Nat.blt a b=false:=by
 cases hq:Nat.blt a b with
 | false=>rfl
 | true=>exact absurd (Nat.le_of_ble_eq_true hq) h
theorem XM {xs:List Sco} {k:Nat} (h:k<xs.length) (s:Sco):sco (xs.set k s) k=s:=by rw [Wc _ _ _ _ h,if_pos rfl]
theorem wV {r:Rul} {L:Rows} {sd:Nat→Int} {n k i:Nat} (h:k<n):(Eo r L sd n k i).set k { sco (Eo r L sd n k i) k with side:=sd k }=Eo r L sd n (k+1) i:=by
 refine S0 (by rw [List.length_set,Dj,Dj]) (fun j hj=>?_);rw [List.length_set,Dj] at hj;rw [Wc _ _ _ _ (by rw [Dj];exact hj),H5 _ _ _ h,H5 _ _ _ hj,H5 _ _ _ hj]
 by_cases e:k=j
 ·subst e;rw [if_pos rfl,bO (Nat.lt_succ_self k)];rfl
 ·rw [if_neg e];have:Nat.blt j k=Nat.blt j (k+1):=by
   by_cases hl:j<k
   ·rw [bO hl,bO (by omega)]
   ·rw [nL hl,nL (by omega)]
  rw [this]
theorem zb (r:Rul) (L:Rows) (sd:Nat→Int) (n i:Nat):Eo r L sd n n i=(List.range n).map fun j=>BI r L sd n j i:=by
 refine S0 (by rw [Dj,List.length_map,List.length_range]) (fun j hj=>?_);rw [Dj] at hj;rw [H5 _ _ _ hj,FG,List.getElem?_map,List.getElem?_range hj,bO hj];rfl
theorem wa {r:Rul} {L:Rows} {sd:Nat→Int} {n i:Nat} (ho:opn L i=0) (h13:∀ j,j<i→((evR L j).kind==13)=true→1≤opn L (j+1)):List.replicate n dS=Eo r L sd n 0 i:=by
 have pz:∀ j,pnS L sd n j i=0:=fun j=>by
  have:∀ m,m≤i→pnS L sd n j m=0:=by
   intro m
   induction m with
   | zero=>intro _;rfl
   | succ m ih =>
    intro hm;rw [XH,ih (by omega)];cases k13:(evR L m).kind==13 with
    | false=>rfl
    | true =>
     have h1:=h13 m (by omega) k13;have h2:=E6 L (show m+1≤i by omega);omega
  exact this i (Nat.le_refl i)
 refine S0 (by rw [Dj,List.length_replicate]) (fun j hj=>?_);rw [List.length_replicate] at hj;rw [H5 _ _ _ hj,FG,List.getElem?_replicate,if_pos hj,nL (by omega)];unfold BI;have z:∀ f:Ev→Int,smi L f j i=0:=fun f=>XX i (by omega)
 simp only [pz,z];rfl
theorem Zq {r : Rul} {L : Rows} {sd : Nat → Int} {n k q i : Nat} {y : Sco} (hk : k < n) (hy : y = { BI r L sd n k (i + 1) with side := cond (Nat.blt k q) (sd k) 0 }) (ho : ∀ j, j < n → ¬ k = j → BI r L sd n j (i + 1) = BI r L sd n j i) :
    (Eo r L sd n q i).set k y=Eo r L sd n q (i+1):=by
  refine S0 (by rw [List.length_set,Dj,Dj]) (fun j hj=>?_);rw [List.length_set,Dj] at hj;rw [Wc _ _ _ _ (by rw [Dj];exact hj),H5 _ _ _ hj,H5 _ _ _ hj]
  by_cases e:k=j
  · subst e;rw [if_pos rfl,hy]
  · rw [if_neg e,ho j hj e]
theorem pJ {r:Rul} {L:Rows} {sd:Nat→Int} {n q i:Nat} (ho:∀ j,j<n→BI r L sd n j (i+1)=BI r L sd n j i):Eo r L sd n q i=Eo r L sd n q (i+1):=by
 refine S0 (by rw [Dj,Dj]) (fun j hj=>?_);rw [Dj] at hj;rw [H5 _ _ _ hj,H5 _ _ _ hj,ho j hj]
def mF (r:Rul) (e:Ev) (k:Nat) (d:Option Nat) (xs:List Sco):List Sco :=
  let x1:=cond (WA e) (xs.set k { sco xs k with wickets:=IntKind.i64.wrap ((sco xs k).wickets+1) }) xs
  let c:=AD r e.ball
  cond (e.kind==4)
    (x1.set k { sco x1 k with runs:=IntKind.i64.wrap ((sco x1 k).runs+CT c),balls:=cond c.counts (IntKind.i64.wrap ((sco x1 k).balls+1)) (sco x1 k).balls,wides:=IntKind.i64.wrap ((sco x1 k).wides+c.wides),noballs:=IntKind.i64.wrap ((sco x1 k).noballs+c.noballs),byes:=IntKind.i64.wrap ((sco x1 k).byes+c.byes),legbyes:=IntKind.i64.wrap ((sco x1 k).legbyes+c.legbyes) })
    (cond (e.kind==13) (match d with
      | some j=>x1.set j { sco x1 j with runs:=IntKind.i64.wrap ((sco x1 j).runs+5),pens:=IntKind.i64.wrap ((sco x1 j).pens+5) }
      | none=>x1) x1)
theorem vd {sd:Nat→Int} {n k j:Nat} {s:Int} (hk:k<n) (h:Dh sd n k s=some j):j<n:=by
 rcases (pR h).2 with h | h<;>omega
theorem wQ {r:Rul} {L:Rows} {sd:Nat→Int} {n k i:Nat} (rk:RulOk r) (hk:k<n) (ho:opn L (i+1)=k+1) (hi:i<4000):mF r (evR L i) k (Dh sd n k (evR L i).side) (Eo r L sd n (k+1) i)=Eo r L sd n (k+1) (i+1):=by
 have hn:∀ j,¬ k=j→Nat.beq (opn L (i+1)) (j+1)=false:=fun j hj=>II (by omega)
 have hy:Nat.beq (opn L (i+1)) (k+1)=true:=by rw [ho];exact Lc _
 have sm:=fun j=>rI rk L sd n j (show i≤4000 by omega)
 have cs:=Xz r L sd n;have hp:opn L (i+1) - 1=k:=by omega
 have tl:k<(Eo r L sd n (k+1) i).length:=by rw [Dj];exact hk
 unfold mF;cases h4:(evR L i).kind==4 with
 | true =>
  have k4:=beq_iff_eq.1 h4;have h13:((evR L i).kind==13)=false:=by rw [k4];rfl
  have ce:A1 r (evR L i)=AD r (evR L i).ball:=by unfold A1;rw [h4];rfl
  have co:=Fj rk (evR L i);have tb:=yd rk (evR L i);rw [← ce];have fin:∀ y:Sco,y={ BI r L sd n k (i+1) with side:=cond (Nat.blt k (k+1)) (sd k) 0 }→(Eo r L sd n (k+1) i).set k y=Eo r L sd n (k+1) (i+1):=fun y hyy=>Zq hk hyy (fun j hj hjk=>by
   rw [cs,h13,Bool.false_and,cond_false,Cq,hn j hjk];rfl)
  have ex:BI r L sd n k (i+1)=Pb r (evR L i) (BI r L sd n k i):=by rw [cs,h13,Bool.false_and,cond_false,Cq,hy];rfl
  have s:=sm k;have s1:=s.runs;have s2:=s.wk;have s3:=s.balls;have s4:=s.wides;have s5:=s.no;have s6:=s.bb;have s7:=s.lb;have c1:=co.wi;have c2:=co.no;have c3:=co.bb;have c4:=co.lb;unfold Rj at tb;have w1:IntKind.i64.wrap ((BI r L sd n k i).runs+CT (A1 r (evR L i)))=(BI r L sd n k i).runs+CT (A1 r (evR L i)):=BZ (by omega) (by omega);have w2:IntKind.i64.wrap ((BI r L sd n k i).wickets+1)=(BI r L sd n k i).wickets+1:=BZ (by omega) (by omega);have w3:IntKind.i64.wrap ((BI r L sd n k i).balls+1)=(BI r L sd n k i).balls+1:=BZ (by omega) (by omega);have w4:IntKind.i64.wrap ((BI r L sd n k i).wides+(A1 r (evR L i)).wides)=(BI r L sd n k i).wides+(A1 r (evR L i)).wides:=BZ (by omega) (by omega);have w5:IntKind.i64.wrap ((BI r L sd n k i).noballs+(A1 r (evR L i)).noballs)=(BI r L sd n k i).noballs+(A1 r (evR L i)).noballs:=BZ (by omega) (by omega);have w6:IntKind.i64.wrap ((BI r L sd n k i).byes+(A1 r (evR L i)).byes)=(BI r L sd n k i).byes+(A1 r (evR L i)).byes:=BZ (by omega) (by omega);have w7:IntKind.i64.wrap ((BI r L sd n k i).legbyes+(A1 r (evR L i)).legbyes)=(BI r L sd n k i).legbyes+(A1 r (evR L i)).legbyes:=BZ (by omega) (by omega);have od:=vP (evR L i);cases hb:WA (evR L i) with
  | false =>
   simp only [cond_false,cond_true,H5 _ _ _ hk,w1,w3,w4,w5,w6,w7];refine fin _ ?_;rw [ex];unfold Pb;rw [od,hb];cases (A1 r (evR L i)).counts<;>simp only [cond_false,cond_true,Int.add_zero]
  | true =>
   simp only [cond_true,XM tl,List.set_set,H5 _ _ _ hk,w1,w2,w3,w4,w5,w6,w7];refine fin _ ?_;rw [ex];unfold Pb;rw [od,hb];cases (A1 r (evR L i)).counts<;>simp only [cond_false,cond_true,Int.add_zero]
 | false =>
  have s:=sm k;have s2:=s.wk;have w2:IntKind.i64.wrap ((BI r L sd n k i).wickets+1)=(BI r L sd n k i).wickets+1:=BZ (by omega) (by omega);have od:=vP (evR L i);cases h13:(evR L i).kind==13 with
  | true =>
   have k13:=beq_iff_eq.1 h13;have ob:WA (evR L i)=false:=by unfold WA;rw [k13];rfl
   have oe:Bj (evR L i)=0:=by unfold Bj;rw [k13];rfl
   have ex:∀ j,BI r L sd n j (i+1)=K6 (cond (isS (Dh sd n k (evR L i).side) j) 5 0) (BI r L sd n j i):=fun j=>by
    rw [cs,h13,Bool.true_and,hp,NS _ h4 oe];cases Nat.beq (opn L (i+1)) (j+1)<;>rfl
   simp only [ob,cond_false,cond_true];cases hd:Dh sd n k (evR L i).side with
   | none =>
    refine pJ (fun j hj=>?_);rw [ex,hd];exact Cq _
   | some d =>
    have dl:=vd hk hd;have q:=sm d;have q1:=q.runs;have q2:=q.pens;have v1:IntKind.i64.wrap ((BI r L sd n d i).runs+5)=(BI r L sd n d i).runs+5:=BZ (by omega) (by omega);have v2:IntKind.i64.wrap ((BI r L sd n d i).pens+5)=(BI r L sd n d i).pens+5:=BZ (by omega) (by omega);simp only [H5 _ _ _ dl,v1,v2];refine Zq dl ?_ (fun j hj hjd=>?_)
    ·rw [ex,hd,show isS (some d) d=true from Lc d];rfl
    ·rw [ex,hd,show isS (some d) j=false from II hjd];exact Cq _
  | false =>
   have ex:∀ j,BI r L sd n j (i+1)=cond (Nat.beq (opn L (i+1)) (j+1)) (Pb r (evR L i) (BI r L sd n j i)) (BI r L sd n j i):=fun j=>by
    rw [cs,h13,Bool.false_and,cond_false,Cq]
   have oe:Bp (evR L i)=Bj (evR L i):=by unfold Bp;rw [h4];rfl
   rw [oe] at od;cases hb:WA (evR L i) with
   | false =>
    rw [hb] at od;simp only [cond_false];refine pJ (fun j hj=>?_);rw [ex,NS _ h4 od];cases Nat.beq (opn L (i+1)) (j+1)<;>rfl
   | true =>
    rw [hb] at od;simp only [cond_false,cond_true,H5 _ _ _ hk,w2];refine Zq hk ?_ (fun j hj hjk=>?_)
    ·rw [ex,hy,cond_true,dL _ h4,od];rfl
    ·rw [ex,hn j hjk];rfl
def sdT (L:Rows):Nat→Int:=U3 (Ok L) (ES L L.length)
def RK (r:Rul) (L:Rows) (sd:Nat→Int):List Sco:=(List.range (opn L L.length)).map fun j=>BI r L sd (opn L L.length) j L.length
structure InLog (L:Rows):Prop where
 len:L.length≤4000
 pen:∀ j,j<L.length→((evR L j).kind==13)=true→1≤opn L (j+1)
set_option maxHeartbeats 4000000 in
theorem vm {N : Nat} {r : Rul} {L : Rows} {k : Nat} (hN : 2097152 < N) (il : InLog L) (rk : RulOk r) (hk : k < opn L L.length) {F : (List AU → Option (List PV)) → List PV → Option (List PV)}
    (f0:∀ xs self,F self [.rows (A5 xs),.int ((AR L (k+1) - AR L k:Nat):Int)]=some [.rows (A5 xs),.int ((AR L (k+1) - AR L k:Nat):Int)])
    (f1:∀ (i:Nat) self,i<AR L (k+1) - AR L k→∀ xs:List Sco,xs.length=opn L L.length→F self [.rows (A5 xs),.int (i:Int)]=self [.rows (A5 (mF r (evR L (AR L k+i)) k (Dh (sdT L) (opn L L.length) k (evR L (AR L k+i)).side) xs)),.int ((i+1:Nat):Int)]) :
    DB F N [.rows (A5 (Eo r L (sdT L) (opn L L.length) (k+1) (AR L k))),.int 0]=some [.rows (A5 (Eo r L (sdT L) (opn L L.length) (k+1) (AR L (k+1)))),.int ((AR L (k+1) - AR L k:Nat):Int)]:=by
  have sg:=seg (by have:=il.len;omega) hk;have h1:=sg.lt;have h2:=sg.le;have h3:=il.len;have e:AR L k+(AR L (k+1) - AR L k)=AR L (k+1):=by omega
  have:=CA (F:=F) (len:=AR L (k+1) - AR L k) (fun i=>[.rows (A5 (Eo r L (sdT L) (opn L L.length) (k+1) (AR L k+i))),.int (i:Int)]) [.rows (A5 (Eo r L (sdT L) (opn L L.length) (k+1) (AR L (k+1)))),.int ((AR L (k+1) - AR L k:Nat):Int)]
    (fun self=>by
      show F self [.rows (A5 (Eo r L (sdT L) (opn L L.length) (k+1) (AR L k+(AR L (k+1) - AR L k)))),_]=_;rw [e];exact f0 _ self)
    (fun i self hi=>by
      show F self [.rows (A5 (Eo r L (sdT L) (opn L L.length) (k+1) (AR L k+i))),.int (i:Int)]=_;rw [f1 i self hi _ (Dj _ _ _ _ _ _),wQ rk hk (sg.mid _ (by omega) (by omega)) (by omega)];rfl) N (by omega)
  exact this
theorem AA5 (L:Rows) (i:Nat):(⟨pvI (AF L i 0),pvI (AF L i 1),pvI (AF L i 2),pvI (AF L i 3),pvB (AF L i 4),pvI (AF L i 5),pvI (AF L i 6),⟨pvI (AF L i 7),pvI (AF L i 8),pvI (AF L i 9),pvI (AF L i 10),pvI (AF L i 11),pvB (AF L i 12),pvI (AF L i 13),pvI (AF L i 14),pvI (AF L i 15),pvI (AF L i 16),pvB (AF L i 17),pvI (AF L i 18)⟩⟩:Ev)=evR L i:=rfl
set_option maxHeartbeats 4000000 in
theorem jY {N:Nat} {r1 r2 r3 r4 r5 r6 r7 r9 r10 r11 r12:Int} {r8:Bool} {r0:ByteArray} {r13:Rows} {L:Rows} (hN:2097152<N) (hs:r0.size≤1048576) (h13:r13.length≤1048576) (hL:L.length≤1048576) (il:Ak (⟨r0,r1,r2,r3,r4,r5,r6,r7,r8,r9,r10,r11,r12,r13⟩:Rul) L=0→InLog L∧RulOk (⟨r0,r1,r2,r3,r4,r5,r6,r7,r8,r9,r10,r11,r12,r13⟩:Rul)):Id N [.str r0,.int r1,.int r2,.int r3,.int r4,.int r5,.int r6,.int r7,.bool r8,.int r9,.int r10,.int r11,.int r12,.rows r13,.rows L]=some [.rows (cond (!(Ak (⟨r0,r1,r2,r3,r4,r5,r6,r7,r8,r9,r10,r11,r12,r13⟩:Rul) L==0)) [] (A5 (RK (⟨r0,r1,r2,r3,r4,r5,r6,r7,r8,r9,r10,r11,r12,r13⟩:Rul) L (sdT L)))),.int (Ak (⟨r0,r1,r2,r3,r4,r5,r6,r7,r8,r9,r10,r11,r12,r13⟩:Rul) L)]:=by
  show LR (std (CX N) N) (xOf _)=_;generalize hres:(some [.rows (cond (!(Ak (⟨r0,r1,r2,r3,r4,r5,r6,r7,r8,r9,r10,r11,r12,r13⟩:Rul) L==0)) [] (A5 (RK (⟨r0,r1,r2,r3,r4,r5,r6,r7,r8,r9,r10,r11,r12,r13⟩:Rul) L (sdT L)))),.int (Ak (⟨r0,r1,r2,r3,r4,r5,r6,r7,r8,r9,r10,r11,r12,r13⟩:Rul) L)]:Option (List PV))=RR;simp only [LR,Tz,RI,Gr,RP,Ke,Hj,UB,lq9,std,xOf,PXb,QY hN hs h13 hL];subst hres;cases hc:Ak (⟨r0,r1,r2,r3,r4,r5,r6,r7,r8,r9,r10,r11,r12,r13⟩:Rul) L==0 with
  | false=>rfl
  | true =>
    have c0:=beq_iff_eq.1 hc;obtain ⟨il,rk⟩:=il c0;have ol:=Za L L.length;have l4:=il.len;have s80:iSm ((opn L L.length:Nat):Int) 80=true:=Gu (by omega) (by omega);rw [c0];simp only [PXb,Bool.not_true,lh hN hL,QL,Wm,s80,IP hN hL,zE];have st:List.replicate (opn L L.length) dS=Eo (⟨r0,r1,r2,r3,r4,r5,r6,r7,r8,r9,r10,r11,r12,r13⟩:Rul) L (sdT L) (opn L L.length) 0 (AR L 0):=by
      refine wa ?_ (fun j hj=>il.pen j ?_)
      · by_cases h0:0<opn L L.length
        · exact (seg hL h0).o0
        · unfold AR;rw [if_neg h0];omega
      · have : AR L 0 ≤ L.length := by
          by_cases h0:0<opn L L.length
          · have:=(seg hL h0).lt;have:=(seg hL h0).le;omega
          · unfold AR;rw [if_neg h0];exact Nat.le_refl _
        omega
    rw [st];refine AZ (CA (len:=opn L L.length) (fun k=>[.rows (A5 (Eo (⟨r0,r1,r2,r3,r4,r5,r6,r7,r8,r9,r10,r11,r12,r13⟩:Rul) L (sdT L) (opn L L.length) k (AR L k))),.int (k:Int)]) [.rows (A5 (RK (⟨r0,r1,r2,r3,r4,r5,r6,r7,r8,r9,r10,r11,r12,r13⟩:Rul) L (sdT L)))] ?_ ?_ N (by omega)) ?_
    · intro self;simp only [PXb,PXc,PXn,AG,PXp,Nk,A3,zh,zb];rfl
    · intro k self hk;have sg:=seg hL hk;have sgl:=sg.lt;have sge:=sg.le;have rg:iRg (AR L k:Int) (AR L (k+1):Int) (L.length:Int)=true:=by simp only [iRg,decide_eq_true_eq];omega
      have zk:atI (H6 (zs (sdT L) (opn L L.length))) k 0=sdT L k:=tH _ hk;have sl:=ru (L:=L) (a:=AR L k) sge;have zk':pvI (AF (H6 (zs (U3 (Ok L) (ES L L.length)) (opn L L.length))) k 0)=sdT L k:=zk;simp only [PXb,PXc,PXn,AG,PXp,PXs,Nk,BN (show k≤1099511627776 by omega),Ay hk,AN hk,Dj,QL,Wm,sg.x0,sg.x1,rg,zk',PXt,wV hk];generalize hX:List.drop (AR L k) (List.take (AR L (k+1)) L)=X at *
      refine AZ (vm hN il rk hk ?_ ?_) ?_
      · intro xs self;simp only [PXb,PXc,PXn,AG,sl,A3]
      · intro i self hi xs hx;have hev:evR X i=evR L (AR L k+i):=by rw [← hX];exact gR L i hi
        simp only [PXb,PXc,PXn,AG,PXc,sl,BN (show i≤1099511627776 by omega),Ay hi,AN hi,Nat.reduceAdd,Ke,qb,AA5,hev];have hk':k<xs.length:=by rw [hx];exact hk
        generalize hd:Dh (sdT L) (opn L L.length) k (evR L (AR L k+i)).side=d;have kx:pvI (AF X i 0)=(evR L (AR L k+i)).kind:=congrArg Ev.kind hev;have sx:pvI (AF X i 1)=(evR L (AR L k+i)).side:=congrArg Ev.side hev;have LD:Jr N [.rows (H6 (zs (U3 (Ok L) (ES L L.length)) (opn L L.length))),.int (k:Int),.int (evR L (AR L k+i)).side]=some [.int (sG d)]:=by rw [← hd];exact qB hN (by omega) hk
        have bx:(⟨pvI (AF X i 7),pvI (AF X i 8),pvI (AF X i 9),pvI (AF X i 10),pvI (AF X i 11),pvB (AF X i 12),pvI (AF X i 13),pvI (AF X i 14),pvI (AF X i 15),pvI (AF X i 16),pvB (AF X i 17),pvI (AF X i 18)⟩:Del)=(evR L (AR L k+i)).ball:=congrArg Ev.ball hev;rw [kx];unfold mF;cases ho:WA (evR L (AR L k+i))<;>cases h4:(evR L (AR L k+i)).kind==4<;>cases h13:(evR L (AR L k+i)).kind==13
        all_goals simp only [PXb,PXc,PXn,AG,PXc,PXs,PXt,Nat.reduceAdd,Gr,L7,bx,sx,LD,Hj,Ta,List.length_set,AN hk',hk',XM hk',List.set_set,Cre.ls,ho,h4,h13]
        all_goals first
          | (cases (AD (⟨r0,r1,r2,r3,r4,r5,r6,r7,r8,r9,r10,r11,r12,r13⟩:Rul) (evR L (AR L k+i)).ball).counts<;>rfl)
          | (cases d with
             | none=>rfl
             | some j =>
               have dl:j<xs.length:=by rw [hx];exact vd hk hd
               have dl2:∀ y s,sco ((xs.set k y).set j s) j=s:=fun y s=>XM (by rw [List.length_set];exact dl) s
               simp only [sG,PXb,vL,AN dl,List.length_set,XM dl,List.set_set,dl2])
      · simp only [PXb,PXc,PXn,AG,PXc,PXb,PXc,PXn,PXm,Nat.reduceAdd,Int.reduceBEq]
    · simp only [PXb,PXc,PXn,PXm,Nat.reduceAdd,Int.reduceBEq]
theorem Bc {r:Rul} {L:Rows} (h:Ak r L=0):((AK r).2==0)=true∧BJ r=0∧L.length≤4000∧acc L L.length 0 (AK r).1∧BD r L=(stM L L.length 0 (AK r).1,-1,0):=by
 unfold Ak at h;cases hc:BJ r==0 with
 | false=>rw [hc] at h;rw [show BJ r=0 from h] at hc;cases hc
 | true =>
  cases hl:iLt 4000 (L.length:Int) with
  | true=>rw [hc,hl] at h;cases h
  | false =>
   cases hr:(BD r L).2.2==0 with
   | false=>rw [hc,hl,hr] at h;cases h
   | true =>
    have hn:=(dq r).trans hc;have hrep:BD r L=Ew L L.length 0 (AK r).1:=by unfold BD;rw [hn];rfl
    obtain ⟨k,h1,h2,h3,h4⟩:=P9 L L.length 0 (AK r).1;have l4:L.length≤4000:=by simp only [iLt,decide_eq_false_iff_not] at hl;omega
    rcases h4 with ⟨h5,h6⟩ | ⟨h5,h6,h7⟩
    ·subst h5;exact ⟨hn,beq_iff_eq.1 hc,l4,h2,hrep.trans h6⟩
    ·rw [hrep,h7] at hr;rw [h6] at hr;cases hr
theorem mD {r:Rul} {L:Rows} (h:Ak r L=0):InLog L∧RulOk r:=by
 obtain ⟨h1,h2,h3,h4,h5⟩:=Bc h;obtain ⟨_,_,h6⟩:=Er h1 h4 L.length (Nat.le_refl _);refine ⟨⟨h3,fun j hj k13=>?_⟩,Dm h2⟩;have e:=beq_iff_eq.1 k13;have:=(h6 j hj).2.play (by rw [e];rfl) (by rw [e];rfl) (by rw [e];rfl) (by rw [e];rfl);exact Nat.le_trans this (Kv L j)
theorem tn {r:Rul} {L:Rows} (h:Ak r L=0) {j:Nat} (hj:j<opn L L.length):j≤3∧(Ok L=1∨Ok L=2)∧sdT L j=sdF L L.length j∧mB (Ok L) (ES L L.length) j=sdF L L.length j:=by
 obtain ⟨h1,h2,h3,h4,h5⟩:=Bc h;obtain ⟨_,_,h6⟩:=Er h1 h4 L.length (Nat.le_refl _);obtain ⟨a,p1,p2,p3,p4,p5⟩:=Z8 (L:=L) (by omega) L.length (Nat.le_refl _) j hj;obtain ⟨q1,v,q2,q3⟩:=(h6 a p2).2.two p4;rw [p3] at q1;have f:=WE q2 (show a≤L.length by omega);have fs:Ok L=v:=by unfold Ok;rw [f];rfl
 have oo:Bg (Bg (Ok L))=Ok L:=by rw [fs];rcases q3 with e | e<;>rw [e]<;>decide
 have un:=yx (Ok L) (ES L L.length) q1;refine ⟨q1,by rw [fs];exact q3,?_,un⟩;unfold sdT;rw [zP oo];exact un
theorem lO {f g:Nat→Int} {s:Int} {n k:Nat} (h:∀ j,j<n→f j=g j) (hk:k<n):Dh f n k s=Dh g n k s:=by
 unfold Dh;rw [SU (f:=f) (g:=g) (k+1) (fun j hj=>h j (by omega))];have fw:∀ c i,i+c≤n→QF f s c i=QF g s c i:=by
  intro c
  induction c with
  | zero=>intro i _;rfl
  | succ c ih =>
   intro i hi;unfold QF;rw [h i (by omega),ih (i+1) (by omega)]
 rw [fw _ _ (by omega)]
theorem vG {r:Rul} {L:Rows} {f g:Nat→Int} {j:Nat} (h:∀ j,j<opn L L.length→f j=g j) (hj:j<opn L L.length):BI r L f (opn L L.length) j L.length=BI r L g (opn L L.length) j L.length:=by
 have pn:∀ i,i≤L.length→pnS L f (opn L L.length) j i=pnS L g (opn L L.length) j i:=by
  intro i
  induction i with
  | zero=>intro _;rfl
  | succ i ih =>
   intro hi;have:=E6 L hi;rw [XH,XH,ih (by omega),lO h (show opn L (i+1) - 1<opn L L.length by omega)]
 unfold BI;rw [pn _ (Nat.le_refl _),h j hj]
theorem zF {r:Rul} {L:Rows} (h:Ak r L=0):RK r L (sdT L)=(BD r L).1.inns.map (Be r.balls)∧(BD r L).1.inns.length=opn L L.length∧(BD r L).1.rules=r∧(BD r L).2.1 = -1∧(BD r L).2.2=0:=by
 obtain ⟨h1,h2,h3,h4,h5⟩:=Bc h;have cl:=hC h1 h4 L.length (Nat.le_refl _);obtain ⟨li,so,_⟩:=Er h1 h4 L.length (Nat.le_refl _);have e:EA (stM L L.length 0 (AK r).1)=EA (BD r L).1:=by rw [h5]
 have rl:(BD r L).1.rules=r:=by rw [h5];exact so.rules
 refine ⟨?_,by rw [h5];exact li.len,rl,by rw [h5],by rw [h5]⟩;have ax:(EA (BD r L).1).xs=(BD r L).1.inns.map (Be r.balls):=by unfold EA;rw [rl]
 rw [← ax,← e];refine S0 (by rw [cl.len];unfold RK;rw [List.length_map,List.length_range]) (fun j hj=>?_);have hj:j<opn L L.length:=by unfold RK at hj;rw [List.length_map,List.length_range] at hj;exact hj
 rw [cl.at' j hj,← vG (fun j hj=>(tn h hj).2.2.1) hj,FG];unfold RK;rw [List.getElem?_map,List.getElem?_range hj];rfl
theorem AAa {r:Rul} {L:Rows} {sd:Nat→Int} {j:Nat} (h:j<opn L L.length):sco (RK r L sd) j=BI r L sd (opn L L.length) j L.length:=by
 rw [FG];unfold RK;rw [List.getElem?_map,List.getElem?_range h];rfl
def prA (r:Rul) (L:Rows) (k p:Nat):Cre:=⟨smi L (fun e=>(A1 r e).batter) k p,smi L (fun e=>(A1 r e).wides) k p,smi L (fun e=>(A1 r e).noballs) k p,smi L (fun e=>(A1 r e).byes) k p,smi L (fun e=>(A1 r e).legbyes) k p,smi L (fun e=>(A1 r e).bowler) k p,false,false,false,false⟩
theorem ABv {r:Rul} (h:RulOk r) (e:Ev):0≤(A1 r e).bowler∧(A1 r e).bowler≤36:=by
 have c:=Fj h e;have h0:=c.ba;have h1:=c.wi;have h2:=c.no;have h3:=c.bo;omega
theorem kz {L:Rows} {f:Ev→Int} {k p:Nat} (h:opn L p=k+1) (hp:p≤L.length) (hn:p=L.length∨((evR L p).kind==2)=true):∀ c,p+c≤L.length→smi L f k (p+c)=smi L f k p
 | 0,_=>rfl
 | c+1,hc=>by
  rw [show p+(c+1)=p+c+1 by omega,CP,kz h hp hn c (by omega)]
  rcases hn with hn | hn
  ·omega
  ·have:=E6 L (show p+1≤p+c+1 by omega);rw [Pj hn] at this;rw [II (by omega),cond_false,Int.add_zero]
theorem kc {L:Rows} (hL:L.length≤1048576) {k:Nat} (hk:k<opn L L.length):AR L (k+1)=L.length∨((evR L (AR L (k+1))).kind==2)=true:=by
 by_cases h:k+1<opn L L.length
 ·obtain ⟨a,p1,p2,p3,p4,p5⟩:=Z8 hL L.length (Nat.le_refl _) (k+1) h;have:AR L (k+1)=a:=by unfold AR;rw [if_pos h,p1];rfl
  rw [this];exact Or.inr p4
 ·exact Or.inl (by unfold AR;rw [if_neg h])
theorem yh {L:Rows} (hL:L.length≤1048576) {f:Ev→Int} {k:Nat} (hk:k<opn L L.length):smi L f k L.length=smi L f k (AR L (k+1)):=by
 have sg:=seg hL hk;have:=kz (f:=f) sg.o1 sg.le (kc hL hk) (L.length - AR L (k+1)) (by have:=sg.le;omega);rw [show AR L (k+1)+(L.length - AR L (k+1))=L.length by have:=sg.le;omega] at this;exact this
def ON (k s p o:Int) (y:Bool) (t f n b h v:Int):List PV:=[.int k,.int s,.int p,.int o,.bool y,.int 0,.int 0,.int t,.int f,.int n,.int 0,.int b,.bool false,.int h,.int v,.int 0,.int 0,.bool false,.int 0]
def BW:Rows:=[ON 1 1 0 0 true 0 0 0 0 0 0,ON 2 0 1 2 false 0 0 0 0 0 0,ON 8 0 2 0 false 0 0 0 0 0 0,ON 3 0 1 0 false 0 0 0 0 0 0,ON 4 0 0 0 false 1 1 1 0 0 0,ON 4 0 0 0 false 1 0 0 0 1 1,ON 2 0 2 1 false 0 0 0 0 0 0,ON 8 0 1 0 false 0 0 0 0 0 0,ON 3 0 2 0 false 0 0 0 0 0 0,ON 4 0 0 0 false 2 0 0 0 0 0,ON 4 0 0 0 false 1 1 0 4 0 0]
def B2:Rul:=⟨⟨#[84,69,83,84]⟩,2,1,1,4,0,1,1,false,0,0,0,11,[]⟩
theorem yW:Kc 4194304 []=some [.rows BW]:=by kernel_rfl
theorem qy:HV 4194304 []=some B2.ls:=by kernel_rfl
theorem ra:Ak B2 BW=0:=by kernel_rfl
theorem ABV:RK B2 BW (sdT BW)=[⟨1,1,1,2,0,0,0,0,0,0⟩,⟨2,5,0,1,1,0,0,0,0,0⟩]:=by kernel_rfl
theorem ABb:GW (Cc BW BW.length)=[[.int 1,.int 6],[.int 6,.int 11]]:=by kernel_rfl
theorem CW {x:Option (List PV)} {v:List PV} {f:List PV→Option (List PV)} {r:Option (List PV)} (h:x=some v) (hk:f v=r):x.bind f=r:=by rw [h];exact hk
theorem ABX {r:Rul} (rk:RulOk r) (L:Rows) (k:Nat) {p:Nat} (hp:p≤4000):(0≤(prA r L k p).batter∧(prA r L k p).batter≤100000)∧(0≤(prA r L k p).wides∧(prA r L k p).wides≤100000)∧(0≤(prA r L k p).noballs∧(prA r L k p).noballs≤100000)∧(0≤(prA r L k p).byes∧(prA r L k p).byes≤100000)∧(0≤(prA r L k p).legbyes∧(prA r L k p).legbyes≤100000):=by
 have b0:=KO (L:=L) (f:=fun e=>(A1 r e).batter) (fun e=>(Fj rk e).ba) k p;have b1:=KO (L:=L) (f:=fun e=>(A1 r e).wides) (fun e=>(Fj rk e).wi) k p;have b2:=KO (L:=L) (f:=fun e=>(A1 r e).noballs) (fun e=>(Fj rk e).no) k p;have b3:=KO (L:=L) (f:=fun e=>(A1 r e).byes) (fun e=>(Fj rk e).bb) k p;have b4:=KO (L:=L) (f:=fun e=>(A1 r e).legbyes) (fun e=>(Fj rk e).lb) k p;unfold prA;simp only;omega
theorem qx {r:Rul} (rk:RulOk r) (L:Rows) (k:Nat):∀ p,smi L (Rj r) k p=(prA r L k p).batter+(prA r L k p).wides+(prA r L k p).noballs+(prA r L k p).byes+(prA r L k p).legbyes∧(prA r L k p).bowler=(prA r L k p).batter+(prA r L k p).wides+(prA r L k p).noballs
 | 0=>⟨rfl,rfl⟩
 | p+1=>by
  obtain ⟨h1,h2⟩:=qx rk L k p;have c:=Fj rk (evR L p);have c1:=c.tot;have c2:=c.bo;unfold prA at h1 h2 ⊢;simp only [CP] at h1 h2 ⊢;unfold Rj;unfold Rj at h1;cases Nat.beq (opn L (p+1)) (k+1)<;>simp only [cond_true,cond_false]<;>omega
theorem Xx {L:Rows}:∀ k i m out,M0 L (k+1) i m out=cond ((evR L (i+k)).kind==4) (M0 L k i m out++[Bh ((i+k:Nat):Int) (stM L k i m) (A7 ((i+k:Nat):Int) (stM L k i m) (evR L (i+k))).1 (evR L (i+k)).ball]) (M0 L k i m out)
 | 0,i,m,out=>rfl
 | k+1,i,m,out=>by
  have ih:=Xx (L:=L) k (i+1) (A7 i m (evR L i)).1 (cond ((evR L i).kind==4) (out++[Bh i m (A7 i m (evR L i)).1 (evR L i).ball]) out);rw [show i+1+k=i+(k+1) by omega] at ih;exact ih
def GL (x:List PV):List PV:=[.int (pvI (AA x 0)),.int (pvI (AA x 1)),.int (pvI (AA x 2)),.int (pvI (AA x 3)),.int (pvI (AA x 4)),.int (pvI (AA x 5)),.int (pvI (AA x 6)),.bool (pvB (AA x 7)),.int (pvI (AA x 8)),.int (pvI (AA x 9)),.int (pvI (AA x 10)),.int (pvI (AA x 11)),.int (pvI (AA x 12)),.bool (pvB (AA x 13)),.int (pvI (AA x 14)),.int (pvI (AA x 15)),.int (pvI (AA x 16)),.int (pvI (AA x 17)),.bool (pvB (AA x 18)),.int (pvI (AA x 19)),.int (pvI (AA x 20)),.int (pvI (AA x 21)),.int (pvI (AA x 22)),.int (pvI (AA x 23)),.int (pvI (AA x 24)),.int (pvI (AA x 25)),.bool (pvB (AA x 26)),.bool (pvB (AA x 27)),.bool (pvB (AA x 28)),.bool (pvB (AA x 29)),.int (pvI (AA x 30)),.int (pvI (AA x 31))]
def fil (k:Int):Rows→Rows
 | []=>[]
 | x::D=>cond (pvI (AA x 1)==k) (GL x::fil k D) (fil k D)
theorem iZ (k:Int):∀ A B,fil k (A++B)=fil k A++fil k B
 | [],B=>rfl
 | x::A,B=>by
  show cond _ (GL x::fil k (A++B)) (fil k (A++B))=_;rw [iZ k A B];show _=cond (pvI (AA x 1)==k) (GL x::fil k A) (fil k A)++fil k B;cases pvI (AA x 1)==k<;>rfl
theorem rU (k:Int):∀ D,(fil k D).length≤D.length
 | []=>Nat.le_refl _
 | x::D=>by
  have:=rU k D;show (cond (pvI (AA x 1)==k) (GL x::fil k D) (fil k D)).length≤D.length+1;cases pvI (AA x 1)==k
  ·exact Nat.le_succ_of_le this
  ·exact Nat.succ_le_succ this
theorem Xn {D:Rows} {i:Nat} (h:i<D.length):D.take (i+1)=D.take i++[AB D i]:=by
 rw [List.take_add_one,zzn h];unfold AB;rw [zzk,zzn h];rfl
theorem eT {D:Rows} {i:Nat} {k:Int} (h:i<D.length):fil k (D.take (i+1))=cond (pvI (AF D i 1)==k) (fil k (D.take i)++[GL (AB D i)]) (fil k (D.take i)):=by
 rw [Xn h,iZ];show fil k (D.take i)++cond (pvI (AA (AB D i) 1)==k) [GL (AB D i)] []=_;show _=cond (pvI (AA (AB D i) 1)==k) _ _;cases pvI (AA (AB D i) 1)==k
 ·exact List.append_nil _
 ·rfl
theorem oI {d:Del} (h:(Dp d==0)=true):0≤d.sector∧d.sector≤8:=by
 unfold Dp at h;cases h1:(iLt d.type 1||iLt 3 d.type||iLt 3 d.source||iLt 10 d.how || !btw d.sector 0 8) with
 | true=>rw [h1] at h;cases h
 | false =>
  simp only [btw,iLe,Bool.or_eq_false_iff,Bool.not_eq_false',zzj,decide_eq_true_eq] at h1;exact h1.2
structure BallF (r:Rul) (L:Rows) (a:Nat):Prop where
 one:1≤opn L a
 lnx:lnx (stM L a 0 (AK r).1).inns=opn L a - 1
 inn:IntKind.i64.wrap (((stM L a 0 (AK r).1).inns.length:Int) - 1)=((opn L a - 1:Nat):Int)
 ok:InnOk r (AJ (stM L a 0 (AK r).1))
 rules:(stM L a 0 (AK r).1).rules=r
 ref:(IM r (AJ (stM L a 0 (AK r).1)) (evR L a).ball==0)=true
 over:(AJ (stM L a 0 (AK r).1)).complete≤1000
theorem N1 {r:Rul} {L:Rows} (hc:Ak r L=0) {a:Nat} (ha:a<L.length) (hk:((evR L a).kind==4)=true):BallF r L a:=by
 obtain ⟨h1,h2,h3,h4,h5⟩:=Bc hc;obtain ⟨li,so,_⟩:=Er h1 h4 a (by omega);obtain ⟨_,_,hi⟩:=Er h1 h4 L.length (Nat.le_refl _);have e:=beq_iff_eq.1 hk;have one:=(hi a ha).2.play (by rw [e];rfl) (by rw [e];rfl) (by rw [e];rfl) (by rw [e];rfl);have a0:=MV L.length 0 _ h4 a ha;rw [Nat.zero_add] at a0;have q:=(Tu a0).1;rw [q] at a0;obtain ⟨g1,g2,g3,g4⟩:=Xu a0 hk;have sl:=so.len;have ll:=li.len;have lx:Px.lnx (stM L a 0 (AK r).1).inns=opn L a - 1:=by
  unfold Px.lnx;rw [ll,A9 (by omega) (by omega)];omega
 have rl:=so.rules;obtain ⟨hv,he,hn,hw,hp,hs⟩:=LN g3;rw [rl] at hv hp;have ok:=Fe.1 hv;have hpb:Al r (AJ (stM L a 0 (AK r).1)) (evR L a)=KN r (AJ (stM L a 0 (AK r).1)) (evR L a).ball:=by unfold Al;rw [e];rfl
 rw [hpb] at hp;have cl:=hC h1 h4 a (by omega);have at1:=cl.at' (opn L a - 1) (by omega);have kx:sco (EA (stM L a 0 (AK r).1)).xs (opn L a - 1)=Be r.balls (AJ (stM L a 0 (AK r).1)):=by
  unfold EA AJ;rw [rl,lx];exact Nh _ _ (by omega)
 rw [kx] at at1;have bl:DG r.balls (AJ (stM L a 0 (AK r).1)).complete (AJ (stM L a 0 (AK r).1)).inover=smi L (O6 r) (opn L a - 1) a:=congrArg Sco.balls at1;have be:=(dG ok).1;have cb:=KO (L:=L) (f:=O6 r) (c:=1) (fun e=>by unfold O6;cases (A1 r e).counts<;>simp) (opn L a - 1) a;have q4:=(Dm ok.code).balls;have io:=ok.io;have co:=ok.complete;unfold CK at co;have m1:=Int.mul_le_mul_of_nonneg_left q4.1 co.1;refine ⟨one,lx,by rw [ll,A9 (by omega) (by omega)];omega,ok,rl,(WY hp).1,?_⟩;rw [bl] at be;omega
def Aw (r:Rul) (L:Rows) (k:Nat):Nat→Rows
 | 0=>[]
 | n+1=>cond ((evR L n).kind==4&&Nat.beq (opn L (n+1)) (k+1)) (Aw r L k n++[Bh (n:Int) (stM L n 0 (AK r).1) (stM L (n+1) 0 (AK r).1) (evR L n).ball]) (Aw r L k n)
theorem qq {r:Rul} {L:Rows} (hc:Ak r L=0) (k:Nat):∀ n,n≤L.length→fil (k:Int) (M0 L n 0 (AK r).1 [])=Aw r L k n
 | 0,_=>rfl
 | n+1,hn=>by
  have ih:=qq hc k n (by omega);rw [Xx,Nat.zero_add];have si:=UQ (L:=L) n 0 (AK r).1;rw [Nat.zero_add] at si;show _=cond ((evR L n).kind==4&&Nat.beq (opn L (n+1)) (k+1)) _ (Aw r L k n);cases hk:(evR L n).kind==4 with
  | false=>exact ih
  | true =>
   have bf:=N1 hc (show n<L.length by omega) hk;have on:opn L (n+1)=opn L n:=YN (by rw [beq_iff_eq.1 hk];rfl);rw [cond_true,iZ,ih,← si,on,Bool.true_and];show Aw r L k n++cond (IntKind.i64.wrap (((stM L n 0 (AK r).1).inns.length:Int) - 1)==(k:Int)) [_] []=_;rw [bf.inn];have one:=bf.one
   by_cases e:opn L n=k+1
   ·rw [e,Lc,show ((k+1 - 1:Nat):Int)=(k:Int) by omega,beq_self_eq_true];rfl
   ·rw [II e,beq_false_of_ne (by omega)];exact List.append_nil _
theorem YF {r:Rul} {L:Rows} (hc:Ak r L=0) (k:Nat):fil (k:Int) (Bi r L)=Aw r L k L.length:=by
 obtain ⟨h1,h2,h3,h4,h5⟩:=Bc hc;have:Bi r L=M0 L L.length 0 (AK r).1 []:=by
  unfold Bi;rw [h1];obtain ⟨j,j1,j2,j3,j4⟩:=P9 L L.length 0 (AK r).1;show Ls L L.length 0 (AK r).1 []=_;rw [j3 []]
  rcases j4 with ⟨j5,_⟩ | ⟨j5,j6,j7⟩
  ·rw [j5]
  ·have hh:=MV L.length 0 _ h4 j j5;rw [hh] at j6;cases j6
 rw [this];exact qq hc k L.length (Nat.le_refl _)
structure RowF (r:Rul) (x:List PV):Prop where
 over:∃ o:Nat,o≤1000∧pvI (AA x 2)=(o:Int)
 sector:∃ s:Nat,s≤8∧pvI (AA x 19)=(s:Int)
 striker:1≤pvI (AA x 5)∧pvI (AA x 5)≤r.side
 cre:∃ d,pvI (AA x 20)=(AD r d).batter∧pvI (AA x 21)=(AD r d).wides∧pvI (AA x 22)=(AD r d).noballs∧pvI (AA x 23)=(AD r d).byes∧pvI (AA x 24)=(AD r d).legbyes∧pvI (AA x 25)=(AD r d).bowler
theorem yO {r:Rul} {L:Rows} (hc:Ak r L=0) {a:Nat} (ha:a<L.length) (hk:((evR L a).kind==4)=true) (t:Mat):RowF r (Bh (a:Int) (stM L a 0 (AK r).1) t (evR L a).ball):=by
 have bf:=N1 hc ha hk;obtain ⟨q1,q2,q3,q4,q5,q6⟩:=HT bf.ref;have ls:=oI q4;have co:=bf.ok.complete;unfold CK at co;have st:=bf.ok.st;have over:=bf.over;have beg:Ce (AJ (stM L a 0 (AK r).1)).batters=true:=by
  obtain ⟨h1,h2,h3,h4,h5⟩:=Bc hc;have a0:=MV L.length 0 _ h4 a ha;rw [Nat.zero_add] at a0;have q:=(Tu a0).1;rw [q] at a0;obtain ⟨g1,g2,g3,g4⟩:=Xu a0 hk;exact Xp (LN g3).2.2.2.1 (by rw [beq_iff_eq.1 hk];rfl)
 have z1:=(X2 q1 beg).1;rw [beq_eq_false_iff_ne] at z1;refine ⟨⟨(AJ (stM L a 0 (AK r).1)).complete.toNat,by omega,?_⟩,⟨(evR L a).ball.sector.toNat,by omega,?_⟩,?_,(evR L a).ball,?_⟩
 ·show (AJ (stM L a 0 (AK r).1)).complete=_;omega
 ·show (evR L a).ball.sector=_;omega
 ·show 1≤(AJ (stM L a 0 (AK r).1)).striker∧(AJ (stM L a 0 (AK r).1)).striker≤r.side;omega
 ·have rl:=bf.rules;show (AD (stM L a 0 (AK r).1).rules _).batter=_∧(AD (stM L a 0 (AK r).1).rules _).wides=_∧(AD (stM L a 0 (AK r).1).rules _).noballs=_∧(AD (stM L a 0 (AK r).1).rules _).byes=_∧(AD (stM L a 0 (AK r).1).rules _).legbyes=_∧(AD (stM L a 0 (AK r).1).rules _).bowler=_;rw [rl];exact ⟨rfl,rfl,rfl,rfl,rfl,rfl⟩
theorem ep {r:Rul} {L:Rows} (hc:Ak r L=0) (k:Nat):∀ n,n≤L.length→(Aw r L k n).length≤n∧∀ x,x∈Aw r L k n→RowF r x
 | 0,_=>⟨Nat.le_refl _,fun x hx=>absurd hx (List.not_mem_nil)⟩
 | n+1,hn=>by
  obtain ⟨i1,i2⟩:=ep hc k n (by omega);show (cond ((evR L n).kind==4&&Nat.beq (opn L (n+1)) (k+1)) _ (Aw r L k n)).length≤n+1∧∀ x,x∈cond ((evR L n).kind==4&&Nat.beq (opn L (n+1)) (k+1)) _ (Aw r L k n)→RowF r x;cases hk:(evR L n).kind==4 with
  | false=>exact ⟨Nat.le_succ_of_le i1,i2⟩
  | true =>
   cases Nat.beq (opn L (n+1)) (k+1) with
   | false=>exact ⟨Nat.le_succ_of_le i1,i2⟩
   | true =>
    refine ⟨?_,fun x hx=>?_⟩
    ·show (Aw r L k n++[_]).length≤n+1;rw [List.length_append];exact Nat.succ_le_succ i1
    ·rcases List.mem_append.1 hx with hx | hx
     ·exact i2 x hx
     ·rw [List.mem_singleton.1 hx];exact yO hc (by omega) hk _
structure Ln where
 runs:Int
 balls:Int
 fours:Int
 sixes:Int
 out:Bool
 how:Int
 bowler:Int
 fielder:Int
 batted:Bool
def lnR (p:Int) (l:Ln):List PV:=[.int p,.int l.runs,.int l.balls,.int l.fours,.int l.sixes,.bool l.out,.int l.how,.int l.bowler,.int l.fielder,.bool l.batted]
def ln0:Ln:={ runs:=0,balls:=0,fours:=0,sixes:=0,out:=false,how:=0,bowler:=0,fielder:=0,batted:=false }
def AP (o:List Int) (F:Int→Ln):Rows:=o.map fun p=>lnR p (F p)
theorem Bt (o:List Int) (F:Int→Ln):(AP o F).length=o.length:=List.length_map _
def Aq (p:Int):List Int→Nat
 | []=>0
 | q::r=>cond (q==p) 0 (Aq p r+1)
theorem v7 (p:Int):∀ o,Aq p o≤o.length
 | []=>Nat.le_refl _
 | q::r=>by
  have:=v7 p r;unfold Aq;cases q==p
  ·exact Nat.succ_le_succ this
  ·exact Nat.zero_le _
theorem Ge {p:Int}:∀ {o:List Int},p∈o→Aq p o<o.length∧o.getD (Aq p o) 0=p
 | q::r,h=>by
  unfold Aq;cases hq:q==p with
  | true=>exact ⟨Nat.succ_pos _,beq_iff_eq.1 hq⟩
  | false =>
   rcases List.mem_cons.1 h with rfl | h
   ·rw [beq_self_eq_true] at hq;cases hq
   ·obtain ⟨h1,h2⟩:=Ge h;exact ⟨Nat.succ_lt_succ h1,h2⟩
theorem ui {p:Int}:∀ {o:List Int},p∉o→Aq p o=o.length
 | [],_=>rfl
 | q::r,h=>by
  unfold Aq;have hq:(q==p)=false:=beq_eq_false_iff_ne.2 fun e=>h (e▸zzl)
  rw [hq];exact congrArg (·+1) (ui fun hm=>h (zzm _ hm))
theorem XQ {p:Int} {o:List Int}:Aq p o<o.length↔p∈o:=by
 constructor
 ·intro h
  by_cases hm:p∈o
  ·exact hm
  ·rw [ui hm] at h;omega
 ·intro h;exact (Ge h).1
theorem YE {o:List Int} {F:Int→Ln} {j:Nat} (h:j<o.length):AB (AP o F) j=lnR (o.getD j 0) (F (o.getD j 0)):=by
 unfold AB AP;rw [zzk,List.getElem?_map,zzn h,zzk,zzn h];rfl
theorem iX {o:List Int} {F:Int→Ln} {p:Int} (h:p∈o):AB (AP o F) (Aq p o)=lnR p (F p):=by
 obtain ⟨h1,h2⟩:=Ge h;rw [YE h1,h2]
def B0 (F:Int→Ln) (p:Int) (v:Ln) (q:Int):Ln:=cond (q==p) v (F q)
theorem Il (F:Int→Ln) (p:Int) (v:Ln):B0 F p v p=v:=by unfold B0;rw [beq_self_eq_true];rfl
theorem PZ (F:Int→Ln) (p:Int) (v v':Ln):B0 (B0 F p v) p v'=B0 F p v':=funext fun q=>by
 unfold B0;cases q==p<;>rfl
theorem o6 {F:Int→Ln} {p:Int} {v:Ln}:∀ {o:List Int},o.Nodup→p∈o→(AP o F).set (Aq p o) (lnR p v)=AP o (B0 F p v)
 | q::r,hn,h=>by
  obtain ⟨h1,h2⟩:=List.nodup_cons.1 hn;unfold Aq;cases hq:q==p with
  | true =>
   have e:=beq_iff_eq.1 hq;subst e;show lnR q v::AP r F=lnR q (B0 F q v q)::AP r (B0 F q v);rw [Il];congr 1;unfold AP;refine List.map_congr_left fun x hx=>?_
   have:(x==q)=false:=beq_eq_false_iff_ne.2 fun e=>h1 (e▸hx)
   unfold B0;rw [this];rfl
  | false =>
   rcases List.mem_cons.1 h with rfl | h
   ·rw [beq_self_eq_true] at hq;cases hq
   ·show lnR q (F q)::(AP r F).set (Aq p r) (lnR p v)=lnR q (B0 F p v q)::AP r (B0 F p v);rw [o6 h2 h];unfold B0;rw [hq];rfl
theorem F7 {o : List Int} {F : Int → Ln} {p : Int} {v : Ln} {off : Nat} {vs : List PV} (hn : o.Nodup) (h : p ∈ o) (e : Ac (lnR p (F p)) off vs = lnR p v) :
    (AP o F).set (Aq p o) (Ac (AB (AP o F) (Aq p o)) off vs)=AP o (B0 F p v):=by
  rw [iX h,e,o6 hn h]
theorem yB (o:List Int) (F:Int→Ln) (p:Int) (v:Ln) (h:p∉o):AP o F++[lnR p v]=AP (o++[p]) (B0 F p v):=by
 unfold AP;rw [List.map_append];show _=_++[lnR p (B0 F p v p)];rw [Il];congr 1;refine List.map_congr_left fun x hx=>?_
 have:(x==p)=false:=beq_eq_false_iff_ne.2 fun e=>h (e▸hx)
 unfold B0;rw [this];rfl
theorem tM {o:List Int} {F G:Int→Ln} (h:∀ p,p∈o→F p=G p):AP o F=AP o G:=by
 unfold AP;exact List.map_congr_left fun x hx=>by rw [h x hx]
theorem kD {o : List Int} {F : Int → Ln} {p : Int} {n : Nat} (hn : o.length ≤ n) {G : (List AU → Option (List PV)) → List PV → Option (List PV)} {k : Nat → List AU} {R : List PV} {Q : Nat → List PV}
    (h0:∀ self,G self ((k o.length).map Leaf.pv)=some R)
    (h1:∀ i self,i<o.length→G self ((k i).map Leaf.pv)=cond (o.getD i 0==p) (some (Q i)) (self (k (i+1)))) :
    ∀ (f i:Nat),o.length - i<f→i≤Aq p o→DB G f ((k i).map Leaf.pv)=some (cond (Nat.blt (Aq p o) o.length) (Q (Aq p o)) R):=by
  have below:∀ i,i<Aq p o→(o.getD i 0==p)=false:=fun i hi=>by
    have go:∀ (o:List Int) (i:Nat),i<Aq p o→(o.getD i 0==p)=false:=fun o=>by
      induction o with
      | nil=>intro i hi;exact absurd hi (Nat.not_lt_zero _)
      | cons q r ih =>
        intro i hi;unfold Aq at hi;cases hq:q==p with
        | true=>rw [hq] at hi;exact absurd hi (Nat.not_lt_zero _)
        | false =>
          rw [hq,cond_false] at hi;cases i with
          | zero=>exact hq
          | succ i=>exact ih i (Nat.lt_of_succ_lt_succ hi)
    exact go o i hi
  intro f
  induction f with
  | zero=>intro i hf;exact absurd hf (Nat.not_lt_zero _)
  | succ f ih =>
    intro i hf hi;have pl:=v7 p o
    by_cases hlt:i<o.length
    · show G _ _=_;rw [h1 i _ hlt]
      by_cases hp:i=Aq p o
      · obtain ⟨_,h2⟩:=Ge (XQ.1 (hp▸hlt));rw [hp,h2,beq_self_eq_true,cond_true,show Nat.blt (Aq p o) o.length=true from Nat.ble_eq_true_of_le (hp▸hlt)];rfl
      · rw [below i (by omega),cond_false];exact ih (i+1) (by omega) (by omega)
    · have e:Aq p o=o.length:=by omega
      have e2:i=o.length:=by omega
      show G _ _=_;rw [e2,h0,e,show Nat.blt o.length o.length=false by
        cases hb:Nat.blt o.length o.length with
        | false=>rfl
        | true=>exact absurd (Nat.le_of_ble_eq_true hb) (Nat.lt_irrefl _)]
      rfl
def Di (o:List Int) (p:Int):List Int:=cond (Nat.blt (Aq p o) o.length) o (o++[p])
theorem LV {p:Int} {o:List Int}:Nat.blt (Aq p o) o.length=true↔p∈o:=⟨fun h=>XQ.1 (Nat.le_of_ble_eq_true h),fun h=>Nat.ble_eq_true_of_le (XQ.2 h)⟩
theorem Ii {o:List Int} {p:Int} (h:o.Nodup):(Di o p).Nodup:=by
 unfold Di;cases hb:Nat.blt (Aq p o) o.length with
 | true=>exact h
 | false =>
  rw [cond_false];refine List.nodup_append.2 ⟨h,List.nodup_cons.2 ⟨List.not_mem_nil,List.nodup_nil⟩,fun x hx y hy e=>?_⟩;have hy:=List.mem_singleton.1 hy;rw [e,hy] at hx;have:=LV.2 hx;rw [hb] at this;cases this
theorem Lj {o:List Int} {p q:Int}:q∈Di o p↔q∈o∨q=p:=by
 unfold Di;cases hb:Nat.blt (Aq p o) o.length with
 | true =>
  have:=LV.1 hb;exact ⟨fun h=>.inl h,fun h=>h.elim id fun e=>e▸this⟩
 | false=>rw [cond_false,List.mem_append,List.mem_singleton]
theorem Wa (o:List Int) (p:Int):(Di o p).length≤o.length+1:=by
 unfold Di;cases Nat.blt (Aq p o) o.length
 ·rw [cond_false,List.length_append];exact Nat.le_refl _
 ·exact Nat.le_succ _
def gk (F:Int→Ln) (o:List Int) (p:Int) (b:Bool):Int→Ln:=B0 F p (cond (Nat.blt (Aq p o) o.length) { F p with batted:=(F p).batted||b } { ln0 with batted:=b })
def Bo (L:Rows):Nat→List Int
 | 0=>[]
 | n+1=>cond ((evR L n).kind==2) (Di (Di (Bo L n) (evR L n).player) (evR L n).other) (cond ((evR L n).kind==5) (Di (Bo L n) (evR L n).player) (Bo L n))
def CQ (L:Rows) (p:Int):Nat→Bool
 | 0=>false
 | n+1=>CQ L p n||cond ((evR L n).kind==2) (p==(evR L n).player||p==(evR L n).other) (cond ((evR L n).kind==5) (p==(evR L n).player && !(evR L n).yes) false)
def OY (o:List Int):Nat→List Int
 | 0=>o
 | n+1=>Di (OY o n) ((n:Int)+1)
theorem Iu (L:Rows):∀ n,(Bo L n).Nodup
 | 0=>List.nodup_nil
 | n+1=>by
  have ih:=Iu L n;unfold Bo;cases (evR L n).kind==2 with
  | true=>exact Ii (Ii ih)
  | false =>
   cases (evR L n).kind==5 with
   | true=>exact Ii ih
   | false=>exact ih
theorem X9 (L:Rows):∀ n,(Bo L n).length≤2 * n
 | 0=>Nat.le_refl _
 | n+1=>by
  have ih:=X9 L n;unfold Bo;cases (evR L n).kind==2 with
  | true =>
   have h1:=Wa (Bo L n) (evR L n).player;have h2:=Wa (Di (Bo L n) (evR L n).player) (evR L n).other;show (Di _ _).length≤_;omega
  | false =>
   cases (evR L n).kind==5 with
   | true =>
    have h1:=Wa (Bo L n) (evR L n).player;show (Di _ _).length≤_;omega
   | false=>show (Bo L n).length≤_;omega
theorem LI {o:List Int} (h:o.Nodup):∀ n,(OY o n).Nodup
 | 0=>h
 | n+1=>Ii (LI h n)
theorem eM (o:List Int):∀ n,(OY o n).length≤o.length+n
 | 0=>Nat.le_refl _
 | n+1=>by
  have:=eM o n;have h2:=Wa (OY o n) ((n:Int)+1);show (Di _ _).length≤_;omega
theorem dk {o:List Int} {p:Int}:∀ {n:Nat},p∈OY o n↔p∈o∨(1≤p∧p≤(n:Int))
 | 0=>by
  show p∈o↔_;constructor
  ·exact .inl
  ·rintro (h | h)
   ·exact h
   ·omega
 | n+1=>by
  show p∈Di (OY o n) ((n:Int)+1)↔_;rw [Lj,dk];constructor
  ·rintro ((h | h) | h)
   ·exact .inl h
   ·exact .inr (by omega)
   ·exact .inr (by omega)
  ·rintro (h | h)
   ·exact .inl (.inl h)
   ·by_cases e:p=(n:Int)+1
    ·exact .inr e
    ·exact .inl (.inr (by omega))
theorem US {o:List Int} {F:Int→Ln} {i:Nat} (h:i<o.length):pvI (AF (AP o F) i 0)=o.getD i 0:=by
 unfold AF;rw [YE h];rfl
set_option maxHeartbeats 1000000 in
theorem DY {N:Nat} {o:List Int} {F:Int→Ln} {p:Int} (ho:o.length≤1048576) (hN:2097152<N):Ch N [.rows (AP o F),.rows [[.int p]]]=some [.int (cond (Nat.blt (Aq p o) o.length) (Aq p o:Int) (-1))]:=by
 show Cg (std (CM N) N) (xOf _)=_;simp only [Cg,lq9,std,xOf,PXb];refine AZ (kD (o:=o) (F:=F) (p:=p) (n:=o.length) (Nat.le_refl _) (k:=fun i=>[.int (i:Int)]) (R:=[.int 1]) (Q:=fun i=>[.int 0,.int (i:Int)]) ?_ ?_ N 0 (by omega) (Nat.zero_le _)) ?_
 ·intro self;simp only [PXb,PXc,PXn,AG,Bt,A3,List.map_cons,List.map_nil,Leaf.pv]
 ·intro i self hi;simp only [PXb,PXc,PXn,AG,Bt,BN (show i≤1099511627776 by omega),Ay hi,AN hi,US hi,List.map_cons,List.map_nil,Leaf.pv];rfl
 ·cases Nat.blt (Aq p o) o.length<;>rfl
theorem vz {o : List Int} {F : Int → Ln} {p : Int} {N : Nat} (hN : o.length < N) {G : (List AU → Option (List PV)) → List PV → Option (List PV)} {k1 k2 : List PV → Option (List PV)} {g : Option (List PV)}
    (h0:∀ self,G self [.int (o.length:Int),.int p]=some [.int 1,.int p])
    (h1:∀ i self,i<o.length→G self [.int (i:Int),.int p]=cond (o.getD i 0==p) (some [.int 0,.int (i:Int),.int p]) (self [.int ((i+1:Nat):Int),.int p]))
    (hk:(k1 (cond (Nat.blt (Aq p o) o.length) [.int 0,.int (Aq p o:Int),.int p] [.int 1,.int p])).bind k2=g):((DB G N [.int 0,.int p]).bind k1).bind k2=g:=by
  have:=kD (o:=o) (F:=F) (p:=p) (n:=o.length) (Nat.le_refl _) (k:=fun i=>[.int (i:Int),.int p]) (R:=[.int 1,.int p]) (Q:=fun i=>[.int 0,.int (i:Int),.int p]) (G:=G) h0 h1 N 0 (by omega) (Nat.zero_le _);have e:DB G N [.int 0,.int p]=some (cond (Nat.blt (Aq p o) o.length) [.int 0,.int (Aq p o:Int),.int p] [.int 1,.int p]):=this;rw [e];exact hk
theorem yg {p:Int} {o:List Int} (h:p∉o):Aq p (o++[p])=o.length:=by
 induction o with
 | nil=>show Aq p [p]=0;unfold Aq;rw [beq_self_eq_true];rfl
 | cons q r ih =>
  show Aq p (q::(r++[p]))=_;unfold Aq;have hq:(q==p)=false:=beq_eq_false_iff_ne.2 fun e=>h (e▸zzl)
  rw [hq];exact congrArg (·+1) (ih fun hm=>h (zzm _ hm))
def E7 (B:Int→Bool) (p:Int):Ln:={ ln0 with batted:=B p }
theorem ia {o:List Int} {B:Int→Bool} {p:Int} {b:Bool} (hB:∀ q,q∉o→B q=false):gk (E7 B) o p b=E7 fun q=>B q||(q==p&&b):=funext fun q=>by
 have e:E7 (fun q=>B q||(q==p&&b)) q={ ln0 with batted:=B q||(q==p&&b) }:=rfl;rw [e];unfold gk B0;cases hq:q==p with
 | true =>
  have e:=beq_iff_eq.1 hq;subst e;rw [Bool.true_and,cond_true];cases hb:Nat.blt (Aq q o) o.length with
  | true=>rfl
  | false =>
   have:B q=false:=hB q fun hm=>by rw [LV.2 hm] at hb;cases hb
   rw [this];rfl
 | false =>
  rw [cond_false,Bool.false_and,Bool.or_false];rfl
theorem XE {L:Rows} {p:Int}:∀ n,p∉Bo L n→CQ L p n=false
 | 0,_=>rfl
 | n+1,h=>by
  unfold Bo at h;unfold CQ;cases h2:(evR L n).kind==2 with
  | true =>
   rw [h2,cond_true] at h;have h3:¬ (p∈Di (Bo L n) (evR L n).player∨p=(evR L n).other):=fun hc=>h (Lj.2 hc)
   have h4:¬ (p∈Bo L n∨p=(evR L n).player):=fun hc=>h3 (.inl (Lj.2 hc))
   rw [XE n (fun hc=>h4 (.inl hc)),cond_true,beq_eq_false_iff_ne.2 (fun e=>h4 (.inr e)),beq_eq_false_iff_ne.2 (fun e=>h3 (.inr e))];rfl
  | false =>
   rw [h2,cond_false] at h;cases h5:(evR L n).kind==5 with
   | true =>
    rw [h5,cond_true] at h;have h4:¬ (p∈Bo L n∨p=(evR L n).player):=fun hc=>h (Lj.2 hc)
    rw [XE n (fun hc=>h4 (.inl hc)),beq_eq_false_iff_ne.2 (fun e=>h4 (.inr e))];rfl
   | false =>
    rw [h5,cond_false] at h;rw [XE n h];rfl
def xd (L:Rows) (n:Nat):Rows:=AP (Bo L n) (E7 fun p=>CQ L p n)
def i7 (L:Rows) (k:Nat):Rows:=AP (OY (Bo L L.length) k) (E7 fun p=>CQ L p L.length)
theorem mU {o:List Int} {B:Int→Bool} {p:Int} (hB:∀ q,q∉o→B q=false):gk (E7 B) o p true=E7 fun q=>B q||q==p:=by
 have e:(fun q:Int=>B q||(q==p&&true))=fun q=>B q||q==p:=funext fun q=>by rw [Bool.and_true]
 rw [ia hB,e]
def TL (F:Int→Ln) (o:List Int) (p:Int):Int→Ln:=cond (Nat.blt (Aq p o) o.length) F (B0 F p ln0)
theorem xE {o:List Int} {F:Int→Ln} {p:Int}:AP (Di o p) (TL F o p)=cond (Nat.blt (Aq p o) o.length) (AP o F) (AP o F++[lnR p ln0]):=by
 unfold Di TL;cases hb:Nat.blt (Aq p o) o.length with
 | true=>rfl
 | false =>
  have hm:p∉o:=fun hm=>by rw [LV.2 hm] at hb;cases hb
  exact (yB o F p ln0 hm).symm
theorem iH (o:List Int) (p:Int):p∈Di o p:=Lj.2 (.inr rfl)
theorem zn {o:List Int} {p:Int}:Aq p (Di o p)=cond (Nat.blt (Aq p o) o.length) (Aq p o) o.length:=by
 unfold Di;cases hb:Nat.blt (Aq p o) o.length with
 | true=>rfl
 | false =>
  have hm:p∉o:=fun hm=>by rw [LV.2 hm] at hb;cases hb
  exact yg hm
theorem Xh {o:List Int} {F:Int→Ln} {p:Int} {b:Bool}:B0 (TL F o p) p { TL F o p p with batted:=(TL F o p p).batted||b }=gk F o p b:=by
 unfold TL gk;cases hb:Nat.blt (Aq p o) o.length with
 | true=>rfl
 | false =>
  rw [cond_false,PZ,Il];rfl
theorem bN {o : List Int} {F : Int → Ln} {p : Int} {N : Nat} (hN : o.length < N) (hl : o.length ≤ 100000) {G : (List AU → Option (List PV)) → List PV → Option (List PV)} {K3 : List PV → Option (List PV)} {g : Option (List PV)}
    (h0:∀ self,G self [.int (o.length:Int),.int p]=some [.int 1,.int p])
    (h1:∀ i self,i<o.length→G self [.int (i:Int),.int p]=cond (o.getD i 0==p) (some [.int 0,.int (i:Int),.int p]) (self [.int ((i+1:Nat):Int),.int p]))
    (hk:K3 [.int (Aq p (Di o p):Int),.rows (AP (Di o p) (TL F o p))]=g) :
    ((DB G N [PV.int 0,PV.int p]).bind fun c1=>bif pvI (AA c1 0)==((0:Nat):Int) then some [PV.int (pvI (AA c1 1)),PV.int (pvI (AA c1 2))] else some [PV.int (-1),PV.int (pvI (AA c1 1))]).bind
      (fun c1=>(bif iLt (pvI (AA c1 0)) 0 then bif iSm (((AP o F++[[PV.int (pvI (AA c1 1)),PV.int 0,PV.int 0,PV.int 0,PV.int 0,PV.bool false,PV.int 0,PV.int 0,PV.int 0,PV.bool false]]).length:Nat):Int) 72 then some [PV.int (IntKind.i64.wrap ((((AP o F++[[PV.int (pvI (AA c1 1)),PV.int 0,PV.int 0,PV.int 0,PV.int 0,PV.bool false,PV.int 0,PV.int 0,PV.int 0,PV.bool false]]).length:Nat):Int) - 1)),PV.rows (AP o F++[[PV.int (pvI (AA c1 1)),PV.int 0,PV.int 0,PV.int 0,PV.int 0,PV.bool false,PV.int 0,PV.int 0,PV.int 0,PV.bool false]])] else none else some [PV.int (pvI (AA c1 0)),PV.rows (AP o F)]).bind K3)=g:=by
  refine vz (F:=F) hN h0 h1 ?_;rw [xE,zn] at hk;cases hb:Nat.blt (Aq p o) o.length with
  | true =>
    simp only [hb,cond_true] at hk;have e:iLt (Aq p o:Int) 0=false:=by simp only [iLt,decide_eq_false_iff_not];omega
    simp only [PXb,PXc,PXn,AG,e];exact hk
  | false =>
    simp only [hb,cond_false] at hk;have ll:(AP o F++[lnR p ln0]).length=o.length+1:=by rw [List.length_append,Bt];rfl
    have e2:iSm (((AP o F++[lnR p ln0]).length:Nat):Int) 72=true:=by rw [ll];exact Gu (by omega) (by omega)
    have e3:IntKind.i64.wrap ((((AP o F++[lnR p ln0]).length:Nat):Int) - 1)=(o.length:Int):=by
      rw [ll,A9 (by omega) (by omega)];omega
    have e4:iLt (-1) 0=true:=rfl;have e5:[PV.int p,PV.int 0,PV.int 0,PV.int 0,PV.int 0,PV.bool false,PV.int 0,PV.int 0,PV.int 0,PV.bool false]=lnR p ln0:=rfl;have q:((1:Int)==((0:Nat):Int))=false:=rfl;simp only [PXb,PXc,PXn,AG,q,e4];rw [e5,e2,e3];exact hk
theorem xf {o:List Int} {F:Int→Ln} {p:Int} (h:p∈o):pvB (AF (AP o F) (Aq p o) 9)=(F p).batted:=by unfold AF;rw [iX h];rfl
theorem nR {o : List Int} {F : Int → Ln} {p : Int} {b : Bool} (hn : o.Nodup) (h : p ∈ o) :
    (AP o F).set (Aq p o) (Ac (AB (AP o F) (Aq p o)) 9 [.bool (pvB (AF (AP o F) (Aq p o) 9)||b)])=AP o (B0 F p { F p with batted:=(F p).batted||b }):=by
  rw [xf h,F7 (v:={ F p with batted:=(F p).batted||b }) hn h rfl]
theorem vV {o : List Int} {F : Int → Ln} {p : Int} (hn : o.Nodup) (h : p ∈ o) :
    (AP o F).set (Aq p o) (Ac (AB (AP o F) (Aq p o)) 9 [.bool (pvB (AF (AP o F) (Aq p o) 9))])=AP o (B0 F p { F p with batted:=(F p).batted||false }):=by
  have:=nR (b:=false) hn h (F:=F);rw [Bool.or_false] at this;exact this
set_option maxHeartbeats 8000000 in
theorem fV {N:Nat} {r1 r2 r3 r4 r5 r6 r7 r9 r10 r11 r12:Int} {r8:Bool} {r0:ByteArray} {r13:Rows} {L:Rows} (hN:2097152<N) (hL:L.length≤4000) (h0:0≤r1) (h1:r1≤100):KC N [.str r0,.int r1,.int r2,.int r3,.int r4,.int r5,.int r6,.int r7,.bool r8,.int r9,.int r10,.int r11,.int r12,.rows r13,.rows L]=some [.rows (i7 L r1.toNat)]:=by
 show KE (std (R0 N) N) (xOf _)=_;simp only [KE,lq9,std,xOf,PXb];refine AZ (CA (len:=L.length) (fun i=>[.int (i:Int),.rows (xd L i)]) [.rows (xd L L.length)] ?_ ?_ N (by omega)) ?_
 ·intro self;simp only [PXb,PXc,PXn,AG,A3]
 ·intro i self hi;have on:=Iu L i;have ol:=X9 L i;have wi:IntKind.i64.wrap ((i:Int)+1)=((i+1:Nat):Int):=BN (show i≤1099511627776 by omega);simp only [PXb,PXc,PXn,AG,Ay hi,AN hi,xd];have kk:(evR L i).kind=pvI (AF L i 0):=rfl;have kp:(evR L i).player=pvI (AF L i 2):=rfl;have ko:(evR L i).other=pvI (AF L i 3):=rfl;have ky:(evR L i).yes=pvB (AF L i 4):=rfl;have eo:Bo L (i+1)=cond ((evR L i).kind==2) (Di (Di (Bo L i) (evR L i).player) (evR L i).other) (cond ((evR L i).kind==5) (Di (Bo L i) (evR L i).player) (Bo L i)):=rfl;rw [eo,kk];have no:∀ q,q∉Bo L i→CQ L q i=false:=fun q hq=>XE i hq
  cases h2:pvI (AF L i 0)==2 with
  | true =>
   rw [cond_true,cond_true,← kp,← ko];refine bN (by omega) (by omega) ?_ ?_ ?_
   ·intro self;simp only [PXb,PXc,PXn,AG,Bt,A3]
   ·intro j self hj;simp only [PXb,PXc,PXn,AG,Bt,BN (show j≤1099511627776 by omega),Ay hj,AN hj,US hj]
   ·have i1:=iH (Bo L i) (evR L i).player;have n1:=Ii (p:=(evR L i).player) on;have l1:=Wa (Bo L i) (evR L i).player;simp only [PXb,PXc,PXn,AG,Bt,AN (Ge i1).1,Int.toNat_natCast];rw [F7 (v:={ TL (E7 fun p=>CQ L p i) (Bo L i) (evR L i).player (evR L i).player with batted:=true }) n1 i1 rfl];have a1:B0 (TL (E7 fun p=>CQ L p i) (Bo L i) (evR L i).player) (evR L i).player { TL (E7 fun p=>CQ L p i) (Bo L i) (evR L i).player (evR L i).player with batted:=true }=E7 fun q=>CQ L q i||q==(evR L i).player:=by
     have:=Xh (o:=Bo L i) (F:=E7 fun p=>CQ L p i) (p:=(evR L i).player) (b:=true);rw [Bool.or_true,mU no] at this;exact this
    rw [a1];refine bN (by omega) (by omega) ?_ ?_ ?_
    ·intro self;simp only [PXb,PXc,PXn,AG,Bt,A3]
    ·intro j self hj;simp only [PXb,PXc,PXn,AG,Bt,BN (show j≤1099511627776 by omega),Ay hj,AN hj,US hj]
    ·have i2:=iH (Di (Bo L i) (evR L i).player) (evR L i).other;have n2:=Ii (p:=(evR L i).other) n1;simp only [PXb,PXc,PXn,AG,Bt,AN (Ge i2).1,Int.toNat_natCast];rw [F7 (v:={ TL (E7 fun q=>CQ L q i||q==(evR L i).player) (Di (Bo L i) (evR L i).player) (evR L i).other (evR L i).other with batted:=true }) n2 i2 rfl];have no2:∀ q,q∉Di (Bo L i) (evR L i).player→(CQ L q i||q==(evR L i).player)=false:=fun q hq=>by
      have hq2:¬ (q∈Bo L i∨q=(evR L i).player):=fun hc=>hq (Lj.2 hc)
      rw [no q (fun hc=>hq2 (.inl hc)),beq_eq_false_iff_ne.2 (fun e=>hq2 (.inr e))];rfl
     have a2:=Xh (o:=Di (Bo L i) (evR L i).player) (F:=E7 fun q=>CQ L q i||q==(evR L i).player) (p:=(evR L i).other) (b:=true);rw [Bool.or_true,mU no2] at a2;rw [a2,wi];have a3:(fun q=>(CQ L q i||q==(evR L i).player)||q==(evR L i).other)=fun q=>CQ L q (i+1):=funext fun q=>by
      show _=(CQ L q i||cond ((evR L i).kind==2) (q==(evR L i).player||q==(evR L i).other) _);rw [show ((evR L i).kind==2)=true from h2,cond_true,Bool.or_assoc]
     rw [a3]
  | false =>
   cases h5:pvI (AF L i 0)==5 with
   | true =>
    rw [cond_false,cond_true,cond_false,cond_true,← kp];refine bN (by omega) (by omega) ?_ ?_ ?_
    ·intro self;simp only [PXb,PXc,PXn,AG,Bt,A3]
    ·intro j self hj;simp only [PXb,PXc,PXn,AG,Bt,BN (show j≤1099511627776 by omega),Ay hj,AN hj,US hj]
    ·have i1:=iH (Bo L i) (evR L i).player;have n1:=Ii (p:=(evR L i).player) on;simp only [PXb,PXc,PXn,AG,Bt,AN (Ge i1).1,Int.toNat_natCast];rw [nR n1 i1,Xh,ia no,wi,← ky];have a3:(fun q=>CQ L q i||(q==(evR L i).player && !(evR L i).yes))=fun q=>CQ L q (i+1):=funext fun q=>by
      show _=(CQ L q i||cond ((evR L i).kind==2) _ (cond ((evR L i).kind==5) (q==(evR L i).player && !(evR L i).yes) false));rw [show ((evR L i).kind==2)=false from h2,show ((evR L i).kind==5)=true from h5];rfl
     rw [a3]
   | false =>
    rw [cond_false,cond_false,cond_false,cond_false,wi];have a3:(fun q=>CQ L q i)=fun q=>CQ L q (i+1):=funext fun q=>by
     show _=(CQ L q i||cond ((evR L i).kind==2) _ (cond ((evR L i).kind==5) _ false));rw [show ((evR L i).kind==2)=false from h2,show ((evR L i).kind==5)=false from h5];exact (Bool.or_false _).symm
    rw [a3]
 ·have on:=Iu L L.length;have ol:=X9 L L.length;have no:∀ q,q∉Bo L L.length→CQ L q L.length=false:=fun q hq=>XE L.length hq
  obtain ⟨k,hk⟩:∃ k:Nat,r1=(k:Int):=⟨r1.toNat,by omega⟩;subst hk;rw [Int.toNat_natCast];simp only [PXb,PXc,PXn,AG];refine AZ (CA (len:=k) (fun j=>[.int ((j:Int)+1),.rows (i7 L j)]) [.rows (i7 L k)] ?_ ?_ N (by omega)) rfl
  ·intro self;have e:iLe ((k:Int)+1) (k:Int)=false:=by simp only [iLe,decide_eq_false_iff_not];omega
   simp only [PXb,PXc,PXn,AG,e]
  ·intro j self hj;have e:iLe ((j:Int)+1) (k:Int)=true:=by simp only [iLe,decide_eq_true_eq];omega
   have jn:=LI on j;have jl:=eM (Bo L L.length) j;have no3:∀ q,q∉OY (Bo L L.length) j→CQ L q L.length=false:=fun q hq=>no q fun hc=>hq (dk.2 (.inl hc))
   have eo:i7 L (j+1)=AP (Di (OY (Bo L L.length) j) ((j:Int)+1)) (E7 fun p=>CQ L p L.length):=rfl;rw [eo];simp only [PXb,PXc,PXn,AG,e,i7];refine bN (by omega) (by omega) ?_ ?_ ?_
   ·intro self;simp only [PXb,PXc,PXn,AG,Bt,A3]
   ·intro i self hi;simp only [PXb,PXc,PXn,AG,Bt,BN (show i≤1099511627776 by omega),Ay hi,AN hi,US hi]
   ·have i1:=iH (OY (Bo L L.length) j) ((j:Int)+1);have n1:=Ii (p:=(j:Int)+1) jn;have wj:IntKind.i64.wrap ((j:Int)+1+1)=((j+1:Nat):Int)+1:=by rw [A9 (by omega) (by omega)];omega
    have a3:(fun q=>CQ L q L.length||(q==(j:Int)+1&&false))=fun q=>CQ L q L.length:=funext fun q=>by rw [Bool.and_false,Bool.or_false]
    simp only [PXb,PXc,PXn,AG,Bt,AN (Ge i1).1,Int.toNat_natCast];rw [vV n1 i1,Xh,ia no3,a3,wj]
structure Up (x y:Sco):Prop where
 side:y.side=x.side
 runs:x.runs≤y.runs
 wk:x.wickets≤y.wickets
 balls:x.balls≤y.balls
theorem Up.refl (x:Sco):Up x x:=⟨rfl,Int.le_refl _,Int.le_refl _,Int.le_refl _⟩
def CR (L:Rows) (k:Nat):Rows:=List.drop (AR L k) (List.take (AR L (k+1)) L)
theorem dp {L:Rows} (hL:L.length≤1048576) {k:Nat} (hk:k<opn L L.length):(CR L k).length=AR L (k+1) - AR L k:=ru (seg hL hk).le
end Go.Px
end
