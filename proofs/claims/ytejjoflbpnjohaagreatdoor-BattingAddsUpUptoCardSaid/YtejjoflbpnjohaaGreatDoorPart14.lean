/- Part 14. -/
import Derived.Test.YtejjoflbpnjohaaGreatDoorPart13
import Derived.KernelRfl
set_option linter.unusedVariables false
set_option linter.unusedSimpArgs false
variable {r1 r2 r3 r4 r5 r6 r7 r9 r10 r11 r12:Int}
section
namespace Go.Px
set_option maxRecDepth 100000
theorem wB (xs:List (Int×Int)) (k:Nat) (s:Int×Int) (i:Nat) (hi:i<xs.length):pr (xs.set k s) i=(if k=i then s else pr xs i):=by
 rw [U1,U1,List.getElem?_set]
 by_cases h:k=i
 ·subst h;rw [if_pos rfl,if_pos rfl,if_pos hi]
 ·rw [if_neg h,if_neg h]
theorem wA (xs:List (Int×Int)) (s:Int×Int) (i:Nat) (hi:i<xs.length+1):pr (xs++[s]) i=(if i<xs.length then pr xs i else s):=by
 rw [U1,U1]
 by_cases h:i<xs.length
 ·rw [if_pos h,List.getElem?_append_left h]
 ·have:i=xs.length:=by omega
  subst this;rw [if_neg h,List.getElem?_append_right (Nat.le_refl _),Nat.sub_self];rfl
theorem OL {L:Rows} {i:Nat} (h:((evR L i).kind==2)=true):opn L (i+1)=opn L i+1:=by
 show opn L i+cond ((evR L i).kind==2) 1 0=_;rw [h];rfl
theorem jK {L:Rows} {i:Nat} (h:((evR L i).kind==2)=false):opn L (i+1)=opn L i:=by
 show opn L i+cond ((evR L i).kind==2) 1 0=_;rw [h];rfl
theorem aY {L : Rows} (hL : L.length ≤ 1048576) : ∀ i, i ≤ L.length → ∀ k, k < opn L i → ∃ a : Nat, (pr (CJ L i) k).1 = (a : Int) ∧ a < i ∧ opn L a = k ∧ ((evR L a).kind == 2) = true ∧
    ((k+1<opn L i∧∃ b:Nat,(pr (CJ L i) k).2=(b:Int)∧b<i∧opn L b=k+1∧((evR L b).kind==2)=true)∨(k+1=opn L i∧(pr (CJ L i) k).2=(L.length:Int)))
  | 0,_,k,hk=>absurd hk (Nat.not_lt_zero k)
  | i+1,hi,k,hk=>by
    have ih:=aY hL i (by omega);cases h2:(evR L i).kind==2 with
    | false =>
      rw [jK h2] at hk ⊢;rw [kF h2];obtain ⟨a,h3,h4,h5,h6,h7⟩:=ih k hk;refine ⟨a,h3,by omega,h5,h6,?_⟩
      rcases h7 with ⟨q,b,q1,q2,q3,q4⟩ | q
      · exact Or.inl ⟨q,b,q1,by omega,q3,q4⟩
      · exact Or.inr q
    | true =>
      rw [OL h2] at hk ⊢;have sl:=MO L i;have hle:=UZ L i;have ha:=fun (j:Nat) (hj:j<opn L i+1)=>wA (Ha (CJ L i) (i:Int)) ((i:Int),(L.length:Int)) j (by rw [TY,sl];exact hj)
      have e:CJ L (i+1)=Ha (CJ L i) (i:Int)++[((i:Int),(L.length:Int))]:=by
        show cond ((evR L i).kind==2) _ _=_;rw [h2];rfl
      rw [e,ha k hk,TY,sl]
      by_cases hkn:k<opn L i
      · rw [if_pos hkn];obtain ⟨a,h3,h4,h5,h6,h7⟩:=ih k hkn;have hp:0<opn L i:=by omega
        have ix:=(nB hp (by omega)).1;have es:Ha (CJ L i) (i:Int)=(CJ L i).set (opn L i - 1) ((pr (CJ L i) (opn L i - 1)).1,(i:Int)):=by
          unfold Ha;rw [sl,show iLt 0 (opn L i:Int)=true by simp only [iLt,decide_eq_true_eq];omega,ix];rfl
        rw [es,wB _ _ _ _ (by rw [sl];exact hkn)]
        by_cases hl:opn L i - 1=k
        · rw [if_pos hl,hl];exact ⟨a,h3,by omega,h5,h6,Or.inl ⟨by omega,i,rfl,by omega,by omega,h2⟩⟩
        · rw [if_neg hl];refine ⟨a,h3,by omega,h5,h6,Or.inl ⟨by omega,?_⟩⟩
          rcases h7 with ⟨q,b,q1,q2,q3,q4⟩ | q
          · exact ⟨b,q1,by omega,q3,q4⟩
          · omega
      · have hke:k=opn L i:=by omega
        rw [if_neg hkn];exact ⟨i,rfl,by omega,hke.symm,h2,Or.inr ⟨by omega,rfl⟩⟩
theorem rO {L:Rows} {a b:Nat} (h:opn L a=opn L b) (ha:((evR L a).kind==2)=true) (hb:((evR L b).kind==2)=true):a=b:=by
 rcases Nat.lt_trichotomy a b with h1 | h1 | h1
 ·have:=E9 L (show a+1≤b by omega);have:=OL ha;omega
 ·exact h1
 ·have:=E9 L (show b+1≤a by omega);have:=OL hb;omega
def AH (L:Rows) (k:Nat):Nat:=if k<opn L L.length then (pr (CJ L L.length) k).1.toNat else L.length
structure Seg (L:Rows) (k:Nat):Prop where
 x0:(pr (CJ L L.length) k).1=(AH L k:Int)
 x1:(pr (CJ L L.length) k).2=(AH L (k+1):Int)
 lt:AH L k<AH L (k+1)
 le:AH L (k+1)≤L.length
 o0:opn L (AH L k)=k
 o1:opn L (AH L (k+1))=k+1
 mid:∀ j,AH L k≤j→j<AH L (k+1)→opn L (j+1)=k+1
theorem seg {L:Rows} (hL:L.length≤1048576) {k:Nat} (h:k<opn L L.length):Seg L k:=by
 obtain ⟨a,h1,h2,h3,h4,h5⟩:=aY hL L.length (Nat.le_refl _) k h;have p0:AH L k=a:=by unfold AH;rw [if_pos h,h1];rfl
 have key:(pr (CJ L L.length) k).2=(AH L (k+1):Int)∧a<AH L (k+1)∧AH L (k+1)≤L.length∧opn L (AH L (k+1))=k+1:=by
  rcases h5 with ⟨q,b,q1,q2,q3,q4⟩ | ⟨q,q1⟩
  ·obtain ⟨a',g1,g2,g3,g4,_⟩:=aY hL L.length (Nat.le_refl _) (k+1) q;have e:a'=b:=rO (g3.trans q3.symm) g4 q4;subst e;have p1:AH L (k+1)=a':=by unfold AH;rw [if_pos q,g1];rfl
   rw [p1];refine ⟨q1,?_,by omega,q3⟩
   rcases Nat.lt_or_ge a a' with hl | hl
   ·exact hl
   ·have:=E9 L hl;omega
  ·have p1:AH L (k+1)=L.length:=by unfold AH;rw [if_neg (by omega)]
   rw [p1];exact ⟨q1,h2,Nat.le_refl _,q.symm⟩
 obtain ⟨k1,k2,k3,k4⟩:=key;refine ⟨by rw [h1,p0],k1,by rw [p0];exact k2,k3,by rw [p0];exact h3,k4,fun j j1 j2=>?_⟩;rw [p0] at j1;have m1:=E9 L (show a+1≤j+1 by omega);have m2:=E9 L (show j+1≤AH L (k+1) by omega);rw [OL h4] at m1;omega
theorem vC (L:Rows):AH L (opn L L.length)=L.length:=by unfold AH;rw [if_neg (Nat.lt_irrefl _)]
theorem wK (L:Rows) {a b:Nat} (i j:Nat) (h:i<b - a):AB ((L.take b).drop a) i j=AB L (a+i) j:=by
 unfold AB AK;rw [zzk,zzk,List.getElem?_drop,List.getElem?_take,if_pos (by omega)]
theorem W9 (L:Rows) {a b:Nat} (i:Nat) (h:i<b - a):evR ((L.take b).drop a) i=evR L (a+i):=by
 unfold evR atI atB;simp only [wK L i _ h]
theorem em {L:Rows} {a b:Nat} (h:b≤L.length):((L.take b).drop a).length=b - a:=by
 rw [List.length_drop,List.length_take];omega
def Tu (e:Ev):Bool:=cond (e.kind==4) (!(e.ball.how==0)) (cond (e.kind==5) e.yes (cond (e.kind==6) (!e.yes) false))
theorem pS (e:Ev):Bs e=cond (Tu e) 1 0:=by
 unfold Bs Tu BW;cases h4:e.kind==4
 ·cases h5:e.kind==5
  ·cases h6:e.kind==6<;>cases e.yes<;>rfl
  ·rw [beq_iff_eq.1 h5];cases e.yes<;>rfl
 ·cases e.ball.how==0<;>rfl
theorem lW {N:Nat} {e0 e1 e2 e3 e5 e6 e7 e8 e9 e10 e11 e13 e14 e15 e16 e18:Int} {e4 e12 e17:Bool}  : Ky N [.int e0,.int e1,.int e2,.int e3,.bool e4,.int e5,.int e6,.int e7,.int e8,.int e9,.int e10,.int e11,.bool e12,.int e13,.int e14,.int e15,.int e16,.bool e17,.int e18]=some [.bool (Tu (⟨e0,e1,e2,e3,e4,e5,e6,⟨e7,e8,e9,e10,e11,e12,e13,e14,e15,e16,e17,e18⟩⟩:Ev))]:=by
 show Oz (std (V4 N) N) (xOf _)=_;simp only [Oz,lq9,std,xOf,PXb,PXc,PXn,PXm,Nat.reduceAdd,Int.reduceBEq];unfold Tu;simp only;cases e0==4<;>cases e0==5<;>cases e0==6<;>rfl
def oj:Option Nat→Int
 | some j=>(j:Int)
 | none => -1
theorem gE (sd:Nat→Int) (s:Int) (k:Nat):∀ c,c≤k+1→BO (fun i=>cond (sd (k - i)==s) (some [.int ((k - i:Nat):Int)]) none) c (k+1 - c)=(Bu sd s c).map fun j:Nat=>[PV.int (j:Int)]
 | 0,_=>rfl
 | c+1,h=>by
  have ih:=gE sd s k c (by omega);have e1:k - (k+1 - (c+1))=c:=by omega
  have e2:k+1 - (c+1)+1=k+1 - c:=by omega
  simp only [BO,Bu,e1,e2,ih];cases sd c==s<;>rfl
theorem lE (sd:Nat→Int) (s:Int):∀ c i,BO (fun i=>cond (sd i==s) (some [.int (i:Int)]) none) c i=(Tk sd s c i).map fun j:Nat=>[PV.int (j:Int)]
 | 0,_=>rfl
 | c+1,i=>by
  simp only [BO,Tk,lE sd s c (i+1)];cases sd i==s<;>rfl
theorem pI {N : Nat} {sd : Nat → Int} {n k : Nat} {s : Int} (hN : 2097152 < N) (hn : n ≤ 1048576) (hk : k < n) {F G : (List AW → Option (List PV)) → List PV → Option (List PV)}
    (f0:∀ self,F self [.int (-1)]=some [.int 1]) (f1:∀ (j:Nat) self,j<n→F self [.int (j:Int)]=cond (sd j==s) (some [.int 0,.int (j:Int)]) (self [.int ((j:Int) - 1)]))
    (g0:∀ self,G self [.int (n:Int)]=some [.int 1]) (g1:∀ (j:Nat) self,j<n→G self [.int (j:Int)]=cond (sd j==s) (some [.int 0,.int (j:Int)]) (self [.int ((j:Int)+1)])) :
    ((Cw F N [.int (k:Int)]).bind fun c=>cond (pvI (AA c 0)==((0:Nat):Int)) (some [PV.int (pvI (AA c 1))]) ((Cw G N [.int (IntKind.i64.wrap ((k:Int)+1))]).bind fun c=>cond (pvI (AA c 0)==((0:Nat):Int)) (some [PV.int (pvI (AA c 1))]) (some [PV.int (-1)])))=some [.int (oj (DW sd n k s))]:=by
  have a1:=Ve (F:=F) (len:=k+1) (fun i=>[.int ((k:Int) - (i:Int))]) (fun i=>cond (sd (k - i)==s) (some [.int ((k - i:Nat):Int)]) none)
    (fun self=>by
      show F self [.int ((k:Int) - ((k+1:Nat):Int))]=_;rw [show (k:Int) - ((k+1:Nat):Int) = -1 by omega];exact f0 self)
    (fun i self hi=>by
      show F self [.int ((k:Int) - (i:Int))]=_;rw [show (k:Int) - (i:Int)=((k - i:Nat):Int) by omega,f1 (k - i) self (by omega),show ((k - i:Nat):Int) - 1=(k:Int) - ((i+1:Nat):Int) by omega];cases sd (k - i)==s<;>rfl) (k+1) 0 N (by omega) (by omega)
  have fb:=gE sd s k (k+1) (Nat.le_refl _);rw [Nat.sub_self] at fb;rw [fb] at a1;have a1:Cw F N [.int ((k:Int) - ((0:Nat):Int))]=_:=a1;rw [show (k:Int) - ((0:Nat):Int)=(k:Int) by omega] at a1;rw [a1,A8 (show k≤1099511627776 by omega)];unfold DW;cases Bu sd s (k+1) with
  | some j=>rfl
  | none =>
    have a2:=Co (F:=G) (len:=n) (fun i=>cond (sd i==s) (some [.int (i:Int)]) none) g0 (fun i self hi=>by rw [g1 i self hi];cases sd i==s<;>rfl) (n - (k+1)) (k+1) N (by omega) (by omega);rw [lE] at a2;rw [show ((k:Int)+1)=((k+1:Nat):Int) by omega,a2];cases Tk sd s (n - (k+1)) (k+1)<;>rfl
theorem wa (n:Int):iLe 0 (-1)=false:=rfl
theorem qb (j:Nat):iLe 0 (j:Int)=true:=by simp only [iLe,decide_eq_true_eq];omega
theorem pY {j:Nat} (h:j≤1048576):IntKind.i64.wrap ((j:Int) - 1)=(j:Int) - 1:=BQ (by omega) (by omega)
set_option maxHeartbeats 1000000 in
theorem mE {N:Nat} {sd:Nat→Int} {n k:Nat} {s:Int} (hN:2097152<N) (hn:n≤1048576) (hk:k<n):Ij N [.rows (HD (zs sd n)),.int (k:Int),.int s]=some [.int (oj (DW sd n k s))]:=by
 show Oy (std (WY N) N) (xOf _)=_;simp only [Oy,lq9,std,xOf,PXb];refine pI hN hn hk ?_ ?_ ?_ ?_
 ·intro self;simp only [PXb,PXc,PXn,AG,wa 0]
 ·intro j self hj;simp only [PXb,PXc,PXn,AG,qb,N8,Ul,AP hj,Cg,nQ _ hj,pY (show j≤1048576 by omega)]
 ·intro self;simp only [PXb,PXc,PXn,AG,N8,Ul,A7]
 ·intro j self hj;simp only [PXb,PXc,PXn,AG,N8,Ul,Az hj,AP hj,Cg,nQ _ hj,A8 (show j≤1099511627776 by omega)]
theorem Hx {L:Rows} {f:Ev→Int} {c:Int} (hf:∀ e,0≤f e∧f e≤c) (j:Nat):∀ i:Nat,0≤smi L f j i∧smi L f j i≤c * (i:Int)
 | 0=>by
  have:smi L f j 0=0:=rfl;rw [this];omega
 | i+1=>by
  have ih:=Hx (L:=L) hf j i;have h1:=hf (evR L i);rw [Hq,show c * ((i+1:Nat):Int)=c * (i:Int)+c by rw [show ((i+1:Nat):Int)=(i:Int)+1 by omega,Int.mul_add,Int.mul_one]];have h2:=hf (evR L i);generalize c * (i:Int)=z at ih ⊢;cases Nat.beq (opn L (i+1)) (j+1)<;>simp only [cond_true,cond_false]<;>omega
theorem wg (L:Rows) (sd:Nat→Int) (n j:Nat):∀ i:Nat,0≤pnS L sd n j i∧pnS L sd n j i≤5 * (i:Int)
 | 0=>by
  have:pnS L sd n j 0=0:=rfl;rw [this];omega
 | i+1=>by
  have ih:=wg L sd n j i;rw [et];cases ((evR L i).kind==13&&isS (DW sd n (opn L (i+1) - 1) (evR L i).side) j)<;>simp only [cond_true,cond_false]<;>omega
structure Sml (x:Sco):Prop where
 runs:0≤x.runs∧x.runs≤1000000
 wk:0≤x.wickets∧x.wickets≤1000000
 balls:0≤x.balls∧x.balls≤1000000
 wides:0≤x.wides∧x.wides≤1000000
 no:0≤x.noballs∧x.noballs≤1000000
 bb:0≤x.byes∧x.byes≤1000000
 lb:0≤x.legbyes∧x.legbyes≤1000000
 pens:0≤x.pens∧x.pens≤1000000
theorem ta {r:Rul} (h:RulOk r) (e:Ev):0≤Vz r e∧Vz r e≤62:=by
 have c:=Ez h e;have h0:=c.ba;have h1:=c.wi;have h2:=c.no;have h3:=c.bb;have h4:=c.lb;have h5:=c.tot;unfold Vz;omega
theorem un {r:Rul} (h:RulOk r) (L:Rows) (sd:Nat→Int) (n j:Nat) {i:Nat} (hi:i≤4000):Sml (BJ r L sd n j i):=by
 have p:=wg L sd n j i;have b1:=Hx (L:=L) (ta h) j i;have b2:=Hx (L:=L) vi j i;have b3:=Hx (L:=L) (f:=ee r) (c:=1) (fun e=>by unfold ee;cases (As r e).counts<;>simp) j i;have b4:=Hx (L:=L) (f:=fun e=>(As r e).wides) (fun e=>(Ez h e).wi) j i;have b5:=Hx (L:=L) (f:=fun e=>(As r e).noballs) (fun e=>(Ez h e).no) j i;have b6:=Hx (L:=L) (f:=fun e=>(As r e).byes) (fun e=>(Ez h e).bb) j i;have b7:=Hx (L:=L) (f:=fun e=>(As r e).legbyes) (fun e=>(Ez h e).lb) j i;unfold BJ;constructor<;>(simp only;omega)
theorem Un {xs ys:List Sco} (hl:xs.length=ys.length) (h:∀ j,j<xs.length→sco xs j=sco ys j):xs=ys:=by
 apply List.ext_getElem?;intro i
 by_cases hi:i<xs.length
 ·have:=h i hi;rw [FB,FB,zzn hi,zzn (by omega)] at this;rw [zzn hi,zzn (by omega)];exact congrArg some this
 ·rw [List.getElem?_eq_none (by omega),List.getElem?_eq_none (by omega)]
def EB (r:Rul) (L:Rows) (sd:Nat→Int) (n q i:Nat):List Sco:=(List.range n).map fun j=>{ BJ r L sd n j i with side:=cond (Nat.blt j q) (sd j) 0 }
theorem DC (r:Rul) (L:Rows) (sd:Nat→Int) (n q i:Nat):(EB r L sd n q i).length=n:=by unfold EB;rw [List.length_map,List.length_range]
theorem He (r:Rul) (L:Rows) (sd:Nat→Int) {n q i j:Nat} (h:j<n):sco (EB r L sd n q i) j={ BJ r L sd n j i with side:=cond (Nat.blt j q) (sd j) 0 }:=by
 rw [FB];unfold EB;rw [List.getElem?_map,List.getElem?_range h];rfl
theorem YX {a b:Nat} (h:a<b):Nat.blt a b=true:=Nat.ble_eq_true_of_le h
theorem iP {a b:Nat} (h:¬ a<b):Nat.blt a b=false:=by
 cases hq:Nat.blt a b with
 | false=>rfl
 | true=>exact absurd (Nat.le_of_ble_eq_true hq) h
theorem VZ {xs:List Sco} {k:Nat} (h:k<xs.length) (s:Sco):sco (xs.set k s) k=s:=by rw [UP _ _ _ _ h,if_pos rfl]
theorem sH {r:Rul} {L:Rows} {sd:Nat→Int} {n k i:Nat} (h:k<n):(EB r L sd n k i).set k { sco (EB r L sd n k i) k with side:=sd k }=EB r L sd n (k+1) i:=by
 refine Un (by rw [List.length_set,DC,DC]) (fun j hj=>?_);rw [List.length_set,DC] at hj;rw [UP _ _ _ _ (by rw [DC];exact hj),He _ _ _ h,He _ _ _ hj,He _ _ _ hj]
 by_cases e:k=j
 ·subst e;rw [if_pos rfl,YX (Nat.lt_succ_self k)];rfl
 ·rw [if_neg e];have:Nat.blt j k=Nat.blt j (k+1):=by
   by_cases hl:j<k
   ·rw [YX hl,YX (by omega)]
   ·rw [iP hl,iP (by omega)]
  rw [this]
theorem vQ (r:Rul) (L:Rows) (sd:Nat→Int) (n i:Nat):EB r L sd n n i=(List.range n).map fun j=>BJ r L sd n j i:=by
 refine Un (by rw [DC,List.length_map,List.length_range]) (fun j hj=>?_);rw [DC] at hj;rw [He _ _ _ hj,FB,List.getElem?_map,List.getElem?_range hj,YX hj];rfl
theorem sI {r:Rul} {L:Rows} {sd:Nat→Int} {n i:Nat} (ho:opn L i=0) (h13:∀ j,j<i→((evR L j).kind==13)=true→1≤opn L (j+1)):List.replicate n dS=EB r L sd n 0 i:=by
 have pz:∀ j,pnS L sd n j i=0:=fun j=>by
  have:∀ m,m≤i→pnS L sd n j m=0:=by
   intro m
   induction m with
   | zero=>intro _;rfl
   | succ m ih =>
    intro hm;rw [et,ih (by omega)];cases k13:(evR L m).kind==13 with
    | false=>rfl
    | true =>
     have h1:=h13 m (by omega) k13;have h2:=E9 L (show m+1≤i by omega);omega
  exact this i (Nat.le_refl i)
 refine Un (by rw [DC,List.length_replicate]) (fun j hj=>?_);rw [List.length_replicate] at hj;rw [He _ _ _ hj,FB,List.getElem?_replicate,if_pos hj,iP (by omega)];unfold BJ;have z:∀ f:Ev→Int,smi L f j i=0:=fun f=>RN i (by omega)
 simp only [pz,z];rfl
theorem X8 {r : Rul} {L : Rows} {sd : Nat → Int} {n k q i : Nat} {y : Sco} (hk : k < n) (hy : y = { BJ r L sd n k (i + 1) with side := cond (Nat.blt k q) (sd k) 0 }) (ho : ∀ j, j < n → ¬ k = j → BJ r L sd n j (i + 1) = BJ r L sd n j i) :
    (EB r L sd n q i).set k y=EB r L sd n q (i+1):=by
  refine Un (by rw [List.length_set,DC,DC]) (fun j hj=>?_);rw [List.length_set,DC] at hj;rw [UP _ _ _ _ (by rw [DC];exact hj),He _ _ _ hj,He _ _ _ hj]
  by_cases e:k=j
  · subst e;rw [if_pos rfl,hy]
  · rw [if_neg e,ho j hj e]
theorem kP {r:Rul} {L:Rows} {sd:Nat→Int} {n q i:Nat} (ho:∀ j,j<n→BJ r L sd n j (i+1)=BJ r L sd n j i):EB r L sd n q i=EB r L sd n q (i+1):=by
 refine Un (by rw [DC,DC]) (fun j hj=>?_);rw [DC] at hj;rw [He _ _ _ hj,He _ _ _ hj,ho j hj]
def gw (r:Rul) (e:Ev) (k:Nat) (d:Option Nat) (xs:List Sco):List Sco :=
  let x1:=cond (Tu e) (xs.set k { sco xs k with wickets:=IntKind.i64.wrap ((sco xs k).wickets+1) }) xs
  let c:=AE r e.ball
  cond (e.kind==4)
    (x1.set k { sco x1 k with runs:=IntKind.i64.wrap ((sco x1 k).runs+B8 c),balls:=cond c.counts (IntKind.i64.wrap ((sco x1 k).balls+1)) (sco x1 k).balls,wides:=IntKind.i64.wrap ((sco x1 k).wides+c.wides),noballs:=IntKind.i64.wrap ((sco x1 k).noballs+c.noballs),byes:=IntKind.i64.wrap ((sco x1 k).byes+c.byes),legbyes:=IntKind.i64.wrap ((sco x1 k).legbyes+c.legbyes) })
    (cond (e.kind==13) (match d with
      | some j=>x1.set j { sco x1 j with runs:=IntKind.i64.wrap ((sco x1 j).runs+5),pens:=IntKind.i64.wrap ((sco x1 j).pens+5) }
      | none=>x1) x1)
theorem pN {sd:Nat→Int} {n k j:Nat} {s:Int} (hk:k<n) (h:DW sd n k s=some j):j<n:=by
 rcases (kS h).2 with h | h<;>omega
theorem rp {r:Rul} {L:Rows} {sd:Nat→Int} {n k i:Nat} (rk:RulOk r) (hk:k<n) (ho:opn L (i+1)=k+1) (hi:i<4000):gw r (evR L i) k (DW sd n k (evR L i).side) (EB r L sd n (k+1) i)=EB r L sd n (k+1) (i+1):=by
 have hn:∀ j,¬ k=j→Nat.beq (opn L (i+1)) (j+1)=false:=fun j hj=>Js (by omega)
 have hy:Nat.beq (opn L (i+1)) (k+1)=true:=by rw [ho];exact KR _
 have sm:=fun j=>un rk L sd n j (show i≤4000 by omega)
 have cs:=Vc r L sd n;have hp:opn L (i+1) - 1=k:=by omega
 have tl:k<(EB r L sd n (k+1) i).length:=by rw [DC];exact hk
 unfold gw;cases h4:(evR L i).kind==4 with
 | true =>
  have k4:=beq_iff_eq.1 h4;have h13:((evR L i).kind==13)=false:=by rw [k4];rfl
  have ce:As r (evR L i)=AE r (evR L i).ball:=by unfold As;rw [h4];rfl
  have co:=Ez rk (evR L i);have tb:=ta rk (evR L i);rw [← ce];have fin:∀ y:Sco,y={ BJ r L sd n k (i+1) with side:=cond (Nat.blt k (k+1)) (sd k) 0 }→(EB r L sd n (k+1) i).set k y=EB r L sd n (k+1) (i+1):=fun y hyy=>X8 hk hyy (fun j hj hjk=>by
   rw [cs,h13,Bool.false_and,cond_false,CQ,hn j hjk];rfl)
  have ex:BJ r L sd n k (i+1)=N0 r (evR L i) (BJ r L sd n k i):=by rw [cs,h13,Bool.false_and,cond_false,CQ,hy];rfl
  have s:=sm k;have s1:=s.runs;have s2:=s.wk;have s3:=s.balls;have s4:=s.wides;have s5:=s.no;have s6:=s.bb;have s7:=s.lb;have c1:=co.wi;have c2:=co.no;have c3:=co.bb;have c4:=co.lb;unfold Vz at tb;have w1:IntKind.i64.wrap ((BJ r L sd n k i).runs+B8 (As r (evR L i)))=(BJ r L sd n k i).runs+B8 (As r (evR L i)):=BP (by omega) (by omega);have w2:IntKind.i64.wrap ((BJ r L sd n k i).wickets+1)=(BJ r L sd n k i).wickets+1:=BP (by omega) (by omega);have w3:IntKind.i64.wrap ((BJ r L sd n k i).balls+1)=(BJ r L sd n k i).balls+1:=BP (by omega) (by omega);have w4:IntKind.i64.wrap ((BJ r L sd n k i).wides+(As r (evR L i)).wides)=(BJ r L sd n k i).wides+(As r (evR L i)).wides:=BP (by omega) (by omega);have w5:IntKind.i64.wrap ((BJ r L sd n k i).noballs+(As r (evR L i)).noballs)=(BJ r L sd n k i).noballs+(As r (evR L i)).noballs:=BP (by omega) (by omega);have w6:IntKind.i64.wrap ((BJ r L sd n k i).byes+(As r (evR L i)).byes)=(BJ r L sd n k i).byes+(As r (evR L i)).byes:=BP (by omega) (by omega);have w7:IntKind.i64.wrap ((BJ r L sd n k i).legbyes+(As r (evR L i)).legbyes)=(BJ r L sd n k i).legbyes+(As r (evR L i)).legbyes:=BP (by omega) (by omega);have od:=pS (evR L i);cases hb:Tu (evR L i) with
  | false =>
   simp only [cond_false,cond_true,He _ _ _ hk,w1,w3,w4,w5,w6,w7];refine fin _ ?_;rw [ex];unfold N0;rw [od,hb];cases (As r (evR L i)).counts<;>simp only [cond_false,cond_true,Int.add_zero]
  | true =>
   simp only [cond_true,VZ tl,List.set_set,He _ _ _ hk,w1,w2,w3,w4,w5,w6,w7];refine fin _ ?_;rw [ex];unfold N0;rw [od,hb];cases (As r (evR L i)).counts<;>simp only [cond_false,cond_true,Int.add_zero]
 | false =>
  have s:=sm k;have s2:=s.wk;have w2:IntKind.i64.wrap ((BJ r L sd n k i).wickets+1)=(BJ r L sd n k i).wickets+1:=BP (by omega) (by omega);have od:=pS (evR L i);cases h13:(evR L i).kind==13 with
  | true =>
   have k13:=beq_iff_eq.1 h13;have ob:Tu (evR L i)=false:=by unfold Tu;rw [k13];rfl
   have oe:BW (evR L i)=0:=by unfold BW;rw [k13];rfl
   have ex:∀ j,BJ r L sd n j (i+1)=Ju (cond (isS (DW sd n k (evR L i).side) j) 5 0) (BJ r L sd n j i):=fun j=>by
    rw [cs,h13,Bool.true_and,hp,MQ _ h4 oe];cases Nat.beq (opn L (i+1)) (j+1)<;>rfl
   simp only [ob,cond_false,cond_true];cases hd:DW sd n k (evR L i).side with
   | none =>
    refine kP (fun j hj=>?_);rw [ex,hd];exact CQ _
   | some d =>
    have dl:=pN hk hd;have q:=sm d;have q1:=q.runs;have q2:=q.pens;have v1:IntKind.i64.wrap ((BJ r L sd n d i).runs+5)=(BJ r L sd n d i).runs+5:=BP (by omega) (by omega);have v2:IntKind.i64.wrap ((BJ r L sd n d i).pens+5)=(BJ r L sd n d i).pens+5:=BP (by omega) (by omega);simp only [He _ _ _ dl,v1,v2];refine X8 dl ?_ (fun j hj hjd=>?_)
    ·rw [ex,hd,show isS (some d) d=true from KR d];rfl
    ·rw [ex,hd,show isS (some d) j=false from Js hjd];exact CQ _
  | false =>
   have ex:∀ j,BJ r L sd n j (i+1)=cond (Nat.beq (opn L (i+1)) (j+1)) (N0 r (evR L i) (BJ r L sd n j i)) (BJ r L sd n j i):=fun j=>by
    rw [cs,h13,Bool.false_and,cond_false,CQ]
   have oe:Bs (evR L i)=BW (evR L i):=by unfold Bs;rw [h4];rfl
   rw [oe] at od;cases hb:Tu (evR L i) with
   | false =>
    rw [hb] at od;simp only [cond_false];refine kP (fun j hj=>?_);rw [ex,MQ _ h4 od];cases Nat.beq (opn L (i+1)) (j+1)<;>rfl
   | true =>
    rw [hb] at od;simp only [cond_false,cond_true,He _ _ _ hk,w2];refine X8 hk ?_ (fun j hj hjk=>?_)
    ·rw [ex,hy,cond_true,aB _ h4,od];rfl
    ·rw [ex,hn j hjk];rfl
def sdT (L:Rows):Nat→Int:=YN (dc L) (EO L L.length)
def aH (r:Rul) (L:Rows) (sd:Nat→Int):List Sco:=(List.range (opn L L.length)).map fun j=>BJ r L sd (opn L L.length) j L.length
structure InLog (L:Rows):Prop where
 len:L.length≤4000
 pen:∀ j,j<L.length→((evR L j).kind==13)=true→1≤opn L (j+1)
set_option maxHeartbeats 4000000 in
theorem qS {N : Nat} {r : Rul} {L : Rows} {k : Nat} (hN : 2097152 < N) (il : InLog L) (rk : RulOk r) (hk : k < opn L L.length) {F : (List AW → Option (List PV)) → List PV → Option (List PV)}
    (f0:∀ xs self,F self [.rows (Ax xs),.int ((AH L (k+1) - AH L k:Nat):Int)]=some [.rows (Ax xs),.int ((AH L (k+1) - AH L k:Nat):Int)])
    (f1:∀ (i:Nat) self,i<AH L (k+1) - AH L k→∀ xs:List Sco,xs.length=opn L L.length→F self [.rows (Ax xs),.int (i:Int)]=self [.rows (Ax (gw r (evR L (AH L k+i)) k (DW (sdT L) (opn L L.length) k (evR L (AH L k+i)).side) xs)),.int ((i+1:Nat):Int)]) :
    Cw F N [.rows (Ax (EB r L (sdT L) (opn L L.length) (k+1) (AH L k))),.int 0]=some [.rows (Ax (EB r L (sdT L) (opn L L.length) (k+1) (AH L (k+1)))),.int ((AH L (k+1) - AH L k:Nat):Int)]:=by
  have sg:=seg (by have:=il.len;omega) hk;have h1:=sg.lt;have h2:=sg.le;have h3:=il.len;have e:AH L k+(AH L (k+1) - AH L k)=AH L (k+1):=by omega
  have:=CC (F:=F) (len:=AH L (k+1) - AH L k) (fun i=>[.rows (Ax (EB r L (sdT L) (opn L L.length) (k+1) (AH L k+i))),.int (i:Int)]) [.rows (Ax (EB r L (sdT L) (opn L L.length) (k+1) (AH L (k+1)))),.int ((AH L (k+1) - AH L k:Nat):Int)]
    (fun self=>by
      show F self [.rows (Ax (EB r L (sdT L) (opn L L.length) (k+1) (AH L k+(AH L (k+1) - AH L k)))),_]=_;rw [e];exact f0 _ self)
    (fun i self hi=>by
      show F self [.rows (Ax (EB r L (sdT L) (opn L L.length) (k+1) (AH L k+i))),.int (i:Int)]=_;rw [f1 i self hi _ (DC _ _ _ _ _ _),rp rk hk (sg.mid _ (by omega) (by omega)) (by omega)];rfl) N (by omega)
  exact this
theorem wZ (L:Rows) (i:Nat):(⟨pvI (AB L i 0),pvI (AB L i 1),pvI (AB L i 2),pvI (AB L i 3),pvB (AB L i 4),pvI (AB L i 5),pvI (AB L i 6),⟨pvI (AB L i 7),pvI (AB L i 8),pvI (AB L i 9),pvI (AB L i 10),pvI (AB L i 11),pvB (AB L i 12),pvI (AB L i 13),pvI (AB L i 14),pvI (AB L i 15),pvI (AB L i 16),pvB (AB L i 17),pvI (AB L i 18)⟩⟩:Ev)=evR L i:=rfl
set_option maxHeartbeats 4000000 in
theorem dv {N:Nat} {r8:Bool} {r0:ByteArray} {r13:Rows} {L:Rows} (hN:2097152<N) (hs:r0.size≤1048576) (h13:r13.length≤1048576) (hL:L.length≤1048576) (il:Ay (⟨r0,r1,r2,r3,r4,r5,r6,r7,r8,r9,r10,r11,r12,r13⟩:Rul) L=0→InLog L∧RulOk (⟨r0,r1,r2,r3,r4,r5,r6,r7,r8,r9,r10,r11,r12,r13⟩:Rul)):KA N [.str r0,.int r1,.int r2,.int r3,.int r4,.int r5,.int r6,.int r7,.bool r8,.int r9,.int r10,.int r11,.int r12,.rows r13,.rows L]=some [.rows (cond (!(Ay (⟨r0,r1,r2,r3,r4,r5,r6,r7,r8,r9,r10,r11,r12,r13⟩:Rul) L==0)) [] (Ax (aH (⟨r0,r1,r2,r3,r4,r5,r6,r7,r8,r9,r10,r11,r12,r13⟩:Rul) L (sdT L)))),.int (Ay (⟨r0,r1,r2,r3,r4,r5,r6,r7,r8,r9,r10,r11,r12,r13⟩:Rul) L)]:=by
  show KQ (std (CA N) N) (xOf _)=_;generalize hres:(some [.rows (cond (!(Ay (⟨r0,r1,r2,r3,r4,r5,r6,r7,r8,r9,r10,r11,r12,r13⟩:Rul) L==0)) [] (Ax (aH (⟨r0,r1,r2,r3,r4,r5,r6,r7,r8,r9,r10,r11,r12,r13⟩:Rul) L (sdT L)))),.int (Ay (⟨r0,r1,r2,r3,r4,r5,r6,r7,r8,r9,r10,r11,r12,r13⟩:Rul) L)]:Option (List PV))=RR;simp only [KQ,O6,SB,Pv,J4,Fz,Gp,RI,lq9,std,xOf,PXb,Ti hN hs h13 hL];subst hres;cases hc:Ay (⟨r0,r1,r2,r3,r4,r5,r6,r7,r8,r9,r10,r11,r12,r13⟩:Rul) L==0 with
  | false=>rfl
  | true =>
    have c0:=beq_iff_eq.1 hc;obtain ⟨il,rk⟩:=il c0;have ol:=UZ L L.length;have l4:=il.len;have s80:iSm ((opn L L.length:Nat):Int) 80=true:=Gc (by omega) (by omega);rw [c0];simp only [PXb,Bool.not_true,gQ hN hL,N8,Ul,s80,KM hN hL,ul];have st:List.replicate (opn L L.length) dS=EB (⟨r0,r1,r2,r3,r4,r5,r6,r7,r8,r9,r10,r11,r12,r13⟩:Rul) L (sdT L) (opn L L.length) 0 (AH L 0):=by
      refine sI ?_ (fun j hj=>il.pen j ?_)
      · by_cases h0:0<opn L L.length
        · exact (seg hL h0).o0
        · unfold AH;rw [if_neg h0];omega
      · have : AH L 0 ≤ L.length := by
          by_cases h0:0<opn L L.length
          · have:=(seg hL h0).lt;have:=(seg hL h0).le;omega
          · unfold AH;rw [if_neg h0];exact Nat.le_refl _
        omega
    rw [st];refine Ac (CC (len:=opn L L.length) (fun k=>[.rows (Ax (EB (⟨r0,r1,r2,r3,r4,r5,r6,r7,r8,r9,r10,r11,r12,r13⟩:Rul) L (sdT L) (opn L L.length) k (AH L k))),.int (k:Int)]) [.rows (Ax (aH (⟨r0,r1,r2,r3,r4,r5,r6,r7,r8,r9,r10,r11,r12,r13⟩:Rul) L (sdT L)))] ?_ ?_ N (by omega)) ?_
    · intro self;simp only [PXb,PXc,PXn,AG,PXp,MO,A7,vC,vQ];rfl
    · intro k self hk;have sg:=seg hL hk;have sgl:=sg.lt;have sge:=sg.le;have rg:iRg (AH L k:Int) (AH L (k+1):Int) (L.length:Int)=true:=by simp only [iRg,decide_eq_true_eq];omega
      have zk:atI (HD (zs (sdT L) (opn L L.length))) k 0=sdT L k:=nQ _ hk;have sl:=em (L:=L) (a:=AH L k) sge;have zk':pvI (AB (HD (zs (YN (dc L) (EO L L.length)) (opn L L.length))) k 0)=sdT L k:=zk;simp only [PXb,PXc,PXn,AG,PXp,PXs,MO,Bv (show k≤1099511627776 by omega),Az hk,AP hk,DC,N8,Ul,sg.x0,sg.x1,rg,zk',PXt,sH hk];generalize hX:List.drop (AH L k) (List.take (AH L (k+1)) L)=X at *
      refine Ac (qS hN il rk hk ?_ ?_) ?_
      · intro xs self;simp only [PXb,PXc,PXn,AG,sl,A7]
      · intro i self hi xs hx;have hev:evR X i=evR L (AH L k+i):=by rw [← hX];exact W9 L i hi
        simp only [PXb,PXc,PXn,AG,PXc,sl,Bv (show i≤1099511627776 by omega),Az hi,AP hi,Nat.reduceAdd,J4,lW,wZ,hev];have hk':k<xs.length:=by rw [hx];exact hk
        generalize hd:DW (sdT L) (opn L L.length) k (evR L (AH L k+i)).side=d;have kx:pvI (AB X i 0)=(evR L (AH L k+i)).kind:=congrArg Ev.kind hev;have sx:pvI (AB X i 1)=(evR L (AH L k+i)).side:=congrArg Ev.side hev;have LD:Ij N [.rows (HD (zs (YN (dc L) (EO L L.length)) (opn L L.length))),.int (k:Int),.int (evR L (AH L k+i)).side]=some [.int (oj d)]:=by rw [← hd];exact mE hN (by omega) hk
        have bx:(⟨pvI (AB X i 7),pvI (AB X i 8),pvI (AB X i 9),pvI (AB X i 10),pvI (AB X i 11),pvB (AB X i 12),pvI (AB X i 13),pvI (AB X i 14),pvI (AB X i 15),pvI (AB X i 16),pvB (AB X i 17),pvI (AB X i 18)⟩:Del)=(evR L (AH L k+i)).ball:=congrArg Ev.ball hev;rw [kx];unfold gw;cases ho:Tu (evR L (AH L k+i))<;>cases h4:(evR L (AH L k+i)).kind==4<;>cases h13:(evR L (AH L k+i)).kind==13
        all_goals simp only [PXb,PXc,PXn,AG,PXc,PXs,PXt,Nat.reduceAdd,Fz,G3,bx,sx,LD,Gp,RT,List.length_set,AP hk',hk',VZ hk',List.set_set,Cre.ls,ho,h4,h13]
        all_goals first
          | (cases (AE (⟨r0,r1,r2,r3,r4,r5,r6,r7,r8,r9,r10,r11,r12,r13⟩:Rul) (evR L (AH L k+i)).ball).counts<;>rfl)
          | (cases d with
             | none=>rfl
             | some j =>
               have dl:j<xs.length:=by rw [hx];exact pN hk hd
               have dl2:∀ y s,sco ((xs.set k y).set j s) j=s:=fun y s=>VZ (by rw [List.length_set];exact dl) s
               simp only [oj,PXb,qb,AP dl,List.length_set,VZ dl,List.set_set,dl2])
      · simp only [PXb,PXc,PXn,AG,PXc,PXb,PXc,PXn,PXm,Nat.reduceAdd,Int.reduceBEq]
    · simp only [PXb,PXc,PXn,PXm,Nat.reduceAdd,Int.reduceBEq]
theorem Cp {r:Rul} {L:Rows} (h:Ay r L=0):((AQ r).2==0)=true∧BL r=0∧L.length≤4000∧acc L L.length 0 (AQ r).1∧Il r L=(stM L L.length 0 (AQ r).1,-1,0):=by
 unfold Ay at h;cases hc:BL r==0 with
 | false=>rw [hc] at h;rw [show BL r=0 from h] at hc;cases hc
 | true =>
  cases hl:iLt 4000 (L.length:Int) with
  | true=>rw [hc,hl] at h;cases h
  | false =>
   cases hr:(Il r L).2.2==0 with
   | false=>rw [hc,hl,hr] at h;cases h
   | true =>
    have hn:=(tG r).trans hc;have hrep:Il r L=H8 L L.length 0 (AQ r).1:=by unfold Il;rw [hn];rfl
    obtain ⟨k,h1,h2,h3,h4⟩:=Vx L L.length 0 (AQ r).1;have l4:L.length≤4000:=by simp only [iLt,decide_eq_false_iff_not] at hl;omega
    rcases h4 with ⟨h5,h6⟩ | ⟨h5,h6,h7⟩
    ·subst h5;exact ⟨hn,beq_iff_eq.1 hc,l4,h2,hrep.trans h6⟩
    ·rw [hrep,h7] at hr;rw [h6] at hr;cases hr
theorem og {r:Rul} {L:Rows} (h:Ay r L=0):InLog L∧RulOk r:=by
 obtain ⟨h1,h2,h3,h4,h5⟩:=Cp h;obtain ⟨_,_,h6⟩:=Ip h1 h4 L.length (Nat.le_refl _);refine ⟨⟨h3,fun j hj k13=>?_⟩,DQ h2⟩;have e:=beq_iff_eq.1 k13;have:=(h6 j hj).2.play (by rw [e];rfl) (by rw [e];rfl) (by rw [e];rfl) (by rw [e];rfl);exact Nat.le_trans this (Lx L j)
theorem vT (r:Rul) (L:Rows) (sd:Nat→Int):(aH r L sd).length=opn L L.length:=by unfold aH;rw [List.length_map,List.length_range]
theorem vn {r:Rul} {L:Rows} {sd:Nat→Int} {j:Nat} (h:j<opn L L.length):sco (aH r L sd) j=BJ r L sd (opn L L.length) j L.length:=by
 rw [FB];unfold aH;rw [List.getElem?_map,List.getElem?_range h];rfl
def prA (r:Rul) (L:Rows) (k p:Nat):Cre:=⟨smi L (fun e=>(As r e).batter) k p,smi L (fun e=>(As r e).wides) k p,smi L (fun e=>(As r e).noballs) k p,smi L (fun e=>(As r e).byes) k p,smi L (fun e=>(As r e).legbyes) k p,smi L (fun e=>(As r e).bowler) k p,false,false,false,false⟩
theorem iC {r:Rul} {L:Rows} {k p:Nat} (h:opn L p≤k):prA r L k p=JR:=by
 unfold prA;have z:∀ f:Ev→Int,smi L f k p=0:=fun f=>RN p h
 simp only [z];rfl
theorem tQ {r:Rul} (h:RulOk r) (e:Ev):0≤(As r e).bowler∧(As r e).bowler≤36:=by
 have c:=Ez h e;have h0:=c.ba;have h1:=c.wi;have h2:=c.no;have h3:=c.bo;omega
def nO (a c:Cre):Cre:=⟨IntKind.i64.wrap (a.batter+c.batter),IntKind.i64.wrap (a.wides+c.wides),IntKind.i64.wrap (a.noballs+c.noballs),IntKind.i64.wrap (a.byes+c.byes),IntKind.i64.wrap (a.legbyes+c.legbyes),IntKind.i64.wrap (a.bowler+c.bowler),false,false,false,false⟩
theorem tF {r:Rul} {L:Rows} {k p:Nat} (rk:RulOk r) (ho:opn L (p+1)=k+1) (hp:p<4000):prA r L k (p+1)=nO (prA r L k p) (As r (evR L p)):=by
 have hy:Nat.beq (opn L (p+1)) (k+1)=true:=by rw [ho];exact KR _
 have c:=Ez rk (evR L p);have h0:=c.ba;have h1:=c.wi;have h2:=c.no;have h3:=c.bb;have h4:=c.lb;have h5:=tQ rk (evR L p);have b0:=Hx (L:=L) (f:=fun e=>(As r e).batter) (fun e=>(Ez rk e).ba) k p;have b1:=Hx (L:=L) (f:=fun e=>(As r e).wides) (fun e=>(Ez rk e).wi) k p;have b2:=Hx (L:=L) (f:=fun e=>(As r e).noballs) (fun e=>(Ez rk e).no) k p;have b3:=Hx (L:=L) (f:=fun e=>(As r e).byes) (fun e=>(Ez rk e).bb) k p;have b4:=Hx (L:=L) (f:=fun e=>(As r e).legbyes) (fun e=>(Ez rk e).lb) k p;have b5:=Hx (L:=L) (f:=fun e=>(As r e).bowler) (tQ rk) k p;unfold prA nO;simp only [Hq,hy,cond_true];rw [BP (n:=smi L (fun e=>(As r e).batter) k p+_) (by omega) (by omega),BP (n:=smi L (fun e=>(As r e).wides) k p+_) (by omega) (by omega),BP (n:=smi L (fun e=>(As r e).noballs) k p+_) (by omega) (by omega),BP (n:=smi L (fun e=>(As r e).byes) k p+_) (by omega) (by omega),BP (n:=smi L (fun e=>(As r e).legbyes) k p+_) (by omega) (by omega),BP (n:=smi L (fun e=>(As r e).bowler) k p+_) (by omega) (by omega)]
theorem q0 {r:Rul} {L:Rows} {k p:Nat} (h4:((evR L p).kind==4)=false):prA r L k (p+1)=prA r L k p:=by
 have c0:As r (evR L p)=JR:=by unfold As;rw [h4];rfl
 unfold prA;simp only [Hq,c0,JR];cases Nat.beq (opn L (p+1)) (k+1)<;>simp only [cond_true,cond_false,Int.add_zero]
def jG (r:Rul) (L:Rows) (k:Int):Cre×Int:=cond (!(Ay r L==0)) (JR,Ay r L) (cond (iLt k 0||iLe (opn L L.length:Int) k) (JR,2) (prA r L k.toNat L.length,0))
def oM (x:Cre×Int):List PV:=[.int x.1.batter,.int x.1.wides,.int x.1.noballs,.int x.1.byes,.int x.1.legbyes,.int x.1.bowler,.bool x.1.counts,.bool x.1.faced,.bool x.1.wicket,.bool x.1.swap,.int x.2]
theorem fa {L:Rows} {f:Ev→Int} {k p:Nat} (h:opn L p=k+1) (hp:p≤L.length) (hn:p=L.length∨((evR L p).kind==2)=true):∀ c,p+c≤L.length→smi L f k (p+c)=smi L f k p
 | 0,_=>rfl
 | c+1,hc=>by
  rw [show p+(c+1)=p+c+1 by omega,Hq,fa h hp hn c (by omega)]
  rcases hn with hn | hn
  ·omega
  ·have:=E9 L (show p+1≤p+c+1 by omega);rw [OL hn] at this;rw [Js (by omega),cond_false,Int.add_zero]
theorem fM {L:Rows} (hL:L.length≤1048576) {k:Nat} (hk:k<opn L L.length):AH L (k+1)=L.length∨((evR L (AH L (k+1))).kind==2)=true:=by
 by_cases h:k+1<opn L L.length
 ·obtain ⟨a,p1,p2,p3,p4,p5⟩:=aY hL L.length (Nat.le_refl _) (k+1) h;have:AH L (k+1)=a:=by unfold AH;rw [if_pos h,p1];rfl
  rw [this];exact Or.inr p4
 ·exact Or.inl (by unfold AH;rw [if_neg h])
theorem mg {L:Rows} (hL:L.length≤1048576) {f:Ev→Int} {k:Nat} (hk:k<opn L L.length):smi L f k L.length=smi L f k (AH L (k+1)):=by
 have sg:=seg hL hk;have:=fa (f:=f) sg.o1 sg.le (fM hL hk) (L.length - AH L (k+1)) (by have:=sg.le;omega);rw [show AH L (k+1)+(L.length - AH L (k+1))=L.length by have:=sg.le;omega] at this;exact this
theorem uC {r:Rul} {L:Rows} (hL:L.length≤1048576) {k:Nat} (hk:k<opn L L.length):prA r L k L.length=prA r L k (AH L (k+1)):=by
 unfold prA;simp only [mg hL hk]
theorem qI {N : Nat} {r : Rul} {L : Rows} {k : Nat} (hN : 2097152 < N) (il : InLog L) (rk : RulOk r) (hk : k < opn L L.length) {F : (List AW → Option (List PV)) → List PV → Option (List PV)}
    (f0:∀ (c:Cre) self,F self [.int ((AH L (k+1) - AH L k:Nat):Int),.int c.batter,.int c.wides,.int c.noballs,.int c.byes,.int c.legbyes,.int c.bowler,.bool false,.bool false,.bool false,.bool false]=some [.int c.batter,.int c.wides,.int c.noballs,.int c.byes,.int c.legbyes,.int c.bowler,.bool false,.bool false,.bool false,.bool false])
    (f1:∀ (i:Nat) self,i<AH L (k+1) - AH L k→∀ c:Cre,F self [.int (i:Int),.int c.batter,.int c.wides,.int c.noballs,.int c.byes,.int c.legbyes,.int c.bowler,.bool false,.bool false,.bool false,.bool false]=(let d:=cond ((evR L (AH L k+i)).kind==4) (nO c (As r (evR L (AH L k+i)))) c;self [.int ((i+1:Nat):Int),.int d.batter,.int d.wides,.int d.noballs,.int d.byes,.int d.legbyes,.int d.bowler,.bool false,.bool false,.bool false,.bool false])) :
    Cw F N [.int 0,.int 0,.int 0,.int 0,.int 0,.int 0,.int 0,.bool false,.bool false,.bool false,.bool false]=some (prA r L k (AH L (k+1))).ls:=by
  have sg:=seg (by have:=il.len;omega) hk;have h1:=sg.lt;have h2:=sg.le;have h3:=il.len;have e:AH L k+(AH L (k+1) - AH L k)=AH L (k+1):=by omega
  have z0:prA r L k (AH L k)=JR:=iC (by rw [sg.o0];exact Nat.le_refl _);have:=CC (F:=F) (len:=AH L (k+1) - AH L k) (fun i=>[.int (i:Int),.int (prA r L k (AH L k+i)).batter,.int (prA r L k (AH L k+i)).wides,.int (prA r L k (AH L k+i)).noballs,.int (prA r L k (AH L k+i)).byes,.int (prA r L k (AH L k+i)).legbyes,.int (prA r L k (AH L k+i)).bowler,.bool false,.bool false,.bool false,.bool false]) (prA r L k (AH L (k+1))).ls
    (fun self=>by
      have:=f0 (prA r L k (AH L k+(AH L (k+1) - AH L k))) self;rw [e] at this;show F self [.int ((AH L (k+1) - AH L k:Nat):Int),.int (prA r L k (AH L k+(AH L (k+1) - AH L k))).batter,.int (prA r L k (AH L k+(AH L (k+1) - AH L k))).wides,.int (prA r L k (AH L k+(AH L (k+1) - AH L k))).noballs,.int (prA r L k (AH L k+(AH L (k+1) - AH L k))).byes,.int (prA r L k (AH L k+(AH L (k+1) - AH L k))).legbyes,.int (prA r L k (AH L k+(AH L (k+1) - AH L k))).bowler,.bool false,.bool false,.bool false,.bool false]=_;rw [e,this];rfl)
    (fun i self hi=>by
      have f2:=f1 i self hi (prA r L k (AH L k+i));have st:prA r L k (AH L k+i+1)=cond ((evR L (AH L k+i)).kind==4) (nO (prA r L k (AH L k+i)) (As r (evR L (AH L k+i)))) (prA r L k (AH L k+i)):=by
        cases h4:(evR L (AH L k+i)).kind==4 with
        | true=>exact tF rk (sg.mid _ (by omega) (by omega)) (by omega)
        | false=>exact q0 h4
      rw [← st] at f2;exact f2) N (by omega)
  rw [Nat.add_zero,z0] at this;exact this
set_option maxHeartbeats 4000000 in
theorem cN {N:Nat} {r8:Bool} {r0:ByteArray} {r13:Rows} {L:Rows} {k:Int} (hN:2097152<N) (hs:r0.size≤1048576) (h13:r13.length≤1048576) (hL:L.length≤1048576):JB N [.str r0,.int r1,.int r2,.int r3,.int r4,.int r5,.int r6,.int r7,.bool r8,.int r9,.int r10,.int r11,.int r12,.rows r13,.rows L,.int k]=some (oM (jG (⟨r0,r1,r2,r3,r4,r5,r6,r7,r8,r9,r10,r11,r12,r13⟩:Rul) L k)):=by
 show JC (std (Ee N) N) (xOf _)=_;generalize hres:(some (oM (jG (⟨r0,r1,r2,r3,r4,r5,r6,r7,r8,r9,r10,r11,r12,r13⟩:Rul) L k)):Option (List PV))=RR;simp only [JC,OE,Qj,Fi,lq9,std,xOf,PXb,Ti hN hs h13 hL,KM hN hL,PXp,MO];subst hres;simp only [jG];cases hc:Ay (⟨r0,r1,r2,r3,r4,r5,r6,r7,r8,r9,r10,r11,r12,r13⟩:Rul) L==0 with
 | false=>rfl
 | true =>
  obtain ⟨il,rk⟩:=og (beq_iff_eq.1 hc);simp only [PXb,Bool.not_true];cases hb:iLt k 0||iLe (opn L L.length:Int) k with
  | true=>rfl
  | false =>
   simp only [Bool.or_eq_false_iff,iLt,iLe,decide_eq_false_iff_not] at hb;obtain ⟨K,rfl⟩:∃ K:Nat,k=(K:Int):=⟨k.toNat,by omega⟩;have hk:K<opn L L.length:=by omega
   have sg:=seg hL hk;have sgl:=sg.lt;have sge:=sg.le;have l4:=il.len;have rg:iRg (AH L K:Int) (AH L (K+1):Int) (L.length:Int)=true:=by simp only [iRg,decide_eq_true_eq];omega
   have sl:=em (L:=L) (a:=AH L K) sge;simp only [PXb,AP hk,sg.x0,sg.x1,rg,uC hL hk,Int.toNat_natCast];generalize hX:List.drop (AH L K) (List.take (AH L (K+1)) L)=X at *
   have z0:prA (⟨r0,r1,r2,r3,r4,r5,r6,r7,r8,r9,r10,r11,r12,r13⟩:Rul) L K (AH L K)=JR:=iC (by rw [sg.o0];exact Nat.le_refl _);have e1:AH L K+(AH L (K+1) - AH L K)=AH L (K+1):=by omega
   refine Ac (qI hN il rk hk ?_ ?_) rfl
   ·intro c self;simp only [PXb,PXc,PXn,AG,sl,A7]
   ·intro i self hi c;have hev:evR X i=evR L (AH L K+i):=by rw [← hX];exact W9 L i hi
    have kx:pvI (AB X i 0)=(evR L (AH L K+i)).kind:=congrArg Ev.kind hev;have bx:(⟨pvI (AB X i 7),pvI (AB X i 8),pvI (AB X i 9),pvI (AB X i 10),pvI (AB X i 11),pvB (AB X i 12),pvI (AB X i 13),pvI (AB X i 14),pvI (AB X i 15),pvI (AB X i 16),pvB (AB X i 17),pvI (AB X i 18)⟩:Del)=(evR L (AH L K+i)).ball:=congrArg Ev.ball hev;simp only [PXb,PXc,PXn,AG,PXc,sl,Bv (show i≤1099511627776 by omega),Az hi,AP hi,Nat.reduceAdd,kx,Fi,G3,bx,Cre.ls];unfold As;cases h4:(evR L (AH L K+i)).kind==4<;>rfl
theorem pH {N:Nat} {L:Rows}  : Pc N [.rows L]=some [.rows (cut L 60)]:=by
 show PF (std (LA N) N) (xOf _)=_;simp only [PF,lq9,std,xOf,PXb,PXc,PXn,PXm,Nat.reduceAdd,Int.reduceBEq,xR (show (0:Int)≤60 by omega)];rfl
def M2 (k s p o:Int) (y:Bool) (t f n b h v:Int):List PV:=[.int k,.int s,.int p,.int o,.bool y,.int 0,.int 0,.int t,.int f,.int n,.int 0,.int b,.bool false,.int h,.int v,.int 0,.int 0,.bool false,.int 0]
def YJ:Rows:=[M2 1 1 0 0 true 0 0 0 0 0 0,M2 2 0 1 2 false 0 0 0 0 0 0,M2 8 0 2 0 false 0 0 0 0 0 0,M2 3 0 1 0 false 0 0 0 0 0 0,M2 4 0 0 0 false 1 1 1 0 0 0,M2 4 0 0 0 false 1 0 0 0 1 1,M2 2 0 2 1 false 0 0 0 0 0 0,M2 8 0 1 0 false 0 0 0 0 0 0,M2 3 0 2 0 false 0 0 0 0 0 0,M2 4 0 0 0 false 2 0 0 0 0 0,M2 4 0 0 0 false 1 1 0 4 0 0]
def YY:Rul:=⟨⟨#[84,69,83,84]⟩,2,1,1,4,0,1,1,false,0,0,0,11,[]⟩
theorem xC:PA 4194304 []=some [.rows YJ]:=by kernel_rfl
theorem vY:LL 4194304 []=some YY.ls:=by kernel_rfl
theorem E5 {x:Option (List PV)} {v:List PV} {f:List PV→Option (List PV)} {r:Option (List PV)} (h:x=some v) (hk:f v=r):x.bind f=r:=by rw [h];exact hk
theorem xD (L:Rows):(cut L 60).length≤1048576:=Nat.le_trans (pT L 60) (show 60≤1048576 by omega)
theorem vy {r:Rul} {L:Rows} {k:Nat} (hc:Ay r L=0) (hk:k<opn L L.length):jG r L (k:Int)=(prA r L k L.length,0):=by
 unfold jG;have e:(iLt (k:Int) 0||iLe (opn L L.length:Int) (k:Int))=false:=by
  simp only [Bool.or_eq_false_iff,iLt,iLe,decide_eq_false_iff_not];omega
 rw [hc,e];rfl
theorem VT {L:Rows}:∀ k i m out,Qe L (k+1) i m out=cond ((evR L (i+k)).kind==4) (Qe L k i m out++[Dc ((i+k:Nat):Int) (stM L k i m) (A6 ((i+k:Nat):Int) (stM L k i m) (evR L (i+k))).1 (evR L (i+k)).ball]) (Qe L k i m out)
 | 0,i,m,out=>rfl
 | k+1,i,m,out=>by
  have ih:=VT (L:=L) k (i+1) (A6 i m (evR L i)).1 (cond ((evR L i).kind==4) (out++[Dc i m (A6 i m (evR L i)).1 (evR L i).ball]) out);rw [show i+1+k=i+(k+1) by omega] at ih;exact ih
def bE (x:List PV):List PV:=[.int (pvI (AA x 0)),.int (pvI (AA x 1)),.int (pvI (AA x 2)),.int (pvI (AA x 3)),.int (pvI (AA x 4)),.int (pvI (AA x 5)),.int (pvI (AA x 6)),.bool (pvB (AA x 7)),.int (pvI (AA x 8)),.int (pvI (AA x 9)),.int (pvI (AA x 10)),.int (pvI (AA x 11)),.int (pvI (AA x 12)),.bool (pvB (AA x 13)),.int (pvI (AA x 14)),.int (pvI (AA x 15)),.int (pvI (AA x 16)),.int (pvI (AA x 17)),.bool (pvB (AA x 18)),.int (pvI (AA x 19)),.int (pvI (AA x 20)),.int (pvI (AA x 21)),.int (pvI (AA x 22)),.int (pvI (AA x 23)),.int (pvI (AA x 24)),.int (pvI (AA x 25)),.bool (pvB (AA x 26)),.bool (pvB (AA x 27)),.bool (pvB (AA x 28)),.bool (pvB (AA x 29)),.int (pvI (AA x 30)),.int (pvI (AA x 31))]
def fil (k:Int):Rows→Rows
 | []=>[]
 | x::D=>cond (pvI (AA x 1)==k) (bE x::fil k D) (fil k D)
theorem eO (k:Int):∀ A B,fil k (A++B)=fil k A++fil k B
 | [],B=>rfl
 | x::A,B=>by
  show cond _ (bE x::fil k (A++B)) (fil k (A++B))=_;rw [eO k A B];show _=cond (pvI (AA x 1)==k) (bE x::fil k A) (fil k A)++fil k B;cases pvI (AA x 1)==k<;>rfl
theorem Zi {D:Rows} {i:Nat} (h:i<D.length):D.take (i+1)=D.take i++[AK D i]:=by
 rw [List.take_add_one,zzn h];unfold AK;rw [zzk,zzn h];rfl
theorem sM {D:Rows} {i:Nat} {k:Int} (h:i<D.length):fil k (D.take (i+1))=cond (pvI (AB D i 1)==k) (fil k (D.take i)++[bE (AK D i)]) (fil k (D.take i)):=by
 rw [Zi h,eO];show fil k (D.take i)++cond (pvI (AA (AK D i) 1)==k) [bE (AK D i)] []=_;show _=cond (pvI (AA (AK D i) 1)==k) _ _;cases pvI (AA (AK D i) 1)==k
 ·exact List.append_nil _
 ·rfl
theorem jN {d:Del} (h:(Db d==0)=true):0≤d.sector∧d.sector≤8:=by
 unfold Db at h;cases h1:(iLt d.type 1||iLt 3 d.type||iLt 3 d.source||iLt 10 d.how || !btw d.sector 0 8) with
 | true=>rw [h1] at h;cases h
 | false =>
  simp only [btw,iLe,Bool.or_eq_false_iff,Bool.not_eq_false',zzj,decide_eq_true_eq] at h1;exact h1.2
structure BallF (r:Rul) (L:Rows) (a:Nat):Prop where
 one:1≤opn L a
 lnx:lnx (stM L a 0 (AQ r).1).inns=opn L a - 1
 inn:IntKind.i64.wrap (((stM L a 0 (AQ r).1).inns.length:Int) - 1)=((opn L a - 1:Nat):Int)
 ok:InnOk r (AJ (stM L a 0 (AQ r).1))
 rules:(stM L a 0 (AQ r).1).rules=r
 ref:(G7 r (AJ (stM L a 0 (AQ r).1)) (evR L a).ball==0)=true
 over:(AJ (stM L a 0 (AQ r).1)).complete≤1000
theorem W8 {r:Rul} {L:Rows} (hc:Ay r L=0) {a:Nat} (ha:a<L.length) (hk:((evR L a).kind==4)=true):BallF r L a:=by
 obtain ⟨h1,h2,h3,h4,h5⟩:=Cp hc;obtain ⟨li,so,_⟩:=Ip h1 h4 a (by omega);obtain ⟨_,_,hi⟩:=Ip h1 h4 L.length (Nat.le_refl _);have e:=beq_iff_eq.1 hk;have one:=(hi a ha).2.play (by rw [e];rfl) (by rw [e];rfl) (by rw [e];rfl) (by rw [e];rfl);have a0:=Pa L.length 0 _ h4 a ha;rw [Nat.zero_add] at a0;have q:=(UN a0).1;rw [q] at a0;obtain ⟨g1,g2,g3,g4⟩:=VF a0 hk;have sl:=so.len;have ll:=li.len;have lx:Px.lnx (stM L a 0 (AQ r).1).inns=opn L a - 1:=by
  unfold Px.lnx;rw [ll,BQ (by omega) (by omega)];omega
 have rl:=so.rules;obtain ⟨hv,he,hn,hw,hp,hs⟩:=MV g3;rw [rl] at hv hp;have ok:=F8.1 hv;have hpb:Ar r (AJ (stM L a 0 (AQ r).1)) (evR L a)=KZ r (AJ (stM L a 0 (AQ r).1)) (evR L a).ball:=by unfold Ar;rw [e];rfl
 rw [hpb] at hp;have cl:=qR h1 h4 a (by omega);have at1:=cl.at' (opn L a - 1) (by omega);have kx:sco (Fl (stM L a 0 (AQ r).1)).xs (opn L a - 1)=Bm r.balls (AJ (stM L a 0 (AQ r).1)):=by
  unfold Fl AJ;rw [rl,lx];exact Q6 _ _ (by omega)
 rw [kx] at at1;have bl:C0 r.balls (AJ (stM L a 0 (AQ r).1)).complete (AJ (stM L a 0 (AQ r).1)).inover=smi L (ee r) (opn L a - 1) a:=congrArg Sco.balls at1;have be:=(kZ ok).1;have cb:=Hx (L:=L) (f:=ee r) (c:=1) (fun e=>by unfold ee;cases (As r e).counts<;>simp) (opn L a - 1) a;have q4:=(DQ ok.code).balls;have io:=ok.io;have co:=ok.complete;unfold B0 at co;have m1:=Int.mul_le_mul_of_nonneg_left q4.1 co.1;refine ⟨one,lx,by rw [ll,BQ (by omega) (by omega)];omega,ok,rl,(Yd hp).1,?_⟩;rw [bl] at be;omega
def B6 (r:Rul) (L:Rows) (k:Nat):Nat→Rows
 | 0=>[]
 | n+1=>cond ((evR L n).kind==4&&Nat.beq (opn L (n+1)) (k+1)) (B6 r L k n++[Dc (n:Int) (stM L n 0 (AQ r).1) (stM L (n+1) 0 (AQ r).1) (evR L n).ball]) (B6 r L k n)
theorem mv {r:Rul} {L:Rows} (hc:Ay r L=0) (k:Nat):∀ n,n≤L.length→fil (k:Int) (Qe L n 0 (AQ r).1 [])=B6 r L k n
 | 0,_=>rfl
 | n+1,hn=>by
  have ih:=mv hc k n (by omega);rw [VT,Nat.zero_add];have si:=VE (L:=L) n 0 (AQ r).1;rw [Nat.zero_add] at si;show _=cond ((evR L n).kind==4&&Nat.beq (opn L (n+1)) (k+1)) _ (B6 r L k n);cases hk:(evR L n).kind==4 with
  | false=>exact ih
  | true =>
   have bf:=W8 hc (show n<L.length by omega) hk;have on:opn L (n+1)=opn L n:=jK (by rw [beq_iff_eq.1 hk];rfl);rw [cond_true,eO,ih,← si,on,Bool.true_and];show B6 r L k n++cond (IntKind.i64.wrap (((stM L n 0 (AQ r).1).inns.length:Int) - 1)==(k:Int)) [_] []=_;rw [bf.inn];have one:=bf.one
   by_cases e:opn L n=k+1
   ·rw [e,KR,show ((k+1 - 1:Nat):Int)=(k:Int) by omega,beq_self_eq_true];rfl
   ·rw [Js e,beq_false_of_ne (by omega)];exact List.append_nil _
theorem cu {r:Rul} {L:Rows} (hc:Ay r L=0) (k:Nat):fil (k:Int) (CL r L)=B6 r L k L.length:=by
 obtain ⟨h1,h2,h3,h4,h5⟩:=Cp hc;have:CL r L=Qe L L.length 0 (AQ r).1 []:=by
  unfold CL;rw [h1];obtain ⟨j,j1,j2,j3,j4⟩:=Vx L L.length 0 (AQ r).1;show Lr L L.length 0 (AQ r).1 []=_;rw [j3 []]
  rcases j4 with ⟨j5,_⟩ | ⟨j5,j6,j7⟩
  ·rw [j5]
  ·have hh:=Pa L.length 0 _ h4 j j5;rw [hh] at j6;cases j6
 rw [this];exact mv hc k L.length (Nat.le_refl _)
structure RowF (r:Rul) (x:List PV):Prop where
 over:∃ o:Nat,o≤1000∧pvI (AA x 2)=(o:Int)
 sector:∃ s:Nat,s≤8∧pvI (AA x 19)=(s:Int)
 striker:1≤pvI (AA x 5)∧pvI (AA x 5)≤r.side
 cre:∃ d,pvI (AA x 20)=(AE r d).batter∧pvI (AA x 21)=(AE r d).wides∧pvI (AA x 22)=(AE r d).noballs∧pvI (AA x 23)=(AE r d).byes∧pvI (AA x 24)=(AE r d).legbyes∧pvI (AA x 25)=(AE r d).bowler
theorem tR {r:Rul} {L:Rows} (hc:Ay r L=0) {a:Nat} (ha:a<L.length) (hk:((evR L a).kind==4)=true) (t:Mat):RowF r (Dc (a:Int) (stM L a 0 (AQ r).1) t (evR L a).ball):=by
 have bf:=W8 hc ha hk;obtain ⟨q1,q2,q3,q4,q5,q6⟩:=Pg bf.ref;have ls:=jN q4;have co:=bf.ok.complete;unfold B0 at co;have st:=bf.ok.st;have over:=bf.over;have beg:CE (AJ (stM L a 0 (AQ r).1)).batters=true:=by
  obtain ⟨h1,h2,h3,h4,h5⟩:=Cp hc;have a0:=Pa L.length 0 _ h4 a ha;rw [Nat.zero_add] at a0;have q:=(UN a0).1;rw [q] at a0;obtain ⟨g1,g2,g3,g4⟩:=VF a0 hk;exact Vi (MV g3).2.2.2.1 (by rw [beq_iff_eq.1 hk];rfl)
 have z1:=(VY q1 beg).1;rw [beq_eq_false_iff_ne] at z1;refine ⟨⟨(AJ (stM L a 0 (AQ r).1)).complete.toNat,by omega,?_⟩,⟨(evR L a).ball.sector.toNat,by omega,?_⟩,?_,(evR L a).ball,?_⟩
 ·show (AJ (stM L a 0 (AQ r).1)).complete=_;omega
 ·show (evR L a).ball.sector=_;omega
 ·show 1≤(AJ (stM L a 0 (AQ r).1)).striker∧(AJ (stM L a 0 (AQ r).1)).striker≤r.side;omega
 ·have rl:=bf.rules;show (AE (stM L a 0 (AQ r).1).rules _).batter=_∧(AE (stM L a 0 (AQ r).1).rules _).wides=_∧(AE (stM L a 0 (AQ r).1).rules _).noballs=_∧(AE (stM L a 0 (AQ r).1).rules _).byes=_∧(AE (stM L a 0 (AQ r).1).rules _).legbyes=_∧(AE (stM L a 0 (AQ r).1).rules _).bowler=_;rw [rl];exact ⟨rfl,rfl,rfl,rfl,rfl,rfl⟩
theorem hY {r:Rul} {L:Rows} (hc:Ay r L=0) (k:Nat):∀ n,n≤L.length→(B6 r L k n).length≤n∧∀ x,x∈B6 r L k n→RowF r x
 | 0,_=>⟨Nat.le_refl _,fun x hx=>absurd hx (List.not_mem_nil)⟩
 | n+1,hn=>by
  obtain ⟨i1,i2⟩:=hY hc k n (by omega);show (cond ((evR L n).kind==4&&Nat.beq (opn L (n+1)) (k+1)) _ (B6 r L k n)).length≤n+1∧∀ x,x∈cond ((evR L n).kind==4&&Nat.beq (opn L (n+1)) (k+1)) _ (B6 r L k n)→RowF r x;cases hk:(evR L n).kind==4 with
  | false=>exact ⟨Nat.le_succ_of_le i1,i2⟩
  | true =>
   cases Nat.beq (opn L (n+1)) (k+1) with
   | false=>exact ⟨Nat.le_succ_of_le i1,i2⟩
   | true =>
    refine ⟨?_,fun x hx=>?_⟩
    ·show (B6 r L k n++[_]).length≤n+1;rw [List.length_append];exact Nat.succ_le_succ i1
    ·rcases List.mem_append.1 hx with hx | hx
     ·exact i2 x hx
     ·rw [List.mem_singleton.1 hx];exact tR hc (by omega) hk _
structure Ln where
 runs:Int
 balls:Int
 fours:Int
 sixes:Int
 out:Bool
 how:Int
 bowler:Int
 fielder:Int
 batted:Bool
def lnR (p:Int) (l:Ln):List PV:=[.int p,.int l.runs,.int l.balls,.int l.fours,.int l.sixes,.bool l.out,.int l.how,.int l.bowler,.int l.fielder,.bool l.batted]
def ln0:Ln:={ runs:=0,balls:=0,fours:=0,sixes:=0,out:=false,how:=0,bowler:=0,fielder:=0,batted:=false }
def AN (o:List Int) (F:Int→Ln):Rows:=o.map fun p=>lnR p (F p)
theorem Bk (o:List Int) (F:Int→Ln):(AN o F).length=o.length:=List.length_map _
def Ai (p:Int):List Int→Nat
 | []=>0
 | q::r=>cond (q==p) 0 (Ai p r+1)
theorem pV (p:Int):∀ o,Ai p o≤o.length
 | []=>Nat.le_refl _
 | q::r=>by
  have:=pV p r;unfold Ai;cases q==p
  ·exact Nat.succ_le_succ this
  ·exact Nat.zero_le _
theorem Fu {p:Int}:∀ {o:List Int},p∈o→Ai p o<o.length∧o.getD (Ai p o) 0=p
 | q::r,h=>by
  unfold Ai;cases hq:q==p with
  | true=>exact ⟨Nat.succ_pos _,beq_iff_eq.1 hq⟩
  | false =>
   rcases List.mem_cons.1 h with rfl | h
   ·rw [beq_self_eq_true] at hq;cases hq
   ·obtain ⟨h1,h2⟩:=Fu h;exact ⟨Nat.succ_lt_succ h1,h2⟩
theorem qB {p:Int}:∀ {o:List Int},p∉o→Ai p o=o.length
 | [],_=>rfl
 | q::r,h=>by
  unfold Ai;have hq:(q==p)=false:=beq_eq_false_iff_ne.2 fun e=>h (e▸zzl)
  rw [hq];exact congrArg (·+1) (qB fun hm=>h (zzm _ hm))
theorem Vh {p:Int} {o:List Int}:Ai p o<o.length↔p∈o:=by
 constructor
 ·intro h
  by_cases hm:p∈o
  ·exact hm
  ·rw [qB hm] at h;omega
 ·intro h;exact (Fu h).1
theorem VN {o:List Int} {F:Int→Ln} {j:Nat} (h:j<o.length):AK (AN o F) j=lnR (o.getD j 0) (F (o.getD j 0)):=by
 unfold AK AN;rw [zzk,List.getElem?_map,zzn h,zzk,zzn h];rfl
theorem eE {o:List Int} {F:Int→Ln} {p:Int} (h:p∈o):AK (AN o F) (Ai p o)=lnR p (F p):=by
 obtain ⟨h1,h2⟩:=Fu h;rw [VN h1,h2]
def Bh (F:Int→Ln) (p:Int) (v:Ln) (q:Int):Ln:=cond (q==p) v (F q)
theorem Hl (F:Int→Ln) (p:Int) (v:Ln):Bh F p v p=v:=by unfold Bh;rw [beq_self_eq_true];rfl
theorem OI (F:Int→Ln) (p:Int) (v v':Ln):Bh (Bh F p v) p v'=Bh F p v':=funext fun q=>by
 unfold Bh;cases q==p<;>rfl
theorem kA {F:Int→Ln} {p:Int} {v:Ln}:∀ {o:List Int},o.Nodup→p∈o→(AN o F).set (Ai p o) (lnR p v)=AN o (Bh F p v)
 | q::r,hn,h=>by
  obtain ⟨h1,h2⟩:=List.nodup_cons.1 hn;unfold Ai;cases hq:q==p with
  | true =>
   have e:=beq_iff_eq.1 hq;subst e;show lnR q v::AN r F=lnR q (Bh F q v q)::AN r (Bh F q v);rw [Hl];congr 1;unfold AN;refine List.map_congr_left fun x hx=>?_
   have:(x==q)=false:=beq_eq_false_iff_ne.2 fun e=>h1 (e▸hx)
   unfold Bh;rw [this];rfl
  | false =>
   rcases List.mem_cons.1 h with rfl | h
   ·rw [beq_self_eq_true] at hq;cases hq
   ·show lnR q (F q)::(AN r F).set (Ai p r) (lnR p v)=lnR q (Bh F p v q)::AN r (Bh F p v);rw [kA h2 h];unfold Bh;rw [hq];rfl
theorem FT {o : List Int} {F : Int → Ln} {p : Int} {v : Ln} {off : Nat} {vs : List PV} (hn : o.Nodup) (h : p ∈ o) (e : Ah (lnR p (F p)) off vs = lnR p v) :
    (AN o F).set (Ai p o) (Ah (AK (AN o F) (Ai p o)) off vs)=AN o (Bh F p v):=by
  rw [eE h,e,kA hn h]
theorem rG (o:List Int) (F:Int→Ln) (p:Int) (v:Ln) (h:p∉o):AN o F++[lnR p v]=AN (o++[p]) (Bh F p v):=by
 unfold AN;rw [List.map_append];show _=_++[lnR p (Bh F p v p)];rw [Hl];congr 1;refine List.map_congr_left fun x hx=>?_
 have:(x==p)=false:=beq_eq_false_iff_ne.2 fun e=>h (e▸hx)
 unfold Bh;rw [this];rfl
theorem oY {o:List Int} {F G:Int→Ln} (h:∀ p,p∈o→F p=G p):AN o F=AN o G:=by
 unfold AN;exact List.map_congr_left fun x hx=>by rw [h x hx]
theorem fo {o : List Int} {F : Int → Ln} {p : Int} {n : Nat} (hn : o.length ≤ n) {G : (List AW → Option (List PV)) → List PV → Option (List PV)} {k : Nat → List AW} {R : List PV} {Q : Nat → List PV}
    (h0:∀ self,G self ((k o.length).map Leaf.pv)=some R)
    (h1:∀ i self,i<o.length→G self ((k i).map Leaf.pv)=cond (o.getD i 0==p) (some (Q i)) (self (k (i+1)))) :
    ∀ (f i:Nat),o.length - i<f→i≤Ai p o→Cw G f ((k i).map Leaf.pv)=some (cond (Nat.blt (Ai p o) o.length) (Q (Ai p o)) R):=by
  have below:∀ i,i<Ai p o→(o.getD i 0==p)=false:=fun i hi=>by
    have go:∀ (o:List Int) (i:Nat),i<Ai p o→(o.getD i 0==p)=false:=fun o=>by
      induction o with
      | nil=>intro i hi;exact absurd hi (Nat.not_lt_zero _)
      | cons q r ih =>
        intro i hi;unfold Ai at hi;cases hq:q==p with
        | true=>rw [hq] at hi;exact absurd hi (Nat.not_lt_zero _)
        | false =>
          rw [hq,cond_false] at hi;cases i with
          | zero=>exact hq
          | succ i=>exact ih i (Nat.lt_of_succ_lt_succ hi)
    exact go o i hi
  intro f
  induction f with
  | zero=>intro i hf;exact absurd hf (Nat.not_lt_zero _)
  | succ f ih =>
    intro i hf hi;have pl:=pV p o
    by_cases hlt:i<o.length
    · show G _ _=_;rw [h1 i _ hlt]
      by_cases hp:i=Ai p o
      · obtain ⟨_,h2⟩:=Fu (Vh.1 (hp▸hlt));rw [hp,h2,beq_self_eq_true,cond_true,show Nat.blt (Ai p o) o.length=true from Nat.ble_eq_true_of_le (hp▸hlt)];rfl
      · rw [below i (by omega),cond_false];exact ih (i+1) (by omega) (by omega)
    · have e:Ai p o=o.length:=by omega
      have e2:i=o.length:=by omega
      show G _ _=_;rw [e2,h0,e,show Nat.blt o.length o.length=false by
        cases hb:Nat.blt o.length o.length with
        | false=>rfl
        | true=>exact absurd (Nat.le_of_ble_eq_true hb) (Nat.lt_irrefl _)]
      rfl
def DB (o:List Int) (p:Int):List Int:=cond (Nat.blt (Ai p o) o.length) o (o++[p])
theorem Kg {p:Int} {o:List Int}:Nat.blt (Ai p o) o.length=true↔p∈o:=⟨fun h=>Vh.1 (Nat.le_of_ble_eq_true h),fun h=>Nat.ble_eq_true_of_le (Vh.2 h)⟩
theorem Hi {o:List Int} {p:Int} (h:o.Nodup):(DB o p).Nodup:=by
 unfold DB;cases hb:Nat.blt (Ai p o) o.length with
 | true=>exact h
 | false =>
  rw [cond_false];refine List.nodup_append.2 ⟨h,List.nodup_cons.2 ⟨List.not_mem_nil,List.nodup_nil⟩,fun x hx y hy e=>?_⟩;have hy:=List.mem_singleton.1 hy;rw [e,hy] at hx;have:=Kg.2 hx;rw [hb] at this;cases this
theorem Kk {o:List Int} {p q:Int}:q∈DB o p↔q∈o∨q=p:=by
 unfold DB;cases hb:Nat.blt (Ai p o) o.length with
 | true =>
  have:=Kg.1 hb;exact ⟨fun h=>.inl h,fun h=>h.elim id fun e=>e▸this⟩
 | false=>rw [cond_false,List.mem_append,List.mem_singleton]
theorem Tz (o:List Int) (p:Int):(DB o p).length≤o.length+1:=by
 unfold DB;cases Nat.blt (Ai p o) o.length
 ·rw [cond_false,List.length_append];exact Nat.le_refl _
 ·exact Nat.le_succ _
def bT (F:Int→Ln) (o:List Int) (p:Int) (b:Bool):Int→Ln:=Bh F p (cond (Nat.blt (Ai p o) o.length) { F p with batted:=(F p).batted||b } { ln0 with batted:=b })
def BZ (L:Rows):Nat→List Int
 | 0=>[]
 | n+1=>cond ((evR L n).kind==2) (DB (DB (BZ L n) (evR L n).player) (evR L n).other) (cond ((evR L n).kind==5) (DB (BZ L n) (evR L n).player) (BZ L n))
def B5 (L:Rows) (p:Int):Nat→Bool
 | 0=>false
 | n+1=>B5 L p n||cond ((evR L n).kind==2) (p==(evR L n).player||p==(evR L n).other) (cond ((evR L n).kind==5) (p==(evR L n).player && !(evR L n).yes) false)
def Mx (o:List Int):Nat→List Int
 | 0=>o
 | n+1=>DB (Mx o n) ((n:Int)+1)
theorem GU (L:Rows):∀ n,(BZ L n).Nodup
 | 0=>List.nodup_nil
 | n+1=>by
  have ih:=GU L n;unfold BZ;cases (evR L n).kind==2 with
  | true=>exact Hi (Hi ih)
  | false =>
   cases (evR L n).kind==5 with
   | true=>exact Hi ih
   | false=>exact ih
theorem VO (L:Rows):∀ n,(BZ L n).length≤2 * n
 | 0=>Nat.le_refl _
 | n+1=>by
  have ih:=VO L n;unfold BZ;cases (evR L n).kind==2 with
  | true =>
   have h1:=Tz (BZ L n) (evR L n).player;have h2:=Tz (DB (BZ L n) (evR L n).player) (evR L n).other;show (DB _ _).length≤_;omega
  | false =>
   cases (evR L n).kind==5 with
   | true =>
    have h1:=Tz (BZ L n) (evR L n).player;show (DB _ _).length≤_;omega
   | false=>show (BZ L n).length≤_;omega
theorem H9 {o:List Int} (h:o.Nodup):∀ n,(Mx o n).Nodup
 | 0=>h
 | n+1=>Hi (H9 h n)
theorem Z3 (o:List Int):∀ n,(Mx o n).length≤o.length+n
 | 0=>Nat.le_refl _
 | n+1=>by
  have:=Z3 o n;have h2:=Tz (Mx o n) ((n:Int)+1);show (DB _ _).length≤_;omega
theorem Zk {o:List Int} {p:Int}:∀ {n:Nat},p∈Mx o n↔p∈o∨(1≤p∧p≤(n:Int))
 | 0=>by
  show p∈o↔_;constructor
  ·exact .inl
  ·rintro (h | h)
   ·exact h
   ·omega
 | n+1=>by
  show p∈DB (Mx o n) ((n:Int)+1)↔_;rw [Kk,Zk];constructor
  ·rintro ((h | h) | h)
   ·exact .inl h
   ·exact .inr (by omega)
   ·exact .inr (by omega)
  ·rintro (h | h)
   ·exact .inl (.inl h)
   ·by_cases e:p=(n:Int)+1
    ·exact .inr e
    ·exact .inl (.inr (by omega))
theorem Ru {o:List Int} {F:Int→Ln} {i:Nat} (h:i<o.length):pvI (AB (AN o F) i 0)=o.getD i 0:=by
 unfold AB;rw [VN h];rfl
set_option maxHeartbeats 1000000 in
theorem C5 {N:Nat} {o:List Int} {F:Int→Ln} {p:Int} (ho:o.length≤1048576) (hN:2097152<N):CD N [.rows (AN o F),.rows [[.int p]]]=some [.int (cond (Nat.blt (Ai p o) o.length) (Ai p o:Int) (-1))]:=by
 show CG (std (B3 N) N) (xOf _)=_;simp only [CG,lq9,std,xOf,PXb];refine Ac (fo (o:=o) (F:=F) (p:=p) (n:=o.length) (Nat.le_refl _) (k:=fun i=>[.int (i:Int)]) (R:=[.int 1]) (Q:=fun i=>[.int 0,.int (i:Int)]) ?_ ?_ N 0 (by omega) (Nat.zero_le _)) ?_
 ·intro self;simp only [PXb,PXc,PXn,AG,Bk,A7,List.map_cons,List.map_nil,Leaf.pv]
 ·intro i self hi;simp only [PXb,PXc,PXn,AG,Bk,Bv (show i≤1099511627776 by omega),Az hi,AP hi,Ru hi,List.map_cons,List.map_nil,Leaf.pv];rfl
 ·cases Nat.blt (Ai p o) o.length<;>rfl
theorem qM {o : List Int} {F : Int → Ln} {p : Int} {N : Nat} (hN : o.length < N) {G : (List AW → Option (List PV)) → List PV → Option (List PV)} {k1 k2 : List PV → Option (List PV)} {g : Option (List PV)}
    (h0:∀ self,G self [.int (o.length:Int),.int p]=some [.int 1,.int p])
    (h1:∀ i self,i<o.length→G self [.int (i:Int),.int p]=cond (o.getD i 0==p) (some [.int 0,.int (i:Int),.int p]) (self [.int ((i+1:Nat):Int),.int p]))
    (hk:(k1 (cond (Nat.blt (Ai p o) o.length) [.int 0,.int (Ai p o:Int),.int p] [.int 1,.int p])).bind k2=g):((Cw G N [.int 0,.int p]).bind k1).bind k2=g:=by
  have:=fo (o:=o) (F:=F) (p:=p) (n:=o.length) (Nat.le_refl _) (k:=fun i=>[.int (i:Int),.int p]) (R:=[.int 1,.int p]) (Q:=fun i=>[.int 0,.int (i:Int),.int p]) (G:=G) h0 h1 N 0 (by omega) (Nat.zero_le _);have e:Cw G N [.int 0,.int p]=some (cond (Nat.blt (Ai p o) o.length) [.int 0,.int (Ai p o:Int),.int p] [.int 1,.int p]):=this;rw [e];exact hk
theorem uJ {p:Int} {o:List Int} (h:p∉o):Ai p (o++[p])=o.length:=by
 induction o with
 | nil=>show Ai p [p]=0;unfold Ai;rw [beq_self_eq_true];rfl
 | cons q r ih =>
  show Ai p (q::(r++[p]))=_;unfold Ai;have hq:(q==p)=false:=beq_eq_false_iff_ne.2 fun e=>h (e▸zzl)
  rw [hq];exact congrArg (·+1) (ih fun hm=>h (zzm _ hm))
def EM (B:Int→Bool) (p:Int):Ln:={ ln0 with batted:=B p }
theorem eT {o:List Int} {B:Int→Bool} {p:Int} {b:Bool} (hB:∀ q,q∉o→B q=false):bT (EM B) o p b=EM fun q=>B q||(q==p&&b):=funext fun q=>by
 have e:EM (fun q=>B q||(q==p&&b)) q={ ln0 with batted:=B q||(q==p&&b) }:=rfl;rw [e];unfold bT Bh;cases hq:q==p with
 | true =>
  have e:=beq_iff_eq.1 hq;subst e;rw [Bool.true_and,cond_true];cases hb:Nat.blt (Ai q o) o.length with
  | true=>rfl
  | false =>
   have:B q=false:=hB q fun hm=>by rw [Kg.2 hm] at hb;cases hb
   rw [this];rfl
 | false =>
  rw [cond_false,Bool.false_and,Bool.or_false];rfl
theorem T4 {L:Rows} {p:Int}:∀ n,p∉BZ L n→B5 L p n=false
 | 0,_=>rfl
 | n+1,h=>by
  unfold BZ at h;unfold B5;cases h2:(evR L n).kind==2 with
  | true =>
   rw [h2,cond_true] at h;have h3:¬ (p∈DB (BZ L n) (evR L n).player∨p=(evR L n).other):=fun hc=>h (Kk.2 hc)
   have h4:¬ (p∈BZ L n∨p=(evR L n).player):=fun hc=>h3 (.inl (Kk.2 hc))
   rw [T4 n (fun hc=>h4 (.inl hc)),cond_true,beq_eq_false_iff_ne.2 (fun e=>h4 (.inr e)),beq_eq_false_iff_ne.2 (fun e=>h3 (.inr e))];rfl
  | false =>
   rw [h2,cond_false] at h;cases h5:(evR L n).kind==5 with
   | true =>
    rw [h5,cond_true] at h;have h4:¬ (p∈BZ L n∨p=(evR L n).player):=fun hc=>h (Kk.2 hc)
    rw [T4 n (fun hc=>h4 (.inl hc)),beq_eq_false_iff_ne.2 (fun e=>h4 (.inr e))];rfl
   | false =>
    rw [h5,cond_false] at h;rw [T4 n h];rfl
def sU (L:Rows) (n:Nat):Rows:=AN (BZ L n) (EM fun p=>B5 L p n)
def dy (L:Rows) (k:Nat):Rows:=AN (Mx (BZ L L.length) k) (EM fun p=>B5 L p L.length)
theorem kQ {o:List Int} {B:Int→Bool} {p:Int} (hB:∀ q,q∉o→B q=false):bT (EM B) o p true=EM fun q=>B q||q==p:=by
 have e:(fun q:Int=>B q||(q==p&&true))=fun q=>B q||q==p:=funext fun q=>by rw [Bool.and_true]
 rw [eT hB,e]
def RF (F:Int→Ln) (o:List Int) (p:Int):Int→Ln:=cond (Nat.blt (Ai p o) o.length) F (Bh F p ln0)
theorem ri {o:List Int} {F:Int→Ln} {p:Int}:AN (DB o p) (RF F o p)=cond (Nat.blt (Ai p o) o.length) (AN o F) (AN o F++[lnR p ln0]):=by
 unfold DB RF;cases hb:Nat.blt (Ai p o) o.length with
 | true=>rfl
 | false =>
  have hm:p∉o:=fun hm=>by rw [Kg.2 hm] at hb;cases hb
  exact (rG o F p ln0 hm).symm
theorem cE (o:List Int) (p:Int):p∈DB o p:=Kk.2 (.inr rfl)
theorem uQ {o:List Int} {p:Int}:Ai p (DB o p)=cond (Nat.blt (Ai p o) o.length) (Ai p o) o.length:=by
 unfold DB;cases hb:Nat.blt (Ai p o) o.length with
 | true=>rfl
 | false =>
  have hm:p∉o:=fun hm=>by rw [Kg.2 hm] at hb;cases hb
  exact uJ hm
theorem Vt {o:List Int} {F:Int→Ln} {p:Int} {b:Bool}:Bh (RF F o p) p { RF F o p p with batted:=(RF F o p p).batted||b }=bT F o p b:=by
 unfold RF bT;cases hb:Nat.blt (Ai p o) o.length with
 | true=>rfl
 | false =>
  rw [cond_false,OI,Hl];rfl
theorem YI {o : List Int} {F : Int → Ln} {p : Int} {N : Nat} (hN : o.length < N) (hl : o.length ≤ 100000) {G : (List AW → Option (List PV)) → List PV → Option (List PV)} {K3 : List PV → Option (List PV)} {g : Option (List PV)}
    (h0:∀ self,G self [.int (o.length:Int),.int p]=some [.int 1,.int p])
    (h1:∀ i self,i<o.length→G self [.int (i:Int),.int p]=cond (o.getD i 0==p) (some [.int 0,.int (i:Int),.int p]) (self [.int ((i+1:Nat):Int),.int p]))
    (hk:K3 [.int (Ai p (DB o p):Int),.rows (AN (DB o p) (RF F o p))]=g) :
    ((Cw G N [PV.int 0,PV.int p]).bind fun c1=>bif pvI (AA c1 0)==((0:Nat):Int) then some [PV.int (pvI (AA c1 1)),PV.int (pvI (AA c1 2))] else some [PV.int (-1),PV.int (pvI (AA c1 1))]).bind
      (fun c1=>(bif iLt (pvI (AA c1 0)) 0 then bif iSm (((AN o F++[[PV.int (pvI (AA c1 1)),PV.int 0,PV.int 0,PV.int 0,PV.int 0,PV.bool false,PV.int 0,PV.int 0,PV.int 0,PV.bool false]]).length:Nat):Int) 72 then some [PV.int (IntKind.i64.wrap ((((AN o F++[[PV.int (pvI (AA c1 1)),PV.int 0,PV.int 0,PV.int 0,PV.int 0,PV.bool false,PV.int 0,PV.int 0,PV.int 0,PV.bool false]]).length:Nat):Int) - 1)),PV.rows (AN o F++[[PV.int (pvI (AA c1 1)),PV.int 0,PV.int 0,PV.int 0,PV.int 0,PV.bool false,PV.int 0,PV.int 0,PV.int 0,PV.bool false]])] else none else some [PV.int (pvI (AA c1 0)),PV.rows (AN o F)]).bind K3)=g:=by
  refine qM (F:=F) hN h0 h1 ?_;rw [ri,uQ] at hk;cases hb:Nat.blt (Ai p o) o.length with
  | true =>
    simp only [hb,cond_true] at hk;have e:iLt (Ai p o:Int) 0=false:=by simp only [iLt,decide_eq_false_iff_not];omega
    simp only [PXb,PXc,PXn,AG,e];exact hk
  | false =>
    simp only [hb,cond_false] at hk;have ll:(AN o F++[lnR p ln0]).length=o.length+1:=by rw [List.length_append,Bk];rfl
    have e2:iSm (((AN o F++[lnR p ln0]).length:Nat):Int) 72=true:=by rw [ll];exact Gc (by omega) (by omega)
    have e3:IntKind.i64.wrap ((((AN o F++[lnR p ln0]).length:Nat):Int) - 1)=(o.length:Int):=by
      rw [ll,BQ (by omega) (by omega)];omega
    have e4:iLt (-1) 0=true:=rfl;have e5:[PV.int p,PV.int 0,PV.int 0,PV.int 0,PV.int 0,PV.bool false,PV.int 0,PV.int 0,PV.int 0,PV.bool false]=lnR p ln0:=rfl;have q:((1:Int)==((0:Nat):Int))=false:=rfl;simp only [PXb,PXc,PXn,AG,q,e4];rw [e5,e2,e3];exact hk
theorem qz {o:List Int} {F:Int→Ln} {p:Int} (h:p∈o):pvB (AB (AN o F) (Ai p o) 9)=(F p).batted:=by unfold AB;rw [eE h];rfl
theorem iZ {o : List Int} {F : Int → Ln} {p : Int} {b : Bool} (hn : o.Nodup) (h : p ∈ o) :
    (AN o F).set (Ai p o) (Ah (AK (AN o F) (Ai p o)) 9 [.bool (pvB (AB (AN o F) (Ai p o) 9)||b)])=AN o (Bh F p { F p with batted:=(F p).batted||b }):=by
  rw [qz h,FT (v:={ F p with batted:=(F p).batted||b }) hn h rfl]
theorem qO {o : List Int} {F : Int → Ln} {p : Int} (hn : o.Nodup) (h : p ∈ o) :
    (AN o F).set (Ai p o) (Ah (AK (AN o F) (Ai p o)) 9 [.bool (pvB (AB (AN o F) (Ai p o) 9))])=AN o (Bh F p { F p with batted:=(F p).batted||false }):=by
  have:=iZ (b:=false) hn h (F:=F);rw [Bool.or_false] at this;exact this
set_option maxHeartbeats 8000000 in
theorem cB {N:Nat} {r8:Bool} {r0:ByteArray} {r13:Rows} {L:Rows} (hN:2097152<N) (hL:L.length≤4000) (h0:0≤r1) (h1:r1≤100):JE N [.str r0,.int r1,.int r2,.int r3,.int r4,.int r5,.int r6,.int r7,.bool r8,.int r9,.int r10,.int r11,.int r12,.rows r13,.rows L]=some [.rows (dy L r1.toNat)]:=by
 show JF (std (QL N) N) (xOf _)=_;simp only [JF,lq9,std,xOf,PXb];refine Ac (CC (len:=L.length) (fun i=>[.int (i:Int),.rows (sU L i)]) [.rows (sU L L.length)] ?_ ?_ N (by omega)) ?_
 ·intro self;simp only [PXb,PXc,PXn,AG,A7]
 ·intro i self hi;have on:=GU L i;have ol:=VO L i;have wi:IntKind.i64.wrap ((i:Int)+1)=((i+1:Nat):Int):=Bv (show i≤1099511627776 by omega);simp only [PXb,PXc,PXn,AG,Az hi,AP hi,sU];have kk:(evR L i).kind=pvI (AB L i 0):=rfl;have kp:(evR L i).player=pvI (AB L i 2):=rfl;have ko:(evR L i).other=pvI (AB L i 3):=rfl;have ky:(evR L i).yes=pvB (AB L i 4):=rfl;have eo:BZ L (i+1)=cond ((evR L i).kind==2) (DB (DB (BZ L i) (evR L i).player) (evR L i).other) (cond ((evR L i).kind==5) (DB (BZ L i) (evR L i).player) (BZ L i)):=rfl;rw [eo,kk];have no:∀ q,q∉BZ L i→B5 L q i=false:=fun q hq=>T4 i hq
  cases h2:pvI (AB L i 0)==2 with
  | true =>
   rw [cond_true,cond_true,← kp,← ko];refine YI (by omega) (by omega) ?_ ?_ ?_
   ·intro self;simp only [PXb,PXc,PXn,AG,Bk,A7]
   ·intro j self hj;simp only [PXb,PXc,PXn,AG,Bk,Bv (show j≤1099511627776 by omega),Az hj,AP hj,Ru hj]
   ·have i1:=cE (BZ L i) (evR L i).player;have n1:=Hi (p:=(evR L i).player) on;have l1:=Tz (BZ L i) (evR L i).player;simp only [PXb,PXc,PXn,AG,Bk,AP (Fu i1).1,Int.toNat_natCast];rw [FT (v:={ RF (EM fun p=>B5 L p i) (BZ L i) (evR L i).player (evR L i).player with batted:=true }) n1 i1 rfl];have a1:Bh (RF (EM fun p=>B5 L p i) (BZ L i) (evR L i).player) (evR L i).player { RF (EM fun p=>B5 L p i) (BZ L i) (evR L i).player (evR L i).player with batted:=true }=EM fun q=>B5 L q i||q==(evR L i).player:=by
     have:=Vt (o:=BZ L i) (F:=EM fun p=>B5 L p i) (p:=(evR L i).player) (b:=true);rw [Bool.or_true,kQ no] at this;exact this
    rw [a1];refine YI (by omega) (by omega) ?_ ?_ ?_
    ·intro self;simp only [PXb,PXc,PXn,AG,Bk,A7]
    ·intro j self hj;simp only [PXb,PXc,PXn,AG,Bk,Bv (show j≤1099511627776 by omega),Az hj,AP hj,Ru hj]
    ·have i2:=cE (DB (BZ L i) (evR L i).player) (evR L i).other;have n2:=Hi (p:=(evR L i).other) n1;simp only [PXb,PXc,PXn,AG,Bk,AP (Fu i2).1,Int.toNat_natCast];rw [FT (v:={ RF (EM fun q=>B5 L q i||q==(evR L i).player) (DB (BZ L i) (evR L i).player) (evR L i).other (evR L i).other with batted:=true }) n2 i2 rfl];have no2:∀ q,q∉DB (BZ L i) (evR L i).player→(B5 L q i||q==(evR L i).player)=false:=fun q hq=>by
      have hq2:¬ (q∈BZ L i∨q=(evR L i).player):=fun hc=>hq (Kk.2 hc)
      rw [no q (fun hc=>hq2 (.inl hc)),beq_eq_false_iff_ne.2 (fun e=>hq2 (.inr e))];rfl
     have a2:=Vt (o:=DB (BZ L i) (evR L i).player) (F:=EM fun q=>B5 L q i||q==(evR L i).player) (p:=(evR L i).other) (b:=true);rw [Bool.or_true,kQ no2] at a2;rw [a2,wi];have a3:(fun q=>(B5 L q i||q==(evR L i).player)||q==(evR L i).other)=fun q=>B5 L q (i+1):=funext fun q=>by
      show _=(B5 L q i||cond ((evR L i).kind==2) (q==(evR L i).player||q==(evR L i).other) _);rw [show ((evR L i).kind==2)=true from h2,cond_true,Bool.or_assoc]
     rw [a3]
  | false =>
   cases h5:pvI (AB L i 0)==5 with
   | true =>
    rw [cond_false,cond_true,cond_false,cond_true,← kp];refine YI (by omega) (by omega) ?_ ?_ ?_
    ·intro self;simp only [PXb,PXc,PXn,AG,Bk,A7]
    ·intro j self hj;simp only [PXb,PXc,PXn,AG,Bk,Bv (show j≤1099511627776 by omega),Az hj,AP hj,Ru hj]
    ·have i1:=cE (BZ L i) (evR L i).player;have n1:=Hi (p:=(evR L i).player) on;simp only [PXb,PXc,PXn,AG,Bk,AP (Fu i1).1,Int.toNat_natCast];rw [iZ n1 i1,Vt,eT no,wi,← ky];have a3:(fun q=>B5 L q i||(q==(evR L i).player && !(evR L i).yes))=fun q=>B5 L q (i+1):=funext fun q=>by
      show _=(B5 L q i||cond ((evR L i).kind==2) _ (cond ((evR L i).kind==5) (q==(evR L i).player && !(evR L i).yes) false));rw [show ((evR L i).kind==2)=false from h2,show ((evR L i).kind==5)=true from h5];rfl
     rw [a3]
   | false =>
    rw [cond_false,cond_false,cond_false,cond_false,wi];have a3:(fun q=>B5 L q i)=fun q=>B5 L q (i+1):=funext fun q=>by
     show _=(B5 L q i||cond ((evR L i).kind==2) _ (cond ((evR L i).kind==5) _ false));rw [show ((evR L i).kind==2)=false from h2,show ((evR L i).kind==5)=false from h5];exact (Bool.or_false _).symm
    rw [a3]
 ·have on:=GU L L.length;have ol:=VO L L.length;have no:∀ q,q∉BZ L L.length→B5 L q L.length=false:=fun q hq=>T4 L.length hq
  obtain ⟨k,hk⟩:∃ k:Nat,r1=(k:Int):=⟨r1.toNat,by omega⟩;subst hk;rw [Int.toNat_natCast];simp only [PXb,PXc,PXn,AG];refine Ac (CC (len:=k) (fun j=>[.int ((j:Int)+1),.rows (dy L j)]) [.rows (dy L k)] ?_ ?_ N (by omega)) rfl
  ·intro self;have e:iLe ((k:Int)+1) (k:Int)=false:=by simp only [iLe,decide_eq_false_iff_not];omega
   simp only [PXb,PXc,PXn,AG,e]
  ·intro j self hj;have e:iLe ((j:Int)+1) (k:Int)=true:=by simp only [iLe,decide_eq_true_eq];omega
   have jn:=H9 on j;have jl:=Z3 (BZ L L.length) j;have no3:∀ q,q∉Mx (BZ L L.length) j→B5 L q L.length=false:=fun q hq=>no q fun hc=>hq (Zk.2 (.inl hc))
   have eo:dy L (j+1)=AN (DB (Mx (BZ L L.length) j) ((j:Int)+1)) (EM fun p=>B5 L p L.length):=rfl;rw [eo];simp only [PXb,PXc,PXn,AG,e,dy];refine YI (by omega) (by omega) ?_ ?_ ?_
   ·intro self;simp only [PXb,PXc,PXn,AG,Bk,A7]
   ·intro i self hi;simp only [PXb,PXc,PXn,AG,Bk,Bv (show i≤1099511627776 by omega),Az hi,AP hi,Ru hi]
   ·have i1:=cE (Mx (BZ L L.length) j) ((j:Int)+1);have n1:=Hi (p:=(j:Int)+1) jn;have wj:IntKind.i64.wrap ((j:Int)+1+1)=((j+1:Nat):Int)+1:=by rw [BQ (by omega) (by omega)];omega
    have a3:(fun q=>B5 L q L.length||(q==(j:Int)+1&&false))=fun q=>B5 L q L.length:=funext fun q=>by rw [Bool.and_false,Bool.or_false]
    simp only [PXb,PXc,PXn,AG,Bk,AP (Fu i1).1,Int.toNat_natCast];rw [qO n1 i1,Vt,eT no3,a3,wj]
structure Up (x y:Sco):Prop where
 side:y.side=x.side
 runs:x.runs≤y.runs
 wk:x.wickets≤y.wickets
 balls:x.balls≤y.balls
theorem Up.refl (x:Sco):Up x x:=⟨rfl,Int.le_refl _,Int.le_refl _,Int.le_refl _⟩
def Bt (L:Rows) (k:Nat):Rows:=List.drop (AH L k) (List.take (AH L (k+1)) L)
theorem aA {L:Rows} (hL:L.length≤1048576) {k:Nat} (hk:k<opn L L.length):(Bt L k).length=AH L (k+1) - AH L k:=em (seg hL hk).le
def XJ (r:Rul) (L:Rows) (k:Int):Rows×Int:=cond (!(Ay r L==0)) ([],Ay r L) (cond (iLt k 0||iLe (opn L L.length:Int) k) ([],2) (fil k (CL r L),0))
def iL (x:List PV):Cre:=⟨pvI (AA x 20),pvI (AA x 21),pvI (AA x 22),pvI (AA x 23),pvI (AA x 24),pvI (AA x 25),pvB (AA x 26),pvB (AA x 27),pvB (AA x 28),pvB (AA x 29)⟩
end Go.Px
end
