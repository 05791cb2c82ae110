/- Part 15. -/
import Derived.Test.YtkknkmdpelogmaaGreatDoorPart14
import Derived.KernelRfl
set_option linter.unusedVariables false
set_option linter.unusedSimpArgs false
section
namespace Go.Px
set_option maxRecDepth 100000
theorem ZJ(L:Rows):∀i,opn L i≤i
 |0=>Nat.le_refl _
 |i+1=>by
  have:=ZJ L i;show opn L i+cond _ 1 0≤_
  grind
def IM(xs:List (Int×Int))(v:Int):List (Int×Int):=cond (iLt 0 (xs.length:Int)) (xs.set (IntKind.i64.wrap ((xs.length:Int)-1)).toNat ((pr xs (IntKind.i64.wrap ((xs.length:Int)-1)).toNat).1,v)) xs
def CB(L:Rows):Nat→List (Int×Int)
 |0=>[]
 |i+1=>cond ((evR L i).kind==2) (IM (CB L i) (i:Int)++[((i:Int),(L.length:Int))]) (CB L i)
theorem YK(xs:List (Int×Int))(v:Int):(IM xs v).length=xs.length:=by
 unfold IM
 grind
theorem IV(L:Rows):∀i,(CB L i).length=opn L i
 |0=>rfl
 |i+1=>by
  have ih:=IV L i;show(cond ((evR L i).kind==2) _ (CB L i)).length=opn L i+cond ((evR L i).kind==2) 1 0;cases(evR L i).kind==2
  ·exact ih
  rw[cond_true,cond_true,List.length_append,YK,ih];rfl
theorem nG{n:Nat}(h:0<n)(h2:n≤1048576):(IntKind.i64.wrap ((n:Int)-1)).toNat=n-1∧iIn (IntKind.i64.wrap ((n:Int)-1)) (n:Int)=true:=by
 rw[A0 (by omega) (by omega)];refine⟨by omega,?_⟩;simp only[iIn,decide_eq_true_eq];omega
theorem ABE{N:Nat}{L:Rows}(hN:2097152<N)(hL:L.length≤1048576){F:(List AW→Option (List PV))→List PV→Option (List PV)}
    (h0:∀self,F self [.rows (Fx (CB L L.length)),.int (L.length:Int)]=some [.rows (Fx (CB L L.length))])
    (h1:∀i self,i<L.length→(CB L i).length≤1048575→F self [.rows (Fx (CB L i)),.int (i:Int)]=self [.rows (Fx (CB L (i+1))),.int (((i+1:Nat)):Int)]):CP F N [.rows (Fx []),.int 0]=some [.rows (Fx (CB L L.length))]:=by
  have:=BC (F:=F) (len:=L.length) (fun i=>[.rows (Fx (CB L i)),.int (i:Int)]) [.rows (Fx (CB L L.length))] h0 (fun i self hi=>h1 i self hi (by rw[IV];have:=ZJ L i;omega)) N (by omega);exact this
theorem Ao{i:Nat}(h:i≤1099511627776):IntKind.i64.wrap ((i:Int)+1)=((i+1:Nat):Int):=BN h
theorem ACL{L:Rows}{i:Nat}{xs:List (Int×Int)}(hk:((evR L i).kind==2)=true)(he:CB L i=xs)(h:iLt 0 (xs.length:Int)=true):CB L (i+1)=xs.set (IntKind.i64.wrap ((xs.length:Int)-1)).toNat ((pr xs (IntKind.i64.wrap ((xs.length:Int)-1)).toNat).1,(i:Int))++[((i:Int),(L.length:Int))]:=by
 show cond ((evR L i).kind==2) (IM (CB L i) (i:Int)++[((i:Int),(L.length:Int))]) (CB L i)=_;rw[hk,he];unfold IM
 grind
theorem ze{L:Rows}{i:Nat}{xs:List (Int×Int)}(hk:((evR L i).kind==2)=true)(he:CB L i=xs)(h:iLt 0 (xs.length:Int)=false):CB L (i+1)=xs++[((i:Int),(L.length:Int))]:=by
 show cond ((evR L i).kind==2) (IM (CB L i) (i:Int)++[((i:Int),(L.length:Int))]) (CB L i)=_;rw[hk,he];unfold IM
 grind
theorem vj{L:Rows}{i:Nat}(hk:((evR L i).kind==2)=false):CB L (i+1)=CB L i:=by
 show cond ((evR L i).kind==2) _ (CB L i)=_
 grind
set_option maxHeartbeats 1000000 in
theorem Ds{N:Nat}{L:Rows}(hN:2097152<N)(hL:L.length≤1048576):Ay N [.rows L]=some [.rows (Fx (CB L L.length))]:=by
 show MV (std (Vx N) N) (xOf _)=_;simp only[MV,lq9,std,xOf,PXb];refine AQ (ABE hN hL ?_ ?_) rfl
 ·intro self;simp only[PXb,PXc,PXn,AH,Aq]
 intro i self hi hlen;have kk:(evR L i).kind=atI L i 0:=rfl;simp only[PXb,PXc,PXn,AH,Ao (show i≤1099511627776 by omega),Ae hi,AM hi,CC,PXp,←kk];cases hk:(evR L i).kind==2
 ·rw[vj hk];rfl
 simp only[PXb,Bool.not_true];generalize he:CB L i=xs at hlen;cases h0:iLt 0 (xs.length:Int)
 ·have sm:iSm ((xs.length+1:Nat):Int) 16=true:=Dk (by omega) (by omega);rw[ze hk he h0];simp only[PXb,PXc,PXn,AH,PXp,List.length_append,List.length_cons,List.length_nil,sm,Nat.reduceAdd]
 have h1:0<xs.length:=by simp only[iLt,decide_eq_true_eq]at h0;omega
 have sm:iSm ((xs.length+1:Nat):Int) 16=true:=Dk (by omega) (by omega);rw[ACL hk he h0];simp only[PXb,PXc,PXn,AH,PXp,List.length_append,List.length_cons,List.length_nil,List.length_set,sm,Nat.reduceAdd,(nG h1 (by omega)).2]
theorem mJ(ans:Nat→Option (List PV)):∀k i,Be ans (k+1) i=match Be ans k i with|some r=>some r|none=>ans (i+k)
 |0,i=>by
  simp only[Be]
  grind
 |k+1,i=>by
  have ih:=mJ ans k (i+1);have e1:Be ans (k+1+1) i=match ans i with|some r=>some r|none=>Be ans (k+1) (i+1):=rfl
  have e2:Be ans (k+1) i=match ans i with|some r=>some r|none=>Be ans k (i+1):=rfl
  grind
def nV(L:Rows)(i:Nat):Option (List PV):=cond ((evR L i).kind==1) (some [.int (Ve (evR L i))]) none
theorem ru(L:Rows):∀n,Be (nV L) n 0=(Ed L n).map fun v=>[.int v]
 |0=>rfl
 |n+1=>by
  rw[mJ,ru L n,Nat.zero_add];show _=(match Ed L n with|some v=>some v|none=>cond ((evR L n).kind==1) (some (Ve (evR L n))) none).map fun v=>[PV.int v]
  cases Ed L n with
  |some v=>rfl
  |none=>
   show nV L n=_;unfold nV
   grind
def nX(L:Rows):Int:=(Ed L L.length).getD 1
theorem ACR{N:Nat}{L:Rows}(hN:2097152<N)(hL:L.length≤1048576){F:(List AW→Option (List PV))→List PV→Option (List PV)}(h0:∀self,F self [.int (L.length:Int)]=some [.int 1])
    (h1:∀i self,i<L.length→F self [.int (i:Int)]=match nV L i with|some r=>some (.int 0::r)|none=>self [.int ((i:Int)+1)]):CP F N [.int 0]=some (Wq ((Ed L L.length).map fun v=>[.int v])):=by
  have:=DF (F:=F) (len:=L.length) (nV L) h0 h1 L.length 0 N (by omega) (by omega);rw[ru]at this;exact this
theorem AEC(o:Option Int):cond (pvI (AA (Wq (o.map fun v=>[.int v])) 0)==((0:Nat):Int)) (some [PV.int (pvI (AA (Wq (o.map fun v=>[.int v])) 1))]) (some [PV.int 1])=some [.int (o.getD 1)]:=by
 cases o<;>rfl
theorem qu{N:Nat}{L:Rows}(hN:2097152<N)(hL:L.length≤1048576):J3 N [.rows L]=some [.int (nX L)]:=by
 show NQ (std (Wd N) N) (xOf _)=_;simp only[NQ,lq9,std,xOf,PXb];refine AQ (ACR hN hL ?_ ?_) (AEC _)
 ·intro self;simp only[PXb,PXc,PXn,AH,Aq]
 intro i self hi;have kk:(evR L i).kind=atI L i 0:=rfl;have ky:(evR L i).yes=atB L i 4:=rfl;have ks:(evR L i).side=atI L i 1:=rfl;simp only[PXb,PXc,PXn,AH,BN (show i≤1099511627776 by omega),Ae hi,AM hi,CC,oT,nV,Ve,C5,kk,ky,ks]
 grind
def fL(f:Int)(en:Bool)(k:Nat):Int:=cond (en&&((k:Int)==2||(k:Int)==3)) (C5 (cond ((k:Int).tmod 2==1) (C5 f) f)) (cond ((k:Int).tmod 2==1) (C5 f) f)
def zs(g:Nat→Int)(n:Nat):List Int:=(List.range n).map g
theorem ZG(g:Nat→Int)(n:Nat):(zs g n).length=n:=by unfold zs;simp_all
theorem AEI(g:Nat→Int)(n:Nat):BJ (zs g n)++[[.int (g n)]]=BJ (zs g (n+1)):=by
 unfold zs BJ;rw[List.range_succ,List.map_append,List.map_append];rfl
theorem yh(g:Nat→Int){n k:Nat}(h:k<n):atI (BJ (zs g n)) k 0=g k:=by
 rw[nN,zzl];unfold zs
 simp_all
theorem ACM{N:Nat}{L:Rows}(hN:2097152<N)(hL:L.length≤1048576){F:(List AW→Option (List PV))→List PV→Option (List PV)}(h0:∀self,F self [.bool (FT L L.length),.int (L.length:Int)]=some [.bool (FT L L.length)])
    (h1:∀i self,i<L.length→F self [.bool (FT L i),.int (i:Int)]=self [.bool (FT L (i+1)),.int (((i+1:Nat)):Int)]):CP F N [.bool false,.int 0]=some [.bool (FT L L.length)]:=
  BC (F:=F) (len:=L.length) (fun i=>[.bool (FT L i),.int (i:Int)]) [.bool (FT L L.length)] h0 h1 N (by omega)
theorem ADF{N n:Nat}{g:Nat→Int}(hN:2097152<N)(hL:n≤1048576){F:(List AW→Option (List PV))→List PV→Option (List PV)}(h0:∀self,F self [.rows (BJ (zs g n)),.int (n:Int)]=some [.rows (BJ (zs g n))])
    (h1:∀i self,i<n→F self [.rows (BJ (zs g i)),.int (i:Int)]=self [.rows (BJ (zs g (i+1))),.int (((i+1:Nat)):Int)]):CP F N [.rows [],.int 0]=some [.rows (BJ (zs g n))]:=
  BC (F:=F) (len:=n) (fun i=>[.rows (BJ (zs g i)),.int (i:Int)]) [.rows (BJ (zs g n))] h0 h1 N (by omega)
set_option maxHeartbeats 1000000 in
theorem qp{N:Nat}{L:Rows}(hN:2097152<N)(hL:L.length≤1048576):J6 N [.rows L]=some [.rows (BJ (zs (fL (nX L) (FT L L.length)) (opn L L.length)))]:=by
 show NW (std (Kh N) N) (xOf _)=_;simp only[NW,S7,Tu,lq9,std,xOf,PXb,qu hN hL];refine AQ (ACM hN hL ?_ ?_) ?_
 ·intro self;simp only[PXb,PXc,PXn,AH,Aq]
 ·intro i self hi;have kk:(evR L i).kind=atI L i 0:=rfl;have ky:(evR L i).yes=atB L i 4:=rfl;have e:FT L (i+1)=(FT L i||((evR L i).kind==12&&(evR L i).yes)):=rfl;rw[e,kk,ky];simp only[PXb,PXc,PXn,AH,Ao (show i≤1099511627776 by omega),Ae hi,AM hi,CC,oT]
 have ol:=ZJ L L.length;simp only[PXb,PXc,PXn,AH,Ds hN hL,PXp,IV];generalize FT L L.length=en;generalize hn:opn L L.length=n at ol;refine AQ (ADF (n:=n) (g:=fL (nX L) en) hN (by omega) ?_ ?_) rfl
 ·intro self;simp only[PXb,PXc,PXn,AH,Aq]
 intro i self hi;have sm:iSm ((i+1:Nat):Int) 8=true:=Dk (by omega) (by omega);rw[←AEI];unfold fL;cases h1:(i:Int).tmod 2==1<;>cases h2:(en&&((i:Int)==2||(i:Int)==3)) <;>
  simp only[PXb,PXc,PXn,AH,Ao (show i≤1099511627776 by omega),Ae hi,h1,h2,EB,ZG,List.length_append,List.length_cons,List.length_nil,Nat.reduceAdd,sm,C5]
theorem AEo(xs:List (Int×Int))(k:Nat)(s:Int×Int)(i:Nat)(hi:i<xs.length):pr (xs.set k s) i=(if k=i then s else pr xs i):=by
 rw[aY,aY,List.getElem?_set]
 grind
theorem AES(xs:List (Int×Int))(s:Int×Int)(i:Nat)(hi:i<xs.length+1):pr (xs++[s]) i=(if i<xs.length then pr xs i else s):=by
 rw[aY,aY]
 grind
theorem Nn{L:Rows}{i:Nat}(h:((evR L i).kind==2)=true):opn L (i+1)=opn L i+1:=by
 show opn L i+cond ((evR L i).kind==2) 1 0=_
 grind
theorem iJ{L:Rows}{i:Nat}(h:((evR L i).kind==2)=false):opn L (i+1)=opn L i:=by
 show opn L i+cond ((evR L i).kind==2) 1 0=_
 grind
theorem kw{L:Rows}(hL:L.length≤1048576):∀i,i≤L.length→∀k,k<opn L i→∃a:Nat,(pr (CB L i) k).1=(a:Int)∧a<i∧opn L a=k∧((evR L a).kind==2)=true ∧
    ((k+1<opn L i∧∃b:Nat,(pr (CB L i) k).2=(b:Int)∧b<i∧opn L b=k+1∧((evR L b).kind==2)=true)∨(k+1=opn L i∧(pr (CB L i) k).2=(L.length:Int)))
  |0,_,k,hk=>absurd hk (Nat.not_lt_zero k)
  |i+1,hi,k,hk=>by
    have ih:=kw hL i (by omega);cases h2:(evR L i).kind==2
    · rw[iJ h2]at hk⊢;rw[vj h2]
      grind
    rw[Nn h2]at hk⊢;have sl:=IV L i;have hle:=ZJ L i;have ha:=fun(j:Nat) (hj:j<opn L i+1)=>AES (IM (CB L i) (i:Int)) ((i:Int),(L.length:Int)) j (by rw[YK,sl];exact hj)
    have e:CB L (i+1)=IM (CB L i) (i:Int)++[((i:Int),(L.length:Int))]:=by
      show cond ((evR L i).kind==2) _ _=_
      simp_all
    rw[e,ha k hk,YK,sl]
    by_cases hkn:k<opn L i
    · rw[if_pos hkn];obtain⟨a,h3,h4,h5,h6,h7⟩:=ih k hkn;have hp:0<opn L i:=by omega
      have ix:=(nG hp (by omega)).1;have es:IM (CB L i) (i:Int)=(CB L i).set (opn L i-1) ((pr (CB L i) (opn L i-1)).1,(i:Int)):=by
        unfold IM;rw[sl,show iLt 0 (opn L i:Int)=true by simp only[iLt,decide_eq_true_eq];omega,ix];rfl
      rw[es,AEo _ _ _ _ (by omega)]
      grind
    grind
theorem ABo{L:Rows}{a b:Nat}(h:opn L a=opn L b)(ha:((evR L a).kind==2)=true)(hb:((evR L b).kind==2)=true):a=b:=by
 rcases Nat.lt_trichotomy a b with h1|h1|h1
 ·have:=Ei L (show a+1≤b by omega);have:=Nn ha;omega
 ·exact h1
 have:=Ei L (show b+1≤a by omega);have:=Nn hb;omega
def AG(L:Rows)(k:Nat):Nat:=if k<opn L L.length then(pr (CB L L.length) k).1.toNat else L.length
structure Seg(L:Rows)(k:Nat):Prop where
 x0:(pr (CB L L.length) k).1=(AG L k:Int)
 x1:(pr (CB L L.length) k).2=(AG L (k+1):Int)
 lt:AG L k<AG L (k+1)
 le:AG L (k+1)≤L.length
 o0:opn L (AG L k)=k
 o1:opn L (AG L (k+1))=k+1
 mid:∀j,AG L k≤j→j<AG L (k+1)→opn L (j+1)=k+1
theorem seg{L:Rows}(hL:L.length≤1048576){k:Nat}(h:k<opn L L.length):Seg L k:=by
 obtain⟨a,h1,h2,h3,h4,h5⟩:=kw hL L.length (Nat.le_refl _) k h;have p0:AG L k=a:=by unfold AG;simp_all
 have key:(pr (CB L L.length) k).2=(AG L (k+1):Int)∧a<AG L (k+1)∧AG L (k+1)≤L.length∧opn L (AG L (k+1))=k+1:=by
  rcases h5 with⟨q,b,q1,q2,q3,q4⟩|⟨q,q1⟩
  ·obtain⟨a',g1,g2,g3,g4,_⟩:=kw hL L.length (Nat.le_refl _) (k+1) q;have e:a'=b:=ABo (g3.trans q3.symm) g4 q4;subst e;have p1:AG L (k+1)=a':=by unfold AG;simp_all
   rw[p1];refine⟨q1,?_,by omega,q3⟩
   rcases Nat.lt_or_ge a a' with hl|hl
   ·exact hl
   have:=Ei L hl;omega
  have p1:AG L (k+1)=L.length:=by unfold AG;simp_all
  simp_all
 obtain⟨k1,k2,k3,k4⟩:=key;refine⟨by rw[h1,p0],k1,by omega,k3,by simp_all,k4,fun j j1 j2=>?_⟩;rw[p0]at j1;have m1:=Ei L (show a+1≤j+1 by omega);have m2:=Ei L (show j+1≤AG L (k+1) by omega);rw[Nn h4]at m1;omega
theorem ADe(L:Rows):AG L (opn L L.length)=L.length:=by unfold AG;simp_all
theorem AE8(L:Rows){a b:Nat}(i j:Nat)(h:i<b-a):AD ((L.take b).drop a) i j=AD L (a+i) j:=by
 unfold AD AB
 grind
theorem mh(L:Rows){a b:Nat}(i:Nat)(h:i<b-a):evR ((L.take b).drop a) i=evR L (a+i):=by
 unfold evR atI atB;simp only[AE8 L i _ h]
theorem xQ{L:Rows}{a b:Nat}(h:b≤L.length):((L.take b).drop a).length=b-a:=by
 simp_all
def X3(e:Ev):Bool:=cond (e.kind==4) (!(e.ball.how==0)) (cond (e.kind==5) e.yes (cond (e.kind==6) (!e.yes) false))
theorem AAk(e:Ev):Da e=cond (X3 e) 1 0:=by
 unfold Da X3 Cf
 grind
theorem wW{N:Nat}{e0 e1 e2 e3 e5 e6 e7 e8 e9 e10 e11 e13 e14 e15 e16 e18:Int}{e4 e12 e17:Bool}  : Mv N [.int e0,.int e1,.int e2,.int e3,.bool e4,.int e5,.int e6,.int e7,.int e8,.int e9,.int e10,.int e11,.bool e12,.int e13,.int e14,.int e15,.int e16,.bool e17,.int e18]=some [.bool (X3 (⟨e0,e1,e2,e3,e4,e5,e6,⟨e7,e8,e9,e10,e11,e12,e13,e14,e15,e16,e17,e18⟩⟩:Ev))]:=by
 show Rx (std (bn N) N) (xOf _)=_;simp only[Rx,lq9,std,xOf,PXb,PXc,PXn,PXm,Nat.reduceAdd,Int.reduceBEq];unfold X3
 simp_all
def yG:Option Nat→Int
 |some j=>(j:Int)
 |none => -1
theorem py(sd:Nat→Int)(s:Int)(k:Nat):∀c,c≤k+1→Be (fun i=>cond (sd (k-i)==s) (some [.int ((k-i:Nat):Int)]) none) c (k+1-c)=(CW sd s c).map fun j:Nat=>[PV.int (j:Int)]
 |0,_=>rfl
 |c+1,h=>by
  have ih:=py sd s k c (by omega);have e1:k-(k+1-(c+1))=c:=by omega
  have e2:k+1-(c+1)+1=k+1-c:=by omega
  simp only[Be,CW,e1,e2,ih]
  grind
theorem ux(sd:Nat→Int)(s:Int):∀c i,Be (fun i=>cond (sd i==s) (some [.int (i:Int)]) none) c i=(YG sd s c i).map fun j:Nat=>[PV.int (j:Int)]
 |0,_=>rfl
 |c+1,i=>by
  simp only[Be,YG,ux sd s c (i+1)]
  grind
theorem zy{N:Nat}{sd:Nat→Int}{n k:Nat}{s:Int}(hN:2097152<N)(hn:n≤1048576)(hk:k<n){F G:(List AW→Option (List PV))→List PV→Option (List PV)}
    (f0:∀self,F self [.int (-1)]=some [.int 1]) (f1:∀(j:Nat) self,j<n→F self [.int (j:Int)]=cond (sd j==s) (some [.int 0,.int (j:Int)]) (self [.int ((j:Int)-1)]))
    (g0:∀self,G self [.int (n:Int)]=some [.int 1]) (g1:∀(j:Nat) self,j<n→G self [.int (j:Int)]=cond (sd j==s) (some [.int 0,.int (j:Int)]) (self [.int ((j:Int)+1)])) :
    ((CP F N [.int (k:Int)]).bind fun c=>cond (pvI (AA c 0)==((0:Nat):Int)) (some [PV.int (pvI (AA c 1))]) ((CP G N [.int (IntKind.i64.wrap ((k:Int)+1))]).bind fun c=>cond (pvI (AA c 0)==((0:Nat):Int)) (some [PV.int (pvI (AA c 1))]) (some [PV.int (-1)])))=some [.int (yG (Eg sd n k s))]:=by
  have a1:=aZ (F:=F) (len:=k+1) (fun i=>[.int ((k:Int)-(i:Int))]) (fun i=>cond (sd (k-i)==s) (some [.int ((k-i:Nat):Int)]) none)
    (fun self=>by
      show F self [.int ((k:Int)-((k+1:Nat):Int))]=_
      grind)
    (fun i self hi=>by
      show F self [.int ((k:Int)-(i:Int))]=_
      grind) (k+1) 0 N (by omega) (by omega)
  have fb:=py sd s k (k+1) (Nat.le_refl _);rw[Nat.sub_self]at fb;rw[fb]at a1;have a1:CP F N [.int ((k:Int)-((0:Nat):Int))]=_:=a1;rw[show(k:Int)-((0:Nat):Int)=(k:Int) by omega]at a1;rw[a1,BN (show k≤1099511627776 by omega)];unfold Eg;cases CW sd s (k+1)with
  |some j=>rfl
  |none=>
    have a2:=DF (F:=G) (len:=n) (fun i=>cond (sd i==s) (some [.int (i:Int)]) none) g0 (fun i self hi=>by grind) (n-(k+1)) (k+1) N (by omega) (by omega);rw[ux]at a2;rw[show((k:Int)+1)=((k+1:Nat):Int) by omega,a2];cases YG sd s (n-(k+1)) (k+1)<;>rfl
theorem AAz(j:Nat):iLe 0 (j:Int)=true:=by rfl
theorem AAQ{j:Nat}(h:j≤1048576):IntKind.i64.wrap ((j:Int)-1)=(j:Int)-1:=A0 (by omega) (by omega)
set_option maxHeartbeats 1000000 in
theorem wU{N:Nat}{sd:Nat→Int}{n k:Nat}{s:Int}(hN:2097152<N)(hn:n≤1048576)(hk:k<n):KF N [.rows (BJ (zs sd n)),.int (k:Int),.int s]=some [.int (yG (Eg sd n k s))]:=by
 show Rj (std (cE N) N) (xOf _)=_;simp only[Rj,lq9,std,xOf,PXb];refine zy hN hn hk ?_ ?_ ?_ ?_
 ·intro self;rfl
 ·intro j self hj;simp only[PXb,PXc,PXn,AH,AAz,EB,ZG,AM hj,CC,yh _ hj,AAQ (show j≤1048576 by omega)]
 ·intro self;simp only[PXb,PXc,PXn,AH,EB,ZG,Aq]
 intro j self hj;simp only[PXb,PXc,PXn,AH,EB,ZG,Ae hj,AM hj,CC,yh _ hj,BN (show j≤1099511627776 by omega)]
theorem PM{L:Rows}{f:Ev→Int}{c:Int}(hf:∀e,0≤f e∧f e≤c)(j:Nat):∀i:Nat,0≤smi L f j i∧smi L f j i≤c*(i:Int)
 |0=>by
  have:smi L f j 0=0:=rfl;omega
 |i+1=>by
  have ih:=PM (L:=L) hf j i;have h1:=hf (evR L i);rw[CM,show c*((i+1:Nat):Int)=c*(i:Int)+c by grind]
  grind
theorem AEu(L:Rows)(sd:Nat→Int)(n j:Nat):∀i:Nat,0≤pnS L sd n j i∧pnS L sd n j i≤5*(i:Int)
 |0=>by
  have:pnS L sd n j 0=0:=rfl;omega
 |i+1=>by
  have ih:=AEu L sd n j i;rw[ng]
  grind
structure Sml(x:Sco):Prop where
 runs:0≤x.runs∧x.runs≤1000000
 wk:0≤x.wickets∧x.wickets≤1000000
 balls:0≤x.balls∧x.balls≤1000000
 wides:0≤x.wides∧x.wides≤1000000
 no:0≤x.noballs∧x.noballs≤1000000
 bb:0≤x.byes∧x.byes≤1000000
 lb:0≤x.legbyes∧x.legbyes≤1000000
 pens:0≤x.pens∧x.pens≤1000000
theorem me{r:Rul}(h:RulOk r)(e:Ev):0≤ET r e∧ET r e≤62:=by
 have c:=OU h e;have h0:=c.ba;have h1:=c.wi;have h2:=c.no;have h3:=c.bb;have h4:=c.lb;have h5:=c.tot;unfold ET;omega
theorem xj{r:Rul}(h:RulOk r)(L:Rows)(sd:Nat→Int)(n j:Nat){i:Nat}(hi:i≤4000):Sml (BX r L sd n j i):=by
 have p:=AEu L sd n j i;have b1:=PM (L:=L) (me h) j i;have b2:=PM (L:=L) zw j i;have b3:=PM (L:=L) (f:=Ql r) (c:=1) (fun e=>by unfold Ql;grind) j i;have b4:=PM (L:=L) (f:=fun e=>(BM r e).wides) (fun e=>(OU h e).wi) j i;have b5:=PM (L:=L) (f:=fun e=>(BM r e).noballs) (fun e=>(OU h e).no) j i;have b6:=PM (L:=L) (f:=fun e=>(BM r e).byes) (fun e=>(OU h e).bb) j i;have b7:=PM (L:=L) (f:=fun e=>(BM r e).legbyes) (fun e=>(OU h e).lb) j i;unfold BX;constructor<;>(grind)
theorem ZC{xs ys:List Sco}(hl:xs.length=ys.length)(h:∀j,j<xs.length→sco xs j=sco ys j):xs=ys:=by
 apply List.ext_getElem?;intro i
 by_cases hi:i<xs.length
 ·have:=h i hi;rw[GL,GL,zzo hi,zzo (by omega)]at this
  grind
 simp_all
def Ew(r:Rul)(L:Rows)(sd:Nat→Int)(n q i:Nat):List Sco:=(List.range n).map fun j=>{ BX r L sd n j i with side:=cond (Nat.blt j q) (sd j) 0 }
theorem Dv(r:Rul)(L:Rows)(sd:Nat→Int)(n q i:Nat):(Ew r L sd n q i).length=n:=by unfold Ew;simp_all
theorem Ie(r:Rul)(L:Rows)(sd:Nat→Int){n q i j:Nat}(h:j<n):sco (Ew r L sd n q i) j={ BX r L sd n j i with side:=cond (Nat.blt j q) (sd j) 0 }:=by
 rw[GL];unfold Ew
 simp_all
theorem fK{a b:Nat}(h:a<b):Nat.blt a b=true:=Nat.ble_eq_true_of_le h
theorem tX{a b:Nat}(h:¬a<b):Nat.blt a b=false:=by
 cases hq:Nat.blt a b
 ·rfl
 exact absurd (Nat.le_of_ble_eq_true hq) h
theorem aN{xs:List Sco}{k:Nat}(h:k<xs.length)(s:Sco):sco (xs.set k s) k=s:=by rw[Yi _ _ _ _ h,if_pos rfl]
theorem ACI{r:Rul}{L:Rows}{sd:Nat→Int}{n k i:Nat}(h:k<n):(Ew r L sd n k i).set k { sco (Ew r L sd n k i) k with side:=sd k }=Ew r L sd n (k+1) i:=by
 refine ZC (by rw[List.length_set,Dv,Dv]) (fun j hj=>?_);rw[List.length_set,Dv]at hj;rw[Yi _ _ _ _ (by rw[Dv];exact hj),Ie _ _ _ h,Ie _ _ _ hj,Ie _ _ _ hj]
 by_cases e:k=j
 ·subst e;rw[if_pos rfl,fK (Nat.lt_succ_self k)];rfl
 rw[if_neg e];have:Nat.blt j k=Nat.blt j (k+1):=by
  by_cases hl:j<k
  ·rw[fK hl,fK (by omega)]
  rw[tX hl,tX (by omega)]
 rw[this]
theorem ADC(r:Rul)(L:Rows)(sd:Nat→Int)(n i:Nat):Ew r L sd n n i=(List.range n).map fun j=>BX r L sd n j i:=by
 refine ZC (by rw[Dv,List.length_map,List.length_range]) (fun j hj=>?_);rw[Dv]at hj;rw[Ie _ _ _ hj,GL,List.getElem?_map,List.getElem?_range hj,fK hj];rfl
theorem ABl{r:Rul}{L:Rows}{sd:Nat→Int}{n i:Nat}(ho:opn L i=0)(h13:∀j,j<i→((evR L j).kind==13)=true→1≤opn L (j+1)):List.replicate n dS=Ew r L sd n 0 i:=by
 have pz:∀j,pnS L sd n j i=0:=fun j=>by
  have:∀m,m≤i→pnS L sd n j m=0:=by
   intro m
   induction m with
   |zero=>intro _;rfl
   |succ m ih=>
    intro hm;rw[ng,ih (by omega)];cases k13:(evR L m).kind==13
    ·rfl
    have h1:=h13 m (by omega) k13;have h2:=Ei L (show m+1≤i by omega);omega
  simp_all
 refine ZC (by rw[Dv,List.length_replicate]) (fun j hj=>?_);rw[List.length_replicate]at hj;rw[Ie _ _ _ hj,GL,List.getElem?_replicate,if_pos hj,tX (by omega)];unfold BX;have z:∀f:Ev→Int,smi L f j i=0:=fun f=>U8 i (by omega)
 simp only[pz,z];rfl
theorem dc{r:Rul}{L:Rows}{sd:Nat→Int}{n k q i:Nat}{y:Sco}(hk:k<n)(hy:y={ BX r L sd n k (i+1)with side:=cond (Nat.blt k q) (sd k) 0 })(ho:∀j,j<n→¬k=j→BX r L sd n j (i+1)=BX r L sd n j i) :
    (Ew r L sd n q i).set k y=Ew r L sd n q (i+1):=by
  refine ZC (by rw[List.length_set,Dv,Dv]) (fun j hj=>?_);rw[List.length_set,Dv]at hj;rw[Yi _ _ _ _ (by rw[Dv];exact hj),Ie _ _ _ hj,Ie _ _ _ hj]
  simp_all
theorem sZ{r:Rul}{L:Rows}{sd:Nat→Int}{n q i:Nat}(ho:∀j,j<n→BX r L sd n j (i+1)=BX r L sd n j i):Ew r L sd n q i=Ew r L sd n q (i+1):=by
 refine ZC (by rw[Dv,Dv]) (fun j hj=>?_);rw[Dv]at hj;rw[Ie _ _ _ hj,Ie _ _ _ hj,ho j hj]
def rN(r:Rul)(e:Ev)(k:Nat)(d:Option Nat)(xs:List Sco):List Sco:=
  let x1:=cond (X3 e) (xs.set k { sco xs k with wickets:=IntKind.i64.wrap ((sco xs k).wickets+1) }) xs
  let c:=AF r e.ball
  cond (e.kind==4)
    (x1.set k { sco x1 k with runs:=IntKind.i64.wrap ((sco x1 k).runs+Bk c),balls:=cond c.counts (IntKind.i64.wrap ((sco x1 k).balls+1)) (sco x1 k).balls,wides:=IntKind.i64.wrap ((sco x1 k).wides+c.wides),noballs:=IntKind.i64.wrap ((sco x1 k).noballs+c.noballs),byes:=IntKind.i64.wrap ((sco x1 k).byes+c.byes),legbyes:=IntKind.i64.wrap ((sco x1 k).legbyes+c.legbyes) })
    (cond (e.kind==13) (match d with
      |some j=>x1.set j { sco x1 j with runs:=IntKind.i64.wrap ((sco x1 j).runs+5),pens:=IntKind.i64.wrap ((sco x1 j).pens+5) }
      |none=>x1) x1)
theorem AAf{sd:Nat→Int}{n k j:Nat}{s:Int}(hk:k<n)(h:Eg sd n k s=some j):j<n:=by
 rcases(uM h).2 with h|h<;>omega
theorem ABe{r:Rul}{L:Rows}{sd:Nat→Int}{n k i:Nat}(rk:RulOk r)(hk:k<n)(ho:opn L (i+1)=k+1)(hi:i<4000):rN r (evR L i) k (Eg sd n k (evR L i).side) (Ew r L sd n (k+1) i)=Ew r L sd n (k+1) (i+1):=by
 have hn:∀j,¬k=j→Nat.beq (opn L (i+1)) (j+1)=false:=fun j hj=>J2 (by omega)
 have hy:Nat.beq (opn L (i+1)) (k+1)=true:=by simp_all
 have sm:=fun j=>xj rk L sd n j (show i≤4000 by omega)
 have cs:=aJ r L sd n;have hp:opn L (i+1)-1=k:=by omega
 have tl:k<(Ew r L sd n (k+1) i).length:=by rw[Dv];exact hk
 unfold rN;cases h4:(evR L i).kind==4
 ·have s:=sm k;have s2:=s.wk;have w2:IntKind.i64.wrap ((BX r L sd n k i).wickets+1)=(BX r L sd n k i).wickets+1:=CH (by omega) (by omega);have od:=AAk (evR L i);cases h13:(evR L i).kind==13
  ·have ex:∀j,BX r L sd n j (i+1)=cond (Nat.beq (opn L (i+1)) (j+1)) (Q5 r (evR L i) (BX r L sd n j i)) (BX r L sd n j i):=fun j=>by
    rw[cs,h13,Bool.false_and,cond_false,Cw]
   have oe:Da (evR L i)=Cf (evR L i):=by unfold Da;grind
   rw[oe]at od;cases hb:X3 (evR L i)
   ·rw[hb]at od;simp only[cond_false];refine sZ (fun j hj=>?_);rw[ex,OY _ h4 od]
    simp_all
   rw[hb]at od;simp only[cond_false,cond_true,Ie _ _ _ hk,w2];refine dc hk ?_ (fun j hj hjk=>?_)
   ·rw[ex,hy,cond_true,jk _ h4,od];rfl
   grind
  have k13:=beq_iff_eq.1 h13;have ob:X3 (evR L i)=false:=by unfold X3;grind
  have oe:Cf (evR L i)=0:=by unfold Cf;grind
  have ex:∀j,BX r L sd n j (i+1)=LG (cond (isS (Eg sd n k (evR L i).side) j) 5 0) (BX r L sd n j i):=fun j=>by
   rw[cs,h13,Bool.true_and,hp,OY _ h4 oe]
   simp_all
  simp only[ob,cond_false,cond_true];cases hd:Eg sd n k (evR L i).side with
  |none=>
   refine sZ (fun j hj=>?_);rw[ex,hd];exact Cw _
  |some d=>
   have dl:=AAf hk hd;have q:=sm d;have q1:=q.runs;have q2:=q.pens;have v1:IntKind.i64.wrap ((BX r L sd n d i).runs+5)=(BX r L sd n d i).runs+5:=CH (by omega) (by omega);have v2:IntKind.i64.wrap ((BX r L sd n d i).pens+5)=(BX r L sd n d i).pens+5:=CH (by omega) (by omega);simp only[Ie _ _ _ dl,v1,v2];refine dc dl ?_ (fun j hj hjd=>?_)
   ·rw[ex,hd,show isS (some d) d=true from KE d];rfl
   rw[ex,hd,show isS (some d) j=false from J2 hjd];exact Cw _
 have k4:=beq_iff_eq.1 h4;have h13:((evR L i).kind==13)=false:=by grind
 have ce:BM r (evR L i)=AF r (evR L i).ball:=by unfold BM;grind
 have co:=OU rk (evR L i);have tb:=me rk (evR L i);rw[←ce];have fin:∀y:Sco,y={ BX r L sd n k (i+1)with side:=cond (Nat.blt k (k+1)) (sd k) 0 }→(Ew r L sd n (k+1) i).set k y=Ew r L sd n (k+1) (i+1):=fun y hyy=>dc hk hyy (fun j hj hjk=>by
  rw[cs,h13,Bool.false_and,cond_false,Cw,hn j hjk];rfl)
 have ex:BX r L sd n k (i+1)=Q5 r (evR L i) (BX r L sd n k i):=by rw[cs,h13,Bool.false_and,cond_false,Cw,hy];rfl
 have s:=sm k;have s1:=s.runs;have s2:=s.wk;have s3:=s.balls;have s4:=s.wides;have s5:=s.no;have s6:=s.bb;have s7:=s.lb;have c1:=co.wi;have c2:=co.no;have c3:=co.bb;have c4:=co.lb;unfold ET at tb;have w1:IntKind.i64.wrap ((BX r L sd n k i).runs+Bk (BM r (evR L i)))=(BX r L sd n k i).runs+Bk (BM r (evR L i)):=CH (by omega) (by omega);have w2:IntKind.i64.wrap ((BX r L sd n k i).wickets+1)=(BX r L sd n k i).wickets+1:=CH (by omega) (by omega);have w3:IntKind.i64.wrap ((BX r L sd n k i).balls+1)=(BX r L sd n k i).balls+1:=CH (by omega) (by omega);have w4:IntKind.i64.wrap ((BX r L sd n k i).wides+(BM r (evR L i)).wides)=(BX r L sd n k i).wides+(BM r (evR L i)).wides:=CH (by omega) (by omega);have w5:IntKind.i64.wrap ((BX r L sd n k i).noballs+(BM r (evR L i)).noballs)=(BX r L sd n k i).noballs+(BM r (evR L i)).noballs:=CH (by omega) (by omega);have w6:IntKind.i64.wrap ((BX r L sd n k i).byes+(BM r (evR L i)).byes)=(BX r L sd n k i).byes+(BM r (evR L i)).byes:=CH (by omega) (by omega);have w7:IntKind.i64.wrap ((BX r L sd n k i).legbyes+(BM r (evR L i)).legbyes)=(BX r L sd n k i).legbyes+(BM r (evR L i)).legbyes:=CH (by omega) (by omega);have od:=AAk (evR L i);cases hb:X3 (evR L i)
 ·simp only[cond_false,cond_true,Ie _ _ _ hk,w1,w3,w4,w5,w6,w7];refine fin _ ?_;rw[ex];unfold Q5
  grind
 simp only[cond_true,aN tl,List.set_set,Ie _ _ _ hk,w1,w2,w3,w4,w5,w6,w7];refine fin _ ?_;rw[ex];unfold Q5
 grind
def sdT(L:Rows):Nat→Int:=fL (nX L) (FT L L.length)
def Xw(r:Rul)(L:Rows)(sd:Nat→Int):List Sco:=(List.range (opn L L.length)).map fun j=>BX r L sd (opn L L.length) j L.length
structure InLog(L:Rows):Prop where
 len:L.length≤4000
 pen:∀j,j<L.length→((evR L j).kind==13)=true→1≤opn L (j+1)
set_option maxHeartbeats 4000000 in
theorem AAd{N:Nat}{r:Rul}{L:Rows}{k:Nat}(hN:2097152<N)(il:InLog L)(rk:RulOk r)(hk:k<opn L L.length){F:(List AW→Option (List PV))→List PV→Option (List PV)}
    (f0:∀xs self,F self [.rows (A6 xs),.int ((AG L (k+1)-AG L k:Nat):Int)]=some [.rows (A6 xs),.int ((AG L (k+1)-AG L k:Nat):Int)])
    (f1:∀(i:Nat) self,i<AG L (k+1)-AG L k→∀xs:List Sco,xs.length=opn L L.length→F self [.rows (A6 xs),.int (i:Int)]=self [.rows (A6 (rN r (evR L (AG L k+i)) k (Eg (sdT L) (opn L L.length) k (evR L (AG L k+i)).side) xs)),.int ((i+1:Nat):Int)]) :
    CP F N [.rows (A6 (Ew r L (sdT L) (opn L L.length) (k+1) (AG L k))),.int 0]=some [.rows (A6 (Ew r L (sdT L) (opn L L.length) (k+1) (AG L (k+1)))),.int ((AG L (k+1)-AG L k:Nat):Int)]:=by
  have sg:=seg (by have:=il.len;omega) hk;have h1:=sg.lt;have h2:=sg.le;have h3:=il.len;have e:AG L k+(AG L (k+1)-AG L k)=AG L (k+1):=by omega
  have:=BC (F:=F) (len:=AG L (k+1)-AG L k) (fun i=>[.rows (A6 (Ew r L (sdT L) (opn L L.length) (k+1) (AG L k+i))),.int (i:Int)]) [.rows (A6 (Ew r L (sdT L) (opn L L.length) (k+1) (AG L (k+1)))),.int ((AG L (k+1)-AG L k:Nat):Int)]
    (fun self=>by
      show F self [.rows (A6 (Ew r L (sdT L) (opn L L.length) (k+1) (AG L k+(AG L (k+1)-AG L k)))),_]=_;rw[e];exact f0 _ self)
    (fun i self hi=>by
      show F self [.rows (A6 (Ew r L (sdT L) (opn L L.length) (k+1) (AG L k+i))),.int (i:Int)]=_;rw[f1 i self hi _ (Dv _ _ _ _ _ _),ABe rk hk (sg.mid _ (by omega) (by omega)) (by omega)];rfl) N (by omega)
  exact this
theorem AER(L:Rows)(i:Nat):(⟨pvI (AD L i 0),pvI (AD L i 1),pvI (AD L i 2),pvI (AD L i 3),pvB (AD L i 4),pvI (AD L i 5),pvI (AD L i 6),⟨pvI (AD L i 7),pvI (AD L i 8),pvI (AD L i 9),pvI (AD L i 10),pvI (AD L i 11),pvB (AD L i 12),pvI (AD L i 13),pvI (AD L i 14),pvI (AD L i 15),pvI (AD L i 16),pvB (AD L i 17),pvI (AD L i 18)⟩⟩:Ev)=evR L i:=rfl
set_option maxHeartbeats 4000000 in
theorem RN{N:Nat}{r1 r2 r3 r4 r5 r6 r7 r9 r10 r11 r12:Int}{r8:Bool}{r0:ByteArray}{r13:Rows}{L:Rows}(hN:2097152<N)(hs:r0.size≤1048576)(h13:r13.length≤1048576)(hL:L.length≤1048576)(il:Ah (⟨r0,r1,r2,r3,r4,r5,r6,r7,r8,r9,r10,r11,r12,r13⟩:Rul) L=0→InLog L∧RulOk (⟨r0,r1,r2,r3,r4,r5,r6,r7,r8,r9,r10,r11,r12,r13⟩:Rul)):Dt N [.str r0,.int r1,.int r2,.int r3,.int r4,.int r5,.int r6,.int r7,.bool r8,.int r9,.int r10,.int r11,.int r12,.rows r13,.rows L]=some [.rows (cond (!(Ah (⟨r0,r1,r2,r3,r4,r5,r6,r7,r8,r9,r10,r11,r12,r13⟩:Rul) L==0)) [] (A6 (Xw (⟨r0,r1,r2,r3,r4,r5,r6,r7,r8,r9,r10,r11,r12,r13⟩:Rul) L (sdT L)))),.int (Ah (⟨r0,r1,r2,r3,r4,r5,r6,r7,r8,r9,r10,r11,r12,r13⟩:Rul) L)]:=by
  show MQ (std (Ce N) N) (xOf _)=_;generalize hres:(some [.rows (cond (!(Ah (⟨r0,r1,r2,r3,r4,r5,r6,r7,r8,r9,r10,r11,r12,r13⟩:Rul) L==0)) [] (A6 (Xw (⟨r0,r1,r2,r3,r4,r5,r6,r7,r8,r9,r10,r11,r12,r13⟩:Rul) L (sdT L)))),.int (Ah (⟨r0,r1,r2,r3,r4,r5,r6,r7,r8,r9,r10,r11,r12,r13⟩:Rul) L)]:Option (List PV))=RR;simp only[MQ,SO,Uz,Sz,LC,HD,H8,VL,lq9,std,xOf,PXb,Hw hN hs h13 hL];subst hres;cases hc:Ah (⟨r0,r1,r2,r3,r4,r5,r6,r7,r8,r9,r10,r11,r12,r13⟩:Rul) L==0
  · rfl
  have c0:=beq_iff_eq.1 hc;obtain⟨il,rk⟩:=il c0;have ol:=ZJ L L.length;have l4:=il.len;have s80:iSm ((opn L L.length:Nat):Int) 80=true:=Dk (by omega) (by omega);rw[c0];simp only[PXb,Bool.not_true,qp hN hL,EB,ZG,s80,Ds hN hL,AC7];have st:List.replicate (opn L L.length) dS=Ew (⟨r0,r1,r2,r3,r4,r5,r6,r7,r8,r9,r10,r11,r12,r13⟩:Rul) L (sdT L) (opn L L.length) 0 (AG L 0):=by
    refine ABl ?_ (fun j hj=>il.pen j ?_)
    · by_cases h0:0<opn L L.length
      · exact(seg hL h0).o0
      unfold AG;rw[if_neg h0];omega
    have:AG L 0≤L.length:=by
      by_cases h0:0<opn L L.length
      · have:=(seg hL h0).lt;have:=(seg hL h0).le;omega
      unfold AG;rw[if_neg h0];exact Nat.le_refl _
    omega
  rw[st];refine AQ (BC (len:=opn L L.length) (fun k=>[.rows (A6 (Ew (⟨r0,r1,r2,r3,r4,r5,r6,r7,r8,r9,r10,r11,r12,r13⟩:Rul) L (sdT L) (opn L L.length) k (AG L k))),.int (k:Int)]) [.rows (A6 (Xw (⟨r0,r1,r2,r3,r4,r5,r6,r7,r8,r9,r10,r11,r12,r13⟩:Rul) L (sdT L)))] ?_ ?_ N (by omega)) ?_
  · intro self;simp only[PXb,PXc,PXn,AH,PXp,IV,Aq,ADe,ADC];rfl
  · intro k self hk;have sg:=seg hL hk;have sgl:=sg.lt;have sge:=sg.le;have rg:iRg (AG L k:Int) (AG L (k+1):Int) (L.length:Int)=true:=by simp only[iRg,decide_eq_true_eq];omega
    have zk:atI (BJ (zs (sdT L) (opn L L.length))) k 0=sdT L k:=yh _ hk;have sl:=xQ (L:=L) (a:=AG L k) sge;have zk':pvI (AD (BJ (zs (fL (nX L) (FT L L.length)) (opn L L.length))) k 0)=sdT L k:=zk;simp only[PXb,PXc,PXn,AH,PXp,PXs,IV,Ao (show k≤1099511627776 by omega),Ae hk,AM hk,Dv,EB,ZG,sg.x0,sg.x1,rg,zk',PXt,ACI hk];generalize hX:List.drop (AG L k) (List.take (AG L (k+1)) L)=X at *
    refine AQ (AAd hN il rk hk ?_ ?_) ?_
    · intro xs self;simp only[PXb,PXc,PXn,AH,sl,Aq]
    · intro i self hi xs hx;have hev:evR X i=evR L (AG L k+i):=by rw[←hX];exact mh L i hi
      simp only[PXb,PXc,PXn,AH,PXc,sl,Ao (show i≤1099511627776 by omega),Ae hi,AM hi,Nat.reduceAdd,LC,wW,AER,hev];have hk':k<xs.length:=by rw[hx];exact hk
      generalize hd:Eg (sdT L) (opn L L.length) k (evR L (AG L k+i)).side=d;have kx:pvI (AD X i 0)=(evR L (AG L k+i)).kind:=congrArg Ev.kind hev;have sx:pvI (AD X i 1)=(evR L (AG L k+i)).side:=congrArg Ev.side hev;have LD:KF N [.rows (BJ (zs (fL (nX L) (FT L L.length)) (opn L L.length))),.int (k:Int),.int (evR L (AG L k+i)).side]=some [.int (yG d)]:=by rw[←hd];exact wU hN (by omega) hk
      have bx:(⟨pvI (AD X i 7),pvI (AD X i 8),pvI (AD X i 9),pvI (AD X i 10),pvI (AD X i 11),pvB (AD X i 12),pvI (AD X i 13),pvI (AD X i 14),pvI (AD X i 15),pvI (AD X i 16),pvB (AD X i 17),pvI (AD X i 18)⟩:Del)=(evR L (AG L k+i)).ball:=congrArg Ev.ball hev;rw[kx];unfold rN;cases ho:X3 (evR L (AG L k+i))<;>cases h4:(evR L (AG L k+i)).kind==4<;>cases h13:(evR L (AG L k+i)).kind==13
      all_goals simp only[PXb,PXc,PXn,AH,PXc,PXs,PXt,Nat.reduceAdd,HD,Mf,bx,sx,LD,H8,Gd,List.length_set,AM hk',hk',aN hk',List.set_set,Cre.ls,ho,h4,h13]
      all_goals first
        |(cases(AF (⟨r0,r1,r2,r3,r4,r5,r6,r7,r8,r9,r10,r11,r12,r13⟩:Rul) (evR L (AG L k+i)).ball).counts<;>rfl)
        | (cases d with
           |none=>rfl
           |some j=>
             have dl:j<xs.length:=by rw[hx];exact AAf hk hd
             have dl2:∀y s,sco ((xs.set k y).set j s) j=s:=fun y s=>aN (by rw[List.length_set];exact dl) s
             simp only[yG,PXb,AAz,AM dl,List.length_set,aN dl,List.set_set,dl2])
    simp only[PXb,PXc,PXn,AH,PXc,PXb,PXc,PXn,PXm,Nat.reduceAdd,Int.reduceBEq]
  simp only[PXb,PXc,PXn,PXm,Nat.reduceAdd,Int.reduceBEq]
theorem Bv{r:Rul}{L:Rows}(h:Ah r L=0):((AO r).2==0)=true∧B8 r=0∧L.length≤4000∧acc L L.length 0 (AO r).1∧DU r L=(stM L L.length 0 (AO r).1,-1,0):=by
 unfold Ah at h;cases hc:B8 r==0
 ·simp_all
 cases hl:iLt 4000 (L.length:Int)
 ·cases hr:(DU r L).2.2==0
  ·simp_all
  have hn:=(ABB r).trans hc;have hrep:DU r L=Jb L L.length 0 (AO r).1:=by unfold DU;grind
  obtain⟨k,h1,h2,h3,h4⟩:=Ul L L.length 0 (AO r).1;have l4:L.length≤4000:=by simp only[iLt,decide_eq_false_iff_not]at hl;omega
  grind
 simp_all
theorem aK{r:Rul}{L:Rows}(h:Ah r L=0):InLog L∧RulOk r:=by
 obtain⟨h1,h2,h3,h4,h5⟩:=Bv h;obtain⟨_,_,h6⟩:=MH h1 h4 L.length (Nat.le_refl _);refine⟨⟨h3,fun j hj k13=>?_⟩,Ek h2⟩;have e:=beq_iff_eq.1 k13;have:=(h6 j hj).2.play (by rw[e];rfl) (by rw[e];rfl) (by rw[e];rfl) (by rw[e];rfl);exact Nat.le_trans this (Nj L j)
theorem ADz(r:Rul)(L:Rows)(sd:Nat→Int):(Xw r L sd).length=opn L L.length:=by unfold Xw;simp_all
theorem AEY{r:Rul}{L:Rows}{sd:Nat→Int}{j:Nat}(h:j<opn L L.length):sco (Xw r L sd) j=BX r L sd (opn L L.length) j L.length:=by
 rw[GL];unfold Xw
 simp_all
def prA(r:Rul)(L:Rows)(k p:Nat):Cre:=⟨smi L (fun e=>(BM r e).batter) k p,smi L (fun e=>(BM r e).wides) k p,smi L (fun e=>(BM r e).noballs) k p,smi L (fun e=>(BM r e).byes) k p,smi L (fun e=>(BM r e).legbyes) k p,smi L (fun e=>(BM r e).bowler) k p,false,false,false,false⟩
theorem AFv{r:Rul}(h:RulOk r)(e:Ev):0≤(BM r e).bowler∧(BM r e).bowler≤36:=by
 have c:=OU h e;have h0:=c.ba;have h1:=c.wi;have h2:=c.no;have h3:=c.bo;omega
theorem qI{L:Rows}{f:Ev→Int}{k p:Nat}(h:opn L p=k+1)(hp:p≤L.length)(hn:p=L.length∨((evR L p).kind==2)=true):∀c,p+c≤L.length→smi L f k (p+c)=smi L f k p
 |0,_=>rfl
 |c+1,hc=>by
  rw[show p+(c+1)=p+c+1 by omega,CM,qI h hp hn c (by omega)]
  rcases hn with hn|hn
  ·omega
  have:=Ei L (show p+1≤p+c+1 by omega);rw[Nn hn]at this;rw[J2 (by omega),cond_false,Int.add_zero]
theorem eD{L:Rows}(hL:L.length≤1048576){k:Nat}(hk:k<opn L L.length):AG L (k+1)=L.length∨((evR L (AG L (k+1))).kind==2)=true:=by
 by_cases h:k+1<opn L L.length
 ·obtain⟨a,p1,p2,p3,p4,p5⟩:=kw hL L.length (Nat.le_refl _) (k+1) h;have:AG L (k+1)=a:=by unfold AG;simp_all
  simp_all
 exact Or.inl (by unfold AG;grind)
theorem ww{L:Rows}(hL:L.length≤1048576){f:Ev→Int}{k:Nat}(hk:k<opn L L.length):smi L f k L.length=smi L f k (AG L (k+1)):=by
 have sg:=seg hL hk;have:=qI (f:=f) sg.o1 sg.le (eD hL hk) (L.length-AG L (k+1)) (by have:=sg.le;omega);rw[show AG L (k+1)+(L.length-AG L (k+1))=L.length by have:=sg.le;omega]at this;exact this
def PW(k s p o:Int)(y:Bool)(t f n b h v:Int):List PV:=[.int k,.int s,.int p,.int o,.bool y,.int 0,.int 0,.int t,.int f,.int n,.int 0,.int b,.bool false,.int h,.int v,.int 0,.int 0,.bool false,.int 0]
def BK:Rows:=[PW 1 1 0 0 true 0 0 0 0 0 0,PW 2 0 1 2 false 0 0 0 0 0 0,PW 8 0 2 0 false 0 0 0 0 0 0,PW 3 0 1 0 false 0 0 0 0 0 0,PW 4 0 0 0 false 1 1 1 0 0 0,PW 4 0 0 0 false 1 0 0 0 1 1,PW 2 0 2 1 false 0 0 0 0 0 0,PW 8 0 1 0 false 0 0 0 0 0 0,PW 3 0 2 0 false 0 0 0 0 0 0,PW 4 0 0 0 false 2 0 0 0 0 0,PW 4 0 0 0 false 1 1 0 4 0 0]
def Bf:Rul:=⟨⟨#[84,69,83,84]⟩,2,1,1,4,0,1,1,false,0,0,0,11,[]⟩
theorem yO:F1 4194304 []=some [.rows BK]:=by kernel_rfl
theorem nD:D3 4194304 []=some Bf.ls:=by kernel_rfl
theorem nI:Ah Bf BK=0:=by kernel_rfl
theorem ACm:Xw Bf BK (sdT BK)=[⟨1,1,1,2,0,0,0,0,0,0⟩,⟨2,5,0,1,1,0,0,0,0,0⟩]:=by kernel_rfl
theorem AFc:Fx (CB BK BK.length)=[[.int 1,.int 6],[.int 6,.int 11]]:=by kernel_rfl
theorem BZ{x:Option (List PV)}{v:List PV}{f:List PV→Option (List PV)}{r:Option (List PV)}(h:x=some v)(hk:f v=r):x.bind f=r:=by simp_all
theorem xT{r:Rul}(rk:RulOk r)(L:Rows)(k:Nat):∀p,smi L (ET r) k p=(prA r L k p).batter+(prA r L k p).wides+(prA r L k p).noballs+(prA r L k p).byes+(prA r L k p).legbyes∧(prA r L k p).bowler=(prA r L k p).batter+(prA r L k p).wides+(prA r L k p).noballs
 |0=>⟨rfl,rfl⟩
 |p+1=>by
  obtain⟨h1,h2⟩:=xT rk L k p;have c:=OU rk (evR L p);have c1:=c.tot;have c2:=c.bo;unfold prA at h1 h2⊢;simp only[CM]at h1 h2⊢;unfold ET;unfold ET at h1
  grind
theorem L6{L:Rows}:∀k i m out,HH L (k+1) i m out=cond ((evR L (i+k)).kind==4) (HH L k i m out++[Ca ((i+k:Nat):Int) (stM L k i m) (BI ((i+k:Nat):Int) (stM L k i m) (evR L (i+k))).1 (evR L (i+k)).ball]) (HH L k i m out)
 |0,i,m,out=>rfl
 |k+1,i,m,out=>by
  have ih:=L6 (L:=L) k (i+1) (BI i m (evR L i)).1 (cond ((evR L i).kind==4) (out++[Ca i m (BI i m (evR L i)).1 (evR L i).ball]) out);rw[show i+1+k=i+(k+1) by omega]at ih;exact ih
def Fw(x:List PV):List PV:=[.int (pvI (AA x 0)),.int (pvI (AA x 1)),.int (pvI (AA x 2)),.int (pvI (AA x 3)),.int (pvI (AA x 4)),.int (pvI (AA x 5)),.int (pvI (AA x 6)),.bool (pvB (AA x 7)),.int (pvI (AA x 8)),.int (pvI (AA x 9)),.int (pvI (AA x 10)),.int (pvI (AA x 11)),.int (pvI (AA x 12)),.bool (pvB (AA x 13)),.int (pvI (AA x 14)),.int (pvI (AA x 15)),.int (pvI (AA x 16)),.int (pvI (AA x 17)),.bool (pvB (AA x 18)),.int (pvI (AA x 19)),.int (pvI (AA x 20)),.int (pvI (AA x 21)),.int (pvI (AA x 22)),.int (pvI (AA x 23)),.int (pvI (AA x 24)),.int (pvI (AA x 25)),.bool (pvB (AA x 26)),.bool (pvB (AA x 27)),.bool (pvB (AA x 28)),.bool (pvB (AA x 29)),.int (pvI (AA x 30)),.int (pvI (AA x 31))]
def fil(k:Int):Rows→Rows
 | []=>[]
 |x::D=>cond (pvI (AA x 1)==k) (Fw x::fil k D) (fil k D)
theorem nv(k:Int):∀A B,fil k (A++B)=fil k A++fil k B
 | [],B=>rfl
 |x::A,B=>by
  show cond _ (Fw x::fil k (A++B)) (fil k (A++B))=_;rw[nv k A B];show _=cond (pvI (AA x 1)==k) (Fw x::fil k A) (fil k A)++fil k B
  grind
theorem pE(k:Int):∀D,(fil k D).length≤D.length
 | []=>Nat.le_refl _
 |x::D=>by
  have:=pE k D;show(cond (pvI (AA x 1)==k) (Fw x::fil k D) (fil k D)).length≤D.length+1
  grind
theorem OB{D:Rows}{i:Nat}(h:i<D.length):D.take (i+1)=D.take i++[AB D i]:=by
 rw[List.take_add_one,zzo h];unfold AB
 simp_all
theorem Zg{D:Rows}{i:Nat}{k:Int}(h:i<D.length):fil k (D.take (i+1))=cond (pvI (AD D i 1)==k) (fil k (D.take i)++[Fw (AB D i)]) (fil k (D.take i)):=by
 rw[OB h,nv];show fil k (D.take i)++cond (pvI (AA (AB D i) 1)==k) [Fw (AB D i)] []=_;show _=cond (pvI (AA (AB D i) 1)==k) _ _
 grind
theorem ABM{N:Nat}{D:Rows}{k:Int}(hN:2097152<N)(hD:D.length≤1000000){F:(List AW→Option (List PV))→List PV→Option (List PV)}
    (h0:∀self,F self [.rows (fil k D),.int (D.length:Int)]=some [.rows (fil k D)])
    (h1:∀i self out,i<D.length→out.length≤i→F self [.rows out,.int (i:Int)]=self [.rows (cond (pvI (AD D i 1)==k) (out++[Fw (AB D i)]) out),.int ((i+1:Nat):Int)]):CP F N [.rows [],.int 0]=some [.rows (fil k D)]:=by
  have:=BC (F:=F) (len:=D.length) (fun i=>[.rows (fil k (D.take i)),.int (i:Int)]) [.rows (fil k D)] (fun self=>by
    show F self [.rows (fil k (D.take D.length)),_]=_;rw[List.take_length];exact h0 self) (fun i self hi=>by
    have hl:=pE k (D.take i);rw[List.length_take]at hl;rw[Zg hi];exact h1 i self _ hi (by omega)) N (by omega)
  exact this
theorem vP{d:Del}(h:(D6 d==0)=true):0≤d.sector∧d.sector≤8:=by
 unfold D6 at h;cases h1:(iLt d.type 1||iLt 3 d.type||iLt 3 d.source||iLt 10 d.how || !btw d.sector 0 8)
 ·simp only[btw,iLe,Bool.or_eq_false_iff,Bool.not_eq_false',zzk,decide_eq_true_eq]at h1;exact h1.2
 simp_all
structure BallF(r:Rul)(L:Rows)(a:Nat):Prop where
 one:1≤opn L a
 lnx:lnx (stM L a 0 (AO r).1).inns=opn L a-1
 inn:IntKind.i64.wrap (((stM L a 0 (AO r).1).inns.length:Int)-1)=((opn L a-1:Nat):Int)
 ok:InnOk r (AZ (stM L a 0 (AO r).1))
 rules:(stM L a 0 (AO r).1).rules=r
 ref:(Iu r (AZ (stM L a 0 (AO r).1)) (evR L a).ball==0)=true
 over:(AZ (stM L a 0 (AO r).1)).complete≤1000
theorem NC{r:Rul}{L:Rows}(hc:Ah r L=0){a:Nat}(ha:a<L.length)(hk:((evR L a).kind==4)=true):BallF r L a:=by
 obtain⟨h1,h2,h3,h4,h5⟩:=Bv hc;obtain⟨li,so,_⟩:=MH h1 h4 a (by omega);obtain⟨_,_,hi⟩:=MH h1 h4 L.length (Nat.le_refl _);have e:=beq_iff_eq.1 hk;have one:=(hi a ha).2.play (by rw[e];rfl) (by rw[e];rfl) (by rw[e];rfl) (by rw[e];rfl);have a0:=PP L.length 0 _ h4 a ha;rw[Nat.zero_add]at a0;have q:=(YX a0).1;rw[q]at a0;obtain⟨g1,g2,g3,g4⟩:=UR a0 hk;have sl:=so.len;have ll:=li.len;have lx:Px.lnx (stM L a 0 (AO r).1).inns=opn L a-1:=by
  unfold Px.lnx;rw[ll,A0 (by omega) (by omega)];omega
 have rl:=so.rules;obtain⟨hv,he,hn,hw,hp,hs⟩:=Qq g3;rw[rl]at hv hp;have ok:=LX.1 hv;have hpb:Cx r (AZ (stM L a 0 (AO r).1)) (evR L a)=NM r (AZ (stM L a 0 (AO r).1)) (evR L a).ball:=by unfold Cx;rw[e];rfl
 rw[hpb]at hp;have cl:=uJ h1 h4 a (by omega);have at1:=cl.at' (opn L a-1) (by omega);have kx:sco (Fn (stM L a 0 (AO r).1)).xs (opn L a-1)=B2 r.balls (AZ (stM L a 0 (AO r).1)):=by
  unfold Fn AZ;rw[rl,lx];exact RX _ _ (by omega)
 rw[kx]at at1;have bl:Db r.balls (AZ (stM L a 0 (AO r).1)).complete (AZ (stM L a 0 (AO r).1)).inover=smi L (Ql r) (opn L a-1) a:=congrArg Sco.balls at1;have be:=(iQ ok).1;have cb:=PM (L:=L) (f:=Ql r) (c:=1) (fun e=>by unfold Ql;grind) (opn L a-1) a;have q4:=(Ek ok.code).balls;have io:=ok.io;have co:=ok.complete;unfold CG at co;have m1:=Int.mul_le_mul_of_nonneg_left q4.1 co.1;refine⟨one,lx,by rw[ll,A0 (by omega) (by omega)];omega,ok,rl,(nA hp).1,?_⟩;omega
def Ax(r:Rul)(L:Rows)(k:Nat):Nat→Rows
 |0=>[]
 |n+1=>cond ((evR L n).kind==4&&Nat.beq (opn L (n+1)) (k+1)) (Ax r L k n++[Ca (n:Int) (stM L n 0 (AO r).1) (stM L (n+1) 0 (AO r).1) (evR L n).ball]) (Ax r L k n)
theorem xC{r:Rul}{L:Rows}(hc:Ah r L=0)(k:Nat):∀n,n≤L.length→fil (k:Int) (HH L n 0 (AO r).1 [])=Ax r L k n
 |0,_=>rfl
 |n+1,hn=>by
  have ih:=xC hc k n (by omega);rw[L6,Nat.zero_add];have si:=Ux (L:=L) n 0 (AO r).1;rw[Nat.zero_add]at si;show _=cond ((evR L n).kind==4&&Nat.beq (opn L (n+1)) (k+1)) _ (Ax r L k n);cases hk:(evR L n).kind==4
  ·exact ih
  have bf:=NC hc (show n<L.length by omega) hk;have on:opn L (n+1)=opn L n:=iJ (by simp_all);rw[cond_true,nv,ih,←si,on,Bool.true_and];show Ax r L k n++cond (IntKind.i64.wrap (((stM L n 0 (AO r).1).inns.length:Int)-1)==(k:Int)) [_] []=_;rw[bf.inn];have one:=bf.one
  by_cases e:opn L n=k+1
  ·rw[e,KE,show((k+1-1:Nat):Int)=(k:Int) by omega,beq_self_eq_true];rfl
  rw[J2 e,beq_false_of_ne (by omega)]
  simp_all
theorem UT{r:Rul}{L:Rows}(hc:Ah r L=0)(k:Nat):fil (k:Int) (BG r L)=Ax r L k L.length:=by
 obtain⟨h1,h2,h3,h4,h5⟩:=Bv hc;have:BG r L=HH L L.length 0 (AO r).1 []:=by
  unfold BG;rw[h1];obtain⟨j,j1,j2,j3,j4⟩:=Ul L L.length 0 (AO r).1;show ML L L.length 0 (AO r).1 []=_;rw[j3 []]
  rcases j4 with⟨j5,_⟩|⟨j5,j6,j7⟩
  ·rw[j5]
  have hh:=PP L.length 0 _ h4 j j5
  simp_all
 rw[this];exact xC hc k L.length (Nat.le_refl _)
structure RowF(r:Rul)(x:List PV):Prop where
 over:∃o:Nat,o≤1000∧pvI (AA x 2)=(o:Int)
 sector:∃s:Nat,s≤8∧pvI (AA x 19)=(s:Int)
 striker:1≤pvI (AA x 5)∧pvI (AA x 5)≤r.side
 cre:∃d,pvI (AA x 20)=(AF r d).batter∧pvI (AA x 21)=(AF r d).wides∧pvI (AA x 22)=(AF r d).noballs∧pvI (AA x 23)=(AF r d).byes∧pvI (AA x 24)=(AF r d).legbyes∧pvI (AA x 25)=(AF r d).bowler
theorem ACn{r:Rul}{L:Rows}(hc:Ah r L=0){a:Nat}(ha:a<L.length)(hk:((evR L a).kind==4)=true)(t:Mat):RowF r (Ca (a:Int) (stM L a 0 (AO r).1) t (evR L a).ball):=by
 have bf:=NC hc ha hk;obtain⟨q1,q2,q3,q4,q5,q6⟩:=LW bf.ref;have ls:=vP q4;have co:=bf.ok.complete;unfold CG at co;have st:=bf.ok.st;have over:=bf.over;have beg:Dz (AZ (stM L a 0 (AO r).1)).batters=true:=by
  obtain⟨h1,h2,h3,h4,h5⟩:=Bv hc;have a0:=PP L.length 0 _ h4 a ha;rw[Nat.zero_add]at a0;have q:=(YX a0).1;rw[q]at a0;obtain⟨g1,g2,g3,g4⟩:=UR a0 hk;exact Zp (Qq g3).2.2.2.1 (by simp_all)
 have z1:=(Z4 q1 beg).1;rw[beq_eq_false_iff_ne]at z1;refine⟨⟨(AZ (stM L a 0 (AO r).1)).complete.toNat,by omega,?_⟩,⟨(evR L a).ball.sector.toNat,by omega,?_⟩,?_,(evR L a).ball,?_⟩
 ·show(AZ (stM L a 0 (AO r).1)).complete=_;omega
 ·show(evR L a).ball.sector=_;omega
 ·show 1≤(AZ (stM L a 0 (AO r).1)).striker∧(AZ (stM L a 0 (AO r).1)).striker≤r.side;omega
 have rl:=bf.rules;show(AF (stM L a 0 (AO r).1).rules _).batter=_∧(AF (stM L a 0 (AO r).1).rules _).wides=_∧(AF (stM L a 0 (AO r).1).rules _).noballs=_∧(AF (stM L a 0 (AO r).1).rules _).byes=_∧(AF (stM L a 0 (AO r).1).rules _).legbyes=_∧(AF (stM L a 0 (AO r).1).rules _).bowler=_
 simp_all
theorem ku{r:Rul}{L:Rows}(hc:Ah r L=0)(k:Nat):∀n,n≤L.length→(Ax r L k n).length≤n∧∀x,x∈Ax r L k n→RowF r x
 |0,_=>⟨Nat.le_refl _,fun x hx=>absurd hx (List.not_mem_nil)⟩
 |n+1,hn=>by
  obtain⟨i1,i2⟩:=ku hc k n (by omega);show(cond ((evR L n).kind==4&&Nat.beq (opn L (n+1)) (k+1)) _ (Ax r L k n)).length≤n+1∧∀x,x∈cond ((evR L n).kind==4&&Nat.beq (opn L (n+1)) (k+1)) _ (Ax r L k n)→RowF r x;cases hk:(evR L n).kind==4
  ·grind
  cases Nat.beq (opn L (n+1)) (k+1)
  ·grind
  refine⟨?_,fun x hx=>?_⟩
  ·simp_all
  rcases List.mem_append.1 hx with hx|hx
  ·grind
  rw[List.mem_singleton.1 hx];exact ACn hc (by omega) hk _
structure Ln where
 runs:Int
 balls:Int
 fours:Int
 sixes:Int
 out:Bool
 how:Int
 bowler:Int
 fielder:Int
 batted:Bool
def lnR(p:Int)(l:Ln):List PV:=[.int p,.int l.runs,.int l.balls,.int l.fours,.int l.sixes,.bool l.out,.int l.how,.int l.bowler,.int l.fielder,.bool l.batted]
def ln0:Ln:={ runs:=0,balls:=0,fours:=0,sixes:=0,out:=false,how:=0,bowler:=0,fielder:=0,batted:=false }
def AU(o:List Int)(F:Int→Ln):Rows:=o.map fun p=>lnR p (F p)
theorem Br(o:List Int)(F:Int→Ln):(AU o F).length=o.length:=List.length_map _
def Aw(p:Int):List Int→Nat
 | []=>0
 |q::r=>cond (q==p) 0 (Aw p r+1)
theorem AAt(p:Int):∀o,Aw p o≤o.length
 | []=>Nat.le_refl _
 |q::r=>by
  have:=AAt p r;unfold Aw
  grind
theorem G0{p:Int}:∀{o:List Int},p∈o→Aw p o<o.length∧o.getD (Aw p o) 0=p
 |q::r,h=>by
  unfold Aw;cases hq:q==p
  ·rcases List.mem_cons.1 h with rfl|h
   ·simp_all
   obtain⟨h1,h2⟩:=G0 h
   simp_all
  simp_all
theorem zV{p:Int}:∀{o:List Int},p∉o→Aw p o=o.length
 | [],_=>rfl
 |q::r,h=>by
  unfold Aw;have hq:(q==p)=false:=beq_eq_false_iff_ne.2 fun e=>h (e▸zzm)
  rw[hq];exact congrArg (·+1) (zV fun hm=>h (zzn _ hm))
theorem aa{p:Int}{o:List Int}:Aw p o<o.length↔p∈o:=by
 constructor
 ·intro h
  by_cases hm:p∈o
  ·exact hm
  rw[zV hm]at h;omega
 intro h;exact(G0 h).1
theorem Zo{o:List Int}{F:Int→Ln}{j:Nat}(h:j<o.length):AB (AU o F) j=lnR (o.getD j 0) (F (o.getD j 0)):=by
 unfold AB AU
 simp_all
theorem nZ{o:List Int}{F:Int→Ln}{p:Int}(h:p∈o):AB (AU o F) (Aw p o)=lnR p (F p):=by
 obtain⟨h1,h2⟩:=G0 h;rw[Zo h1,h2]
def Bx(F:Int→Ln)(p:Int)(v:Ln)(q:Int):Ln:=cond (q==p) v (F q)
theorem I4(F:Int→Ln)(p:Int)(v:Ln):Bx F p v p=v:=by unfold Bx;simp_all
theorem Qk(F:Int→Ln)(p:Int)(v v':Ln):Bx (Bx F p v) p v'=Bx F p v':=funext fun q=>by
 unfold Bx
 grind
theorem tW{F:Int→Ln}{p:Int}{v:Ln}:∀{o:List Int},o.Nodup→p∈o→(AU o F).set (Aw p o) (lnR p v)=AU o (Bx F p v)
 |q::r,hn,h=>by
  obtain⟨h1,h2⟩:=List.nodup_cons.1 hn;unfold Aw;cases hq:q==p
  ·rcases List.mem_cons.1 h with rfl|h
   ·simp_all
   show lnR q (F q)::(AU r F).set (Aw p r) (lnR p v)=lnR q (Bx F p v q)::AU r (Bx F p v);rw[tW h2 h];unfold Bx
   grind
  have e:=beq_iff_eq.1 hq;subst e;show lnR q v::AU r F=lnR q (Bx F q v q)::AU r (Bx F q v);rw[I4];congr 1;unfold AU;refine List.map_congr_left fun x hx=>?_
  have:(x==q)=false:=beq_eq_false_iff_ne.2 fun e=>h1 (e▸hx)
  unfold Bx
  grind
theorem GO{o:List Int}{F:Int→Ln}{p:Int}{v:Ln}{off:Nat}{vs:List PV}(hn:o.Nodup)(h:p∈o)(e:Ad (lnR p (F p)) off vs=lnR p v) :
    (AU o F).set (Aw p o) (Ad (AB (AU o F) (Aw p o)) off vs)=AU o (Bx F p v):=by
  rw[nZ h,e,tW hn h]
theorem AB8(o:List Int)(F:Int→Ln)(p:Int)(v:Ln)(h:p∉o):AU o F++[lnR p v]=AU (o++[p]) (Bx F p v):=by
 unfold AU;rw[List.map_append];show _=_++[lnR p (Bx F p v p)];rw[I4];congr 1;refine List.map_congr_left fun x hx=>?_
 have:(x==p)=false:=beq_eq_false_iff_ne.2 fun e=>h (e▸hx)
 unfold Bx
 grind
theorem yI{o:List Int}{F G:Int→Ln}(h:∀p,p∈o→F p=G p):AU o F=AU o G:=by
 unfold AU
 simp_all
theorem pX{o:List Int}{F:Int→Ln}{p:Int}{n:Nat}(hn:o.length≤n){G:(List AW→Option (List PV))→List PV→Option (List PV)}{k:Nat→List AW}{R:List PV}{Q:Nat→List PV}
    (h0:∀self,G self ((k o.length).map Leaf.pv)=some R)
    (h1:∀i self,i<o.length→G self ((k i).map Leaf.pv)=cond (o.getD i 0==p) (some (Q i)) (self (k (i+1)))) :
    ∀(f i:Nat),o.length-i<f→i≤Aw p o→CP G f ((k i).map Leaf.pv)=some (cond (Nat.blt (Aw p o) o.length) (Q (Aw p o)) R):=by
  have below:∀i,i<Aw p o→(o.getD i 0==p)=false:=fun i hi=>by
    have go:∀(o:List Int) (i:Nat),i<Aw p o→(o.getD i 0==p)=false:=fun o=>by
      induction o with
      |nil=>intro i hi;trivial
      |cons q r ih=>
        intro i hi;unfold Aw at hi;cases hq:q==p
        · rw[hq,cond_false]at hi;cases i with
          |zero=>exact hq
          |succ i=>simp_all
        simp_all
    simp_all
  intro f
  induction f with
  |zero=>omega
  |succ f ih=>
    intro i hf hi;have pl:=AAt p o
    by_cases hlt:i<o.length
    · show G _ _=_;rw[h1 i _ hlt]
      by_cases hp:i=Aw p o
      · obtain⟨_,h2⟩:=G0 (aa.1 (hp▸hlt));rw[hp,h2,beq_self_eq_true,cond_true,show Nat.blt (Aw p o) o.length=true from Nat.ble_eq_true_of_le (hp▸hlt)];rfl
      grind
    have e:Aw p o=o.length:=by omega
    have e2:i=o.length:=by omega
    show G _ _=_;rw[e2,h0,e,show Nat.blt o.length o.length=false by
      cases hb:Nat.blt o.length o.length
      · rfl
      simp_all]
    rfl
def EE(o:List Int)(p:Int):List Int:=cond (Nat.blt (Aw p o) o.length) o (o++[p])
theorem MN{p:Int}{o:List Int}:Nat.blt (Aw p o) o.length=true↔p∈o:=⟨fun h=>aa.1 (Nat.le_of_ble_eq_true h),fun h=>Nat.ble_eq_true_of_le (aa.2 h)⟩
theorem I7{o:List Int}{p:Int}(h:o.Nodup):(EE o p).Nodup:=by
 unfold EE;cases hb:Nat.blt (Aw p o) o.length
 ·rw[cond_false];refine List.nodup_append.2 ⟨h,List.nodup_cons.2 ⟨List.not_mem_nil,List.nodup_nil⟩,fun x hx y hy e=>?_⟩;have hy:=List.mem_singleton.1 hy;rw[e,hy]at hx;have:=MN.2 hx
  simp_all
 exact h
theorem MG{o:List Int}{p q:Int}:q∈EE o p↔q∈o∨q=p:=by
 unfold EE;cases hb:Nat.blt (Aw p o) o.length
 ·simp_all
 have:=MN.1 hb
 simp_all
theorem Y5(o:List Int)(p:Int):(EE o p).length≤o.length+1:=by
 unfold EE
 grind
def mX(F:Int→Ln)(o:List Int)(p:Int)(b:Bool):Int→Ln:=Bx F p (cond (Nat.blt (Aw p o) o.length) { F p with batted:=(F p).batted||b } { ln0 with batted:=b })
def Bz(L:Rows):Nat→List Int
 |0=>[]
 |n+1=>cond ((evR L n).kind==2) (EE (EE (Bz L n) (evR L n).player) (evR L n).other) (cond ((evR L n).kind==5) (EE (Bz L n) (evR L n).player) (Bz L n))
def CU(L:Rows)(p:Int):Nat→Bool
 |0=>false
 |n+1=>CU L p n||cond ((evR L n).kind==2) (p==(evR L n).player||p==(evR L n).other) (cond ((evR L n).kind==5) (p==(evR L n).player && !(evR L n).yes) false)
def QB(o:List Int):Nat→List Int
 |0=>o
 |n+1=>EE (QB o n) ((n:Int)+1)
theorem MR(L:Rows):∀n,(Bz L n).Nodup
 |0=>List.nodup_nil
 |n+1=>by
  have ih:=MR L n;unfold Bz;cases(evR L n).kind==2
  ·cases(evR L n).kind==5
   ·exact ih
   exact I7 ih
  exact I7 (I7 ih)
theorem Zq(L:Rows):∀n,(Bz L n).length≤2*n
 |0=>Nat.le_refl _
 |n+1=>by
  have ih:=Zq L n;unfold Bz;cases(evR L n).kind==2
  ·cases(evR L n).kind==5
   ·grind
   have h1:=Y5 (Bz L n) (evR L n).player
   grind
  have h1:=Y5 (Bz L n) (evR L n).player;have h2:=Y5 (EE (Bz L n) (evR L n).player) (evR L n).other
  grind
theorem PH{o:List Int}(h:o.Nodup):∀n,(QB o n).Nodup
 |0=>h
 |n+1=>I7 (PH h n)
theorem jt(o:List Int):∀n,(QB o n).length≤o.length+n
 |0=>Nat.le_refl _
 |n+1=>by
  have:=jt o n;have h2:=Y5 (QB o n) ((n:Int)+1);show(EE _ _).length≤_;omega
theorem iy{o:List Int}{p:Int}:∀{n:Nat},p∈QB o n↔p∈o∨(1≤p∧p≤(n:Int))
 |0=>by
  show p∈o↔_
  grind
 |n+1=>by
  show p∈EE (QB o n) ((n:Int)+1)↔_;rw[MG,iy]
  grind
theorem Vi{o:List Int}{F:Int→Ln}{i:Nat}(h:i<o.length):pvI (AD (AU o F) i 0)=o.getD i 0:=by
 unfold AD;rw[Zo h];rfl
set_option maxHeartbeats 1000000 in
theorem De{N:Nat}{o:List Int}{F:Int→Ln}{p:Int}(ho:o.length≤1048576)(hN:2097152<N):Ck N [.rows (AU o F),.rows [[.int p]]]=some [.int (cond (Nat.blt (Aw p o) o.length) (Aw p o:Int) (-1))]:=by
 show Cj (std (CN N) N) (xOf _)=_;simp only[Cj,lq9,std,xOf,PXb];refine AQ (pX (o:=o) (F:=F) (p:=p) (n:=o.length) (Nat.le_refl _) (k:=fun i=>[.int (i:Int)]) (R:=[.int 1]) (Q:=fun i=>[.int 0,.int (i:Int)]) ?_ ?_ N 0 (by omega) (Nat.zero_le _)) ?_
 ·intro self;simp only[PXb,PXc,PXn,AH,Br,Aq,List.map_cons,List.map_nil,Leaf.pv]
 ·intro i self hi;simp only[PXb,PXc,PXn,AH,Br,Ao (show i≤1099511627776 by omega),Ae hi,AM hi,Vi hi,List.map_cons,List.map_nil,Leaf.pv];rfl
 cases Nat.blt (Aw p o) o.length<;>rfl
theorem AAA{o:List Int}{F:Int→Ln}{p:Int}{N:Nat}(hN:o.length<N){G:(List AW→Option (List PV))→List PV→Option (List PV)}{k1 k2:List PV→Option (List PV)}{g:Option (List PV)}
    (h0:∀self,G self [.int (o.length:Int),.int p]=some [.int 1,.int p])
    (h1:∀i self,i<o.length→G self [.int (i:Int),.int p]=cond (o.getD i 0==p) (some [.int 0,.int (i:Int),.int p]) (self [.int ((i+1:Nat):Int),.int p]))
    (hk:(k1 (cond (Nat.blt (Aw p o) o.length) [.int 0,.int (Aw p o:Int),.int p] [.int 1,.int p])).bind k2=g):((CP G N [.int 0,.int p]).bind k1).bind k2=g:=by
  have:=pX (o:=o) (F:=F) (p:=p) (n:=o.length) (Nat.le_refl _) (k:=fun i=>[.int (i:Int),.int p]) (R:=[.int 1,.int p]) (Q:=fun i=>[.int 0,.int (i:Int),.int p]) (G:=G) h0 h1 N 0 (by omega) (Nat.zero_le _);have e:CP G N [.int 0,.int p]=some (cond (Nat.blt (Aw p o) o.length) [.int 0,.int (Aw p o:Int),.int p] [.int 1,.int p]):=this
  simp_all
theorem AD0{p:Int}{o:List Int}(h:p∉o):Aw p (o++[p])=o.length:=by
 induction o with
 |nil=>show Aw p [p]=0;unfold Aw;simp_all
 |cons q r ih=>
  show Aw p (q::(r++[p]))=_;unfold Aw
  grind
def FU(B:Int→Bool)(p:Int):Ln:={ ln0 with batted:=B p }
theorem oK{o:List Int}{B:Int→Bool}{p:Int}{b:Bool}(hB:∀q,q∉o→B q=false):mX (FU B) o p b=FU fun q=>B q||(q==p&&b):=funext fun q=>by
 have e:FU (fun q=>B q||(q==p&&b)) q={ ln0 with batted:=B q||(q==p&&b) }:=rfl;rw[e];unfold mX Bx;cases hq:q==p
 ·rw[cond_false,Bool.false_and,Bool.or_false];rfl
 have e:=beq_iff_eq.1 hq;subst e;rw[Bool.true_and,cond_true];cases hb:Nat.blt (Aw q o) o.length
 ·have:B q=false:=hB q fun hm=>by rw[MN.2 hm]at hb;cases hb
  simp_all
 rfl
theorem Yc{L:Rows}{p:Int}:∀n,p∉Bz L n→CU L p n=false
 |0,_=>rfl
 |n+1,h=>by
  unfold Bz at h;unfold CU;cases h2:(evR L n).kind==2
  ·rw[h2,cond_false]at h;cases h5:(evR L n).kind==5
   ·rw[h5,cond_false]at h;rw[Yc n h];rfl
   rw[h5,cond_true]at h;have h4:¬(p∈Bz L n∨p=(evR L n).player):=fun hc=>h (MG.2 hc)
   rw[Yc n (fun hc=>h4 (.inl hc)),beq_eq_false_iff_ne.2 (fun e=>h4 (.inr e))];rfl
  rw[h2,cond_true]at h;have h3:¬(p∈EE (Bz L n) (evR L n).player∨p=(evR L n).other):=fun hc=>h (MG.2 hc)
  have h4:¬(p∈Bz L n∨p=(evR L n).player):=fun hc=>h3 (.inl (MG.2 hc))
  rw[Yc n (fun hc=>h4 (.inl hc)),cond_true,beq_eq_false_iff_ne.2 (fun e=>h4 (.inr e)),beq_eq_false_iff_ne.2 (fun e=>h3 (.inr e))];rfl
def ACY(L:Rows)(n:Nat):Rows:=AU (Bz L n) (FU fun p=>CU L p n)
def nQ(L:Rows)(k:Nat):Rows:=AU (QB (Bz L L.length) k) (FU fun p=>CU L p L.length)
theorem sX{o:List Int}{B:Int→Bool}{p:Int}(hB:∀q,q∉o→B q=false):mX (FU B) o p true=FU fun q=>B q||q==p:=by
 have e:(fun q:Int=>B q||(q==p&&true))=fun q=>B q||q==p:=funext fun q=>by simp_all
 rw[oK hB,e]
def V7(F:Int→Ln)(o:List Int)(p:Int):Int→Ln:=cond (Nat.blt (Aw p o) o.length) F (Bx F p ln0)
theorem ACO{o:List Int}{F:Int→Ln}{p:Int}:AU (EE o p) (V7 F o p)=cond (Nat.blt (Aw p o) o.length) (AU o F) (AU o F++[lnR p ln0]):=by
 unfold EE V7;cases hb:Nat.blt (Aw p o) o.length
 ·have hm:p∉o:=fun hm=>by rw[MN.2 hm]at hb;cases hb
  exact(AB8 o F p ln0 hm).symm
 rfl
theorem ki(o:List Int)(p:Int):p∈EE o p:=MG.2 (.inr rfl)
theorem ADf{o:List Int}{p:Int}:Aw p (EE o p)=cond (Nat.blt (Aw p o) o.length) (Aw p o) o.length:=by
 unfold EE;cases hb:Nat.blt (Aw p o) o.length
 ·have hm:p∉o:=fun hm=>by rw[MN.2 hm]at hb;cases hb
  exact AD0 hm
 rfl
theorem Zc{o:List Int}{F:Int→Ln}{p:Int}{b:Bool}:Bx (V7 F o p) p { V7 F o p p with batted:=(V7 F o p p).batted||b }=mX F o p b:=by
 unfold V7 mX;cases hb:Nat.blt (Aw p o) o.length
 ·rw[cond_false,Qk,I4];rfl
 rfl
theorem fi{o:List Int}{F:Int→Ln}{p:Int}{N:Nat}(hN:o.length<N)(hl:o.length≤100000){G:(List AW→Option (List PV))→List PV→Option (List PV)}{K3:List PV→Option (List PV)}{g:Option (List PV)}
    (h0:∀self,G self [.int (o.length:Int),.int p]=some [.int 1,.int p])
    (h1:∀i self,i<o.length→G self [.int (i:Int),.int p]=cond (o.getD i 0==p) (some [.int 0,.int (i:Int),.int p]) (self [.int ((i+1:Nat):Int),.int p]))
    (hk:K3 [.int (Aw p (EE o p):Int),.rows (AU (EE o p) (V7 F o p))]=g) :
    ((CP G N [PV.int 0,PV.int p]).bind fun c1=>bif pvI (AA c1 0)==((0:Nat):Int)then some [PV.int (pvI (AA c1 1)),PV.int (pvI (AA c1 2))]else some [PV.int (-1),PV.int (pvI (AA c1 1))]).bind
      (fun c1=>(bif iLt (pvI (AA c1 0)) 0 then bif iSm (((AU o F++[[PV.int (pvI (AA c1 1)),PV.int 0,PV.int 0,PV.int 0,PV.int 0,PV.bool false,PV.int 0,PV.int 0,PV.int 0,PV.bool false]]).length:Nat):Int) 72 then some [PV.int (IntKind.i64.wrap ((((AU o F++[[PV.int (pvI (AA c1 1)),PV.int 0,PV.int 0,PV.int 0,PV.int 0,PV.bool false,PV.int 0,PV.int 0,PV.int 0,PV.bool false]]).length:Nat):Int)-1)),PV.rows (AU o F++[[PV.int (pvI (AA c1 1)),PV.int 0,PV.int 0,PV.int 0,PV.int 0,PV.bool false,PV.int 0,PV.int 0,PV.int 0,PV.bool false]])]else none else some [PV.int (pvI (AA c1 0)),PV.rows (AU o F)]).bind K3)=g:=by
  refine AAA (F:=F) hN h0 h1 ?_;rw[ACO,ADf]at hk;cases hb:Nat.blt (Aw p o) o.length
  · simp only[hb,cond_false]at hk;have ll:(AU o F++[lnR p ln0]).length=o.length+1:=by rw[List.length_append,Br];rfl
    have e2:iSm (((AU o F++[lnR p ln0]).length:Nat):Int) 72=true:=by rw[ll];exact Dk (by omega) (by omega)
    have e3:IntKind.i64.wrap ((((AU o F++[lnR p ln0]).length:Nat):Int)-1)=(o.length:Int):=by
      rw[ll,A0 (by omega) (by omega)];omega
    have e4:iLt (-1) 0=true:=rfl;have e5:[PV.int p,PV.int 0,PV.int 0,PV.int 0,PV.int 0,PV.bool false,PV.int 0,PV.int 0,PV.int 0,PV.bool false]=lnR p ln0:=rfl;have q:((1:Int)==((0:Nat):Int))=false:=rfl;simp only[PXb,PXc,PXn,AH,q,e4]
    simp_all
  simp only[hb,cond_true]at hk;trivial
theorem ABp{o:List Int}{F:Int→Ln}{p:Int}(h:p∈o):pvB (AD (AU o F) (Aw p o) 9)=(F p).batted:=by unfold AD;rw[nZ h];rfl
theorem sD{o:List Int}{F:Int→Ln}{p:Int}{b:Bool}(hn:o.Nodup)(h:p∈o) :
    (AU o F).set (Aw p o) (Ad (AB (AU o F) (Aw p o)) 9 [.bool (pvB (AD (AU o F) (Aw p o) 9)||b)])=AU o (Bx F p { F p with batted:=(F p).batted||b }):=by
  rw[ABp h,GO (v:={ F p with batted:=(F p).batted||b }) hn h rfl]
theorem AAV{o:List Int}{F:Int→Ln}{p:Int}(hn:o.Nodup)(h:p∈o) :
    (AU o F).set (Aw p o) (Ad (AB (AU o F) (Aw p o)) 9 [.bool (pvB (AD (AU o F) (Aw p o) 9))])=AU o (Bx F p { F p with batted:=(F p).batted||false }):=by
  have:=sD (b:=false) hn h (F:=F)
  simp_all
set_option maxHeartbeats 8000000 in
theorem lO{N:Nat}{r1 r2 r3 r4 r5 r6 r7 r9 r10 r11 r12:Int}{r8:Bool}{r0:ByteArray}{r13:Rows}{L:Rows}(hN:2097152<N)(hL:L.length≤4000)(h0:0≤r1)(h1:r1≤100):Kc N [.str r0,.int r1,.int r2,.int r3,.int r4,.int r5,.int r6,.int r7,.bool r8,.int r9,.int r10,.int r11,.int r12,.rows r13,.rows L]=some [.rows (nQ L r1.toNat)]:=by
 show KU (std (Tm N) N) (xOf _)=_;simp only[KU,lq9,std,xOf,PXb];refine AQ (BC (len:=L.length) (fun i=>[.int (i:Int),.rows (ACY L i)]) [.rows (ACY L L.length)] ?_ ?_ N (by omega)) ?_
 ·intro self;simp only[PXb,PXc,PXn,AH,Aq]
 ·intro i self hi;have on:=MR L i;have ol:=Zq L i;have wi:IntKind.i64.wrap ((i:Int)+1)=((i+1:Nat):Int):=Ao (show i≤1099511627776 by omega);simp only[PXb,PXc,PXn,AH,Ae hi,AM hi,ACY];have kk:(evR L i).kind=pvI (AD L i 0):=rfl;have kp:(evR L i).player=pvI (AD L i 2):=rfl;have ko:(evR L i).other=pvI (AD L i 3):=rfl;have ky:(evR L i).yes=pvB (AD L i 4):=rfl;have eo:Bz L (i+1)=cond ((evR L i).kind==2) (EE (EE (Bz L i) (evR L i).player) (evR L i).other) (cond ((evR L i).kind==5) (EE (Bz L i) (evR L i).player) (Bz L i)):=rfl;rw[eo,kk];have no:∀q,q∉Bz L i→CU L q i=false:=fun q hq=>Yc i hq
  cases h2:pvI (AD L i 0)==2
  ·cases h5:pvI (AD L i 0)==5
   ·rw[cond_false,cond_false,cond_false,cond_false,wi];have a3:(fun q=>CU L q i)=fun q=>CU L q (i+1):=funext fun q=>by
     show _=(CU L q i||cond ((evR L i).kind==2) _ (cond ((evR L i).kind==5) _ false))
     simp_all
    rw[a3]
   rw[cond_false,cond_true,cond_false,cond_true,←kp];refine fi (by omega) (by omega) ?_ ?_ ?_
   ·intro self;simp only[PXb,PXc,PXn,AH,Br,Aq]
   ·intro j self hj;simp only[PXb,PXc,PXn,AH,Br,Ao (show j≤1099511627776 by omega),Ae hj,AM hj,Vi hj]
   have i1:=ki (Bz L i) (evR L i).player;have n1:=I7 (p:=(evR L i).player) on;simp only[PXb,PXc,PXn,AH,Br,AM (G0 i1).1,Int.toNat_natCast];rw[sD n1 i1,Zc,oK no,wi,←ky];have a3:(fun q=>CU L q i||(q==(evR L i).player && !(evR L i).yes))=fun q=>CU L q (i+1):=funext fun q=>by
    show _=(CU L q i||cond ((evR L i).kind==2) _ (cond ((evR L i).kind==5) (q==(evR L i).player && !(evR L i).yes) false))
    simp_all
   rw[a3]
  rw[cond_true,cond_true,←kp,←ko];refine fi (by omega) (by omega) ?_ ?_ ?_
  ·intro self;simp only[PXb,PXc,PXn,AH,Br,Aq]
  ·intro j self hj;simp only[PXb,PXc,PXn,AH,Br,Ao (show j≤1099511627776 by omega),Ae hj,AM hj,Vi hj]
  have i1:=ki (Bz L i) (evR L i).player;have n1:=I7 (p:=(evR L i).player) on;have l1:=Y5 (Bz L i) (evR L i).player;simp only[PXb,PXc,PXn,AH,Br,AM (G0 i1).1,Int.toNat_natCast];rw[GO (v:={ V7 (FU fun p=>CU L p i) (Bz L i) (evR L i).player (evR L i).player with batted:=true }) n1 i1 rfl];have a1:Bx (V7 (FU fun p=>CU L p i) (Bz L i) (evR L i).player) (evR L i).player { V7 (FU fun p=>CU L p i) (Bz L i) (evR L i).player (evR L i).player with batted:=true }=FU fun q=>CU L q i||q==(evR L i).player:=by
   have:=Zc (o:=Bz L i) (F:=FU fun p=>CU L p i) (p:=(evR L i).player) (b:=true);rw[Bool.or_true,sX no]at this;exact this
  rw[a1];refine fi (by omega) (by omega) ?_ ?_ ?_
  ·intro self;simp only[PXb,PXc,PXn,AH,Br,Aq]
  ·intro j self hj;simp only[PXb,PXc,PXn,AH,Br,Ao (show j≤1099511627776 by omega),Ae hj,AM hj,Vi hj]
  have i2:=ki (EE (Bz L i) (evR L i).player) (evR L i).other;have n2:=I7 (p:=(evR L i).other) n1;simp only[PXb,PXc,PXn,AH,Br,AM (G0 i2).1,Int.toNat_natCast];rw[GO (v:={ V7 (FU fun q=>CU L q i||q==(evR L i).player) (EE (Bz L i) (evR L i).player) (evR L i).other (evR L i).other with batted:=true }) n2 i2 rfl];have no2:∀q,q∉EE (Bz L i) (evR L i).player→(CU L q i||q==(evR L i).player)=false:=fun q hq=>by
   have hq2:¬(q∈Bz L i∨q=(evR L i).player):=fun hc=>hq (MG.2 hc)
   simp_all
  have a2:=Zc (o:=EE (Bz L i) (evR L i).player) (F:=FU fun q=>CU L q i||q==(evR L i).player) (p:=(evR L i).other) (b:=true);rw[Bool.or_true,sX no2]at a2;rw[a2,wi];have a3:(fun q=>(CU L q i||q==(evR L i).player)||q==(evR L i).other)=fun q=>CU L q (i+1):=funext fun q=>by
   show _=(CU L q i||cond ((evR L i).kind==2) (q==(evR L i).player||q==(evR L i).other) _)
   grind
  rw[a3]
 have on:=MR L L.length;have ol:=Zq L L.length;have no:∀q,q∉Bz L L.length→CU L q L.length=false:=fun q hq=>Yc L.length hq
 obtain⟨k,hk⟩:∃k:Nat,r1=(k:Int):=⟨r1.toNat,by omega⟩;subst hk;rw[Int.toNat_natCast];simp only[PXb,PXc,PXn,AH];refine AQ (BC (len:=k) (fun j=>[.int ((j:Int)+1),.rows (nQ L j)]) [.rows (nQ L k)] ?_ ?_ N (by omega)) rfl
 ·intro self;have e:iLe ((k:Int)+1) (k:Int)=false:=by simp only[iLe,decide_eq_false_iff_not];omega
  simp only[PXb,PXc,PXn,AH,e]
 intro j self hj;have e:iLe ((j:Int)+1) (k:Int)=true:=by simp only[iLe,decide_eq_true_eq];omega
 have jn:=PH on j;have jl:=jt (Bz L L.length) j;have no3:∀q,q∉QB (Bz L L.length) j→CU L q L.length=false:=fun q hq=>no q fun hc=>hq (iy.2 (.inl hc))
 have eo:nQ L (j+1)=AU (EE (QB (Bz L L.length) j) ((j:Int)+1)) (FU fun p=>CU L p L.length):=rfl;rw[eo];simp only[PXb,PXc,PXn,AH,e,nQ];refine fi (by omega) (by omega) ?_ ?_ ?_
 ·intro self;simp only[PXb,PXc,PXn,AH,Br,Aq]
 ·intro i self hi;simp only[PXb,PXc,PXn,AH,Br,Ao (show i≤1099511627776 by omega),Ae hi,AM hi,Vi hi]
 have i1:=ki (QB (Bz L L.length) j) ((j:Int)+1);have n1:=I7 (p:=(j:Int)+1) jn;have wj:IntKind.i64.wrap ((j:Int)+1+1)=((j+1:Nat):Int)+1:=by rw[A0 (by omega) (by omega)];omega
 have a3:(fun q=>CU L q L.length||(q==(j:Int)+1&&false))=fun q=>CU L q L.length:=funext fun q=>by simp_all
 simp only[PXb,PXc,PXn,AH,Br,AM (G0 i1).1,Int.toNat_natCast];rw[AAV n1 i1,Zc,oK no3,a3,wj]
structure Up(x y:Sco):Prop where
 side:y.side=x.side
 runs:x.runs≤y.runs
 wk:x.wickets≤y.wickets
 balls:x.balls≤y.balls
theorem Up.refl(x:Sco):Up x x:=⟨rfl,Int.le_refl _,Int.le_refl _,Int.le_refl _⟩
theorem AA9{N:Nat}{L:Rows}{k:Nat}(hN:2097152<N)(hL:L.length≤4000)(hk:k<opn L L.length){F:(List AW→Option (List PV))→List PV→Option (List PV)}(enc:Nat→Nat→List AW)(fin:List PV){st:List PV}(hst:(enc 0 (AG L k)).map Leaf.pv=st)
    (f0:∀self,F self ((enc (AG L (k+1)-AG L k) (AG L (k+1))).map Leaf.pv)=some fin)
    (f1:∀(i:Nat) self,i<AG L (k+1)-AG L k→AG L k+i<4000→opn L (AG L k+i+1)=k+1→F self ((enc i (AG L k+i)).map Leaf.pv)=self (enc (i+1) (AG L k+i+1))) :
    CP F N st=some fin:=by
  subst hst;have sg:=seg (by omega) hk;have h1:=sg.lt;have h2:=sg.le;have:=BC (F:=F) (len:=AG L (k+1)-AG L k) (fun i=>enc i (AG L k+i)) fin
    (fun self=>by
      grind)
    (fun i self hi=>f1 i self hi (by omega) (sg.mid _ (by omega) (by omega))) N (by omega)
  exact this
def Cl(L:Rows)(k:Nat):Rows:=List.drop (AG L k) (List.take (AG L (k+1)) L)
theorem jH{L:Rows}(hL:L.length≤1048576){k:Nat}(hk:k<opn L L.length):(Cl L k).length=AG L (k+1)-AG L k:=xQ (seg hL hk).le
end Go.Px
end
