/- Part 16. -/
import Derived.Test.YtlephafgekoeaaaGreatPart15
import Derived.Test.YtlephafgekoeaaaGreatPart13
set_option linter.unusedVariables false
set_option linter.unusedSimpArgs false
section
namespace Go.Px
set_option maxRecDepth 100000
theorem AAZ {r:Rul} (rk:RulOk r) {x:List PV} (h:RowF r x):0≤pvI (AA x 25)∧pvI (AA x 25)≤36:=by
 obtain⟨d,h0,h1,h2,h3,h4,h5⟩:=h.cre;have:=AC9 rk { (evR [] 0)with kind:=4,ball:=d };rw[h5];exact this
def A1 (f:List PV→Int):Rows→Int
 | []=>0
 |x::D=>f x+A1 f D
theorem ez (f:List PV→Int):∀A B,A1 f (A++B)=A1 f A+A1 f B
 | [],B=>by rw[List.nil_append];show _=0+A1 f B;omega
 |x::A,B=>by
  have:=ez f A B;show f x+A1 f (A++B)=f x+A1 f A+A1 f B;omega
theorem Kq (f:List PV→Int) {D:Rows} {i:Nat} (h:i<D.length):A1 f (D.take (i+1))=A1 f (D.take i)+f (AB D i):=by
 rw[et h,ez];show _+(f (AB D i)+0)=_;omega
theorem rW {f:List PV→Int} {c:Int}:∀(D:Rows),(∀x,x∈D→0≤f x∧f x≤c)→0≤A1 f D∧A1 f D≤c*(D.length:Int)
 | [],_=>by
  show(0:Int)≤0∧(0:Int)≤c*((0:Nat):Int);omega
 |x::D,h=>by
  have ih:=rW D (fun y hy=>h y (zzm _ hy));have h1:=h x zzl;have e:c*(((x::D).length:Nat):Int)=c*(D.length:Int)+c:=by rw[List.length_cons,show((D.length+1:Nat):Int)=(D.length:Int)+1 by omega,Int.mul_add,Int.mul_one]
  rw[e];show 0≤f x+A1 f D∧f x+A1 f D≤_;omega
theorem uK {f g:List PV→Int}:∀(D:Rows),(∀x,x∈D→f x≤g x)→A1 f D≤A1 g D
 | [],_=>Int.le_refl _
 |x::D,h=>by
  have ih:=uK D (fun y hy=>h y (zzm _ hy));have h1:=h x zzl;show f x+A1 f D≤g x+A1 g D;omega
theorem o8 {f g h:List PV→Int} {a b:Int}:∀(D:Rows),(∀x,x∈D→f x*a+g x*b=h x)→A1 f D*a+A1 g D*b=A1 h D
 | [],_=>by show(0:Int)*a+0*b=0;rw[Int.zero_mul,Int.zero_mul];rfl
 |x::D,e=>by
  have ih:=o8 D (fun y hy=>e y (zzm _ hy));have h1:=e x zzl;show(f x+A1 f D)*a+(g x+A1 g D)*b=h x+A1 h D;rw[Int.add_mul,Int.add_mul];omega
def bwX (x:List PV):Int:=pvI (AA x 4)
def MN (x:List PV):Int:=cond (pvB (AA x 26)) 1 0
def Kg (x:List PV):Int:=pvI (AA x 25)
def T2 (x:List PV):Int:=cond (pvB (AA x 28)) 1 0
def wdX (x:List PV):Int:=cond (pvI (AA x 8)==2) 1 0
def nbX (x:List PV):Int:=cond (pvI (AA x 8)==2) 0 (cond (pvI (AA x 8)==3) 1 0)
def B8 (b:Int) (f:List PV→Int) (x:List PV):Int:=cond (bwX x==b) (f x) 0
theorem c01 (b:Bool):(0:Int)≤cond b 1 0∧(cond b 1 0:Int)≤36:=by cases b<;>decide
theorem ACF (x:List PV):0≤nbX x∧nbX x≤36:=by
 unfold nbX;cases pvI (AA x 8)==2
 ·exact c01 _
 exact⟨Int.le_refl 0,(by decide:(0:Int)≤36)⟩
theorem qs {f:List PV→Int} {c b:Int} (hc:0≤c) {x:List PV} (h:0≤f x∧f x≤c):0≤B8 b f x∧B8 b f x≤c:=by
 unfold B8;cases bwX x==b
 ·exact⟨Int.le_refl _,hc⟩
 exact h
theorem sD {md:Nat→Bool} {X:Rows} (hX:X.length≤4000) (hb:∀ x,x∈X→0≤Kg x∧Kg x≤36) (b:Int):∀ i,i≤X.length →
    Ck md X b 0 i=⟨b,A1 (B8 b MN) (X.take i),mdP md X b i,A1 (B8 b Kg) (X.take i),A1 (B8 b T2) (X.take i),A1 (B8 b wdX) (X.take i),A1 (B8 b nbX) (X.take i)⟩∧0≤mdP md X b i∧mdP md X b i≤(i:Int)
  |0,_=>⟨rfl,Int.le_refl _,Int.le_refl _⟩
  |i+1,hi=>by
    obtain⟨h1,h2,h3⟩:=sD hX hb b i (by omega);have hl:i<X.length:=by omega
    have tl:(X.take i).length=i:=by rw[List.length_take];omega
    have bd:∀f:List PV→Int,(∀x,x∈X→0≤f x∧f x≤36)→0≤A1 (B8 b f) (X.take i)∧A1 (B8 b f) (X.take i)≤144000:=fun f hf=>by
      have:=rW (f:=B8 b f) (c:=36) (X.take i) (fun x hx=>qs (by omega) (hf x (List.mem_of_mem_take hx)));omega
    have b1:=bd MN (fun x _=>c01 _);have b2:=bd Kg hb;have b3:=bd T2 (fun x _=>c01 _);have b4:=bd wdX (fun x _=>c01 _);have b5:=bd nbX (fun x _=>ACF x);have hx:=hb _ (Q0 hl);have e1:Ck md X b 0 (i+1)=cond (bwX (AB X i)==b) (blX (AB X i) (md i) (Ck md X b 0 i)) (Ck md X b 0 i):=rfl;have e2:mdP md X b (i+1)=cond (bwX (AB X i)==b&&md i) (wr6 (mdP md X b i+1)) (mdP md X b i):=rfl;rw[e1,e2,Kq _ hl,Kq _ hl,Kq _ hl,Kq _ hl,Kq _ hl,h1];generalize A1 (B8 b MN) (X.take i)=s1 at *
    generalize A1 (B8 b Kg) (X.take i)=s2 at *
    generalize A1 (B8 b T2) (X.take i)=s3 at *
    generalize A1 (B8 b wdX) (X.take i)=s4 at *
    generalize A1 (B8 b nbX) (X.take i)=s5 at *
    generalize mdP md X b i=m at *
    generalize AB X i=x at *
    have w:∀n:Int,0≤n→n≤1000000→wr6 n=n:=fun n h1 h2=>A6 (by omega) (by omega)
    have w1:=w (s1+1) (by omega) (by omega);have w2:=w (s2+pvI (AA x 25)) (by unfold Kg at hx;omega) (by unfold Kg at hx;omega);have w3:=w (s3+1) (by omega) (by omega);have w4:=w (s4+1) (by omega) (by omega);have w5:=w (s5+1) (by omega) (by omega);have w6:=w (m+1) (by omega) (by omega);unfold B8 blX;simp only[w1,w2,w3,w4,w5,w6];cases bwX x==b
    · exact⟨by simp only[cond_false,Int.add_zero,Bool.false_and],by simp only[Bool.false_and,cond_false];omega,by simp only[Bool.false_and,cond_false];omega⟩
    unfold MN Kg T2 wdX nbX;refine⟨?_,?_,?_⟩
    · cases md i<;>cases pvB (AA x 26)<;>cases pvB (AA x 28)<;>cases pvI (AA x 8)==2<;>cases pvI (AA x 8)==3<;>simp only[cond_true,cond_false,Int.add_zero,Bool.true_and]
    · cases md i<;>simp only[cond_true,cond_false,Bool.true_and]<;>omega
    cases md i<;>simp only[cond_true,cond_false,Bool.true_and]<;>omega
def Jr (g:Int→Int):List Int→Int
 | []=>0
 |b::B=>g b+Jr g B
theorem mB:∀B,Jr (fun _=>0) B=0
 | []=>rfl
 |b::B=>by
  have:=mB B;show 0+Jr (fun _=>0) B=0;omega
theorem ry (g h:Int→Int):∀B,Jr (fun b=>g b+h b) B=Jr g B+Jr h B
 | []=>rfl
 |b::B=>by
  have:=ry g h B;show g b+h b+Jr (fun b=>g b+h b) B=g b+Jr g B+(h b+Jr h B);omega
theorem mJ {c v:Int}:∀{B:List Int},c∉B→Jr (fun b=>cond (c==b) v 0) B=0
 | [],_=>rfl
 |b::B,h=>by
  have ih:=mJ (c:=c) (v:=v) (B:=B) (fun hm=>h (zzm _ hm));show cond (c==b) v 0+Jr (fun b=>cond (c==b) v 0) B=0;rw[ih,beq_eq_false_iff_ne.2 (fun e=>h (by rw[e];exact zzl))];rfl
theorem ra {c v:Int}:∀{B:List Int},B.Nodup→c∈B→Jr (fun b=>cond (c==b) v 0) B=v
 | [],_,h=>absurd h List.not_mem_nil
 |b::B,hn,h=>by
  obtain⟨n1,n2⟩:=List.nodup_cons.1 hn;show cond (c==b) v 0+Jr (fun b=>cond (c==b) v 0) B=v
  by_cases e:c=b
  ·subst e;rw[mJ n1,beq_self_eq_true];show v+0=v;omega
  have hc:c∈B:=(List.mem_cons.1 h).resolve_left e;rw[ra n2 hc,beq_eq_false_iff_ne.2 e];show 0+v=v;omega
theorem yO {B:List Int} (hn:B.Nodup) (f:List PV→Int):∀(D:Rows),(∀x,x∈D→bwX x∈B)→Jr (fun b=>A1 (B8 b f) D) B=A1 f D
 | [],_=>mB B
 |x::D,h=>by
  have ih:=yO hn f D (fun y hy=>h y (zzm _ hy));have h1:=h x zzl;show Jr (fun b=>B8 b f x+A1 (B8 b f) D) B=f x+A1 f D;rw[ry,ih];refine congrArg (·+_) ?_;exact ra hn h1
theorem AAk (X:Rows) {b:Int}:∀{i j:Nat},i≤j→b∈boN X i→b∈boN X j:=by
 intro i j h
 induction j with
 |zero =>
  intro hb;obtain rfl:i=0:=by omega
  exact hb
 |succ j ih =>
  intro hb
  rcases Nat.lt_or_ge i (j+1)with hl|hl
  ·have:=ih (by omega) hb;show b∈cond _ (boN X j) (boN X j++[_]);cases(boN X j).any (·==pvI (AA (AB X j) 4))
   ·exact List.mem_append_left _ this
   exact this
  obtain rfl:i=j+1:=by omega
  exact hb
theorem ACK (X:Rows) {i:Nat} (hi:i<X.length):bwX (AB X i)∈boN X X.length:=by
 refine AAk X (show i+1≤X.length by omega) ?_;show _∈cond ((boN X i).any (·==pvI (AA (AB X i) 4))) (boN X i) (boN X i++[_]);cases ha:(boN X i).any (·==pvI (AA (AB X i) 4))
 ·exact List.mem_append_right _ (List.mem_singleton.2 rfl)
 obtain⟨y,hy,hye⟩:=List.any_eq_true.1 ha;have:=beq_iff_eq.1 hye;show pvI (AA (AB X i) 4)∈boN X i;rw[←this];exact hy
theorem ACU (X:Rows):∀x,x∈X→bwX x∈boN X X.length:=fun x hx=>by
 obtain⟨j,hj,e⟩:=List.getElem_of_mem hx;have:=ACK X hj;unfold AB at this
 rwa[zzk,zzn hj,Option.getD_some,e]at this
theorem lg (X:Rows) {b:Int}:∀{i:Nat},i≤X.length→b∈boN X i→∃x,x∈X∧bwX x=b
 |0,_,h=>absurd h List.not_mem_nil
 |i+1,hi,h=>by
  change b∈cond ((boN X i).any (·==pvI (AA (AB X i) 4))) (boN X i) (boN X i++[_])at h;cases ha:(boN X i).any (·==pvI (AA (AB X i) 4))
  ·rw[ha]at h
   rcases List.mem_append.1 h with h|h
   ·exact lg X (by omega) h
   exact⟨AB X i,Q0 (by omega),(List.mem_singleton.1 h).symm⟩
  rw[ha]at h;exact lg X (by omega) h
def OvF (bal:Int) (X:Rows):Prop:=∀i,i<X.length→pvI (AA (AB X i) 2)*bal≤A1 MN (X.take i)∧A1 MN (X.take i)<pvI (AA (AB X i) 2)*bal+bal
theorem zA {f:List PV→Int} (hf:∀x,0≤f x) (X:Rows) {i:Nat}:∀{j:Nat},i≤j→j≤X.length→A1 f (X.take i)≤A1 f (X.take j):=by
 intro j h
 induction j with
 |zero =>
  intro _;obtain rfl:i=0:=by omega
  exact Int.le_refl _
 |succ j ih =>
  intro hj
  rcases Nat.lt_or_ge i (j+1)with hl|hl
  ·have:=ih (by omega) (by omega);rw[Kq _ (show j<X.length by omega)];have:=hf (AB X j);omega
  obtain rfl:i=j+1:=by omega
  exact Int.le_refl _
theorem jz {bal:Int} (hb:0<bal) {X:Rows} (h:OvF bal X) {i j:Nat} (hi:i≤j) (hj:j<X.length):pvI (AA (AB X i) 2)≤pvI (AA (AB X j) 2):=by
 have h1:=(h i (by omega)).1;have h2:=(h j hj).2;have h3:=zA (f:=MN) (fun x=>(c01 _).1) X hi (by omega);refine Int.not_lt.1 (fun hl=>?_);have h4:(pvI (AA (AB X j) 2)+1)*bal≤pvI (AA (AB X i) 2)*bal:=Int.mul_le_mul_of_nonneg_right (by omega) (by omega);rw[Int.add_mul,Int.one_mul]at h4;omega
theorem AB5 (X:Rows) (o:Int):∀i,i≤4000→0≤CN X o i∧CN X o i≤(i:Int)∧CN X o (i+1)=CN X o i+cond ((pvI (AA (AB X i) 2)==o)&&pvB (AA (AB X i) 26)) 1 0
 |i,hi=>by
  have b:∀j,j≤i→0≤CN X o j∧CN X o j≤(j:Int):=by
   intro j
   induction j with
   |zero=>intro _;exact⟨Int.le_refl _,Int.le_refl _⟩
   |succ j ih =>
    intro hj;have:=ih (by omega);show 0≤cond _ (wr6 (CN X o j+1)) (CN X o j)∧cond _ (wr6 (CN X o j+1)) (CN X o j)≤_;rw[show wr6 (CN X o j+1)=CN X o j+1 from A6 (by omega) (by omega)];cases(pvI (AA (AB X j) 2)==o)&&pvB (AA (AB X j) 26)
    ·show 0≤CN X o j∧CN X o j≤_;omega
    show 0≤CN X o j+1∧CN X o j+1≤_;omega
  have bi:=b i (Nat.le_refl _);refine⟨bi.1,bi.2,?_⟩;show cond _ (wr6 (CN X o i+1)) (CN X o i)=_;rw[show wr6 (CN X o i+1)=CN X o i+1 from A6 (by omega) (by omega)];cases(pvI (AA (AB X i) 2)==o)&&pvB (AA (AB X i) 26)
  ·show CN X o i=CN X o i+0;omega
  rfl
theorem qr {X:Rows} {o:Int} {i:Nat}:∀{j:Nat},i≤j→j≤4000→(∀k,i≤k→k<j→(pvI (AA (AB X k) 2)==o)=false)→CN X o j=CN X o i:=by
 intro j h
 induction j with
 |zero =>
  intro _ _;obtain rfl:i=0:=by omega
  rfl
 |succ j ih =>
  intro hj hk
  rcases Nat.lt_or_ge i (j+1)with hl|hl
  ·rw[(AB5 X o j (by omega)).2.2,hk j (by omega) (by omega),ih (by omega) (by omega) (fun k h1 h2=>hk k h1 (by omega))];show CN X o i+0=_;omega
  obtain rfl:i=j+1:=by omega
  rfl
def kw (bal:Int) (X:Rows) (b:Int):Nat→Int
 |0=>0
 |i+1=>cond (mdS bal X (pvI (AA (AB X i) 2)) b) (bal-CN X (pvI (AA (AB X i) 2)) (i+1)) 0
theorem xZ {bal:Int} (hb:0<bal) {X:Rows} (hX:X.length≤4000) (ov:OvF bal X) (b:Int):∀i,i≤X.length→mdP (mdA bal X) X b i*bal≤A1 (B8 b MN) (X.take i)+kw bal X b i∧0≤mdP (mdA bal X) X b i∧mdP (mdA bal X) X b i≤(i:Int)
 |0,_=>⟨by show(0:Int)*bal≤0+0;rw[Int.zero_mul];exact Int.le_refl _,Int.le_refl _,Int.le_refl _⟩
 |i+1,hi=>by
  obtain⟨h1,h2,h3⟩:=xZ hb hX ov b i (by omega);have hl:i<X.length:=by omega
  have e2:mdP (mdA bal X) X b (i+1)=cond (bwX (AB X i)==b&&(XZ X i&&mdS bal X (pvI (AA (AB X i) 2)) (bwX (AB X i)))) (wr6 (mdP (mdA bal X) X b i+1)) (mdP (mdA bal X) X b i):=rfl;have e3:kw bal X b (i+1)=cond (mdS bal X (pvI (AA (AB X i) 2)) b) (bal-CN X (pvI (AA (AB X i) 2)) (i+1)) 0:=rfl;have w:wr6 (mdP (mdA bal X) X b i+1)=mdP (mdA bal X) X b i+1:=A6 (by omega) (by omega);have c1:=AB5 X (pvI (AA (AB X i) 2)) i (by omega);have sel0:0≤B8 b MN (AB X i):=(qs (c:=36) (by omega) (c01 _)).1;rw[e2,e3,w,Kq _ hl,c1.2.2,beq_self_eq_true,Bool.true_and];have hnew:XZ X i=true→kw bal X b i=0∧CN X (pvI (AA (AB X i) 2)) i=0:=fun hn=>by
   cases i with
   |zero=>exact⟨rfl,rfl⟩
   |succ j =>
    have hne:(pvI (AA (AB X j) 2)==pvI (AA (AB X (j+1)) 2))=false:=by
     have:(Nat.beq (j+1) 0 || !(pvI (AA (AB X j) 2)==pvI (AA (AB X (j+1)) 2)))=true:=hn;rw[show Nat.beq (j+1) 0=false from rfl,Bool.false_or,Bool.not_eq_true']at this;exact this
    have lt:pvI (AA (AB X j) 2)<pvI (AA (AB X (j+1)) 2):=by
     have:=jz hb ov (show j≤j+1 by omega) hl;have:=beq_eq_false_iff_ne.1 hne;omega
    refine⟨?_,?_⟩
    ·show cond (mdS bal X (pvI (AA (AB X j) 2)) b) (bal-CN X (pvI (AA (AB X j) 2)) (j+1)) 0=0;cases hm:mdS bal X (pvI (AA (AB X j) 2)) b
     ·rfl
     have hc:=beq_iff_eq.1 (jq.1 hm).2;have:=qr (X:=X) (o:=pvI (AA (AB X j) 2)) (i:=j+1) (j:=X.length) (by omega) hX (fun k hk1 hk2=>beq_eq_false_iff_ne.2 (by have:=jz hb ov hk1 hk2;omega));rw[this]at hc;show bal-_=0;omega
    refine(qr (X:=X) (o:=pvI (AA (AB X (j+1)) 2)) (i:=0) (j:=j+1) (by omega) (by omega) (fun k _ hk2=>beq_eq_false_iff_ne.2 ?_)).trans rfl;have:=jz hb ov (show k≤j by omega) (by omega);omega
  have hold:XZ X i=false→kw bal X b i=cond (mdS bal X (pvI (AA (AB X i) 2)) b) (bal-CN X (pvI (AA (AB X i) 2)) i) 0:=fun hn=>by
   cases i with
   |zero=>cases hn
   |succ j =>
    have hne:(pvI (AA (AB X j) 2)==pvI (AA (AB X (j+1)) 2))=true:=by
     have:(Nat.beq (j+1) 0 || !(pvI (AA (AB X j) 2)==pvI (AA (AB X (j+1)) 2)))=false:=hn;rw[show Nat.beq (j+1) 0=false from rfl,Bool.false_or,Bool.not_eq_false']at this;exact this
    show cond (mdS bal X (pvI (AA (AB X j) 2)) b) (bal-CN X (pvI (AA (AB X j) 2)) (j+1)) 0=_;rw[beq_iff_eq.1 hne]
  have hbw:mdS bal X (pvI (AA (AB X i) 2)) b=true→(bwX (AB X i)==b)=true:=fun hm=>((jq.1 hm).1 i hl (beq_self_eq_true _)).1
  have mb:∀m:Int,(m+1)*bal=m*bal+bal:=fun m=>by rw[Int.add_mul,Int.one_mul]
  cases hm:mdS bal X (pvI (AA (AB X i) 2)) b
  ·have hno:(bwX (AB X i)==b&&(XZ X i&&mdS bal X (pvI (AA (AB X i) 2)) (bwX (AB X i))))=false:=by
    cases hb1:bwX (AB X i)==b
    ·rfl
    rw[beq_iff_eq.1 hb1,hm,Bool.and_false,Bool.and_false]
   rw[hno];simp only[cond_false];refine⟨?_,by omega,by omega⟩;have hr:kw bal X b i=0:=by
    cases hn:XZ X i
    ·rw[hold hn,hm];rfl
    exact(hnew hn).1
   omega
  have hb1:=hbw hm;have hsel:B8 b MN (AB X i)=cond (pvB (AA (AB X i) 26)) 1 0:=by unfold B8;rw[hb1];rfl
  rw[hb1,beq_iff_eq.1 hb1,hm,hsel,Bool.true_and,Bool.and_true];cases hn:XZ X i
  ·have r1:=hold hn;rw[hm,cond_true]at r1;simp only[cond_true,cond_false];refine⟨?_,by omega,by omega⟩;cases pvB (AA (AB X i) 26)
   ·show _≤_+0+(bal-(_+0));omega
   show _≤_+1+(bal-(_+1));omega
  obtain⟨r1,r2⟩:=hnew hn;rw[r2];simp only[cond_true,mb];refine⟨?_,by omega,by omega⟩;cases pvB (AA (AB X i) 26)
  ·show _≤_+0+(bal-(0+0));omega
  show _≤_+1+(bal-(0+1));omega
theorem ACA {bal:Int} (hb:0<bal) {X:Rows} (hX:X.length≤4000) (ov:OvF bal X) (b:Int):mdP (mdA bal X) X b X.length*bal≤A1 (B8 b MN) X∧0≤mdP (mdA bal X) X b X.length:=by
 obtain⟨h1,h2,h3⟩:=xZ hb hX ov b X.length (Nat.le_refl _);rw[List.take_length]at h1;have hr:kw bal X b X.length=0:=by
  generalize hn:X.length=n at *
  cases n with
  |zero=>rfl
  |succ j =>
   show cond (mdS bal X (pvI (AA (AB X j) 2)) b) (bal-CN X (pvI (AA (AB X j) 2)) (j+1)) 0=0;cases hm:mdS bal X (pvI (AA (AB X j) 2)) b
   ·rfl
   have hc:=beq_iff_eq.1 (jq.1 hm).2;rw[hn]at hc;show bal-_=0;omega
 exact⟨by omega,h2⟩
theorem my {r:Rul} (rk:RulOk r) {d:Del} (hl:(Dt d==0)=true):(cond (d.type==2) 1 0:Int) * r.wide+(cond (d.type==2) 0 (cond (d.type==3) 1 0):Int) * r.noball≤(AF r d).bowler ∧
    (cond (d.type==2) 0 (cond (d.type==3) 1 0):Int)*r.noball=(AF r d).noballs:=by
  have ok:=gy rk d;have bo:=ok.bo;have ba:=ok.ba;have wi:=ok.wi;have no:=ok.no;have e:AF r d=J7 r d:=by unfold AF;rw[hl];rfl
  rw[e]at bo ba wi no⊢;have w:(J7 r d).wides=cond (d.type==2) (IntKind.i64.wrap (r.wide+IntKind.i64.wrap (IntKind.i64.wrap (d.runs-d.short)+d.boundary))) 0:=rfl;have o:(J7 r d).noballs=cond (d.type==3) r.noball 0:=rfl;have n0:0≤IntKind.i64.wrap (IntKind.i64.wrap (d.runs-d.short)+d.boundary)∧IntKind.i64.wrap (IntKind.i64.wrap (d.runs-d.short)+d.boundary)≤13:=by
    unfold Dt at hl;cases h1:(iLt d.type 1||iLt 3 d.type||iLt 3 d.source||iLt 10 d.how || !btw d.sector 0 8)
    · cases h2:(!btw d.runs 0 7 || !btw d.short 0 d.runs||(!(d.boundary==0) && !(d.boundary==4) && !(d.boundary==6)))
      · rw [Bool.or_eq_false_iff,Bool.or_eq_false_iff] at h2;obtain ⟨⟨a1,a2⟩,a3⟩:=h2;simp only [btw,iLe,Bool.not_eq_false',zzj,decide_eq_true_eq] at a1 a2;have a4:d.boundary=0∨d.boundary=4∨d.boundary=6:=by
          cases b0:d.boundary==0
          · cases b4:d.boundary==4
            · cases b6:d.boundary==6
              · rw[b0,b4,b6]at a3;cases a3
              exact .inr (.inr (beq_iff_eq.1 b6))
            exact .inr (.inl (beq_iff_eq.1 b4))
          exact .inl (beq_iff_eq.1 b0)
        rw[show IntKind.i64.wrap (d.runs-d.short)=d.runs-d.short from A6 (by omega) (by omega),A6 (by omega) (by omega)];omega
      rw[h1,h2]at hl;cases hl
    rw[h1]at hl;cases hl
  have rw:=rk.wide;rw[show IntKind.i64.wrap (r.wide+IntKind.i64.wrap (IntKind.i64.wrap (d.runs-d.short)+d.boundary))=r.wide+IntKind.i64.wrap (IntKind.i64.wrap (d.runs-d.short)+d.boundary)from A6 (by omega) (by omega)]at w;rw[w]at wi;rw[o]at no;rw[bo,o,w];cases h2:d.type==2
  · cases h3:d.type==3<;>simp only[h2,h3,cond_true,cond_false,Int.one_mul,Int.zero_mul]at wi no⊢<;>refine⟨?_,?_⟩<;>first|omega|trivial|rfl
  have h3:(d.type==3)=false:=by rw[beq_iff_eq.1 h2];rfl
  rw[h3];simp only[h2,h3,cond_true,cond_false,Int.one_mul,Int.zero_mul]at wi no⊢;refine⟨?_,?_⟩<;>first|omega|trivial|rfl
theorem ACE {r:Rul} {L:Rows} (hc:Ap r L=0) {a:Nat} (ha:a<L.length) (hk:((evR L a).kind==4)=true):(AO (stM L a 0 (AM r).1)).complete*r.balls+(AO (stM L a 0 (AM r).1)).inover=smi L (Uc r) (opn L a-1) a:=by
 have bf:=Tf hc ha hk;obtain⟨h1,h2,h3,h4,h5⟩:=Bq hc;obtain⟨li,so,_⟩:=Gr h1 h4 a (by omega);have sl:=so.len;have ll:=li.len;have one:=bf.one;have lx:=bf.lnx;have rl:=so.rules;have cl:=qf h1 h4 a (by omega);have at1:=cl.at' (opn L a-1) (by omega);have kx:sco (Fi (stM L a 0 (AM r).1)).xs (opn L a-1)=Bl r.balls (AO (stM L a 0 (AM r).1)):=by
  unfold Fi AO;rw[rl,lx];exact QD _ _ (by omega)
 rw[kx]at at1;have bl:DH r.balls (AO (stM L a 0 (AM r).1)).complete (AO (stM L a 0 (AM r).1)).inover=smi L (Uc r) (opn L a-1) a:=congrArg Sco.balls at1;have be:=(fL bf.ok).1;rw[←bl,be,Int.mul_comm]
structure RowH (r:Rul) (x:List PV):Prop where
 bw:1≤bwX x∧bwX x≤r.side
 part:wdX x*r.wide+nbX x*r.noball≤Kg x
theorem ADG {r:Rul} {L:Rows} (hc:Ap r L=0) {a:Nat} (ha:a<L.length) (hk:((evR L a).kind==4)=true) (t:Mat):RowH r (CG (a:Int) (stM L a 0 (AM r).1) t (evR L a).ball):=by
 have bf:=Tf hc ha hk;have rl:=bf.rules;obtain⟨q1,q2,q3,q4,q5,q6⟩:=Nw bf.ref;have bo:=bf.ok.bow;rw[beq_eq_false_iff_ne]at q2;refine⟨?_,?_⟩
 ·show 1≤(AO (stM L a 0 (AM r).1)).bowler∧(AO (stM L a 0 (AM r).1)).bowler≤r.side;omega
 have:=(my (jZ hc).2 q4).1;show _≤(AF (stM L a 0 (AM r).1).rules _).bowler;rw[rl];exact this
structure BalH (r:Rul) (L:Rows) (k n:Nat):Prop where
 cnt:A1 MN (Ao r L k n)=smi L (Uc r) k n
 bow:A1 Kg (Ao r L k n)=smi L (fun e=>(DV r e).bowler) k n
 nob:A1 nbX (Ao r L k n)*r.noball=smi L (fun e=>(DV r e).noballs) k n
 wkt:A1 T2 (Ao r L k n)≤smi L NR k n
 row:∀x,x∈Ao r L k n→RowH r x
 ov:OvF r.balls (Ao r L k n)
theorem AAP {r:Rul} {L:Rows} (hc:Ap r L=0) (k:Nat):∀n,n≤L.length→BalH r L k n
 |0,_=>⟨rfl,rfl,Int.zero_mul _,Int.le_refl _,fun x hx=>absurd hx List.not_mem_nil,fun i hi=>absurd hi (Nat.not_lt_zero i)⟩
 |n+1,hn=>by
  obtain⟨i1,i2,i3,i4,i5,i6⟩:=AAP hc k n (by omega);have e:Ao r L k (n+1)=cond ((evR L n).kind==4&&Nat.beq (opn L (n+1)) (k+1)) (Ao r L k n++[CG (n:Int) (stM L n 0 (AM r).1) (stM L (n+1) 0 (AM r).1) (evR L n).ball]) (Ao r L k n):=rfl;have cc:∀b:Bool,cond b (0:Int) 0=0:=fun b=>by cases b<;>rfl
  cases hk:(evR L n).kind==4
  ·rw[hk,Bool.false_and,cond_false]at e;have od:∀b:Bool,0≤(cond b (NR (evR L n)) 0:Int):=fun b=>by
    have:=(ABt (evR L n)).1;cases b
    ·exact Int.le_refl _
    exact this
   have z1:Uc r (evR L n)=0:=by unfold Uc DV;rw[hk];rfl
   have z2:(DV r (evR L n)).bowler=0:=by unfold DV;rw[hk];rfl
   have z3:(DV r (evR L n)).noballs=0:=by unfold DV;rw[hk];rfl
   refine⟨?_,?_,?_,?_,?_,?_⟩
   ·rw[e,Di,z1,cc,i1];omega
   ·rw[e,Di,z2,cc,i2];omega
   ·rw[e,Di,z3,cc,i3];omega
   ·rw[e,Di];have:=od (Nat.beq (opn L (n+1)) (k+1));omega
   ·rw[e];exact i5
   rw[e];exact i6
  have ha:n<L.length:=by omega
  have bf:=Tf hc ha hk;have rl:=bf.rules;cases hq:Nat.beq (opn L (n+1)) (k+1)
  ·rw[hk,hq,Bool.true_and,cond_false]at e;refine⟨?_,?_,?_,?_,?_,?_⟩
   ·rw[e,Di,hq,i1];exact(Int.add_zero _).symm
   ·rw[e,Di,hq,i2];exact(Int.add_zero _).symm
   ·rw[e,Di,hq,i3];exact(Int.add_zero _).symm
   ·rw[e,Di,hq];show _≤_+0;omega
   ·rw[e];exact i5
   rw[e];exact i6
  rw[hk,hq,Bool.true_and,cond_true]at e;obtain⟨q1,q2,q3,q4,q5,q6⟩:=Nw bf.ref;have rp:=my (jZ hc).2 q4;have ce:DV r (evR L n)=AF r (evR L n).ball:=by unfold DV;rw[hk];rfl
  have on:opn L (n+1)=opn L n:=fk (by rw[beq_iff_eq.1 hk];rfl);have ok1:opn L n-1=k:=by have:=Nat.eq_of_beq_eq_true hq;omega
  have bc:=ACE hc ha hk;rw[ok1]at bc;have io:=bf.ok.io;have wk:T2 (CG (n:Int) (stM L n 0 (AM r).1) (stM L (n+1) 0 (AM r).1) (evR L n).ball)≤NR (evR L n):=by
   have e1:T2 (CG (n:Int) (stM L n 0 (AM r).1) (stM L (n+1) 0 (AM r).1) (evR L n).ball)=cond (WX (evR L n).ball.how) 1 0:=by
    show cond ((AF (stM L n 0 (AM r).1).rules (evR L n).ball).wicket) 1 0=_;have:AF (stM L n 0 (AM r).1).rules (evR L n).ball=J7 (stM L n 0 (AM r).1).rules (evR L n).ball:=by unfold AF;rw[q4];rfl
    rw[this];rfl
   rw[e1];unfold NR;rw[hk];cases h0:(evR L n).ball.how==0
   ·cases WX (evR L n).ball.how
    ·exact(by decide:(0:Int)≤1)
    exact(by decide:(1:Int)≤1)
   rw[beq_iff_eq.1 h0];exact Int.le_refl _
  have one:∀f:List PV→Int,A1 f (Ao r L k n++[CG (n:Int) (stM L n 0 (AM r).1) (stM L (n+1) 0 (AM r).1) (evR L n).ball])=A1 f (Ao r L k n)+f (CG (n:Int) (stM L n 0 (AM r).1) (stM L (n+1) 0 (AM r).1) (evR L n).ball):=fun f=>by
   rw[ez];show _+(f _+0)=_;omega
  refine⟨?_,?_,?_,?_,?_,?_⟩
  ·rw[e,Di,hq,one,i1];show _+cond ((AF (stM L n 0 (AM r).1).rules (evR L n).ball).counts) 1 0=_+Uc r (evR L n);rw[rl];unfold Uc;rw[ce]
  ·rw[e,Di,hq,one,i2];show _+(AF (stM L n 0 (AM r).1).rules (evR L n).ball).bowler=_+(DV r (evR L n)).bowler;rw[rl,ce]
  ·rw[e,Di,hq,one,Int.add_mul,i3];show _+_=_+(DV r (evR L n)).noballs;rw[ce];exact congrArg (_+·) rp.2
  ·rw[e,Di,hq,one];show _≤_+NR (evR L n);omega
  ·rw[e];intro x hx
   rcases List.mem_append.1 hx with hx|hx
   ·exact i5 x hx
   rw[List.mem_singleton.1 hx];exact ADG hc ha hk _
  rw[e];intro i hi;rw[List.length_append]at hi;change i<(Ao r L k n).length+1 at hi
  by_cases hl:i<(Ao r L k n).length
  ·have hr:AB (Ao r L k n++[CG (n:Int) (stM L n 0 (AM r).1) (stM L (n+1) 0 (AM r).1) (evR L n).ball]) i=AB (Ao r L k n) i:=by
    unfold AB;rw[zzk,zzk,List.getElem?_append_left hl]
   rw[hr,List.take_append_of_le_length (by omega)];exact i6 i hl
  obtain rfl:i=(Ao r L k n).length:=by omega
  have hr:AB (Ao r L k n++[CG (n:Int) (stM L n 0 (AM r).1) (stM L (n+1) 0 (AM r).1) (evR L n).ball]) (Ao r L k n).length=CG (n:Int) (stM L n 0 (AM r).1) (stM L (n+1) 0 (AM r).1) (evR L n).ball:=by
   unfold AB;rw[zzk,List.getElem?_append_right (Nat.le_refl _),Nat.sub_self];rfl
  rw[hr,List.take_append_of_le_length (Nat.le_refl _),List.take_length,i1,←bc];show(AO (stM L n 0 (AM r).1)).complete*r.balls≤_∧_<(AO (stM L n 0 (AM r).1)).complete*r.balls+r.balls;omega
def Xt (g:BL→Int):List BL→Int
 | []=>0
 |s::xs=>g s+Xt g xs
theorem Ra (g:BL→Int) (f:Int→BL):∀B:List Int,Xt g (B.map f)=Jr (fun b=>g (f b)) B
 | []=>rfl
 |b::B=>by
  have:=Ra g f B;show g (f b)+Xt g (B.map f)=g (f b)+Jr (fun b=>g (f b)) B;omega
def lnY (bal:Int) (X:Rows) (b:Int):BL:=⟨b,A1 (B8 b MN) X,mdP (mdA bal X) X b X.length,A1 (B8 b Kg) X,A1 (B8 b T2) X,A1 (B8 b wdX) X,A1 (B8 b nbX) X⟩
structure LineF (r:Rul) (s:BL):Prop where
 p:1≤s.p∧s.p≤r.side
 b:0≤s.b∧s.b≤1000000
 m:0≤s.m*r.balls∧s.m*r.balls≤s.b
 rr:0≤s.r∧s.r≤1000000
 w:0≤s.w∧s.w≤1000000
 nb:0≤s.nb∧s.nb≤1000000
 part:0≤s.wd*r.wide∧0≤s.nb*r.noball∧s.wd*r.wide+s.nb*r.noball≤s.r
structure FigF (r:Rul) (X:Rows) (xs:List BL):Prop where
 len:xs.length≤4000
 line:∀s,s∈xs→LineF r s
 sb:Xt BL.b xs=A1 MN X
 sr:Xt BL.r xs=A1 Kg X
 sw:Xt BL.w xs=A1 T2 X
 sn:Xt BL.nb xs=A1 nbX X
theorem ACs {r:Rul} (rk:RulOk r) {X:Rows} (hX:X.length≤4000) (hb:∀x,x∈X→0≤Kg x∧Kg x≤36) (hr:∀x,x∈X→RowH r x) (ov:OvF r.balls X):FigF r X (IA (mdA r.balls X) X X.length):=by
 have e:IA (mdA r.balls X) X X.length=(boN X X.length).map (lnY r.balls X):=by
  rw[cB];refine List.map_congr_left (fun b _=>?_);rw[(sD hX hb b X.length (Nat.le_refl _)).1,List.take_length];rfl
 rw[e];have nd:=Vh X X.length;have all:=ACU X;have sm:∀f,Jr (fun b=>A1 (B8 b f) X) (boN X X.length)=A1 f X:=fun f=>yO nd f X all
 have bd:∀(b:Int) (f:List PV→Int),(∀x,x∈X→0≤f x∧f x≤36)→0≤A1 (B8 b f) X∧A1 (B8 b f) X≤1000000:=fun b f hf=>by
  have:=rW (f:=B8 b f) (c:=36) X (fun x hx=>qs (by omega) (hf x hx));omega
 have rb:=rk.balls;have rw':=rk.wide;have rn:=rk.noball;refine⟨by rw[List.length_map];exact Nat.le_trans (lH X X.length) hX,fun s hs=>?_,(Ra _ _ _).trans (sm MN),(Ra _ _ _).trans (sm Kg),(Ra _ _ _).trans (sm T2),(Ra _ _ _).trans (sm nbX)⟩;obtain⟨b,hbm,rfl⟩:=List.mem_map.1 hs;obtain⟨x,hx,hxb⟩:=lg X (Nat.le_refl _) hbm;have m1:=ACA (show 0<r.balls by omega) hX ov b;have b1:=bd b MN (fun x _=>c01 _);have b2:=bd b Kg hb;have b3:=bd b T2 (fun x _=>c01 _);have b4:=bd b wdX (fun x _=>c01 _);have b5:=bd b nbX (fun x _=>ACF x);have hp:A1 (B8 b wdX) X*r.wide+A1 (B8 b nbX) X*r.noball≤A1 (B8 b Kg) X:=by
  have h1:=o8 (f:=B8 b wdX) (g:=B8 b nbX) (h:=fun x=>cond (bwX x==b) (wdX x*r.wide+nbX x*r.noball) 0) (a:=r.wide) (b:=r.noball) X (fun y _=>by
   unfold B8;cases bwX y==b
   ·show(0:Int)*r.wide+0*r.noball=0;rw[Int.zero_mul,Int.zero_mul];rfl
   rfl)
  rw[h1];refine uK X (fun y hy=>?_);unfold B8;cases bwX y==b
  ·exact Int.le_refl _
  exact(hr y hy).part
 refine⟨?_,b1,⟨Int.mul_nonneg m1.2 (by omega),m1.1⟩,b2,b3,b5,⟨Int.mul_nonneg b4.1 (by omega),Int.mul_nonneg b5.1 (by omega),hp⟩⟩;show 1≤b∧b≤r.side;rw[←hxb];exact(hr x hx).bw
theorem y3 {r:Rul} {L:Rows} {k:Nat} (hc:Ap r L=0) (hk:k<opn L L.length):IH r L (k:Int)=(Ao r L k L.length,0):=by
 unfold IH;have e:(iLt (k:Int) 0||iLe (opn L L.length:Int) (k:Int))=false:=by
  simp only[Bool.or_eq_false_iff,iLt,iLe,decide_eq_false_iff_not];omega
 rw[hc,e,Xo hc];rfl
theorem tx {r:Rul} {L:Rows} {k:Nat} (hc:Ap r L=0) (hk:k<opn L L.length):YN r L (k:Int)=(A4 (IA (mdA r.balls (Ao r L k L.length)) (Ao r L k L.length) (Ao r L k L.length).length),0):=by
 unfold YN;rw[y3 hc hk];rfl
def AB2 (Q:Rows):Prop:=Q.length≤1048576∧∀i,(pvS (AD Q i 0)).size≤20
def Big (Q:Rows):Prop:=Q.length≤1048576∧∀i,(pvS (AD Q i 0)).size≤1048576
def sEq (a b:ByteArray):Bool:=a.toList==b.toList
def Na:ByteArray:=⟨#[]⟩
theorem ABa (s:ByteArray):sEq s Na = !iLe 1 (s.size:Int):=sN s
theorem Nr {N:Nat} {L:Rows} {x:ByteArray} (hN:L.length<N) (hl:L.length≤1048576):Bh N [.rows L,.str x]=some [.int (Dj (fun j=>sEq x (pvS (AD L j 0))) L.length)]:=by
 show Es (std (L9 N) N) (xOf _)=_;simp only[Es,lq9,std,xOf,PXb];refine AN (B1 (len:=L.length) (DS fun j=>sEq x (pvS (AD L j 0))) ?_ ?_ L.length 0 N (by omega) (by omega)) ?_
 ·intro self;simp only[PXb,PXc,PXn,AE,Aj]
 ·intro i self hi;have e:(x.toList==(pvS (AD L i 0)).toList)=sEq x (pvS (AD L i 0)):=rfl;simp only[PXb,PXc,PXn,AE,A9 (show i≤1099511627776 by omega),Aa hi,AJ hi,DS,e];cases sEq x (pvS (AD L i 0))<;>rfl
 unfold Dj;cases Ax (DS fun j=>sEq x (pvS (AD L j 0))) L.length 0<;>rfl
theorem Ki {N:Nat} {L:Rows} {x:ByteArray} (hN:L.length<N) (hl:L.length≤1048576):BF N [.rows L,.str x]=some [.bool (A8 (fun j=>sEq x (pvS (AD L j 0))) L.length 0)]:=by
 show Dp (std (FE N) N) (xOf _)=_;simp only[Dp,Hb,lq9,std,xOf,PXb,Nr hN hl];rw[HC]
theorem XY {F:(List AQ→Option (List PV))→List PV→Option (List PV)} {len:Nat} (enc:Nat→List AQ) (ans:Nat→Option (List PV)) (fin:List PV)
    (h0:∀self,F self ((enc len).map Leaf.pv)=some (.int 1::fin)) (h1:∀i self,i<len→F self ((enc i).map Leaf.pv)=match ans i with|some r=>some (.int 0::r)|none=>self (enc (i+1))) :
    ∀(k i n:Nat),i+k=len→k<n→C1 F n ((enc i).map Leaf.pv)=some (match Ax ans k i with|some r=>.int 0::r|none=>.int 1::fin)
  |0,i,n,hk,hn=>by
    obtain⟨n,rfl⟩:∃m,n=m+1:=⟨n-1,by omega⟩;obtain rfl:i=len:=by omega
    exact h0 _
  |k+1,i,n,hk,hn=>by
    obtain⟨n,rfl⟩:∃m,n=m+1:=⟨n-1,by omega⟩;show F _ _=_;rw[h1 i _ (by omega)];simp only[Ax];cases ans i with
    |some r=>rfl
    |none=>exact XY enc ans fin h0 h1 k (i+1) n (by omega) (by omega)
def ABx:ByteArray:=⟨#[32,40,99,41]⟩
def ADU:ByteArray:=⟨#[32,40,107,41]⟩
def LE (Q:Rows) (p:Int):Bool:=iLt p 1||iLt (Q.length:Int) p
def Pt (Q:Rows) (c k p:Int):ByteArray :=
 cond (LE Q p) Na (cond (p==k) (cond (p==c) (pvS (AD Q (p-1).toNat 0)++ABx) (pvS (AD Q (p-1).toNat 0))++ADU) (cond (p==c) (pvS (AD Q (p-1).toNat 0)++ABx) (pvS (AD Q (p-1).toNat 0))))
theorem yA {Q:Rows} {p:Int} (h:LE Q p=false):1≤p∧p≤(Q.length:Int):=by
 simp only[LE,iLt,Bool.or_eq_false_iff,decide_eq_false_iff_not]at h;omega
theorem uA {Q:Rows} {c k p:Int} (h:∀i,i<Q.length→1≤(pvS (AD Q i 0)).size):sEq (Pt Q c k p) Na=LE Q p:=by
 rw[ABa];unfold Pt;cases ho:LE Q p
 ·have:=yA ho;have z:=h (p-1).toNat (by omega);rw[Bool.not_eq_false',cond_false];simp only[iLe,decide_eq_true_eq];cases p==k<;>cases p==c<;>simp only[cond_true,cond_false,ByteArray.size_append]<;>omega
 rfl
theorem nX {N:Nat} {n:ByteArray} {Q:Rows} {c k p:Int} (t:AB2 Q):Je N [.str n,.rows Q,.int c,.int k,.int p]=some [.str (Pt Q c k p)]:=by
 show Mw (std (VT N) N) (xOf _)=_;simp only[Mw,lq9,std,xOf,PXb];unfold Pt;cases ho:LE Q p
 ·have r:=yA ho;have t1:=t.1;have z:=t.2 (p-1).toNat;have w:IntKind.i64.wrap (p-1)=p-1:=A6 (by omega) (by omega);have ii:iIn (p-1) (Q.length:Int)=true:=by simp[iIn];omega
  have s1:iSm (((pvS (AD Q (p-1).toNat 0)).size:Nat):Int) 1=true:=C4 (by omega) (by omega);have s2:iSm ((((⟨#[32,40,99,41]⟩:ByteArray).size:Nat)):Int) 1=true:=by decide
  have s3:iSm ((((⟨#[32,40,107,41]⟩:ByteArray).size:Nat)):Int) 1=true:=by decide
  have s4:iSm ((((pvS (AD Q (p-1).toNat 0)++(⟨#[32,40,99,41]⟩:ByteArray)).size:Nat)):Int) 1=true:=C4 (by rw[ByteArray.size_append];have:(⟨#[32,40,99,41]⟩:ByteArray).size=4:=rfl;omega) (by omega);unfold LE at ho;simp only[ho,cond_false,w,ii,cond_true,s1,s2,s3];cases p==k<;>cases p==c<;>simp only[PXb,s1,s4]<;>rfl
 unfold LE at ho;simp only[ho,cond_true];rfl
def Rl (Q:Rows) (i:Nat):Option (List PV):=cond (!GC (pvS (AD Q i 0))) (some [.int 5]) (cond (A8 (fun j=>sEq (pvS (AD Q i 0)) (pvS (AD Q j 0))) i 0) (some [.int 7]) none)
def Cm (n:ByteArray) (Q:Rows) (c k:Int):Int :=
 cond (!GC n) 5 (cond (iLt (Q.length:Int) 2||iLt 11 (Q.length:Int)) 9 (match Ax (Rl Q) Q.length 0 with|some r=>pvI (AA r 0)|none=>cond (LE Q c||LE Q k) 6 0))
theorem Sb {ans:Nat→Option (List PV)}:∀(k i:Nat),Ax ans k i=none→∀j,i≤j→j<i+k→ans j=none
 |0,i,_,j,h1,h2=>by omega
 |k+1,i,h,j,h1,h2=>by
  simp only[Ax]at h;cases ha:ans i with
  |some x=>rw[ha]at h;cases h
  |none =>
   rw[ha]at h
   rcases Nat.eq_or_lt_of_le h1 with e|e
   ·rw[←e];exact ha
   exact Sb k (i+1) h j e (by omega)
theorem tW {Q:Rows} (h:Ax (Rl Q) Q.length 0=none) (i:Nat) (hi:i<Q.length):1≤(pvS (AD Q i 0)).size:=by
 have a:=Sb _ _ h i (Nat.zero_le _) (by omega);unfold Rl at a;cases hn:GC (pvS (AD Q i 0))
 ·rw[hn]at a;cases a
 unfold GC at hn;simp only[zzj,iLe,decide_eq_true_eq]at hn;omega
theorem ABQ {Q:Rows} (t:Big Q) (h:Ax (Rl Q) Q.length 0=none):AB2 Q:=by
 refine⟨t.1,fun i=>?_⟩
 by_cases hi:i<Q.length
 ·have a:=Sb _ _ h i (Nat.zero_le _) (by omega);unfold Rl at a;cases hn:GC (pvS (AD Q i 0))
  ·rw[hn]at a;cases a
  unfold GC at hn;simp only[zzj,iLe,decide_eq_true_eq]at hn;omega
 have:AD Q i 0=.int 0:=by
  unfold AD AB;rw[zzk,List.getElem?_eq_none (by omega)];rfl
 rw[this];exact Nat.zero_le _
theorem ACC {Q:Rows} {c k:Int} (h:Ax (Rl Q) Q.length 0=none):(sEq (Pt Q c k c) Na||sEq (cond (!sEq (Pt Q c k c) Na) (Pt Q c k k) Na) Na)=(LE Q c||LE Q k):=by
 rw[uA (tW h)];cases LE Q c
 ·rw[Bool.false_or,Bool.false_or,Bool.not_false,cond_true,uA (tW h)]
 rfl
set_option maxHeartbeats 2000000 in
theorem Mx {N:Nat} {n:ByteArray} {Q:Rows} {c k:Int} (hN:2097152<N) (hn:n.size≤1048576) (t:Big Q):Cx N [.str n,.rows Q,.int c,.int k]=some [.int (Cm n Q c k)]:=by
 have t1:=t.1;show M2 (std (Gz N) N) (xOf _)=_;simp only[M2,Ui,KZ,KH,lq9,std,xOf,PXb,UV N n (by omega) hn];unfold Cm;cases GC n
 ·rfl
 cases iLt (Q.length:Int) 2||iLt 11 (Q.length:Int)
 ·simp only[PXb];refine AN (B1 (len:=Q.length) (Rl Q) ?_ ?_ Q.length 0 N (by omega) (by omega)) ?_
  ·intro self;simp only[PXb,Aj]
  ·intro i self hi;have z:=t.2 i;have tl:(Q.take i).length=i:=by rw[List.length_take];omega
   have cc:=Ki (N:=N) (L:=Q.take i) (x:=pvS (AD Q i 0)) (by omega) (by omega);rw[tl]at cc;have ca:A8 (fun j=>sEq (pvS (AD Q i 0)) (pvS (AD (Q.take i) j 0))) i 0=A8 (fun j=>sEq (pvS (AD Q i 0)) (pvS (AD Q j 0))) i 0:=Xz i 0 fun j _ hj=>by
    unfold AD AB;simp only[zzk];rw[List.getElem?_take_of_lt (by omega)]
   rw[ca]at cc;have cc:BF N [.rows (List.drop (Int.toNat 0) (List.take i Q)),.str (pvS (AD Q i 0))]=_:=cc;have rg:iRg 0 (i:Int) (Q.length:Int)=true:=AAW (by omega);simp only[PXb,A9 (show i≤1099511627776 by omega),Aa hi,AJ hi,UV N (pvS (AD Q i 0)) (by omega) (by omega),rg,wx,cc,Rl];cases GC (pvS (AD Q i 0))
   ·rfl
   cases A8 (fun j=>sEq (pvS (AD Q i 0)) (pvS (AD Q j 0))) i 0<;>rfl
  cases hf:Ax (Rl Q) Q.length 0 with
  |some r=>rfl
  |none =>
   have o:=ACC (c:=c) (k:=k) hf;simp only[PXb,Qq,KH,nX (ABQ t hf)];show(Option.bind (cond (!sEq (Pt Q c k c) Na) (some [PV.str (Pt Q c k k)]) (some [PV.str Na])) fun c3=>cond (sEq (Pt Q c k c) Na||sEq (pvS (AA c3 0)) Na) (some [PV.int 6]) (some [PV.int 0]))=some [PV.int (cond (LE Q c||LE Q k) 6 0)];rw[AE,AAD];show cond (sEq (Pt Q c k c) Na||sEq (cond (!sEq (Pt Q c k c) Na) (Pt Q c k k) Na) Na) (some [PV.int 6]) (some [PV.int 0])=_;rw[o];cases LE Q c||LE Q k<;>rfl
 rfl
theorem OP {N:Nat} {n x:ByteArray} {L:Rows} {a b:Int} (hN:L.length<N) (hl:L.length≤1048576):DA N [.str n,.rows L,.int a,.int b,.str x]=some [.int (IntKind.i64.wrap (Dj (fun j=>sEq x (pvS (AD L j 0))) L.length+1))]:=by
 show OD (std (QO N) N) (xOf _)=_;simp only[OD,NX,lq9,std,xOf,PXb,Nr hN hl]
theorem mY (p:Nat→Bool) (k:Nat) : -1≤Dj p k∧Dj p k<(k:Int)∧(A8 p k 0=true→0≤Dj p k)∧(A8 p k 0=false→Dj p k = -1):=by
 have main:∀k i,(∃r,Ax (DS p) k i=some [.int (r:Nat)]∧i≤r∧r<i+k∧p r=true∧A8 p k i=true)∨(Ax (DS p) k i=none∧A8 p k i=false):=by
  intro k
  induction k with
  |zero=>intro i;exact .inr ⟨rfl,rfl⟩
  |succ k ih =>
   intro i;rw[Bz];unfold Ax DS;cases hp:p i
   ·rcases ih (i+1)with⟨r,h1,h2,h3,h4,h5⟩|⟨h1,h2⟩
    ·exact .inl ⟨r,h1,by omega,by omega,h4,h5⟩
    exact .inr ⟨h1,h2⟩
   exact .inl ⟨i,rfl,Nat.le_refl _,by omega,hp,rfl⟩
 unfold Dj
 rcases main k 0 with⟨r,h1,h2,h3,h4,h5⟩|⟨h1,h2⟩
 ·rw[h1,h5];simp[AA,List.getD];omega
 rw[h1,h2];simp;omega
theorem SZ (p:Nat→Bool) (g:Nat→List PV):∀k i,(A8 p k i=true∧∃j,i≤j∧j<i+k∧p j=true∧Ax (fun j=>cond (p j) (some (g j)) none) k i=some (g j))∨(A8 p k i=false∧Ax (fun j=>cond (p j) (some (g j)) none) k i=none)
 |0,i=>.inr ⟨rfl,rfl⟩
 |k+1,i=>by
  rw[Bz];unfold Ax;cases hp:p i
  ·rcases SZ p g k (i+1)with⟨h1,j,h2,h3,h4,h5⟩|⟨h1,h2⟩
   ·exact .inl ⟨h1,j,by omega,by omega,h4,h5⟩
   exact .inr ⟨h1,h2⟩
  exact .inl ⟨rfl,i,Nat.le_refl _,by omega,hp,rfl⟩
theorem jy (p:Nat→Bool) {k:Nat} (hk:k≤1048576):iLt 0 (IntKind.i64.wrap (Dj p k+1))=A8 p k 0:=by
 obtain⟨h1,h2,h3,h4⟩:=mY p k;rw[A6 (by omega) (by omega)];cases ha:A8 p k 0
 ·rw[h4 ha];rfl
 have:=h3 ha;simp[iLt];omega
def WK (A B:Rows):Bool:=A8 (fun i=>A8 (fun j=>sEq (pvS (AD A i 0)) (pvS (AD B j 0))) B.length 0) A.length 0
def H4 (c sd:Int) (n:ByteArray) (A:Rows) (a b:Int) (m:ByteArray) (B:Rows) (d e:Int):Int :=
 cond (c==0) (cond (Cm n A a b==0) (cond (Cm m B d e==0) (cond (!((A.length:Int)==sd) || !((B.length:Int)==sd)) 1 (cond (sEq n m||WK A B) 7 0)) (Cm m B d e)) (Cm n A a b)) c
set_option maxHeartbeats 2000000 in
theorem qR {N:Nat} {r1 r2 r3 r4 r5 r6 r7 r9 r10 r11 r12:Int} {r8:Bool} {r0:ByteArray} {r13:Rows} {n:ByteArray} {A:Rows} {a:Int} {b:Int} {m:ByteArray} {B:Rows} {d:Int} {e:Int} (hN:2097152<N) (hs:r0.size≤1048576) (hn:n.size≤1048576) (hm:m.size≤1048576) (tA:Big A) (tB:Big B):Ow N [.str r0,.int r1,.int r2,.int r3,.int r4,.int r5,.int r6,.int r7,.bool r8,.int r9,.int r10,.int r11,.int r12,.rows r13,.str n,.rows A,.int a,.int b,.str m,.rows B,.int d,.int e]=some [.int (H4 (BA (⟨r0,r1,r2,r3,r4,r5,r6,r7,r8,r9,r10,r11,r12,r13⟩:Rul)) r1 n A a b m B d e)]:=by
 show Oc (std (IY N) N) (xOf _)=_;have lA:=tA.1;have lB:=tB.1;simp only[Oc,To,UT,Uj,lq9,std,xOf,PXb,DP hN hs,Mx hN hn tA,Mx hN hm tB,OP (show B.length<N by omega) lB];unfold H4;generalize BA (⟨r0,r1,r2,r3,r4,r5,r6,r7,r8,r9,r10,r11,r12,r13⟩:Rul)=c0;generalize Cm n A a b=c1;generalize Cm m B d e=c2;refine AN (B1 (len:=3) (fun j=>cond (!(pvI (AD [[.int c0],[.int c1],[.int c2]] j 0)==0)) (some [.int (pvI (AD [[.int c0],[.int c1],[.int c2]] j 0))]) none) ?_ ?_ 3 0 N (by omega) (by omega)) ?_
 ·intro self;rfl
 ·intro i self hi;have lt:iLt (i:Int) (([[PV.int c0],[.int c1],[.int c2]]:Rows).length:Int)=true:=Aa hi;have ir:iIn (i:Int) (([[PV.int c0],[.int c1],[.int c2]]:Rows).length:Int)=true:=AJ hi;simp only[PXb,List.map_cons,List.map_nil,Leaf.pv,lt,ir,Int.toNat_natCast,A9 (show i≤1099511627776 by omega)];cases pvI (AD [[PV.int c0],[.int c1],[.int c2]] i 0)==0<;>rfl
 have f3:Ax (fun j=>cond (!(pvI (AD [[.int c0],[.int c1],[.int c2]] j 0)==0)) (some [PV.int (pvI (AD [[.int c0],[.int c1],[.int c2]] j 0))]) none) 3 0=cond (c0==0) (cond (c1==0) (cond (c2==0) none (some [.int c2])) (some [.int c1])) (some [.int c0]):=by
  show(match cond (!(c0==0)) (some [PV.int c0]) none with|some r=>some r|none=>match cond (!(c1==0)) (some [PV.int c1]) none with|some r=>some r|none=>match cond (!(c2==0)) (some [PV.int c2]) none with|some r=>some r|none=>none)=_;cases c0==0<;>cases c1==0<;>cases c2==0<;>rfl
 rw[f3];cases h0:c0==0
 ·rfl
 cases h1:c1==0
 ·rfl
 cases h2:c2==0
 ·rfl
 simp only[cond_true,Qq,PXb];cases hl : !((A.length:Int)==r1) || !((B.length:Int)==r1)
 ·rw[Bool.or_eq_false_iff]at hl;have e1:((A.length:Int)==r1)=true:=by simpa using hl.1
  have e2:((B.length:Int)==r1)=true:=by simpa using hl.2
  simp only[PXb,e1,e2];show(cond (!sEq n m) _ _:Option (List PV))=_;cases hz:sEq n m
  ·rw[Bool.not_false,cond_true,Bool.false_or];unfold WK;have hp:=SZ (fun i=>A8 (fun j=>sEq (pvS (AD A i 0)) (pvS (AD B j 0))) B.length 0) (fun i=>[PV.int (i:Nat),.str m,.rows B,.int d,.int e]) A.length 0;rw[Option.bind_assoc];refine AN (XY (len:=A.length) (fun i=>[.int (i:Nat),.str m,.rows B,.int d,.int e]) (fun i=>cond (A8 (fun j=>sEq (pvS (AD A i 0)) (pvS (AD B j 0))) B.length 0) (some [PV.int (i:Nat),.str m,.rows B,.int d,.int e]) none) [.str m,.rows B,.int d,.int e] ?_ ?_ A.length 0 N (by omega) (by omega)) ?_
   ·intro self;simp only[PXb,PXc,PXn,AE,Aj]
   ·intro i self hi;simp only[PXb,PXc,PXn,AE,Aa hi,AJ hi,Int.toNat_natCast,OP (show B.length<N by omega) lB,jy _ lB,A9 (show i≤1099511627776 by omega),Nat.reduceAdd];cases A8 (fun j=>sEq (pvS (AD A i 0)) (pvS (AD B j 0))) B.length 0<;>rfl
   have hz2:(n.toList==m.toList)=false:=hz
   rcases hp with⟨h5,j,_,_,_,h6⟩|⟨h5,h6⟩
   ·rw[h5,h6];simp only[PXb,PXc,PXn,AE,hz2];have:iLe 0 (j:Int)=true:=by simp[iLe]
    show cond (iLe 0 (j:Int)) (some [PV.int 7]) (some [PV.int 0])=_;rw[this];rfl
   rw[h5,h6];simp only[PXb,PXc,PXn,AE,hz2];rfl
  show(cond (sEq n m) _ _:Option (List PV))=_;rw[hz];rfl
 simp only[PXb,hl];cases hx:((A.length:Int)==r1)<;>cases hy:((B.length:Int)==r1)<;>simp_all
def AY (X:List Rows):Rows:=X.map fun r=>[PV.rows r]
theorem Fo (X:List Rows):(AY X).length=X.length:=List.length_map _
theorem qo {X:List Rows} {i:Nat} (h:i<X.length):AB (AY X) i=[PV.rows X[i]]:=by
 unfold AB AY;rw[zzk,List.getElem?_map,zzn h];rfl
theorem XT {X:List Rows} {i:Nat} (h:i<X.length):pvL (AD (AY X) i 0)=X[i]:=by
 unfold AD;rw[qo h];rfl
theorem mO {X:List Rows} {i:Nat} (h:i<X.length):(AY X).set i (putRow (AB (AY X) i) 0 [.rows X[i]])=AY X:=by
 rw[qo h];apply List.ext_getElem?;intro j;rw[List.getElem?_set]
 by_cases e:i=j
 ·subst e;rw[if_pos rfl,if_pos (by rw[Fo];exact h)];unfold AY;rw[List.getElem?_map,zzn h];rfl
 rw[if_neg e]
def aO (X:List Rows):Prop:=X.length≤1048576∧∀r∈X,r.length≤1048576
set_option maxHeartbeats 2000000 in
theorem On {N:Nat} (hN:2097152<N) {no a b d e:Int} {n m:ByteArray} {A B T:Rows} {U V:List Rows} (hA:A.length≤1048576) (hB:B.length≤1048576) (hT:T.length≤1048576) (hU:aO U) (hV:aO V) :
    CA N [.int no,.str n,.rows A,.int a,.int b,.str m,.rows B,.int d,.int e,.rows T,.rows (AY U),.rows (AY V)]=some [.int no,.str n,.rows A,.int a,.int b,.str m,.rows B,.int d,.int e,.rows T,.rows (AY U),.rows (AY V)]:=by
  show HT (std (BV N) N) (xOf _)=_;have lU:=Fo U;have lV:=Fo V;have u1:=hU.1;have v1:=hV.1;simp only[HT,Lh,NZ,KU,Jw,KV,KS,lq9,std,xOf,PXb];refine AN (BP (len:=2) (fun i=>[.int (i:Nat),.int no,.str n,.rows A,.int a,.int b,.str m,.rows B,.int d,.int e,.rows T,.rows (AY U),.rows (AY V)]) [.int no,.str n,.rows A,.int a,.int b,.str m,.rows B,.int d,.int e,.rows T,.rows (AY U),.rows (AY V)] ?_ ?_ N (by omega)) ?_
  · intro self;rfl
  · intro i self hi
    rcases(show i=0∨i=1 by omega)with rfl|rfl
    · simp only[PXb,PXc,PXn,AE,DY];show(GA 16 [.rows A]).bind _=_;rw[BN hA (show 16≤4096 by omega)];rfl
    simp only[PXb,PXc,PXn,AE,DY];show(GA 16 [.rows B]).bind _=_;rw[BN hB (show 16≤4096 by omega)];rfl
  simp only[PXb,PXc,PXn,AE,Ad,EB,Dn,BN hT (show 8≤4096 by omega),BN (show(AY U).length≤1048576 by omega) (show 24≤4096 by omega),BN (show(AY V).length≤1048576 by omega) (show 24≤4096 by omega)];refine AN (BP (len:=U.length) (fun i=>[.int (i:Nat),.int no,.str n,.rows A,.int a,.int b,.str m,.rows B,.int d,.int e,.rows T,.rows (AY U),.rows (AY V)]) [.int no,.str n,.rows A,.int a,.int b,.str m,.rows B,.int d,.int e,.rows T,.rows (AY U),.rows (AY V)] ?_ ?_ N (by omega)) ?_
  · intro self;simp only[PXb,PXc,PXn,AE,lU,Aj,Nat.reduceAdd]
  · intro i self hi;have s:=mO hi;simp only[PXb,PXc,PXn,AE,lU,Aa hi,AJ hi,Int.toNat_natCast,Nat.reduceAdd,XT hi,EU,BN (hU.2 _ (List.getElem_mem hi)) (show 72≤4096 by omega),s,Ai (show i≤1099511627776 by omega)]
  simp only[PXb,PXc,PXn,AE,Nat.reduceAdd];refine AN (BP (len:=V.length) (fun i=>[.int (i:Nat),.int no,.str n,.rows A,.int a,.int b,.str m,.rows B,.int d,.int e,.rows T,.rows (AY U),.rows (AY V)]) [.int no,.str n,.rows A,.int a,.int b,.str m,.rows B,.int d,.int e,.rows T,.rows (AY U),.rows (AY V)] ?_ ?_ N (by omega)) ?_
  · intro self;simp only[PXb,PXc,PXn,AE,lV,Aj,Nat.reduceAdd]
  · intro i self hi;have s:=mO hi;simp only[PXb,PXc,PXn,AE,lV,Aa hi,AJ hi,Int.toNat_natCast,Nat.reduceAdd,XT hi,EA,BN (hV.2 _ (List.getElem_mem hi)) (show 56≤4096 by omega),s,Ai (show i≤1099511627776 by omega)]
  simp only[PXb,PXc,PXn,AE,Nat.reduceAdd]
def csS (n:ByteArray) (A:Rows) (a b:Int) (m:ByteArray) (B:Rows) (d e:Int):Int :=
 cond (Cm n A a b==0) (cond (Cm m B d e==0) (cond (sEq n m||WK A B) 1 0) (Cm m B d e)) (Cm n A a b)
set_option maxHeartbeats 2000000 in
theorem X3 {N:Nat} {n:ByteArray} {A:Rows} {a:Int} {b:Int} {m:ByteArray} {B:Rows} {d:Int} {e:Int} (hN:2097152<N) (hn:n.size≤1048576) (hm:m.size≤1048576) (tA:Big A) (tB:Big B):Dm N [.str n,.rows A,.int a,.int b,.str m,.rows B,.int d,.int e]=some [.int (csS n A a b m B d e)]:=by
 show Fa (std (ES N) N) (xOf _)=_;have lA:=tA.1;have lB:=tB.1;simp only[Fa,NG,Hs,lq9,std,xOf,PXb];unfold csS;refine AN (B1 (len:=2) (fun j=>cond (!(cond ((j:Int)==1) (Cm m B d e) (Cm n A a b)==0)) (some [.int (cond ((j:Int)==1) (Cm m B d e) (Cm n A a b))]) none) ?_ ?_ 2 0 N (by omega) (by omega)) ?_
 ·intro self;rfl
 ·intro i self hi
  rcases(show i=0∨i=1 by omega)with rfl|rfl
  ·simp only[PXb,PXc,PXn,AE];show(Cx N [.str n,.rows A,.int a,.int b]).bind _=_;rw[Mx hN hn tA];show cond (!(Cm n A a b==0)) _ _=match(cond (!(Cm n A a b==0)) (some [PV.int (Cm n A a b)]) none:Option (List PV))with|some r=>some (PV.int 0::r)|none=>_
   cases Cm n A a b==0<;>rfl
  simp only[PXb,PXc,PXn,AE];show(Cx N [.str m,.rows B,.int d,.int e]).bind _=_;rw[Mx hN hm tB];show cond (!(Cm m B d e==0)) _ _=match(cond (!(Cm m B d e==0)) (some [PV.int (Cm m B d e)]) none:Option (List PV))with|some r=>some (PV.int 0::r)|none=>_
  cases Cm m B d e==0<;>rfl
 generalize Cm n A a b=c1;generalize Cm m B d e=c2;have f2:Ax (fun j=>cond (!(cond ((j:Int)==1) c2 c1==0)) (some [PV.int (cond ((j:Int)==1) c2 c1)]) none) 2 0=cond (c1==0) (cond (c2==0) none (some [.int c2])) (some [.int c1]):=by
  show(match cond (!(c1==0)) (some [PV.int c1]) none with|some r=>some r|none=>match cond (!(c2==0)) (some [PV.int c2]) none with|some r=>some r|none=>none)=_;cases c1==0<;>cases c2==0<;>rfl
 rw[f2];cases h1:c1==0
 ·rfl
 cases h2:c2==0
 ·rfl
 simp only[cond_true,Qq,PXb];show(cond (!sEq n m) _ _:Option (List PV))=_;cases hz:sEq n m
 ·rw[Bool.not_false,cond_true,Bool.false_or];unfold WK;have hp:=SZ (fun i=>A8 (fun j=>sEq (pvS (AD A i 0)) (pvS (AD B j 0))) B.length 0) (fun i=>[PV.int (i:Nat),.str n,.rows A,.int a,.int b,.str m,.rows B,.int d,.int e]) A.length 0;rw[Option.bind_assoc];refine AN (XY (len:=A.length) (fun i=>[.int (i:Nat),.str n,.rows A,.int a,.int b,.str m,.rows B,.int d,.int e]) (fun i=>cond (A8 (fun j=>sEq (pvS (AD A i 0)) (pvS (AD B j 0))) B.length 0) (some [PV.int (i:Nat),.str n,.rows A,.int a,.int b,.str m,.rows B,.int d,.int e]) none) [.str n,.rows A,.int a,.int b,.str m,.rows B,.int d,.int e] ?_ ?_ A.length 0 N (by omega) (by omega)) ?_
  ·intro self;simp only[PXb,PXc,PXn,AE,Aj]
  ·intro i self hi;simp only[PXb,PXc,PXn,AE,Aa hi,AJ hi,Int.toNat_natCast,Ki (show B.length<N by omega) lB,A9 (show i≤1099511627776 by omega),Nat.reduceAdd];cases A8 (fun j=>sEq (pvS (AD A i 0)) (pvS (AD B j 0))) B.length 0<;>rfl
  have hz2:(n.toList==m.toList)=false:=hz
  rcases hp with⟨h5,j,_,_,_,h6⟩|⟨h5,h6⟩
  ·rw[h5,h6];simp only[PXb,PXc,PXn,AE,hz2];have:iLe 0 (j:Int)=true:=by simp[iLe]
   show cond (iLe 0 (j:Int)) (some [PV.int 1]) (some [PV.int 0])=_;rw[this];rfl
  rw[h5,h6];simp only[PXb,PXc,PXn,AE,hz2];rfl
 show(cond (sEq n m) _ _:Option (List PV))=_;rw[hz];rfl
theorem kE {c sd:Int} {n m:ByteArray} {A B:Rows} {a b d e:Int} (h:H4 c sd n A a b m B d e=0):c=0∧csS n A a b m B d e=0∧Cm n A a b=0∧Cm m B d e=0∧(A.length:Int)=sd∧(B.length:Int)=sd∧sEq n m=false∧WK A B=false:=by
 unfold H4 at h;unfold csS;generalize Cm n A a b=c1 at *
 generalize Cm m B d e=c2 at *
 cases h0:c==0
 ·rw[h0,cond_false]at h;rw[h]at h0;cases h0
 rw[h0,cond_true]at h;cases h1:c1==0
 ·rw[h1,cond_false]at h;rw[h]at h1;cases h1
 rw[h1,cond_true]at h;cases h2:c2==0
 ·rw[h2,cond_false]at h;rw[h]at h2;cases h2
 rw[h2,cond_true]at h;cases h3 : !((A.length:Int)==sd) || !((B.length:Int)==sd)
 ·rw[h3,cond_false]at h;rw[Bool.or_eq_false_iff]at h3;cases h4:sEq n m||WK A B
  ·have h5:=Bool.or_eq_false_iff.1 h4;exact⟨beq_iff_eq.1 h0,by simp,beq_iff_eq.1 h1,beq_iff_eq.1 h2,by simpa using h3.1,by simpa using h3.2,h5.1,h5.2⟩
  rw[h4,cond_true]at h;cases h
 rw[h3,cond_true]at h;cases h
theorem Sx {N:Nat} {X:Rows} {c:Int} (hN:X.length<N) (hl:X.length≤1048576):Bu N [.rows X,.rows [[.int c]]]=some [.bool (A8 (fun j=>iLt (pvI (AD X j 0)) 0||iLt c (pvI (AD X j 0))) X.length 0)]:=by
 show Ch (std (CF N) N) (xOf _)=_;simp only[Ch,lq9,std,xOf,PXb];rw[Option.bind_assoc];refine AN (B1 (len:=X.length) (DS fun j=>iLt (pvI (AD X j 0)) 0||iLt c (pvI (AD X j 0))) ?_ ?_ X.length 0 N (by omega) (by omega)) ?_
 ·intro self;simp only[PXb,PXc,PXn,AE,Aj]
 ·intro i self hi;have e:pvI (AD ([[PV.int c]]:Rows) (Int.toNat 0) 0)=c:=rfl;simp only[PXb,PXc,PXn,AE,A9 (show i≤1099511627776 by omega),Aa hi,AJ hi,Int.toNat_natCast,DS,e];cases iLt (pvI (AD X i 0)) 0<;>cases iLt c (pvI (AD X i 0))<;>rfl
 rw[←HC];unfold Dj;cases Ax (DS fun j=>iLt (pvI (AD X j 0)) 0||iLt c (pvI (AD X j 0))) X.length 0<;>rfl
theorem Zv {N:Nat} {X:Rows} {c:Int} (hN:X.length<N) (hl:X.length≤1048576):El N [.int c,.rows X]=some [.bool (!A8 (fun j=>iLt (pvI (AD X j 0)) 0||iLt c (pvI (AD X j 0))) X.length 0)]:=by
 show Kl (std (Fv N) N) (xOf _)=_;simp only[Kl,K8,lq9,std,xOf,PXb];show(Bu N [.rows X,.rows [[.int c]]]).bind _=_;rw[Sx hN hl];rfl
theorem pI (k k':Int) (v:Bool):∀L:Rows,MM k' (O9 k v L)=cond (k'==k) v (MM k' L)
 | []=>rfl
 |r::L=>by
  unfold O9;cases hk:k==Rm r
  ·rw[cond_false];show cond (k'==Rm r) (pvB (AA r 1)) (MM k' (O9 k v L))=cond (k'==k) v (cond (k'==Rm r) (pvB (AA r 1)) (MM k' L));rw[pI k k' v L];cases hr:k'==Rm r
   ·rfl
   have:(k'==k)=false:=by
    rw[beq_iff_eq.1 hr];rw[beq_eq_false_iff_ne]at hk⊢;exact Ne.symm hk
   rw[this];rfl
  rw[cond_true];have e:=beq_iff_eq.1 hk;show cond (k'==k) v (MM k' L)=cond (k'==k) v (cond (k'==Rm r) (pvB (AA r 1)) (MM k' L));rw[←e];cases k'==k<;>rfl
def YG (R:Rows):Nat→Rows
 |0=>[]
 |i+1=>O9 (pvI (AD R i 0)) true (YG R i)
theorem uC (R:Rows) (k:Int):∀i,MM k (YG R i)=true→∃j,j<i∧pvI (AD R j 0)=k
 |0,h=>by cases h
 |i+1,h=>by
  unfold YG at h;rw[pI]at h;cases hk:k==pvI (AD R i 0)
  ·rw[hk]at h;obtain⟨j,h1,h2⟩:=uC R k i h;exact⟨j,by omega,h2⟩
  exact⟨i,Nat.lt_succ_self i,(beq_iff_eq.1 hk).symm⟩
structure LinesOk (sd:Int) (js:List Nat) (R:Rows):Prop where
 len:R.length≤1048576
 pl:∀i,i<R.length→1≤pvI (AD R i 0)∧pvI (AD R i 0)≤sd
 val:∀j,j∈js→∀i,i<R.length→0≤pvI (AD R i j)∧pvI (AD R i j)≤1000000
 nd:∀i j,j<i→i<R.length→pvI (AD R j 0)≠pvI (AD R i 0)
theorem LinesOk.met {sd:Int} {js:List Nat} {R:Rows} (h:LinesOk sd js R) {i:Nat} (hi:i<R.length):MM (pvI (AD R i 0)) (YG R i)=false:=by
 cases hm:MM (pvI (AD R i 0)) (YG R i)
 ·rfl
 obtain⟨j,h1,h2⟩:=uC R _ i hm;exact(h.nd i j h1 hi h2).elim
theorem ACb {N:Nat} (hN:2097152<N) {a b:Int} (ha:0≤a∧a≤1000000) (hb:0≤b∧b≤1000000):El N [.int 1000000,.rows [[.int a],[.int b]]]=some [.bool true]:=by
 rw[Zv (by show 2<N;omega) (by show 2≤1048576;omega)];show some [PV.bool (!((iLt a 0||iLt 1000000 a)||((iLt b 0||iLt 1000000 b)||false)))]=_;have h1:iLt a 0=false:=by simp[iLt];omega
 have h2:iLt 1000000 a=false:=by simp[iLt];omega
 have h3:iLt b 0=false:=by simp[iLt];omega
 have h4:iLt 1000000 b=false:=by simp[iLt];omega
 rw[h1,h2,h3,h4];rfl
theorem z7 {N:Nat} (hN:2097152<N) {a b c:Int} (ha:0≤a∧a≤1000000) (hb:0≤b∧b≤1000000) (hc:0≤c∧c≤1000000):El N [.int 1000000,.rows [[.int a],[.int b],[.int c]]]=some [.bool true]:=by
 rw[Zv (by show 3<N;omega) (by show 3≤1048576;omega)];show some [PV.bool (!((iLt a 0||iLt 1000000 a)||((iLt b 0||iLt 1000000 b)||((iLt c 0||iLt 1000000 c)||false))))]=_;have h1:iLt a 0=false:=by simp[iLt];omega
 have h2:iLt 1000000 a=false:=by simp[iLt];omega
 have h3:iLt b 0=false:=by simp[iLt];omega
 have h4:iLt 1000000 b=false:=by simp[iLt];omega
 have h5:iLt c 0=false:=by simp[iLt];omega
 have h6:iLt 1000000 c=false:=by simp[iLt];omega
 rw[h1,h2,h3,h4,h5,h6];rfl
structure CardOk (sd:Int) (T:Rows) (U V:List Rows):Prop where
 t4:T.length≤4
 u:U.length=T.length
 v:V.length=T.length
 side:∀k,k<T.length→pvI (AD T k 0)=1∨pvI (AD T k 0)=2
 bat:∀r,r∈U→LinesOk sd [1,2] r
 bowl:∀r,r∈V→LinesOk sd [1,3,4] r
theorem pb {A B:Rows} {sd:Int} (hA:(A.length:Int)=sd) (hB:(B.length:Int)=sd) (c:Bool):(((cond c B A).length:Nat):Int)=sd:=by cases c<;>assumption
set_option maxHeartbeats 4000000 in
theorem U5 {N:Nat} (hN:2097152<N) {no a b d e sd:Int} {n m:ByteArray} {A B T:Rows} {U V:List Rows} (hn:n.size≤1048576) (hm:m.size≤1048576) (tA:Big A) (tB:Big B) (hc:csS n A a b m B d e=0) (hno:1≤no∧no≤1000000)
    (hA:(A.length:Int)=sd) (hB:(B.length:Int)=sd) (ok:CardOk sd T U V) :
    E2 N [.int no,.str n,.rows A,.int a,.int b,.str m,.rows B,.int d,.int e,.rows T,.rows (AY U),.rows (AY V)]=some [.int 0]:=by
  show J6 (std (Hv N) N) (xOf _)=_;have lU:=Fo U;have lV:=Fo V;have t4:=ok.t4;have h1:iLt no 1=false:=by simp[iLt];omega
  have h2:iLt 1000000 no=false:=by simp[iLt];omega
  have h3:iLt 4 (T.length:Int)=false:=by simp[iLt];omega
  simp only[J6,ME,R4,lq9,std,xOf,PXb,X3 hN hn hm tA tB,hc];simp only[PXb,PXc,PXn,AE,h1,h2,h3,lU,lV,ok.u,ok.v,beq_self_eq_true,Bool.not_true,Bool.or_false,Bool.false_or];refine AN (BP (len:=T.length) (fun k=>[.int (k:Nat)]) [.int 1] ?_ ?_ N (by omega)) ?_
  · intro self;simp only[PXb,PXc,PXn,AE,Aj]
  · intro k self hk;have ku:k<U.length:=by rw[ok.u];exact hk
    have kv:k<V.length:=by rw[ok.v];exact hk
    have oU:=ok.bat _ (List.getElem_mem ku);have oV:=ok.bowl _ (List.getElem_mem kv);have lu:=oU.len;have lv:=oV.len;have sdk:=ok.side k hk;have eu:=XT ku;have ev:=XT kv;generalize U[k]=R at *
    generalize V[k]=S at *
    generalize hx:pvI (AD T k 0)=x at *
    have g1:((!(x==1))&&(!(x==2)))=false:=by rcases sdk with h|h<;>rw[h]<;>rfl
    have w1:IntKind.i64.wrap (x-1)=x-1:=A6 (by omega) (by omega);have w2:IntKind.i64.wrap (2-x)=2-x:=A6 (by omega) (by omega);have i1:iIn (x-1) 2=true:=by simp[iIn];omega
    have i2:iIn (2-x) 2=true:=by simp[iIn];omega
    simp only[PXb,PXc,PXn,AE,Aa hk,AJ hk,Int.toNat_natCast,hx,g1,lU,lV,AJ ku,AJ kv,eu,ev];have lc1:=pb hA hB (IntKind.i64.wrap (x-1)==1);have lc2:=pb hA hB (IntKind.i64.wrap (2-x)==1);rw[w1]at lc1⊢;rw[w2]at lc2⊢;simp only[lc1,lc2,i1,i2,Bool.or_true,cond_true,cond_false];refine AN (BP (len:=R.length) (fun i=>[.rows (YG R i),.int (i:Nat)]) [.int 1,.rows (YG R R.length),.int (R.length:Nat)] ?_ ?_ N (by omega)) ?_
    · intro self;simp only[PXb,PXc,PXn,AE,Aj,Nat.reduceAdd]
    · intro i self hi;obtain⟨p1,p2⟩:=oU.pl i hi;have q1:iLt (pvI (AD R i 0)) 1=false:=by simp[iLt];omega
      have q2:iLt sd (pvI (AD R i 0))=false:=by simp[iLt];omega
      simp only[PXb,PXc,PXn,AE,Aa hi,AJ hi,Int.toNat_natCast,q1,q2,ACb hN (oU.val 1 (by simp) i hi) (oU.val 2 (by simp) i hi),oU.met hi,Bool.not_false,Bool.not_true,Bool.or_false,Bool.and_true,Ai (show i≤1099511627776 by omega)];rfl
    show Option.bind _ _=_;refine AN (BP (len:=S.length) (fun i=>[.rows (YG S i),.int (i:Nat)]) [.int 1,.rows (YG S S.length),.int (S.length:Nat)] ?_ ?_ N (by omega)) ?_
    · intro self;simp only[PXb,PXc,PXn,AE,Aj,Nat.reduceAdd]
    · intro i self hi;obtain⟨p1,p2⟩:=oV.pl i hi;have q1:iLt (pvI (AD S i 0)) 1=false:=by simp[iLt];omega
      have q2:iLt sd (pvI (AD S i 0))=false:=by simp[iLt];omega
      simp only[PXb,PXc,PXn,AE,Aa hi,AJ hi,Int.toNat_natCast,q1,q2,z7 hN (oV.val 1 (by simp) i hi) (oV.val 3 (by simp) i hi) (oV.val 4 (by simp) i hi),oV.met hi,Bool.not_false,Bool.not_true,Bool.or_false,Bool.and_true,Ai (show i≤1099511627776 by omega)];rfl
    show self [Leaf.int (IntKind.i64.wrap ((k:Int)+1))]=_;rw[Ai (show k≤1099511627776 by omega)]
  rfl
def upF (f:Nat→Rows) (k:Nat):List Rows:=(List.range k).map f
theorem cP (f:Nat→Rows) (k:Nat):(upF f k).length=k:=by unfold upF;rw[List.length_map,List.length_range]
theorem qI (f:Nat→Rows) (k:Nat):AY (upF f k)++[[.rows (f k)]]=AY (upF f (k+1)):=by
 unfold upF AY;rw[List.range_succ,List.map_append,List.map_append];rfl
def NY (r:Rul) (L:Rows) (k:Nat):Rows:=AS (GO r L k) (plL r L k)
def Ku (r:Rul) (L:Rows) (k:Nat):Rows:=(YN r L (k:Int)).1
def Qd (L:Rows):Rows:=Jx (zs (OY (Jt L) (De L L.length)) (opn L L.length))
def mkE (c:Int):List PV:=[.int 0,.str ⟨#[]⟩,.rows [],.int 0,.int 0,.str ⟨#[]⟩,.rows [],.int 0,.int 0,.rows [],.rows [],.rows [],.int c]
theorem Wl (L:Rows):(Qd L).length=opn L L.length:=by
 unfold Qd Jx;rw[List.length_map,xF]
theorem zO {r:Rul} {L:Rows} {k:Nat} (hc:Ap r L=0) (hk:k<opn L L.length):YN r L (k:Int)=(Ku r L k,0):=by
 unfold Ku;rw[tx hc hk]
set_option maxHeartbeats 4000000 in
theorem Wi {N:Nat} {no:Int} {r1 r2 r3 r4 r5 r6 r7 r9 r10 r11 r12:Int} {r8:Bool} {r0:ByteArray} {r13:Rows} {n:ByteArray} {A:Rows} {a:Int} {b:Int} {m:ByteArray} {B:Rows} {d:Int} {e:Int} {L:Rows} (hN:2097152<N) (hs:r0.size≤1048576) (h13:r13.length≤1048576) (hL:L.length≤1000000) (hn:n.size≤1048576) (hm:m.size≤1048576) (tA:Big A) (tB:Big B) (hno:1≤no∧no≤1000000) (hU:Ap (⟨r0,r1,r2,r3,r4,r5,r6,r7,r8,r9,r10,r11,r12,r13⟩:Rul) L=0→aO (upF (NY (⟨r0,r1,r2,r3,r4,r5,r6,r7,r8,r9,r10,r11,r12,r13⟩:Rul) L) (opn L L.length))) (hV:Ap (⟨r0,r1,r2,r3,r4,r5,r6,r7,r8,r9,r10,r11,r12,r13⟩:Rul) L=0→aO (upF (Ku (⟨r0,r1,r2,r3,r4,r5,r6,r7,r8,r9,r10,r11,r12,r13⟩:Rul) L) (opn L L.length))):EK N [.int no,.str r0,.int r1,.int r2,.int r3,.int r4,.int r5,.int r6,.int r7,.bool r8,.int r9,.int r10,.int r11,.int r12,.rows r13,.str n,.rows A,.int a,.int b,.str m,.rows B,.int d,.int e,.rows L]=some (cond (H4 (BA (⟨r0,r1,r2,r3,r4,r5,r6,r7,r8,r9,r10,r11,r12,r13⟩:Rul)) r1 n A a b m B d e==0) (cond (Ap (⟨r0,r1,r2,r3,r4,r5,r6,r7,r8,r9,r10,r11,r12,r13⟩:Rul) L==0) [.int no,.str n,.rows A,.int a,.int b,.str m,.rows B,.int d,.int e,.rows (Qd L),.rows (AY (upF (NY (⟨r0,r1,r2,r3,r4,r5,r6,r7,r8,r9,r10,r11,r12,r13⟩:Rul) L) (opn L L.length))),.rows (AY (upF (Ku (⟨r0,r1,r2,r3,r4,r5,r6,r7,r8,r9,r10,r11,r12,r13⟩:Rul) L) (opn L L.length))),.int 0] (mkE (Ap (⟨r0,r1,r2,r3,r4,r5,r6,r7,r8,r9,r10,r11,r12,r13⟩:Rul) L))) (mkE (H4 (BA (⟨r0,r1,r2,r3,r4,r5,r6,r7,r8,r9,r10,r11,r12,r13⟩:Rul)) r1 n A a b m B d e))):=by
 show Ia (std (Be N) N) (xOf _)=_;have hl:L.length≤1048576:=by omega
 have h1:iLt no 1=false:=by simp[iLt];omega
 have h2:iLt 1000000 no=false:=by simp[iLt];omega
 have lT:=Wl L;have ol:=Zr L L.length;simp only[Ia,SY,TY,Rs,Q6,OS,P1,lq9,std,xOf,PXb,qR hN hs hn hm tA tB,WP hN hs h13 hl,nT hN hl];simp only[PXb,PXc,PXn,AE,h1,h2];generalize H4 (BA (⟨r0,r1,r2,r3,r4,r5,r6,r7,r8,r9,r10,r11,r12,r13⟩:Rul)) r1 n A a b m B d e=cp;cases hp:cp==0
 ·rfl
 cases hc:Ap (⟨r0,r1,r2,r3,r4,r5,r6,r7,r8,r9,r10,r11,r12,r13⟩:Rul) L==0
 ·rfl
 have c0:=beq_iff_eq.1 hc;simp only[cond_true,cond_false,Bool.not_true];show Option.bind _ _=_;refine AN (BP (len:=opn L L.length) (fun k=>[.int (k:Nat),.int no,.str n,.rows A,.int a,.int b,.str m,.rows B,.int d,.int e,.rows (Qd L),.rows (AY (upF (NY (⟨r0,r1,r2,r3,r4,r5,r6,r7,r8,r9,r10,r11,r12,r13⟩:Rul) L) k)),.rows (AY (upF (Ku (⟨r0,r1,r2,r3,r4,r5,r6,r7,r8,r9,r10,r11,r12,r13⟩:Rul) L) k))]) [.int 1,.int no,.str n,.rows A,.int a,.int b,.str m,.rows B,.int d,.int e,.rows (Qd L),.rows (AY (upF (NY (⟨r0,r1,r2,r3,r4,r5,r6,r7,r8,r9,r10,r11,r12,r13⟩:Rul) L) (opn L L.length))),.rows (AY (upF (Ku (⟨r0,r1,r2,r3,r4,r5,r6,r7,r8,r9,r10,r11,r12,r13⟩:Rul) L) (opn L L.length)))] ?_ ?_ N (by omega)) ?_
 ·intro self;show cond (iLt _ ((Qd L).length:Int)) _ _=_;simp only[PXb,PXc,PXn,AE,lT,Aj,Nat.reduceAdd]
 ·intro k self hk;have b1:=kb (N:=N) (r1:=r1) (r2:=r2) (r3:=r3) (r4:=r4) (r5:=r5) (r6:=r6) (r7:=r7) (r9:=r9) (r10:=r10) (r11:=r11) (r12:=r12) (r8:=r8) (r0:=r0) (r13:=r13) (L:=L) (k:=(k:Int)) hN hs h13 hL;have b2:=dE (N:=N) (r1:=r1) (r2:=r2) (r3:=r3) (r4:=r4) (r5:=r5) (r6:=r6) (r7:=r7) (r9:=r9) (r10:=r10) (r11:=r11) (r12:=r12) (r8:=r8) (r0:=r0) (r13:=r13) (L:=L) (k:=(k:Int)) hN hs h13 hL;rw[ABo c0 hk]at b1;rw[zO c0 hk]at b2;change _=some [PV.rows (NY (⟨r0,r1,r2,r3,r4,r5,r6,r7,r8,r9,r10,r11,r12,r13⟩:Rul) L k),PV.int 0]at b1;change _=some [PV.rows (Ku (⟨r0,r1,r2,r3,r4,r5,r6,r7,r8,r9,r10,r11,r12,r13⟩:Rul) L k),PV.int 0]at b2;have s1:iSm (((AY (upF (NY (⟨r0,r1,r2,r3,r4,r5,r6,r7,r8,r9,r10,r11,r12,r13⟩:Rul) L) (k+1))).length:Nat):Int) 24=true:=C4 (by rw[Fo,cP];omega) (by omega);have s2:iSm (((AY (upF (Ku (⟨r0,r1,r2,r3,r4,r5,r6,r7,r8,r9,r10,r11,r12,r13⟩:Rul) L) (k+1))).length:Nat):Int) 24=true:=C4 (by rw[Fo,cP];omega) (by omega);have u1:=qI (NY (⟨r0,r1,r2,r3,r4,r5,r6,r7,r8,r9,r10,r11,r12,r13⟩:Rul) L) k;have u2:=qI (Ku (⟨r0,r1,r2,r3,r4,r5,r6,r7,r8,r9,r10,r11,r12,r13⟩:Rul) L) k;show cond (iLt _ ((Qd L).length:Int)) _ _=_;simp only[PXb,PXc,PXn,AE,lT,Aa hk,b1,b2,Nat.reduceAdd,u1,u2,s1,s2,beq_self_eq_true,Bool.not_true,Ai (show k≤1099511627776 by omega)]
 show Option.bind (CA N [.int no,.str n,.rows A,.int a,.int b,.str m,.rows B,.int d,.int e,.rows (Qd L),.rows (AY (upF (NY (⟨r0,r1,r2,r3,r4,r5,r6,r7,r8,r9,r10,r11,r12,r13⟩:Rul) L) (opn L L.length))),.rows (AY (upF (Ku (⟨r0,r1,r2,r3,r4,r5,r6,r7,r8,r9,r10,r11,r12,r13⟩:Rul) L) (opn L L.length)))]) _=_;rw[On hN tA.1 tB.1 (by rw[lT];omega) (hU c0) (hV c0)];rfl
theorem gE (X:Rows) (p:Int) (hX:X.length≤4000):∀n,n≤X.length→0≤(C6 X p n).balls∧(C6 X p n).balls≤(n:Int)
 |0,_=>⟨Int.le_refl _,Int.le_refl _⟩
 |n+1,h=>by
  obtain⟨h1,h2⟩:=gE X p hX n (by omega);have hit:0≤(Ky (AB X n) (C6 X p n)).balls∧(Ky (AB X n) (C6 X p n)).balls≤((n+1:Nat):Int):=by
   show 0≤cond _ _ _∧cond _ _ _≤_;cases pvB (AA (AB X n) 27)
   ·exact⟨h1,by rw[cond_false];omega⟩
   rw[cond_true,A6 (by omega) (by omega)];omega
  have c:0≤(cond (pvI (AA (AB X n) 5)==p) (Ky (AB X n) (C6 X p n)) (C6 X p n)).balls∧(cond (pvI (AA (AB X n) 5)==p) (Ky (AB X n) (C6 X p n)) (C6 X p n)).balls≤((n+1:Nat):Int):=by
   cases pvI (AA (AB X n) 5)==p
   ·exact⟨h1,by rw[cond_false];omega⟩
   exact hit
  show 0≤(Hh (AB X n) p (C6 X p n)).balls∧(Hh (AB X n) p (C6 X p n)).balls≤_;unfold Hh;cases DC (AB X n)==p
  ·exact c
  exact c
theorem xp (e:Ev) (p:Int) (l:Ln):(evX e p l).balls=l.balls∧(evX e p l).runs=l.runs:=by
 unfold evX;cases e.kind==2&&(e.player==p||e.other==p)<;>cases(e.kind==5&&e.player==p) && !e.yes<;>cases e.kind==5&&e.player==p<;>cases(e.kind==6&&e.player==p) && !e.yes<;>exact⟨rfl,rfl⟩
theorem dV (E:Rows) (p:Int) (l:Ln):∀n,(PB E p l n).balls=l.balls∧(PB E p l n).runs=l.runs
 |0=>⟨rfl,rfl⟩
 |n+1=>by
  obtain⟨h1,h2⟩:=dV E p l n;obtain⟨h3,h4⟩:=xp (evR E n) p (PB E p l n);exact⟨h3.trans h1,h4.trans h2⟩
theorem yi {L:Rows} {k:Nat} (h:Jt L=1∨Jt L=2):OY (Jt L) (De L L.length) k=1∨OY (Jt L) (De L L.length) k=2:=by
 unfold OY
 rcases h with h|h<;>rw[h]<;>cases De L L.length&&((k:Int)==2||(k:Int)==3)<;>cases(k:Int).tmod 2==1<;>decide
theorem kZ {f:Nat→Rows} {n:Nat} {r:Rows} (h:r∈upF f n):∃k,k<n∧r=f k:=by
 obtain⟨k,h1,h2⟩:=List.mem_map.1 h;exact⟨k,List.mem_range.1 h1,h2.symm⟩
theorem uM {o:List Int} (h:o.Nodup) {i j:Nat} (hj:j<i) (hi:i<o.length):o.getD j 0≠o.getD i 0:=by
 rw[zzk,zzn (by omega),zzk,zzn hi];exact List.pairwise_iff_getElem.1 h j i (by omega) hi hj
theorem P0 {r:Rul} {L:Rows} (hc:Ap r L=0):CardOk r.side (Qd L) (upF (NY r L) (opn L L.length)) (upF (Ku r L) (opn L L.length)) where
 t4:=by
  rw[Wl]
  by_cases h:opn L L.length≤4
  ·exact h
  have:=(jK hc (j:=4) (by omega)).1;omega
 u:=by rw[cP,Wl]
 v:=by rw[cP,Wl]
 side k hk:=by
  rw[Wl]at hk;have e:pvI (AD (Qd L) k 0)=OY (Jt L) (De L L.length) k:=AC7 _ hk;rw[e];exact yi (jK hc hk).2.1
 bat x hx:=by
  obtain⟨k,hk,rfl⟩:=kZ hx;obtain⟨il,rk⟩:=jZ hc;have rs:=rk.side;have l4:=il.len;have oln:(((GO r L k).length:Nat):Int)=r.side:=AAq hc hk;have on:(GO r L k).Nodup:=OC (Lb (CC L k) (CC L k).length) r.side.toNat;have om:∀p,p∈GO r L k↔1≤p∧p≤r.side:=fun p=>cL (p:=p) hc hk (by omega)
  have bl:=(oC hc k L.length (Nat.le_refl _)).1;have cl:(NY r L k).length=(GO r L k).length:=Bt _ _;have row:∀i,i<(GO r L k).length→AB (NY r L k) i=lnR ((GO r L k).getD i 0) (plL r L k ((GO r L k).getD i 0)):=fun i hi=>Yb hi
  have mem:∀i,i<(GO r L k).length→(GO r L k).getD i 0∈GO r L k:=fun i hi=>by
   rw[zzk,zzn hi];exact List.getElem_mem hi
  refine⟨by omega,fun i hi=>?_,fun j hj i hi=>?_,fun i j hj hi=>?_⟩
  ·rw[cl]at hi;unfold AD;rw[row i hi];exact(om _).1 (mem i hi)
  ·rw[cl]at hi;unfold AD;rw[row i hi];have pm:=(om _).1 (mem i hi);generalize(GO r L k).getD i 0=p at *
   have pf:=(ACr (k:=k) hc rk pm.1).rb;have lb:=gE (Ao r L k L.length) p (by omega) _ (Nat.le_refl _);rw[←(dV (CC L k) p (C6 (Ao r L k L.length) p (Ao r L k L.length).length) (CC L k).length).1]at lb;change 0≤(plL r L k p).balls∧(plL r L k p).balls≤_ at lb
   rcases List.mem_cons.1 hj with rfl|hj
   ·show 0≤(plL r L k p).runs∧(plL r L k p).runs≤1000000;omega
   obtain rfl:=List.mem_singleton.1 hj;show 0≤(plL r L k p).balls∧(plL r L k p).balls≤1000000;omega
  rw[cl]at hi;unfold AD;rw[row i hi,row j (by omega)];exact uM on hj hi
 bowl x hx:=by
  obtain⟨k,hk,rfl⟩:=kZ hx;obtain⟨il,rk⟩:=jZ hc;have l4:=il.len;have bh:=AAP hc k L.length (Nat.le_refl _);have bf:=oC hc k L.length (Nat.le_refl _);have bl:=bf.1;have fg:=ACs rk (X:=Ao r L k L.length) (by omega) (fun x hx=>AAZ rk (bf.2 x hx)) bh.row bh.ov;have e:Ku r L k=A4 (IA (mdA r.balls (Ao r L k L.length)) (Ao r L k L.length) (Ao r L k L.length).length):=by
   unfold Ku;rw[tx hc hk]
  have nd:=Vh (Ao r L k L.length) (Ao r L k L.length).length;have ps:∀i,i<(IA (mdA r.balls (Ao r L k L.length)) (Ao r L k L.length) (Ao r L k L.length).length).length→i<(boN (Ao r L k L.length) (Ao r L k L.length).length).length∧(bln (IA (mdA r.balls (Ao r L k L.length)) (Ao r L k L.length) (Ao r L k L.length).length) i).p=(boN (Ao r L k L.length) (Ao r L k L.length).length).getD i 0:=fun i hi=>by
   rw[cB]at hi⊢;have hi2:i<(boN (Ao r L k L.length) (Ao r L k L.length).length).length:=by rw[List.length_map]at hi;exact hi
   refine⟨hi2,?_⟩;rw[Tc hi,List.getElem_map,wN,zzk,zzn hi2];rfl
  have row:∀i,i<(IA (mdA r.balls (Ao r L k L.length)) (Ao r L k L.length) (Ao r L k L.length).length).length→AB (Ku r L k) i=(bln (IA (mdA r.balls (Ao r L k L.length)) (Ao r L k L.length) (Ao r L k L.length).length) i).ls:=fun i hi=>by
   rw[e,kt,zzn hi,Tc hi]
  have cl:(Ku r L k).length=(IA (mdA r.balls (Ao r L k L.length)) (Ao r L k L.length) (Ao r L k L.length).length).length:=by rw[e,LJ]
  generalize IA (mdA r.balls (Ao r L k L.length)) (Ao r L k L.length) (Ao r L k L.length).length=xs at *
  have lf:∀i,i<xs.length→LineF r (bln xs i):=fun i hi=>fg.line _ (by rw[Tc hi];exact List.getElem_mem hi)
  have l40:=fg.len;refine⟨by omega,fun i hi=>?_,fun j hj i hi=>?_,fun i j hj hi=>?_⟩
  ·rw[cl]at hi;unfold AD;rw[row i hi];exact(lf i hi).p
  ·rw[cl]at hi;unfold AD;rw[row i hi];have f:=lf i hi;have fb:=f.b;have fr:=f.rr;have fw:=f.w
   rcases List.mem_cons.1 hj with rfl|hj
   ·exact fb
   rcases List.mem_cons.1 hj with rfl|hj
   ·exact fr
   obtain rfl:=List.mem_singleton.1 hj;exact fw
  rw[cl]at hi;unfold AD;rw[row i hi,row j (by omega)];obtain⟨z1,z2⟩:=ps i hi;obtain⟨z3,z4⟩:=ps j (by omega);show(bln xs j).p≠(bln xs i).p;rw[z2,z4];exact uM nd hj z1
def Ends (W:Int→Prop) (s:Inn):Prop:=(s.striker=0∨W s.striker)∧(s.other=0∨W s.other)
def K4 (e:Ev) (p:Int):Bool:=(e.kind==2&&(e.player==p||e.other==p))||((e.kind==5&&e.player==p) && !e.yes)
def SubE (s t:Inn):Prop:=(t.striker=0∨t.striker=s.striker∨t.striker=s.other)∧(t.other=0∨t.other=s.striker∨t.other=s.other)
theorem SubE.refl (s:Inn):SubE s s:=⟨.inr (.inl rfl),.inr (.inr rfl)⟩
theorem SubE.of {s t:Inn} (h1:t.striker=s.striker) (h2:t.other=s.other):SubE s t:=⟨.inr (.inl h1),.inr (.inr h2)⟩
theorem SubE.trans {s t u:Inn} (h1:SubE s t) (h2:SubE t u):SubE s u:=by
 unfold SubE at *
 omega
theorem SubE.ends {W:Int→Prop} {s t:Inn} (h:SubE s t) (he:Ends W s):Ends W t:=by
 obtain⟨h1,h2⟩:=h;obtain⟨e1,e2⟩:=he;constructor
 ·rcases h1 with h|h|h
  ·exact .inl h
  ·rw[h];exact e1
  rw[h];exact e2
 rcases h2 with h|h|h
 ·exact .inl h
 ·rw[h];exact e1
 rw[h];exact e2
theorem Ends.mono {W V:Int→Prop} {s:Inn} (h:Ends W s) (f:∀p,W p→V p):Ends V s:=⟨h.1.imp id (f _),h.2.imp id (f _)⟩
theorem iz {s:Inn} (b:Bool) (x y:Inn×Int) (hx:SubE s x.1) (hy:SubE s y.1):SubE s (cond b x y).1:=by cases b;exact hy;exact hx
theorem z6 (r:Rul) (s:Inn) (b:Bool):SubE s (A5 r s b).1:=by
 unfold A5;cases(!inR s.bowler s.bowled.length || !(BA r==0))
 ·rw[cond_false];simp only;cases iLt (cond b (inc s.inover) s.inover) r.balls<;>exact SubE.of rfl rfl
 exact SubE.refl _
theorem ABD (s:Inn) (d:Del):SubE s (Au s d):=by
 unfold Au;simp only;generalize(!(d.runs.tmod 2==0) != d.crossed)=o;generalize(!(d.how==0)&&(d.victim==1 && !(s.striker==0)))=a;generalize(!(d.how==0)&&(d.victim==2 && !(s.other==0)))=b;cases o<;>cases a<;>cases b<;>simp[SubE]
theorem AAx (r:Rul) (s:Inn) (d:Del):SubE s (IG r s d):=by
 have h:=(ABD s d).trans (z6 r (Au s d) (AF r d).counts);unfold IG;simp only;generalize A5 r (Au s d) (AF r d).counts=o at *
 cases o.2
 ·exact h.trans (SubE.of rfl rfl)
 exact h.trans ⟨.inr (.inr rfl),.inr (.inl rfl)⟩
theorem wu {r:Rul} {s:Inn} {e:Ev} {W:Int→Prop} (he:Ends W s) (h:((Bs r s e).2==0)=true):Ends (fun p=>W p∨K4 e p=true) (Bs r s e).1:=by
 have hm:Ends (fun p=>W p∨K4 e p=true) s:=he.mono fun p=>.inl
 revert h
 unfold Bs;cases k2:e.kind==2
 ·cases k4:e.kind==4
  ·cases k5:e.kind==5
   ·cases k6:e.kind==6
    ·simp only[cond_false];intro _;refine SubE.ends ?_ hm;unfold Uu K2 Nk RE Ko KX Ha Ly Ng MI
     repeat' (first|exact SubE.of rfl rfl|exact P_c (P:=fun x:Inn=>SubE s x) _ _ _ (SubE.of rfl rfl) (SubE.of rfl rfl)|refine iz _ _ _ ?_ ?_)
    have:(e.kind==3)=false:=by rw[beq_iff_eq.1 k6];rfl
    rw[this];simp only[cond_true,cond_false];intro _;refine SubE.ends ?_ hm;unfold Fr;refine iz _ _ _ (SubE.refl _) (iz _ _ _ (SubE.refl _) (iz _ _ _ (SubE.refl _) (iz _ _ _ (SubE.refl _) ?_)));cases h1:e.player==s.striker<;>simp[SubE]
   have:(e.kind==3)=false:=by rw[beq_iff_eq.1 k5];rfl
   rw[this];simp only[cond_true,cond_false];intro _;cases hy:e.yes
   ·have nb:K4 e e.player=true:=by unfold K4;rw[k5,hy];simp
    unfold Kf;cases MK s e.player==0
    ·exact hm
    cases hs:s.striker==0
    ·exact⟨hm.1,.inr (.inr nb)⟩
    exact⟨.inr (.inr nb),hm.2⟩
   unfold E7;cases MK s e.player==0<;>exact hm
  have:(e.kind==3)=false:=by rw[beq_iff_eq.1 k4];rfl
  rw[this];simp only[cond_true,cond_false];intro h;rw[(cU h).2];exact(AAx r s e.ball).ends hm
 rw[cond_true];unfold LZ;cases DX s.batters
 ·cases(!inR e.player s.batters.length || !inR e.other s.batters.length)
  ·cases e.player==e.other
   ·refine fun _=>⟨.inr (.inr ?_),.inr (.inr ?_)⟩
    ·unfold K4;rw[k2];simp[LZ]
    unfold K4;rw[k2];simp[LZ]
   exact fun _=>hm
  exact fun _=>hm
 exact fun _=>hm
theorem mN {r:Rul} {s:Inn} {e:Ev} {W:Int→Prop} (he:Ends W s) (h:((Az r s e).2==0)=true):Ends (fun p=>W p∨K4 e p=true) (Az r s e).1:=by
 obtain⟨hv,_,hn,hw,hp,hx⟩:=Pq h;rw[hx];exact wu he hp
theorem ya {W:Int→Prop} (xs:List Inn) (k j:Nat) (hj:j<xs.length) (h:Ends W (inn xs j)):Ends W (inn (xs.set k (MI (inn xs k))) j):=by
 rw[S4 _ _ _ _ hj]
 by_cases e:k=j
 ·rw[if_pos e,e];exact h
 rw[if_neg e];exact h
theorem wM {W:Int→Prop} {m:Mat} {sd:Int} (h0:1≤m.inns.length) (hl:m.inns.length≤5) (h:Ends W (AO m)):Ends W (AO (Jg m sd)):=by
 unfold Jg
 split
 ·rename_i k hk;unfold AO;show Ends W (inn (m.inns.set k (MI (inn m.inns k))) (lnx (m.inns.set k (MI (inn m.inns k)))));have e2:lnx (m.inns.set k (MI (inn m.inns k)))=lnx m.inns:=by rw[Wj h0 hl,Wj (by rw[List.length_set];exact h0) (by rw[List.length_set];exact hl),List.length_set]
  rw[e2];exact ya _ _ _ (by rw[Wj h0 hl];omega) h
 exact h
theorem vS {m:Mat} {e:Ev} {W:Int→Prop} (h:((Cp m e).2==0)=true) (h2:(e.kind==2)=false) (h0:1≤m.inns.length) (hl:m.inns.length≤5) (hs:Ends W (AO m)):Ends (fun p=>W p∨K4 e p=true) (AO (Cp m e).1):=by
 obtain⟨hv,he,h5,hp,hx⟩:=QT h;have ci:=(aL (GP m e).1).2.1;have lc:AO (Cp m e).1=AO (GP m e).1:=by rw[hx];exact lk ci
 rw[lc];have hm:Ends (fun p=>W p∨K4 e p=true) (AO m):=hs.mono fun p=>.inl
 unfold GP at hp⊢;rw[h2]at hp⊢;cases k1:e.kind==1
 ·rw[k1]at hp;cases k12:e.kind==12
  ·rw[k12]at hp;cases k16:e.kind==16
   ·rw[k16]at hp;simp only[cond_false]at hp⊢;cases s3:m.stage==3
    ·rw[s3]at hp;exact absurd (show((1:Int)==0)=true from hp) (by decide)
    rw[s3]at hp;simp only[Bool.not_true,cond_false]at hp⊢;unfold EO at hp⊢;have ht:=X1 hp;simp only[ht,Bool.not_true,cond_false];have d:=mN (r:=m.rules) hs ht;have e1:=oi (m:=m) (t:=(Az m.rules (AO m) e).1) h0 hl;cases(e.kind==13 && !(e.side==(Az m.rules (AO m) e).1.side))
    ·rw[cond_false,e1];exact d
    rw[cond_true];exact wM (by show 1≤(m.inns.set _ _).length;rw[List.length_set];exact h0) (by show(m.inns.set _ _).length≤5;rw[List.length_set];exact hl) (by rw[e1];exact d)
   show Ends _ (AO (Yh m));unfold Yh;cases s3:m.stage==3
   ·exact hm
   have:=oi (m:=m) (t:={ AO m with ending:=5 }) h0 hl;show Ends _ (AO { m with inns:=m.inns.set (lnx m.inns) { AO m with ending:=5 } });rw[this];exact hm
  rw[k12]at hp;cases s4:m.stage==4
  ·rw[s4]at hp;cases hp
  rw[s4]at hp;cases sf:e.side==m.first
  ·rw[sf]at hp;cases hp
  exact hm
 rw[k1]at hp;cases s1:m.stage==1
 ·rw[s1]at hp;cases hp
 exact hm
theorem yP {m:Mat} {e:Ev} (h:((Cp m e).2==0)=true) (h2:(e.kind==2)=true) (hl:m.inns.length≤3):Ends (fun p=>K4 e p=true) (AO (Cp m e).1):=by
 obtain⟨hv,he,h5,hp,hx⟩:=QT h;have ci:=(aL (GP m e).1).2.1;have lc:AO (Cp m e).1=AO (GP m e).1:=by rw[hx];exact lk ci
 rw[lc];have e2:=beq_iff_eq.1 h2;unfold GP at hp⊢;rw[h2]at hp⊢;have k1:(e.kind==1)=false:=by rw[e2];rfl
 rw[k1]at hp⊢;cases s2:m.stage==2
 ·rw[s2]at hp;cases hp
 rw[s2]at hp;simp only[Bool.not_true,cond_false,cond_true]at hp⊢;unfold VY at hp⊢;obtain⟨sd,hsd⟩:∃sd,sd=Df m (m.inns.length:Int):=⟨_,rfl⟩;rw[←hsd]at hp⊢;simp only at hp⊢;generalize hbb:Ct m.rules sd (Gu m sd) (cond (sd==2) m.pen2 m.pen1)=bb at hp⊢;obtain⟨hb,hp⟩:=Xl hp;have ht:=X1 hp;have bz:Ends (fun _=>False) bb.1:=by
  rw[←hbb]at hb⊢;unfold Ct at hb⊢;cases h1:BA m.rules==0
  ·rw[h1]at hb;exact absurd (show(BA m.rules==0)=true from hb) (by rw[h1];decide)
  cases h3:(!btw sd 1 2 || !btw (Gu m sd) 0 1000000 || !btw (cond (sd==2) m.pen2 m.pen1) 0 1000000)
  ·exact⟨.inl rfl,.inl rfl⟩
  rw[h1,h3]at hb;cases hb
 have d:=mN bz ht;simp only[hb,ht,Bool.not_true,cond_false];have lt:∀t:Inn,AO { m with stage:=3,inns:=m.inns++[t],pen1:=cond (sd==1) 0 m.pen1,pen2:=cond (sd==2) 0 m.pen2 }=t:=fun t=>by
  unfold AO;show inn (m.inns++[t]) (lnx (m.inns++[t]))=t;have l1:(m.inns++[t]).length=m.inns.length+1:=by simp
  rw[Wj (by omega) (by omega),l1,Nat.add_sub_cancel,tw _ _ _ (by omega),if_neg (by omega)]
 rw[lt];exact d.mono fun p h=>h.resolve_left id
def WD (L:Rows) (k:Nat) (q:Int):Nat→Bool
 |0=>false
 |n+1=>WD L k q n||(Nat.beq (opn L (n+1)) (k+1)&&K4 (evR L n) q)
theorem wy {r:Rul} {L:Rows} (hc:Ap r L=0) (k:Nat):∀n,n≤L.length→opn L n=k+1→Ends (fun p=>WD L k p n=true) (AO (stM L n 0 (AM r).1))
 |0,_,h=>by cases h
 |n+1,hn,h=>by
  obtain⟨h1,h2,h3,h4,h5⟩:=Bq hc;obtain⟨li,so,_⟩:=Gr h1 h4 n (by omega);obtain⟨_,_,hi⟩:=Gr h1 h4 L.length (Nat.le_refl _);have a0:=O4 L.length 0 _ h4 n (by omega);have s0:=YS (L:=L) n 0 (AM r).1;rw[Nat.zero_add]at a0 s0;have q:=(Wz a0).1;rw[q]at s0 a0;have sl:=so.len;have ll:=li.len;have os:opn L (n+1)=opn L n+cond ((evR L n).kind==2) 1 0:=rfl;have hb:Nat.beq (opn L (n+1)) (k+1)=true:=by rw[h];exact S5 _
  cases k2:(evR L n).kind==2
  ·rw[k2,cond_false,Nat.add_zero]at os;have d:=vS a0 k2 (by omega) (by omega) (wy hc k n (by omega) (by omega));rw[←s0]at d;refine d.mono fun p hp=>?_
   show(_||(_&&_))=true;rw[hb]
   rcases hp with hp|hp
   ·rw[hp];rfl
   rw[hp];exact Bool.or_true _
  have d:=yP a0 k2 (by have:=((hi n (by omega)).2.two k2).1;omega);rw[←s0]at d;exact d.mono fun p hp=>by show(_||(_&&_))=true;rw[hb,hp];exact Bool.or_true _
theorem pF {r:Rul} {L:Rows} (hc:Ap r L=0) (k:Nat):∀n,n≤L.length→∀x,x∈Ao r L k n→∃m,m<n∧WD L k (pvI (AA x 5)) m=true
 |0,_,x,hx=>absurd hx List.not_mem_nil
 |n+1,hn,x,hx=>by
  have hx2:x∈cond ((evR L n).kind==4&&Nat.beq (opn L (n+1)) (k+1)) (Ao r L k n++[CG (n:Int) (stM L n 0 (AM r).1) (stM L (n+1) 0 (AM r).1) (evR L n).ball]) (Ao r L k n):=hx;have ih:=pF hc k n (by omega) x;cases hk:(evR L n).kind==4
  ·rw[hk,Bool.false_and,cond_false]at hx2;obtain⟨m,h1,h2⟩:=ih hx2;exact⟨m,by omega,h2⟩
  cases hb:Nat.beq (opn L (n+1)) (k+1)
  ·rw[hk,hb,Bool.and_false,cond_false]at hx2;obtain⟨m,h1,h2⟩:=ih hx2;exact⟨m,by omega,h2⟩
  rw[hk,hb,Bool.and_true,cond_true]at hx2
  rcases List.mem_append.1 hx2 with hx2|hx2
  ·obtain⟨m,h1,h2⟩:=ih hx2;exact⟨m,by omega,h2⟩
  rw[List.mem_singleton.1 hx2];have os:opn L (n+1)=opn L n+cond ((evR L n).kind==2) 1 0:=rfl;have k2:((evR L n).kind==2)=false:=by rw[beq_iff_eq.1 hk];rfl
  rw[k2,cond_false,Nat.add_zero]at os;have on:opn L n=k+1:=by have:=Nat.eq_of_beq_eq_true hb;omega
  have d:=(wy hc k n (by omega) on).1;have f:=(wJ hc (show n<L.length by omega) hk (stM L (n+1) 0 (AM r).1)).striker;have e:pvI (AA (CG (n:Int) (stM L n 0 (AM r).1) (stM L (n+1) 0 (AM r).1) (evR L n).ball) 5)=(AO (stM L n 0 (AM r).1)).striker:=rfl;rw[e]at f⊢;exact⟨n,Nat.lt_succ_self n,d.resolve_left (by omega)⟩
def oA (E:Rows) (q:Int):Nat→Bool
 |0=>false
 |n+1=>oA E q n||K4 (evR E n) q
theorem ABh (e:Ev) (p:Int) (l:Ln):(evX e p l).batted=(l.batted||K4 e p):=by
 unfold evX K4;obtain⟨l1,l2,l3,l4,l5,l6,l7,l8,b⟩:=l;cases e.kind==2&&(e.player==p||e.other==p)<;>cases(e.kind==5&&e.player==p) && !e.yes<;>cases e.kind==5&&e.player==p<;>cases(e.kind==6&&e.player==p) && !e.yes<;>cases b<;>rfl
theorem mE (E:Rows) (p:Int) (l:Ln):∀n,(PB E p l n).batted=(l.batted||oA E p n)
 |0=>(Bool.or_false _).symm
 |n+1=>by
  show(evX (evR E n) p (PB E p l n)).batted=(l.batted||(oA E p n||K4 (evR E n) p));rw[←Bool.or_assoc,←mE E p l n];exact ABh _ _ _
theorem tU {L:Rows} {k:Nat} {q:Int} {m:Nat} (h:WD L k q m=true):∀c,WD L k q (m+c)=true
 |0=>h
 |c+1=>by
  show(WD L k q (m+c)||_)=true;rw[tU h c];rfl
theorem qp {L:Rows} {k:Nat} {q:Int}:∀n,opn L n≤k→WD L k q n=false
 |0,_=>rfl
 |n+1,h=>by
  have:=Pv L n;unfold WD;rw[W1 (show¬opn L (n+1)=k+1 by omega),qp n (by omega)];rfl
theorem qP {L:Rows} {k:Nat} {q:Int} (sg:Seg L k):∀i,BI L k+i≤BI L (k+1)→WD L k q (BI L k+i)=oA (CC L k) q i
 |0,_=>qp _ (by rw[Nat.add_zero,sg.o0];exact Nat.le_refl _)
 |i+1,h=>by
  show(WD L k q (BI L k+i)||(Nat.beq (opn L (BI L k+i+1)) (k+1)&&K4 (evR L (BI L k+i)) q))=_;rw[qP sg i (by omega),sg.mid (BI L k+i) (by omega) (by omega),S5,Bool.true_and];have:evR (CC L k) i=evR L (BI L k+i):=qe L i (by omega);show _=(_||K4 (evR (CC L k) i) q);rw[this]
theorem mF {g:List PV→Int}:∀(D:Rows),(∀x,x∈D→g x=0)→QA g D=0
 | [],_=>rfl
 |x::D,h=>by
  have ih:=mF D (fun y hy=>h y (zzm _ hy));have h1:=h x zzl;show g x+QA g D=0;omega
theorem ACk {r:Rul} {L:Rows} {k:Nat} (hc:Ap r L=0) (hk:k<opn L L.length) {p:Int} (hp:1≤p) (hb:(plL r L k p).batted=false):(plL r L k p).runs=0:=by
 have l4:=(Bq hc).2.2.1;have rk:=Dw (Bq hc).2.1;have sg:=seg (L:=L) (by omega) hk;have af:=xK (L:=L) (by omega) hk;have sl:=eK (L:=L) (by omega) hk;have sge:=sg.le;have slt:=sg.lt;rw[(ACr (k:=k) hc rk hp).runs,List.take_length];refine mF _ fun x hx=>?_
 unfold fH;cases hs:pvI (AA x 5)==p
 ·rfl
 have es:=beq_iff_eq.1 hs;have e1:Ao r L k L.length=Ao r L k (BI L (k+1)):=by
  have:=nD (r:=r) sg.o1 af (L.length-BI L (k+1)) (by omega);rw[show BI L (k+1)+(L.length-BI L (k+1))=L.length by omega]at this;exact this
 rw[e1]at hx;obtain⟨m,h1,h2⟩:=pF hc k _ sge x hx;have h3:=tU h2 (BI L (k+1)-m);rw[show m+(BI L (k+1)-m)=BI L (k+1) by omega,es]at h3;have e2:=qP (q:=p) sg (CC L k).length (by rw[sl];omega);rw[sl,show BI L k+(BI L (k+1)-BI L k)=BI L (k+1) by omega,h3]at e2;unfold plL at hb;rw[mE,Bool.or_eq_false_iff,sl,←e2]at hb;cases hb.2
structure Sds where
 n:ByteArray
 A:Rows
 a:Int
 b:Int
 m:ByteArray
 B:Rows
 d:Int
 e:Int
structure Crd where
 no:Int
 S:Rows
 U:List Rows
 V:List Rows
def crR (q:Sds) (c:Crd):List PV:=[.int c.no,.str q.n,.rows q.A,.int q.a,.int q.b,.str q.m,.rows q.B,.int q.d,.int q.e,.rows c.S,.rows (AY c.U),.rows (AY c.V)]
def crd (cs:List Crd) (i:Nat):Crd:=cs.getD i ⟨0,[],[],[]⟩
def CK (q:Sds) (cs:List Crd):Rows:=cs.map (crR q)
theorem I4 (q:Sds) (cs:List Crd):(CK q cs).length=cs.length:=List.length_map _
theorem W3 (q:Sds) {cs:List Crd} {i:Nat} (h:i<cs.length):AB (CK q cs) i=crR q (crd cs i):=by
 unfold AB CK crd;rw[zzk,zzk,List.getElem?_map,zzn h];rfl
def Hi (A:Rows) (x:ByteArray):Bool:=A8 (fun j=>sEq x (pvS (AD A j 0))) A.length 0
def QY (A:Rows) (x:ByteArray):Int:=Dj (fun j=>sEq x (pvS (AD A j 0))) A.length+1
def Gk (A B:Rows) (x:ByteArray):Int×Int:=cond (Hi A x) (1,QY A x) (cond (Hi B x) (2,QY B x) (0,0))
theorem oz {A:Rows} {x:ByteArray} (h:A.length≤1048576):IntKind.i64.wrap (Dj (fun j=>sEq x (pvS (AD A j 0))) A.length+1)=QY A x:=by
 obtain⟨h1,h2,_⟩:=mY (fun j=>sEq x (pvS (AD A j 0))) A.length;exact A6 (by omega) (by omega)
theorem eO {N:Nat} {no a b d e:Int} {n m x:ByteArray} {A B S U V:Rows} (hN:2097152<N) (hA:A.length≤1048576) (hB:B.length≤1048576):EL N [.int no,.str n,.rows A,.int a,.int b,.str m,.rows B,.int d,.int e,.rows S,.rows U,.rows V,.str x]=some [.int (Gk A B x).1,.int (Gk A B x).2]:=by
 show I3 (std (Kj N) N) (xOf _)=_;simp only[I3,RW,lq9,std,xOf,PXb];refine AN (XY (len:=2) (fun i=>[.int (i:Nat)]) (fun i=>cond (Hi (cond (i==1) B A) x) (some [.int ((i:Int)+1),.int (QY (cond (i==1) B A) x)]) none) [] ?_ ?_ 2 0 N (by omega) (by omega)) ?_
 ·intro self;rfl
 ·intro i self hi
  rcases(show i=0∨i=1 by omega)with rfl|rfl
  ·simp only[PXb,PXc,PXn,AE];show(DA N [.str n,.rows A,.int a,.int b,.str x]).bind _=_;rw[OP (by omega) hA];show cond (iLt 0 (IntKind.i64.wrap (Dj (fun j=>sEq x (pvS (AD A j 0))) A.length+1))) _ _=_;rw[jy _ hA];show cond (Hi A x) (some [PV.int 0,PV.int 1,PV.int (IntKind.i64.wrap (Dj (fun j=>sEq x (pvS (AD A j 0))) A.length+1))]) _=match(cond (Hi A x) (some [PV.int 1,PV.int (QY A x)]) none:Option (List PV))with|some r=>some (PV.int 0::r)|none=>_
   rw[oz hA];cases Hi A x<;>rfl
  simp only[PXb,PXc,PXn,AE];show(DA N [.str m,.rows B,.int d,.int e,.str x]).bind _=_;rw[OP (by omega) hB];show cond (iLt 0 (IntKind.i64.wrap (Dj (fun j=>sEq x (pvS (AD B j 0))) B.length+1))) _ _=_;rw[jy _ hB];show cond (Hi B x) (some [PV.int 0,PV.int 2,PV.int (IntKind.i64.wrap (Dj (fun j=>sEq x (pvS (AD B j 0))) B.length+1))]) _=match(cond (Hi B x) (some [PV.int 2,PV.int (QY B x)]) none:Option (List PV))with|some r=>some (PV.int 0::r)|none=>_
  rw[oz hB];cases Hi B x<;>rfl
 show _=some [PV.int (Gk A B x).1,PV.int (Gk A B x).2];unfold Gk;have f2:Ax (fun i=>cond (Hi (cond (i==1) B A) x) (some [.int ((i:Int)+1),.int (QY (cond (i==1) B A) x)]) none) 2 0=cond (Hi A x) (some [.int 1,.int (QY A x)]) (cond (Hi B x) (some [.int 2,.int (QY B x)]) none):=by
  show(match cond (Hi A x) (some [PV.int 1,PV.int (QY A x)]) none with|some r=>some r|none=>match cond (Hi B x) (some [PV.int 2,PV.int (QY B x)]) none with|some r=>some r|none=>none)=_;cases Hi A x<;>cases Hi B x<;>rfl
 rw[f2];cases Hi A x<;>cases Hi B x<;>rfl
def mtS (X:Rows):Nat→Rows
 |0=>[]
 |i+1=>mtS X i++[[.int (pvI (AD X i 0))]]
theorem kP (X:Rows):∀i,(mtS X i).length=i
 |0=>rfl
 |i+1=>by
  show(mtS X i++[_]).length=i+1;rw[List.length_append,kP X i];rfl
theorem WE {N:Nat} {X:Rows} (hN:2097152<N) (hX:X.length≤400):EZ N [.rows [[.rows X]]]=some [.rows (mtS X X.length)]:=by
 show ET (std (K1 N) N) (xOf _)=_;simp only[ET,lq9,std,xOf,PXb];show Option.bind (Option.bind (some [PV.rows X]) _) _=_;simp only[Option.bind_some];refine AN (BP (len:=X.length) (fun i=>[.rows (mtS X i),.int (i:Nat)]) [.rows (mtS X X.length)] ?_ ?_ N (by omega)) ?_
 ·intro self;simp only[PXb,PXc,PXn,AE,Aj,Nat.reduceAdd]
 ·intro i self hi;have s1:iSm (((mtS X i++[[PV.int (pvI (AD X i 0))]]).length:Nat):Int) 8=true:=C4 (by rw[List.length_append,kP];show i+1≤4194304;omega) (by omega);simp only[PXb,PXc,PXn,AE,Aa hi,AJ hi,Int.toNat_natCast,Nat.reduceAdd,s1,Ai (show i≤1099511627776 by omega)];rfl
 rfl
def plS (A B:Rows):Nat→Rows
 |0=>[]
 |i+1=>plS A B i++A++B
theorem cF (A B:Rows):∀i,(plS A B i).length=i*(A.length+B.length)
 |0=>by show 0=_;omega
 |i+1=>by
  show(plS A B i++A++B).length=_;rw[List.length_append,List.length_append,cF A B i,Nat.succ_mul];omega
theorem WJ {N:Nat} {q:Sds} {cs:List Crd} (hN:2097152<N) (hX:cs.length≤3) (hA:cs.length≠0→q.A.length≤100∧q.B.length≤100):DF N [.rows [[.rows (CK q cs)]]]=some [.rows (D7 (Fc (plS q.A q.B cs.length)))]:=by
 show DE (std (Cr N) N) (xOf _)=_;simp only[DE,lq9,std,xOf,PXb];show Option.bind (Option.bind (some [PV.rows (CK q cs)]) _) _=_;simp only[Option.bind_some];have lc:=I4 q cs;have pl:∀i,i≤cs.length→(plS q.A q.B i).length≤600:=fun i hi=>by
  by_cases h0:i=0
  ·subst h0;exact Nat.zero_le _
  have h1:=hA (by omega);rw[cF];have:=Nat.mul_le_mul (show i≤3 by omega) (show q.A.length+q.B.length≤200 by omega);omega
 refine AN (BP (len:=cs.length) (fun i=>[.rows (plS q.A q.B i),.int (i:Nat)]) [.rows (plS q.A q.B cs.length)] ?_ ?_ N (by omega)) ?_
 ·intro self;simp only[PXb,PXc,PXn,AE,lc,Aj,Nat.reduceAdd]
 ·intro i self hi;have p1:=pl i (by omega);have h1:=hA (by omega);have e2:AD (CK q cs) i 2=.rows q.A:=by unfold AD;rw[W3 q hi];rfl
  have e6:AD (CK q cs) i 6=.rows q.B:=by unfold AD;rw[W3 q hi];rfl
  have s1:iSm (((plS q.A q.B i++q.A).length:Nat):Int) 16=true:=C4 (by rw[List.length_append];omega) (by omega);have s2:iSm (((plS q.A q.B i++q.A++q.B).length:Nat):Int) 16=true:=C4 (by rw[List.length_append,List.length_append];omega) (by omega);simp only[PXb,PXc,PXn,AE,lc,Aa hi,AJ hi,Int.toNat_natCast,Nat.reduceAdd,e2,e6,s1,s2,Ai (show i≤1099511627776 by omega)];rfl
 have p3:=pl cs.length (Nat.le_refl _);have s3:iSm (((plS q.A q.B cs.length).length:Nat):Int) 16=true:=C4 (by omega) (by omega);have s4:iSm (((Fc (plS q.A q.B cs.length)).length:Nat):Int) 16=true:=by rw[NP];exact s3
 simp only[PXb,PXc,PXn,AE,s3,s4,Nat.reduceAdd]
theorem XB {N:Nat} {q:Sds} {c:Crd} {x:Int}:E0 N [.int c.no,.str q.n,.rows q.A,.int q.a,.int q.b,.str q.m,.rows q.B,.int q.d,.int q.e,.rows c.S,.rows (AY c.U),.rows (AY c.V),.int x]=some [.int (IntKind.i64.wrap (c.no-x))]:=rfl
theorem ABe {i j:Nat} (h:i+j≤1099511627776):IntKind.i64.wrap (rK false .u64 (IntKind.u64.wrap (IntKind.i64.wrap ((i:Int)+(j:Int)))) 1)=((((i+j) / 2:Nat)):Int):=by
 have h1:IntKind.i64.wrap ((i:Int)+(j:Int))=(((i+j:Nat)):Int):=by rw[A6 (by omega) (by omega)];omega
 have h2:IntKind.u64.wrap (((i+j:Nat)):Int)=(((i+j:Nat)):Int):=by
  show(((i+j:Nat)):Int)%18446744073709551616=_;omega
 rw[h1,h2];show IntKind.i64.wrap ((((i+j:Nat)):Int).fdiv 2)=_;rw[Int.fdiv_eq_ediv_of_nonneg _ (by omega)];have:(((i+j:Nat)):Int) / 2=((((i+j) / 2:Nat)):Int):=by omega
 rw[this];exact A6 (by omega) (by omega)
theorem Hq {N:Nat} {q:Sds} {cs:List Crd} {t:Int} {p:Nat} (hN:2097152<N) (hl:cs.length≤400) (hp:p≤cs.length) (lo:∀ i,i<p→(crd cs i).no<t) (hi:∀ i,p≤i→i<cs.length→t≤(crd cs i).no) (ht:0≤t∧t≤1000000) (hn:∀ i,i<cs.length→0≤(crd cs i).no∧(crd cs i).no≤1000000) :
    Bw N [.rows (CK q cs),.int t]=some [.int (p:Nat),.bool (cond (iLt (p:Int) (cs.length:Int)) ((crd cs p).no==t) false)]:=by
  show Bx (std (Av N) N) (xOf _)=_;have lc:=I4 q cs;have w:∀i,i<cs.length→IntKind.i64.wrap ((crd cs i).no-t)=(crd cs i).no-t:=fun i h=>by have:=hn i h;exact A6 (by omega) (by omega)
  have c55:∀i,i<cs.length→Av N 55 [] ([PV.int (crd cs i).no,.str q.n,.rows q.A,.int q.a,.int q.b,.str q.m,.rows q.B,.int q.d,.int q.e,.rows (crd cs i).S,.rows (AY (crd cs i).U),.rows (AY (crd cs i).V),.int t])=some [.int ((crd cs i).no-t)]:=fun i h=>by
    rw[Fu,XB,w i h]
  have row:∀i,i<cs.length→∀c,AD (CK q cs) i c=AA (crR q (crd cs i)) c:=fun i h c=>by unfold AD;rw[W3 q h]
  simp only [Bx,lq9,std,xOf,PXb];have loop:∀ (F:(List AQ→Option (List PV))→List PV→Option (List PV)),
      (∀(i j:Nat) self,i<j→j≤cs.length→F self [.int (i:Nat),.int (j:Nat)]=cond (iLt ((crd cs ((i+j) / 2)).no-t) 0) (self [.int (((i+j) / 2+1:Nat):Int),.int (j:Nat)]) (self [.int (i:Nat),.int (((i+j) / 2:Nat):Int)])) →
      (∀(i:Nat) self,F self [.int (i:Nat),.int (i:Nat)]=some [.int (i:Nat)]) →
      ∀(k i j n:Nat),j-i≤k→k<n→i≤p→p≤j→j≤cs.length→C1 F n [.int (i:Nat),.int (j:Nat)]=some [.int (p:Nat)]:=by
    intro F h1 h2 k
    induction k with
    |zero =>
      intro i j n hk hn2 a1 a2 a3;obtain⟨n,rfl⟩:∃m,n=m+1:=⟨n-1,by omega⟩;obtain rfl:i=j:=by omega
      obtain rfl:i=p:=by omega
      exact h2 _ _
    |succ k ih =>
      intro i j n hk hn2 a1 a2 a3;obtain⟨n,rfl⟩:∃m,n=m+1:=⟨n-1,by omega⟩
      by_cases e:i=j
      · subst e;obtain rfl:i=p:=by omega
        exact h2 _ _
      show F _ _=_;rw[h1 i j _ (by omega) a3];have hm:(i+j) / 2<j:=by omega
      have hm2:i≤(i+j) / 2:=by omega
      by_cases hc:(i+j) / 2<p
      · have:=lo _ hc;have c:iLt ((crd cs ((i+j) / 2)).no-t) 0=true:=by simp[iLt];omega
        rw[c,cond_true];exact ih ((i+j) / 2+1) j n (by omega) (by omega) (by omega) a2 a3
      have:=hi ((i+j) / 2) (by omega) (by omega);have c:iLt ((crd cs ((i+j) / 2)).no-t) 0=false:=by simp[iLt];omega
      rw[c,cond_false];exact ih i ((i+j) / 2) n (by omega) (by omega) a1 (by omega) (by omega)
  rw[lc];refine AN (loop _ ?_ ?_ cs.length 0 cs.length N (by omega) (by omega) (Nat.zero_le _) hp (Nat.le_refl _)) ?_
  · intro i j self hij hj;have l1:iLt (i:Int) (j:Int)=true:=by simp[iLt];omega
    have hm:(i+j) / 2<cs.length:=by omega
    have hf:=ABe (i:=i) (j:=j) (by omega);simp only[PXb,PXc,PXn,AE,l1,hf,lc,AJ hm,Int.toNat_natCast,row _ hm,Nat.reduceAdd];show(Av N 55 [] _).bind _=_;refine(congrArg (fun z=>Option.bind z _) (c55 _ hm)).trans ?_;simp only[PXb,PXc,PXn,AE,Nat.reduceAdd,Ai (show(i+j) / 2≤1099511627776 by omega)]
  · intro i self;have l1:iLt (i:Int) (i:Int)=false:=by simp[iLt]
    simp only[PXb,PXc,PXn,AE,l1]
  simp only[PXb,PXc,PXn,AE,lc];cases hc:iLt (p:Int) (cs.length:Int)
  · rfl
  have hp2:p<cs.length:=by simp[iLt]at hc;omega
  simp only[PXb,PXc,PXn,AE,AJ hp2,Int.toNat_natCast,row _ hp2,Nat.reduceAdd];show Option.bind (Av N 55 [] _) _=_;refine(congrArg (fun z=>Option.bind z _) (c55 _ hp2)).trans ?_;show some [PV.int (p:Nat),PV.bool ((crd cs p).no-t==0)]=_;have:((crd cs p).no-t==0)=((crd cs p).no==t):=by
    rw[Bool.eq_iff_iff,beq_iff_eq,beq_iff_eq];omega
  rw[this]
theorem PF {N:Nat} {X:Rows} {r:List PV} (hX:X.length≤400):CJ N [.rows X,.int (X.length:Nat),.rows [r]]=some [.rows (X++[r])]:=by
 show Dk (std (DL N) N) (xOf _)=_;have s1:iSm (((X++[r]).length:Nat):Int) 192=true:=C4 (by rw[List.length_append];show X.length+1≤4194304;omega) (by omega);have s2:iRg (X.length:Int) (X.length:Int) (X.length:Int)=true:=by simp[iRg]
 simp only[Dk,lq9,std,xOf,PXb];simp only[PXb,PXc,PXn,AE,s1,s2,beq_self_eq_true,Nat.reduceAdd];rfl
def wQ (L:Rows):Rows:=L.take 50
theorem nv {N:Nat} {L:Rows}:Gp N [.rows L]=some [.rows (wQ L)]:=by
 show JO (std (HD N) N) (xOf _)=_;simp only[JO,lq9,std,xOf,PXb];unfold wQ;cases h:iLt 50 (L.length:Int)
 ·have h2:L.length≤50:=by simp[iLt]at h;omega
  have:iRg 0 (L.length:Int) (L.length:Int)=true:=by simp[iRg]
  simp only[PXb,PXc,PXn,AE,this,Int.toNat_natCast];show some [PV.rows (List.drop 0 (L.take L.length))]=_;rw[List.take_length,List.take_of_length_le h2];rfl
 have:iRg 0 50 (L.length:Int)=true:=by simp[iLt]at h;simp[iRg];omega
 simp only[PXb,PXc,PXn,AE,this];rfl
theorem dy {N:Nat} {a0 a1 a2 a3 a4 a5 a6 b0 b1 b2 b3 b4 b5 b6:Int}:∃w,GB N [.int a0,.int a1,.int a2,.int a3,.int a4,.int a5,.int a6,.int b0,.int b1,.int b2,.int b3,.int b4,.int b5,.int b6]=some w∧∃v,w=[.bool v]:=⟨_,rfl,_,rfl⟩
end Go.Px
end
