/- Part 14. -/
import Derived.Test.YtefmhiojnbekpaaGreatDoorPart13
import Derived.Shelf.Strconv.Itoa3
import Derived.Test.YtefmhiojnbekpaaGreatDoorProg
set_option linter.unusedVariables false
set_option linter.unusedSimpArgs false
section
namespace Go.Px
set_option maxRecDepth 100000
def Ap (f:List PV→Int):Rows→Int
 | []=>0
 | x::D=>f x+Ap f D
theorem YQ (f:List PV→Int):∀ A B,Ap f (A++B)=Ap f A+Ap f B
 | [],B=>by rw [List.nil_append];show _=0+Ap f B;omega
 | x::A,B=>by
  have:=YQ f A B
  show f x+Ap f (A++B)=f x+Ap f A+Ap f B
  omega
theorem JH (f:List PV→Int) {D:Rows} {i:Nat} (h:i<D.length):Ap f (D.take (i+1))=Ap f (D.take i)+f (AB D i):=by
 rw [eo h,YQ]
 show _+(f (AB D i)+0)=_
 omega
theorem fc {f:List PV→Int} {c:Int}:∀ (D:Rows),(∀ x,x∈D→0≤f x∧f x≤c)→0≤Ap f D∧Ap f D≤c * (D.length:Int)
 | [],_=>by
  show (0:Int)≤0∧(0:Int)≤c * ((0:Nat):Int)
  omega
 | x::D,h=>by
  have ih:=fc D (fun y hy=>h y (List.mem_cons_of_mem _ hy))
  have h1:=h x List.mem_cons_self
  have e:c * (((x::D).length:Nat):Int)=c * (D.length:Int)+c:=by rw [List.length_cons,show ((D.length+1:Nat):Int)=(D.length:Int)+1 by omega,Int.mul_add,Int.mul_one]
  rw [e]
  show 0≤f x+Ap f D∧f x+Ap f D≤_
  omega
theorem jb {f g:List PV→Int}:∀ (D:Rows),(∀ x,x∈D→f x≤g x)→Ap f D≤Ap g D
 | [],_=>Int.le_refl _
 | x::D,h=>by
  have ih:=jb D (fun y hy=>h y (List.mem_cons_of_mem _ hy))
  have h1:=h x List.mem_cons_self
  show f x+Ap f D≤g x+Ap g D
  omega
theorem gF {f g h:List PV→Int} {a b:Int}:∀ (D:Rows),(∀ x,x∈D→f x * a+g x * b=h x)→Ap f D * a+Ap g D * b=Ap h D
 | [],_=>by show (0:Int) * a+0 * b=0;rw [Int.zero_mul,Int.zero_mul];rfl
 | x::D,e=>by
  have ih:=gF D (fun y hy=>e y (List.mem_cons_of_mem _ hy))
  have h1:=e x List.mem_cons_self
  show (f x+Ap f D) * a+(g x+Ap g D) * b=h x+Ap h D
  rw [Int.add_mul,Int.add_mul]
  omega
def bwX (x:List PV):Int:=pvI (AA x 4)
def Jz (x:List PV):Int:=cond (pvB (AA x 26)) 1 0
def JA (x:List PV):Int:=pvI (AA x 25)
def RD (x:List PV):Int:=cond (pvB (AA x 28)) 1 0
def wdX (x:List PV):Int:=cond (pvI (AA x 8)==2) 1 0
def nbX (x:List PV):Int:=cond (pvI (AA x 8)==2) 0 (cond (pvI (AA x 8)==3) 1 0)
def Bp (b:Int) (f:List PV→Int) (x:List PV):Int:=cond (bwX x==b) (f x) 0
theorem c01 (b:Bool):(0:Int)≤cond b 1 0∧(cond b 1 0:Int)≤36:=by cases b<;>decide
theorem qu (x:List PV):0≤nbX x∧nbX x≤36:=by
 unfold nbX
 cases pvI (AA x 8)==2
 ·exact c01 _
 ·exact ⟨Int.le_refl 0,(by decide:(0:Int)≤36)⟩
theorem gy {f:List PV→Int} {c b:Int} (hc:0≤c) {x:List PV} (h:0≤f x∧f x≤c):0≤Bp b f x∧Bp b f x≤c:=by
 unfold Bp
 cases bwX x==b
 ·exact ⟨Int.le_refl _,hc⟩
 ·exact h
theorem gt {md : Nat → Bool} {X : Rows} (hX : X.length ≤ 4000) (hb : ∀ x, x ∈ X → 0 ≤ JA x ∧ JA x ≤ 36) (b : Int) : ∀ i, i ≤ X.length →
    CK md X b 0 i=⟨b,Ap (Bp b Jz) (X.take i),mdP md X b i,Ap (Bp b JA) (X.take i),Ap (Bp b RD) (X.take i),Ap (Bp b wdX) (X.take i),Ap (Bp b nbX) (X.take i)⟩∧0≤mdP md X b i∧mdP md X b i≤(i:Int)
  | 0,_=>⟨rfl,Int.le_refl _,Int.le_refl _⟩
  | i+1,hi=>by
    obtain ⟨h1,h2,h3⟩:=gt hX hb b i (by omega)
    have hl:i<X.length:=by omega
    have tl:(X.take i).length=i:=by rw [List.length_take];omega
    have bd:∀ f:List PV→Int,(∀ x,x∈X→0≤f x∧f x≤36)→0≤Ap (Bp b f) (X.take i)∧Ap (Bp b f) (X.take i)≤144000:=fun f hf=>by
      have:=fc (f:=Bp b f) (c:=36) (X.take i) (fun x hx=>gy (by omega) (hf x (List.mem_of_mem_take hx)))
      omega
    have b1:=bd Jz (fun x _=>c01 _)
    have b2:=bd JA hb
    have b3:=bd RD (fun x _=>c01 _)
    have b4:=bd wdX (fun x _=>c01 _)
    have b5:=bd nbX (fun x _=>qu x)
    have hx:=hb _ (OH hl)
    have e1:CK md X b 0 (i+1)=cond (bwX (AB X i)==b) (blX (AB X i) (md i) (CK md X b 0 i)) (CK md X b 0 i):=rfl
    have e2:mdP md X b (i+1)=cond (bwX (AB X i)==b&&md i) (wr6 (mdP md X b i+1)) (mdP md X b i):=rfl
    rw [e1,e2,JH _ hl,JH _ hl,JH _ hl,JH _ hl,JH _ hl,h1]
    generalize Ap (Bp b Jz) (X.take i)=s1 at *
    generalize Ap (Bp b JA) (X.take i)=s2 at *
    generalize Ap (Bp b RD) (X.take i)=s3 at *
    generalize Ap (Bp b wdX) (X.take i)=s4 at *
    generalize Ap (Bp b nbX) (X.take i)=s5 at *
    generalize mdP md X b i=m at *
    generalize AB X i=x at *
    have w:∀ n:Int,0≤n→n≤1000000→wr6 n=n:=fun n h1 h2=>BA (by omega) (by omega)
    have w1:=w (s1+1) (by omega) (by omega)
    have w2:=w (s2+pvI (AA x 25)) (by unfold JA at hx;omega) (by unfold JA at hx;omega)
    have w3:=w (s3+1) (by omega) (by omega)
    have w4:=w (s4+1) (by omega) (by omega)
    have w5:=w (s5+1) (by omega) (by omega)
    have w6:=w (m+1) (by omega) (by omega)
    unfold Bp blX
    simp only [w1,w2,w3,w4,w5,w6]
    cases bwX x==b with
    | false=>exact ⟨by simp only [cond_false,Int.add_zero,Bool.false_and],by simp only [Bool.false_and,cond_false];omega,by simp only [Bool.false_and,cond_false];omega⟩
    | true =>
      unfold Jz JA RD wdX nbX
      refine ⟨?_,?_,?_⟩
      · cases md i<;>cases pvB (AA x 26)<;>cases pvB (AA x 28)<;>cases pvI (AA x 8)==2<;>cases pvI (AA x 8)==3<;>simp only [cond_true,cond_false,Int.add_zero,Bool.true_and]
      · cases md i<;>simp only [cond_true,cond_false,Bool.true_and]<;>omega
      · cases md i<;>simp only [cond_true,cond_false,Bool.true_and]<;>omega
def IC (g:Int→Int):List Int→Int
 | []=>0
 | b::B=>g b+IC g B
theorem dh:∀ B,IC (fun _=>0) B=0
 | []=>rfl
 | b::B=>by
  have:=dh B
  show 0+IC (fun _=>0) B=0
  omega
theorem fA (g h:Int→Int):∀ B,IC (fun b=>g b+h b) B=IC g B+IC h B
 | []=>rfl
 | b::B=>by
  have:=fA g h B
  show g b+h b+IC (fun b=>g b+h b) B=g b+IC g B+(h b+IC h B)
  omega
theorem di {c v:Int}:∀ {B:List Int},c∉B→IC (fun b=>cond (c==b) v 0) B=0
 | [],_=>rfl
 | b::B,h=>by
  have ih:=di (c:=c) (v:=v) (B:=B) (fun hm=>h (List.mem_cons_of_mem _ hm))
  show cond (c==b) v 0+IC (fun b=>cond (c==b) v 0) B=0
  rw [ih,beq_eq_false_iff_ne.2 (fun e=>h (by rw [e];exact List.mem_cons_self))]
  rfl
theorem fe {c v:Int}:∀ {B:List Int},B.Nodup→c∈B→IC (fun b=>cond (c==b) v 0) B=v
 | [],_,h=>absurd h List.not_mem_nil
 | b::B,hn,h=>by
  obtain ⟨n1,n2⟩:=List.nodup_cons.1 hn
  show cond (c==b) v 0+IC (fun b=>cond (c==b) v 0) B=v
  by_cases e:c=b
  ·subst e
   rw [di n1,beq_self_eq_true]
   show v+0=v
   omega
  ·have hc:c∈B:=(List.mem_cons.1 h).resolve_left e
   rw [fe n2 hc,beq_eq_false_iff_ne.2 e]
   show 0+v=v
   omega
theorem mH {B:List Int} (hn:B.Nodup) (f:List PV→Int):∀ (D:Rows),(∀ x,x∈D→bwX x∈B)→IC (fun b=>Ap (Bp b f) D) B=Ap f D
 | [],_=>dh B
 | x::D,h=>by
  have ih:=mH hn f D (fun y hy=>h y (List.mem_cons_of_mem _ hy))
  have h1:=h x List.mem_cons_self
  show IC (fun b=>Bp b f x+Ap (Bp b f) D) B=f x+Ap f D
  rw [fA,ih]
  refine congrArg (·+_) ?_
  exact fe hn h1
theorem qC (X:Rows) {b:Int}:∀ {i j:Nat},i≤j→b∈boN X i→b∈boN X j:=by
 intro i j h
 induction j with
 | zero =>
  intro hb
  obtain rfl:i=0:=by omega
  exact hb
 | succ j ih =>
  intro hb
  rcases Nat.lt_or_ge i (j+1) with hl | hl
  ·have:=ih (by omega) hb
   show b∈cond _ (boN X j) (boN X j++[_])
   cases (boN X j).any (·==pvI (AA (AB X j) 4))
   ·exact List.mem_append_left _ this
   ·exact this
  ·obtain rfl:i=j+1:=by omega
   exact hb
theorem rf (X:Rows) {i:Nat} (hi:i<X.length):bwX (AB X i)∈boN X X.length:=by
 refine qC X (show i+1≤X.length by omega) ?_
 show _∈cond ((boN X i).any (·==pvI (AA (AB X i) 4))) (boN X i) (boN X i++[_])
 cases ha:(boN X i).any (·==pvI (AA (AB X i) 4)) with
 | true =>
  obtain ⟨y,hy,hye⟩:=List.any_eq_true.1 ha
  have:=beq_iff_eq.1 hye
  show pvI (AA (AB X i) 4)∈boN X i
  rw [← this];exact hy
 | false=>exact List.mem_append_right _ (List.mem_singleton.2 rfl)
theorem rX (X:Rows):∀ x,x∈X→bwX x∈boN X X.length:=fun x hx=>by
 obtain ⟨j,hj,e⟩:=List.getElem_of_mem hx
 have:=rf X hj
 unfold AB at this
 rwa [List.getD_eq_getElem?_getD,List.getElem?_eq_getElem hj,Option.getD_some,e] at this
theorem bN (X:Rows) {b:Int}:∀ {i:Nat},i≤X.length→b∈boN X i→∃ x,x∈X∧bwX x=b
 | 0,_,h=>absurd h List.not_mem_nil
 | i+1,hi,h=>by
  change b∈cond ((boN X i).any (·==pvI (AA (AB X i) 4))) (boN X i) (boN X i++[_]) at h
  cases ha:(boN X i).any (·==pvI (AA (AB X i) 4)) with
  | true=>rw [ha] at h;exact bN X (by omega) h
  | false =>
   rw [ha] at h
   rcases List.mem_append.1 h with h | h
   ·exact bN X (by omega) h
   ·exact ⟨AB X i,OH (by omega),(List.mem_singleton.1 h).symm⟩
def OvF (bal:Int) (X:Rows):Prop:=∀ i,i<X.length→pvI (AA (AB X i) 2) * bal≤Ap Jz (X.take i)∧Ap Jz (X.take i)<pvI (AA (AB X i) 2) * bal+bal
theorem nf {f:List PV→Int} (hf:∀ x,0≤f x) (X:Rows) {i:Nat}:∀ {j:Nat},i≤j→j≤X.length→Ap f (X.take i)≤Ap f (X.take j):=by
 intro j h
 induction j with
 | zero =>
  intro _
  obtain rfl:i=0:=by omega
  exact Int.le_refl _
 | succ j ih =>
  intro hj
  rcases Nat.lt_or_ge i (j+1) with hl | hl
  ·have:=ih (by omega) (by omega)
   rw [JH _ (show j<X.length by omega)]
   have:=hf (AB X j)
   omega
  ·obtain rfl:i=j+1:=by omega
   exact Int.le_refl _
theorem bQ {bal:Int} (hb:0<bal) {X:Rows} (h:OvF bal X) {i j:Nat} (hi:i≤j) (hj:j<X.length):pvI (AA (AB X i) 2)≤pvI (AA (AB X j) 2):=by
 have h1:=(h i (by omega)).1
 have h2:=(h j hj).2
 have h3:=nf (f:=Jz) (fun x=>(c01 _).1) X hi (by omega)
 refine Int.not_lt.1 (fun hl=>?_)
 have h4:(pvI (AA (AB X j) 2)+1) * bal≤pvI (AA (AB X i) 2) * bal:=Int.mul_le_mul_of_nonneg_right (by omega) (by omega)
 rw [Int.add_mul,Int.one_mul] at h4
 omega
theorem qp (X:Rows) (o:Int):∀ i,i≤4000→0≤Bv X o i∧Bv X o i≤(i:Int)∧Bv X o (i+1)=Bv X o i+cond ((pvI (AA (AB X i) 2)==o)&&pvB (AA (AB X i) 26)) 1 0
 | i,hi=>by
  have b:∀ j,j≤i→0≤Bv X o j∧Bv X o j≤(j:Int):=by
   intro j
   induction j with
   | zero=>intro _;exact ⟨Int.le_refl _,Int.le_refl _⟩
   | succ j ih =>
    intro hj
    have:=ih (by omega)
    show 0≤cond _ (wr6 (Bv X o j+1)) (Bv X o j)∧cond _ (wr6 (Bv X o j+1)) (Bv X o j)≤_
    rw [show wr6 (Bv X o j+1)=Bv X o j+1 from BA (by omega) (by omega)]
    cases (pvI (AA (AB X j) 2)==o)&&pvB (AA (AB X j) 26)
    ·show 0≤Bv X o j∧Bv X o j≤_;omega
    ·show 0≤Bv X o j+1∧Bv X o j+1≤_;omega
  have bi:=b i (Nat.le_refl _)
  refine ⟨bi.1,bi.2,?_⟩
  show cond _ (wr6 (Bv X o i+1)) (Bv X o i)=_
  rw [show wr6 (Bv X o i+1)=Bv X o i+1 from BA (by omega) (by omega)]
  cases (pvI (AA (AB X i) 2)==o)&&pvB (AA (AB X i) 26)
  ·show Bv X o i=Bv X o i+0;omega
  ·rfl
theorem ez {X:Rows} {o:Int} {i:Nat}:∀ {j:Nat},i≤j→j≤4000→(∀ k,i≤k→k<j→(pvI (AA (AB X k) 2)==o)=false)→Bv X o j=Bv X o i:=by
 intro j h
 induction j with
 | zero =>
  intro _ _
  obtain rfl:i=0:=by omega
  rfl
 | succ j ih =>
  intro hj hk
  rcases Nat.lt_or_ge i (j+1) with hl | hl
  ·rw [(qp X o j (by omega)).2.2,hk j (by omega) (by omega),ih (by omega) (by omega) (fun k h1 h2=>hk k h1 (by omega))]
   show Bv X o i+0=_
   omega
  ·obtain rfl:i=j+1:=by omega
   rfl
def bX (bal:Int) (X:Rows) (b:Int):Nat→Int
 | 0=>0
 | i+1=>cond (mdS bal X (pvI (AA (AB X i) 2)) b) (bal - Bv X (pvI (AA (AB X i) 2)) (i+1)) 0
theorem lg {bal:Int} (hb:0<bal) {X:Rows} (hX:X.length≤4000) (ov:OvF bal X) (b:Int):∀ i,i≤X.length→mdP (mdA bal X) X b i * bal≤Ap (Bp b Jz) (X.take i)+bX bal X b i∧0≤mdP (mdA bal X) X b i∧mdP (mdA bal X) X b i≤(i:Int)
 | 0,_=>⟨by show (0:Int) * bal≤0+0;rw [Int.zero_mul];exact Int.le_refl _,Int.le_refl _,Int.le_refl _⟩
 | i+1,hi=>by
  obtain ⟨h1,h2,h3⟩:=lg hb hX ov b i (by omega)
  have hl:i<X.length:=by omega
  have e2:mdP (mdA bal X) X b (i+1)=cond (bwX (AB X i)==b&&(UO X i&&mdS bal X (pvI (AA (AB X i) 2)) (bwX (AB X i)))) (wr6 (mdP (mdA bal X) X b i+1)) (mdP (mdA bal X) X b i):=rfl
  have e3:bX bal X b (i+1)=cond (mdS bal X (pvI (AA (AB X i) 2)) b) (bal - Bv X (pvI (AA (AB X i) 2)) (i+1)) 0:=rfl
  have w:wr6 (mdP (mdA bal X) X b i+1)=mdP (mdA bal X) X b i+1:=BA (by omega) (by omega)
  have c1:=qp X (pvI (AA (AB X i) 2)) i (by omega)
  have sel0:0≤Bp b Jz (AB X i):=(gy (c:=36) (by omega) (c01 _)).1
  rw [e2,e3,w,JH _ hl,c1.2.2,beq_self_eq_true,Bool.true_and]
  have hnew:UO X i=true→bX bal X b i=0∧Bv X (pvI (AA (AB X i) 2)) i=0:=fun hn=>by
   cases i with
   | zero=>exact ⟨rfl,rfl⟩
   | succ j =>
    have hne:(pvI (AA (AB X j) 2)==pvI (AA (AB X (j+1)) 2))=false:=by
     have:(Nat.beq (j+1) 0 || !(pvI (AA (AB X j) 2)==pvI (AA (AB X (j+1)) 2)))=true:=hn
     rw [show Nat.beq (j+1) 0=false from rfl,Bool.false_or,Bool.not_eq_true'] at this
     exact this
    have lt:pvI (AA (AB X j) 2)<pvI (AA (AB X (j+1)) 2):=by
     have:=bQ hb ov (show j≤j+1 by omega) hl
     have:=beq_eq_false_iff_ne.1 hne
     omega
    refine ⟨?_,?_⟩
    ·show cond (mdS bal X (pvI (AA (AB X j) 2)) b) (bal - Bv X (pvI (AA (AB X j) 2)) (j+1)) 0=0
     cases hm:mdS bal X (pvI (AA (AB X j) 2)) b with
     | false=>rfl
     | true =>
      have hc:=beq_iff_eq.1 (cZ.1 hm).2
      have:=ez (X:=X) (o:=pvI (AA (AB X j) 2)) (i:=j+1) (j:=X.length) (by omega) hX (fun k hk1 hk2=>beq_eq_false_iff_ne.2 (by have:=bQ hb ov hk1 hk2;omega))
      rw [this] at hc
      show bal - _=0
      omega
    ·refine (ez (X:=X) (o:=pvI (AA (AB X (j+1)) 2)) (i:=0) (j:=j+1) (by omega) (by omega) (fun k _ hk2=>beq_eq_false_iff_ne.2 ?_)).trans rfl
     have:=bQ hb ov (show k≤j by omega) (by omega)
     omega
  have hold:UO X i=false→bX bal X b i=cond (mdS bal X (pvI (AA (AB X i) 2)) b) (bal - Bv X (pvI (AA (AB X i) 2)) i) 0:=fun hn=>by
   cases i with
   | zero=>cases hn
   | succ j =>
    have hne:(pvI (AA (AB X j) 2)==pvI (AA (AB X (j+1)) 2))=true:=by
     have:(Nat.beq (j+1) 0 || !(pvI (AA (AB X j) 2)==pvI (AA (AB X (j+1)) 2)))=false:=hn
     rw [show Nat.beq (j+1) 0=false from rfl,Bool.false_or,Bool.not_eq_false'] at this
     exact this
    show cond (mdS bal X (pvI (AA (AB X j) 2)) b) (bal - Bv X (pvI (AA (AB X j) 2)) (j+1)) 0=_
    rw [beq_iff_eq.1 hne]
  have hbw:mdS bal X (pvI (AA (AB X i) 2)) b=true→(bwX (AB X i)==b)=true:=fun hm=>((cZ.1 hm).1 i hl (beq_self_eq_true _)).1
  have mb:∀ m:Int,(m+1) * bal=m * bal+bal:=fun m=>by rw [Int.add_mul,Int.one_mul]
  cases hm:mdS bal X (pvI (AA (AB X i) 2)) b with
  | true =>
   have hb1:=hbw hm
   have hsel:Bp b Jz (AB X i)=cond (pvB (AA (AB X i) 26)) 1 0:=by unfold Bp;rw [hb1];rfl
   rw [hb1,beq_iff_eq.1 hb1,hm,hsel,Bool.true_and,Bool.and_true]
   cases hn:UO X i with
   | true =>
    obtain ⟨r1,r2⟩:=hnew hn
    rw [r2]
    simp only [cond_true,mb]
    refine ⟨?_,by omega,by omega⟩
    cases pvB (AA (AB X i) 26)
    ·show _≤_+0+(bal - (0+0));omega
    ·show _≤_+1+(bal - (0+1));omega
   | false =>
    have r1:=hold hn
    rw [hm,cond_true] at r1
    simp only [cond_true,cond_false]
    refine ⟨?_,by omega,by omega⟩
    cases pvB (AA (AB X i) 26)
    ·show _≤_+0+(bal - (_+0));omega
    ·show _≤_+1+(bal - (_+1));omega
  | false =>
   have hno:(bwX (AB X i)==b&&(UO X i&&mdS bal X (pvI (AA (AB X i) 2)) (bwX (AB X i))))=false:=by
    cases hb1:bwX (AB X i)==b with
    | false=>rfl
    | true=>rw [beq_iff_eq.1 hb1,hm,Bool.and_false,Bool.and_false]
   rw [hno]
   simp only [cond_false]
   refine ⟨?_,by omega,by omega⟩
   have hr:bX bal X b i=0:=by
    cases hn:UO X i with
    | true=>exact (hnew hn).1
    | false=>rw [hold hn,hm];rfl
   omega
theorem rZ {bal:Int} (hb:0<bal) {X:Rows} (hX:X.length≤4000) (ov:OvF bal X) (b:Int):mdP (mdA bal X) X b X.length * bal≤Ap (Bp b Jz) X∧0≤mdP (mdA bal X) X b X.length:=by
 obtain ⟨h1,h2,h3⟩:=lg hb hX ov b X.length (Nat.le_refl _)
 rw [List.take_length] at h1
 have hr:bX bal X b X.length=0:=by
  generalize hn:X.length=n at *
  cases n with
  | zero=>rfl
  | succ j =>
   show cond (mdS bal X (pvI (AA (AB X j) 2)) b) (bal - Bv X (pvI (AA (AB X j) 2)) (j+1)) 0=0
   cases hm:mdS bal X (pvI (AA (AB X j) 2)) b with
   | false=>rfl
   | true =>
    have hc:=beq_iff_eq.1 (cZ.1 hm).2
    rw [hn] at hc
    show bal - _=0
    omega
 exact ⟨by omega,h2⟩
end Go.Px
end
section
namespace Go.Px
set_option maxRecDepth 100000
theorem cy {r : Rul} (rk : RulOk r) {d : Del} (hl : (DM d == 0) = true) : (cond (d.type == 2) 1 0 : Int) * r.wide + (cond (d.type == 2) 0 (cond (d.type == 3) 1 0) : Int) * r.noball ≤ (AD r d).bowler ∧
    (cond (d.type==2) 0 (cond (d.type==3) 1 0):Int) * r.noball=(AD r d).noballs:=by
  have ok:=hO rk d
  have bo:=ok.bo
  have ba:=ok.ba
  have wi:=ok.wi
  have no:=ok.no
  have e:AD r d=Kg r d:=by unfold AD;rw [hl];rfl
  rw [e] at bo ba wi no ⊢
  have w:(Kg r d).wides=cond (d.type==2) (IntKind.i64.wrap (r.wide+IntKind.i64.wrap (IntKind.i64.wrap (d.runs - d.short)+d.boundary))) 0:=rfl
  have o:(Kg r d).noballs=cond (d.type==3) r.noball 0:=rfl
  have n0:0≤IntKind.i64.wrap (IntKind.i64.wrap (d.runs - d.short)+d.boundary)∧IntKind.i64.wrap (IntKind.i64.wrap (d.runs - d.short)+d.boundary)≤13:=by
    unfold DM at hl
    cases h1:(iLt d.type 1||iLt 3 d.type||iLt 3 d.source||iLt 10 d.how || !btw d.sector 0 8) with
    | true=>rw [h1] at hl;cases hl
    | false =>
      cases h2:(!btw d.runs 0 7 || !btw d.short 0 d.runs||(!(d.boundary==0) && !(d.boundary==4) && !(d.boundary==6))) with
      | true=>rw [h1,h2] at hl;cases hl
      | false =>
        rw [Bool.or_eq_false_iff,Bool.or_eq_false_iff] at h2
        obtain ⟨⟨a1,a2⟩,a3⟩:=h2
        simp only [btw,iLe,Bool.not_eq_false',Bool.and_eq_true,decide_eq_true_eq] at a1 a2
        have a4:d.boundary=0∨d.boundary=4∨d.boundary=6:=by
          cases b0:d.boundary==0 with
          | true=>exact .inl (beq_iff_eq.1 b0)
          | false =>
            cases b4:d.boundary==4 with
            | true=>exact .inr (.inl (beq_iff_eq.1 b4))
            | false =>
              cases b6:d.boundary==6 with
              | true=>exact .inr (.inr (beq_iff_eq.1 b6))
              | false=>rw [b0,b4,b6] at a3;cases a3
        rw [show IntKind.i64.wrap (d.runs - d.short)=d.runs - d.short from BA (by omega) (by omega),BA (by omega) (by omega)]
        omega
  have rw:=rk.wide
  rw [show IntKind.i64.wrap (r.wide+IntKind.i64.wrap (IntKind.i64.wrap (d.runs - d.short)+d.boundary))=r.wide+IntKind.i64.wrap (IntKind.i64.wrap (d.runs - d.short)+d.boundary) from BA (by omega) (by omega)] at w
  rw [w] at wi
  rw [o] at no
  rw [bo,o,w]
  cases h2:d.type==2 with
  | true =>
    have h3:(d.type==3)=false:=by rw [beq_iff_eq.1 h2];rfl
    rw [h3]
    simp only [h2,h3,cond_true,cond_false,Int.one_mul,Int.zero_mul] at wi no ⊢
    refine ⟨?_,?_⟩<;>first | omega | trivial | rfl
  | false =>
    cases h3:d.type==3<;>simp only [h2,h3,cond_true,cond_false,Int.one_mul,Int.zero_mul] at wi no ⊢<;>refine ⟨?_,?_⟩<;>first | omega | trivial | rfl
theorem rc {r:Rul} {L:Rows} (hc:BZ r L=0) {a:Nat} (ha:a<L.length) (hk:((evR L a).kind==4)=true):(AW (stM L a 0 (AN r).1)).complete * r.balls+(AW (stM L a 0 (AN r).1)).inover=smi L (L9 r) (opn L a - 1) a:=by
 have bf:=V2 hc ha hk
 obtain ⟨h1,h2,h3,h4,h5⟩:=JQ hc
 obtain ⟨li,so,_⟩:=Lc h1 h4 a (by omega)
 have sl:=so.len
 have ll:=li.len
 have one:=bf.one
 have lx:=bf.lnx
 have rl:=so.rules
 have cl:=eu h1 h4 a (by omega)
 have at1:=cl.at' (opn L a - 1) (by omega)
 have kx:sco (EP (stM L a 0 (AN r).1)).xs (opn L a - 1)=Bd r.balls (AW (stM L a 0 (AN r).1)):=by
  unfold EP AW
  rw [rl,lx]
  exact NK _ _ (by omega)
 rw [kx] at at1
 have bl:CX r.balls (AW (stM L a 0 (AN r).1)).complete (AW (stM L a 0 (AN r).1)).inover=smi L (L9 r) (opn L a - 1) a:=congrArg Sco.balls at1
 have be:=(Yn bf.ok).1
 rw [← bl,be,Int.mul_comm]
structure RowH (r:Rul) (x:List PV):Prop where
 bw:1≤bwX x∧bwX x≤r.side
 part:wdX x * r.wide+nbX x * r.noball≤JA x
theorem sM {r:Rul} {L:Rows} (hc:BZ r L=0) {a:Nat} (ha:a<L.length) (hk:((evR L a).kind==4)=true) (t:Mat):RowH r (C7 (a:Int) (stM L a 0 (AN r).1) t (evR L a).ball):=by
 have bf:=V2 hc ha hk
 have rl:=bf.rules
 obtain ⟨q1,q2,q3,q4,q5,q6⟩:=Ot bf.ref
 have bo:=bf.ok.bow
 rw [beq_eq_false_iff_ne] at q2
 refine ⟨?_,?_⟩
 ·show 1≤(AW (stM L a 0 (AN r).1)).bowler∧(AW (stM L a 0 (AN r).1)).bowler≤r.side
  omega
 ·have:=(cy (Zu hc).2 q4).1
  show _≤(AD (stM L a 0 (AN r).1).rules _).bowler
  rw [rl]
  exact this
structure BalH (r:Rul) (L:Rows) (k n:Nat):Prop where
 cnt:Ap Jz (Bx r L k n)=smi L (L9 r) k n
 bow:Ap JA (Bx r L k n)=smi L (fun e=>(Ah r e).bowler) k n
 nob:Ap nbX (Bx r L k n) * r.noball=smi L (fun e=>(Ah r e).noballs) k n
 wkt:Ap RD (Bx r L k n)≤smi L HX k n
 row:∀ x,x∈Bx r L k n→RowH r x
 ov:OvF r.balls (Bx r L k n)
theorem o5 {r:Rul} {L:Rows} (hc:BZ r L=0) (k:Nat):∀ n,n≤L.length→BalH r L k n
 | 0,_=>⟨rfl,rfl,Int.zero_mul _,Int.le_refl _,fun x hx=>absurd hx List.not_mem_nil,fun i hi=>absurd hi (Nat.not_lt_zero i)⟩
 | n+1,hn=>by
  obtain ⟨i1,i2,i3,i4,i5,i6⟩:=o5 hc k n (by omega)
  have e:Bx r L k (n+1)=cond ((evR L n).kind==4&&Nat.beq (opn L (n+1)) (k+1)) (Bx r L k n++[C7 (n:Int) (stM L n 0 (AN r).1) (stM L (n+1) 0 (AN r).1) (evR L n).ball]) (Bx r L k n):=rfl
  have cc:∀ b:Bool,cond b (0:Int) 0=0:=fun b=>by cases b<;>rfl
  cases hk:(evR L n).kind==4 with
  | false =>
   rw [hk,Bool.false_and,cond_false] at e
   have od:∀ b:Bool,0≤(cond b (HX (evR L n)) 0:Int):=fun b=>by
    have:=(mr (evR L n)).1
    cases b
    ·exact Int.le_refl _
    ·exact this
   have z1:L9 r (evR L n)=0:=by unfold L9 Ah;rw [hk];rfl
   have z2:(Ah r (evR L n)).bowler=0:=by unfold Ah;rw [hk];rfl
   have z3:(Ah r (evR L n)).noballs=0:=by unfold Ah;rw [hk];rfl
   refine ⟨?_,?_,?_,?_,?_,?_⟩
   ·rw [e,CM,z1,cc,i1];omega
   ·rw [e,CM,z2,cc,i2];omega
   ·rw [e,CM,z3,cc,i3];omega
   ·rw [e,CM]
    have:=od (Nat.beq (opn L (n+1)) (k+1))
    omega
   ·rw [e];exact i5
   ·rw [e];exact i6
  | true =>
   have ha:n<L.length:=by omega
   have bf:=V2 hc ha hk
   have rl:=bf.rules
   cases hq:Nat.beq (opn L (n+1)) (k+1) with
   | false =>
    rw [hk,hq,Bool.true_and,cond_false] at e
    refine ⟨?_,?_,?_,?_,?_,?_⟩
    ·rw [e,CM,hq,i1];exact (Int.add_zero _).symm
    ·rw [e,CM,hq,i2];exact (Int.add_zero _).symm
    ·rw [e,CM,hq,i3];exact (Int.add_zero _).symm
    ·rw [e,CM,hq];show _≤_+0;omega
    ·rw [e];exact i5
    ·rw [e];exact i6
   | true =>
    rw [hk,hq,Bool.true_and,cond_true] at e
    obtain ⟨q1,q2,q3,q4,q5,q6⟩:=Ot bf.ref
    have rp:=cy (Zu hc).2 q4
    have ce:Ah r (evR L n)=AD r (evR L n).ball:=by unfold Ah;rw [hk];rfl
    have on:opn L (n+1)=opn L n:=Y5 (by rw [beq_iff_eq.1 hk];rfl)
    have ok1:opn L n - 1=k:=by have:=Nat.eq_of_beq_eq_true hq;omega
    have bc:=rc hc ha hk
    rw [ok1] at bc
    have io:=bf.ok.io
    have wk:RD (C7 (n:Int) (stM L n 0 (AN r).1) (stM L (n+1) 0 (AN r).1) (evR L n).ball)≤HX (evR L n):=by
     have e1:RD (C7 (n:Int) (stM L n 0 (AN r).1) (stM L (n+1) 0 (AN r).1) (evR L n).ball)=cond (Tp (evR L n).ball.how) 1 0:=by
      show cond ((AD (stM L n 0 (AN r).1).rules (evR L n).ball).wicket) 1 0=_
      have:AD (stM L n 0 (AN r).1).rules (evR L n).ball=Kg (stM L n 0 (AN r).1).rules (evR L n).ball:=by unfold AD;rw [q4];rfl
      rw [this]
      rfl
     rw [e1]
     unfold HX
     rw [hk]
     cases h0:(evR L n).ball.how==0 with
     | true=>rw [beq_iff_eq.1 h0];exact Int.le_refl _
     | false =>
      cases Tp (evR L n).ball.how
      ·exact (by decide:(0:Int)≤1)
      ·exact (by decide:(1:Int)≤1)
    have one:∀ f:List PV→Int,Ap f (Bx r L k n++[C7 (n:Int) (stM L n 0 (AN r).1) (stM L (n+1) 0 (AN r).1) (evR L n).ball])=Ap f (Bx r L k n)+f (C7 (n:Int) (stM L n 0 (AN r).1) (stM L (n+1) 0 (AN r).1) (evR L n).ball):=fun f=>by
     rw [YQ]
     show _+(f _+0)=_
     omega
    refine ⟨?_,?_,?_,?_,?_,?_⟩
    ·rw [e,CM,hq,one,i1]
     show _+cond ((AD (stM L n 0 (AN r).1).rules (evR L n).ball).counts) 1 0=_+L9 r (evR L n)
     rw [rl];unfold L9;rw [ce]
    ·rw [e,CM,hq,one,i2]
     show _+(AD (stM L n 0 (AN r).1).rules (evR L n).ball).bowler=_+(Ah r (evR L n)).bowler
     rw [rl,ce]
    ·rw [e,CM,hq,one,Int.add_mul,i3]
     show _+_=_+(Ah r (evR L n)).noballs
     rw [ce]
     exact congrArg (_+·) rp.2
    ·rw [e,CM,hq,one]
     show _≤_+HX (evR L n)
     omega
    ·rw [e]
     intro x hx
     rcases List.mem_append.1 hx with hx | hx
     ·exact i5 x hx
     ·rw [List.mem_singleton.1 hx];exact sM hc ha hk _
    ·rw [e]
     intro i hi
     rw [List.length_append] at hi
     change i<(Bx r L k n).length+1 at hi
     by_cases hl:i<(Bx r L k n).length
     ·have hr:AB (Bx r L k n++[C7 (n:Int) (stM L n 0 (AN r).1) (stM L (n+1) 0 (AN r).1) (evR L n).ball]) i=AB (Bx r L k n) i:=by
       unfold AB
       rw [List.getD_eq_getElem?_getD,List.getD_eq_getElem?_getD,List.getElem?_append_left hl]
      rw [hr,List.take_append_of_le_length (by omega)]
      exact i6 i hl
     ·obtain rfl:i=(Bx r L k n).length:=by omega
      have hr:AB (Bx r L k n++[C7 (n:Int) (stM L n 0 (AN r).1) (stM L (n+1) 0 (AN r).1) (evR L n).ball]) (Bx r L k n).length=C7 (n:Int) (stM L n 0 (AN r).1) (stM L (n+1) 0 (AN r).1) (evR L n).ball:=by
       unfold AB
       rw [List.getD_eq_getElem?_getD,List.getElem?_append_right (Nat.le_refl _),Nat.sub_self]
       rfl
      rw [hr,List.take_append_of_le_length (Nat.le_refl _),List.take_length,i1,← bc]
      show (AW (stM L n 0 (AN r).1)).complete * r.balls≤_∧_<(AW (stM L n 0 (AN r).1)).complete * r.balls+r.balls
      omega
end Go.Px
end
section
namespace Go.Px
set_option maxRecDepth 100000
def A7 (g:BL→Int):List BL→Int
 | []=>0
 | s::xs=>g s+A7 g xs
theorem Ja (g:BL→Int):∀ {xs:List BL} {j:Nat},j<xs.length→A7 g (xs.take (j+1))=A7 g (xs.take j)+g (bln xs j)
 | [],j,h=>absurd h (Nat.not_lt_zero j)
 | s::xs,0,_=>by
  show g s+0=0+g s
  omega
 | s::xs,j+1,h=>by
  have:=Ja g (xs:=xs) (j:=j) (Nat.lt_of_succ_lt_succ h)
  show g s+A7 g (xs.take (j+1))=g s+A7 g (xs.take j)+g (bln xs j)
  omega
theorem S7 {g:BL→Int} {xs:List BL} (hx:∀ s,s∈xs→0≤g s∧g s≤1000000):∀ j,j≤xs.length→0≤A7 g (xs.take j)∧A7 g (xs.take j)≤1000000 * (j:Int)
 | 0,_=>by
  show (0:Int)≤0∧(0:Int)≤1000000 * ((0:Nat):Int)
  omega
 | j+1,hj=>by
  have ih:=S7 hx j (by omega)
  have h1:=hx (bln xs j) (by rw [RO (by omega)];exact List.getElem_mem _)
  rw [Ja g (by omega)]
  omega
theorem Og (g:BL→Int) (f:Int→BL):∀ B:List Int,A7 g (B.map f)=IC (fun b=>g (f b)) B
 | []=>rfl
 | b::B=>by
  have:=Og g f B
  show g (f b)+A7 g (B.map f)=g (f b)+IC (fun b=>g (f b)) B
  omega
set_option maxHeartbeats 1000000 in
theorem aR {N:Nat} {xs:List BL} (hN:2097152<N) (hl:xs.length≤4000) (hx:∀ s,s∈xs→0≤s.r∧s.r≤1000000):Ii N [.rows (Ai xs)]=some [.int (A7 BL.r xs)]:=by
 show IM (std (Pa N) N) (xOf _)=_
 simp only [IM,std,xOf,PXb]
 have e:A7 BL.r (xs.take xs.length)=A7 BL.r xs:=by rw [List.take_length]
 refine Ab (Cb (len:=xs.length) (fun j=>[.int (A7 BL.r (xs.take j)),.int (j:Int)]) [.int (A7 BL.r xs)] ?_ ?_ N (by omega)) rfl
 ·intro self
  simp only [PXb,PXc,PXn,AH,PXv,BC,e]
 ·intro j self hj
  have b:=S7 (g:=BL.r) hx j (by omega)
  have h1:=hx (bln xs j) (by rw [RO hj];exact List.getElem_mem _)
  have w:IntKind.i64.wrap (A7 BL.r (xs.take j)+(bln xs j).r)=A7 BL.r (xs.take j)+(bln xs j).r:=BA (by omega) (by omega)
  simp only [PXb,PXc,PXn,AH,PXv,CO (show j≤1099511627776 by omega),Ay hj,AR hj,w,Ja BL.r hj]
def lnY (bal:Int) (X:Rows) (b:Int):BL:=⟨b,Ap (Bp b Jz) X,mdP (mdA bal X) X b X.length,Ap (Bp b JA) X,Ap (Bp b RD) X,Ap (Bp b wdX) X,Ap (Bp b nbX) X⟩
structure LineF (r:Rul) (s:BL):Prop where
 p:1≤s.p∧s.p≤r.side
 b:0≤s.b∧s.b≤1000000
 m:0≤s.m * r.balls∧s.m * r.balls≤s.b
 rr:0≤s.r∧s.r≤1000000
 w:0≤s.w∧s.w≤1000000
 nb:0≤s.nb∧s.nb≤1000000
 part:0≤s.wd * r.wide∧0≤s.nb * r.noball∧s.wd * r.wide+s.nb * r.noball≤s.r
structure FigF (r:Rul) (X:Rows) (xs:List BL):Prop where
 len:xs.length≤4000
 line:∀ s,s∈xs→LineF r s
 sb:A7 BL.b xs=Ap Jz X
 sr:A7 BL.r xs=Ap JA X
 sw:A7 BL.w xs=Ap RD X
 sn:A7 BL.nb xs=Ap nbX X
theorem ry {r:Rul} (rk:RulOk r) {X:Rows} (hX:X.length≤4000) (hb:∀ x,x∈X→0≤JA x∧JA x≤36) (hr:∀ x,x∈X→RowH r x) (ov:OvF r.balls X):FigF r X (LU (mdA r.balls X) X X.length):=by
 have e:LU (mdA r.balls X) X X.length=(boN X X.length).map (lnY r.balls X):=by
  rw [bU]
  refine List.map_congr_left (fun b _=>?_)
  rw [(gt hX hb b X.length (Nat.le_refl _)).1,List.take_length]
  rfl
 rw [e]
 have nd:=WB X X.length
 have all:=rX X
 have sm:∀ f,IC (fun b=>Ap (Bp b f) X) (boN X X.length)=Ap f X:=fun f=>mH nd f X all
 have bd:∀ (b:Int) (f:List PV→Int),(∀ x,x∈X→0≤f x∧f x≤36)→0≤Ap (Bp b f) X∧Ap (Bp b f) X≤1000000:=fun b f hf=>by
  have:=fc (f:=Bp b f) (c:=36) X (fun x hx=>gy (by omega) (hf x hx))
  omega
 have rb:=rk.balls
 have rw':=rk.wide
 have rn:=rk.noball
 refine ⟨by rw [List.length_map];exact Nat.le_trans (bM X X.length) hX,fun s hs=>?_,(Og _ _ _).trans (sm Jz),(Og _ _ _).trans (sm JA),(Og _ _ _).trans (sm RD),(Og _ _ _).trans (sm nbX)⟩
 obtain ⟨b,hbm,rfl⟩:=List.mem_map.1 hs
 obtain ⟨x,hx,hxb⟩:=bN X (Nat.le_refl _) hbm
 have m1:=rZ (show 0<r.balls by omega) hX ov b
 have b1:=bd b Jz (fun x _=>c01 _)
 have b2:=bd b JA hb
 have b3:=bd b RD (fun x _=>c01 _)
 have b4:=bd b wdX (fun x _=>c01 _)
 have b5:=bd b nbX (fun x _=>qu x)
 have hp:Ap (Bp b wdX) X * r.wide+Ap (Bp b nbX) X * r.noball≤Ap (Bp b JA) X:=by
  have h1:=gF (f:=Bp b wdX) (g:=Bp b nbX) (h:=fun x=>cond (bwX x==b) (wdX x * r.wide+nbX x * r.noball) 0) (a:=r.wide) (b:=r.noball) X (fun y _=>by
   unfold Bp
   cases bwX y==b
   ·show (0:Int) * r.wide+0 * r.noball=0
    rw [Int.zero_mul,Int.zero_mul];rfl
   ·rfl)
  rw [h1]
  refine jb X (fun y hy=>?_)
  unfold Bp
  cases bwX y==b
  ·exact Int.le_refl _
  ·exact (hr y hy).part
 refine ⟨?_,b1,⟨Int.mul_nonneg m1.2 (by omega),m1.1⟩,b2,b3,b5,⟨Int.mul_nonneg b4.1 (by omega),Int.mul_nonneg b5.1 (by omega),hp⟩⟩
 show 1≤b∧b≤r.side
 rw [← hxb]
 exact (hr x hx).bw
theorem qO {N : Nat} (hN : 2097152 < N) {r : Rul} (rk : RulOk r) {X : Rows} {xs : List BL} (f : FigF r X xs) {F : (List AY → Option (List PV)) → List PV → Option (List PV)}
    (h0:∀ a b c self,F self [.int a,.int b,.int c,.int (xs.length:Int)]=some [.int 1,.int a,.int b,.int c,.int (xs.length:Int)])
    (h1:∀ (j:Nat) (a b c:Int) self,j<xs.length→iLt (bln xs j).p 1=false→iLt r.side (bln xs j).p=false→iLt (bln xs j).b (IntKind.i64.wrap ((bln xs j).m * r.balls))=false →
      iLt (bln xs j).r (IntKind.i64.wrap (IntKind.i64.wrap ((bln xs j).wd * r.wide)+IntKind.i64.wrap ((bln xs j).nb * r.noball)))=false →
      F self [.int a,.int b,.int c,.int (j:Int)]=self [.int (IntKind.i64.wrap (a+(bln xs j).b)),.int (IntKind.i64.wrap (b+(bln xs j).w)),.int (IntKind.i64.wrap (c+(bln xs j).nb)),.int ((j+1:Nat):Int)]) :
    Cv F N [.int 0,.int 0,.int 0,.int 0]=some [.int 1,.int (A7 BL.b xs),.int (A7 BL.w xs),.int (A7 BL.nb xs),.int (xs.length:Int)]:=by
  have fl:=f.len
  have:=Cb (F:=F) (len:=xs.length) (fun j=>[.int (A7 BL.b (xs.take j)),.int (A7 BL.w (xs.take j)),.int (A7 BL.nb (xs.take j)),.int (j:Int)]) [.int 1,.int (A7 BL.b xs),.int (A7 BL.w xs),.int (A7 BL.nb xs),.int (xs.length:Int)] (fun self=>by
    show F self [.int (A7 BL.b (xs.take xs.length)),.int (A7 BL.w (xs.take xs.length)),.int (A7 BL.nb (xs.take xs.length)),.int (xs.length:Int)]=_
    rw [List.take_length]
    exact h0 _ _ _ self) (fun j self hj=>by
    have ln:=f.line (bln xs j) (by rw [RO hj];exact List.getElem_mem _)
    have b1:=S7 (g:=BL.b) (fun s hs=>(f.line s hs).b) j (by omega)
    have b2:=S7 (g:=BL.w) (fun s hs=>(f.line s hs).w) j (by omega)
    have b3:=S7 (g:=BL.nb) (fun s hs=>(f.line s hs).nb) j (by omega)
    have l1:=ln.p
    have l2:=ln.b
    have l3:=ln.m
    have l4:=ln.rr
    have l5:=ln.w
    have l6:=ln.nb
    have l7:=ln.part
    have nl:∀ a b:Int,b≤a→iLt a b=false:=fun a b h=>by simp only [iLt,decide_eq_false_iff_not];omega
    have w1:IntKind.i64.wrap ((bln xs j).m * r.balls)=(bln xs j).m * r.balls:=BA (by omega) (by omega)
    have w2:IntKind.i64.wrap ((bln xs j).wd * r.wide)=(bln xs j).wd * r.wide:=BA (by omega) (by omega)
    have w3:IntKind.i64.wrap ((bln xs j).nb * r.noball)=(bln xs j).nb * r.noball:=BA (by omega) (by omega)
    have w4:IntKind.i64.wrap ((bln xs j).wd * r.wide+(bln xs j).nb * r.noball)=(bln xs j).wd * r.wide+(bln xs j).nb * r.noball:=BA (by omega) (by omega)
    have w5:IntKind.i64.wrap (A7 BL.b (xs.take j)+(bln xs j).b)=A7 BL.b (xs.take j)+(bln xs j).b:=BA (by omega) (by omega)
    have w6:IntKind.i64.wrap (A7 BL.w (xs.take j)+(bln xs j).w)=A7 BL.w (xs.take j)+(bln xs j).w:=BA (by omega) (by omega)
    have w7:IntKind.i64.wrap (A7 BL.nb (xs.take j)+(bln xs j).nb)=A7 BL.nb (xs.take j)+(bln xs j).nb:=BA (by omega) (by omega)
    have:=h1 j (A7 BL.b (xs.take j)) (A7 BL.w (xs.take j)) (A7 BL.nb (xs.take j)) self hj (nl _ _ l1.1) (nl _ _ l1.2) (by rw [w1];exact nl _ _ l3.2) (by rw [w2,w3,w4];exact nl _ _ l7.2.2)
    rw [w5,w6,w7,← Ja BL.b hj,← Ja BL.w hj,← Ja BL.nb hj] at this
    exact this) N (by omega)
  exact this
theorem nW {r:Rul} {L:Rows} {k:Nat} (hc:BZ r L=0) (hk:k<opn L L.length):OL r L (k:Int)=(Bx r L k L.length,0):=by
 unfold OL
 have e:(iLt (k:Int) 0||iLe (opn L L.length:Int) (k:Int))=false:=by
  simp only [Bool.or_eq_false_iff,iLt,iLe,decide_eq_false_iff_not]
  omega
 rw [hc,e,ko hc]
 rfl
theorem pk {r:Rul} {L:Rows} {k:Nat} (hc:BZ r L=0) (hk:k<opn L L.length):Sl r L (k:Int)=(Ai (LU (mdA r.balls (Bx r L k L.length)) (Bx r L k L.length) (Bx r L k L.length).length),0):=by
 unfold Sl
 rw [nW hc hk]
 rfl
set_option maxHeartbeats 8000000 in
theorem Va {N:Nat} {r1 r2 r3 r4 r5 r6 r7 r9 r10 r11 r12:Int} {r8:Bool} {r0:ByteArray} {r13:Rows} {L:Rows} (ha:KE N []=some [.bool true]) (hN:2097152<N) (hs:r0.size≤1048576) (h13:r13.length≤1048576):DU N [.str r0,.int r1,.int r2,.int r3,.int r4,.int r5,.int r6,.int r7,.bool r8,.int r9,.int r10,.int r11,.int r12,.rows r13,.rows L]=some [.bool true]:=by
 show DQ (std (A1 N) N) (xOf _)=_
 have l:=sS L
 have l6:(cut L 60).length≤1000000:=Nat.le_trans (lZ L 60) (show 60≤1000000 by omega)
 simp only [DQ,My,KC,Oh,Du,LO,Eb,std,xOf,PXb,PXc,PXn,PXm,Nat.reduceAdd,Int.reduceBEq,ha,my,bR hN hs h13 l Zu,PXc]
 generalize cut L 60=X at *
 cases hc:BZ (⟨r0,r1,r2,r3,r4,r5,r6,r7,r8,r9,r10,r11,r12,r13⟩:Rul) X==0 with
 | false=>rfl
 | true =>
  have c0:=beq_iff_eq.1 hc
  obtain ⟨il,rk⟩:=Zu c0
  have il4:=il.len
  simp only [PXb,PXc,PXn,PXm,Nat.reduceAdd,Int.reduceBEq,Int.reduceBEq,PXs,pu]
  have ol:=Tg X X.length
  refine Ab (Cb (len:=opn X X.length) (fun i=>[.int (i:Int)]) [.int 1] ?_ ?_ N (by omega)) ?_
  ·intro self
   simp only [PXb,PXc,PXn,AH,BC]
  ·intro k self hi
   obtain ⟨u1,u2,u3,u4,u5,u6⟩:=o5 c0 k X.length (Nat.le_refl _)
   obtain ⟨bl,bf⟩:=oq c0 k X.length (Nat.le_refl _)
   have fg:FigF (⟨r0,r1,r2,r3,r4,r5,r6,r7,r8,r9,r10,r11,r12,r13⟩:Rul) (Bx (⟨r0,r1,r2,r3,r4,r5,r6,r7,r8,r9,r10,r11,r12,r13⟩:Rul) X k X.length) (LU (mdA r4 (Bx (⟨r0,r1,r2,r3,r4,r5,r6,r7,r8,r9,r10,r11,r12,r13⟩:Rul) X k X.length)) (Bx (⟨r0,r1,r2,r3,r4,r5,r6,r7,r8,r9,r10,r11,r12,r13⟩:Rul) X k X.length) (Bx (⟨r0,r1,r2,r3,r4,r5,r6,r7,r8,r9,r10,r11,r12,r13⟩:Rul) X k X.length).length):=ry rk (X:=Bx (⟨r0,r1,r2,r3,r4,r5,r6,r7,r8,r9,r10,r11,r12,r13⟩:Rul) X k X.length) (by omega) (fun x hx=>qG rk (bf x hx)) u5 u6
   have pb:(prA (⟨r0,r1,r2,r3,r4,r5,r6,r7,r8,r9,r10,r11,r12,r13⟩:Rul) X k X.length).bowler=smi X (fun e=>(Ah (⟨r0,r1,r2,r3,r4,r5,r6,r7,r8,r9,r10,r11,r12,r13⟩:Rul) e).bowler) k X.length:=rfl
   have pn:(prA (⟨r0,r1,r2,r3,r4,r5,r6,r7,r8,r9,r10,r11,r12,r13⟩:Rul) X k X.length).noballs=smi X (fun e=>(Ah (⟨r0,r1,r2,r3,r4,r5,r6,r7,r8,r9,r10,r11,r12,r13⟩:Rul) e).noballs) k X.length:=rfl
   have pc:(BB (⟨r0,r1,r2,r3,r4,r5,r6,r7,r8,r9,r10,r11,r12,r13⟩:Rul) X (sdT X) (opn X X.length) k X.length).balls=smi X (L9 (⟨r0,r1,r2,r3,r4,r5,r6,r7,r8,r9,r10,r11,r12,r13⟩:Rul)) k X.length:=rfl
   have pw:(BB (⟨r0,r1,r2,r3,r4,r5,r6,r7,r8,r9,r10,r11,r12,r13⟩:Rul) X (sdT X) (opn X X.length) k X.length).wickets=smi X HX k X.length:=rfl
   simp only [PXb,PXc,PXn,PXm,Nat.reduceAdd,Int.reduceBEq,PXs,A6 (show k≤1099511627776 by omega),Ay hi,AR hi,Du,PQ hN hs h13 l6,pk c0 hi,Eb,ZO hN hs h13 l,rm c0 hi,kL,qw hi,Int.reduceBEq]
   generalize Bx (⟨r0,r1,r2,r3,r4,r5,r6,r7,r8,r9,r10,r11,r12,r13⟩:Rul) X k X.length=B at *
   generalize LU (mdA r4 B) B B.length=xs at *
   obtain ⟨g1,g2,g3,g4,g5,g6⟩:=fg
   refine Gb (aR (N:=N) hN g1 (fun s hs=>(g2 s hs).rr)) ?_
   have eb:A7 BL.r xs=(prA (⟨r0,r1,r2,r3,r4,r5,r6,r7,r8,r9,r10,r11,r12,r13⟩:Rul) X k X.length).bowler:=by rw [g4,u2,pb]
   simp only [PXb,PXc,PXn,PXm,Nat.reduceAdd,Int.reduceBEq,eb,beq_self_eq_true,Bool.not_true,cond_false]
   refine Gb (qO hN rk ⟨g1,g2,g3,g4,g5,g6⟩ ?_ ?_) ?_
   ·intro a b c self
    simp only [PXb,PXc,PXn,AH,PXv,BC]
   ·intro j a b c self hj k1 k2 k3 k4
    change iLt r1 (bln xs j).p=false at k2
    change iLt (bln xs j).b (IntKind.i64.wrap ((bln xs j).m * r4))=false at k3
    change iLt (bln xs j).r (IntKind.i64.wrap (IntKind.i64.wrap ((bln xs j).wd * r6)+IntKind.i64.wrap ((bln xs j).nb * r7)))=false at k4
    simp only [PXb,PXc,PXn,AH,PXv,CO (show j≤1099511627776 by omega),Ay hj,AR hj,k1,k2,k3,k4,Bool.or_false]
   ·have nb:=GG (L:=X) (f:=fun e=>(Ah (⟨r0,r1,r2,r3,r4,r5,r6,r7,r8,r9,r10,r11,r12,r13⟩:Rul) e).noballs) (c:=5) (fun e=>(Dv rk e).no) k X.length
    have wn:IntKind.i64.wrap (A7 BL.nb xs * r7)=(prA (⟨r0,r1,r2,r3,r4,r5,r6,r7,r8,r9,r10,r11,r12,r13⟩:Rul) X k X.length).noballs:=by
     have:A7 BL.nb xs * r7=smi X (fun e=>(Ah (⟨r0,r1,r2,r3,r4,r5,r6,r7,r8,r9,r10,r11,r12,r13⟩:Rul) e).noballs) k X.length:=by rw [g6];exact u3
     rw [this,pn,BA (by omega) (by omega)]
    have wb:A7 BL.b xs=(BB (⟨r0,r1,r2,r3,r4,r5,r6,r7,r8,r9,r10,r11,r12,r13⟩:Rul) X (sdT X) (opn X X.length) k X.length).balls:=by rw [g3,u1,pc]
    have ww:iLt (BB (⟨r0,r1,r2,r3,r4,r5,r6,r7,r8,r9,r10,r11,r12,r13⟩:Rul) X (sdT X) (opn X X.length) k X.length).wickets (A7 BL.w xs)=false:=by
     simp only [iLt,decide_eq_false_iff_not]
     rw [pw,g5]
     omega
    simp only [PXb,PXc,PXn,PXm,Nat.reduceAdd,Int.reduceBEq,wn,wb,ww,beq_self_eq_true,Int.reduceBEq]
    rfl
  ·simp only [PXb,PXc,PXn,PXm,Nat.reduceAdd,Int.reduceBEq]
end Go.Px
end
section
namespace Go.Proofs
open Go.Shelf
def Tryz.lays246_ren:Go.Shelf.Ren:=⟨fun | 246=>91 | 283=>111 | 284=>112 | 285=>113 | 286=>114 | 129=>136 | 317=>135 | 318=>137 | 319=>138 | 320=>139 | 337=>162 | 338=>163 | n=>n,fun | 2=>2 | 3=>3 | 9=>9 | 4=>4 | 171=>158 | 0=>0 | 53=>146 | 37=>161 | 5=>5 | 173=>162 | 212=>179 | 51=>180 | 20=>20 | 213=>181 | 46=>182 | 232=>209 | 233=>210 | n=>n,fun | 17=>0 | 18=>1 | 19=>2 | n=>n⟩
theorem Tryz.lays246:Go.Proofs.Lays.n246 Tryz.prog Tryz.lays246_ren:={
  mixed:=by kernel_rfl
  f129:=Tryz.func136.trans (congrArg some (by kernel_rfl))
  f246:=Tryz.func91.trans (congrArg some (by kernel_rfl))
  f283:=Tryz.func111.trans (congrArg some (by kernel_rfl))
  f284:=Tryz.func112.trans (congrArg some (by kernel_rfl))
  f285:=Tryz.func113.trans (congrArg some (by kernel_rfl))
  f286:=Tryz.func114.trans (congrArg some (by kernel_rfl))
  f317:=Tryz.func135.trans (congrArg some (by kernel_rfl))
  f318:=Tryz.func137.trans (congrArg some (by kernel_rfl))
  f319:=Tryz.func138.trans (congrArg some (by kernel_rfl))
  f320:=Tryz.func139.trans (congrArg some (by kernel_rfl))
  f337:=Tryz.func162.trans (congrArg some (by kernel_rfl))
  f338:=Tryz.func163.trans (congrArg some (by kernel_rfl))
  t0:=Tryz.underlying0
  a0:=Tryz.isAgg0
  z0:=Tryz.sizeOf0
  v0:=Tryz.zeroValue0
  t2:=Tryz.underlying2
  a2:=Tryz.isAgg2
  z2:=Tryz.sizeOf2
  v2:=Tryz.zeroValue2
  t3:=Tryz.underlying3
  a3:=Tryz.isAgg3
  z3:=Tryz.sizeOf3
  v3:=Tryz.zeroValue3
  t4:=Tryz.underlying4
  a4:=Tryz.isAgg4
  z4:=Tryz.sizeOf4
  v4:=Tryz.zeroValue4
  t5:=Tryz.underlying5
  a5:=Tryz.isAgg5
  z5:=Tryz.sizeOf5
  v5:=Tryz.zeroValue5
  t9:=Tryz.underlying9
  a9:=Tryz.isAgg9
  z9:=Tryz.sizeOf9
  v9:=Tryz.zeroValue9
  t20:=Tryz.underlying20
  a20:=Tryz.isAgg20
  z20:=Tryz.sizeOf20
  v20:=Tryz.zeroValue20
  t37:=Tryz.underlying161
  a37:=Tryz.isAgg161
  z37:=Tryz.sizeOf161
  v37:=Tryz.zeroValue161
  t46:=Tryz.underlying182
  a46:=Tryz.isAgg182
  z46:=Tryz.sizeOf182
  v46:=Tryz.zeroValue182
  t51:=Tryz.underlying180
  a51:=Tryz.isAgg180
  z51:=Tryz.sizeOf180
  v51:=Tryz.zeroValue180
  t53:=Tryz.underlying146
  a53:=Tryz.isAgg146
  z53:=Tryz.sizeOf146
  v53:=Tryz.zeroValue146
  t171:=Tryz.underlying158
  a171:=Tryz.isAgg158
  z171:=Tryz.sizeOf158
  v171:=Tryz.zeroValue158
  t173:=Tryz.underlying162
  a173:=Tryz.isAgg162
  z173:=Tryz.sizeOf162
  v173:=Tryz.zeroValue162
  t212:=Tryz.underlying179
  a212:=Tryz.isAgg179
  z212:=Tryz.sizeOf179
  v212:=Tryz.zeroValue179
  t213:=Tryz.underlying181
  a213:=Tryz.isAgg181
  z213:=Tryz.sizeOf181
  t232:=Tryz.underlying209
  a232:=Tryz.isAgg209
  z232:=Tryz.sizeOf209
  v232:=Tryz.zeroValue209
  t233:=Tryz.underlying210
  a233:=Tryz.isAgg210
  z233:=Tryz.sizeOf210
  v233:=Tryz.zeroValue210
  g17:=by kernel_rfl
  g18:=by kernel_rfl
  g19:=by kernel_rfl }
open Go.RowKit Go.Sort Go.Lib in
theorem Tryz.internal_strconv_FormatInt_10_small (i : Nat) (hi : i < 100) (w : World) :
    Calls Tryz.prog 91 #[.int .i64 i,.int .i64 10] w fun e w'=>e=.returned (.string ⟨(Lib.decDigits i).toArray⟩)∧w'=w:=Any.internal_strconv_FormatInt_10_small Tryz.lays246 i hi w
def Tryz.lays243_ren:Go.Shelf.Ren:=⟨fun | 243=>90 | 246=>91 | 283=>111 | 284=>112 | 285=>113 | 286=>114 | 129=>136 | 317=>135 | 318=>137 | 319=>138 | 320=>139 | 337=>162 | 338=>163 | n=>n,fun | 3=>3 | 9=>9 | 2=>2 | 4=>4 | 171=>158 | 0=>0 | 53=>146 | 37=>161 | 5=>5 | 173=>162 | 212=>179 | 51=>180 | 20=>20 | 213=>181 | 46=>182 | 232=>209 | 233=>210 | n=>n,fun | 17=>0 | 18=>1 | 19=>2 | n=>n⟩
theorem Tryz.lays243:Go.Proofs.Lays.n243 Tryz.prog Tryz.lays243_ren:={
  mixed:=by kernel_rfl
  f129:=Tryz.func136.trans (congrArg some (by kernel_rfl))
  f243:=Tryz.func90.trans (congrArg some (by kernel_rfl))
  f246:=Tryz.func91.trans (congrArg some (by kernel_rfl))
  f283:=Tryz.func111.trans (congrArg some (by kernel_rfl))
  f284:=Tryz.func112.trans (congrArg some (by kernel_rfl))
  f285:=Tryz.func113.trans (congrArg some (by kernel_rfl))
  f286:=Tryz.func114.trans (congrArg some (by kernel_rfl))
  f317:=Tryz.func135.trans (congrArg some (by kernel_rfl))
  f318:=Tryz.func137.trans (congrArg some (by kernel_rfl))
  f319:=Tryz.func138.trans (congrArg some (by kernel_rfl))
  f320:=Tryz.func139.trans (congrArg some (by kernel_rfl))
  f337:=Tryz.func162.trans (congrArg some (by kernel_rfl))
  f338:=Tryz.func163.trans (congrArg some (by kernel_rfl))
  t0:=Tryz.underlying0
  a0:=Tryz.isAgg0
  z0:=Tryz.sizeOf0
  v0:=Tryz.zeroValue0
  t2:=Tryz.underlying2
  a2:=Tryz.isAgg2
  z2:=Tryz.sizeOf2
  v2:=Tryz.zeroValue2
  t3:=Tryz.underlying3
  a3:=Tryz.isAgg3
  z3:=Tryz.sizeOf3
  v3:=Tryz.zeroValue3
  t4:=Tryz.underlying4
  a4:=Tryz.isAgg4
  z4:=Tryz.sizeOf4
  v4:=Tryz.zeroValue4
  t5:=Tryz.underlying5
  a5:=Tryz.isAgg5
  z5:=Tryz.sizeOf5
  v5:=Tryz.zeroValue5
  t9:=Tryz.underlying9
  a9:=Tryz.isAgg9
  z9:=Tryz.sizeOf9
  v9:=Tryz.zeroValue9
  t20:=Tryz.underlying20
  a20:=Tryz.isAgg20
  z20:=Tryz.sizeOf20
  v20:=Tryz.zeroValue20
  t37:=Tryz.underlying161
  a37:=Tryz.isAgg161
  z37:=Tryz.sizeOf161
  v37:=Tryz.zeroValue161
  t46:=Tryz.underlying182
  a46:=Tryz.isAgg182
  z46:=Tryz.sizeOf182
  v46:=Tryz.zeroValue182
  t51:=Tryz.underlying180
  a51:=Tryz.isAgg180
  z51:=Tryz.sizeOf180
  v51:=Tryz.zeroValue180
  t53:=Tryz.underlying146
  a53:=Tryz.isAgg146
  z53:=Tryz.sizeOf146
  v53:=Tryz.zeroValue146
  t171:=Tryz.underlying158
  a171:=Tryz.isAgg158
  z171:=Tryz.sizeOf158
  v171:=Tryz.zeroValue158
  t173:=Tryz.underlying162
  a173:=Tryz.isAgg162
  z173:=Tryz.sizeOf162
  v173:=Tryz.zeroValue162
  t212:=Tryz.underlying179
  a212:=Tryz.isAgg179
  z212:=Tryz.sizeOf179
  v212:=Tryz.zeroValue179
  t213:=Tryz.underlying181
  a213:=Tryz.isAgg181
  z213:=Tryz.sizeOf181
  t232:=Tryz.underlying209
  a232:=Tryz.isAgg209
  z232:=Tryz.sizeOf209
  v232:=Tryz.zeroValue209
  t233:=Tryz.underlying210
  a233:=Tryz.isAgg210
  z233:=Tryz.sizeOf210
  v233:=Tryz.zeroValue210
  g17:=by kernel_rfl
  g18:=by kernel_rfl
  g19:=by kernel_rfl }
open Go.RowKit Go.Sort Go.Lib in
theorem Tryz.internal_strconv_Itoa_small (i : Nat) (hi : i < 100) (w : World) :
    Calls Tryz.prog 90 #[.int .i64 i] w fun e w'=>e=.returned (.string ⟨(Lib.decDigits i).toArray⟩)∧w'=w:=Any.internal_strconv_Itoa_small Tryz.lays243 i hi w
end Go.Proofs
end
