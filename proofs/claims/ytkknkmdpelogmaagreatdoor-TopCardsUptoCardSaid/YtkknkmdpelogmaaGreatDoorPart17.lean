/- Part 17. -/
import Derived.Test.YtkknkmdpelogmaaGreatDoorPart16
import Derived.Test.YtkknkmdpelogmaaGreatDoorPart09
set_option linter.unusedVariables false
set_option linter.unusedSimpArgs false
variable {r1 r2 r3 r4 r5 r6 r7 r9 r10 r11 r12:Int}
section
namespace Go.Px
set_option maxRecDepth 100000
theorem aL{F:(List AW→Option (List PV))→List PV→Option (List PV)}{len:Nat}(P:Nat→List PV→Prop)(Q:List PV→Prop)
    (h0:∀v self,P len v→∃w,F self v=some w∧Q w)
    (h1:∀j v self,j<len→P j v→∃ls:List AW,F self v=self ls∧P (j+1) (ls.map Leaf.pv)) (n:Nat) (hn:len<n) {v:List PV} (hv:P 0 v):∃w,CP F n v=some w∧Q w:=by
  have main:∀(k i n:Nat) (v:List PV),i+k=len→k<n→P i v→∃w,CP F n v=some w∧Q w:=by
    intro k
    induction k with
    |zero=>
      intro i n v hk hn hv;obtain⟨n,rfl⟩:∃m,n=m+1:=⟨n-1,by omega⟩;obtain rfl:i=len:=by omega
      exact h0 v _ hv
    |succ k ih=>
      intro i n v hk hn hv;obtain⟨n,rfl⟩:∃m,n=m+1:=⟨n-1,by omega⟩;obtain⟨ls,e,p⟩:=h1 i v (fun ls=>CP F n (ls.map Leaf.pv)) (by omega) hv;obtain⟨w,e2,q⟩:=ih (i+1) n _ (by omega) (by omega) p;exact⟨w,e.trans e2,q⟩
  grind
theorem iW{x:Option (List PV)}{Q:List PV→Prop}{k:List PV→Option (List PV)}{r:Option (List PV)}(h:∃w,x=some w∧Q w)(hk:∀w,Q w→k w=r):x.bind k=r:=by
 grind
theorem OK{x:Option (List PV)}{Q T:List PV→Prop}{k:List PV→Option (List PV)}(h:∃w,x=some w∧Q w)(hk:∀w,Q w→∃u,k w=some u∧T u):∃u,x.bind k=some u∧T u:=by
 grind
theorem KG{x:Option (List PV)}{Q:List PV→Prop}{T:List AW→Prop}{k:List PV→Option (List PV)}{self:List AW→Option (List PV)}(h:∃w,x=some w∧Q w)(hk:∀w,Q w→∃ls,k w=self ls∧T ls):∃ls,x.bind k=self ls∧T ls:=by
 grind
theorem XP{N:Nat}{r8:Bool}{r0:ByteArray}{r13:Rows}{L:Rows}{i:Int}{k:Nat}(hN:2097152<N)(hs:r0.size≤1048576)(h13:r13.length≤1048576)(hL:L.length≤1048576):∃v,D9 N [.str r0,.int r1,.int r2,.int r3,.int r4,.int r5,.int r6,.int r7,.bool r8,.int r9,.int r10,.int r11,.int r12,.rows r13,.rows L,.int i,.int (k:Int)]=some v∧True:=by
 show∃v,Ha (std (EH N) N) (xOf _)=some v∧True;simp only[Ha,X5,lq9,std,xOf,PXb,ACG hN hs h13 hL,Ru,PXc];generalize atS (⟨r0,r1,r2,r3,r4,r5,r6,r7,r8,r9,r10,r11,r12,r13⟩:Rul) L (IntKind.i64.wrap (i+1))=A;cases hb : !(A.2==0)||iLe ((Ap A.1.inns).length:Int) (k:Int)
 ·rw[Bool.or_eq_false_iff]at hb;have h2:=hb.2;simp only[iLe,decide_eq_false_iff_not]at h2;have e:iIn (k:Int) ((Ap A.1.inns).length:Int)=true:=AM (by omega)
  simp_all
 simp_all
def P1(r:Rul)(L:Rows)(i:Nat):List PV:=Ca (i:Int) (stM L i 0 (AO r).1) (stM L (i+1) 0 (AO r).1) (evR L i).ball
def lkR(r:Rul)(L:Rows)(i:Nat):Rows:=cond ((evR L i).kind==4) [P1 r L i] []
def evO(e:Ev):Int:=cond ((e.kind==5&&e.yes)||(e.kind==6 && !e.yes)) e.player 0
def KI(r:Rul)(L:Rows)(i:Nat):Int:=cond ((evR L i).kind==4) (CV (P1 r L i)) (evO (evR L i))
def Pj(r:Rul)(L:Rows)(i:Nat):List PV:=[.int (i:Int),.int (atI L i 0),.int (atI L i 1),.int (atI L i 2),.int (atI L i 3),.bool (atB L i 4),.int (atI L i 5),.int (atI L i 6),.int (atI L i 7),.int (atI L i 8),.int (atI L i 9),.int (atI L i 10),.int (atI L i 11),.bool (atB L i 12),.int (atI L i 13),.int (atI L i 14),.int (atI L i 15),.int (atI L i 16),.bool (atB L i 17),.int (atI L i 18),.rows (lkR r L i),.int (KI r L i)]
def Qr(r:Rul)(L:Rows)(a:Nat):Nat→Rows
 |0=>[]
 |n+1=>Qr r L a n++[Pj r L (a+n)]
theorem V8(r:Rul)(L:Rows)(a:Nat):∀n,(Qr r L a n).length=n
 |0=>rfl
 |n+1=>by
  show(Qr r L a n++[_]).length=n+1;rw[List.length_append,V8 r L a n];rfl
theorem oH(r:Rul)(L:Rows)(a:Nat){j:Nat}:∀n,j<n→AB (Qr r L a n) j=Pj r L (a+j)
 |0,h=>absurd h (Nat.not_lt_zero _)
 |n+1,h=>by
  have sl:=V8 r L a n;show(Qr r L a n++[Pj r L (a+n)]).getD j []=_;rw[zzl,List.getElem?_append]
  by_cases e:j<n
  ·rw[if_pos (by omega),←zzl];exact oH r L a n e
  grind
def mpF(D:Rows):Rows:=D.foldl (fun M x=>DL 1 [pvI (AA x 0)] (.rows [x]) M) []
theorem xO(D:Rows)(x:List PV):mpF (D++[x])=DL 1 [pvI (AA x 0)] (.rows [x]) (mpF D):=by
 unfold mpF
 simp_all
theorem uc{r:Rul}{L:Rows}:∀n,Xe 1 (mpF (HH L n 0 (AO r).1 []))∧∀i:Nat,pvL (Mi 1 [(i:Int)] (mpF (HH L n 0 (AO r).1 [])))=cond (Nat.blt i n) (lkR r L i) []
 |0=>⟨fun x hx=>absurd hx List.not_mem_nil,fun i=>by rfl⟩
 |n+1=>by
  obtain⟨h1,h2⟩:=uc (r:=r) (L:=L) n;have si:=Ux (L:=L) n 0 (AO r).1;rw[Nat.zero_add]at si;rw[L6,Nat.zero_add,←si];have blt:∀{a b:Nat},¬a<b→Nat.blt a b=false:=fun h=>by
   rw[Bool.eq_false_iff]
   simp_all
  have blt1:∀{a b:Nat},a<b→Nat.blt a b=true:=fun h=>Nat.ble_eq_true_of_le h
  cases hk:(evR L n).kind==4
  ·rw[cond_false];refine⟨h1,fun i=>?_⟩;rw[h2]
   rcases Nat.lt_trichotomy i n with h|rfl|h
   ·grind
   ·rw[blt (by omega),blt1 (by omega)];unfold lkR
    grind
   grind
  rw[cond_true,xO];refine⟨XR rfl h1,fun i=>?_⟩;have key:pvI (AA (Ca (n:Int) (stM L n 0 (AO r).1) (stM L (n+1) 0 (AO r).1) (evR L n).ball) 0)=(n:Int):=rfl;rw[key]
  rcases Nat.lt_trichotomy i n with h|rfl|h
  ·rw[Zm (n:=1) (k:=[(n:Int)]) (k':=[(i:Int)]) rfl h1 (by grind),h2,blt1 h,blt1 (by omega)]
  ·rw[cn (n:=1) (k:=[(i:Int)]) rfl h1,blt1 (by omega)];unfold lkR;rw[hk];rfl
  rw[Zm (n:=1) (k:=[(n:Int)]) (k':=[(i:Int)]) rfl h1 (by grind),h2,blt (by omega),blt (by omega)]
set_option maxHeartbeats 8000000 in
theorem Wz{N:Nat}{r8:Bool}{r0:ByteArray}{r13:Rows}{L:Rows}{k:Nat}(hN:2097152<N)(hs:r0.size≤1048576)(h13:r13.length≤1048576)(hL:L.length≤1000000)(c0:Ah (⟨r0,r1,r2,r3,r4,r5,r6,r7,r8,r9,r10,r11,r12,r13⟩:Rul) L=0)(hk:k<opn L L.length):EG N [.str r0,.int r1,.int r2,.int r3,.int r4,.int r5,.int r6,.int r7,.bool r8,.int r9,.int r10,.int r11,.int r12,.rows r13,.rows L,.int (k:Int)]=some [.rows (Qr (⟨r0,r1,r2,r3,r4,r5,r6,r7,r8,r9,r10,r11,r12,r13⟩:Rul) L (AG L k) (AG L (k+1)-AG L k)),.int 0]:=by
 have hl:L.length≤1048576:=by omega
 have l4:=(Bv c0).2.2.1;have pl:=PK (⟨r0,r1,r2,r3,r4,r5,r6,r7,r8,r9,r10,r11,r12,r13⟩:Rul) L;have sg:=seg hl hk;have sgl:=sg.lt;have sge:=sg.le;have kb:(iLt (k:Int) 0||iLe (opn L L.length:Int) (k:Int))=false:=by
  simp only[Bool.or_eq_false_iff,iLt,iLe,decide_eq_false_iff_not];omega
 show Hd (std (CL N) N) (xOf _)=_;simp only[Hd,Qh,Tw,U2,Nr,lq9,std,xOf,PXb,Hw hN hs h13 hl,Ds hN hl,Je hN hs h13 hl,Ps,PXc];simp only[PXb,c0,Int.reduceBEq,Bool.not_true,PXp,IV,kb];have lk:=fun i:Nat=>(uc (r:=(⟨r0,r1,r2,r3,r4,r5,r6,r7,r8,r9,r10,r11,r12,r13⟩:Rul)) (L:=L) L.length).2 i
 rw[←SL c0]at lk;generalize BG (⟨r0,r1,r2,r3,r4,r5,r6,r7,r8,r9,r10,r11,r12,r13⟩:Rul) L=D at *
 refine AQ (BC (len:=D.length) (fun j=>[.rows (mpF (D.take j)),.int (j:Int)]) [.rows (mpF D)] ?_ ?_ N (by omega)) ?_
 ·intro self;simp only[PXb,PXc,PXn,AH,Aq,List.take_length]
 ·intro j self hj;have sm:iSm (j:Int) 1=true:=Dk (by omega) (by omega);have sb:List.drop j (List.take (j+1) D)=[AB D j]:=by
   rw[OB hj,List.drop_append,List.drop_eq_nil_of_le (by grind),List.length_take,Nat.min_eq_left (by omega),Nat.sub_self];rfl
  have e:mpF (D.take (j+1))=DL 1 [pvI (AD D j 0)] (.rows [AB D j]) (mpF (D.take j)):=by
   rw[OB hj,xO];rfl
  simp only[PXb,PXc,PXn,AH,Ae hj,AM hj,sm,Ao (show j≤1099511627776 by omega),Int.toNat_natCast,sb,e]
 simp only[PXb,AM hk,Int.toNat_natCast,sg.x0,sg.x1];refine AQ (AA9 hN l4 hk (fun i q=>[.rows (Qr (⟨r0,r1,r2,r3,r4,r5,r6,r7,r8,r9,r10,r11,r12,r13⟩:Rul) L (AG L k) i),.int (q:Int)]) [.rows (Qr (⟨r0,r1,r2,r3,r4,r5,r6,r7,r8,r9,r10,r11,r12,r13⟩:Rul) L (AG L k) (AG L (k+1)-AG L k))] rfl ?_ ?_) rfl
 ·intro self;simp only[PXb,PXc,PXn,AH,Aq]
 intro i self hi hq ho;have sm:iSm (((Qr (⟨r0,r1,r2,r3,r4,r5,r6,r7,r8,r9,r10,r11,r12,r13⟩:Rul) L (AG L k) i).length+1:Nat):Int) 160=true:=Dk (by rw[V8];omega) (by omega);have lq:=lk (AG L k+i);rw[show Nat.blt (AG L k+i) L.length=true from Nat.ble_eq_true_of_le (by omega),cond_true]at lq;have e:Qr (⟨r0,r1,r2,r3,r4,r5,r6,r7,r8,r9,r10,r11,r12,r13⟩:Rul) L (AG L k) (i+1)=Qr (⟨r0,r1,r2,r3,r4,r5,r6,r7,r8,r9,r10,r11,r12,r13⟩:Rul) L (AG L k) i++[Pj (⟨r0,r1,r2,r3,r4,r5,r6,r7,r8,r9,r10,r11,r12,r13⟩:Rul) L (AG L k+i)]:=rfl;have iq:iIn ((AG L k+i:Nat):Int) (L.length:Int)=true:=AM (by omega);have lt:iLt ((AG L k+i:Nat):Int) (AG L (k+1):Int)=true:=Ae (by omega);rw[e];generalize AG L k+i=q at *
 have wq:=Ao (i:=q) (show q≤1099511627776 by omega);simp only[PXb,PXc,PXn,AH,lt,iq,Int.toNat_natCast,lq,wq,sm,List.length_append,List.length_cons,List.length_nil,Nat.reduceAdd];have sr:Pj (⟨r0,r1,r2,r3,r4,r5,r6,r7,r8,r9,r10,r11,r12,r13⟩:Rul) L q=[.int (q:Int),.int (atI L q 0),.int (atI L q 1),.int (atI L q 2),.int (atI L q 3),.bool (atB L q 4),.int (atI L q 5),.int (atI L q 6),.int (atI L q 7),.int (atI L q 8),.int (atI L q 9),.int (atI L q 10),.int (atI L q 11),.bool (atB L q 12),.int (atI L q 13),.int (atI L q 14),.int (atI L q 15),.int (atI L q 16),.bool (atB L q 17),.int (atI L q 18),.rows (lkR (⟨r0,r1,r2,r3,r4,r5,r6,r7,r8,r9,r10,r11,r12,r13⟩:Rul) L q),.int (KI (⟨r0,r1,r2,r3,r4,r5,r6,r7,r8,r9,r10,r11,r12,r13⟩:Rul) L q)]:=rfl;have kk:pvI (AD L q 0)=(evR L q).kind:=rfl;have yy:pvB (AD L q 4)=(evR L q).yes:=rfl;rw[sr];cases h4:(evR L q).kind==4
 ·have lr:lkR (⟨r0,r1,r2,r3,r4,r5,r6,r7,r8,r9,r10,r11,r12,r13⟩:Rul) L q=[]:=by unfold lkR;grind
  have o:KI (⟨r0,r1,r2,r3,r4,r5,r6,r7,r8,r9,r10,r11,r12,r13⟩:Rul) L q=evO (evR L q):=by unfold KI;grind
  have b0:(!(((0:Nat):Int)==0))=false:=rfl;rw[lr,o];unfold evO;simp only[List.length_nil,b0,cond_false,kk,yy,show atB L q 4=(evR L q).yes from rfl];cases(evR L q).kind==5<;>cases(evR L q).kind==6<;>cases(evR L q).yes<;>rfl
 have lr:lkR (⟨r0,r1,r2,r3,r4,r5,r6,r7,r8,r9,r10,r11,r12,r13⟩:Rul) L q=[P1 (⟨r0,r1,r2,r3,r4,r5,r6,r7,r8,r9,r10,r11,r12,r13⟩:Rul) L q]:=by unfold lkR;grind
 have o:KI (⟨r0,r1,r2,r3,r4,r5,r6,r7,r8,r9,r10,r11,r12,r13⟩:Rul) L q=CV (P1 (⟨r0,r1,r2,r3,r4,r5,r6,r7,r8,r9,r10,r11,r12,r13⟩:Rul) L q):=by unfold KI;grind
 rw[lr,o];generalize P1 (⟨r0,r1,r2,r3,r4,r5,r6,r7,r8,r9,r10,r11,r12,r13⟩:Rul) L q=x;have b0:(!(((0+1:Nat):Int)==0))=true:=rfl;have b1:iIn 0 ((0+1:Nat):Int)=true:=rfl;simp only[List.length_cons,List.length_nil,b0,b1,cond_true];refine BZ SF ?_;rfl
def Gv(x:List PV):Int:=pvI (AA x 3)
theorem uo{f:List PV→Int}{y:List PV}:∀{W:Rows} {i:Nat},i<W.length→Av f (W.set i y)=Av f W-f (AB W i)+f y
 | [],_,h=>absurd h (Nat.not_lt_zero _)
 |x::W,0,_=>by
  show f y+Av f W=f x+Av f W-f x+f y;omega
 |x::W,i+1,h=>by
  have:=uo (f:=f) (y:=y) (W:=W) (i:=i) (Nat.lt_of_succ_lt_succ h);show f x+Av f (W.set i y)=f x+Av f W-f (AB W i)+f y;omega
structure StOk(W:Rows)(j:Nat)(s:Int):Prop where
 ln:W.length≤j
 row:∀x,x∈W→x.length=6∧0≤Gv x
 sum:Av Gv W=s
theorem AEx{W:Rows}{j:Nat}{s a b c:Int}(h:StOk W j s):StOk (W++[[.int a,.int b,.int c,.int 0,.int 0,.bool false]]) (j+1) s:=by
 obtain⟨h1,h2,h3⟩:=h;refine⟨by simp_all,fun x hx=>?_,?_⟩
 ·rcases List.mem_append.1 hx with hx|hx
  ·grind
  rw[List.mem_singleton.1 hx];exact⟨rfl,Int.le_refl _⟩
 rw[Nx,h3];show s+(0+0)=s;omega
theorem sL{W:Rows}{j i:Nat}{s v:Int}{p:PV}(h:StOk W j s)(hi:i<W.length)(c:Nat)(hc:c<6)(hv:v=cond (Nat.beq c 3) (pvI p-Gv (AB W i)) 0)(h0:Nat.beq c 3=true→0≤pvI p):StOk (W.set i (Ad (AB W i) c [p])) j (s+v):=by
 obtain⟨h1,h2,h3⟩:=h;obtain⟨l6,r0⟩:=h2 _ (Ub hi);have pl:(Ad (AB W i) c [p]).length=6:=by
  show((AB W i).set c p).length=6
  simp_all
 have pr:Gv (Ad (AB W i) c [p])=cond (Nat.beq c 3) (pvI p) (Gv (AB W i)):=by
  show pvI (((AB W i).set c p).getD 3 (.int 0))=_;rw[zzl,List.getElem?_set];cases hb:Nat.beq c 3
  ·rw[if_neg (fun e=>by simp_all),←zzl];rfl
  simp_all
 refine⟨by simp_all,fun x hx=>?_,?_⟩
 ·grind
 rw[uo hi,h3,pr,hv]
 grind
theorem qN{f:List PV→Int}{W:Rows}(h:∀x,x∈W→0≤f x){i:Nat}(hi:i<W.length):0≤f (AB W i)∧f (AB W i)≤Av f W∧0≤Av f (W.take i)∧Av f (W.take i)+f (AB W i)≤Av f W:=by
 have nn:∀A:Rows,(∀x,x∈A→0≤f x)→0≤Av f A:=fun A=>by
  induction A with
  |nil=>intro _;exact Int.le_refl _
  |cons x A ih=>
   intro h;have h1:=h x zzm;have h2:=ih (fun y hy=>h y (zzn _ hy));show 0≤f x+Av f A;omega
 have e:=OJ f hi;have s:Av f W=Av f (W.take (i+1))+Av f (W.drop (i+1)):=by rw[←Nx,List.take_append_drop]
 have a:=nn (W.take i) (fun x hx=>h x (List.mem_of_mem_take hx));have b:=nn (W.drop (i+1)) (fun x hx=>h x (List.mem_of_mem_drop hx));have c:=h _ (Ub hi);omega
theorem ADG{r:Rul}{L:Rows}(hc:Ah r L=0){q:Nat}(hq:q<L.length)(hk:((evR L q).kind==4)=true):Bk (YJ (P1 r L q))=ET r (evR L q):=by
 have rl:=(NC hc hq hk).rules;unfold ET BM;rw[hk,cond_true];show Bk (AF (stM L q 0 (AO r).1).rules (evR L q).ball)=_;rw[rl]
theorem yg{L:Rows}{k:Nat}(hL:L.length≤1048576)(hk:k<opn L L.length):((evR L (AG L k)).kind==2)=true:=by
 have sg:=seg hL hk;have h1:=sg.mid (AG L k) (Nat.le_refl _) sg.lt;have h0:=sg.o0;change opn L (AG L k)+cond ((evR L (AG L k)).kind==2) 1 0=k+1 at h1
 grind
set_option maxHeartbeats 8000000 in
theorem jB{N:Nat}{r8:Bool}{r0:ByteArray}{r13:Rows}{L:Rows}{k:Nat}(hN:2097152<N)(hs:r0.size≤1048576)(h13:r13.length≤1048576)(hL:L.length≤1000000)(c0:Ah (⟨r0,r1,r2,r3,r4,r5,r6,r7,r8,r9,r10,r11,r12,r13⟩:Rul) L=0)(hk:k<opn L L.length):∃v,Gb N [.str r0,.int r1,.int r2,.int r3,.int r4,.int r5,.int r6,.int r7,.bool r8,.int r9,.int r10,.int r11,.int r12,.rows r13,.rows L,.int (k:Int)]=some v∧∃W,v=[.rows W,.int 0]∧StOk W 4000 (smi L (ET (⟨r0,r1,r2,r3,r4,r5,r6,r7,r8,r9,r10,r11,r12,r13⟩:Rul)) k L.length):=by
 have hl:L.length≤1048576:=by omega
 have l4:=(Bv c0).2.2.1;have rk:=(aK c0).2;have sg:=seg hl hk;have sgl:=sg.lt;have sge:=sg.le;have fo:=yg hl hk;rw[ww hl hk];show∃v,GH (std (CX N) N) (xOf _)=some v∧_;simp only[GH,Ol,PZ,Pe,lq9,std,xOf,PXb,Wz hN hs h13 hL c0 hk,PXc];simp only[PXb,Int.reduceBEq,Bool.not_true];have xl:=V8 (⟨r0,r1,r2,r3,r4,r5,r6,r7,r8,r9,r10,r11,r12,r13⟩:Rul) L (AG L k) (AG L (k+1)-AG L k);have xa:=fun j (hj:j<AG L (k+1)-AG L k)=>oH (⟨r0,r1,r2,r3,r4,r5,r6,r7,r8,r9,r10,r11,r12,r13⟩:Rul) L (AG L k) (j:=j) _ hj
 generalize Qr (⟨r0,r1,r2,r3,r4,r5,r6,r7,r8,r9,r10,r11,r12,r13⟩:Rul) L (AG L k) (AG L (k+1)-AG L k)=X at *
 refine OK (Q:=fun w=>∃W,w=[.rows W]∧StOk W 4000 (smi L (ET (⟨r0,r1,r2,r3,r4,r5,r6,r7,r8,r9,r10,r11,r12,r13⟩:Rul)) k (AG L (k+1)))) (aL (len:=X.length) (fun j v=>∃W wk,v=[.rows W,.int wk,.int (j:Int)]∧(0<j→0<W.length)∧StOk W j (smi L (ET (⟨r0,r1,r2,r3,r4,r5,r6,r7,r8,r9,r10,r11,r12,r13⟩:Rul)) k (AG L k+j))) _ ?_ ?_ N (by omega) ⟨[],1,rfl,fun h=>absurd h (Nat.lt_irrefl _),Nat.le_refl _,fun x hx=>absurd hx List.not_mem_nil,(U8 _ (by rw[Nat.add_zero,sg.o0];omega)).symm⟩) ?_
 ·rintro v self ⟨W,wk,rfl,_,h1,h2,h3⟩
  simp only[PXb,Aq];refine⟨_,rfl,W,rfl,by omega,h2,?_⟩
  grind
 ·rintro j v self hj ⟨W,wk,rfl,h0,hw⟩
  have pa:∀c,AD X j c=AA (Pj (⟨r0,r1,r2,r3,r4,r5,r6,r7,r8,r9,r10,r11,r12,r13⟩:Rul) L (AG L k+j)) c:=fun c=>by unfold AD;simp_all
  have mid:=sg.mid (AG L k+j) (by omega) (by omega);have sq:smi L (ET (⟨r0,r1,r2,r3,r4,r5,r6,r7,r8,r9,r10,r11,r12,r13⟩:Rul)) k (AG L k+(j+1))=smi L (ET (⟨r0,r1,r2,r3,r4,r5,r6,r7,r8,r9,r10,r11,r12,r13⟩:Rul)) k (AG L k+j)+ET (⟨r0,r1,r2,r3,r4,r5,r6,r7,r8,r9,r10,r11,r12,r13⟩:Rul) (evR L (AG L k+j)):=by
   rw[←Nat.add_assoc,CM,mid,KE];rfl
  have tb:=PM (L:=L) (me rk) k (AG L k+j);have t1:=me rk (evR L (AG L k+j));have f0:j=0→((evR L (AG L k+j)).kind==2)=true:=fun e=>by simp_all
  have tr:=fun hk=>ADG c0 (q:=AG L k+j) (by omega) hk
  have tz:((evR L (AG L k+j)).kind==4)=false→ET (⟨r0,r1,r2,r3,r4,r5,r6,r7,r8,r9,r10,r11,r12,r13⟩:Rul) (evR L (AG L k+j))=0:=fun h=>by unfold ET BM;rw[h];rfl
  have qb:AG L k+j≤4000:=by omega
  rw[sq];generalize AG L k+j=q at *
  have p0:pvI (AA (Pj (⟨r0,r1,r2,r3,r4,r5,r6,r7,r8,r9,r10,r11,r12,r13⟩:Rul) L q) 0)=(q:Int):=rfl;have p1:pvI (AA (Pj (⟨r0,r1,r2,r3,r4,r5,r6,r7,r8,r9,r10,r11,r12,r13⟩:Rul) L q) 1)=(evR L q).kind:=rfl;have p5:pvB (AA (Pj (⟨r0,r1,r2,r3,r4,r5,r6,r7,r8,r9,r10,r11,r12,r13⟩:Rul) L q) 5)=(evR L q).yes:=rfl;have p20:pvL (AA (Pj (⟨r0,r1,r2,r3,r4,r5,r6,r7,r8,r9,r10,r11,r12,r13⟩:Rul) L q) 20)=lkR (⟨r0,r1,r2,r3,r4,r5,r6,r7,r8,r9,r10,r11,r12,r13⟩:Rul) L q:=rfl;have p21:pvI (AA (Pj (⟨r0,r1,r2,r3,r4,r5,r6,r7,r8,r9,r10,r11,r12,r13⟩:Rul) L q) 21)=KI (⟨r0,r1,r2,r3,r4,r5,r6,r7,r8,r9,r10,r11,r12,r13⟩:Rul) L q:=rfl;simp only[PXb,Ae hj,AM hj,Int.toNat_natCast,pa,p0,p1,p5,p20,p21,Ao (show j≤1099511627776 by omega)];generalize smi L (ET (⟨r0,r1,r2,r3,r4,r5,r6,r7,r8,r9,r10,r11,r12,r13⟩:Rul)) k q=s at *
  refine KG (Q:=fun w=>∃W1,w=[.rows W1]∧0<W1.length∧StOk W1 (j+1) s) ?_ ?_
  ·cases hb:((evR L q).kind==2||(evR L q).kind==5 && !(evR L q).yes)
   ·simp only[cond_false];refine⟨_,rfl,W,rfl,?_,by have:=hw.ln;omega,hw.row,hw.sum⟩
    grind
   simp only[cond_true];refine OK (XP hN hs h13 hl) (fun c _=>?_);have sm:iSm ((W.length+1:Nat):Int) 48=true:=Dk (by have:=hw.ln;omega) (by omega);simp only[PXb,List.length_append,List.length_cons,List.length_nil,Nat.reduceAdd,sm];exact⟨_,rfl,_,rfl,by simp_all,AEx hw⟩
  rintro _ ⟨W1,rfl,hp,hw1⟩
  have ix:=nG hp (by have:=hw1.ln;omega);have hi:W1.length-1<W1.length:=by omega
  have par:=qN (f:=Gv) (fun x hx=>(hw1.row x hx).2) hi;rw[hw1.sum]at par;simp only[PXb,ix.2];rw[ix.1];refine KG (Q:=fun w=>∃W2,w=[.rows W2]∧W2.length=W1.length∧StOk W2 (j+1) (s+ET (⟨r0,r1,r2,r3,r4,r5,r6,r7,r8,r9,r10,r11,r12,r13⟩:Rul) (evR L q))) ?_ ?_
  ·cases h4:(evR L q).kind==4
   ·have lr:lkR (⟨r0,r1,r2,r3,r4,r5,r6,r7,r8,r9,r10,r11,r12,r13⟩:Rul) L q=[]:=by unfold lkR;grind
    simp_all
   have lr:lkR (⟨r0,r1,r2,r3,r4,r5,r6,r7,r8,r9,r10,r11,r12,r13⟩:Rul) L q=[P1 (⟨r0,r1,r2,r3,r4,r5,r6,r7,r8,r9,r10,r11,r12,r13⟩:Rul) L q]:=by unfold lkR;grind
   have tt:=tr h4;rw[lr];generalize P1 (⟨r0,r1,r2,r3,r4,r5,r6,r7,r8,r9,r10,r11,r12,r13⟩:Rul) L q=x at *
   generalize ET (⟨r0,r1,r2,r3,r4,r5,r6,r7,r8,r9,r10,r11,r12,r13⟩:Rul) (evR L q)=t at *
   have b0:(!(((0+1:Nat):Int)==0))=true:=rfl;have b1:iIn 0 ((0+1:Nat):Int)=true:=rfl;simp only[List.length_cons,List.length_nil,b0,b1,cond_true];refine OK (Q:=(·=[.int t])) ⟨_,Gd,congrArg (fun t=>[PV.int t]) tt⟩ (fun w e=>?_);subst e;have w1:IntKind.i64.wrap (Gv (AB W1 (W1.length-1))+t)=Gv (AB W1 (W1.length-1))+t:=A0 (by omega) (by omega);have k1:=sL (p:=.int (Gv (AB W1 (W1.length-1))+t)) (v:=t) hw1 hi 3 (by omega) (by show t=Gv (AB W1 (W1.length-1))+t-Gv (AB W1 (W1.length-1));omega) (fun _=>by show 0≤Gv (AB W1 (W1.length-1))+t;omega);have pr:pvI (AD W1 (W1.length-1) 3)=Gv (AB W1 (W1.length-1)):=rfl;simp only[PXb,pr,w1];cases pvB (AD [x] (Int.toNat 0) 26)
   ·simp_all
   refine⟨_,rfl,_,rfl,List.length_set.trans List.length_set,?_⟩;have:=sL (v:=0) (p:=.int (IntKind.i64.wrap (pvI (AD (W1.set (W1.length-1) (Ad (AB W1 (W1.length-1)) 3 [.int (Gv (AB W1 (W1.length-1))+t)])) (W1.length-1) 4)+1))) k1 (by rw[List.length_set];exact hi) 4 (by omega) rfl (fun h=>by cases h)
   simp_all
  rintro _ ⟨W2,rfl,l2,hw2⟩
  simp only[PXb];cases iLt 0 (KI (⟨r0,r1,r2,r3,r4,r5,r6,r7,r8,r9,r10,r11,r12,r13⟩:Rul) L q)
  ·exact⟨_,rfl,W2,_,rfl,fun _=>by omega,hw2⟩
  refine⟨_,rfl,_,_,rfl,fun _=>by simp_all,?_⟩;have:=sL (v:=0) (p:=.bool (pvB (AD W2 (W1.length-1) 5)||KI (⟨r0,r1,r2,r3,r4,r5,r6,r7,r8,r9,r10,r11,r12,r13⟩:Rul) L q==pvI (AD W2 (W1.length-1) 1)||KI (⟨r0,r1,r2,r3,r4,r5,r6,r7,r8,r9,r10,r11,r12,r13⟩:Rul) L q==pvI (AD W2 (W1.length-1) 2))) hw2 (i:=W1.length-1) (by omega) 5 (by omega) rfl (fun h=>by cases h)
  simp_all
 rintro _ ⟨W,rfl,h⟩
 exact⟨_,rfl,W,rfl,h⟩
theorem ADc{r:Rul}{L:Rows}(hc:Ah r L=0){a:Nat}(ha:a<L.length)(hk:((evR L a).kind==4)=true):CV (P1 r L a)=0∧Da (evR L a)=0∨1≤CV (P1 r L a)∧Da (evR L a)=1:=by
 have bf:=NC hc ha hk;obtain⟨q1,q2,q3,q4,q5,q6⟩:=LW bf.ref;have st:=bf.ok.st;have ot:=bf.ok.ot;have beg:Dz (AZ (stM L a 0 (AO r).1)).batters=true:=by
  obtain⟨h1,h2,h3,h4,h5⟩:=Bv hc;have a0:=PP L.length 0 _ h4 a ha;rw[Nat.zero_add]at a0;have q:=(YX a0).1;rw[q]at a0;obtain⟨g1,g2,g3,g4⟩:=UR a0 hk;exact Zp (Qq g3).2.2.2.1 (by simp_all)
 obtain⟨z1,z2⟩:=Z4 q1 beg;rw[beq_eq_false_iff_ne]at z1 z2;have e:CV (P1 r L a)=cond ((evR L a).ball.how==0) 0 (cond ((evR L a).ball.victim==1) (AZ (stM L a 0 (AO r).1)).striker (cond ((evR L a).ball.victim==2) (AZ (stM L a 0 (AO r).1)).other 0)):=rfl;rw[e];unfold Da;rw[hk];cases hd:(evR L a).ball.how==0
 ·refine .inr ⟨?_,rfl⟩
  rcases YM q5 hd with h|h
  ·grind
  grind
 simp_all
theorem AD8{r:Rul}{L:Rows}(hc:Ah r L=0){a:Nat}(ha:a<L.length):KI r L a=0∧Da (evR L a)=0∨1≤KI r L a∧Da (evR L a)=1:=by
 unfold KI;cases hk:(evR L a).kind==4
 ·have ei:=xy hc ha;rw[cond_false];unfold Da Cf evO;rw[hk];cases h5:(evR L a).kind==5
  ·cases h6:(evR L a).kind==6
   ·simp_all
   have:=ei.re (beq_iff_eq.1 h6)
   grind
  have e5:=beq_iff_eq.1 h5;have:=ei.en e5
  grind
 exact ADc hc ha hk
theorem ADb(e:Ev){p:Int}(hp:1≤p):NS e p=(evO e==p):=by
 have z:((0:Int)==p)=false:=beq_false_of_ne (by omega);unfold NS evO
 grind
def Rz(r:Rul)(L:Rows)(k:Nat)(p:Int)(n:Nat):Bool:=cu (Ax r L k n) p||cq L k p n
theorem AA5{r:Rul}{L:Rows}{k:Nat}{p:Int}(hp:1≤p){q:Nat}(mid:opn L (q+1)=k+1):Rz r L k p (q+1)=(Rz r L k p q||KI r L q==p):=by
 unfold Rz KI;show(cu (cond ((evR L q).kind==4&&Nat.beq (opn L (q+1)) (k+1)) (Ax r L k q++[P1 r L q]) (Ax r L k q)) p||(cq L k p q||Nat.beq (opn L (q+1)) (k+1)&&NS (evR L q) p))=_;rw[mid,KE,Bool.true_and,Bool.and_true];cases hk:(evR L q).kind==4
 ·rw[cond_false,cond_false,ADb _ hp,Bool.or_assoc]
 have z:NS (evR L q) p=false:=by
  unfold NS
  simp_all
 rw[cond_true,cond_true,z,Bool.or_false];unfold cu
 grind
theorem AFM{r:Rul}{L:Rows}{k:Nat}(hL:L.length≤1048576)(hk:k<opn L L.length)(p:Int):(plL r L k p).out=Rz r L k p (AG L (k+1)):=by
 have sg:=seg hL hk;have af:=eD hL hk;have sl:=jH hL hk;have sge:=sg.le;unfold plL Rz;rw[pL,pV _ _ _ (Nat.le_refl _),List.take_length];have e1:Ax r L k L.length=Ax r L k (AG L (k+1)):=by
  have:=qB (r:=r) sg.o1 af (L.length-AG L (k+1)) (by omega)
  simp_all
 have e2:=tJ (q:=p) sg (Cl L k).length (by rw[sl];have:=sg.lt;omega);rw[sl,show AG L k+(AG L (k+1)-AG L k)=AG L (k+1) by have:=sg.lt;omega]at e2
 simp_all
def Lq(p:Int)(x:List PV):Bool:=pvI (AA x 2)==p
set_option maxHeartbeats 8000000 in
theorem lC{N:Nat}{r8:Bool}{r0:ByteArray}{r13:Rows}{L:Rows}{k:Nat}(hN:2097152<N)(hs:r0.size≤1048576)(h13:r13.length≤1048576)(hL:L.length≤1000000)(c0:Ah (⟨r0,r1,r2,r3,r4,r5,r6,r7,r8,r9,r10,r11,r12,r13⟩:Rul) L=0)(hk:k<opn L L.length):∃v,G5 N [.str r0,.int r1,.int r2,.int r3,.int r4,.int r5,.int r6,.int r7,.bool r8,.int r9,.int r10,.int r11,.int r12,.rows r13,.rows L,.int (k:Int)]=some v∧∃W,v=[.rows W,.int 0]∧W.length≤4000∧(W.length:Int)=smi L Da k L.length∧∀p,1≤p→W.any (Lq p)=(plL (⟨r0,r1,r2,r3,r4,r5,r6,r7,r8,r9,r10,r11,r12,r13⟩:Rul) L k p).out:=by
 have hl:L.length≤1048576:=by omega
 have l4:=(Bv c0).2.2.1;have sg:=seg hl hk;have sgl:=sg.lt;have sge:=sg.le;have po:=fun p=>AFM (r:=(⟨r0,r1,r2,r3,r4,r5,r6,r7,r8,r9,r10,r11,r12,r13⟩:Rul)) hl hk p
 have op:=fun q (h:q<L.length)=>AD8 c0 h
 simp only[po];rw[ww hl hk];show∃v,Hg (std (Cu N) N) (xOf _)=some v∧_;simp only[Hg,QT,QS,QN,lq9,std,xOf,PXb,Wz hN hs h13 hL c0 hk,PXc];simp only[PXb,Int.reduceBEq,Bool.not_true];have xl:=V8 (⟨r0,r1,r2,r3,r4,r5,r6,r7,r8,r9,r10,r11,r12,r13⟩:Rul) L (AG L k) (AG L (k+1)-AG L k);have xa:=fun j (hj:j<AG L (k+1)-AG L k)=>oH (⟨r0,r1,r2,r3,r4,r5,r6,r7,r8,r9,r10,r11,r12,r13⟩:Rul) L (AG L k) (j:=j) _ hj
 generalize Qr (⟨r0,r1,r2,r3,r4,r5,r6,r7,r8,r9,r10,r11,r12,r13⟩:Rul) L (AG L k) (AG L (k+1)-AG L k)=X at *
 refine OK (Q:=fun w=>∃W,w=[.rows W]∧W.length≤4000∧(W.length:Int)=smi L Da k (AG L (k+1))∧∀p,1≤p→W.any (Lq p)=Rz (⟨r0,r1,r2,r3,r4,r5,r6,r7,r8,r9,r10,r11,r12,r13⟩:Rul) L k p (AG L (k+1))) (aL (len:=X.length) (fun j v=>∃W,v=[.rows W,.int (j:Int)]∧W.length≤j∧(W.length:Int)=smi L Da k (AG L k+j)∧∀p,1≤p→W.any (Lq p)=Rz (⟨r0,r1,r2,r3,r4,r5,r6,r7,r8,r9,r10,r11,r12,r13⟩:Rul) L k p (AG L k+j)) _ ?_ ?_ N (by omega) ⟨[],rfl,Nat.le_refl _,(U8 _ (by rw[Nat.add_zero,sg.o0];omega)).symm,fun p _=>?_⟩) ?_
 ·rintro v self ⟨W,rfl,h1,h2,h3⟩
  simp only[PXb,Aq]
  grind
 ·rintro j v self hj ⟨W,rfl,h1,h2,h3⟩
  have pa:∀c,AD X j c=AA (Pj (⟨r0,r1,r2,r3,r4,r5,r6,r7,r8,r9,r10,r11,r12,r13⟩:Rul) L (AG L k+j)) c:=fun c=>by unfold AD;simp_all
  have mid:=sg.mid (AG L k+j) (by omega) (by omega);have sq:smi L Da k (AG L k+(j+1))=smi L Da k (AG L k+j)+Da (evR L (AG L k+j)):=by
   rw[←Nat.add_assoc,CM,mid,KE];rfl
  have ss:∀p,1≤p→Rz (⟨r0,r1,r2,r3,r4,r5,r6,r7,r8,r9,r10,r11,r12,r13⟩:Rul) L k p (AG L k+(j+1))=(Rz (⟨r0,r1,r2,r3,r4,r5,r6,r7,r8,r9,r10,r11,r12,r13⟩:Rul) L k p (AG L k+j)||KI (⟨r0,r1,r2,r3,r4,r5,r6,r7,r8,r9,r10,r11,r12,r13⟩:Rul) L (AG L k+j)==p):=fun p hp=>by
   rw[←Nat.add_assoc,AA5 hp mid]
  have oq:=op (AG L k+j) (by omega);rw[sq];generalize AG L k+j=q at *
  have p0:pvI (AA (Pj (⟨r0,r1,r2,r3,r4,r5,r6,r7,r8,r9,r10,r11,r12,r13⟩:Rul) L q) 0)=(q:Int):=rfl;have p21:pvI (AA (Pj (⟨r0,r1,r2,r3,r4,r5,r6,r7,r8,r9,r10,r11,r12,r13⟩:Rul) L q) 21)=KI (⟨r0,r1,r2,r3,r4,r5,r6,r7,r8,r9,r10,r11,r12,r13⟩:Rul) L q:=rfl;simp only[PXb,Ae hj,AM hj,Int.toNat_natCast,pa,p0,p21,Ao (show j≤1099511627776 by omega)];generalize KI (⟨r0,r1,r2,r3,r4,r5,r6,r7,r8,r9,r10,r11,r12,r13⟩:Rul) L q=o at *
  rcases oq with⟨o1,o2⟩|⟨o1,o2⟩
  ·have c:iLt 0 o=false:=by rw[o1];rfl
   rw[c,cond_false];refine⟨_,rfl,W,rfl,by omega,by omega,fun p hp=>?_⟩
   grind
  have c:iLt 0 o=true:=by simp only[iLt,decide_eq_true_eq];omega
  rw[c,cond_true];refine KG (Q:=fun _=>True) (XP hN hs h13 hl) (fun c _=>?_);refine KG (Q:=fun _=>True) ⟨_,Wv,trivial⟩ (fun d _=>?_);have sm:iSm ((W.length+1:Nat):Int) 32=true:=Dk (by omega) (by omega);simp only[PXb,List.length_append,List.length_cons,List.length_nil,Nat.reduceAdd,sm];refine⟨_,rfl,_,rfl,by simp_all,by simp_all,fun p hp=>?_⟩;rw[ss p hp,List.any_append,h3 p hp];show(_||(o==p||false))=_
  simp_all
 ·unfold Rz;rw[Nat.add_zero,xf _ (by rw[sg.o0];omega),jT _ (by rw[sg.o0];omega)];rfl
 rintro _ ⟨W,rfl,h⟩
 exact⟨_,rfl,W,rfl,h⟩
theorem uj(f:List PV→Bool):∀W:Rows,CE (fun j=>f (AB W j)) W.length 0=W.any f
 | []=>rfl
 |x::W=>by
  rw[List.any_cons,←uj f W];show CE _ (W.length+1) 0=_;rw[CZ,ZW];rfl
theorem Sn{N:Nat}{W:Rows}{Y:Rows}(hN:2097152<N)(hW:W.length≤1048576):Ch N [.rows W,.rows Y]=some [.bool (W.any (Lq (pvI (AD Y 0 0))))]:=by
 show Co (std (CR N) N) (xOf _)=_;simp only[Co,lq9,std,xOf,PXb];have it:=fun F h0 h1=>DF (F:=F) (len:=W.length) (FM fun j=>Lq (pvI (AD Y 0 0)) (AB W j)) h0 h1 W.length 0 N (Nat.zero_add _) (by omega)
 rw[←uj];have sn:=X1 (fun j=>Lq (pvI (AD Y 0 0)) (AB W j)) W.length 0;refine BZ (v:=[.int (match Be (FM fun j=>Lq (pvI (AD Y 0 0)) (AB W j)) W.length 0 with|some r=>pvI (AA r 0)|none => -1)]) (BZ (it _ ?_ ?_) ?_) ?_
 ·intro self;simp only[PXb,PXc,PXn,AH,Aq]
 ·intro i self hi;simp only[PXb,PXc,PXn,AH,Ae hi,AM hi,BN (show i≤1099511627776 by omega),Int.toNat_natCast];unfold FM;show cond (Lq (pvI (AD Y 0 0)) (AB W i)) _ _=match cond (Lq (pvI (AD Y 0 0)) (AB W i)) (some [PV.int (i:Int)]) none with|some r=>some (PV.int 0::r)|none=>self [.int ((i:Int)+1)]
  cases Lq (pvI (AD Y 0 0)) (AB W i)<;>rfl
 ·cases Be (FM fun j=>Lq (pvI (AD Y 0 0)) (AB W j)) W.length 0 with
  |none=>rfl
  |some r=>
   unfold Wq;simp only[PXb,PXc,PXn,AH];rfl
 rw[←sn];rfl
theorem iZ{N:Nat}{o:List Int}{F:Int→Ln}{W:Rows}(hN:2097152<N)(ho:o.length≤1048576)(hW:W.length≤1048576)(h:∀p,p∈o→W.any (Lq p)=(F p).out):GT N [.rows (AU o F),.rows W]=some [.bool true]:=by
 show GV (std (Du N) N) (xOf _)=_;simp only[GV,I0,lq9,std,xOf,PXb];refine AQ (BC (len:=o.length) (fun i=>[.int (i:Int)]) [.int 1] ?_ ?_ N (by omega)) rfl
 ·intro self;simp only[PXb,PXc,PXn,AH,Br,Aq]
 intro i self hi;have cr:=Zo (F:=F) hi;have m:o.getD i 0∈o:=by rw[zzl,zzo hi];exact List.getElem_mem _
 have pa:∀c,AD (AU o F) i c=AA (lnR (o.getD i 0) (F (o.getD i 0))) c:=fun c=>by unfold AD;rw[cr]
 have hp:=h _ m;generalize o.getD i 0=p at *
 have c0:pvI (AA (lnR p (F p)) 0)=p:=rfl;have c5:pvB (AA (lnR p (F p)) 5)=(F p).out:=rfl;simp only[PXb,Br,Int.toNat_natCast,Ae hi,AM hi,pa,Ao (show i≤1099511627776 by omega)];refine BZ (Sn hN hW) ?_;simp only[PXb,PXc,PXn,AH,c5];show cond (!((F p).out==W.any (Lq p))) _ _=_;rw[hp,beq_self_eq_true];rfl
theorem eV{F:(List AW→Option (List PV))→List PV→Option (List PV)}{len p:Nat}(enc:Nat→List AW)(stop fin:List PV)(hp:p≤len)
    (h0:p=len→∀self,F self ((enc len).map Leaf.pv)=some fin) (h1:∀i self,i<p→F self ((enc i).map Leaf.pv)=self (enc (i+1)))
    (h2:p<len→∀self,F self ((enc p).map Leaf.pv)=some stop) (n:Nat) (hn:len<n) :
    CP F n ((enc 0).map Leaf.pv)=some (cond (Nat.blt p len) stop fin):=by
  have main:∀(k i n:Nat),i+k=p→k<n→CP F n ((enc i).map Leaf.pv)=some (cond (Nat.blt p len) stop fin):=by
    intro k
    induction k with
    |zero=>
      intro i n hk hn;obtain⟨n,rfl⟩:∃m,n=m+1:=⟨n-1,by omega⟩;obtain rfl:i=p:=by omega
      show F _ _=_
      rcases Nat.lt_or_ge i len with h|h
      · rw[h2 h,show Nat.blt i len=true from Nat.ble_eq_true_of_le h];rfl
      obtain rfl:i=len:=by omega
      rw[h0 rfl,show Nat.blt i i=false from by
        cases hq:Nat.blt i i
        · rfl
        exact absurd (Nat.le_of_ble_eq_true hq) (by omega)]
      rfl
    |succ k ih=>
      intro i n hk hn;obtain⟨n,rfl⟩:∃m,n=m+1:=⟨n-1,by omega⟩;show F _ _=_;rw[h1 i _ (by omega)];exact ih (i+1) n (by omega) (by omega)
  exact main p 0 n (by omega) (by omega)
def KL(f:Nat→Bool):Nat→Nat→Nat
 |0,i=>i
 |k+1,i=>cond (f i) i (KL f k (i+1))
theorem OV(f:Nat→Bool):∀k i,KL f k i≤i+k
 |0,i=>Nat.le_refl _
 |k+1,i=>by
  show cond (f i) i (KL f k (i+1))≤_;have:=OV f k (i+1);cases f i
  ·show KL f k (i+1)≤_;omega
  show i≤_;omega
theorem Uh(f:Nat→Bool):∀k i j,i≤j→j<KL f k i→f j=false
 |0,i,j,h1,h2=>by change j<i at h2;omega
 |k+1,i,j,h1,h2=>by
  change j<cond (f i) i (KL f k (i+1))at h2;cases hf:f i
  ·rw[hf]at h2
   rcases Nat.lt_or_ge i j with h|h
   ·exact Uh f k (i+1) j h h2
   obtain rfl:j=i:=by omega
   exact hf
  rw[hf]at h2;change j<i at h2;omega
theorem Qo(f:Nat→Bool):∀k i,KL f k i<i+k→f (KL f k i)=true
 |0,i,h=>by change i<i at h;omega
 |k+1,i,h=>by
  change cond (f i) i (KL f k (i+1))<i+(k+1)at h;show f (cond (f i) i (KL f k (i+1)))=true;cases hf:f i
  ·rw[hf]at h;change KL f k (i+1)<i+(k+1)at h;exact Qo f k (i+1) (by omega)
  exact hf
structure BL where
 p:Int
 b:Int
 m:Int
 r:Int
 w:Int
 wd:Int
 nb:Int
def BL.ls(s:BL):List PV:=[.int s.p,.int s.b,.int s.m,.int s.r,.int s.w,.int s.wd,.int s.nb]
def BA(xs:List BL):Rows:=xs.map BL.ls
def zBL(b m:Int):BL:=⟨b,0,m,0,0,0,0⟩
def bln(xs:List BL)(i:Nat):BL:=xs.getD i (zBL 0 0)
theorem tg(xs:List BL)(i:Nat):bln xs i=(match xs[i]? with|some s=>s|none=>zBL 0 0):=by
 unfold bln;rw[zzl];cases xs[i]?<;>rfl
theorem YS{xs:List BL}{i:Nat}(h:i<xs.length):bln xs i=xs[i]:=by rw[tg,zzo h]
theorem xB(xs:List BL)(i:Nat):AB (BA xs) i=(match xs[i]? with|some s=>s.ls|none=>[]):=by
 unfold AB BA;rw[zzl,List.getElem?_map];cases xs[i]?<;>rfl
theorem OI(xs:List BL):(BA xs).length=xs.length:=List.length_map _
theorem PXv:(∀xs:List BL,(BA xs).length=xs.length)∧(∀(xs:List BL) (i:Nat),pvI (AD (BA xs) i 0)=(bln xs i).p)∧(∀(xs:List BL) (i:Nat),pvI (AD (BA xs) i 1)=(bln xs i).b)∧(∀(xs:List BL) (i:Nat),pvI (AD (BA xs) i 2)=(bln xs i).m)∧(∀(xs:List BL) (i:Nat),pvI (AD (BA xs) i 3)=(bln xs i).r) ∧
    (∀(xs:List BL) (i:Nat),pvI (AD (BA xs) i 4)=(bln xs i).w)∧(∀(xs:List BL) (i:Nat),pvI (AD (BA xs) i 5)=(bln xs i).wd)∧(∀(xs:List BL) (i:Nat),pvI (AD (BA xs) i 6)=(bln xs i).nb):=by
  refine⟨OI,?_,?_,?_,?_,?_,?_,?_⟩
  all_goals (intro xs i;rw[tg];unfold AD;rw[xB];cases xs[i]?<;>rfl)
theorem Lm{xs:List BL}{i j:Nat}{v:Int}(f:BL→BL)(h:∀s:BL,Ad s.ls j [.int v]=(f s).ls):(BA xs).set i (Ad (AB (BA xs) i) j [.int v])=BA (xs.set i (f (bln xs i))):=by
 by_cases hi:i<xs.length
 ·have e:AB (BA xs) i=(bln xs i).ls:=by rw[xB,tg,zzo hi]
  rw[e,h];exact List.map_set.symm
 rw[List.set_eq_of_length_le (by rw[OI];omega),List.set_eq_of_length_le (by omega)]
theorem PXx:(∀(xs:List BL) (i:Nat) (v:Int),(BA xs).set i (Ad (AB (BA xs) i) 1 [.int v])=BA (xs.set i { bln xs i with b:=v }))∧(∀(xs:List BL) (i:Nat) (v:Int),(BA xs).set i (Ad (AB (BA xs) i) 2 [.int v])=BA (xs.set i { bln xs i with m:=v })) ∧
    (∀(xs:List BL) (i:Nat) (v:Int),(BA xs).set i (Ad (AB (BA xs) i) 3 [.int v])=BA (xs.set i { bln xs i with r:=v }))∧(∀(xs:List BL) (i:Nat) (v:Int),(BA xs).set i (Ad (AB (BA xs) i) 4 [.int v])=BA (xs.set i { bln xs i with w:=v })) ∧
    (∀(xs:List BL) (i:Nat) (v:Int),(BA xs).set i (Ad (AB (BA xs) i) 5 [.int v])=BA (xs.set i { bln xs i with wd:=v }))∧(∀(xs:List BL) (i:Nat) (v:Int),(BA xs).set i (Ad (AB (BA xs) i) 6 [.int v])=BA (xs.set i { bln xs i with nb:=v })) ∧
    (∀(xs:List BL) (a b c d e f g:Int),BA xs++[([.int a,.int b,.int c,.int d,.int e,.int f,.int g]:List PV)]=BA (xs++[⟨a,b,c,d,e,f,g⟩])):=
  ⟨fun xs i v=>Lm (j:=1) (v:=v) (fun s=>{ s with b:=v }) (fun s=>rfl),fun xs i v=>Lm (j:=2) (v:=v) (fun s=>{ s with m:=v }) (fun s=>rfl),fun xs i v=>Lm (j:=3) (v:=v) (fun s=>{ s with r:=v }) (fun s=>rfl),fun xs i v=>Lm (j:=4) (v:=v) (fun s=>{ s with w:=v }) (fun s=>rfl),fun xs i v=>Lm (j:=5) (v:=v) (fun s=>{ s with wd:=v }) (fun s=>rfl),fun xs i v=>Lm (j:=6) (v:=v) (fun s=>{ s with nb:=v }) (fun s=>rfl),
    fun xs a b c d e f g=>(List.map_append (f:=BL.ls) (l₁:=xs) (l₂:=[⟨a,b,c,d,e,f,g⟩])).symm⟩
abbrev wr6(n:Int):Int:=IntKind.i64.wrap n
def blX(x:List PV)(md:Bool)(s:BL):BL:=⟨s.p,cond (pvB (AA x 26)) (wr6 (s.b+1)) s.b,cond md (wr6 (s.m+1)) s.m,wr6 (s.r+pvI (AA x 25)),cond (pvB (AA x 28)) (wr6 (s.w+1)) s.w,cond (pvI (AA x 8)==2) (wr6 (s.wd+1)) s.wd,cond (pvI (AA x 8)==2) s.nb (cond (pvI (AA x 8)==3) (wr6 (s.nb+1)) s.nb)⟩
def Fq(b:Int)(xs:List BL):Nat:=KL (fun j=>(bln xs j).p==b) xs.length 0
def aD(b:Int)(xs:List BL):List BL:=cond (Nat.blt (Fq b xs) xs.length) xs (xs++[zBL b 0])
def lf(x:List PV)(md:Bool)(xs:List BL):List BL:=(aD (pvI (AA x 4)) xs).set (Fq (pvI (AA x 4)) xs) (blX x md (bln (aD (pvI (AA x 4)) xs) (Fq (pvI (AA x 4)) xs)))
def N6(md:Nat→Bool)(X:Rows):Nat→List BL
 |0=>[]
 |i+1=>lf (AB X i) (md i) (N6 md X i)
def C6(md:Nat→Bool)(X:Rows)(b m0:Int):Nat→BL
 |0=>zBL b m0
 |i+1=>cond (pvI (AA (AB X i) 4)==b) (blX (AB X i) (md i) (C6 md X b m0 i)) (C6 md X b m0 i)
def boN(X:Rows):Nat→List Int
 |0=>[]
 |i+1=>cond ((boN X i).any (·==pvI (AA (AB X i) 4))) (boN X i) (boN X i++[pvI (AA (AB X i) 4)])
theorem pB(X:Rows):∀i,(boN X i).length≤i
 |0=>Nat.le_refl _
 |i+1=>by
  have:=pB X i;show(cond _ (boN X i) (boN X i++[_])).length≤i+1;cases(boN X i).any (·==pvI (AA (AB X i) 4))
  ·show(boN X i++[_]).length≤_;rw[List.length_append];exact Nat.succ_le_succ this
  exact Nat.le_succ_of_le this
theorem AAi{l:List Int}{b:Int}(h:l.any (·==b)=false):b∉l:=fun hm=>by
 have:l.any (·==b)=true:=List.any_eq_true.2 ⟨b,hm,beq_self_eq_true b⟩;rw[h]at this;cases this
theorem dN(X:Rows):∀i,(boN X i).Nodup
 |0=>List.nodup_nil
 |i+1=>by
  have ih:=dN X i;show(cond _ (boN X i) (boN X i++[_])).Nodup;cases ha:(boN X i).any (·==pvI (AA (AB X i) 4))
  ·refine List.nodup_append.2 ⟨ih,List.pairwise_singleton _ _,fun x hx y hy=>?_⟩;rw[List.mem_singleton.1 hy];exact fun e=>AAi ha (e▸hx)
  exact ih
theorem ACc(md:Nat→Bool)(X:Rows)(b m0:Int):∀i,(C6 md X b m0 i).p=b
 |0=>rfl
 |i+1=>by
  have ih:=ACc md X b m0 i;show(cond _ (blX _ _ (C6 md X b m0 i)) (C6 md X b m0 i)).p=b;cases pvI (AA (AB X i) 4)==b<;>exact ih
theorem uG(md:Nat→Bool)(X:Rows)(b m0:Int):∀i,b∉boN X i→C6 md X b m0 i=zBL b m0
 |0,_=>rfl
 |i+1,h=>by
  change b∉cond _ (boN X i) (boN X i++[_])at h;have h1:b∉boN X i∧(pvI (AA (AB X i) 4)==b)=false:=by
   cases ha:(boN X i).any (·==pvI (AA (AB X i) 4))
   ·rw[ha]at h;have h:b∉boN X i++[_]:=h;exact⟨fun hm=>h (List.mem_append_left _ hm),beq_eq_false_iff_ne.2 (fun e=>h (List.mem_append_right _ (by rw[e];exact List.mem_singleton.2 rfl)))⟩
   rw[ha]at h;refine⟨h,beq_eq_false_iff_ne.2 (fun e=>h ?_)⟩;obtain⟨y,hy,hye⟩:=List.any_eq_true.1 ha;rw[←e,←beq_iff_eq.1 hye];exact hy
  show cond _ (blX _ _ (C6 md X b m0 i)) (C6 md X b m0 i)=_;rw[h1.2];exact uG md X b m0 i h1.1
theorem kO{a b:Nat}(h:a<b):Nat.blt a b=true:=Nat.ble_eq_true_of_le h
theorem mQ{a b:Nat}(h:¬a<b):Nat.blt a b=false:=by
 cases hq:Nat.blt a b
 ·rfl
 exact absurd (Nat.le_of_ble_eq_true hq) h
theorem o8(md:Nat→Bool)(X:Rows):∀i,N6 md X i=(boN X i).map fun b=>C6 md X b 0 i
 |0=>rfl
 |i+1=>by
  have ih:=o8 md X i;have nd:=dN X i;show lf (AB X i) (md i) (N6 md X i)=(cond ((boN X i).any (·==pvI (AA (AB X i) 4))) (boN X i) (boN X i++[pvI (AA (AB X i) 4)])).map _;rw[ih];generalize hb:pvI (AA (AB X i) 4)=b;generalize hB:boN X i=B at *
  have ls1:∀c,C6 md X c 0 (i+1)=cond (b==c) (blX (AB X i) (md i) (C6 md X c 0 i)) (C6 md X c 0 i):=fun c=>by rw[←hb];rfl
  have hpj:∀j (hj:j<B.length),(bln (B.map fun b=>C6 md X b 0 i) j).p=B[j]:=fun j hj=>by
   rw[YS (by rw[List.length_map];exact hj),List.getElem_map,ACc]
  have ple:=OV (fun j=>(bln (B.map fun b=>C6 md X b 0 i) j).p==b) (B.map fun b=>C6 md X b 0 i).length 0;have pno:=Uh (fun j=>(bln (B.map fun b=>C6 md X b 0 i) j).p==b) (B.map fun b=>C6 md X b 0 i).length 0;have pyes:=Qo (fun j=>(bln (B.map fun b=>C6 md X b 0 i) j).p==b) (B.map fun b=>C6 md X b 0 i).length 0;unfold lf;rw[hb];change Fq b (B.map fun b=>C6 md X b 0 i)≤_ at ple;change∀j,0≤j→j<Fq b (B.map fun b=>C6 md X b 0 i)→_ at pno;change Fq b (B.map fun b=>C6 md X b 0 i)<_→((bln (B.map fun b=>C6 md X b 0 i) (Fq b (B.map fun b=>C6 md X b 0 i))).p==b)=true at pyes;rw[Nat.zero_add,List.length_map]at ple;rw[Nat.zero_add,List.length_map]at pyes;unfold aD;rw[List.length_map];generalize Fq b (B.map fun b=>C6 md X b 0 i)=p at *
  by_cases hp:p<B.length
  ·have hbp:B[p]=b:=by rw[←hpj p hp];exact beq_iff_eq.1 (pyes hp)
   have hany:B.any (·==b)=true:=List.any_eq_true.2 ⟨b,by rw[←hbp];exact List.getElem_mem hp,beq_self_eq_true b⟩;rw[kO hp,hany,cond_true,cond_true];apply List.ext_getElem
   ·simp
   intro j h1 h2o;have h2:j<B.length:=by rw[List.length_map]at h2o;exact h2o
   rw[List.getElem_set,show(List.map (fun b=>C6 md X b 0 (i+1)) B)[j]'h2o=C6 md X B[j] 0 (i+1)from List.getElem_map _,ls1]
   by_cases hj:p=j
   ·subst hj;rw[if_pos rfl,hbp,beq_self_eq_true,cond_true,YS (by rw[List.length_map];exact hp),List.getElem_map,hbp]
   rw[if_neg hj,List.getElem_map];have:¬b=B[j]:=fun e=>hj (by
    rcases Nat.lt_trichotomy p j with h|h|h
    ·exact absurd (hbp.trans e) (List.pairwise_iff_getElem.1 nd p j hp h2 h)
    ·exact h
    exact absurd (e.symm.trans hbp.symm) (List.pairwise_iff_getElem.1 nd j p h2 hp h))
   rw[beq_eq_false_iff_ne.2 this,cond_false]
  obtain rfl:p=B.length:=by omega
  have hno:b∉B:=fun hm=>by
   obtain⟨j,hj,e⟩:=List.getElem_of_mem hm;have:=pno j (Nat.zero_le _) hj;change((bln (B.map fun b=>C6 md X b 0 i) j).p==b)=false at this;rw[hpj j hj,e,beq_self_eq_true]at this;cases this
  have hany:B.any (·==b)=false:=by
   cases h:B.any (·==b)
   ·rfl
   obtain⟨y,hy,hye⟩:=List.any_eq_true.1 h;exact absurd (beq_iff_eq.1 hye▸hy) hno
  have hz:C6 md X b 0 i=zBL b 0:=uG md X b 0 i (by rw[hB];exact hno);rw[mQ hp,hany,cond_false,cond_false,List.map_append];have hs:bln ((B.map fun b=>C6 md X b 0 i)++[zBL b 0]) B.length=zBL b 0:=by
   rw[YS (by simp),List.getElem_append_right (by simp)];simp
  rw[hs,List.set_append_right _ _ (by simp)];have e1:(B.map fun b=>C6 md X b 0 (i+1))=B.map fun b=>C6 md X b 0 i:=List.map_congr_left (fun c hc=>by
   rw[ls1,beq_eq_false_iff_ne.2 (fun e=>hno (by rw[e];exact hc)),cond_false])
  rw[e1];simp only[List.length_map,Nat.sub_self,List.set_cons_zero,List.map_cons,List.map_nil,ls1,beq_self_eq_true,cond_true,hz]
def mdP(md:Nat→Bool)(X:Rows)(b:Int):Nat→Int
 |0=>0
 |i+1=>cond (pvI (AA (AB X i) 4)==b&&md i) (wr6 (mdP md X b i+1)) (mdP md X b i)
def JH(X:Rows)(o b:Int)(j:Nat):Bool:=(pvI (AA (AB X j) 2)==o)&&(!(pvI (AA (AB X j) 4)==b) || !(pvI (AA (AB X j) 25)==0))
def Cd(X:Rows)(o:Int):Nat→Int
 |0=>0
 |j+1=>cond ((pvI (AA (AB X j) 2)==o)&&pvB (AA (AB X j) 26)) (wr6 (Cd X o j+1)) (Cd X o j)
def mdS(bal:Int)(X:Rows)(o b:Int):Bool := !Nat.blt (KL (JH X o b) X.length 0) X.length&&(Cd X o X.length==bal)
def Z8(X:Rows)(i:Nat):Bool:=Nat.beq i 0 || !(pvI (AA (AB X (i-1)) 2)==pvI (AA (AB X i) 2))
def mdA(bal:Int)(X:Rows)(i:Nat):Bool:=Z8 X i&&mdS bal X (pvI (AA (AB X i) 2)) (pvI (AA (AB X i) 4))
theorem pI{bal:Int}{X:Rows}{o b:Int}:mdS bal X o b=true↔(∀j,j<X.length→(pvI (AA (AB X j) 2)==o)=true→(pvI (AA (AB X j) 4)==b)=true∧pvI (AA (AB X j) 25)=0)∧(Cd X o X.length==bal)=true:=by
 unfold mdS;rw[zzk];refine and_congr_left (fun _=>?_);have ple:=OV (JH X o b) X.length 0;have pno:=Uh (JH X o b) X.length 0;have pyes:=Qo (JH X o b) X.length 0;rw[Nat.zero_add]at ple pyes;generalize KL (JH X o b) X.length 0=p at *
 constructor
 ·intro h j hj hjo;have hp:¬p<X.length:=fun hl=>by rw[kO hl]at h;cases h
  have:=pno j (Nat.zero_le _) (by omega);unfold JH at this;rw[hjo,Bool.true_and,Bool.or_eq_false_iff,Bool.not_eq_false',Bool.not_eq_false']at this;exact⟨this.1,beq_iff_eq.1 this.2⟩
 intro h;rw[mQ (fun hl=>?_)];rfl;have:=pyes hl;unfold JH at this;rw[zzk]at this;obtain⟨h1,h2⟩:=h _ hl this.1;have h3:=this.2;simp only[beq_iff_eq.1 h1,h2,beq_self_eq_true]at h3;exact absurd h3 (by decide)
set_option maxHeartbeats 2000000 in
theorem VO{N:Nat}{r8:Bool}{r0:ByteArray}{r13:Rows}{X:Rows}{o:Int}{b:Int}(hN:2097152<N)(hX:X.length≤1000000):JR N [.str r0,.int r1,.int r2,.int r3,.int r4,.int r5,.int r6,.int r7,.bool r8,.int r9,.int r10,.int r11,.int r12,.rows r13,.rows X,.int o,.int b]=some [.bool (mdS r4 X o b)]:=by
 show JO (std (SK N) N) (xOf _)=_;simp only[JO,lq9,std,xOf,PXb];have ple:=OV (JH X o b) X.length 0;have pno:=Uh (JH X o b) X.length 0;have pyes:=Qo (JH X o b) X.length 0;rw[Nat.zero_add]at ple pyes;refine AQ (eV (len:=X.length) (p:=KL (JH X o b) X.length 0) (fun i=>[.int (Cd X o i),.int (i:Int)]) [.int 0,.bool false] [.int 1,.int (Cd X o X.length)] ple ?_ ?_ ?_ N (by omega)) ?_
 ·intro _ self;simp only[PXb,PXc,PXn,AH,Aq]
 ·intro i self hi;have hb:=pno i (Nat.zero_le _) hi;unfold JH at hb;have hl:i<X.length:=by omega
  simp only[PXb,PXc,PXn,AH,Ao (show i≤1099511627776 by omega),Ae hl,AM hl,AD,Cd];cases h1:pvI (AA (AB X i) 2)==o
  ·rfl
  rw[h1,Bool.true_and]at hb;cases h2:pvI (AA (AB X i) 4)==b<;>cases h3:pvI (AA (AB X i) 25)==0<;>rw[h2,h3]at hb<;>first|(cases hb;done)|(cases pvB (AA (AB X i) 26)<;>rfl)
 ·intro hl self;have hb:=pyes hl;generalize KL (JH X o b) X.length 0=p at *
  unfold JH at hb;simp only[PXb,PXc,PXn,AH,Ae hl,AM hl,AD];cases h1:pvI (AA (AB X p) 2)==o<;>cases h2:pvI (AA (AB X p) 4)==b<;>cases h3:pvI (AA (AB X p) 25)==0<;>rw[h1,h2,h3]at hb<;>first|(cases hb;done)|rfl
 unfold mdS;cases Nat.blt (KL (JH X o b) X.length 0) X.length<;>rfl
def jg(x:List PV):Prop:=x.length=32∧Fw x=x
theorem pU{L:Rows}:∀k i m out,(∀x∈out,jg x)→∀x∈HH L k i m out,jg x
 |0,i,m,out,h=>h
 |k+1,i,m,out,h=>by
  show∀x∈HH L k (i+1) (BI i m (evR L i)).1 (cond ((evR L i).kind==4) (out++[Ca i m (BI i m (evR L i)).1 (evR L i).ball]) out),jg x;refine pU k (i+1) _ _ ?_;cases(evR L i).kind==4
  ·exact h
  intro x hx
  rcases List.mem_append.1 hx with hx|hx
  ·exact h x hx
  rw[List.mem_singleton.1 hx];exact⟨rfl,rfl⟩
theorem wL{r:Rul}{L:Rows}(hc:Ah r L=0):∀x∈BG r L,jg x:=by
 obtain⟨h1,h2,h3,h4,h5⟩:=Bv hc;have:BG r L=HH L L.length 0 (AO r).1 []:=by
  unfold BG;rw[h1];obtain⟨j,j1,j2,j3,j4⟩:=Ul L L.length 0 (AO r).1;show ML L L.length 0 (AO r).1 []=_;rw[j3 []]
  rcases j4 with⟨j5,_⟩|⟨j5,j6,j7⟩
  ·rw[j5]
  have hh:=PP L.length 0 _ h4 j j5;rw[hh]at j6;cases j6
 rw[this];exact pU _ _ _ _ (fun x hx=>absurd hx List.not_mem_nil)
theorem nB{k:Int}:∀{A:Rows},(∀x∈A,jg x)→(∀x∈A,(pvI (AA x 1)==k)=true)→fil k A=A
 | [],_,_=>rfl
 |x::A,h,h1=>by
  show cond (pvI (AA x 1)==k) (Fw x::fil k A) (fil k A)=_;rw[h1 x zzm,nB (fun y hy=>h y (zzn _ hy)) (fun y hy=>h1 y (zzn _ hy)),(h x zzm).2];rfl
theorem SW{D:Rows}{i:Nat}(h:i<D.length):AB D i∈D:=by
 unfold AB;rw[zzl,zzo h];exact List.getElem_mem h
theorem wM{D:Rows}{x:List PV}{n:Nat}(h:x∈D.take n):∃j,j<n∧j<D.length∧x=AB D j:=by
 obtain⟨j,hj,e⟩:=List.getElem_of_mem h;rw[List.length_take]at hj;refine⟨j,by omega,by omega,?_⟩;rw[←e,List.getElem_take];unfold AB;rw[zzl,zzo (by omega)];rfl
theorem l8:∀(ps r:List PV) (off:Nat),r.length=off+ps.length→Ad r off ps=r.take off++ps
 | [],r,off,h=>by
  show r=_;rw[List.append_nil,List.take_of_length_le (by simpa using Nat.le_of_eq h)]
 |p::ps,r,off,h=>by
  show Ad (r.set off p) (off+1) ps=_;have hl:off<r.length:=by rw[h];simp
  rw[l8 ps (r.set off p) (off+1) (by rw[List.length_set,h];simp;omega),List.take_add_one,List.getElem?_set_self hl,List.take_set_of_le (Nat.le_refl _)];simp
theorem wB{ps r:List PV}(h:r.length=ps.length):Ad r 0 ps=ps:=by rw[l8 ps r 0 (by omega)];rfl
def dlN(D:Rows)(k:Int)(p:Nat):Nat→Rows×Nat
 |0=>(D,p)
 |t+1=>cond (pvI (AA (AB (dlN D k p t).1 (p+1+t)) 1)==k) ((dlN D k p t).1.set (dlN D k p t).2 (Fw (AB (dlN D k p t).1 (p+1+t))),(dlN D k p t).2+1) (dlN D k p t)
structure DlF(D:Rows)(k:Int)(p t:Nat):Prop where
 len:(dlN D k p t).1.length=D.length
 le:(dlN D k p t).2≤p+t
 cut:(dlN D k p t).1.take (dlN D k p t).2=fil k (D.take (p+1+t))
 rest:∀j,p+1+t≤j→AB (dlN D k p t).1 j=AB D j
 row:∀x∈(dlN D k p t).1,jg x
theorem AEh{D:Rows}{k:Int}{p:Nat}(hD:∀x∈D,jg x)(hp:p<D.length)(h0:∀j,j<p→(pvI (AA (AB D j) 1)==k)=true)(h1:(pvI (AA (AB D p) 1)==k)=false):∀t,p+1+t≤D.length→DlF D k p t
 |0,_=>by
  refine⟨rfl,Nat.le_refl _,?_,fun j _=>rfl,hD⟩;show D.take p=fil k (D.take (p+1));rw[Zg hp,show pvI (AD D p 1)=pvI (AA (AB D p) 1)from rfl,h1,cond_false,nB (fun x hx=>hD x (List.mem_of_mem_take hx)) (fun x hx=>by
   obtain⟨j,h2,h3,rfl⟩:=wM hx;exact h0 j h2)]
 |t+1,ht=>by
  obtain⟨f1,f2,f3,f4,f5⟩:=AEh hD hp h0 h1 t (by omega);have hj:p+1+t<D.length:=by omega
  have hr:=f4 (p+1+t) (Nat.le_refl _);have ft:=Zg (k:=k) hj;rw[show pvI (AD D (p+1+t) 1)=pvI (AA (AB D (p+1+t)) 1)from rfl]at ft;have e:dlN D k p (t+1)=cond (pvI (AA (AB D (p+1+t)) 1)==k) ((dlN D k p t).1.set (dlN D k p t).2 (Fw (AB D (p+1+t))),(dlN D k p t).2+1) (dlN D k p t):=by rw[←hr];rfl
  cases hk:pvI (AA (AB D (p+1+t)) 1)==k
  ·rw[hk,cond_false]at e ft;exact⟨by rw[e];exact f1,by rw[e];omega,by rw[e,f3,show p+1+(t+1)=p+1+t+1 by omega,ft],fun j hj2=>by rw[e];exact f4 j (by omega),by rw[e];exact f5⟩
  rw[hk,cond_true]at e ft;have hl:(dlN D k p t).2<(dlN D k p t).1.length:=by omega
  refine⟨by rw[e];show(List.set _ _ _).length=_;rw[List.length_set];exact f1,by rw[e];show(dlN D k p t).2+1≤_;omega,?_,fun j hj2=>?_,?_⟩
  ·rw[e,show p+1+(t+1)=p+1+t+1 by omega,ft,←f3];show((dlN D k p t).1.set (dlN D k p t).2 _).take ((dlN D k p t).2+1)=_;rw[List.take_add_one,List.getElem?_set_self hl,List.take_set_of_le (Nat.le_refl _)];rfl
  ·rw[e,←f4 j (by omega)];show AB ((dlN D k p t).1.set (dlN D k p t).2 _) j=_;unfold AB;simp only[zzl,List.getElem?_set_ne (show(dlN D k p t).2≠j by omega)]
  rw[e];intro x hx
  rcases List.mem_or_eq_of_mem_set hx with h|h
  ·exact f5 x h
  have:=hD _ (SW hj);rw[h,this.2];exact this
def Xt(r:Rul)(L:Rows)(k:Int):Rows×Int:=cond ((BQ r L k).2==0) (BA (N6 (mdA r.balls (BQ r L k).1) (BQ r L k).1 (BQ r L k).1.length),0) ([],(BQ r L k).2)
def ACk(x:List PV):List AW:=[.int (pvI (AA x 0)),.int (pvI (AA x 1)),.int (pvI (AA x 2)),.int (pvI (AA x 3)),.int (pvI (AA x 4)),.int (pvI (AA x 5)),.int (pvI (AA x 6)),.bool (pvB (AA x 7)),.int (pvI (AA x 8)),.int (pvI (AA x 9)),.int (pvI (AA x 10)),.int (pvI (AA x 11)),.int (pvI (AA x 12)),.bool (pvB (AA x 13)),.int (pvI (AA x 14)),.int (pvI (AA x 15)),.int (pvI (AA x 16)),.int (pvI (AA x 17)),.bool (pvB (AA x 18)),.int (pvI (AA x 19)),.int (pvI (AA x 20)),.int (pvI (AA x 21)),.int (pvI (AA x 22)),.int (pvI (AA x 23)),.int (pvI (AA x 24)),.int (pvI (AA x 25)),.bool (pvB (AA x 26)),.bool (pvB (AA x 27)),.bool (pvB (AA x 28)),.bool (pvB (AA x 29)),.int (pvI (AA x 30)),.int (pvI (AA x 31))]
theorem ADH{ys:List BL}{p:Nat}(h:p<ys.length)(s:BL):bln (ys.set p s) p=s:=by rw[YS (by rw[List.length_set];exact h),List.getElem_set_self]
theorem ADQ(b:Int)(xs:List BL):Fq b xs<(aD b xs).length∧(aD b xs).length≤xs.length+1:=by
 have ple:=OV (fun j=>(bln xs j).p==b) xs.length 0;rw[Nat.zero_add]at ple;change Fq b xs≤xs.length at ple;unfold aD
 by_cases h:Fq b xs<xs.length
 ·rw[kO h,cond_true];exact⟨h,Nat.le_succ _⟩
 rw[mQ h,cond_false,List.length_append];exact⟨by simp only[List.length_cons,List.length_nil];omega,Nat.le_refl _⟩
theorem PXw:(∀(xs:List BL) (i:Nat),pvI (AA (AB (BA xs) i) 0)=(bln xs i).p)∧(∀(xs:List BL) (i:Nat),pvI (AA (AB (BA xs) i) 1)=(bln xs i).b)∧(∀(xs:List BL) (i:Nat),pvI (AA (AB (BA xs) i) 2)=(bln xs i).m)∧(∀(xs:List BL) (i:Nat),pvI (AA (AB (BA xs) i) 3)=(bln xs i).r)∧(∀(xs:List BL) (i:Nat),pvI (AA (AB (BA xs) i) 4)=(bln xs i).w)∧(∀(xs:List BL) (i:Nat),pvI (AA (AB (BA xs) i) 5)=(bln xs i).wd)∧(∀(xs:List BL) (i:Nat),pvI (AA (AB (BA xs) i) 6)=(bln xs i).nb):=PXv.2
theorem AE0{N:Nat}(hN:2097152<N){xs:List BL}(hx:xs.length≤1000000){b:Int}{J:List AW}{F:(List AW→Option (List PV))→List PV→Option (List PV)}
    (h0:∀self,F self (.int (xs.length:Int)::J.map Leaf.pv)=some (.int 1::J.map Leaf.pv)) (h1:∀i self,i<xs.length→F self (.int (i:Int)::J.map Leaf.pv)=cond ((bln xs i).p==b) (some (.int 0::.int (i:Int)::J.map Leaf.pv)) (self (.int ((i+1:Nat):Int)::J))) :
    CP F N (.int 0::J.map Leaf.pv)=some (cond (Nat.blt (Fq b xs) xs.length) (.int 0::.int (Fq b xs:Int)::J.map Leaf.pv) (.int 1::J.map Leaf.pv)):=by
  have ple:=OV (fun j=>(bln xs j).p==b) xs.length 0;have pno:=Uh (fun j=>(bln xs j).p==b) xs.length 0;have pyes:=Qo (fun j=>(bln xs j).p==b) xs.length 0;rw[Nat.zero_add]at ple pyes;have:=eV (F:=F) (len:=xs.length) (p:=Fq b xs) (fun i=>.int (i:Int)::J) (.int 0::.int (Fq b xs:Int)::J.map Leaf.pv) (.int 1::J.map Leaf.pv) ple (fun _ self=>h0 self) (fun i self hi=>by
    have:=h1 i self (Nat.lt_of_lt_of_le hi ple);rw[show((bln xs i).p==b)=false from pno i (Nat.zero_le _) hi]at this;exact this) (fun hl self=>by
    have:=h1 (Fq b xs) self hl;rw[show((bln xs (Fq b xs)).p==b)=true from pyes hl]at this;exact this) N (by omega)
  exact this
set_option maxHeartbeats 8000000 in
theorem TW{N:Nat}{r8:Bool}{r0:ByteArray}{r13:Rows}{L:Rows}{k:Int}(hN:2097152<N)(hs:r0.size≤1048576)(h13:r13.length≤1048576)(hL:L.length≤1000000):CJ N [.str r0,.int r1,.int r2,.int r3,.int r4,.int r5,.int r6,.int r7,.bool r8,.int r9,.int r10,.int r11,.int r12,.rows r13,.rows L,.int k]=some [.rows (Xt (⟨r0,r1,r2,r3,r4,r5,r6,r7,r8,r9,r10,r11,r12,r13⟩:Rul) L k).1,.int (Xt (⟨r0,r1,r2,r3,r4,r5,r6,r7,r8,r9,r10,r11,r12,r13⟩:Rul) L k).2]:=by
 show Ff (std (Bu N) N) (xOf _)=_;generalize hres:(some [.rows (Xt (⟨r0,r1,r2,r3,r4,r5,r6,r7,r8,r9,r10,r11,r12,r13⟩:Rul) L k).1,.int (Xt (⟨r0,r1,r2,r3,r4,r5,r6,r7,r8,r9,r10,r11,r12,r13⟩:Rul) L k).2]:Option (List PV))=RR;have hl:L.length≤1048576:=by omega
 simp only[Ff,Pq,Sc,S8,Nt,lq9,std,xOf,PXb,Hw hN hs h13 hl,Ds hN hl,Je hN hs h13 hl,Ps,PXc];subst hres;simp only[Xt,BQ];cases hc:Ah (⟨r0,r1,r2,r3,r4,r5,r6,r7,r8,r9,r10,r11,r12,r13⟩:Rul) L==0
 ·simp only[PXb,Bool.not_false,hc]
 have c0:=beq_iff_eq.1 hc;have pl:=PK (⟨r0,r1,r2,r3,r4,r5,r6,r7,r8,r9,r10,r11,r12,r13⟩:Rul) L;have l4:=(Bv c0).2.2.1;have rd:=wL c0;cases h0:iLt k 0
 ·simp only[PXb,Bool.not_true,Bool.not_false,PXp,IV];cases h1:iLe (opn L L.length:Int) k
  ·simp only[PXb];generalize BG (⟨r0,r1,r2,r3,r4,r5,r6,r7,r8,r9,r10,r11,r12,r13⟩:Rul) L=D at *
   have ple:=OV (fun j => !(pvI (AA (AB D j) 1)==k)) D.length 0;have pno:=Uh (fun j => !(pvI (AA (AB D j) 1)==k)) D.length 0;have pyes:=Qo (fun j => !(pvI (AA (AB D j) 1)==k)) D.length 0;rw[Nat.zero_add]at ple pyes;generalize KL (fun j => !(pvI (AA (AB D j) 1)==k)) D.length 0=p at *
   refine BZ (v:=[.rows (fil k D),.int k]) ?_ ?_
   ·refine BZ (v:=[.int (cond (Nat.blt p D.length) (p:Int) (-1)),.int k]) ?_ ?_
    ·refine AQ (eV (len:=D.length) (p:=p) (fun i=>[.int (i:Int),.int k]) [.int 0,.int (p:Int),.int k] [.int 1,.int k] ple ?_ ?_ ?_ N (by omega)) ?_
     ·intro _ self;simp only[PXb,PXc,PXn,AH,Aq]
     ·intro i self hi;have hb:=pno i (Nat.zero_le _) hi;have hl2:i<D.length:=by omega
      simp only[PXb,PXc,PXn,AH,Ao (show i≤1099511627776 by omega),Ae hl2,AM hl2,AD,hb]
     ·intro hl2 self;have hb:=pyes hl2;simp only[PXb,PXc,PXn,AH,Ae hl2,AM hl2,AD,hb]
     cases Nat.blt p D.length<;>rfl
    by_cases hp:p<D.length
    ·have f:=AEh rd hp (fun j hj=>by
      have:=pno j (Nat.zero_le _) hj
      rwa[Bool.not_eq_false']at this) (by
      have:=pyes hp
      rwa[Bool.not_eq_true']at this)
     have pm:((p:Int) == -1)=false:=beq_eq_false_iff_ne.2 (by omega);have e9:p+1+(D.length-(p+1))=D.length:=by omega
     simp only[PXb,kO hp,pm,Ao (show p≤1099511627776 by omega)];refine AQ (BC (len:=D.length-(p+1)) (fun t=>[.rows (dlN D k p t).1,.int ((dlN D k p t).2:Int),.int ((p+1+t:Nat):Int),.int k]) [.rows (dlN D k p (D.length-(p+1))).1,.int ((dlN D k p (D.length-(p+1))).2:Int),.int k] ?_ ?_ N (by omega)) ?_
     ·intro self;have fl:=(f (D.length-(p+1)) (by omega)).len;have el:(dlN D k p (D.length-(p+1))).1.length=p+1+(D.length-(p+1)):=by omega
      simp only[PXb,PXc,PXn,AH,el,Aq]
     ·intro t self ht;obtain⟨f1,f2,f3,f4,f5⟩:=f t (by omega);have hj:p+1+t<(dlN D k p t).1.length:=by omega
      have hi:(dlN D k p t).2<(dlN D k p t).1.length:=by omega
      have rl:=(f5 _ (SW hi)).1;have rj:=(f5 _ (SW hj)).1;have e:dlN D k p (t+1)=cond (pvI (AA (AB (dlN D k p t).1 (p+1+t)) 1)==k) ((dlN D k p t).1.set (dlN D k p t).2 (Fw (AB (dlN D k p t).1 (p+1+t))),(dlN D k p t).2+1) (dlN D k p t):=rfl;have pf:Ad (AB (dlN D k p t).1 (dlN D k p t).2) 0 (Fw (AB (dlN D k p t).1 (p+1+t)))=Fw (AB (dlN D k p t).1 (p+1+t)):=wB (by rw[rl];rfl);rw[e];generalize dlN D k p t=q at *
      simp only[PXb,PXc,PXn,AH,Ae hj,AM hj,AM hi,Ao (show p+1+t≤1099511627776 by omega),Ao (show q.2≤1099511627776 by omega),AD,Int.toNat_natCast];cases pvI (AA (AB q.1 (p+1+t)) 1)==k
      ·rfl
      refine congrArg self ?_;refine congrArg (fun z:Rows=>([Leaf.rows z,.int ((q.2+1:Nat):Int),.int ((p+1+t+1:Nat):Int),.int k]:List AW)) ?_;exact congrArg (fun z=>List.set q.1 q.2 z) pf
     obtain⟨f1,f2,f3,f4,f5⟩:=f (D.length-(p+1)) (by omega);rw[e9,List.take_length]at f3;generalize dlN D k p (D.length-(p+1))=q at *
     have g1:iRg (q.2:Int) (q.1.length:Int) (q.1.length:Int)=true:=by simp only[iRg,decide_eq_true_eq];omega
     have t1:∀z:List PV,(List.drop (Int.toNat 0) (List.take q.2 q.1)++List.replicate (List.drop q.2 (List.take q.1.length q.1)).length z).take q.2=fil k D:=fun z=>by
      rw[←f3];show List.take q.2 (List.take q.2 q.1++_)=_;rw[List.take_append_of_le_length (by rw[List.length_take];omega),List.take_take,Nat.min_self]
     have t2:∀z:List PV,iRg 0 (q.2:Int) (((List.drop (Int.toNat 0) (List.take q.2 q.1)++List.replicate (List.drop q.2 (List.take q.1.length q.1)).length z).length:Nat):Int)=true:=fun z=>by
      simp only[iRg,decide_eq_true_eq,List.length_append,List.length_drop,List.length_take];have:(Int.toNat 0)=0:=rfl;omega
     simp only[PXb,PXc,PXn,AH,g1,Int.toNat_natCast,t1,t2];rfl
    have pe:p=D.length:=by omega
    have fa:fil k D=D:=nB rd (fun x hx=>by
     obtain⟨j,hj,e⟩:=List.getElem_of_mem hx;have:=pno j (Nat.zero_le _) (by omega);rw[Bool.not_eq_false']at this;rw[←e];unfold AB at this
     rwa[zzl,zzo hj]at this)
    have pm:((-1:Int) == -1)=true:=rfl;simp only[PXb,mQ hp,pm,fa]
   have X4:(fil k D).length≤1000000:=Nat.le_trans (pE k D) (by omega);generalize fil k D=X at *
   simp only[PXb];refine AQ (BC (len:=X.length) (fun i=>[.rows (BA (N6 (mdA r4 X) X i)),.int (i:Int)]) [.rows (BA (N6 (mdA r4 X) X X.length))] ?_ ?_ N (by omega)) rfl
   ·intro self;simp only[PXb,PXc,PXn,AH,Aq]
   intro i self hi;have e:N6 (mdA r4 X) X (i+1)=lf (AB X i) (mdA r4 X i) (N6 (mdA r4 X) X i):=rfl;have ln:(N6 (mdA r4 X) X i).length≤i:=by rw[o8,List.length_map];exact pB X i
   rw[e];generalize N6 (mdA r4 X) X i=xs at *
   simp only[PXb,PXc,PXn,AH,Ae hi,AM hi,AD];have hnew:Z8 X i=(Nat.beq i 0 || !(pvI (AA (AB X (i-1)) 2)==pvI (AA (AB X i) 2))):=rfl;have hmd:mdA r4 X i=(Z8 X i&&mdS r4 X (pvI (AA (AB X i) 2)) (pvI (AA (AB X i) 4))):=rfl;rw[hmd,hnew];generalize AB X i=x at *
   obtain⟨pa1,pa2⟩:=ADQ (pvI (AA x 4)) xs;refine BZ (v:=.int (cond (Nat.blt (Fq (pvI (AA x 4)) xs) xs.length) (Fq (pvI (AA x 4)) xs:Int) (-1))::Fw x) ?_ ?_
   ·refine AQ (AE0 hN (show xs.length≤1000000 by omega) (b:=pvI (AA x 4)) (J:=ACk x) ?_ ?_) ?_
    ·intro self;simp only[PXb,PXc,PXn,AH,PXv,Aq];rfl
    ·intro j self hj;simp only[PXb,PXc,PXn,AH,PXw,Ao (show j≤1099511627776 by omega),Ae (show j<(BA xs).length by rw[OI];exact hj),AM (show j<(BA xs).length by rw[OI];exact hj),ACk]
    cases Nat.blt (Fq (pvI (AA x 4)) xs) xs.length<;>rfl
   refine BZ (v:=[.rows (BA (aD (pvI (AA x 4)) xs)),.int (Fq (pvI (AA x 4)) xs:Int)]) ?_ ?_
   ·have ple:=OV (fun j=>(bln xs j).p==pvI (AA x 4)) xs.length 0;rw[Nat.zero_add]at ple;change Fq (pvI (AA x 4)) xs≤xs.length at ple;unfold aD;simp only[PXb,PXc,PXn,AH,Fw];generalize Fq (pvI (AA x 4)) xs=q at *
    by_cases hq:q<xs.length
    ·have q0:iLt (q:Int) 0=false:=by simp only[iLt,decide_eq_false_iff_not];omega
     simp only[kO hq,cond_true,q0,cond_false]
    obtain rfl:q=xs.length:=by omega
    have q0:iLt (-1) 0=true:=rfl;have sm:iSm ((xs.length+1:Nat):Int) 56=true:=Dk (by omega) (by omega);have w1:IntKind.i64.wrap (((xs.length+1:Nat):Int)-1)=(xs.length:Int):=by rw[A0 (by omega) (by omega)];omega
    simp only[mQ hq,cond_false,q0,cond_true,OI,List.length_append,List.length_cons,List.length_nil,Nat.zero_add,sm,w1,PXx];rfl
   unfold lf;generalize aD (pvI (AA x 4)) xs=ys at *
   generalize Fq (pvI (AA x 4)) xs=q at *
   have iq:iIn (q:Int) ((BA ys).length:Int)=true:=by rw[OI];exact AM pa1
   have bs:=fun s=>ADH pa1 s
   have hz:((i:Int)==0)=Nat.beq i 0:=by
    cases i with
    |zero=>rfl
    |succ i=>exact beq_eq_false_iff_ne.2 (by omega)
   have hw:Nat.beq i 0=false→IntKind.i64.wrap ((i:Int)-1)=((i-1:Nat):Int)∧iIn ((i-1:Nat):Int) (X.length:Int)=true:=fun h=>by
    have:i≠0:=fun e=>by rw[e]at h;cases h
    exact⟨by rw[A0 (by omega) (by omega)];omega,AM (by omega)⟩
   have fin:∀{K:Option (List PV)} {y z:BL},K=self [.rows (BA (ys.set q y)),.int ((i+1:Nat):Int)]→y=z→K=self [.rows (BA (ys.set q z)),.int ((i+1:Nat):Int)]:=fun{K y z} h e=>by rw[h,e]
   unfold blX;have wi:IntKind.i64.wrap ((i:Int)+1)=((i+1:Nat):Int):=Ao (show i≤1099511627776 by omega);cases hn:Nat.beq i 0
   ·obtain⟨w1,w2⟩:=hw hn;cases ho:pvI (AA (AB X (i-1)) 2)==pvI (AA x 2)
    ·cases hct:pvB (AA x 26)<;>cases hwk:pvB (AA x 28)<;>cases ht2:pvI (AA x 8)==2<;>cases ht3:pvI (AA x 8)==3<;>simp only[PXb,PXc,PXn,AH,Fw,iq,PXx,PXw,Int.toNat_natCast,bs,List.set_set,hct,hwk,ht2,ht3,hz,hn,wi,w1,w2,ho]<;>(refine BZ (VO hN X4) ?_;cases mdS r4 X (pvI (AA x 2)) (pvI (AA x 4))<;>rfl)
    cases hct:pvB (AA x 26)<;>cases hwk:pvB (AA x 28)<;>cases ht2:pvI (AA x 8)==2<;>cases ht3:pvI (AA x 8)==3<;>simp only[PXb,PXc,PXn,AH,Fw,iq,PXx,PXw,Int.toNat_natCast,bs,List.set_set,hct,hwk,ht2,ht3,hz,hn,wi,w1,w2,ho]<;>rfl
   cases hct:pvB (AA x 26)<;>cases hwk:pvB (AA x 28)<;>cases ht2:pvI (AA x 8)==2<;>cases ht3:pvI (AA x 8)==3<;>simp only[PXb,PXc,PXn,AH,Fw,iq,PXx,PXw,Int.toNat_natCast,bs,List.set_set,hct,hwk,ht2,ht3,hz,hn,wi]<;>(refine BZ (VO hN X4) ?_;cases mdS r4 X (pvI (AA x 2)) (pvI (AA x 4))<;>rfl)
  rfl
 rfl
theorem AEA{r:Rul}(rk:RulOk r){x:List PV}(h:RowF r x):0≤pvI (AA x 25)∧pvI (AA x 25)≤36:=by
 obtain⟨d,h0,h1,h2,h3,h4,h5⟩:=h.cre;have:=AFv rk { (evR [] 0)with kind:=4,ball:=d };rw[h5];exact this
def A4(f:List PV→Int):Rows→Int
 | []=>0
 |x::D=>f x+A4 f D
theorem Z0(f:List PV→Int):∀A B,A4 f (A++B)=A4 f A+A4 f B
 | [],B=>by rw[List.nil_append];show _=0+A4 f B;omega
 |x::A,B=>by
  have:=Z0 f A B;show f x+A4 f (A++B)=f x+A4 f A+A4 f B;omega
theorem K6(f:List PV→Int){D:Rows}{i:Nat}(h:i<D.length):A4 f (D.take (i+1))=A4 f (D.take i)+f (AB D i):=by
 rw[OB h,Z0];show _+(f (AB D i)+0)=_;omega
theorem vQ{f:List PV→Int}{c:Int}:∀(D:Rows),(∀x,x∈D→0≤f x∧f x≤c)→0≤A4 f D∧A4 f D≤c*(D.length:Int)
 | [],_=>by
  show(0:Int)≤0∧(0:Int)≤c*((0:Nat):Int);omega
 |x::D,h=>by
  have ih:=vQ D (fun y hy=>h y (zzn _ hy));have h1:=h x zzm;have e:c*(((x::D).length:Nat):Int)=c*(D.length:Int)+c:=by rw[List.length_cons,show((D.length+1:Nat):Int)=(D.length:Int)+1 by omega,Int.mul_add,Int.mul_one]
  rw[e];show 0≤f x+A4 f D∧f x+A4 f D≤_;omega
theorem xm{f g:List PV→Int}:∀(D:Rows),(∀x,x∈D→f x≤g x)→A4 f D≤A4 g D
 | [],_=>Int.le_refl _
 |x::D,h=>by
  have ih:=xm D (fun y hy=>h y (zzn _ hy));have h1:=h x zzm;show f x+A4 f D≤g x+A4 g D;omega
theorem se{f g h:List PV→Int}{a b:Int}:∀(D:Rows),(∀x,x∈D→f x*a+g x*b=h x)→A4 f D*a+A4 g D*b=A4 h D
 | [],_=>by show(0:Int)*a+0*b=0;rw[Int.zero_mul,Int.zero_mul];rfl
 |x::D,e=>by
  have ih:=se D (fun y hy=>e y (zzn _ hy));have h1:=e x zzm;show(f x+A4 f D)*a+(g x+A4 g D)*b=h x+A4 h D;rw[Int.add_mul,Int.add_mul];omega
def bwX(x:List PV):Int:=pvI (AA x 4)
def Mb(x:List PV):Int:=cond (pvB (AA x 26)) 1 0
def K8(x:List PV):Int:=pvI (AA x 25)
def Gf(x:List PV):Int:=cond (pvB (AA x 28)) 1 0
def wdX(x:List PV):Int:=cond (pvI (AA x 8)==2) 1 0
def nbX(x:List PV):Int:=cond (pvI (AA x 8)==2) 0 (cond (pvI (AA x 8)==3) 1 0)
def CO(b:Int)(f:List PV→Int)(x:List PV):Int:=cond (bwX x==b) (f x) 0
theorem c01(b:Bool):(0:Int)≤cond b 1 0∧(cond b 1 0:Int)≤36:=by cases b<;>decide
theorem AET(x:List PV):0≤nbX x∧nbX x≤36:=by
 unfold nbX;cases pvI (AA x 8)==2
 ·exact c01 _
 exact⟨Int.le_refl 0,(by decide:(0:Int)≤36)⟩
theorem tF{f:List PV→Int}{c b:Int}(hc:0≤c){x:List PV}(h:0≤f x∧f x≤c):0≤CO b f x∧CO b f x≤c:=by
 unfold CO;cases bwX x==b
 ·exact⟨Int.le_refl _,hc⟩
 exact h
theorem ve{md:Nat→Bool}{X:Rows}(hX:X.length≤4000)(hb:∀x,x∈X→0≤K8 x∧K8 x≤36)(b:Int):∀i,i≤X.length →
    C6 md X b 0 i=⟨b,A4 (CO b Mb) (X.take i),mdP md X b i,A4 (CO b K8) (X.take i),A4 (CO b Gf) (X.take i),A4 (CO b wdX) (X.take i),A4 (CO b nbX) (X.take i)⟩∧0≤mdP md X b i∧mdP md X b i≤(i:Int)
  |0,_=>⟨rfl,Int.le_refl _,Int.le_refl _⟩
  |i+1,hi=>by
    obtain⟨h1,h2,h3⟩:=ve hX hb b i (by omega);have hl:i<X.length:=by omega
    have tl:(X.take i).length=i:=by rw[List.length_take];omega
    have bd:∀f:List PV→Int,(∀x,x∈X→0≤f x∧f x≤36)→0≤A4 (CO b f) (X.take i)∧A4 (CO b f) (X.take i)≤144000:=fun f hf=>by
      have:=vQ (f:=CO b f) (c:=36) (X.take i) (fun x hx=>tF (by omega) (hf x (List.mem_of_mem_take hx)));omega
    have b1:=bd Mb (fun x _=>c01 _);have b2:=bd K8 hb;have b3:=bd Gf (fun x _=>c01 _);have b4:=bd wdX (fun x _=>c01 _);have b5:=bd nbX (fun x _=>AET x);have hx:=hb _ (SW hl);have e1:C6 md X b 0 (i+1)=cond (bwX (AB X i)==b) (blX (AB X i) (md i) (C6 md X b 0 i)) (C6 md X b 0 i):=rfl;have e2:mdP md X b (i+1)=cond (bwX (AB X i)==b&&md i) (wr6 (mdP md X b i+1)) (mdP md X b i):=rfl;rw[e1,e2,K6 _ hl,K6 _ hl,K6 _ hl,K6 _ hl,K6 _ hl,h1];generalize A4 (CO b Mb) (X.take i)=s1 at *
    generalize A4 (CO b K8) (X.take i)=s2 at *
    generalize A4 (CO b Gf) (X.take i)=s3 at *
    generalize A4 (CO b wdX) (X.take i)=s4 at *
    generalize A4 (CO b nbX) (X.take i)=s5 at *
    generalize mdP md X b i=m at *
    generalize AB X i=x at *
    have w:∀n:Int,0≤n→n≤1000000→wr6 n=n:=fun n h1 h2=>A0 (by omega) (by omega)
    have w1:=w (s1+1) (by omega) (by omega);have w2:=w (s2+pvI (AA x 25)) (by unfold K8 at hx;omega) (by unfold K8 at hx;omega);have w3:=w (s3+1) (by omega) (by omega);have w4:=w (s4+1) (by omega) (by omega);have w5:=w (s5+1) (by omega) (by omega);have w6:=w (m+1) (by omega) (by omega);unfold CO blX;simp only[w1,w2,w3,w4,w5,w6];cases bwX x==b
    · exact⟨by simp only[cond_false,Int.add_zero,Bool.false_and],by simp only[Bool.false_and,cond_false];omega,by simp only[Bool.false_and,cond_false];omega⟩
    unfold Mb K8 Gf wdX nbX;refine⟨?_,?_,?_⟩
    · cases md i<;>cases pvB (AA x 26)<;>cases pvB (AA x 28)<;>cases pvI (AA x 8)==2<;>cases pvI (AA x 8)==3<;>simp only[cond_true,cond_false,Int.add_zero,Bool.true_and]
    · cases md i<;>simp only[cond_true,cond_false,Bool.true_and]<;>omega
    cases md i<;>simp only[cond_true,cond_false,Bool.true_and]<;>omega
def KN(g:Int→Int):List Int→Int
 | []=>0
 |b::B=>g b+KN g B
theorem qR:∀B,KN (fun _=>0) B=0
 | []=>rfl
 |b::B=>by
  have:=qR B;show 0+KN (fun _=>0) B=0;omega
theorem sT(g h:Int→Int):∀B,KN (fun b=>g b+h b) B=KN g B+KN h B
 | []=>rfl
 |b::B=>by
  have:=sT g h B;show g b+h b+KN (fun b=>g b+h b) B=g b+KN g B+(h b+KN h B);omega
theorem pi{c v:Int}:∀{B:List Int},c∉B→KN (fun b=>cond (c==b) v 0) B=0
 | [],_=>rfl
 |b::B,h=>by
  have ih:=pi (c:=c) (v:=v) (B:=B) (fun hm=>h (zzn _ hm));show cond (c==b) v 0+KN (fun b=>cond (c==b) v 0) B=0;rw[ih,beq_eq_false_iff_ne.2 (fun e=>h (by rw[e];exact zzm))];rfl
theorem vl{c v:Int}:∀{B:List Int},B.Nodup→c∈B→KN (fun b=>cond (c==b) v 0) B=v
 | [],_,h=>absurd h List.not_mem_nil
 |b::B,hn,h=>by
  obtain⟨n1,n2⟩:=List.nodup_cons.1 hn;show cond (c==b) v 0+KN (fun b=>cond (c==b) v 0) B=v
  by_cases e:c=b
  ·subst e;rw[pi n1,beq_self_eq_true];show v+0=v;omega
  have hc:c∈B:=(List.mem_cons.1 h).resolve_left e;rw[vl n2 hc,beq_eq_false_iff_ne.2 e];show 0+v=v;omega
theorem AAG{B:List Int}(hn:B.Nodup)(f:List PV→Int):∀(D:Rows),(∀x,x∈D→bwX x∈B)→KN (fun b=>A4 (CO b f) D) B=A4 f D
 | [],_=>qR B
 |x::D,h=>by
  have ih:=AAG hn f D (fun y hy=>h y (zzn _ hy));have h1:=h x zzm;show KN (fun b=>CO b f x+A4 (CO b f) D) B=f x+A4 f D;rw[sT,ih];refine congrArg (·+_) ?_;exact vl hn h1
theorem ADY(X:Rows){b:Int}:∀{i j:Nat},i≤j→b∈boN X i→b∈boN X j:=by
 intro i j h
 induction j with
 |zero=>
  intro hb;obtain rfl:i=0:=by omega
  exact hb
 |succ j ih=>
  intro hb
  rcases Nat.lt_or_ge i (j+1)with hl|hl
  ·have:=ih (by omega) hb;show b∈cond _ (boN X j) (boN X j++[_]);cases(boN X j).any (·==pvI (AA (AB X j) 4))
   ·exact List.mem_append_left _ this
   exact this
  obtain rfl:i=j+1:=by omega
  exact hb
theorem AEX(X:Rows){i:Nat}(hi:i<X.length):bwX (AB X i)∈boN X X.length:=by
 refine ADY X (show i+1≤X.length by omega) ?_;show _∈cond ((boN X i).any (·==pvI (AA (AB X i) 4))) (boN X i) (boN X i++[_]);cases ha:(boN X i).any (·==pvI (AA (AB X i) 4))
 ·exact List.mem_append_right _ (List.mem_singleton.2 rfl)
 obtain⟨y,hy,hye⟩:=List.any_eq_true.1 ha;have:=beq_iff_eq.1 hye;show pvI (AA (AB X i) 4)∈boN X i;rw[←this];exact hy
theorem AEN(X:Rows):∀x,x∈X→bwX x∈boN X X.length:=fun x hx=>by
 obtain⟨j,hj,e⟩:=List.getElem_of_mem hx;have:=AEX X hj;unfold AB at this
 rwa[zzl,zzo hj,Option.getD_some,e]at this
theorem oP(X:Rows){b:Int}:∀{i:Nat},i≤X.length→b∈boN X i→∃x,x∈X∧bwX x=b
 |0,_,h=>absurd h List.not_mem_nil
 |i+1,hi,h=>by
  change b∈cond ((boN X i).any (·==pvI (AA (AB X i) 4))) (boN X i) (boN X i++[_])at h;cases ha:(boN X i).any (·==pvI (AA (AB X i) 4))
  ·rw[ha]at h
   rcases List.mem_append.1 h with h|h
   ·exact oP X (by omega) h
   exact⟨AB X i,SW (by omega),(List.mem_singleton.1 h).symm⟩
  rw[ha]at h;exact oP X (by omega) h
def OvF(bal:Int)(X:Rows):Prop:=∀i,i<X.length→pvI (AA (AB X i) 2)*bal≤A4 Mb (X.take i)∧A4 Mb (X.take i)<pvI (AA (AB X i) 2)*bal+bal
theorem ABq{f:List PV→Int}(hf:∀x,0≤f x)(X:Rows){i:Nat}:∀{j:Nat},i≤j→j≤X.length→A4 f (X.take i)≤A4 f (X.take j):=by
 intro j h
 induction j with
 |zero=>
  intro _;obtain rfl:i=0:=by omega
  exact Int.le_refl _
 |succ j ih=>
  intro hj
  rcases Nat.lt_or_ge i (j+1)with hl|hl
  ·have:=ih (by omega) (by omega);rw[K6 _ (show j<X.length by omega)];have:=hf (AB X j);omega
  obtain rfl:i=j+1:=by omega
  exact Int.le_refl _
theorem pG{bal:Int}(hb:0<bal){X:Rows}(h:OvF bal X){i j:Nat}(hi:i≤j)(hj:j<X.length):pvI (AA (AB X i) 2)≤pvI (AA (AB X j) 2):=by
 have h1:=(h i (by omega)).1;have h2:=(h j hj).2;have h3:=ABq (f:=Mb) (fun x=>(c01 _).1) X hi (by omega);refine Int.not_lt.1 (fun hl=>?_);have h4:(pvI (AA (AB X j) 2)+1)*bal≤pvI (AA (AB X i) 2)*bal:=Int.mul_le_mul_of_nonneg_right (by omega) (by omega);rw[Int.add_mul,Int.one_mul]at h4;omega
theorem AEb(X:Rows)(o:Int):∀i,i≤4000→0≤Cd X o i∧Cd X o i≤(i:Int)∧Cd X o (i+1)=Cd X o i+cond ((pvI (AA (AB X i) 2)==o)&&pvB (AA (AB X i) 26)) 1 0
 |i,hi=>by
  have b:∀j,j≤i→0≤Cd X o j∧Cd X o j≤(j:Int):=by
   intro j
   induction j with
   |zero=>intro _;exact⟨Int.le_refl _,Int.le_refl _⟩
   |succ j ih=>
    intro hj;have:=ih (by omega);show 0≤cond _ (wr6 (Cd X o j+1)) (Cd X o j)∧cond _ (wr6 (Cd X o j+1)) (Cd X o j)≤_;rw[show wr6 (Cd X o j+1)=Cd X o j+1 from A0 (by omega) (by omega)];cases(pvI (AA (AB X j) 2)==o)&&pvB (AA (AB X j) 26)
    ·show 0≤Cd X o j∧Cd X o j≤_;omega
    show 0≤Cd X o j+1∧Cd X o j+1≤_;omega
  have bi:=b i (Nat.le_refl _);refine⟨bi.1,bi.2,?_⟩;show cond _ (wr6 (Cd X o i+1)) (Cd X o i)=_;rw[show wr6 (Cd X o i+1)=Cd X o i+1 from A0 (by omega) (by omega)];cases(pvI (AA (AB X i) 2)==o)&&pvB (AA (AB X i) 26)
  ·show Cd X o i=Cd X o i+0;omega
  rfl
theorem vi{X:Rows}{o:Int}{i:Nat}:∀{j:Nat},i≤j→j≤4000→(∀k,i≤k→k<j→(pvI (AA (AB X k) 2)==o)=false)→Cd X o j=Cd X o i:=by
 intro j h
 induction j with
 |zero=>
  intro _ _;obtain rfl:i=0:=by omega
  rfl
 |succ j ih=>
  intro hj hk
  rcases Nat.lt_or_ge i (j+1)with hl|hl
  ·rw[(AEb X o j (by omega)).2.2,hk j (by omega) (by omega),ih (by omega) (by omega) (fun k h1 h2=>hk k h1 (by omega))];show Cd X o i+0=_;omega
  obtain rfl:i=j+1:=by omega
  rfl
def pF(bal:Int)(X:Rows)(b:Int):Nat→Int
 |0=>0
 |i+1=>cond (mdS bal X (pvI (AA (AB X i) 2)) b) (bal-Cd X (pvI (AA (AB X i) 2)) (i+1)) 0
theorem AA0{bal:Int}(hb:0<bal){X:Rows}(hX:X.length≤4000)(ov:OvF bal X)(b:Int):∀i,i≤X.length→mdP (mdA bal X) X b i*bal≤A4 (CO b Mb) (X.take i)+pF bal X b i∧0≤mdP (mdA bal X) X b i∧mdP (mdA bal X) X b i≤(i:Int)
 |0,_=>⟨by show(0:Int)*bal≤0+0;rw[Int.zero_mul];exact Int.le_refl _,Int.le_refl _,Int.le_refl _⟩
 |i+1,hi=>by
  obtain⟨h1,h2,h3⟩:=AA0 hb hX ov b i (by omega);have hl:i<X.length:=by omega
  have e2:mdP (mdA bal X) X b (i+1)=cond (bwX (AB X i)==b&&(Z8 X i&&mdS bal X (pvI (AA (AB X i) 2)) (bwX (AB X i)))) (wr6 (mdP (mdA bal X) X b i+1)) (mdP (mdA bal X) X b i):=rfl;have e3:pF bal X b (i+1)=cond (mdS bal X (pvI (AA (AB X i) 2)) b) (bal-Cd X (pvI (AA (AB X i) 2)) (i+1)) 0:=rfl;have w:wr6 (mdP (mdA bal X) X b i+1)=mdP (mdA bal X) X b i+1:=A0 (by omega) (by omega);have c1:=AEb X (pvI (AA (AB X i) 2)) i (by omega);have sel0:0≤CO b Mb (AB X i):=(tF (c:=36) (by omega) (c01 _)).1;rw[e2,e3,w,K6 _ hl,c1.2.2,beq_self_eq_true,Bool.true_and];have hnew:Z8 X i=true→pF bal X b i=0∧Cd X (pvI (AA (AB X i) 2)) i=0:=fun hn=>by
   cases i with
   |zero=>exact⟨rfl,rfl⟩
   |succ j=>
    have hne:(pvI (AA (AB X j) 2)==pvI (AA (AB X (j+1)) 2))=false:=by
     have:(Nat.beq (j+1) 0 || !(pvI (AA (AB X j) 2)==pvI (AA (AB X (j+1)) 2)))=true:=hn;rw[show Nat.beq (j+1) 0=false from rfl,Bool.false_or,Bool.not_eq_true']at this;exact this
    have lt:pvI (AA (AB X j) 2)<pvI (AA (AB X (j+1)) 2):=by
     have:=pG hb ov (show j≤j+1 by omega) hl;have:=beq_eq_false_iff_ne.1 hne;omega
    refine⟨?_,?_⟩
    ·show cond (mdS bal X (pvI (AA (AB X j) 2)) b) (bal-Cd X (pvI (AA (AB X j) 2)) (j+1)) 0=0;cases hm:mdS bal X (pvI (AA (AB X j) 2)) b
     ·rfl
     have hc:=beq_iff_eq.1 (pI.1 hm).2;have:=vi (X:=X) (o:=pvI (AA (AB X j) 2)) (i:=j+1) (j:=X.length) (by omega) hX (fun k hk1 hk2=>beq_eq_false_iff_ne.2 (by have:=pG hb ov hk1 hk2;omega));rw[this]at hc;show bal-_=0;omega
    refine(vi (X:=X) (o:=pvI (AA (AB X (j+1)) 2)) (i:=0) (j:=j+1) (by omega) (by omega) (fun k _ hk2=>beq_eq_false_iff_ne.2 ?_)).trans rfl;have:=pG hb ov (show k≤j by omega) (by omega);omega
  have hold:Z8 X i=false→pF bal X b i=cond (mdS bal X (pvI (AA (AB X i) 2)) b) (bal-Cd X (pvI (AA (AB X i) 2)) i) 0:=fun hn=>by
   cases i with
   |zero=>cases hn
   |succ j=>
    have hne:(pvI (AA (AB X j) 2)==pvI (AA (AB X (j+1)) 2))=true:=by
     have:(Nat.beq (j+1) 0 || !(pvI (AA (AB X j) 2)==pvI (AA (AB X (j+1)) 2)))=false:=hn;rw[show Nat.beq (j+1) 0=false from rfl,Bool.false_or,Bool.not_eq_false']at this;exact this
    show cond (mdS bal X (pvI (AA (AB X j) 2)) b) (bal-Cd X (pvI (AA (AB X j) 2)) (j+1)) 0=_;rw[beq_iff_eq.1 hne]
  have hbw:mdS bal X (pvI (AA (AB X i) 2)) b=true→(bwX (AB X i)==b)=true:=fun hm=>((pI.1 hm).1 i hl (beq_self_eq_true _)).1
  have mb:∀m:Int,(m+1)*bal=m*bal+bal:=fun m=>by rw[Int.add_mul,Int.one_mul]
  cases hm:mdS bal X (pvI (AA (AB X i) 2)) b
  ·have hno:(bwX (AB X i)==b&&(Z8 X i&&mdS bal X (pvI (AA (AB X i) 2)) (bwX (AB X i))))=false:=by
    cases hb1:bwX (AB X i)==b
    ·rfl
    rw[beq_iff_eq.1 hb1,hm,Bool.and_false,Bool.and_false]
   rw[hno];simp only[cond_false];refine⟨?_,by omega,by omega⟩;have hr:pF bal X b i=0:=by
    cases hn:Z8 X i
    ·rw[hold hn,hm];rfl
    exact(hnew hn).1
   omega
  have hb1:=hbw hm;have hsel:CO b Mb (AB X i)=cond (pvB (AA (AB X i) 26)) 1 0:=by unfold CO;rw[hb1];rfl
  rw[hb1,beq_iff_eq.1 hb1,hm,hsel,Bool.true_and,Bool.and_true];cases hn:Z8 X i
  ·have r1:=hold hn;rw[hm,cond_true]at r1;simp only[cond_true,cond_false];refine⟨?_,by omega,by omega⟩;cases pvB (AA (AB X i) 26)
   ·show _≤_+0+(bal-(_+0));omega
   show _≤_+1+(bal-(_+1));omega
  obtain⟨r1,r2⟩:=hnew hn;rw[r2];simp only[cond_true,mb];refine⟨?_,by omega,by omega⟩;cases pvB (AA (AB X i) 26)
  ·show _≤_+0+(bal-(0+0));omega
  show _≤_+1+(bal-(0+1));omega
theorem AE6{bal:Int}(hb:0<bal){X:Rows}(hX:X.length≤4000)(ov:OvF bal X)(b:Int):mdP (mdA bal X) X b X.length*bal≤A4 (CO b Mb) X∧0≤mdP (mdA bal X) X b X.length:=by
 obtain⟨h1,h2,h3⟩:=AA0 hb hX ov b X.length (Nat.le_refl _);rw[List.take_length]at h1;have hr:pF bal X b X.length=0:=by
  generalize hn:X.length=n at *
  cases n with
  |zero=>rfl
  |succ j=>
   show cond (mdS bal X (pvI (AA (AB X j) 2)) b) (bal-Cd X (pvI (AA (AB X j) 2)) (j+1)) 0=0;cases hm:mdS bal X (pvI (AA (AB X j) 2)) b
   ·rfl
   have hc:=beq_iff_eq.1 (pI.1 hm).2;rw[hn]at hc;show bal-_=0;omega
 exact⟨by omega,h2⟩
theorem pZ{r:Rul}(rk:RulOk r){d:Del}(hl:(D6 d==0)=true):(cond (d.type==2) 1 0:Int)*r.wide+(cond (d.type==2) 0 (cond (d.type==3) 1 0):Int)*r.noball≤(AF r d).bowler ∧
    (cond (d.type==2) 0 (cond (d.type==3) 1 0):Int)*r.noball=(AF r d).noballs:=by
  have ok:=mU rk d;have bo:=ok.bo;have ba:=ok.ba;have wi:=ok.wi;have no:=ok.no;have e:AF r d=Kb r d:=by unfold AF;rw[hl];rfl
  rw[e]at bo ba wi no⊢;have w:(Kb r d).wides=cond (d.type==2) (IntKind.i64.wrap (r.wide+IntKind.i64.wrap (IntKind.i64.wrap (d.runs-d.short)+d.boundary))) 0:=rfl;have o:(Kb r d).noballs=cond (d.type==3) r.noball 0:=rfl;have n0:0≤IntKind.i64.wrap (IntKind.i64.wrap (d.runs-d.short)+d.boundary)∧IntKind.i64.wrap (IntKind.i64.wrap (d.runs-d.short)+d.boundary)≤13:=by
    unfold D6 at hl;cases h1:(iLt d.type 1||iLt 3 d.type||iLt 3 d.source||iLt 10 d.how || !btw d.sector 0 8)
    · cases h2:(!btw d.runs 0 7 || !btw d.short 0 d.runs||(!(d.boundary==0) && !(d.boundary==4) && !(d.boundary==6)))
      · rw[Bool.or_eq_false_iff,Bool.or_eq_false_iff]at h2;obtain⟨⟨a1,a2⟩,a3⟩:=h2;simp only[btw,iLe,Bool.not_eq_false',zzk,decide_eq_true_eq]at a1 a2;have a4:d.boundary=0∨d.boundary=4∨d.boundary=6:=by
          cases b0:d.boundary==0
          · cases b4:d.boundary==4
            · cases b6:d.boundary==6
              · rw[b0,b4,b6]at a3;cases a3
              exact .inr (.inr (beq_iff_eq.1 b6))
            exact .inr (.inl (beq_iff_eq.1 b4))
          exact .inl (beq_iff_eq.1 b0)
        rw[show IntKind.i64.wrap (d.runs-d.short)=d.runs-d.short from A0 (by omega) (by omega),A0 (by omega) (by omega)];omega
      rw[h1,h2]at hl;cases hl
    rw[h1]at hl;cases hl
  have rw:=rk.wide;rw[show IntKind.i64.wrap (r.wide+IntKind.i64.wrap (IntKind.i64.wrap (d.runs-d.short)+d.boundary))=r.wide+IntKind.i64.wrap (IntKind.i64.wrap (d.runs-d.short)+d.boundary)from A0 (by omega) (by omega)]at w;rw[w]at wi;rw[o]at no;rw[bo,o,w];cases h2:d.type==2
  · cases h3:d.type==3<;>simp only[h2,h3,cond_true,cond_false,Int.one_mul,Int.zero_mul]at wi no⊢<;>refine⟨?_,?_⟩<;>first|omega|trivial|rfl
  have h3:(d.type==3)=false:=by rw[beq_iff_eq.1 h2];rfl
  rw[h3];simp only[h2,h3,cond_true,cond_false,Int.one_mul,Int.zero_mul]at wi no⊢;refine⟨?_,?_⟩<;>first|omega|trivial|rfl
theorem AFL{r:Rul}{L:Rows}(hc:Ah r L=0){a:Nat}(ha:a<L.length)(hk:((evR L a).kind==4)=true):(AZ (stM L a 0 (AO r).1)).complete*r.balls+(AZ (stM L a 0 (AO r).1)).inover=smi L (Ql r) (opn L a-1) a:=by
 have bf:=NC hc ha hk;obtain⟨h1,h2,h3,h4,h5⟩:=Bv hc;obtain⟨li,so,_⟩:=MH h1 h4 a (by omega);have sl:=so.len;have ll:=li.len;have one:=bf.one;have lx:=bf.lnx;have rl:=so.rules;have cl:=uJ h1 h4 a (by omega);have at1:=cl.at' (opn L a-1) (by omega);have kx:sco (Fn (stM L a 0 (AO r).1)).xs (opn L a-1)=B2 r.balls (AZ (stM L a 0 (AO r).1)):=by
  unfold Fn AZ;rw[rl,lx];exact RX _ _ (by omega)
 rw[kx]at at1;have bl:Db r.balls (AZ (stM L a 0 (AO r).1)).complete (AZ (stM L a 0 (AO r).1)).inover=smi L (Ql r) (opn L a-1) a:=congrArg Sco.balls at1;have be:=(iQ bf.ok).1;rw[←bl,be,Int.mul_comm]
structure RowH(r:Rul)(x:List PV):Prop where
 bw:1≤bwX x∧bwX x≤r.side
 part:wdX x*r.wide+nbX x*r.noball≤K8 x
theorem AFn{r:Rul}{L:Rows}(hc:Ah r L=0){a:Nat}(ha:a<L.length)(hk:((evR L a).kind==4)=true)(t:Mat):RowH r (Ca (a:Int) (stM L a 0 (AO r).1) t (evR L a).ball):=by
 have bf:=NC hc ha hk;have rl:=bf.rules;obtain⟨q1,q2,q3,q4,q5,q6⟩:=LW bf.ref;have bo:=bf.ok.bow;rw[beq_eq_false_iff_ne]at q2;refine⟨?_,?_⟩
 ·show 1≤(AZ (stM L a 0 (AO r).1)).bowler∧(AZ (stM L a 0 (AO r).1)).bowler≤r.side;omega
 have:=(pZ (aK hc).2 q4).1;show _≤(AF (stM L a 0 (AO r).1).rules _).bowler;rw[rl];exact this
structure BalH(r:Rul)(L:Rows)(k n:Nat):Prop where
 cnt:A4 Mb (Ax r L k n)=smi L (Ql r) k n
 bow:A4 K8 (Ax r L k n)=smi L (fun e=>(BM r e).bowler) k n
 nob:A4 nbX (Ax r L k n)*r.noball=smi L (fun e=>(BM r e).noballs) k n
 wkt:A4 Gf (Ax r L k n)≤smi L Da k n
 row:∀x,x∈Ax r L k n→RowH r x
 ov:OvF r.balls (Ax r L k n)
theorem ACy{r:Rul}{L:Rows}(hc:Ah r L=0)(k:Nat):∀n,n≤L.length→BalH r L k n
 |0,_=>⟨rfl,rfl,Int.zero_mul _,Int.le_refl _,fun x hx=>absurd hx List.not_mem_nil,fun i hi=>absurd hi (Nat.not_lt_zero i)⟩
 |n+1,hn=>by
  obtain⟨i1,i2,i3,i4,i5,i6⟩:=ACy hc k n (by omega);have e:Ax r L k (n+1)=cond ((evR L n).kind==4&&Nat.beq (opn L (n+1)) (k+1)) (Ax r L k n++[Ca (n:Int) (stM L n 0 (AO r).1) (stM L (n+1) 0 (AO r).1) (evR L n).ball]) (Ax r L k n):=rfl;have cc:∀b:Bool,cond b (0:Int) 0=0:=fun b=>by cases b<;>rfl
  cases hk:(evR L n).kind==4
  ·rw[hk,Bool.false_and,cond_false]at e;have od:∀b:Bool,0≤(cond b (Da (evR L n)) 0:Int):=fun b=>by
    have:=(zw (evR L n)).1;cases b
    ·exact Int.le_refl _
    exact this
   have z1:Ql r (evR L n)=0:=by unfold Ql BM;rw[hk];rfl
   have z2:(BM r (evR L n)).bowler=0:=by unfold BM;rw[hk];rfl
   have z3:(BM r (evR L n)).noballs=0:=by unfold BM;rw[hk];rfl
   refine⟨?_,?_,?_,?_,?_,?_⟩
   ·rw[e,CM,z1,cc,i1];omega
   ·rw[e,CM,z2,cc,i2];omega
   ·rw[e,CM,z3,cc,i3];omega
   ·rw[e,CM];have:=od (Nat.beq (opn L (n+1)) (k+1));omega
   ·rw[e];exact i5
   rw[e];exact i6
  have ha:n<L.length:=by omega
  have bf:=NC hc ha hk;have rl:=bf.rules;cases hq:Nat.beq (opn L (n+1)) (k+1)
  ·rw[hk,hq,Bool.true_and,cond_false]at e;refine⟨?_,?_,?_,?_,?_,?_⟩
   ·rw[e,CM,hq,i1];exact(Int.add_zero _).symm
   ·rw[e,CM,hq,i2];exact(Int.add_zero _).symm
   ·rw[e,CM,hq,i3];exact(Int.add_zero _).symm
   ·rw[e,CM,hq];show _≤_+0;omega
   ·rw[e];exact i5
   rw[e];exact i6
  rw[hk,hq,Bool.true_and,cond_true]at e;obtain⟨q1,q2,q3,q4,q5,q6⟩:=LW bf.ref;have rp:=pZ (aK hc).2 q4;have ce:BM r (evR L n)=AF r (evR L n).ball:=by unfold BM;rw[hk];rfl
  have on:opn L (n+1)=opn L n:=iJ (by rw[beq_iff_eq.1 hk];rfl);have ok1:opn L n-1=k:=by have:=Nat.eq_of_beq_eq_true hq;omega
  have bc:=AFL hc ha hk;rw[ok1]at bc;have io:=bf.ok.io;have wk:Gf (Ca (n:Int) (stM L n 0 (AO r).1) (stM L (n+1) 0 (AO r).1) (evR L n).ball)≤Da (evR L n):=by
   have e1:Gf (Ca (n:Int) (stM L n 0 (AO r).1) (stM L (n+1) 0 (AO r).1) (evR L n).ball)=cond (YR (evR L n).ball.how) 1 0:=by
    show cond ((AF (stM L n 0 (AO r).1).rules (evR L n).ball).wicket) 1 0=_;have:AF (stM L n 0 (AO r).1).rules (evR L n).ball=Kb (stM L n 0 (AO r).1).rules (evR L n).ball:=by unfold AF;rw[q4];rfl
    rw[this];rfl
   rw[e1];unfold Da;rw[hk];cases h0:(evR L n).ball.how==0
   ·cases YR (evR L n).ball.how
    ·exact(by decide:(0:Int)≤1)
    exact(by decide:(1:Int)≤1)
   rw[beq_iff_eq.1 h0];exact Int.le_refl _
  have one:∀f:List PV→Int,A4 f (Ax r L k n++[Ca (n:Int) (stM L n 0 (AO r).1) (stM L (n+1) 0 (AO r).1) (evR L n).ball])=A4 f (Ax r L k n)+f (Ca (n:Int) (stM L n 0 (AO r).1) (stM L (n+1) 0 (AO r).1) (evR L n).ball):=fun f=>by
   rw[Z0];show _+(f _+0)=_;omega
  refine⟨?_,?_,?_,?_,?_,?_⟩
  ·rw[e,CM,hq,one,i1];show _+cond ((AF (stM L n 0 (AO r).1).rules (evR L n).ball).counts) 1 0=_+Ql r (evR L n);rw[rl];unfold Ql;rw[ce]
  ·rw[e,CM,hq,one,i2];show _+(AF (stM L n 0 (AO r).1).rules (evR L n).ball).bowler=_+(BM r (evR L n)).bowler;rw[rl,ce]
  ·rw[e,CM,hq,one,Int.add_mul,i3];show _+_=_+(BM r (evR L n)).noballs;rw[ce];exact congrArg (_+·) rp.2
  ·rw[e,CM,hq,one];show _≤_+Da (evR L n);omega
  ·rw[e];intro x hx
   rcases List.mem_append.1 hx with hx|hx
   ·exact i5 x hx
   rw[List.mem_singleton.1 hx];exact AFn hc ha hk _
  rw[e];intro i hi;rw[List.length_append]at hi;change i<(Ax r L k n).length+1 at hi
  by_cases hl:i<(Ax r L k n).length
  ·have hr:AB (Ax r L k n++[Ca (n:Int) (stM L n 0 (AO r).1) (stM L (n+1) 0 (AO r).1) (evR L n).ball]) i=AB (Ax r L k n) i:=by
    unfold AB;rw[zzl,zzl,List.getElem?_append_left hl]
   rw[hr,List.take_append_of_le_length (by omega)];exact i6 i hl
  obtain rfl:i=(Ax r L k n).length:=by omega
  have hr:AB (Ax r L k n++[Ca (n:Int) (stM L n 0 (AO r).1) (stM L (n+1) 0 (AO r).1) (evR L n).ball]) (Ax r L k n).length=Ca (n:Int) (stM L n 0 (AO r).1) (stM L (n+1) 0 (AO r).1) (evR L n).ball:=by
   unfold AB;rw[zzl,List.getElem?_append_right (Nat.le_refl _),Nat.sub_self];rfl
  rw[hr,List.take_append_of_le_length (Nat.le_refl _),List.take_length,i1,←bc];show(AZ (stM L n 0 (AO r).1)).complete*r.balls≤_∧_<(AZ (stM L n 0 (AO r).1)).complete*r.balls+r.balls;omega
def Hs(g:BL→Int):List BL→Int
 | []=>0
 |s::xs=>g s+Hs g xs
theorem Za(g:BL→Int):∀{xs:List BL} {j:Nat},j<xs.length→Hs g (xs.take (j+1))=Hs g (xs.take j)+g (bln xs j)
 | [],j,h=>absurd h (Nat.not_lt_zero j)
 |s::xs,0,_=>by
  show g s+0=0+g s;omega
 |s::xs,j+1,h=>by
  have:=Za g (xs:=xs) (j:=j) (Nat.lt_of_succ_lt_succ h);show g s+Hs g (xs.take (j+1))=g s+Hs g (xs.take j)+g (bln xs j);omega
theorem xI{g:BL→Int}{xs:List BL}(hx:∀s,s∈xs→0≤g s∧g s≤1000000):∀j,j≤xs.length→0≤Hs g (xs.take j)∧Hs g (xs.take j)≤1000000*(j:Int)
 |0,_=>by
  show(0:Int)≤0∧(0:Int)≤1000000*((0:Nat):Int);omega
 |j+1,hj=>by
  have ih:=xI hx j (by omega);have h1:=hx (bln xs j) (by rw[YS (by omega)];exact List.getElem_mem _);rw[Za g (by omega)];omega
theorem R8(g:BL→Int)(f:Int→BL):∀B:List Int,Hs g (B.map f)=KN (fun b=>g (f b)) B
 | []=>rfl
 |b::B=>by
  have:=R8 g f B;show g (f b)+Hs g (B.map f)=g (f b)+KN (fun b=>g (f b)) B;omega
def lnY(bal:Int)(X:Rows)(b:Int):BL:=⟨b,A4 (CO b Mb) X,mdP (mdA bal X) X b X.length,A4 (CO b K8) X,A4 (CO b Gf) X,A4 (CO b wdX) X,A4 (CO b nbX) X⟩
structure LineF(r:Rul)(s:BL):Prop where
 p:1≤s.p∧s.p≤r.side
 b:0≤s.b∧s.b≤1000000
 m:0≤s.m*r.balls∧s.m*r.balls≤s.b
 rr:0≤s.r∧s.r≤1000000
 w:0≤s.w∧s.w≤1000000
 nb:0≤s.nb∧s.nb≤1000000
 part:0≤s.wd*r.wide∧0≤s.nb*r.noball∧s.wd*r.wide+s.nb*r.noball≤s.r
structure FigF(r:Rul)(X:Rows)(xs:List BL):Prop where
 len:xs.length≤4000
 line:∀s,s∈xs→LineF r s
 sb:Hs BL.b xs=A4 Mb X
 sr:Hs BL.r xs=A4 K8 X
 sw:Hs BL.w xs=A4 Gf X
 sn:Hs BL.nb xs=A4 nbX X
theorem AFt{r:Rul}(rk:RulOk r){X:Rows}(hX:X.length≤4000)(hb:∀x,x∈X→0≤K8 x∧K8 x≤36)(hr:∀x,x∈X→RowH r x)(ov:OvF r.balls X):FigF r X (N6 (mdA r.balls X) X X.length):=by
 have e:N6 (mdA r.balls X) X X.length=(boN X X.length).map (lnY r.balls X):=by
  rw[o8];refine List.map_congr_left (fun b _=>?_);rw[(ve hX hb b X.length (Nat.le_refl _)).1,List.take_length];rfl
 rw[e];have nd:=dN X X.length;have all:=AEN X;have sm:∀f,KN (fun b=>A4 (CO b f) X) (boN X X.length)=A4 f X:=fun f=>AAG nd f X all
 have bd:∀(b:Int) (f:List PV→Int),(∀x,x∈X→0≤f x∧f x≤36)→0≤A4 (CO b f) X∧A4 (CO b f) X≤1000000:=fun b f hf=>by
  have:=vQ (f:=CO b f) (c:=36) X (fun x hx=>tF (by omega) (hf x hx));omega
 have rb:=rk.balls;have rw':=rk.wide;have rn:=rk.noball;refine⟨by rw[List.length_map];exact Nat.le_trans (pB X X.length) hX,fun s hs=>?_,(R8 _ _ _).trans (sm Mb),(R8 _ _ _).trans (sm K8),(R8 _ _ _).trans (sm Gf),(R8 _ _ _).trans (sm nbX)⟩;obtain⟨b,hbm,rfl⟩:=List.mem_map.1 hs;obtain⟨x,hx,hxb⟩:=oP X (Nat.le_refl _) hbm;have m1:=AE6 (show 0<r.balls by omega) hX ov b;have b1:=bd b Mb (fun x _=>c01 _);have b2:=bd b K8 hb;have b3:=bd b Gf (fun x _=>c01 _);have b4:=bd b wdX (fun x _=>c01 _);have b5:=bd b nbX (fun x _=>AET x);have hp:A4 (CO b wdX) X*r.wide+A4 (CO b nbX) X*r.noball≤A4 (CO b K8) X:=by
  have h1:=se (f:=CO b wdX) (g:=CO b nbX) (h:=fun x=>cond (bwX x==b) (wdX x*r.wide+nbX x*r.noball) 0) (a:=r.wide) (b:=r.noball) X (fun y _=>by
   unfold CO;cases bwX y==b
   ·show(0:Int)*r.wide+0*r.noball=0;rw[Int.zero_mul,Int.zero_mul];rfl
   rfl)
  rw[h1];refine xm X (fun y hy=>?_);unfold CO;cases bwX y==b
  ·exact Int.le_refl _
  exact(hr y hy).part
 refine⟨?_,b1,⟨Int.mul_nonneg m1.2 (by omega),m1.1⟩,b2,b3,b5,⟨Int.mul_nonneg b4.1 (by omega),Int.mul_nonneg b5.1 (by omega),hp⟩⟩;show 1≤b∧b≤r.side;rw[←hxb];exact(hr x hx).bw
theorem ACb{r:Rul}{L:Rows}{k:Nat}(hc:Ah r L=0)(hk:k<opn L L.length):BQ r L (k:Int)=(Ax r L k L.length,0):=by
 unfold BQ;have e:(iLt (k:Int) 0||iLe (opn L L.length:Int) (k:Int))=false:=by
  simp only[Bool.or_eq_false_iff,iLt,iLe,decide_eq_false_iff_not];omega
 rw[hc,e,UT hc];rfl
theorem ADO{r:Rul}{L:Rows}{k:Nat}(hc:Ah r L=0)(hk:k<opn L L.length):Xt r L (k:Int)=(BA (N6 (mdA r.balls (Ax r L k L.length)) (Ax r L k L.length) (Ax r L k L.length).length),0):=by
 unfold Xt;rw[ACb hc hk];rfl
end Go.Px
end
