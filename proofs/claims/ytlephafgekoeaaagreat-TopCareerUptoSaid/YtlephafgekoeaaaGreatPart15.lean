/- Part 15. -/
import Derived.Test.YtlephafgekoeaaaGreatPart14
import Derived.Test.YtlephafgekoeaaaGreatPart08
set_option linter.unusedVariables false
set_option linter.unusedSimpArgs false
section
namespace Go.Px
set_option maxRecDepth 100000
theorem lk {m t:Mat} (h:t.inns=m.inns):AO t=AO m:=by unfold AO;rw[h]
theorem Wj {xs:List Inn} (h0:1≤xs.length) (hl:xs.length≤5):lnx xs=xs.length-1:=by
 unfold lnx;rw[A6 (by omega) (by omega)];omega
theorem oi {m:Mat} {t:Inn} (h0:1≤m.inns.length) (hl:m.inns.length≤5):AO { m with inns:=m.inns.set (lnx m.inns) t }=t:=by
 unfold AO;have e:=Wj h0 hl;have e2:lnx (m.inns.set (lnx m.inns) t)=m.inns.length-1:=by rw[Wj (by rw[List.length_set];exact h0) (by rw[List.length_set];exact hl),List.length_set]
 show inn (m.inns.set (lnx m.inns) t) (lnx (m.inns.set (lnx m.inns) t))=t;rw[e2,e,S4 _ _ _ _ (by omega),if_pos rfl]
def ADP (X:Rows) (q:Int):Bool:=X.any fun x=>DC x==q
def AB0 (L:Rows) (k:Nat) (q:Int):Nat→Bool
 |0=>false
 |n+1=>AB0 L k q n||(Nat.beq (opn L (n+1)) (k+1)&&AC4 (evR L n) q)
structure DeadN (r:Rul) (L:Rows) (k n:Nat):Prop where
 shp:Shp (AO (stM L n 0 (AM r).1)).batters
 len:((AO (stM L n 0 (AM r).1)).batters.length:Int)=r.side
 wk:bq (AO (stM L n 0 (AM r).1)).batters=smi L NR k n
 dead:∀q,inR q (AO (stM L n 0 (AM r).1)).batters.length=true→ADJ (AO (stM L n 0 (AM r).1)).batters q=(ADP (Ao r L k n) q||AB0 L k q n)
def ef (L:Rows):Nat→Int
 |0=>0
 |n+1=>IntKind.i64.wrap (ef L n+pvI (AD L n 1))
theorem jU {N:Nat} (hN:2097152<N) {L:Rows} (hl:L.length≤1048576):KG N [.rows L]=some [.int (ef L L.length)]:=by
 show KR (std (SF N) N) (xOf _)=_;simp only[KR,lq9,std,xOf,PXb];refine AN (BP (len:=L.length) (fun i=>[.int (ef L i),.int (i:Int)]) [.int (ef L L.length)] ?_ ?_ N (by omega)) rfl
 ·intro self;simp only[PXb,Aj]
 intro i self hi;simp only[PXb,Ai (show i≤1099511627776 by omega),Aa hi,AJ hi,ef]
def QA (f:List PV→Int):Rows→Int
 | []=>0
 |x::D=>f x+QA f D
theorem rR (f:List PV→Int):∀A B,QA f (A++B)=QA f A+QA f B
 | [],B=>by rw[List.nil_append];show _=0+QA f B;omega
 |x::A,B=>by
  have:=rR f A B;show f x+QA f (A++B)=f x+QA f A+QA f B;omega
theorem xJ (f:List PV→Int) {D:Rows} {i:Nat} (h:i<D.length):QA f (D.take (i+1))=QA f (D.take i)+f (AB D i):=by
 rw[et h,rR];show _+(f (AB D i)+0)=_;omega
theorem ABf {D:Rows} {i:Nat} (h:i<D.length):AB D i∈D:=by
 unfold AB
 simp_all
structure RowG (n:Int) (x:List PV):Prop where
 over:∃o:Nat,o≤1000∧pvI (AA x 2)=(o:Int)
 sector:∃s:Nat,s≤8∧pvI (AA x 19)=(s:Int)
 striker:1≤pvI (AA x 5)∧pvI (AA x 5)≤n
 bat:0≤pvI (AA x 20)∧pvI (AA x 20)≤62
 tot:0≤Da (vd x)∧Da (vd x)≤62
theorem ADC {r:Rul} (rk:RulOk r) {x:List PV} (h:RowF r x):RowG r.side x:=by
 obtain⟨d,e0,e1,e2,e3,e4,e5⟩:=h.cre;have c:=gy rk d;have t:Da (vd x)=Da (AF r d):=by
  unfold Da vd
  simp_all
 have h0:=c.ba;have h1:=c.wi;have h2:=c.no;have h3:=c.bb;have h4:=c.lb;have h5:=c.tot;exact⟨h.over,h.sector,h.striker,by omega,by omega⟩
def pre (xs:List Int):Nat→Int
 |0=>0
 |j+1=>pre xs j+xs.getD j 0
def vn (x:List PV):Int:=pvI (AA x 20)
theorem yp {r:Rul} {L:Rows} {k:Nat} (hc:Ap r L=0) (hk:k<opn L L.length):IH r L (k:Int)=(Ao r L k L.length,0):=by
 unfold IH;have e:(iLt (k:Int) 0||iLe (opn L L.length:Int) (k:Int))=false:=by
  simp only[Bool.or_eq_false_iff,iLt,iLe,decide_eq_false_iff_not];omega
 rw[hc,e,Xo hc];rfl
def DI (g:Int→Int):List Int→Int
 | []=>0
 |b::B=>g b+DI g B
theorem Rb:∀B,DI (fun _=>0) B=0
 | []=>rfl
 |b::B=>by
  have:=Rb B;show 0+DI (fun _=>0) B=0;omega
theorem TT (g h:Int→Int):∀B,DI (fun b=>g b+h b) B=DI g B+DI h B
 | []=>rfl
 |b::B=>by
  have:=TT g h B;show g b+h b+DI (fun b=>g b+h b) B=g b+DI g B+(h b+DI h B);omega
theorem Le {g h:Int→Int}:∀{B:List Int},(∀b,b∈B→g b=h b)→DI g B=DI h B
 | [],_=>rfl
 |b::B,e=>by
  have:=Le (B:=B) (fun y hy=>e y (zzm _ hy));have h1:=e b zzl;show g b+DI g B=h b+DI h B;omega
theorem mj {c v:Int}:∀{B:List Int},c∉B→DI (fun b=>cond (c==b) v 0) B=0
 | [],_=>rfl
 |b::B,h=>by
  have ih:=mj (c:=c) (v:=v) (B:=B) (fun hm=>h (zzm _ hm));show cond (c==b) v 0+DI (fun b=>cond (c==b) v 0) B=0;rw[ih,beq_eq_false_iff_ne.2 (fun e=>h (by rw[e];exact zzl))];rfl
theorem fQ {c v:Int}:∀{B:List Int},B.Nodup→c∈B→DI (fun b=>cond (c==b) v 0) B=v
 | [],_,h=>absurd h List.not_mem_nil
 |b::B,hn,h=>by
  obtain⟨n1,n2⟩:=List.nodup_cons.1 hn;show cond (c==b) v 0+DI (fun b=>cond (c==b) v 0) B=v
  by_cases e:c=b
  ·subst e;rw[mj n1,beq_self_eq_true];show v+0=v;omega
  have hc:c∈B:=(List.mem_cons.1 h).resolve_left e;rw[fQ n2 hc,beq_eq_false_iff_ne.2 e];show 0+v=v;omega
theorem tc {P:Int→Bool} {o:List Int} (hn:o.Nodup):∀n:Nat,(∀i:Nat,i<n→((i:Int)+1)∈o)→DI (fun p=>cond ((iLe 1 p&&iLe p (n:Int))&&P p) 1 0) o=Ce (fun i=>P ((i:Int)+1)) n
 |0,_=>by
  rw[Le (h:=fun _=>0) (fun b _=>by
   have:(iLe 1 b&&iLe b ((0:Nat):Int))=false:=by
    rw[Bool.eq_false_iff];intro h;simp only[iLe,zzj,decide_eq_true_eq]at h;omega
   rw[this];rfl),Rb]
  rfl
 |n+1,h=>by
  have ih:=tc (P:=P) hn n (fun i hi=>h i (by omega));have one:=fQ (v:=cond (P ((n:Int)+1)) 1 0) hn (h n (by omega));have key:=TT (fun p=>cond ((iLe 1 p&&iLe p (n:Int))&&P p) 1 0) (fun b=>cond (((n:Int)+1)==b) (cond (P ((n:Int)+1)) 1 0) 0) o;rw[ih,one]at key;rw[Le (h:=fun b=>cond ((iLe 1 b&&iLe b (n:Int))&&P b) 1 0+cond (((n:Int)+1)==b) (cond (P ((n:Int)+1)) 1 0) 0) (fun b _=>?_),key]
  ·show _=cond (P ((n:Int)+1)) (Ce _ n+1) (Ce _ n);cases P ((n:Int)+1)<;>simp
  by_cases e:(n:Int)+1=b
  ·subst e;have h1:iLe 1 ((n:Int)+1)=true:=by simp only[iLe,decide_eq_true_eq];omega
   have h2:iLe ((n:Int)+1) (n:Int)=false:=by simp only[iLe,decide_eq_false_iff_not];omega
   have h3:iLe ((n:Int)+1) ((n+1:Nat):Int)=true:=by simp only[iLe,decide_eq_true_eq];omega
   rw[h1,h2,h3,beq_self_eq_true];cases P ((n:Int)+1)<;>rfl
  have h1:iLe b ((n+1:Nat):Int)=iLe b (n:Int):=by
   unfold iLe;rw[Bool.eq_iff_iff,decide_eq_true_eq,decide_eq_true_eq];omega
  rw[h1,beq_false_of_ne e];cases((iLe 1 b&&iLe b (n:Int))&&P b)<;>rfl
theorem nD {r:Rul} {L:Rows} {k p:Nat} (h:opn L p=k+1) (hn:p=L.length∨((evR L p).kind==2)=true):∀c,p+c≤L.length→Ao r L k (p+c)=Ao r L k p
 |0,_=>rfl
 |c+1,hc=>by
  rw[show p+(c+1)=p+c+1 by omega];show cond ((evR L (p+c)).kind==4&&Nat.beq (opn L (p+c+1)) (k+1)) _ (Ao r L k (p+c))=_
  rcases hn with hn|hn
  ·omega
  have:=JH L (show p+1≤p+c+1 by omega);rw[Te hn]at this;rw[W1 (by omega),Bool.and_false,cond_false];exact nD h (.inr hn) c (by omega)
def plL (r:Rul) (L:Rows) (k:Nat) (p:Int):Ln:=PB (CC L k) p (C6 (Ao r L k L.length) p (Ao r L k L.length).length) (CC L k).length
def GO (r:Rul) (L:Rows) (k:Nat):List Int:=PT (Bj (CC L k) (CC L k).length) r.side.toNat
theorem ABo {r:Rul} {L:Rows} {k:Nat} (hc:Ap r L=0) (hk:k<opn L L.length):X8 r L (k:Int)=(AS (GO r L k) (plL r L k),0):=by
 unfold X8;rw[yp hc hk];show(AS (GO r L k) _,0)=_;refine congrArg (fun X=>(AS (GO r L k) X,(0:Int))) (funext fun p=>?_);have e:=AAl (k:Int) (Bm r L) (CC L k) p;rw[Xo hc]at e;exact e.symm
def zD (x:List PV):Prop:=((YP x&&pvI (AA x 12)==4)=true→4≤vn x)∧((YP x&&pvI (AA x 12)==6)=true→6≤vn x)
theorem AB3 {r:Rul} {d:Del} (hl:(Dt d==0)=true) {b:Int} (h1:d.source=1) (h2:d.runs=0) (hb:d.boundary=b) (h0:0≤b∧b≤6):b≤(AF r d).batter:=by
 unfold AF;rw[hl];show b≤(J7 r d).batter;unfold Dt at hl;cases k1:(iLt d.type 1||iLt 3 d.type||iLt 3 d.source||iLt 10 d.how || !btw d.sector 0 8)
 ·cases k2:(!btw d.runs 0 7 || !btw d.short 0 d.runs||(!(d.boundary==0) && !(d.boundary==4) && !(d.boundary==6)))
  ·cases k3:RI d
   ·rw[k1,k2,k3]at hl;cases hl
   rw[Bool.or_eq_false_iff,Bool.or_eq_false_iff]at k2;have s0:=k2.1.2;rw[h2]at s0;simp only[btw,iLe,Bool.not_eq_false',zzj,decide_eq_true_eq]at s0;have sh:d.short=0:=by omega
   have t2:(d.type==2)=false:=by
    cases ht:d.type==2
    ·rfl
    unfold RI at k3;rw[ht,h1]at k3;cases k3
   unfold J7;simp only[t2,h1,h2,sh,hb];rw[show IntKind.i64.wrap (0-0)=0 from rfl,Int.zero_add,A6 (by omega) (by omega)];exact Int.le_refl _
  rw[k1,k2]at hl;cases hl
 rw[k1]at hl;cases hl
theorem AC1 {r:Rul} {L:Rows} (hc:Ap r L=0) {a:Nat} (ha:a<L.length) (hk:((evR L a).kind==4)=true) (t:Mat):zD (CG (a:Int) (stM L a 0 (AM r).1) t (evR L a).ball):=by
 have bf:=Tf hc ha hk;obtain⟨q1,q2,q3,q4,q5,q6⟩:=Nw bf.ref;have go:∀b:Int,0≤b∧b≤6→(((evR L a).ball.source==1&&(evR L a).ball.runs==0)&&(evR L a).ball.boundary==b)=true→b≤(AF (stM L a 0 (AM r).1).rules (evR L a).ball).batter:=fun b hb h=>by
  simp only[zzj,beq_iff_eq]at h;exact AB3 q4 h.1.1 h.1.2 h.2 hb
 exact⟨go 4 (by omega),go 6 (by omega)⟩
theorem AAS {r:Rul} {L:Rows} (hc:Ap r L=0) (k:Nat):∀n,n≤L.length→∀x,x∈Ao r L k n→zD x
 |0,_,x,hx=>absurd hx List.not_mem_nil
 |n+1,hn,x,hx=>by
  have ih:=AAS hc k n (by omega);change x∈cond ((evR L n).kind==4&&Nat.beq (opn L (n+1)) (k+1)) _ (Ao r L k n)at hx;cases hk:(evR L n).kind==4
  ·rw[hk]at hx;exact ih x hx
  cases hb:Nat.beq (opn L (n+1)) (k+1)
  ·rw[hk,hb]at hx;exact ih x hx
  rw[hk,hb]at hx
  rcases List.mem_append.1 hx with hx|hx
  ·exact ih x hx
  rw[List.mem_singleton.1 hx];exact AC1 hc (by omega) hk _
def fH (p:Int) (x:List PV):Int:=cond (pvI (AA x 5)==p) (vn x) 0
structure LnF (p:Int) (X:Rows) (i:Nat) (l:Ln):Prop where
 runs:l.runs=QA (fH p) (X.take i)
 rb:0≤l.runs∧l.runs≤62*(i:Int)
 fb:0≤l.fours∧l.fours≤(i:Int)
 sb:0≤l.sixes∧l.sixes≤(i:Int)
 bnd:4*l.fours+6*l.sixes≤l.runs
 how:l.out = !(l.how==0)
theorem AAw {x:List PV} {p:Int} (hp:1≤p) (h:(DC x==p)=true):(pvI (AA x 14)==0)=false:=by
 cases h0:pvI (AA x 14)==0
 ·rfl
 unfold DC at h;rw[h0]at h;have:(0:Int)=p:=beq_iff_eq.1 h;omega
theorem w9 {n:Int} {X:Rows} (hX:X.length≤4000) (rg:∀x,x∈X→RowG n x) (rk:∀x,x∈X→zD x) {p:Int} (hp:1≤p):∀i,i≤X.length→LnF p X i (C6 X p i)
 |0,_=>⟨rfl,⟨Int.le_refl _,by show(0:Int)≤_;omega⟩,⟨Int.le_refl _,by show(0:Int)≤_;omega⟩,⟨Int.le_refl _,by show(0:Int)≤_;omega⟩,Int.le_refl _,rfl⟩
 |i+1,h=>by
  have ih:=w9 hX rg rk hp i (by omega);have hm:=ABf (D:=X) (i:=i) (by omega);have g:=(rg _ hm).bat;obtain⟨k4,k6⟩:=rk _ hm;have st:=xJ (fH p) (D:=X) (i:=i) (by omega);show LnF p X (i+1) (Hh (AB X i) p (C6 X p i));generalize C6 X p i=l at *
  generalize AB X i=x at *
  obtain⟨i1,i2,i3,i4,i5,i6⟩:=ih;have hit:LnF p X (i+1) (cond (pvI (AA x 5)==p) (Ky x l) l):=by
   cases hs:pvI (AA x 5)==p
   ·have sv:fH p x=0:=by unfold fH;rw[hs];rfl
    exact⟨by rw[st,sv,Int.add_zero];exact i1,⟨i2.1,by show l.runs≤_;omega⟩,⟨i3.1,by show l.fours≤_;omega⟩,⟨i4.1,by show l.sixes≤_;omega⟩,i5,i6⟩
   have sv:fH p x=pvI (AA x 20):=by unfold fH;rw[hs];rfl
   have bx:vn x=pvI (AA x 20):=rfl;have w1:IntKind.i64.wrap (l.runs+pvI (AA x 20))=l.runs+pvI (AA x 20):=A6 (by omega) (by omega);have w2:IntKind.i64.wrap (l.fours+1)=l.fours+1:=A6 (by omega) (by omega);have w3:IntKind.i64.wrap (l.sixes+1)=l.sixes+1:=A6 (by omega) (by omega);have excl:(YP x&&pvI (AA x 12)==4)=true→(YP x&&pvI (AA x 12)==6)=false:=fun h=>by
    rw[zzj,beq_iff_eq]at h;rw[h.2];exact Bool.and_false _
   rw[cond_true];unfold Ky;rw[w1,w2,w3];cases h4:(YP x&&pvI (AA x 12)==4)
   ·cases h6:(YP x&&pvI (AA x 12)==6)
    ·exact⟨by rw[st,sv,←i1],⟨by show 0≤l.runs+pvI (AA x 20);omega,by show l.runs+pvI (AA x 20)≤_;omega⟩,⟨i3.1,by show l.fours≤_;omega⟩,⟨i4.1,by show l.sixes≤_;omega⟩,by show 4*l.fours+6*l.sixes≤l.runs+pvI (AA x 20);omega,i6⟩
    have b6:=k6 h6;exact⟨by rw[st,sv,←i1],⟨by show 0≤l.runs+pvI (AA x 20);omega,by show l.runs+pvI (AA x 20)≤_;omega⟩,⟨i3.1,by show l.fours≤_;omega⟩,⟨by show 0≤l.sixes+1;omega,by show l.sixes+1≤_;omega⟩,by show 4*l.fours+6*(l.sixes+1)≤l.runs+pvI (AA x 20);omega,i6⟩
   have b4:=k4 h4;rw[excl h4];exact⟨by rw[st,sv,←i1],⟨by show 0≤l.runs+pvI (AA x 20);omega,by show l.runs+pvI (AA x 20)≤_;omega⟩,⟨by show 0≤l.fours+1;omega,by show l.fours+1≤_;omega⟩,⟨i4.1,by show l.sixes≤_;omega⟩,by show 4*(l.fours+1)+6*l.sixes≤l.runs+pvI (AA x 20);omega,i6⟩
  unfold Hh;cases hv:DC x==p
  ·exact hit
  have:=AAw hp hv;exact⟨hit.runs,hit.rb,hit.fb,hit.sb,hit.bnd,by show true = !(pvI (AA x 14)==0);rw[this];rfl⟩
theorem ACz {e:Ev} {p:Int} {X:Rows} {i:Nat} {l:Ln} (h:LnF p X i l):LnF p X i (evX e p l):=by
 unfold evX;exact P_c (P:=LnF p X i) _ _ _ ⟨h.runs,h.rb,h.fb,h.sb,h.bnd,h.how⟩ (P_c (P:=LnF p X i) _ _ _ ⟨h.runs,h.rb,h.fb,h.sb,h.bnd,h.how⟩ (P_c (P:=LnF p X i) _ _ _ ⟨h.runs,h.rb,h.fb,h.sb,h.bnd,rfl⟩ (P_c (P:=LnF p X i) _ _ _ ⟨h.runs,h.rb,h.fb,h.sb,h.bnd,rfl⟩ h)))
theorem tX {E:Rows} {p:Int} {X:Rows} {i:Nat} {l:Ln} (h:LnF p X i l):∀n,LnF p X i (PB E p l n)
 |0=>h
 |n+1=>ACz (tX h n)
theorem ACr {r:Rul} {L:Rows} {k:Nat} (hc:Ap r L=0) (rk:RulOk r) {p:Int} (hp:1≤p):LnF p (Ao r L k L.length) (Ao r L k L.length).length (plL r L k p):=by
 have l4:=(Bq hc).2.2.1;obtain⟨b1,b2⟩:=oC hc k L.length (Nat.le_refl _);exact tX (w9 (by omega) (fun x hx=>ADC rk (b2 x hx)) (AAS hc k L.length (Nat.le_refl _)) hp _ (Nat.le_refl _)) _
theorem AAq {r:Rul} {L:Rows} {k:Nat} (hc:Ap r L=0) (hk:k<opn L L.length):((GO r L k).length:Int)=r.side:=by
 have rs:=(Dw (Bq hc).2.1).side;have on:(GO r L k).Nodup:=OC (Lb (CC L k) (CC L k).length) r.side.toNat;have om:=fun p=>cL (p:=p) hc hk (show 0≤r.side by omega)
 have sc:=tc (P:=fun _=>true) on r.side.toNat (fun i hi=>(om _).2 (by omega));have all:∀B:List Int,DI (fun _=>1) B=(B.length:Int):=fun B=>by
  induction B with
  |nil=>rfl
  |cons b B ih=>show 1+DI (fun _=>1) B=((B.length+1:Nat):Int);omega
 have one:∀n,Ce (fun _=>true) n=(n:Int):=fun n=>by
  induction n with
  |zero=>rfl
  |succ n ih=>show Ce (fun _=>true) n+1=_;omega
 rw[one,Le (h:=fun _=>1) (fun p hp=>by
  have:=(om p).1 hp;have h1:iLe 1 p=true:=by simp only[iLe,decide_eq_true_eq];omega
  have h2:iLe p (r.side.toNat:Int)=true:=by simp only[iLe,decide_eq_true_eq];omega
  rw[h1,h2];rfl),all]at sc
 omega
theorem bp {F:(List AQ→Option (List PV))→List PV→Option (List PV)} {len p:Nat} (enc:Nat→List AQ) (stop fin:List PV) (hp:p≤len)
    (h0:p=len→∀self,F self ((enc len).map Leaf.pv)=some fin) (h1:∀i self,i<p→F self ((enc i).map Leaf.pv)=self (enc (i+1)))
    (h2:p<len→∀self,F self ((enc p).map Leaf.pv)=some stop) (n:Nat) (hn:len<n) :
    C1 F n ((enc 0).map Leaf.pv)=some (cond (Nat.blt p len) stop fin):=by
  have main:∀(k i n:Nat),i+k=p→k<n→C1 F n ((enc i).map Leaf.pv)=some (cond (Nat.blt p len) stop fin):=by
    intro k
    induction k with
    |zero =>
      intro i n hk hn;obtain⟨n,rfl⟩:∃m,n=m+1:=⟨n-1,by omega⟩;obtain rfl:i=p:=by omega
      show F _ _=_
      rcases Nat.lt_or_ge i len with h|h
      · rw[h2 h,show Nat.blt i len=true from Nat.ble_eq_true_of_le h];rfl
      obtain rfl:i=len:=by omega
      rw[h0 rfl,show Nat.blt i i=false from by
        cases hq:Nat.blt i i
        · rfl
        exact absurd (Nat.le_of_ble_eq_true hq) (by omega)]
      rfl
    |succ k ih =>
      intro i n hk hn;obtain⟨n,rfl⟩:∃m,n=m+1:=⟨n-1,by omega⟩;show F _ _=_;rw[h1 i _ (by omega)];exact ih (i+1) n (by omega) (by omega)
  exact main p 0 n (by omega) (by omega)
def Jp (f:Nat→Bool):Nat→Nat→Nat
 |0,i=>i
 |k+1,i=>cond (f i) i (Jp f k (i+1))
theorem Nt (f:Nat→Bool):∀k i,Jp f k i≤i+k
 |0,i=>Nat.le_refl _
 |k+1,i=>by
  show cond (f i) i (Jp f k (i+1))≤_;have:=Nt f k (i+1);cases f i
  ·show Jp f k (i+1)≤_;omega
  show i≤_;omega
theorem S6 (f:Nat→Bool):∀k i j,i≤j→j<Jp f k i→f j=false
 |0,i,j,h1,h2=>by change j<i at h2;omega
 |k+1,i,j,h1,h2=>by
  change j<cond (f i) i (Jp f k (i+1))at h2;cases hf:f i
  ·rw[hf]at h2
   rcases Nat.lt_or_ge i j with h|h
   ·exact S6 f k (i+1) j h h2
   obtain rfl:j=i:=by omega
   exact hf
  rw[hf]at h2;change j<i at h2;omega
theorem P5 (f:Nat→Bool):∀k i,Jp f k i<i+k→f (Jp f k i)=true
 |0,i,h=>by change i<i at h;omega
 |k+1,i,h=>by
  change cond (f i) i (Jp f k (i+1))<i+(k+1)at h;show f (cond (f i) i (Jp f k (i+1)))=true;cases hf:f i
  ·rw[hf]at h;change Jp f k (i+1)<i+(k+1)at h;exact P5 f k (i+1) (by omega)
  exact hf
structure BL where
 p:Int
 b:Int
 m:Int
 r:Int
 w:Int
 wd:Int
 nb:Int
def BL.ls (s:BL):List PV:=[.int s.p,.int s.b,.int s.m,.int s.r,.int s.w,.int s.wd,.int s.nb]
def BL.lf (s:BL):List AQ:=[.int s.p,.int s.b,.int s.m,.int s.r,.int s.w,.int s.wd,.int s.nb]
def A4 (xs:List BL):Rows:=xs.map BL.ls
def zBL (b m:Int):BL:=⟨b,0,m,0,0,0,0⟩
def bln (xs:List BL) (i:Nat):BL:=xs.getD i (zBL 0 0)
theorem oa (xs:List BL) (i:Nat):bln xs i=(match xs[i]? with|some s=>s|none=>zBL 0 0):=by
 unfold bln;rw[zzk];cases xs[i]?<;>rfl
theorem Tc {xs:List BL} {i:Nat} (h:i<xs.length):bln xs i=xs[i]:=by rw[oa,zzn h]
theorem kt (xs:List BL) (i:Nat):AB (A4 xs) i=(match xs[i]? with|some s=>s.ls|none=>[]):=by
 unfold AB A4;rw[zzk,List.getElem?_map];cases xs[i]?<;>rfl
theorem LJ (xs:List BL):(A4 xs).length=xs.length:=List.length_map _
theorem PXv:(∀ xs:List BL,(A4 xs).length=xs.length)∧(∀ (xs:List BL) (i:Nat),pvI (AD (A4 xs) i 0)=(bln xs i).p)∧(∀ (xs:List BL) (i:Nat),pvI (AD (A4 xs) i 1)=(bln xs i).b)∧(∀ (xs:List BL) (i:Nat),pvI (AD (A4 xs) i 2)=(bln xs i).m)∧(∀ (xs:List BL) (i:Nat),pvI (AD (A4 xs) i 3)=(bln xs i).r) ∧
    (∀(xs:List BL) (i:Nat),pvI (AD (A4 xs) i 4)=(bln xs i).w)∧(∀(xs:List BL) (i:Nat),pvI (AD (A4 xs) i 5)=(bln xs i).wd)∧(∀(xs:List BL) (i:Nat),pvI (AD (A4 xs) i 6)=(bln xs i).nb):=by
  refine⟨LJ,?_,?_,?_,?_,?_,?_,?_⟩
  all_goals (intro xs i;rw[oa];unfold AD;rw[kt];cases xs[i]?<;>rfl)
theorem Ls {xs:List BL} {i j:Nat} {v:Int} (f:BL→BL) (h:∀s:BL,putRow s.ls j [.int v]=(f s).ls):(A4 xs).set i (putRow (AB (A4 xs) i) j [.int v])=A4 (xs.set i (f (bln xs i))):=by
 by_cases hi:i<xs.length
 ·have e:AB (A4 xs) i=(bln xs i).ls:=by rw[kt,oa,zzn hi]
  rw[e,h];exact List.map_set.symm
 rw[List.set_eq_of_length_le (by rw[LJ];omega),List.set_eq_of_length_le (by omega)]
theorem PXx:(∀ (xs:List BL) (i:Nat) (v:Int),(A4 xs).set i (putRow (AB (A4 xs) i) 1 [.int v])=A4 (xs.set i { bln xs i with b:=v }))∧(∀ (xs:List BL) (i:Nat) (v:Int),(A4 xs).set i (putRow (AB (A4 xs) i) 2 [.int v])=A4 (xs.set i { bln xs i with m:=v })) ∧
    (∀(xs:List BL) (i:Nat) (v:Int),(A4 xs).set i (putRow (AB (A4 xs) i) 3 [.int v])=A4 (xs.set i { bln xs i with r:=v }))∧(∀(xs:List BL) (i:Nat) (v:Int),(A4 xs).set i (putRow (AB (A4 xs) i) 4 [.int v])=A4 (xs.set i { bln xs i with w:=v })) ∧
    (∀(xs:List BL) (i:Nat) (v:Int),(A4 xs).set i (putRow (AB (A4 xs) i) 5 [.int v])=A4 (xs.set i { bln xs i with wd:=v }))∧(∀(xs:List BL) (i:Nat) (v:Int),(A4 xs).set i (putRow (AB (A4 xs) i) 6 [.int v])=A4 (xs.set i { bln xs i with nb:=v })) ∧
    (∀(xs:List BL) (a b c d e f g:Int),A4 xs++[([.int a,.int b,.int c,.int d,.int e,.int f,.int g]:List PV)]=A4 (xs++[⟨a,b,c,d,e,f,g⟩])) :=
  ⟨fun xs i v=>Ls (j:=1) (v:=v) (fun s=>{ s with b:=v }) (fun s=>rfl),fun xs i v=>Ls (j:=2) (v:=v) (fun s=>{ s with m:=v }) (fun s=>rfl),fun xs i v=>Ls (j:=3) (v:=v) (fun s=>{ s with r:=v }) (fun s=>rfl),fun xs i v=>Ls (j:=4) (v:=v) (fun s=>{ s with w:=v }) (fun s=>rfl),fun xs i v=>Ls (j:=5) (v:=v) (fun s=>{ s with wd:=v }) (fun s=>rfl),fun xs i v=>Ls (j:=6) (v:=v) (fun s=>{ s with nb:=v }) (fun s=>rfl),
    fun xs a b c d e f g=>(List.map_append (f:=BL.ls) (l₁:=xs) (l₂:=[⟨a,b,c,d,e,f,g⟩])).symm⟩
abbrev wr6 (n:Int):Int:=IntKind.i64.wrap n
def blX (x:List PV) (md:Bool) (s:BL):BL:=⟨s.p,cond (pvB (AA x 26)) (wr6 (s.b+1)) s.b,cond md (wr6 (s.m+1)) s.m,wr6 (s.r+pvI (AA x 25)),cond (pvB (AA x 28)) (wr6 (s.w+1)) s.w,cond (pvI (AA x 8)==2) (wr6 (s.wd+1)) s.wd,cond (pvI (AA x 8)==2) s.nb (cond (pvI (AA x 8)==3) (wr6 (s.nb+1)) s.nb)⟩
def Fk (b:Int) (xs:List BL):Nat:=Jp (fun j=>(bln xs j).p==b) xs.length 0
def Xc (b:Int) (xs:List BL):List BL:=cond (Nat.blt (Fk b xs) xs.length) xs (xs++[zBL b 0])
def ig (x:List PV) (md:Bool) (xs:List BL):List BL:=(Xc (pvI (AA x 4)) xs).set (Fk (pvI (AA x 4)) xs) (blX x md (bln (Xc (pvI (AA x 4)) xs) (Fk (pvI (AA x 4)) xs)))
def IA (md:Nat→Bool) (X:Rows):Nat→List BL
 |0=>[]
 |i+1=>ig (AB X i) (md i) (IA md X i)
def Ck (md:Nat→Bool) (X:Rows) (b m0:Int):Nat→BL
 |0=>zBL b m0
 |i+1=>cond (pvI (AA (AB X i) 4)==b) (blX (AB X i) (md i) (Ck md X b m0 i)) (Ck md X b m0 i)
def boN (X:Rows):Nat→List Int
 |0=>[]
 |i+1=>cond ((boN X i).any (·==pvI (AA (AB X i) 4))) (boN X i) (boN X i++[pvI (AA (AB X i) 4)])
theorem lH (X:Rows):∀i,(boN X i).length≤i
 |0=>Nat.le_refl _
 |i+1=>by
  have:=lH X i;show(cond _ (boN X i) (boN X i++[_])).length≤i+1;cases(boN X i).any (·==pvI (AA (AB X i) 4))
  ·show(boN X i++[_]).length≤_;rw[List.length_append];exact Nat.succ_le_succ this
  exact Nat.le_succ_of_le this
theorem xo {l:List Int} {b:Int} (h:l.any (·==b)=false):b∉l:=fun hm=>by
 have:l.any (·==b)=true:=List.any_eq_true.2 ⟨b,hm,beq_self_eq_true b⟩;rw[h]at this;cases this
theorem Vh (X:Rows):∀i,(boN X i).Nodup
 |0=>List.nodup_nil
 |i+1=>by
  have ih:=Vh X i;show(cond _ (boN X i) (boN X i++[_])).Nodup;cases ha:(boN X i).any (·==pvI (AA (AB X i) 4))
  ·refine List.nodup_append.2 ⟨ih,List.pairwise_singleton _ _,fun x hx y hy=>?_⟩;rw[List.mem_singleton.1 hy];exact fun e=>xo ha (e▸hx)
  exact ih
theorem wN (md:Nat→Bool) (X:Rows) (b m0:Int):∀i,(Ck md X b m0 i).p=b
 |0=>rfl
 |i+1=>by
  have ih:=wN md X b m0 i;show(cond _ (blX _ _ (Ck md X b m0 i)) (Ck md X b m0 i)).p=b;cases pvI (AA (AB X i) 4)==b<;>exact ih
theorem qb (md:Nat→Bool) (X:Rows) (b m0:Int):∀i,b∉boN X i→Ck md X b m0 i=zBL b m0
 |0,_=>rfl
 |i+1,h=>by
  change b∉cond _ (boN X i) (boN X i++[_])at h;have h1:b∉boN X i∧(pvI (AA (AB X i) 4)==b)=false:=by
   cases ha:(boN X i).any (·==pvI (AA (AB X i) 4))
   ·rw[ha]at h;have h:b∉boN X i++[_]:=h;exact⟨fun hm=>h (List.mem_append_left _ hm),beq_eq_false_iff_ne.2 (fun e=>h (List.mem_append_right _ (by rw[e];exact List.mem_singleton.2 rfl)))⟩
   rw[ha]at h;refine⟨h,beq_eq_false_iff_ne.2 (fun e=>h ?_)⟩;obtain⟨y,hy,hye⟩:=List.any_eq_true.1 ha;rw[←e,←beq_iff_eq.1 hye];exact hy
  show cond _ (blX _ _ (Ck md X b m0 i)) (Ck md X b m0 i)=_;rw[h1.2];exact qb md X b m0 i h1.1
theorem jF {a b:Nat} (h:a<b):Nat.blt a b=true:=Nat.ble_eq_true_of_le h
theorem iB {a b:Nat} (h:¬a<b):Nat.blt a b=false:=by
 cases hq:Nat.blt a b
 ·rfl
 exact absurd (Nat.le_of_ble_eq_true hq) h
theorem cB (md:Nat→Bool) (X:Rows):∀i,IA md X i=(boN X i).map fun b=>Ck md X b 0 i
 |0=>rfl
 |i+1=>by
  have ih:=cB md X i;have nd:=Vh X i;show ig (AB X i) (md i) (IA md X i)=(cond ((boN X i).any (·==pvI (AA (AB X i) 4))) (boN X i) (boN X i++[pvI (AA (AB X i) 4)])).map _;rw[ih];generalize hb:pvI (AA (AB X i) 4)=b;generalize hB:boN X i=B at *
  have ls1:∀c,Ck md X c 0 (i+1)=cond (b==c) (blX (AB X i) (md i) (Ck md X c 0 i)) (Ck md X c 0 i):=fun c=>by rw[←hb];rfl
  have hpj:∀j (hj:j<B.length),(bln (B.map fun b=>Ck md X b 0 i) j).p=B[j]:=fun j hj=>by
   rw[Tc (by rw[List.length_map];exact hj),List.getElem_map,wN]
  have ple:=Nt (fun j=>(bln (B.map fun b=>Ck md X b 0 i) j).p==b) (B.map fun b=>Ck md X b 0 i).length 0;have pno:=S6 (fun j=>(bln (B.map fun b=>Ck md X b 0 i) j).p==b) (B.map fun b=>Ck md X b 0 i).length 0;have pyes:=P5 (fun j=>(bln (B.map fun b=>Ck md X b 0 i) j).p==b) (B.map fun b=>Ck md X b 0 i).length 0;unfold ig;rw[hb];change Fk b (B.map fun b=>Ck md X b 0 i)≤_ at ple;change∀j,0≤j→j<Fk b (B.map fun b=>Ck md X b 0 i)→_ at pno;change Fk b (B.map fun b=>Ck md X b 0 i)<_→((bln (B.map fun b=>Ck md X b 0 i) (Fk b (B.map fun b=>Ck md X b 0 i))).p==b)=true at pyes;rw[Nat.zero_add,List.length_map]at ple;rw[Nat.zero_add,List.length_map]at pyes;unfold Xc;rw[List.length_map];generalize Fk b (B.map fun b=>Ck md X b 0 i)=p at *
  by_cases hp:p<B.length
  ·have hbp:B[p]=b:=by rw[←hpj p hp];exact beq_iff_eq.1 (pyes hp)
   have hany:B.any (·==b)=true:=List.any_eq_true.2 ⟨b,by rw[←hbp];exact List.getElem_mem hp,beq_self_eq_true b⟩;rw[jF hp,hany,cond_true,cond_true];apply List.ext_getElem
   ·simp
   intro j h1 h2o;have h2:j<B.length:=by rw[List.length_map]at h2o;exact h2o
   rw[List.getElem_set,show(List.map (fun b=>Ck md X b 0 (i+1)) B)[j]'h2o=Ck md X B[j] 0 (i+1)from List.getElem_map _,ls1]
   by_cases hj:p=j
   ·subst hj;rw[if_pos rfl,hbp,beq_self_eq_true,cond_true,Tc (by rw[List.length_map];exact hp),List.getElem_map,hbp]
   rw[if_neg hj,List.getElem_map];have:¬b=B[j]:=fun e=>hj (by
    rcases Nat.lt_trichotomy p j with h|h|h
    ·exact absurd (hbp.trans e) (List.pairwise_iff_getElem.1 nd p j hp h2 h)
    ·exact h
    exact absurd (e.symm.trans hbp.symm) (List.pairwise_iff_getElem.1 nd j p h2 hp h))
   rw[beq_eq_false_iff_ne.2 this,cond_false]
  obtain rfl:p=B.length:=by omega
  have hno:b∉B:=fun hm=>by
   obtain⟨j,hj,e⟩:=List.getElem_of_mem hm;have:=pno j (Nat.zero_le _) hj;change((bln (B.map fun b=>Ck md X b 0 i) j).p==b)=false at this;rw[hpj j hj,e,beq_self_eq_true]at this;cases this
  have hany:B.any (·==b)=false:=by
   cases h:B.any (·==b)
   ·rfl
   obtain⟨y,hy,hye⟩:=List.any_eq_true.1 h;exact absurd (beq_iff_eq.1 hye▸hy) hno
  have hz:Ck md X b 0 i=zBL b 0:=qb md X b 0 i (by rw[hB];exact hno);rw[iB hp,hany,cond_false,cond_false,List.map_append];have hs:bln ((B.map fun b=>Ck md X b 0 i)++[zBL b 0]) B.length=zBL b 0:=by
   rw[Tc (by simp),List.getElem_append_right (by simp)];simp
  rw[hs,List.set_append_right _ _ (by simp)];have e1:(B.map fun b=>Ck md X b 0 (i+1))=B.map fun b=>Ck md X b 0 i:=List.map_congr_left (fun c hc=>by
   rw[ls1,beq_eq_false_iff_ne.2 (fun e=>hno (by rw[e];exact hc)),cond_false])
  rw[e1];simp only[List.length_map,Nat.sub_self,List.set_cons_zero,List.map_cons,List.map_nil,ls1,beq_self_eq_true,cond_true,hz]
def mdP (md:Nat→Bool) (X:Rows) (b:Int):Nat→Int
 |0=>0
 |i+1=>cond (pvI (AA (AB X i) 4)==b&&md i) (wr6 (mdP md X b i+1)) (mdP md X b i)
def It (X:Rows) (o b:Int) (j:Nat):Bool:=(pvI (AA (AB X j) 2)==o)&&(!(pvI (AA (AB X j) 4)==b) || !(pvI (AA (AB X j) 25)==0))
def CN (X:Rows) (o:Int):Nat→Int
 |0=>0
 |j+1=>cond ((pvI (AA (AB X j) 2)==o)&&pvB (AA (AB X j) 26)) (wr6 (CN X o j+1)) (CN X o j)
def mdS (bal:Int) (X:Rows) (o b:Int):Bool := !Nat.blt (Jp (It X o b) X.length 0) X.length&&(CN X o X.length==bal)
def XZ (X:Rows) (i:Nat):Bool:=Nat.beq i 0 || !(pvI (AA (AB X (i-1)) 2)==pvI (AA (AB X i) 2))
def mdA (bal:Int) (X:Rows) (i:Nat):Bool:=XZ X i&&mdS bal X (pvI (AA (AB X i) 2)) (pvI (AA (AB X i) 4))
theorem jq {bal:Int} {X:Rows} {o b:Int}:mdS bal X o b=true↔(∀j,j<X.length→(pvI (AA (AB X j) 2)==o)=true→(pvI (AA (AB X j) 4)==b)=true∧pvI (AA (AB X j) 25)=0)∧(CN X o X.length==bal)=true:=by
 unfold mdS;rw[zzj];refine and_congr_left (fun _=>?_);have ple:=Nt (It X o b) X.length 0;have pno:=S6 (It X o b) X.length 0;have pyes:=P5 (It X o b) X.length 0;rw[Nat.zero_add]at ple pyes;generalize Jp (It X o b) X.length 0=p at *
 constructor
 ·intro h j hj hjo;have hp:¬p<X.length:=fun hl=>by rw[jF hl]at h;cases h
  have:=pno j (Nat.zero_le _) (by omega);unfold It at this;rw[hjo,Bool.true_and,Bool.or_eq_false_iff,Bool.not_eq_false',Bool.not_eq_false']at this;exact⟨this.1,beq_iff_eq.1 this.2⟩
 intro h;rw[iB (fun hl=>?_)];rfl;have:=pyes hl;unfold It at this;rw[zzj]at this;obtain⟨h1,h2⟩:=h _ hl this.1;have h3:=this.2;simp only[beq_iff_eq.1 h1,h2,beq_self_eq_true]at h3;exact absurd h3 (by decide)
set_option maxHeartbeats 2000000 in
theorem TG {N:Nat} {r1 r2 r3 r4 r5 r6 r7 r9 r10 r11 r12:Int} {r8:Bool} {r0:ByteArray} {r13:Rows} {X:Rows} {o:Int} {b:Int} (hN:2097152<N) (hX:X.length≤1000000):JB N [.str r0,.int r1,.int r2,.int r3,.int r4,.int r5,.int r6,.int r7,.bool r8,.int r9,.int r10,.int r11,.int r12,.rows r13,.rows X,.int o,.int b]=some [.bool (mdS r4 X o b)]:=by
 show I7 (std (RZ N) N) (xOf _)=_;simp only[I7,lq9,std,xOf,PXb];have ple:=Nt (It X o b) X.length 0;have pno:=S6 (It X o b) X.length 0;have pyes:=P5 (It X o b) X.length 0;rw[Nat.zero_add]at ple pyes;refine AN (bp (len:=X.length) (p:=Jp (It X o b) X.length 0) (fun i=>[.int (CN X o i),.int (i:Int)]) [.int 0,.bool false] [.int 1,.int (CN X o X.length)] ple ?_ ?_ ?_ N (by omega)) ?_
 ·intro _ self;simp only[PXb,PXc,PXn,AE,Aj]
 ·intro i self hi;have hb:=pno i (Nat.zero_le _) hi;unfold It at hb;have hl:i<X.length:=by omega
  simp only[PXb,PXc,PXn,AE,Ai (show i≤1099511627776 by omega),Aa hl,AJ hl,AD,CN];cases h1:pvI (AA (AB X i) 2)==o
  ·rfl
  rw[h1,Bool.true_and]at hb;cases h2:pvI (AA (AB X i) 4)==b<;>cases h3:pvI (AA (AB X i) 25)==0<;>rw[h2,h3]at hb<;>first|(cases hb;done)|(cases pvB (AA (AB X i) 26)<;>rfl)
 ·intro hl self;have hb:=pyes hl;generalize Jp (It X o b) X.length 0=p at *
  unfold It at hb;simp only[PXb,PXc,PXn,AE,Aa hl,AJ hl,AD];cases h1:pvI (AA (AB X p) 2)==o<;>cases h2:pvI (AA (AB X p) 4)==b<;>cases h3:pvI (AA (AB X p) 25)==0<;>rw[h1,h2,h3]at hb<;>first|(cases hb;done)|rfl
 unfold mdS;cases Nat.blt (Jp (It X o b) X.length 0) X.length<;>rfl
def fO (x:List PV):Prop:=x.length=32∧GV x=x
theorem mv {L:Rows}:∀k i m out,(∀x∈out,fO x)→∀x∈NA L k i m out,fO x
 |0,i,m,out,h=>h
 |k+1,i,m,out,h=>by
  show∀x∈NA L k (i+1) (BB i m (evR L i)).1 (cond ((evR L i).kind==4) (out++[CG i m (BB i m (evR L i)).1 (evR L i).ball]) out),fO x;refine mv k (i+1) _ _ ?_;cases(evR L i).kind==4
  ·exact h
  intro x hx
  rcases List.mem_append.1 hx with hx|hx
  ·exact h x hx
  rw[List.mem_singleton.1 hx];exact⟨rfl,rfl⟩
theorem sO {r:Rul} {L:Rows} (hc:Ap r L=0):∀x∈Bm r L,fO x:=by
 obtain⟨h1,h2,h3,h4,h5⟩:=Bq hc;have:Bm r L=NA L L.length 0 (AM r).1 []:=by
  unfold Bm;rw[h1];obtain⟨j,j1,j2,j3,j4⟩:=Tz L L.length 0 (AM r).1;show Lq L L.length 0 (AM r).1 []=_;rw[j3 []]
  rcases j4 with⟨j5,_⟩|⟨j5,j6,j7⟩
  ·rw[j5]
  have hh:=O4 L.length 0 _ h4 j j5;rw[hh]at j6;cases j6
 rw[this];exact mv _ _ _ _ (fun x hx=>absurd hx List.not_mem_nil)
theorem jm {k:Int}:∀{A:Rows},(∀x∈A,fO x)→(∀x∈A,(pvI (AA x 1)==k)=true)→fil k A=A
 | [],_,_=>rfl
 |x::A,h,h1=>by
  show cond (pvI (AA x 1)==k) (GV x::fil k A) (fil k A)=_;rw[h1 x zzl,jm (fun y hy=>h y (zzm _ hy)) (fun y hy=>h1 y (zzm _ hy)),(h x zzl).2];rfl
theorem Q0 {D:Rows} {i:Nat} (h:i<D.length):AB D i∈D:=by
 unfold AB;rw[zzk,zzn h];exact List.getElem_mem h
theorem tH {D:Rows} {x:List PV} {n:Nat} (h:x∈D.take n):∃j,j<n∧j<D.length∧x=AB D j:=by
 obtain⟨j,hj,e⟩:=List.getElem_of_mem h;rw[List.length_take]at hj;refine⟨j,by omega,by omega,?_⟩;rw[←e,List.getElem_take];unfold AB;rw[zzk,zzn (by omega)];rfl
theorem iS:∀(ps r:List PV) (off:Nat),r.length=off+ps.length→putRow r off ps=r.take off++ps
 | [],r,off,h=>by
  show r=_;rw[List.append_nil,List.take_of_length_le (by simpa using Nat.le_of_eq h)]
 |p::ps,r,off,h=>by
  show putRow (r.set off p) (off+1) ps=_;have hl:off<r.length:=by rw[h];simp
  rw[iS ps (r.set off p) (off+1) (by rw[List.length_set,h];simp;omega),List.take_add_one,List.getElem?_set_self hl,List.take_set_of_le (Nat.le_refl _)];simp
theorem tE {ps r:List PV} (h:r.length=ps.length):putRow r 0 ps=ps:=by rw[iS ps r 0 (by omega)];rfl
def dlN (D:Rows) (k:Int) (p:Nat):Nat→Rows×Nat
 |0=>(D,p)
 |t+1=>cond (pvI (AA (AB (dlN D k p t).1 (p+1+t)) 1)==k) ((dlN D k p t).1.set (dlN D k p t).2 (GV (AB (dlN D k p t).1 (p+1+t))),(dlN D k p t).2+1) (dlN D k p t)
structure DlF (D:Rows) (k:Int) (p t:Nat):Prop where
 len:(dlN D k p t).1.length=D.length
 le:(dlN D k p t).2≤p+t
 cut:(dlN D k p t).1.take (dlN D k p t).2=fil k (D.take (p+1+t))
 rest:∀j,p+1+t≤j→AB (dlN D k p t).1 j=AB D j
 row:∀x∈(dlN D k p t).1,fO x
theorem ACq {D:Rows} {k:Int} {p:Nat} (hD:∀x∈D,fO x) (hp:p<D.length) (h0:∀j,j<p→(pvI (AA (AB D j) 1)==k)=true) (h1:(pvI (AA (AB D p) 1)==k)=false):∀t,p+1+t≤D.length→DlF D k p t
 |0,_=>by
  refine⟨rfl,Nat.le_refl _,?_,fun j _=>rfl,hD⟩;show D.take p=fil k (D.take (p+1));rw[eY hp,show pvI (AD D p 1)=pvI (AA (AB D p) 1)from rfl,h1,cond_false,jm (fun x hx=>hD x (List.mem_of_mem_take hx)) (fun x hx=>by
   obtain⟨j,h2,h3,rfl⟩:=tH hx;exact h0 j h2)]
 |t+1,ht=>by
  obtain⟨f1,f2,f3,f4,f5⟩:=ACq hD hp h0 h1 t (by omega);have hj:p+1+t<D.length:=by omega
  have hr:=f4 (p+1+t) (Nat.le_refl _);have ft:=eY (k:=k) hj;rw[show pvI (AD D (p+1+t) 1)=pvI (AA (AB D (p+1+t)) 1)from rfl]at ft;have e:dlN D k p (t+1)=cond (pvI (AA (AB D (p+1+t)) 1)==k) ((dlN D k p t).1.set (dlN D k p t).2 (GV (AB D (p+1+t))),(dlN D k p t).2+1) (dlN D k p t):=by rw[←hr];rfl
  cases hk:pvI (AA (AB D (p+1+t)) 1)==k
  ·rw[hk,cond_false]at e ft;exact⟨by rw[e];exact f1,by rw[e];omega,by rw[e,f3,show p+1+(t+1)=p+1+t+1 by omega,ft],fun j hj2=>by rw[e];exact f4 j (by omega),by rw[e];exact f5⟩
  rw[hk,cond_true]at e ft;have hl:(dlN D k p t).2<(dlN D k p t).1.length:=by omega
  refine⟨by rw[e];show(List.set _ _ _).length=_;rw[List.length_set];exact f1,by rw[e];show(dlN D k p t).2+1≤_;omega,?_,fun j hj2=>?_,?_⟩
  ·rw[e,show p+1+(t+1)=p+1+t+1 by omega,ft,←f3];show((dlN D k p t).1.set (dlN D k p t).2 _).take ((dlN D k p t).2+1)=_;rw[List.take_add_one,List.getElem?_set_self hl,List.take_set_of_le (Nat.le_refl _)];rfl
  ·rw[e,←f4 j (by omega)];show AB ((dlN D k p t).1.set (dlN D k p t).2 _) j=_;unfold AB;simp only[zzk,List.getElem?_set_ne (show(dlN D k p t).2≠j by omega)]
  rw[e];intro x hx
  rcases List.mem_or_eq_of_mem_set hx with h|h
  ·exact f5 x h
  have:=hD _ (Q0 hj);rw[h,this.2];exact this
def YN (r:Rul) (L:Rows) (k:Int):Rows×Int:=cond ((IH r L k).2==0) (A4 (IA (mdA r.balls (IH r L k).1) (IH r L k).1 (IH r L k).1.length),0) ([],(IH r L k).2)
def AAH (x:List PV):List AQ:=[.int (pvI (AA x 0)),.int (pvI (AA x 1)),.int (pvI (AA x 2)),.int (pvI (AA x 3)),.int (pvI (AA x 4)),.int (pvI (AA x 5)),.int (pvI (AA x 6)),.bool (pvB (AA x 7)),.int (pvI (AA x 8)),.int (pvI (AA x 9)),.int (pvI (AA x 10)),.int (pvI (AA x 11)),.int (pvI (AA x 12)),.bool (pvB (AA x 13)),.int (pvI (AA x 14)),.int (pvI (AA x 15)),.int (pvI (AA x 16)),.int (pvI (AA x 17)),.bool (pvB (AA x 18)),.int (pvI (AA x 19)),.int (pvI (AA x 20)),.int (pvI (AA x 21)),.int (pvI (AA x 22)),.int (pvI (AA x 23)),.int (pvI (AA x 24)),.int (pvI (AA x 25)),.bool (pvB (AA x 26)),.bool (pvB (AA x 27)),.bool (pvB (AA x 28)),.bool (pvB (AA x 29)),.int (pvI (AA x 30)),.int (pvI (AA x 31))]
theorem AAt {ys:List BL} {p:Nat} (h:p<ys.length) (s:BL):bln (ys.set p s) p=s:=by rw[Tc (by rw[List.length_set];exact h),List.getElem_set_self]
theorem AAe (b:Int) (xs:List BL):Fk b xs<(Xc b xs).length∧(Xc b xs).length≤xs.length+1:=by
 have ple:=Nt (fun j=>(bln xs j).p==b) xs.length 0;rw[Nat.zero_add]at ple;change Fk b xs≤xs.length at ple;unfold Xc
 by_cases h:Fk b xs<xs.length
 ·rw[jF h,cond_true];exact⟨h,Nat.le_succ _⟩
 rw[iB h,cond_false,List.length_append];exact⟨by simp only[List.length_cons,List.length_nil];omega,Nat.le_refl _⟩
theorem PXw:(∀(xs:List BL) (i:Nat),pvI (AA (AB (A4 xs) i) 0)=(bln xs i).p)∧(∀(xs:List BL) (i:Nat),pvI (AA (AB (A4 xs) i) 1)=(bln xs i).b)∧(∀(xs:List BL) (i:Nat),pvI (AA (AB (A4 xs) i) 2)=(bln xs i).m)∧(∀(xs:List BL) (i:Nat),pvI (AA (AB (A4 xs) i) 3)=(bln xs i).r)∧(∀(xs:List BL) (i:Nat),pvI (AA (AB (A4 xs) i) 4)=(bln xs i).w)∧(∀(xs:List BL) (i:Nat),pvI (AA (AB (A4 xs) i) 5)=(bln xs i).wd)∧(∀(xs:List BL) (i:Nat),pvI (AA (AB (A4 xs) i) 6)=(bln xs i).nb):=PXv.2
theorem ACT {N:Nat} (hN:2097152<N) {xs:List BL} (hx:xs.length≤1000000) {b:Int} {J:List AQ} {F:(List AQ→Option (List PV))→List PV→Option (List PV)}
    (h0:∀self,F self (.int (xs.length:Int)::J.map Leaf.pv)=some (.int 1::J.map Leaf.pv)) (h1:∀i self,i<xs.length→F self (.int (i:Int)::J.map Leaf.pv)=cond ((bln xs i).p==b) (some (.int 0::.int (i:Int)::J.map Leaf.pv)) (self (.int ((i+1:Nat):Int)::J))) :
    C1 F N (.int 0::J.map Leaf.pv)=some (cond (Nat.blt (Fk b xs) xs.length) (.int 0::.int (Fk b xs:Int)::J.map Leaf.pv) (.int 1::J.map Leaf.pv)):=by
  have ple:=Nt (fun j=>(bln xs j).p==b) xs.length 0;have pno:=S6 (fun j=>(bln xs j).p==b) xs.length 0;have pyes:=P5 (fun j=>(bln xs j).p==b) xs.length 0;rw[Nat.zero_add]at ple pyes;have:=bp (F:=F) (len:=xs.length) (p:=Fk b xs) (fun i=>.int (i:Int)::J) (.int 0::.int (Fk b xs:Int)::J.map Leaf.pv) (.int 1::J.map Leaf.pv) ple (fun _ self=>h0 self) (fun i self hi=>by
    have:=h1 i self (Nat.lt_of_lt_of_le hi ple);rw[show((bln xs i).p==b)=false from pno i (Nat.zero_le _) hi]at this;exact this) (fun hl self=>by
    have:=h1 (Fk b xs) self hl;rw[show((bln xs (Fk b xs)).p==b)=true from pyes hl]at this;exact this) N (by omega)
  exact this
set_option maxHeartbeats 8000000 in
theorem dE {N:Nat} {r1 r2 r3 r4 r5 r6 r7 r9 r10 r11 r12:Int} {r8:Bool} {r0:ByteArray} {r13:Rows} {L:Rows} {k:Int} (hN:2097152<N) (hs:r0.size≤1048576) (h13:r13.length≤1048576) (hL:L.length≤1000000):FH N [.str r0,.int r1,.int r2,.int r3,.int r4,.int r5,.int r6,.int r7,.bool r8,.int r9,.int r10,.int r11,.int r12,.rows r13,.rows L,.int k]=some [.rows (YN (⟨r0,r1,r2,r3,r4,r5,r6,r7,r8,r9,r10,r11,r12,r13⟩:Rul) L k).1,.int (YN (⟨r0,r1,r2,r3,r4,r5,r6,r7,r8,r9,r10,r11,r12,r13⟩:Rul) L k).2]:=by
 show FV (std (Bg N) N) (xOf _)=_;generalize hres:(some [.rows (YN (⟨r0,r1,r2,r3,r4,r5,r6,r7,r8,r9,r10,r11,r12,r13⟩:Rul) L k).1,.int (YN (⟨r0,r1,r2,r3,r4,r5,r6,r7,r8,r9,r10,r11,r12,r13⟩:Rul) L k).2]:Option (List PV))=RR;have hl:L.length≤1048576:=by omega
 simp only[FV,RP,PM,Rg,NQ,lq9,std,xOf,PXb,WP hN hs h13 hl,Qb hN hl,Xf hN hs h13 hl,gL,PXc];subst hres;simp only[YN,IH];cases hc:Ap (⟨r0,r1,r2,r3,r4,r5,r6,r7,r8,r9,r10,r11,r12,r13⟩:Rul) L==0
 ·simp only[PXb,Bool.not_false,hc]
 have c0:=beq_iff_eq.1 hc;have pl:=gw (⟨r0,r1,r2,r3,r4,r5,r6,r7,r8,r9,r10,r11,r12,r13⟩:Rul) L;have l4:=(Bq c0).2.2.1;have rd:=sO c0;cases h0:iLt k 0
 ·simp only[PXb,Bool.not_true,Bool.not_false,PXp,TF];cases h1:iLe (opn L L.length:Int) k
  ·simp only[PXb];generalize Bm (⟨r0,r1,r2,r3,r4,r5,r6,r7,r8,r9,r10,r11,r12,r13⟩:Rul) L=D at *
   have ple:=Nt (fun j => !(pvI (AA (AB D j) 1)==k)) D.length 0;have pno:=S6 (fun j => !(pvI (AA (AB D j) 1)==k)) D.length 0;have pyes:=P5 (fun j => !(pvI (AA (AB D j) 1)==k)) D.length 0;rw[Nat.zero_add]at ple pyes;generalize Jp (fun j => !(pvI (AA (AB D j) 1)==k)) D.length 0=p at *
   refine Er (v:=[.rows (fil k D),.int k]) ?_ ?_
   ·refine Er (v:=[.int (cond (Nat.blt p D.length) (p:Int) (-1)),.int k]) ?_ ?_
    ·refine AN (bp (len:=D.length) (p:=p) (fun i=>[.int (i:Int),.int k]) [.int 0,.int (p:Int),.int k] [.int 1,.int k] ple ?_ ?_ ?_ N (by omega)) ?_
     ·intro _ self;simp only[PXb,PXc,PXn,AE,Aj]
     ·intro i self hi;have hb:=pno i (Nat.zero_le _) hi;have hl2:i<D.length:=by omega
      simp only[PXb,PXc,PXn,AE,Ai (show i≤1099511627776 by omega),Aa hl2,AJ hl2,AD,hb]
     ·intro hl2 self;have hb:=pyes hl2;simp only[PXb,PXc,PXn,AE,Aa hl2,AJ hl2,AD,hb]
     cases Nat.blt p D.length<;>rfl
    by_cases hp:p<D.length
    ·have f:=ACq rd hp (fun j hj=>by
      have:=pno j (Nat.zero_le _) hj
      rwa[Bool.not_eq_false']at this) (by
      have:=pyes hp
      rwa[Bool.not_eq_true']at this)
     have pm:((p:Int) == -1)=false:=beq_eq_false_iff_ne.2 (by omega);have e9:p+1+(D.length-(p+1))=D.length:=by omega
     simp only[PXb,jF hp,pm,Ai (show p≤1099511627776 by omega)];refine AN (BP (len:=D.length-(p+1)) (fun t=>[.rows (dlN D k p t).1,.int ((dlN D k p t).2:Int),.int ((p+1+t:Nat):Int),.int k]) [.rows (dlN D k p (D.length-(p+1))).1,.int ((dlN D k p (D.length-(p+1))).2:Int),.int k] ?_ ?_ N (by omega)) ?_
     ·intro self;have fl:=(f (D.length-(p+1)) (by omega)).len;have el:(dlN D k p (D.length-(p+1))).1.length=p+1+(D.length-(p+1)):=by omega
      simp only[PXb,PXc,PXn,AE,el,Aj]
     ·intro t self ht;obtain⟨f1,f2,f3,f4,f5⟩:=f t (by omega);have hj:p+1+t<(dlN D k p t).1.length:=by omega
      have hi:(dlN D k p t).2<(dlN D k p t).1.length:=by omega
      have rl:=(f5 _ (Q0 hi)).1;have rj:=(f5 _ (Q0 hj)).1;have e:dlN D k p (t+1)=cond (pvI (AA (AB (dlN D k p t).1 (p+1+t)) 1)==k) ((dlN D k p t).1.set (dlN D k p t).2 (GV (AB (dlN D k p t).1 (p+1+t))),(dlN D k p t).2+1) (dlN D k p t):=rfl;have pf:putRow (AB (dlN D k p t).1 (dlN D k p t).2) 0 (GV (AB (dlN D k p t).1 (p+1+t)))=GV (AB (dlN D k p t).1 (p+1+t)):=tE (by rw[rl];rfl);rw[e];generalize dlN D k p t=q at *
      simp only[PXb,PXc,PXn,AE,Aa hj,AJ hj,AJ hi,Ai (show p+1+t≤1099511627776 by omega),Ai (show q.2≤1099511627776 by omega),AD,Int.toNat_natCast];cases pvI (AA (AB q.1 (p+1+t)) 1)==k
      ·rfl
      refine congrArg self ?_;refine congrArg (fun z:Rows=>([Leaf.rows z,.int ((q.2+1:Nat):Int),.int ((p+1+t+1:Nat):Int),.int k]:List AQ)) ?_;exact congrArg (fun z=>List.set q.1 q.2 z) pf
     obtain⟨f1,f2,f3,f4,f5⟩:=f (D.length-(p+1)) (by omega);rw[e9,List.take_length]at f3;generalize dlN D k p (D.length-(p+1))=q at *
     have g1:iRg (q.2:Int) (q.1.length:Int) (q.1.length:Int)=true:=by simp only[iRg,decide_eq_true_eq];omega
     have t1:∀z:List PV,(List.drop (Int.toNat 0) (List.take q.2 q.1)++List.replicate (List.drop q.2 (List.take q.1.length q.1)).length z).take q.2=fil k D:=fun z=>by
      rw[←f3];show List.take q.2 (List.take q.2 q.1++_)=_;rw[List.take_append_of_le_length (by rw[List.length_take];omega),List.take_take,Nat.min_self]
     have t2:∀z:List PV,iRg 0 (q.2:Int) (((List.drop (Int.toNat 0) (List.take q.2 q.1)++List.replicate (List.drop q.2 (List.take q.1.length q.1)).length z).length:Nat):Int)=true:=fun z=>by
      simp only[iRg,decide_eq_true_eq,List.length_append,List.length_drop,List.length_take];have:(Int.toNat 0)=0:=rfl;omega
     simp only[PXb,PXc,PXn,AE,g1,Int.toNat_natCast,t1,t2];rfl
    have pe:p=D.length:=by omega
    have fa:fil k D=D:=jm rd (fun x hx=>by
     obtain⟨j,hj,e⟩:=List.getElem_of_mem hx;have:=pno j (Nat.zero_le _) (by omega);rw[Bool.not_eq_false']at this;rw[←e];unfold AB at this
     rwa[zzk,zzn hj]at this)
    have pm:((-1:Int) == -1)=true:=rfl;simp only[PXb,iB hp,pm,fa]
   have X4:(fil k D).length≤1000000:=Nat.le_trans (ug k D) (by omega);generalize fil k D=X at *
   simp only[PXb];refine AN (BP (len:=X.length) (fun i=>[.rows (A4 (IA (mdA r4 X) X i)),.int (i:Int)]) [.rows (A4 (IA (mdA r4 X) X X.length))] ?_ ?_ N (by omega)) rfl
   ·intro self;simp only[PXb,PXc,PXn,AE,Aj]
   intro i self hi;have e:IA (mdA r4 X) X (i+1)=ig (AB X i) (mdA r4 X i) (IA (mdA r4 X) X i):=rfl;have ln:(IA (mdA r4 X) X i).length≤i:=by rw[cB,List.length_map];exact lH X i
   rw[e];generalize IA (mdA r4 X) X i=xs at *
   simp only[PXb,PXc,PXn,AE,Aa hi,AJ hi,AD];have hnew:XZ X i=(Nat.beq i 0 || !(pvI (AA (AB X (i-1)) 2)==pvI (AA (AB X i) 2))):=rfl;have hmd:mdA r4 X i=(XZ X i&&mdS r4 X (pvI (AA (AB X i) 2)) (pvI (AA (AB X i) 4))):=rfl;rw[hmd,hnew];generalize AB X i=x at *
   obtain⟨pa1,pa2⟩:=AAe (pvI (AA x 4)) xs;refine Er (v:=.int (cond (Nat.blt (Fk (pvI (AA x 4)) xs) xs.length) (Fk (pvI (AA x 4)) xs:Int) (-1))::GV x) ?_ ?_
   ·refine AN (ACT hN (show xs.length≤1000000 by omega) (b:=pvI (AA x 4)) (J:=AAH x) ?_ ?_) ?_
    ·intro self;simp only[PXb,PXc,PXn,AE,PXv,Aj];rfl
    ·intro j self hj;simp only[PXb,PXc,PXn,AE,PXw,Ai (show j≤1099511627776 by omega),Aa (show j<(A4 xs).length by rw[LJ];exact hj),AJ (show j<(A4 xs).length by rw[LJ];exact hj),AAH]
    cases Nat.blt (Fk (pvI (AA x 4)) xs) xs.length<;>rfl
   refine Er (v:=[.rows (A4 (Xc (pvI (AA x 4)) xs)),.int (Fk (pvI (AA x 4)) xs:Int)]) ?_ ?_
   ·have ple:=Nt (fun j=>(bln xs j).p==pvI (AA x 4)) xs.length 0;rw[Nat.zero_add]at ple;change Fk (pvI (AA x 4)) xs≤xs.length at ple;unfold Xc;simp only[PXb,PXc,PXn,AE,GV];generalize Fk (pvI (AA x 4)) xs=q at *
    by_cases hq:q<xs.length
    ·have q0:iLt (q:Int) 0=false:=by simp only[iLt,decide_eq_false_iff_not];omega
     simp only[jF hq,cond_true,q0,cond_false]
    obtain rfl:q=xs.length:=by omega
    have q0:iLt (-1) 0=true:=rfl;have sm:iSm ((xs.length+1:Nat):Int) 56=true:=C4 (by omega) (by omega);have w1:IntKind.i64.wrap (((xs.length+1:Nat):Int)-1)=(xs.length:Int):=by rw[A6 (by omega) (by omega)];omega
    simp only[iB hq,cond_false,q0,cond_true,LJ,List.length_append,List.length_cons,List.length_nil,Nat.zero_add,sm,w1,PXx];rfl
   unfold ig;generalize Xc (pvI (AA x 4)) xs=ys at *
   generalize Fk (pvI (AA x 4)) xs=q at *
   have iq:iIn (q:Int) ((A4 ys).length:Int)=true:=by rw[LJ];exact AJ pa1
   have bs:=fun s=>AAt pa1 s
   have hz:((i:Int)==0)=Nat.beq i 0:=by
    cases i with
    |zero=>rfl
    |succ i=>exact beq_eq_false_iff_ne.2 (by omega)
   have hw:Nat.beq i 0=false→IntKind.i64.wrap ((i:Int)-1)=((i-1:Nat):Int)∧iIn ((i-1:Nat):Int) (X.length:Int)=true:=fun h=>by
    have:i≠0:=fun e=>by rw[e]at h;cases h
    exact⟨by rw[A6 (by omega) (by omega)];omega,AJ (by omega)⟩
   have fin:∀{K:Option (List PV)} {y z:BL},K=self [.rows (A4 (ys.set q y)),.int ((i+1:Nat):Int)]→y=z→K=self [.rows (A4 (ys.set q z)),.int ((i+1:Nat):Int)]:=fun {K y z} h e=>by rw[h,e]
   unfold blX;have wi:IntKind.i64.wrap ((i:Int)+1)=((i+1:Nat):Int):=Ai (show i≤1099511627776 by omega);cases hn:Nat.beq i 0
   ·obtain⟨w1,w2⟩:=hw hn;cases ho:pvI (AA (AB X (i-1)) 2)==pvI (AA x 2)
    ·cases hct:pvB (AA x 26)<;>cases hwk:pvB (AA x 28)<;>cases ht2:pvI (AA x 8)==2<;>cases ht3:pvI (AA x 8)==3<;>simp only[PXb,PXc,PXn,AE,GV,iq,PXx,PXw,Int.toNat_natCast,bs,List.set_set,hct,hwk,ht2,ht3,hz,hn,wi,w1,w2,ho]<;>(refine Er (TG hN X4) ?_;cases mdS r4 X (pvI (AA x 2)) (pvI (AA x 4))<;>rfl)
    cases hct:pvB (AA x 26)<;>cases hwk:pvB (AA x 28)<;>cases ht2:pvI (AA x 8)==2<;>cases ht3:pvI (AA x 8)==3<;>simp only[PXb,PXc,PXn,AE,GV,iq,PXx,PXw,Int.toNat_natCast,bs,List.set_set,hct,hwk,ht2,ht3,hz,hn,wi,w1,w2,ho]<;>rfl
   cases hct:pvB (AA x 26)<;>cases hwk:pvB (AA x 28)<;>cases ht2:pvI (AA x 8)==2<;>cases ht3:pvI (AA x 8)==3<;>simp only[PXb,PXc,PXn,AE,GV,iq,PXx,PXw,Int.toNat_natCast,bs,List.set_set,hct,hwk,ht2,ht3,hz,hn,wi]<;>(refine Er (TG hN X4) ?_;cases mdS r4 X (pvI (AA x 2)) (pvI (AA x 4))<;>rfl)
  rfl
 rfl
end Go.Px
end
