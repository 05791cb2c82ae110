/- Part 15. -/
import Derived.Test.YtefmhiojnbekpaaGreatDoorPart14
import Derived.Test.YtefmhiojnbekpaaGreatDoorPart04
import Derived.Shelf.Strconv.Itoa3
import Derived.Test.YtefmhiojnbekpaaGreatDoorProg
set_option linter.unusedVariables false
set_option linter.unusedSimpArgs false
section
namespace Go.Px
set_option maxRecDepth 100000
def Ct (z:List Int) (D:Rows) (j:Nat):List Int:=[IntKind.i64.wrap (3 - hSd z D j),pvI (AE D j 4)]
def EJ (z:List Int) (D:Rows):Nat→Rows
 | 0=>[]
 | t+1=>cond (hWk D t) (C9 2 (Ct z D t) (Bk 2 (Ct z D t) (EJ z D t)+1) (EJ z D t)) (C9 2 (Ct z D t) 0 (EJ z D t))
theorem Wd (z:List Int) (D:Rows):∀ t,W7 2 (EJ z D t)
 | 0=>fun x hx=>absurd hx List.not_mem_nil
 | t+1=>by
  have ih:=Wd z D t;unfold EJ;cases hWk D t
  ·exact Rw rfl ih
  ·exact Rw rfl ih
theorem Yz (z:List Int) (D:Rows) (k:List Int):∀ t,Bk 2 k (EJ z D t)=(bkN (fun j=>k==Ct z D j) (hWk D) t:Int)
 | 0=>rfl
 | t+1=>by
  have ih:=Yz z D k t;have rw0:=Wd z D t;unfold EJ bkN;cases hk:k==Ct z D t with
  | true =>
   have e:=beq_iff_eq.1 hk;rw [← e];cases hWk D t with
   | true =>
    rw [cond_true,dS (by rw [e];rfl) rw0,ih];rfl
   | false =>
    rw [cond_false,dS (by rw [e];rfl) rw0];rfl
  | false =>
   cases hWk D t with
   | true =>
    rw [cond_true,ar (show (Ct z D t).length=2 from rfl) rw0 hk,ih];rfl
   | false =>
    rw [cond_false,ar (show (Ct z D t).length=2 from rfl) rw0 hk,ih];rfl
theorem oX {z:List Int} {D:Rows} (hz:∀ v,v∈z→v=1∨v=2) (hd:oC z D) {i j:Nat} (hi:i<D.length) (hj:j<D.length):(Ct z D i==Ct z D j)=Zm z D i j:=by
 have sd:∀ {a:Nat},a<D.length→hSd z D a=1∨hSd z D a=2:=fun {a} ha=>by
  obtain ⟨k,hk,e⟩:=hd a ha;unfold hSd;rw [e,Int.toNat_natCast,List.getD_eq_getElem?_getD,List.getElem?_eq_getElem hk];exact hz _ (List.getElem_mem hk)
 unfold Ct Zm;have w:∀ v:Int,v=1∨v=2→IntKind.i64.wrap (3 - v)=3 - v:=fun v hv=>CG (by omega) (by omega)
 rw [w _ (sd hi),w _ (sd hj)];rw [Bool.eq_iff_iff];simp only [beq_iff_eq,Bool.and_eq_true,List.cons.injEq,and_true];constructor
 ·intro ⟨h1,h2⟩;exact ⟨h2.symm,by omega⟩
 ·intro ⟨h1,h2⟩;exact ⟨by omega,h1.symm⟩
theorem oi {z:List Int} {D:Rows} (hz:∀ v,v∈z→v=1∨v=2) (hd:oC z D) {i:Nat} (hi:i<D.length):Bk 2 (Ct z D i) (EJ z D (i+1))=(Hz z D i:Int):=by
 rw [Yz];unfold Hz;congr 1;exact fF (i+1) (fun j hj=>oX hz hd hi (by omega))
theorem mO {z:List Int} {D:Rows} {i:Nat} (h:hWk D i=false):Hz z D i=0:=by
 unfold Hz bkN;have e:Zm z D i i=true:=by unfold Zm;rw [beq_self_eq_true,beq_self_eq_true];rfl
 rw [e,h];rfl
end Go.Px
end
section
namespace Go.Px
set_option maxRecDepth 100000
theorem pC {n:Nat} {k:List Int} {v:Int} {L:Rows} (hk:k.length=n):AQ n k L<(C9 n k v L).length:=by
 unfold C9;cases hb:Nat.blt (AQ n k L) L.length with
 | true =>
  have hm:AQ n k L<L.length:=Nat.le_of_ble_eq_true hb;rw [cond_true,List.length_set];exact hm
 | false =>
  have:=Pn n k L;rw [cond_false,List.length_append,List.length_singleton];omega
theorem lO {n:Nat} {k:List Int} {u v:Int} {L:Rows} (hk:k.length=n) (hr:W7 n L):(C9 n k u L).set (AQ n k L) (A6 (AB (C9 n k u L) (AQ n k L)) n [.int v])=C9 n k v L:=by
 unfold C9;cases hb:Nat.blt (AQ n k L) L.length with
 | true =>
  have hm:AQ n k L<L.length:=Nat.le_of_ble_eq_true hb;rw [cond_true,cond_true,List.set_set];congr 1;have e:AB (L.set (AQ n k L) (Fy n u (AB L (AQ n k L)))) (AQ n k L)=Fy n u (AB L (AQ n k L)):=by
   show (L.set _ _).getD _ _=_;rw [List.getD_eq_getElem?_getD,List.getElem?_set_self hm];rfl
  rw [e];show ((AB L (AQ n k L)).set n (.int u)).set n (.int v)=(AB L (AQ n k L)).set n (.int v);rw [List.set_set]
 | false =>
  have hm:¬ AQ n k L<L.length:=fun hc=>by
   have:=Nat.ble_eq_true_of_le hc;unfold Nat.blt at hb;rw [hb] at this;cases this
  have h2:AQ n k L=L.length:=by have:=Pn n k L;omega
  rw [cond_false,cond_false,h2];have e:AB (L++[HC k u]) L.length=HC k u:=by
   unfold AB;rw [List.getD_eq_getElem?_getD,List.getElem?_append_right (Nat.le_refl _),Nat.sub_self];rfl
  rw [e,List.set_append_right _ _ (Nat.le_refl _),Nat.sub_self];show L++[(HC k u).set n (.int v)]=_;congr 2;unfold HC;rw [List.set_append_right _ _ (by rw [List.length_map];omega),List.length_map,hk,Nat.sub_self];rfl
theorem nR {r:Rul} {L:Rows} (c0:CM r L=0):zs (Tg (Fu L) (CB L L.length)) (opn L L.length)=zs (JE (Fu L) (CB L L.length)) (opn L L.length):=by
 unfold zs;refine List.map_congr_left (fun k hk=>?_);obtain ⟨_,q1,_,_⟩:=aM c0 (List.mem_range.1 hk);exact jd (by rcases q1 with e | e<;>rw [e]<;>decide) _ k
theorem oY {r:Rul} {L:Rows} (c0:CM r L=0):∀ v,v∈zs (JE (Fu L) (CB L L.length)) (opn L L.length)→v=1∨v=2:=fun v hv=>by
 unfold zs at hv;obtain ⟨k,hk,e⟩:=List.mem_map.1 hv;obtain ⟨_,q1,_,_⟩:=aM c0 (List.mem_range.1 hk);rw [← e];unfold JE
 rcases q1 with e | e<;>rw [e]
 ·cases cond (CB L L.length&&((k:Int)==2||(k:Int)==3)) ((k:Int)==2) ((k:Int).tmod 2==1)
  ·exact .inl rfl
  ·exact .inr rfl
 ·cases cond (CB L L.length&&((k:Int)==2||(k:Int)==3)) ((k:Int)==2) ((k:Int).tmod 2==1)
  ·exact .inr rfl
  ·exact .inl rfl
set_option maxHeartbeats 8000000 in
theorem VD {N:Nat} {r1 r2 r3 r4 r5 r6 r7 r9 r10 r11 r12:Int} {r8:Bool} {r0:ByteArray} {r13:Rows} {L:Rows} (hN:2097152<N) (hs:r0.size≤1048576) (h13:r13.length≤1048576) (hL:L.length≤1000000):DG N [.str r0,.int r1,.int r2,.int r3,.int r4,.int r5,.int r6,.int r7,.bool r8,.int r9,.int r10,.int r11,.int r12,.rows r13,.rows L]=some [.rows (kG (⟨r0,r1,r2,r3,r4,r5,r6,r7,r8,r9,r10,r11,r12,r13⟩:Rul) L).1,.int (kG (⟨r0,r1,r2,r3,r4,r5,r6,r7,r8,r9,r10,r11,r12,r13⟩:Rul) L).2]:=by
 show DJ (std (BQ N) N) (xOf _)=_;have hl:L.length≤1048576:=by omega
 simp only [DJ,Md,NT,LP,q9,std,xOf,PXb,Xd hN hs h13 hl,UN hN hs h13 hl,eH hN hl,ah,PXc];unfold kG;cases hc:CM (⟨r0,r1,r2,r3,r4,r5,r6,r7,r8,r9,r10,r11,r12,r13⟩:Rul) L==0 with
 | false=>rfl
 | true =>
  have c0:=beq_iff_eq.1 hc;have hd:=kz c0 (JE (Fu L) (CB L L.length));have hz:=oY c0;have pl:=TZ (⟨r0,r1,r2,r3,r4,r5,r6,r7,r8,r9,r10,r11,r12,r13⟩:Rul) L;rw [nR c0];generalize Bi (⟨r0,r1,r2,r3,r4,r5,r6,r7,r8,r9,r10,r11,r12,r13⟩:Rul) L=D at *
  generalize zs (JE (Fu L) (CB L L.length)) (opn L L.length)=z at *
  simp only [PXb,Bool.not_true,cond_false,cond_true];refine Ab (D3 (len:=D.length) (fun i=>[.rows (EJ z D i),.rows (EP z D i),.int (i:Int)]) [.rows (EJ z D D.length),.rows (EP z D D.length)] ?_ ?_ N (by omega)) rfl
  ·intro self;simp only [PXb,PXc,PXn,AH,BM]
  ·intro i self hi;have hlen:=cC z D i;have h3:iSm ((EP z D i).length+1:Nat) 32=true:=GA (by omega) (by omega);obtain ⟨ki,hki,eki⟩:=hd i hi;have z2:iIn (ki:Int) (z.length:Int)=true:=AY hki;have q2:pvI (AE (Jo z) ki 0)=hSd z D i:=by
    have:=sT z ki;unfold atI at this;rw [this];unfold hSd;rw [eki];rfl
   have mr:=Wd z D i;have kl:(Ct z D i).length=2:=rfl;simp only [PXb,PXc,PXn,AH,DT (show i≤1099511627776 by omega),Az hi,AY hi,eki,Int.toNat_natCast,fW,z2,q2];have ek:[IntKind.i64.wrap (3 - hSd z D i),pvI (AE D i 4)]=Ct z D i:=rfl;have gi:Bk 2 (Ct z D i) (EJ z D i)=(bkN (fun j=>Ct z D i==Ct z D j) (hWk D) i:Int):=Yz z D (Ct z D i) i;have gle:=pP (fun j=>Ct z D i==Ct z D j) (hWk D) i;have wr1:IntKind.i64.wrap (Bk 2 (Ct z D i) (EJ z D i)+1)=Bk 2 (Ct z D i) (EJ z D i)+1:=by rw [gi];exact CG (by omega) (by omega)
   have st:=lO (u:=Bk 2 (Ct z D i) (EJ z D i)) (v:=Bk 2 (Ct z D i) (EJ z D i)+1) kl mr;have ib:iIn (AQ 2 (Ct z D i) (EJ z D i):Int) (List.length (C9 2 (Ct z D i) (Bk 2 (Ct z D i) (EJ z D i)) (EJ z D i)):Int)=true:=AY (pC kl);have num:=oi hz hd hi;rw [ek,wr1,st,ib];cases hw:pvB (AE D i 28) with
   | false =>
    have e1:EJ z D (i+1)=C9 2 (Ct z D i) 0 (EJ z D i):=by
     show cond (hWk D i) _ _=_;rw [show hWk D i=false from hw,cond_false]
    have e2:EP z D (i+1)=EP z D i:=by
     show cond (iLe 3 (Hz z D i:Int)) _ _=_;rw [mO hw];rfl
    rw [e1,e2];rfl
   | true =>
    have e1:EJ z D (i+1)=C9 2 (Ct z D i) (Bk 2 (Ct z D i) (EJ z D i)+1) (EJ z D i):=by
     show cond (hWk D i) _ _=_;rw [show hWk D i=true from hw,cond_true]
    rw [← e1,num];show _=self [.rows (EJ z D (i+1)),.rows (cond (iLe 3 (Hz z D i:Int)) (EP z D i++[Y4 z D i]) (EP z D i)),.int ((i+1:Nat):Int)];cases iLe 3 (Hz z D i:Int) with
    | false=>rfl
    | true =>
     simp only [Bool.not_true,cond_false,cond_true,List.length_append,List.length_cons,List.length_nil,Nat.reduceAdd,h3];rfl
end Go.Px
end
section
namespace Go.Px
set_option maxRecDepth 100000
def Oa (z:List Int) (D:Rows) (t:Nat):List Nat:=(List.range t).filter fun i=>iLe 3 (Hz z D i:Int)
theorem lm (z:List Int) (D:Rows) (t:Nat):Oa z D (t+1)=cond (iLe 3 (Hz z D t:Int)) (Oa z D t++[t]) (Oa z D t):=by
 unfold Oa;rw [List.range_succ,List.filter_append];cases h:iLe 3 (Hz z D t:Int) with
 | true=>rw [List.filter_cons_of_pos (by simpa using h)];rfl
 | false=>rw [List.filter_cons_of_neg (by simp [h])];exact List.append_nil _
theorem jo (z:List Int) (D:Rows):∀ t,EP z D t=(Oa z D t).map (Y4 z D)
 | 0=>rfl
 | t+1=>by
  rw [lm];unfold EP;rw [jo z D t];cases iLe 3 (Hz z D t:Int) with
  | true=>rw [cond_true,cond_true,List.map_append];rfl
  | false=>rfl
theorem o9 (z:List Int) (D:Rows) (t:Nat):(Oa z D t).Pairwise (·<·):=List.Pairwise.filter _ List.pairwise_lt_range
theorem og {z:List Int} {D:Rows} {t j:Nat} (h:j∈Oa z D t):j<t∧3≤Hz z D j:=by
 obtain ⟨h1,h2⟩:=List.mem_filter.1 h;refine ⟨List.mem_range.1 h1,?_⟩;simp only [iLe,decide_eq_true_eq] at h2;omega
theorem ro {z:List Int} {D:Rows} {t i:Nat} (h:i<(EP z D t).length):∃ j,j<t∧3≤Hz z D j∧AB (EP z D t) i=Y4 z D j∧∀ i',i'<i→∃ j',j'<j∧AB (EP z D t) i'=Y4 z D j':=by
 rw [jo] at h ⊢;rw [List.length_map] at h;have row:∀ q (hq:q<(Oa z D t).length),AB ((Oa z D t).map (Y4 z D)) q=Y4 z D (Oa z D t)[q]:=fun q hq=>by
  unfold AB;rw [List.getD_eq_getElem?_getD,List.getElem?_map,List.getElem?_eq_getElem hq];rfl
 obtain ⟨h1,h2⟩:=og (List.getElem_mem h);refine ⟨(Oa z D t)[i],h1,h2,row i h,fun i' hi'=>?_⟩;exact ⟨(Oa z D t)[i'],List.pairwise_iff_getElem.1 (o9 z D t) i' i (by omega) h hi',row i' (by omega)⟩
def sX (r:Rul) (L D:Rows):Prop:=(∀ j,j<D.length→∃ a:Nat,a<L.length∧((evR L a).kind==4)=true∧pvI (AE D j 0)=(a:Int)∧pvB (AE D j 28)=(AF r (evR L a).ball).wicket) ∧
 ∀ i j,i<j→j<D.length→pvI (AE D i 0)<pvI (AE D j 0)
theorem fj {r:Rul} {L:Rows} (hc:CM r L=0):∀ n,n≤L.length→∀ i j,i<j→j<(IG L n 0 (Al r).1 []).length→pvI (AE (IG L n 0 (Al r).1 []) i 0)<pvI (AE (IG L n 0 (Al r).1 []) j 0)
 | 0,_,i,j,_,hj=>absurd hj (Nat.not_lt_zero j)
 | n+1,hn,i,j,hij,hj=>by
  have ih:=fj hc n (by omega);have hr:=Te hc n (by omega);rw [Tb,Nat.zero_add] at hj ⊢;generalize IG L n 0 (Al r).1 []=D at *
  generalize hx:MH (n:Int) (stM L n 0 (Al r).1) (As (n:Int) (stM L n 0 (Al r).1) (evR L n)).1 (evR L n).ball=x at *
  have x0:pvI (AA x 0)=(n:Int):=by rw [← hx];rfl
  generalize hkk:((evR L n).kind==4)=kk at hj ⊢;cases kk with
  | false=>exact ih i j hij hj
  | true =>
   rw [cond_true] at hj ⊢;rw [List.length_append,List.length_singleton] at hj;have old:∀ q,q<D.length→AB (D++[x]) q=AB D q:=fun q hq=>by
    unfold AB;rw [List.getD_eq_getElem?_getD,List.getD_eq_getElem?_getD,List.getElem?_append_left hq]
   unfold AE;rw [old i (by omega)]
   by_cases hl:j<D.length
   ·rw [old j hl];exact ih i j hij hl
   ·have e:j=D.length:=by omega
    have:AB (D++[x]) j=x:=by
     unfold AB;rw [e,List.getD_eq_getElem?_getD,List.getElem?_append_right (Nat.le_refl _),Nat.sub_self];rfl
    rw [this,x0];obtain ⟨a,h1,h2,h3,_⟩:=hr _ (gN (show i<D.length by omega));rw [h3];omega
theorem np {r:Rul} {L:Rows} (hc:CM r L=0):sX r L (Bi r L):=by
 rw [X0 hc];refine ⟨fun j hj=>?_,fj hc L.length (Nat.le_refl _)⟩;obtain ⟨a,h1,h2,h3,h4,h5,h6⟩:=Te hc L.length (Nat.le_refl _) _ (gN hj);exact ⟨a,h1,h2,h3,h6⟩
theorem kr {r:Rul} {d:Del} (h:(AF r d).wicket=true):1≤d.how∧d.how≤5:=by
 unfold AF at h;cases hl : !(Eg d==0) with
 | true=>rw [hl] at h;cases h
 | false =>
  rw [hl,cond_false] at h;have h:SW d.how=true:=h;unfold SW iLe at h;rw [Bool.and_eq_true,decide_eq_true_eq,decide_eq_true_eq] at h;exact h
set_option maxHeartbeats 8000000 in
theorem WC {N:Nat} {r1 r2 r3 r4 r5 r6 r7 r9 r10 r11 r12:Int} {r8:Bool} {r0:ByteArray} {r13:Rows} {L:Rows} (ha:J2 N []=some [.bool true]) (hN:2097152<N) (hs:r0.size≤1048576) (h13:r13.length≤1048576):Dk N [.str r0,.int r1,.int r2,.int r3,.int r4,.int r5,.int r6,.int r7,.bool r8,.int r9,.int r10,.int r11,.int r12,.rows r13,.rows L]=some [.bool true]:=by
 show De (std (BX N) N) (xOf _)=_;have l:(cut L 60).length≤1000000:=Nat.le_trans (rX L 60) (show 60≤1000000 by omega);simp only [De,M2,Od,Ie,q9,std,xOf,PXb,ha,mo,VD hN hs h13 l];generalize cut L 60=X at *
 unfold kG;cases hc:CM (⟨r0,r1,r2,r3,r4,r5,r6,r7,r8,r9,r10,r11,r12,r13⟩:Rul) X==0 with
 | false =>
  simp only [PXb,PXc,PXn,PXm,Nat.reduceAdd,Int.reduceBEq,hc,Bool.not_false,cond_true,cond_false];rfl
 | true =>
  have c0:=beq_iff_eq.1 hc;obtain ⟨df,da⟩:=np c0;have pl:=TZ (⟨r0,r1,r2,r3,r4,r5,r6,r7,r8,r9,r10,r11,r12,r13⟩:Rul) X;have hlen:=cC (zs (JE (Fu X) (CB X X.length)) (opn X X.length)) (Bi (⟨r0,r1,r2,r3,r4,r5,r6,r7,r8,r9,r10,r11,r12,r13⟩:Rul) X) (Bi (⟨r0,r1,r2,r3,r4,r5,r6,r7,r8,r9,r10,r11,r12,r13⟩:Rul) X).length;have at':=fun {i:Nat} (h:i<(EP (zs (JE (Fu X) (CB X X.length)) (opn X X.length)) (Bi (⟨r0,r1,r2,r3,r4,r5,r6,r7,r8,r9,r10,r11,r12,r13⟩:Rul) X) (Bi (⟨r0,r1,r2,r3,r4,r5,r6,r7,r8,r9,r10,r11,r12,r13⟩:Rul) X).length).length)=>ro h
  generalize Bi (⟨r0,r1,r2,r3,r4,r5,r6,r7,r8,r9,r10,r11,r12,r13⟩:Rul) X=D at *
  generalize zs (JE (Fu X) (CB X X.length)) (opn X X.length)=z at *
  simp only [PXb,PXc,PXn,PXm,Nat.reduceAdd,Int.reduceBEq,cond_true,Int.reduceBEq];refine Ab (D3 (len:=(EP z D D.length).length) (fun i=>[.int (i:Int)]) [.int 1] ?_ ?_ N (by omega)) ?_
  ·intro self;simp only [PXb,PXc,PXn,AH,BM]
  ·intro i self hi;obtain ⟨j,hj,h3,er,prev⟩:=at' hi;obtain ⟨a,ha1,hk,e0,ew⟩:=df j hj;have m0:pvI (AE (EP z D D.length) i 0)=5:=by unfold AE;rw [er];rfl
   have m2:pvI (AE (EP z D D.length) i 2)=(Hz z D j:Int):=by unfold AE;rw [er];rfl
   have m3:pvI (AE (EP z D D.length) i 3)=(a:Int):=by unfold AE;rw [er];exact e0
   have f2:iLt (Hz z D j:Int) 3=false:=by simp only [iLt,decide_eq_false_iff_not];omega
   have f3:iLt (a:Int) 0=false:=by simp only [iLt,decide_eq_false_iff_not];omega
   have f4:iLe (X.length:Int) (a:Int)=false:=by simp only [iLe,decide_eq_false_iff_not];omega
   have wk:hWk D j=true:=by
    cases hw:hWk D j with
    | true=>rfl
    | false =>
     have:=mO (z:=z) hw;omega
   have how:=kr (r:=(⟨r0,r1,r2,r3,r4,r5,r6,r7,r8,r9,r10,r11,r12,r13⟩:Rul)) (d:=(evR X a).ball) (by rw [← ew];exact wk);have k4:(pvI (AE X a 0)==4)=true:=hk;have w1:(pvI (AE X a 13)==0)=false:=beq_eq_false_iff_ne.2 (by
    intro hh;have:(evR X a).ball.how=0:=hh;omega)
   have w2:(pvI (AE X a 13)==6)=false:=beq_eq_false_iff_ne.2 (by
    intro hh;have:(evR X a).ball.how=6:=hh;omega)
   have wi:=A7 (show i≤1099511627776 by omega);cases i with
   | zero =>
    have z0:iLt 0 ((0:Nat):Int)=false:=rfl;simp only [PXb,PXc,PXn,AH,Az hi,AY hi,m0,m2,m3,f2,f3,f4,z0,Int.toNat_natCast,AY ha1,k4,w1,w2,wi,Int.reduceBEq,Bool.not_true,Bool.or_false,Bool.or_self];rfl
   | succ i' =>
    obtain ⟨j',hj',er'⟩:=prev i' (Nat.lt_succ_self i');obtain ⟨b,hb1,_,e0',_⟩:=df j' (by omega);have m3':pvI (AE (EP z D D.length) i' 3)=(b:Int):=by unfold AE;rw [er'];exact e0'
    have lt:=da j' j hj' hj;rw [e0,e0'] at lt;have z0:iLt 0 ((i'+1:Nat):Int)=true:=by simp only [iLt,decide_eq_true_eq];omega
    have z1:IntKind.i64.wrap (((i'+1:Nat):Int) - 1)=(i':Int):=by
     rw [show ((i'+1:Nat):Int) - 1=(i':Int) by omega];exact CG (by omega) (by omega)
    have f5:iLe (a:Int) (b:Int)=false:=by simp only [iLe,decide_eq_false_iff_not];omega
    simp only [PXb,PXc,PXn,AH,Az hi,AY hi,AY (show i'<(EP z D D.length).length by omega),m0,m2,m3,m3',f2,f3,f4,f5,z0,z1,Int.toNat_natCast,AY ha1,k4,w1,w2,wi,Int.reduceBEq,Bool.not_true,Bool.or_false,Bool.or_self];rfl
  ·simp only [PXb,PXc,PXn,PXm,Nat.reduceAdd,Int.reduceBEq]
end Go.Px
end
section
namespace Go.Proofs
open Go.Shelf
def Tryz.lays246_ren:Go.Shelf.Ren:=⟨fun | 246=>91 | 283=>111 | 284=>112 | 285=>113 | 286=>114 | 129=>136 | 317=>135 | 318=>137 | 319=>138 | 320=>139 | 337=>162 | 338=>163 | n=>n,fun | 2=>2 | 3=>3 | 9=>9 | 4=>4 | 171=>158 | 0=>0 | 53=>146 | 37=>161 | 5=>5 | 173=>162 | 212=>179 | 51=>180 | 20=>20 | 213=>181 | 46=>182 | 232=>209 | 233=>210 | n=>n,fun | 17=>0 | 18=>1 | 19=>2 | n=>n⟩
theorem Tryz.lays246:Go.Proofs.Lays.n246 Tryz.prog Tryz.lays246_ren:={
  mixed:=by kernel_rfl
  f129:=Tryz.func136.trans (congrArg some (by kernel_rfl))
  f246:=Tryz.func91.trans (congrArg some (by kernel_rfl))
  f283:=Tryz.func111.trans (congrArg some (by kernel_rfl))
  f284:=Tryz.func112.trans (congrArg some (by kernel_rfl))
  f285:=Tryz.func113.trans (congrArg some (by kernel_rfl))
  f286:=Tryz.func114.trans (congrArg some (by kernel_rfl))
  f317:=Tryz.func135.trans (congrArg some (by kernel_rfl))
  f318:=Tryz.func137.trans (congrArg some (by kernel_rfl))
  f319:=Tryz.func138.trans (congrArg some (by kernel_rfl))
  f320:=Tryz.func139.trans (congrArg some (by kernel_rfl))
  f337:=Tryz.func162.trans (congrArg some (by kernel_rfl))
  f338:=Tryz.func163.trans (congrArg some (by kernel_rfl))
  t0:=Tryz.underlying0
  a0:=Tryz.isAgg0
  z0:=Tryz.sizeOf0
  v0:=Tryz.zeroValue0
  t2:=Tryz.underlying2
  a2:=Tryz.isAgg2
  z2:=Tryz.sizeOf2
  v2:=Tryz.zeroValue2
  t3:=Tryz.underlying3
  a3:=Tryz.isAgg3
  z3:=Tryz.sizeOf3
  v3:=Tryz.zeroValue3
  t4:=Tryz.underlying4
  a4:=Tryz.isAgg4
  z4:=Tryz.sizeOf4
  v4:=Tryz.zeroValue4
  t5:=Tryz.underlying5
  a5:=Tryz.isAgg5
  z5:=Tryz.sizeOf5
  v5:=Tryz.zeroValue5
  t9:=Tryz.underlying9
  a9:=Tryz.isAgg9
  z9:=Tryz.sizeOf9
  v9:=Tryz.zeroValue9
  t20:=Tryz.underlying20
  a20:=Tryz.isAgg20
  z20:=Tryz.sizeOf20
  v20:=Tryz.zeroValue20
  t37:=Tryz.underlying161
  a37:=Tryz.isAgg161
  z37:=Tryz.sizeOf161
  v37:=Tryz.zeroValue161
  t46:=Tryz.underlying182
  a46:=Tryz.isAgg182
  z46:=Tryz.sizeOf182
  v46:=Tryz.zeroValue182
  t51:=Tryz.underlying180
  a51:=Tryz.isAgg180
  z51:=Tryz.sizeOf180
  v51:=Tryz.zeroValue180
  t53:=Tryz.underlying146
  a53:=Tryz.isAgg146
  z53:=Tryz.sizeOf146
  v53:=Tryz.zeroValue146
  t171:=Tryz.underlying158
  a171:=Tryz.isAgg158
  z171:=Tryz.sizeOf158
  v171:=Tryz.zeroValue158
  t173:=Tryz.underlying162
  a173:=Tryz.isAgg162
  z173:=Tryz.sizeOf162
  v173:=Tryz.zeroValue162
  t212:=Tryz.underlying179
  a212:=Tryz.isAgg179
  z212:=Tryz.sizeOf179
  v212:=Tryz.zeroValue179
  t213:=Tryz.underlying181
  a213:=Tryz.isAgg181
  z213:=Tryz.sizeOf181
  t232:=Tryz.underlying209
  a232:=Tryz.isAgg209
  z232:=Tryz.sizeOf209
  v232:=Tryz.zeroValue209
  t233:=Tryz.underlying210
  a233:=Tryz.isAgg210
  z233:=Tryz.sizeOf210
  v233:=Tryz.zeroValue210
  g17:=by kernel_rfl
  g18:=by kernel_rfl
  g19:=by kernel_rfl }
open Go.RowKit Go.Sort Go.Lib in
theorem Tryz.internal_strconv_FormatInt_10_small (i : Nat) (hi : i < 100) (w : World) :
    Calls Tryz.prog 91 #[.int .i64 i,.int .i64 10] w fun e w'=>e=.returned (.string ⟨(Lib.decDigits i).toArray⟩)∧w'=w:=Any.internal_strconv_FormatInt_10_small Tryz.lays246 i hi w
def Tryz.lays243_ren:Go.Shelf.Ren:=⟨fun | 243=>90 | 246=>91 | 283=>111 | 284=>112 | 285=>113 | 286=>114 | 129=>136 | 317=>135 | 318=>137 | 319=>138 | 320=>139 | 337=>162 | 338=>163 | n=>n,fun | 3=>3 | 9=>9 | 2=>2 | 4=>4 | 171=>158 | 0=>0 | 53=>146 | 37=>161 | 5=>5 | 173=>162 | 212=>179 | 51=>180 | 20=>20 | 213=>181 | 46=>182 | 232=>209 | 233=>210 | n=>n,fun | 17=>0 | 18=>1 | 19=>2 | n=>n⟩
theorem Tryz.lays243:Go.Proofs.Lays.n243 Tryz.prog Tryz.lays243_ren:={
  mixed:=by kernel_rfl
  f129:=Tryz.func136.trans (congrArg some (by kernel_rfl))
  f243:=Tryz.func90.trans (congrArg some (by kernel_rfl))
  f246:=Tryz.func91.trans (congrArg some (by kernel_rfl))
  f283:=Tryz.func111.trans (congrArg some (by kernel_rfl))
  f284:=Tryz.func112.trans (congrArg some (by kernel_rfl))
  f285:=Tryz.func113.trans (congrArg some (by kernel_rfl))
  f286:=Tryz.func114.trans (congrArg some (by kernel_rfl))
  f317:=Tryz.func135.trans (congrArg some (by kernel_rfl))
  f318:=Tryz.func137.trans (congrArg some (by kernel_rfl))
  f319:=Tryz.func138.trans (congrArg some (by kernel_rfl))
  f320:=Tryz.func139.trans (congrArg some (by kernel_rfl))
  f337:=Tryz.func162.trans (congrArg some (by kernel_rfl))
  f338:=Tryz.func163.trans (congrArg some (by kernel_rfl))
  t0:=Tryz.underlying0
  a0:=Tryz.isAgg0
  z0:=Tryz.sizeOf0
  v0:=Tryz.zeroValue0
  t2:=Tryz.underlying2
  a2:=Tryz.isAgg2
  z2:=Tryz.sizeOf2
  v2:=Tryz.zeroValue2
  t3:=Tryz.underlying3
  a3:=Tryz.isAgg3
  z3:=Tryz.sizeOf3
  v3:=Tryz.zeroValue3
  t4:=Tryz.underlying4
  a4:=Tryz.isAgg4
  z4:=Tryz.sizeOf4
  v4:=Tryz.zeroValue4
  t5:=Tryz.underlying5
  a5:=Tryz.isAgg5
  z5:=Tryz.sizeOf5
  v5:=Tryz.zeroValue5
  t9:=Tryz.underlying9
  a9:=Tryz.isAgg9
  z9:=Tryz.sizeOf9
  v9:=Tryz.zeroValue9
  t20:=Tryz.underlying20
  a20:=Tryz.isAgg20
  z20:=Tryz.sizeOf20
  v20:=Tryz.zeroValue20
  t37:=Tryz.underlying161
  a37:=Tryz.isAgg161
  z37:=Tryz.sizeOf161
  v37:=Tryz.zeroValue161
  t46:=Tryz.underlying182
  a46:=Tryz.isAgg182
  z46:=Tryz.sizeOf182
  v46:=Tryz.zeroValue182
  t51:=Tryz.underlying180
  a51:=Tryz.isAgg180
  z51:=Tryz.sizeOf180
  v51:=Tryz.zeroValue180
  t53:=Tryz.underlying146
  a53:=Tryz.isAgg146
  z53:=Tryz.sizeOf146
  v53:=Tryz.zeroValue146
  t171:=Tryz.underlying158
  a171:=Tryz.isAgg158
  z171:=Tryz.sizeOf158
  v171:=Tryz.zeroValue158
  t173:=Tryz.underlying162
  a173:=Tryz.isAgg162
  z173:=Tryz.sizeOf162
  v173:=Tryz.zeroValue162
  t212:=Tryz.underlying179
  a212:=Tryz.isAgg179
  z212:=Tryz.sizeOf179
  v212:=Tryz.zeroValue179
  t213:=Tryz.underlying181
  a213:=Tryz.isAgg181
  z213:=Tryz.sizeOf181
  t232:=Tryz.underlying209
  a232:=Tryz.isAgg209
  z232:=Tryz.sizeOf209
  v232:=Tryz.zeroValue209
  t233:=Tryz.underlying210
  a233:=Tryz.isAgg210
  z233:=Tryz.sizeOf210
  v233:=Tryz.zeroValue210
  g17:=by kernel_rfl
  g18:=by kernel_rfl
  g19:=by kernel_rfl }
open Go.RowKit Go.Sort Go.Lib in
theorem Tryz.internal_strconv_Itoa_small (i : Nat) (hi : i < 100) (w : World) :
    Calls Tryz.prog 90 #[.int .i64 i] w fun e w'=>e=.returned (.string ⟨(Lib.decDigits i).toArray⟩)∧w'=w:=Any.internal_strconv_Itoa_small Tryz.lays243 i hi w
end Go.Proofs
end
