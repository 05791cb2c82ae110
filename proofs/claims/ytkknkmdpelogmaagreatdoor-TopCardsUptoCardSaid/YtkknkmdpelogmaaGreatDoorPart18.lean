/- Part 18. -/
import Derived.Test.YtkknkmdpelogmaaGreatDoorPart17
import Derived.Test.YtkknkmdpelogmaaGreatDoorPart16
import Derived.Shelf.Strconv.Itoa3
import Derived.Shelf.LaysM
import Derived.Shelf.Strconv.Itoa4
import Derived.Test.YtkknkmdpelogmaaGreatDoorProg
set_option linter.unusedVariables false
set_option linter.unusedSimpArgs false
section
namespace Go.Px
set_option maxRecDepth 100000
theorem AEy{n:Nat}(k:List Int)(v:PV)(L:Rows):iIn (AX n k L:Int) ((DL n k v L).length:Int)=true:=by
 have ml:=Lp n k L;refine AM ?_;unfold DL;cases hb:Nat.blt (AX n k L) L.length
 ·rw[cond_false,List.length_append];exact Nat.lt_succ_of_le ml
 rw[cond_true,List.length_set];exact Nat.le_of_ble_eq_true hb
theorem ADW{n:Nat}{k:List Int}{u v:PV}{L:Rows}(hk:k.length=n):(DL n k u L).set (AX n k L) (Ad (AB (DL n k u L) (AX n k L)) n [v])=DL n k v L:=by
 have ml:=Lp n k L;unfold DL;cases hb:Nat.blt (AX n k L) L.length
 ·have hm:AX n k L=L.length:=by
   have:¬AX n k L<L.length:=fun hc=>by
    have:=Nat.ble_eq_true_of_le hc;unfold Nat.blt at hb;rw[hb]at this;cases this
   omega
  have e:AB (L++[Vq k u]) L.length=Vq k u:=by
   unfold AB;rw[zzl,List.getElem?_append_right (Nat.le_refl _),Nat.sub_self];rfl
  rw[cond_false,cond_false,hm,e,List.set_append_right _ _ (Nat.le_refl _),Nat.sub_self];show L++[(k.map PV.int++[u]).set n v]=L++[k.map PV.int++[v]];rw[List.set_append_right _ _ (by rw[List.length_map,hk];exact Nat.le_refl _),List.length_map,hk,Nat.sub_self];rfl
 have hm:AX n k L<L.length:=Nat.le_of_ble_eq_true hb;have e:AB (L.set (AX n k L) (Jd n u (AB L (AX n k L)))) (AX n k L)=Jd n u (AB L (AX n k L)):=by
  show(L.set _ _).getD _ _=_;rw[zzl,List.getElem?_set_self hm];rfl
 rw[cond_true,cond_true,e,List.set_set];unfold Jd;show L.set _ (((AB L (AX n k L)).set n u).set n v)=L.set _ ((AB L (AX n k L)).set n v);rw[List.set_set]
theorem eH{N:Nat}{L:Rows}(hN:2097152<N)(hL:L.length≤1048576):∃v,HE N [.rows L]=some v∧∃W,v=[.rows W]∧W.length=L.length:=by
 show∃v,Hq (std (Ov N) N) (xOf _)=some v∧_;simp only[Hq,lq9,std,xOf,PXb];have sm:iSm (L.length:Int) 8=true:=Dk (by omega) (by omega);simp only[PXb,sm,Int.toNat_natCast];refine OK (Q:=fun v=>∃W,v=[.rows W]∧W.length=L.length) (aL (len:=L.length) (fun j v=>∃W b,v=[.rows W,.int b,.int (j:Int)]∧W.length=L.length) _ ?_ ?_ N (by omega) ⟨_,_,rfl,List.length_replicate⟩) ?_
 ·rintro v self ⟨W,b,rfl,hw⟩
  simp only[PXb,Aq];exact⟨_,rfl,W,rfl,hw⟩
 ·rintro j v self hj ⟨W,b,rfl,hw⟩
  simp only[PXb,Ae hj,AM hj,hw,Int.toNat_natCast,Ao (show j≤1099511627776 by omega)];cases(pvI (AD L j 0)==2||pvI (AD L j 0)==5 && !pvB (AD L j 4))
  ·exact⟨_,rfl,_,_,rfl,List.length_set.trans hw⟩
  exact⟨_,rfl,_,_,rfl,List.length_set.trans hw⟩
 rintro _ ⟨W,rfl,hw⟩
 exact⟨_,rfl,W,rfl,hw⟩
theorem xi{r:Rul}{L:Rows}:∀n,∀x,x∈HH L n 0 (AO r).1 []→∃i:Nat,i<n∧pvI (AA x 0)=(i:Int)
 |0,x,hx=>absurd hx List.not_mem_nil
 |n+1,x,hx=>by
  rw[L6,Nat.zero_add]at hx;have old:x∈HH L n 0 (AO r).1 []→∃i:Nat,i<n+1∧pvI (AA x 0)=(i:Int):=fun h=>by
   obtain⟨i,h1,h2⟩:=xi n x h;exact⟨i,by omega,h2⟩
  cases hk:(evR L n).kind==4
  ·rw[hk]at hx;exact old hx
  rw[hk]at hx
  rcases List.mem_append.1 hx with hx|hx
  ·exact old hx
  rw[List.mem_singleton.1 hx];exact⟨n,by omega,rfl⟩
def Qw(a b:Int)(e:Int):Bool:=iLe a e&&iLt e b
def FB(a b:Int)(x:List PV):Int:=cond (pvI (AA x 0)==2&&Qw a b (pvI (AA x 3))) 1 0
def oA(a b:Int)(x:List PV):Int:=cond (Qw a b (pvI (AA x 0))) (Gf x) 0
theorem vu{b:Bool}{out:Rows}{m:List PV}(h:out.length≤20000):∃w,(cond b (cond (iSm ((out++[m]).length:Int) 32) (some [PV.rows (out++[m])]) none) (some [.rows out]))=some w∧∃o2,w=[.rows o2]∧o2.length≤out.length+1∧∀a c,Av (FB a c) o2=Av (FB a c) out+cond b (FB a c m) 0:=by
 have sm:iSm ((out++[m]).length:Int) 32=true:=Dk (by rw[List.length_append];show out.length+1≤_;omega) (by omega);rw[sm];cases b
 ·exact⟨_,rfl,_,rfl,Nat.le_succ _,fun _ _=>(Int.add_zero _).symm⟩
 refine⟨_,rfl,_,rfl,by rw[List.length_append];exact Nat.le_refl _,fun a c=>?_⟩;rw[Nx];show _+(FB a c m+0)=_;rw[Int.add_zero];rfl
theorem uq{b:Bool}{out:Rows}{m:List PV}(h:out.length≤20000)(hm:∀a c,FB a c m=0):∃w,(cond b (cond (iSm ((out++[m]).length:Int) 32) (some [PV.rows (out++[m])]) none) (some [.rows out]))=some w∧∃o2,w=[.rows o2]∧o2.length≤out.length+1∧∀a c,Av (FB a c) o2=Av (FB a c) out:=by
 obtain⟨w,h1,o2,h2,h3,h4⟩:=vu (b:=b) (m:=m) h;refine⟨w,h1,o2,h2,h3,fun a c=>?_⟩;rw[h4,hm];cases b<;>exact Int.add_zero _
structure Mil(D M1 out:Rows)(j:Nat):Prop where
 len:out.length≤4*j
 rows:Xe 2 M1
 val:∀k1 k2,0≤Bq 2 [k1,k2] M1∧Bq 2 [k1,k2] M1≤(j:Int)
 sum:∀a b,Av (FB a b) out=Av (oA a b) (D.take j)
set_option maxHeartbeats 8000000 in
theorem jF{N:Nat}{r1 r2 r3 r4 r5 r6 r7 r9 r10 r11 r12:Int}{r8:Bool}{r0:ByteArray}{r13:Rows}{L:Rows}(hN:2097152<N)(hs:r0.size≤1048576)(h13:r13.length≤1048576)(hL:L.length≤1000000)(c0:Ah (⟨r0,r1,r2,r3,r4,r5,r6,r7,r8,r9,r10,r11,r12,r13⟩:Rul) L=0):∃v,F9 N [.str r0,.int r1,.int r2,.int r3,.int r4,.int r5,.int r6,.int r7,.bool r8,.int r9,.int r10,.int r11,.int r12,.rows r13,.rows L,.int 1,.int 1,.int 1,.int 1]=some v∧∃M,v=[.rows M,.int 0]∧M.length≤16000∧∀a b,Av (FB a b) M=Av (oA a b) (BG (⟨r0,r1,r2,r3,r4,r5,r6,r7,r8,r9,r10,r11,r12,r13⟩:Rul) L):=by
 have hl:L.length≤1048576:=by omega
 have l4:=(Bv c0).2.2.1;have pl:=PK (⟨r0,r1,r2,r3,r4,r5,r6,r7,r8,r9,r10,r11,r12,r13⟩:Rul) L;have one:∀j,j<4→pvI (AD [[PV.int 1],[.int 1],[.int 1],[.int 1]] j 0)=1:=by decide
 have ev:=fun j (hj:j<(BG (⟨r0,r1,r2,r3,r4,r5,r6,r7,r8,r9,r10,r11,r12,r13⟩:Rul) L).length)=>xi (r:=(⟨r0,r1,r2,r3,r4,r5,r6,r7,r8,r9,r10,r11,r12,r13⟩:Rul)) (L:=L) L.length (AB (BG (⟨r0,r1,r2,r3,r4,r5,r6,r7,r8,r9,r10,r11,r12,r13⟩:Rul) L) j) (by have:=Ub hj;rw[SL c0]at this⊢;exact this)
 show∃v,GR (std (B6 N) N) (xOf _)=some v∧_;simp only[GR,S1,Oi,T6,Mt,lq9,std,xOf,PXb,Hw hN hs h13 hl,Je hN hs h13 hl,Ps,PXc];simp only[PXb,c0,Int.reduceBEq,Bool.not_true];generalize BG (⟨r0,r1,r2,r3,r4,r5,r6,r7,r8,r9,r10,r11,r12,r13⟩:Rul) L=D at *
 refine OK (Q:=(·=[.int 1])) ⟨_,BC (len:=4) (fun j=>[.int (j:Int)]) [.int 1] ?_ ?_ N (by omega),rfl⟩ ?_
 ·intro self;rfl
 ·intro j self hj;obtain rfl|rfl|rfl|rfl:j=0∨j=1∨j=2∨j=3:=by omega
  ·rfl
  ·rfl
  ·rfl
  rfl
 rintro _ rfl
 have z1:((1:Int)==((0:Nat):Int))=false:=rfl;simp only[PXb,z1];refine OK (eH hN hl) ?_
 rintro _ ⟨E,rfl,hE⟩
 simp only[PXb,hE];refine OK (Q:=fun v=>∃M0 M1 M2 M,v=[.rows M0,.rows M1,.rows M2,.rows M]∧M.length≤16000∧∀a b,Av (FB a b) M=Av (oA a b) D) (aL (len:=D.length) (fun j v=>∃M0 M1 M2 out,v=[.rows M0,.rows M1,.rows M2,.int (j:Int),.rows out]∧Mil D M1 out j) _ ?_ ?_ N (by omega) ⟨[],[],[],[],rfl,Nat.zero_le _,fun x hx=>absurd hx List.not_mem_nil,fun _ _=>⟨Int.le_refl _,Int.le_refl _⟩,fun _ _=>rfl⟩) ?_
 ·rintro v self ⟨M0,M1,M2,out,rfl,h1,h2,h3,h4⟩
  simp only[PXb,Aq];rw[List.take_length]at h4;exact⟨_,rfl,M0,M1,M2,out,rfl,by omega,h4⟩
 ·rintro j v self hj ⟨M0,M1,M2,out,rfl,h1,h2,h3,h4⟩
  obtain⟨e,e1,e2⟩:=ev j hj;have pa:∀c,AD D j c=AA (AB D j) c:=fun _=>rfl
  have st:=fun a b=>OJ (oA a b) hj
  have wj:=Ao (i:=j) (show j≤1099511627776 by omega);simp only[PXb,Ae hj,AM hj,Int.toNat_natCast,wj,pa];generalize AB D j=x at *
  refine KG (Q:=fun _=>True) ⟨_,Gd,trivial⟩ (fun T _=>?_);simp only[PXb,AEy,Int.reduceBEq,Bool.not_false];refine KG (uq (by omega) (by intros;rfl)) ?_
  rintro _ ⟨o1,rfl,l1,s1⟩
  have gb:=h3 (pvI (AA x 1)) (pvI (AA x 4));have wg:IntKind.i64.wrap (Bq 2 [pvI (AA x 1),pvI (AA x 4)] M1+1)=Bq 2 [pvI (AA x 1),pvI (AA x 4)] M1+1:=A0 (by omega) (by omega);refine KG (Q:=(·=[.rows (cond (pvB (AA x 28)) (DL 2 [pvI (AA x 1),pvI (AA x 4)] (.int (Bq 2 [pvI (AA x 1),pvI (AA x 4)] M1+1)) M1) M1)])) ?_ ?_
  ·cases pvB (AA x 28)
   ·exact⟨_,rfl,rfl⟩
   simp only[cond_true,wg,ADW (n:=2) (k:=[pvI (AA x 1),pvI (AA x 4)]) rfl];exact⟨_,rfl,rfl⟩
  rintro _ rfl
  obtain⟨M1',hM⟩:∃M1',M1'=cond (pvB (AA x 28)) (DL 2 [pvI (AA x 1),pvI (AA x 4)] (.int (Bq 2 [pvI (AA x 1),pvI (AA x 4)] M1+1)) M1) M1:=⟨_,rfl⟩;rw[←hM];have g2:Bq 2 [pvI (AA x 1),pvI (AA x 4)] M1'=Bq 2 [pvI (AA x 1),pvI (AA x 4)] M1+Gf x:=by
   rw[hM];unfold Gf;cases pvB (AA x 28)
   ·exact(Int.add_zero _).symm
   exact congrArg pvI (cn (n:=2) (k:=[pvI (AA x 1),pvI (AA x 4)]) rfl h2)
  have r2:Xe 2 M1':=by
   rw[hM];cases pvB (AA x 28)
   ·exact h2
   exact XR (n:=2) (k:=[pvI (AA x 1),pvI (AA x 4)]) rfl h2
  have v2:∀k1 k2,0≤Bq 2 [k1,k2] M1'∧Bq 2 [k1,k2] M1'≤((j+1:Nat):Int):=fun k1 k2=>by
   have old:=h3 k1 k2;rw[hM];cases pvB (AA x 28)
   ·rw[cond_false];omega
   rw[cond_true]
   by_cases hk:([k1,k2]==[pvI (AA x 1),pvI (AA x 4)])=true
   ·rw[beq_iff_eq.1 hk];have:=congrArg pvI (cn (n:=2) (k:=[pvI (AA x 1),pvI (AA x 4)]) (v:=.int (Bq 2 [pvI (AA x 1),pvI (AA x 4)] M1+1)) rfl h2);unfold Bq at this⊢;rw[this];unfold Bq at gb;show 0≤pvI _+1∧pvI _+1≤_;omega
   have:=congrArg pvI (Zm (n:=2) (k:=[pvI (AA x 1),pvI (AA x 4)]) (k':=[k1,k2]) (v:=.int (Bq 2 [pvI (AA x 1),pvI (AA x 4)] M1+1)) rfl h2 (Bool.eq_false_iff.2 hk));unfold Bq at this old⊢;rw[this];omega
  clear hM;have wx:=c01 (pvB (AA x 28));change(0:Int)≤Gf x∧Gf x≤36 at wx;have q1:IntKind.i64.wrap ((Bq 2 [pvI (AA x 1),pvI (AA x 4)] M1).tdiv 1)=Bq 2 [pvI (AA x 1),pvI (AA x 4)] M1:=by rw[Int.tdiv_one];exact A0 (by omega) (by omega)
  have q2:IntKind.i64.wrap ((Bq 2 [pvI (AA x 1),pvI (AA x 4)] M1').tdiv 1)=Bq 2 [pvI (AA x 1),pvI (AA x 4)] M1+Gf x:=by rw[Int.tdiv_one,g2];exact A0 (by omega) (by omega)
  have lw:iLt (Bq 2 [pvI (AA x 1),pvI (AA x 4)] M1) (Bq 2 [pvI (AA x 1),pvI (AA x 4)] M1+Gf x)=pvB (AA x 28):=by
   unfold Gf iLt;cases pvB (AA x 28)
   ·exact decide_eq_false (by show¬_<_+(0:Int);omega)
   exact decide_eq_true (by show _<_+(1:Int);omega)
  simp only[PXb,q1,q2,lw];refine KG (vu (by omega)) ?_
  rintro _ ⟨o2,rfl,l2,s2⟩
  simp only[PXb];refine KG (uq (by omega) (by intros;rfl)) ?_
  rintro _ ⟨o3,rfl,l3,s3⟩
  have ie:iIn (pvI (AA x 0)) (L.length:Int)=true:=by rw[e2];exact AM e1
  simp only[PXb,ie];refine KG (uq (by omega) (by intros;rfl)) ?_
  rintro _ ⟨o4,rfl,l4,s4⟩
  refine⟨_,rfl,_,M1',_,o4,rfl,by omega,r2,v2,fun a b=>?_⟩;rw[s4,s3,s2,s1,h4,st];congr 1;unfold oA Gf;show cond _ (cond (true&&Qw a b (pvI (AA x 0))) 1 0) 0=_;cases pvB (AA x 28)<;>cases Qw a b (pvI (AA x 0))<;>rfl
 rintro _ ⟨M0,M1,M2,M,rfl,h1,h2⟩
 exact⟨_,rfl,M,rfl,h1,h2⟩
theorem qm{N:Nat}{L:Rows}  : Jn N [.rows L]=some [.rows (cut L 50)]:=by
 show J0 (std (Hi N) N) (xOf _)=_;simp only[J0,lq9,std,xOf,PXb,PXc,PXn,PXm,Nat.reduceAdd,Int.reduceBEq,AFo (show(0:Int)≤50 by omega)];rfl
theorem AFr{L:Rows}(hL:L.length≤1048576){k:Nat}(hk:k<opn L L.length){n:Nat}(hn:n<L.length):Qw (AG L k) (AG L (k+1)) (n:Int)=Nat.beq (opn L (n+1)) (k+1):=by
 have sg:=seg hL hk;have af:=eD hL hk
 by_cases h1:AG L k≤n
 ·by_cases h2:n<AG L (k+1)
  ·rw[sg.mid n h1 h2,KE];unfold Qw iLe iLt;rw[decide_eq_true (by omega),decide_eq_true (by omega)];rfl
  have hp:((evR L (AG L (k+1))).kind==2)=true:=by
   rcases af with h|h
   ·omega
   exact h
  have o1:=Nn hp;have m:=Ei L (show AG L (k+1)+1≤n+1 by omega);have:=sg.o1;rw[J2 (by omega)];unfold Qw iLt;rw[decide_eq_false (show¬(n:Int)<(AG L (k+1):Int) by omega),Bool.and_false]
 have m:=Ei L (show n+1≤AG L k by omega);have:=sg.o0;rw[J2 (by omega)];unfold Qw iLe;rw[decide_eq_false (show¬(AG L k:Int)≤(n:Int) by omega),Bool.false_and]
theorem xS{r:Rul}{L:Rows}(hL:L.length≤1048576){k:Nat}(hk:k<opn L L.length):∀n,n≤L.length→Av (oA (AG L k) (AG L (k+1))) (HH L n 0 (AO r).1 [])=A4 Gf (Ax r L k n)
 |0,_=>rfl
 |n+1,hn=>by
  have ih:=xS (r:=r) hL hk n (by omega);have si:=Ux (L:=L) n 0 (AO r).1;rw[Nat.zero_add]at si;rw[L6,Nat.zero_add,←si];show _=A4 Gf (cond ((evR L n).kind==4&&Nat.beq (opn L (n+1)) (k+1)) (Ax r L k n++[P1 r L n]) (Ax r L k n));rw[←AFr hL hk (show n<L.length by omega)];cases(evR L n).kind==4
  ·exact ih
  rw[cond_true,Nx,ih,Bool.true_and];show _+(cond (Qw (AG L k) (AG L (k+1)) (n:Int)) (Gf (P1 r L n)) 0+0)=_;cases Qw (AG L k) (AG L (k+1)) (n:Int)
  ·exact Int.add_zero _
  rw[cond_true,cond_true,Z0];rfl
theorem zY{n:Int}{X:Rows}(hX:X.length≤4000)(rg:∀x,x∈X→RowG n x):j0 0 (whN X 0 X.length) 9=Av Nm X:=by
 have e:=AEZ hX rg 0;rw[(vS (a:=0) (ys:=whN X 0 X.length) ⟨Int.le_refl _,by omega⟩ 9 (Nat.le_refl _) (fun s hs=>by
  have w:=uK hX rg 0 hs X.length (Nat.le_refl _);rw[List.take_length]at w;rw[w];have b2:=Yh (f:=nS (dM 0) s) (c:=62) X (fun x hx=>AAH (rg x hx) _ _);omega)).1,e,Int.zero_add]
 exact Pu X fun x hx=>rfl
theorem ABX(a b:Int)(x:List PV):0≤FB a b x:=by
 unfold FB;cases(pvI (AA x 0)==2&&Qw a b (pvI (AA x 3)))<;>decide
theorem AFF{c:Bool}{x y r:Option (List PV)}(hc:c=false)(h:y=r):cond c x y=r:=by rw[hc];exact h
set_option maxHeartbeats 8000000 in
theorem nr{N:Nat}{r1 r2 r3 r4 r5 r6 r7 r9 r10 r11 r12:Int}{r8:Bool}{r0:ByteArray}{r13:Rows}{L:Rows}(ha:HC N []=some [.bool true])(hr:D3 N []=some Bf.ls)(hg:F1 N []=some [.rows BK])(hN:2097152<N)(hs:r0.size≤1048576)(h13:r13.length≤1048576):IQ N [.str r0,.int r1,.int r2,.int r3,.int r4,.int r5,.int r6,.int r7,.bool r8,.int r9,.int r10,.int r11,.int r12,.rows r13,.rows L]=some [.bool true]:=by
 show IX (std (Am N) N) (xOf _)=_;have l50:(cut L 50).length≤50:=AFS L 50;have l6:(cut L 50).length≤1000000:=Nat.le_trans l50 (show 50≤1000000 by omega);have l:(cut L 50).length≤1048576:=Nat.le_trans l50 (show 50≤1048576 by omega);have k1:Dt N (Bf.ls++[.rows BK])=some [.rows (cond (!(Ah Bf BK==0)) [] (A6 (Xw Bf BK (sdT BK)))),.int (Ah Bf BK)]:=RN hN (by decide) (Nat.zero_le _) (by decide) aK;rw[nI,ACm]at k1;simp only[IX,SB,V3,Xr,RU,Sp,QV,I8,QP,RJ,Jh,Ka,Hb,Qp,SJ,QK,lq9,std,xOf,PXb];refine BZ hr ?_;refine BZ hg ?_;refine BZ k1 ?_;refine BZ ha ?_;refine AFF rfl ?_;simp only[PXb,qm,RN hN hs h13 l aK];generalize cut L 50=X at *
 cases hc:Ah (⟨r0,r1,r2,r3,r4,r5,r6,r7,r8,r9,r10,r11,r12,r13⟩:Rul) X==0
 ·rfl
 have c0:=beq_iff_eq.1 hc;obtain⟨il,rk⟩:=aK c0;have sd:=rk.side;change 2≤r1∧r1≤11 at sd;have il4:=il.len;simp only[PXb,Bool.not_true];refine iW (jF hN hs h13 l6 c0) ?_
 rintro _ ⟨M,rfl,ml,ms⟩
 simp only[PXb,PXs,ADz,Int.reduceBEq,Bool.not_true];have ol:=ZJ X X.length;refine AQ (BC (len:=opn X X.length) (fun i=>[.int (i:Int)]) [.int 1] ?_ ?_ N (by omega)) rfl
 ·intro self;simp only[PXb,Aq]
 intro k self hi;have sg:=seg l hi;have wsum:=xS (r:=(⟨r0,r1,r2,r3,r4,r5,r6,r7,r8,r9,r10,r11,r12,r13⟩:Rul)) l hi X.length (Nat.le_refl _);rw[←SL c0,←ms]at wsum;obtain⟨s1,s2⟩:=xT rk X k X.length;have sm:=(xj rk X (sdT X) (opn X X.length) k il.len).pens;have e1:(BX (⟨r0,r1,r2,r3,r4,r5,r6,r7,r8,r9,r10,r11,r12,r13⟩:Rul) X (sdT X) (opn X X.length) k X.length).runs=smi X (ET (⟨r0,r1,r2,r3,r4,r5,r6,r7,r8,r9,r10,r11,r12,r13⟩:Rul)) k X.length+(BX (⟨r0,r1,r2,r3,r4,r5,r6,r7,r8,r9,r10,r11,r12,r13⟩:Rul) X (sdT X) (opn X X.length) k X.length).pens:=rfl;have e2:(BX (⟨r0,r1,r2,r3,r4,r5,r6,r7,r8,r9,r10,r11,r12,r13⟩:Rul) X (sdT X) (opn X X.length) k X.length).wickets=smi X Da k X.length:=rfl;have bt:=PM (L:=X) (me rk) k X.length;obtain⟨u1,u2⟩:=nP c0 k X.length (Nat.le_refl _);obtain⟨_,_,_,_,u5,u6⟩:=ACy c0 k X.length (Nat.le_refl _);obtain⟨bl,bf⟩:=ku c0 k X.length (Nat.le_refl _);have rg:∀x,x∈Ax (⟨r0,r1,r2,r3,r4,r5,r6,r7,r8,r9,r10,r11,r12,r13⟩:Rul) X k X.length→RowG r1 x:=fun x hx=>ACl rk (bf x hx)
 have B4:(Ax (⟨r0,r1,r2,r3,r4,r5,r6,r7,r8,r9,r10,r11,r12,r13⟩:Rul) X k X.length).length≤4000:=by omega
 have fg:FigF (⟨r0,r1,r2,r3,r4,r5,r6,r7,r8,r9,r10,r11,r12,r13⟩:Rul) (Ax (⟨r0,r1,r2,r3,r4,r5,r6,r7,r8,r9,r10,r11,r12,r13⟩:Rul) X k X.length) (N6 (mdA r4 (Ax (⟨r0,r1,r2,r3,r4,r5,r6,r7,r8,r9,r10,r11,r12,r13⟩:Rul) X k X.length)) (Ax (⟨r0,r1,r2,r3,r4,r5,r6,r7,r8,r9,r10,r11,r12,r13⟩:Rul) X k X.length) (Ax (⟨r0,r1,r2,r3,r4,r5,r6,r7,r8,r9,r10,r11,r12,r13⟩:Rul) X k X.length).length):=AFt rk B4 (fun x hx=>AEA rk (bf x hx)) u5 u6;have wi:SN (⟨r0,r1,r2,r3,r4,r5,r6,r7,r8,r9,r10,r11,r12,r13⟩:Rul) X (k:Int) 0=(whN (Ax (⟨r0,r1,r2,r3,r4,r5,r6,r7,r8,r9,r10,r11,r12,r13⟩:Rul) X k X.length) 0 (Ax (⟨r0,r1,r2,r3,r4,r5,r6,r7,r8,r9,r10,r11,r12,r13⟩:Rul) X k X.length).length,0):=ACH c0 hi ⟨Int.le_refl _,by show 0≤r1;omega⟩;have oi:=ADJ c0 hi;have wt:=zY B4 rg;obtain⟨o1,o2⟩:=AFQ B4 rg;have ol1:(ovN (Ax (⟨r0,r1,r2,r3,r4,r5,r6,r7,r8,r9,r10,r11,r12,r13⟩:Rul) X k X.length) (Ax (⟨r0,r1,r2,r3,r4,r5,r6,r7,r8,r9,r10,r11,r12,r13⟩:Rul) X k X.length).length).length≤1001:=by
  have:=sH (⟨r0,r1,r2,r3,r4,r5,r6,r7,r8,r9,r10,r11,r12,r13⟩:Rul) X (k:Int);rw[oi]at this;exact this
 have oln:(((V0 (⟨r0,r1,r2,r3,r4,r5,r6,r7,r8,r9,r10,r11,r12,r13⟩:Rul) X k).length:Nat):Int)=r1:=ADm c0 hi;have om:∀p,p∈V0 (⟨r0,r1,r2,r3,r4,r5,r6,r7,r8,r9,r10,r11,r12,r13⟩:Rul) X k↔1≤p∧p≤r1:=fun p=>fP (p:=p) c0 hi (show 0≤r1 by omega)
 have pf:∀p,p∈V0 (⟨r0,r1,r2,r3,r4,r5,r6,r7,r8,r9,r10,r11,r12,r13⟩:Rul) X k→LnF p (Ax (⟨r0,r1,r2,r3,r4,r5,r6,r7,r8,r9,r10,r11,r12,r13⟩:Rul) X k X.length) (Ax (⟨r0,r1,r2,r3,r4,r5,r6,r7,r8,r9,r10,r11,r12,r13⟩:Rul) X k X.length).length (plL (⟨r0,r1,r2,r3,r4,r5,r6,r7,r8,r9,r10,r11,r12,r13⟩:Rul) X k p):=fun p hp=>AE7 c0 rk ((om p).1 hp).1
 have rsum:=AA8 c0 rk hi;simp only[PXb,Int.toNat_natCast,Ao (show k≤1099511627776 by omega),Ae hi,AM hi,AEY hi,I8,Y8 hN hs h13 l6,AC5 c0 hi];refine iW (jB hN hs h13 l6 c0 hi) ?_
 rintro _ ⟨W,rfl,hW⟩
 simp only[PXb];refine iW (lC hN hs h13 l6 c0 hi) ?_
 rintro _ ⟨Z,rfl,z1,z2,z3⟩
 simp only[PXb,Jh,qq hN hs h13 l6,wi,Ka,tP hN hs h13 l6,oi,Hb,TW hN hs h13 l6,ADO c0 hi,Int.reduceBEq,Bool.not_true,Bool.or_self,cond_false];generalize V0 (⟨r0,r1,r2,r3,r4,r5,r6,r7,r8,r9,r10,r11,r12,r13⟩:Rul) X k=o at *
 generalize plL (⟨r0,r1,r2,r3,r4,r5,r6,r7,r8,r9,r10,r11,r12,r13⟩:Rul) X k=F at *
 generalize Ax (⟨r0,r1,r2,r3,r4,r5,r6,r7,r8,r9,r10,r11,r12,r13⟩:Rul) X k X.length=B at *
 generalize N6 (mdA r4 B) B B.length=xs at *
 obtain⟨g1,g2,g3,g4,g5,g6⟩:=fg;obtain⟨hw1,hw2,hw3⟩:=hW;have c9:((9:Nat):Int)=9:=rfl;refine AQ (BC (len:=W.length) (fun j=>[.int (Av Gv (W.take j)),.int (j:Int)]) [.int (smi X (ET (⟨r0,r1,r2,r3,r4,r5,r6,r7,r8,r9,r10,r11,r12,r13⟩:Rul)) k X.length),.int (W.length:Int)] ?_ ?_ N (by omega)) ?_
 ·intro self;simp only[PXb,Aq,List.take_length,hw3]
 ·intro j self hj;have par:=qN (f:=Gv) (fun x hx=>(hw2 x hx).2) hj;rw[hw3]at par;have pr:pvI (AD W j 3)=Gv (AB W j):=rfl;have w:IntKind.i64.wrap (Av Gv (W.take j)+Gv (AB W j))=Av Gv (W.take j)+Gv (AB W j):=A0 (by omega) (by omega);simp only[PXb,Ae hj,AM hj,Int.toNat_natCast,pr,w,Ao (show j≤1099511627776 by omega),OJ Gv hj]
 simp only[PXb];refine AQ (BC (len:=9) (fun j=>[.int (j0 0 (whN B 0 B.length) j),.int (j:Int)]) [.int (Av Nm B),.int 9] ?_ ?_ N (by omega)) ?_
 ·intro self;have z:iLt 9 9=false:=rfl;simp only[PXb,EB,Ug,c9,z,wt]
 ·intro j self hj;have l9:iLt (j:Int) 9=true:=by simp only[iLt,decide_eq_true_eq];omega
  have i9:iIn (j:Int) 9=true:=by simp only[iIn,decide_eq_true_eq];omega
  simp only[PXb,EB,Ug,c9,l9,i9,Int.toNat_natCast,CC,nN,Ao (show j≤1099511627776 by omega)];rfl
 simp only[PXb];refine AQ (BC (len:=xs.length) (fun j=>[.int (Hs BL.w (xs.take j)),.int (j:Int)]) [.int (Hs BL.w xs),.int (xs.length:Int)] ?_ ?_ N (by omega)) ?_
 ·intro self;simp only[PXb,PXv,Aq,List.take_length]
 ·intro j self hj;have hm:bln xs j∈xs:=by rw[YS hj];exact List.getElem_mem _
  have p2:=(g2 _ hm).w;have b1:=xI (g:=BL.w) (fun s hs=>(g2 s hs).w) j (by omega);have w:IntKind.i64.wrap (Hs BL.w (xs.take j)+(bln xs j).w)=Hs BL.w (xs.take j)+(bln xs j).w:=A0 (by omega) (by omega);simp only[PXb,PXv,Int.toNat_natCast,Ae hj,AM hj,Ao (show j≤1099511627776 by omega),w,Za BL.w hj]
 simp only[PXb,EB,CC,nN];generalize ovN B B.length=ys at *
 have wl:(MS ys).length=ys.length:=by unfold MS;rw[Yt]
 have mx:(cond (iLt 0 ((MS ys).length:Int)) (cond (iIn (IntKind.i64.wrap (((MS ys).length:Int)-1)) ((MS ys).length:Int)) (some [PV.int ((MS ys).getD (IntKind.i64.wrap (((MS ys).length:Int)-1)).toNat 0)]) none) (some [PV.int 0]))=some [PV.int (pre ys ys.length)]:=by
  rw[wl]
  by_cases z:ys.length=0
  ·rw[z];rfl
  have w1:IntKind.i64.wrap ((ys.length:Int)-1)=((ys.length-1:Nat):Int):=by rw[A0 (by omega) (by omega)];omega
  have l1:iLt 0 (ys.length:Int)=true:=by simp only[iLt,decide_eq_true_eq];omega
  rw[w1,l1,AM (show ys.length-1<ys.length by omega),Int.toNat_natCast,ABr o2 ol1 (show ys.length-1<ys.length by omega),show ys.length-1+1=ys.length by omega];rfl
 refine BZ mx ?_;have wr:IntKind.i64.wrap ((BX (⟨r0,r1,r2,r3,r4,r5,r6,r7,r8,r9,r10,r11,r12,r13⟩:Rul) X (sdT X) (opn X X.length) k X.length).runs-(BX (⟨r0,r1,r2,r3,r4,r5,r6,r7,r8,r9,r10,r11,r12,r13⟩:Rul) X (sdT X) (opn X X.length) k X.length).pens)=smi X (ET (⟨r0,r1,r2,r3,r4,r5,r6,r7,r8,r9,r10,r11,r12,r13⟩:Rul)) k X.length:=by
  rw[e1,A0 (by omega) (by omega)];omega
 have tc:=rm (o:=o) (F:=F) (fun p hp=>by have:=(pf p hp).rb;omega) (by omega) o.length (Nat.le_refl _);rw[List.take_length,rsum,←u1]at tc;have tt:Hp N [.rows (AU o F)]=some [.int (Av Nm B)]:=by
  rw[lL hN (by rw[Br];omega),Br,tc]
 simp only[PXb,wr,o1.trans u2,beq_self_eq_true,Bool.not_true,Bool.or_self,Bool.not_false,cond_true];refine BZ tt ?_;simp only[PXb,e2,z2,beq_self_eq_true,Bool.not_true,Bool.or_self,cond_false];refine BZ (Ds hN l) ?_;have x0:atI (Fx (CB X X.length)) k 0=(AG X k:Int):=(PXp.2.1 (CB X X.length) k).trans sg.x0;have x1:atI (Fx (CB X X.length)) k 1=(AG X (k+1):Int):=(PXp.2.2.1 (CB X X.length) k).trans sg.x1;simp only[PXb,PXp,IV,AM hi,Int.toNat_natCast,x0,x1];rw[g5,←wsum];refine AQ (BC (len:=M.length) (fun j=>[.int (Av (FB (AG X k) (AG X (k+1))) (M.drop j)),.int (j:Int)]) [.int 0,.int (M.length:Int)] ?_ ?_ N (by omega)) ?_
 ·intro self;simp only[PXb,Aq,List.drop_length];rfl
 ·intro j self hj;have pa:∀c,atI M j c=pvI (AA (AB M j) c):=fun _=>rfl
  have dj:M.drop j=AB M j::M.drop (j+1):=by
   rw[List.drop_eq_getElem_cons hj];unfold AB;rw[zzl,zzo hj];rfl
  have mb:=Yh (f:=FB (AG X k) (AG X (k+1))) (c:=1) (M.drop (j+1)) (fun x _=>⟨ABX _ _ x,by unfold FB;cases(pvI (AA x 0)==2&&Qw (AG X k) (AG X (k+1)) (pvI (AA x 3)))<;>decide⟩);rw[List.length_drop]at mb;have mf:Av (FB (AG X k) (AG X (k+1))) (M.drop j)=cond (pvI (AA (AB M j) 0)==2&&iLe (AG X k:Int) (pvI (AA (AB M j) 3))&&iLt (pvI (AA (AB M j) 3)) (AG X (k+1):Int)) 1 0+Av (FB (AG X k) (AG X (k+1))) (M.drop (j+1)):=by
   rw[dj];show FB (AG X k) (AG X (k+1)) (AB M j)+_=_;unfold FB Qw;rw[Bool.and_assoc]
  simp only[PXb,Ae hj,AM hj,Int.toNat_natCast,pa,Ao (show j≤1099511627776 by omega)];rw[mf];generalize Av (FB (AG X k) (AG X (k+1))) (M.drop (j+1))=T at *
  generalize(pvI (AA (AB M j) 0)==2&&iLe (AG X k:Int) (pvI (AA (AB M j) 3))&&iLt (pvI (AA (AB M j) 3)) (AG X (k+1):Int))=b at *
  cases b
  ·simp only[cond_false,Int.zero_add]
  simp only[cond_true];rw[A0 (by omega) (by omega),show 1+T-1=T by omega]
 simp only[PXb,Int.reduceBEq,Bool.not_true,Bool.not_false,cond_true];refine BZ (iZ hN (by omega) (by omega) (fun p hp=>z3 p ((om p).1 hp).1)) ?_;simp only[PXb,Bool.not_true,Bool.or_self,cond_false]
def pl9(e i k l n f:Int)(a:Bool)(s o b r y w z t u x:Int)(c1 c2 c3 c4:Bool)(p q:Int):List PV:=[.int e,.int i,.int 0,.int k,.int l,.int n,.int f,.bool a,.int s,.int o,.int b,.int 0,.int r,.bool false,.int y,.int w,.int 0,.int 0,.bool false,.int 0,.int z,.int t,.int 0,.int 0,.int 0,.int u,.bool c1,.bool c2,.bool c3,.bool c4,.int p,.int q]
def AEe:Rows:=[pl9 4 0 0 1 1 2 false 1 1 1 0 0 0 1 0 1 0 true true false true 1 0,pl9 5 0 1 1 2 1 false 1 0 0 0 1 1 0 0 0 0 true true true false 1 1,pl9 9 1 0 2 2 1 false 2 0 0 0 0 0 0 1 1 0 false false false false 1 0,pl9 10 1 0 2 2 1 false 1 1 0 4 0 0 4 0 4 0 true true false false 5 0]
theorem AF3:BG Bf BK=AEe:=by kernel_rfl
theorem AF5:((DU Bf BK).2.1,(Ap (DU Bf BK).1.inns).length)=(-1,2):=by kernel_rfl
theorem AFO:Rv Bf BK 0=([[.int 1,.int 1,.int 1,.int 0,.int 0,.bool false,.int 0,.int 0,.int 0,.bool true],[.int 2,.int 0,.int 1,.int 0,.int 0,.bool true,.int 1,.int 1,.int 0,.bool true]],0):=by kernel_rfl
theorem AFy:Xt Bf BK 1=(BA [⟨2,1,0,5,0,1,0⟩],0):=by kernel_rfl
theorem N1{α:Type}{x:Option (List PV)}{v:List PV}{f:List PV→Option (List PV)}{g:List PV→α}{r:Option α}(h:x=some v)(hk:(f v).map g=r):(x.bind f).map g=r:=by rw[h];exact hk
theorem xW{α:Type}{c:Bool}{x y:Option (List PV)}{g:List PV→α}{r:Option α}(hc:c=false)(h:y.map g=r):(cond c x y).map g=r:=by rw[hc];exact h
def ABN(v:List PV):Nat×Int:=((pvL (AA v 0)).length,pvI (AA v 1))
theorem zg:∃F,Bc 4194304 (Bf.ls++[.rows BK])=some (Ps AEe F):=by
 have k:Bc 4194304 (Bf.ls++[.rows BK])=some (Ps (BG Bf BK) (DU Bf BK)):=Je (by omega) (by decide) (Nat.zero_le _) (by decide);rw[AF3]at k;exact⟨_,k⟩
theorem AFa:(Ef 4194304 (Bf.ls++[.rows BK])).map ABN=some (4,0):=by
 have k1:Bb 4194304 (Bf.ls++[.rows BK])=some [.int (Ah Bf BK)]:=Hw (by omega) (by decide) (Nat.zero_le _) (by decide);rw[nI]at k1;obtain⟨F,k2⟩:=zg;rw[show Ef 4194304 (Bf.ls++[.rows BK])=Ij (std (DA 4194304) 4194304) (xOf (Bf.ls++[.rows BK])) by kernel_rfl];simp only[Ij,VD,WS,QH,lq9,std,xOf,PXb];refine N1 k1 (xW rfl ?_);refine N1 k2 ?_
 kernel_rfl
theorem AFp:(EC 4194304 (Bf.ls++[.rows BK])).map ABN=some (2,0):=by
 have k1:Dt 4194304 (Bf.ls++[.rows BK])=some [.rows (cond (!(Ah Bf BK==0)) [] (A6 (Xw Bf BK (sdT BK)))),.int (Ah Bf BK)]:=RN (by omega) (by decide) (Nat.zero_le _) (by decide) aK;rw[nI,ACm]at k1;obtain⟨F,k2⟩:=zg;have k3:Ay 4194304 [.rows BK]=_:=Ds (L:=BK) (by omega) (by decide);rw[AFc]at k3;rw[show EC 4194304 (Bf.ls++[.rows BK])=HP (std (B0 4194304) 4194304) (xOf (Bf.ls++[.rows BK])) by kernel_rfl];simp only[HP,Qn,Qi,VG,QQ,Pg,lq9,std,xOf,PXb];refine N1 k1 (xW rfl ?_);refine N1 k2 ?_;refine N1 k3 ?_
 kernel_rfl
theorem AE3:(IW 4194304 (Bf.ls++[.rows BK])).map (fun v=>((pvL (AA v 0)).length,(pvL (AA v 1)).length,pvB (AA v 2)))=some (4,2,true):=by
 obtain⟨v,h1,h2⟩:=zzp.1 AFa;obtain⟨w,h3,h4⟩:=zzp.1 AFp;simp only[ABN,Prod.mk.injEq]at h2 h4;rw[show IW 4194304 (Bf.ls++[.rows BK])=L8 (std (JD 4194304) 4194304) (xOf (Bf.ls++[.rows BK])) by kernel_rfl];simp only[L8,Se,Q4,lq9,std,xOf,PXb];refine N1 h1 ?_;refine N1 h3 ?_;simp only[PXb,PXc,PXn,AH,Option.map_some,h2,h4];rfl
theorem lP:FL 4194304 []=some [.bool true]:=by
 obtain⟨v,h1,h2⟩:=zzp.1 AE3;simp only[Prod.mk.injEq]at h2;have k:DB 4194304 (Bf.ls++[.rows BK])=some (mr (DU Bf BK)):=Vf (by omega) (by decide) (Nat.zero_le _) (by decide);have e:=AF5;rw[Prod.mk.injEq]at e;show HF (std (CK 4194304) 4194304) (xOf [])=_;simp only[HF,UQ,WO,Ss,Qv,lq9,std,xOf,PXb,yO,nD];refine BZ h1 ?_;refine BZ k ?_;generalize DU Bf BK=F at e;simp only[mr,PXb,PXc,PXn,AH,h2,e];rfl
set_option maxHeartbeats 2000000 in
theorem lD:HC 4194304 []=some [.bool true]:=by
 have k1:DJ 4194304 (Bf.ls++[.rows BK,.int 0])=some [.rows (Rv Bf BK 0).1,.int (Rv Bf BK 0).2]:=Y8 (by omega) (by decide) (Nat.zero_le _) (by decide);rw[AFO]at k1;have k2:CJ 4194304 (Bf.ls++[.rows BK,.int 1])=some [.rows (Xt Bf BK 1).1,.int (Xt Bf BK 1).2]:=TW (by omega) (by decide) (Nat.zero_le _) (by decide);rw[AFy]at k2;show Kn (std (DN 4194304) 4194304) (xOf [])=_;simp only[Kn,T1,WP,RZ,Og,QI,lq9,std,xOf,PXb,yO,nD];refine BZ k1 ?_;refine BZ k2 ?_;refine BZ lP ?_
 kernel_rfl
end Go.Px
end
section
namespace Go.Proofs
open Go.Shelf
def Tryz.laysM246_ren:Go.Shelf.Ren:=⟨fun|246=>129|283=>151|284=>152|285=>153|286=>154|129=>171|317=>170|318=>172|319=>173|320=>174|337=>181|338=>182|n=>n,fun|2=>2|3=>3|9=>9|4=>4|171=>253|0=>0|53=>254|37=>170|5=>5|173=>257|212=>269|51=>270|20=>20|213=>271|46=>272|232=>288|233=>289|n=>n,fun|17=>1|18=>2|19=>3|n=>n⟩
theorem Tryz.laysM246:Go.Proofs.LaysM.n246 Tryz.prog Tryz.laysM246_ren:={
  mixed:=by kernel_rfl
  f129:=Tryz.func171.trans (congrArg some (by kernel_rfl))
  f246:=Tryz.func129.trans (congrArg some (by kernel_rfl))
  f283:=Tryz.func151.trans (congrArg some (by kernel_rfl))
  f284:=Tryz.func152.trans (congrArg some (by kernel_rfl))
  f285:=Tryz.func153.trans (congrArg some (by kernel_rfl))
  f286:=Tryz.func154.trans (congrArg some (by kernel_rfl))
  f317:=Tryz.func170.trans (congrArg some (by kernel_rfl))
  f318:=Tryz.func172.trans (congrArg some (by kernel_rfl))
  f319:=Tryz.func173.trans (congrArg some (by kernel_rfl))
  f320:=Tryz.func174.trans (congrArg some (by kernel_rfl))
  f337:=Tryz.func181.trans (congrArg some (by kernel_rfl))
  f338:=Tryz.func182.trans (congrArg some (by kernel_rfl))
  t0:=Tryz.underlying0
  a0:=Tryz.isAgg0
  z0:=Tryz.sizeOf0
  v0:=Tryz.zeroValue0
  t2:=Tryz.underlying2
  a2:=Tryz.isAgg2
  z2:=Tryz.sizeOf2
  v2:=Tryz.zeroValue2
  t3:=Tryz.underlying3
  a3:=Tryz.isAgg3
  z3:=Tryz.sizeOf3
  v3:=Tryz.zeroValue3
  t4:=Tryz.underlying4
  a4:=Tryz.isAgg4
  z4:=Tryz.sizeOf4
  v4:=Tryz.zeroValue4
  t5:=Tryz.underlying5
  a5:=Tryz.isAgg5
  z5:=Tryz.sizeOf5
  v5:=Tryz.zeroValue5
  t9:=Tryz.underlying9
  a9:=Tryz.isAgg9
  z9:=Tryz.sizeOf9
  v9:=Tryz.zeroValue9
  t20:=Tryz.underlying20
  a20:=Tryz.isAgg20
  z20:=Tryz.sizeOf20
  v20:=Tryz.zeroValue20
  t37:=Tryz.underlying170
  a37:=Tryz.isAgg170
  z37:=Tryz.sizeOf170
  v37:=Tryz.zeroValue170
  t46:=Tryz.underlying272
  a46:=Tryz.isAgg272
  z46:=Tryz.sizeOf272
  v46:=Tryz.zeroValue272
  t51:=Tryz.underlying270
  a51:=Tryz.isAgg270
  z51:=Tryz.sizeOf270
  v51:=Tryz.zeroValue270
  t53:=Tryz.underlying254
  a53:=Tryz.isAgg254
  z53:=Tryz.sizeOf254
  v53:=Tryz.zeroValue254
  t171:=Tryz.underlying253
  a171:=Tryz.isAgg253
  z171:=Tryz.sizeOf253
  v171:=Tryz.zeroValue253
  t173:=Tryz.underlying257
  a173:=Tryz.isAgg257
  z173:=Tryz.sizeOf257
  v173:=Tryz.zeroValue257
  t212:=Tryz.underlying269
  a212:=Tryz.isAgg269
  z212:=Tryz.sizeOf269
  v212:=Tryz.zeroValue269
  t213:=Tryz.underlying271
  a213:=Tryz.isAgg271
  z213:=Tryz.sizeOf271
  t232:=Tryz.underlying288
  a232:=Tryz.isAgg288
  z232:=Tryz.sizeOf288
  v232:=Tryz.zeroValue288
  t233:=Tryz.underlying289
  a233:=Tryz.isAgg289
  z233:=Tryz.sizeOf289
  v233:=Tryz.zeroValue289
  g17:=by kernel_rfl
  g18:=by kernel_rfl
  g19:=by kernel_rfl
  i0:=by kernel_rfl
  i2:=by kernel_rfl
  i3:=by kernel_rfl
  i4:=by kernel_rfl
  i5:=by kernel_rfl
  i9:=by kernel_rfl
  i20:=by kernel_rfl
  i37:=by kernel_rfl
  i46:=by kernel_rfl
  i51:=by kernel_rfl
  i53:=by kernel_rfl
  i171:=by kernel_rfl
  i173:=by kernel_rfl
  i212:=by kernel_rfl
  i232:=by kernel_rfl
  i233:=by kernel_rfl
  m17:=by kernel_rfl
  m18:=by kernel_rfl
  m19:=by kernel_rfl }
open Go.RowKit Go.Sort Go.Lib in
theorem Tryz.internal_strconv_FormatInt_10 (n : Int) (h0 : -9223372036854775808 ≤ n) (h1 : n ≤ 9223372036854775807) (w : World) (htab : Lib.TabIs Tryz.prog w "internal/strconv.uint64pow10" .u64 Lib.pow10Tab) :
    Calls Tryz.prog 129 #[.int .i64 n,.int .i64 10] w fun e w'=>e=.returned (.string ⟨(Lib.itoa n).toArray⟩)∧∃k os,w'=grow (w.drewN k) os:=Any.internal_strconv_FormatInt_10 Tryz.laysM246 n h0 h1 w htab
end Go.Proofs
end
