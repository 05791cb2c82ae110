/- Part 15. -/
import Derived.Test.YtmpgkalgfmnpjaaGreatPart14
import Derived.KernelRfl
set_option linter.unusedVariables false
set_option linter.unusedSimpArgs false
section
namespace Go.Px
set_option maxRecDepth 100000
theorem JO {xs ys:List Sco} (hl:xs.length=ys.length) (h:∀ j,j<xs.length→sco xs j=sco ys j):xs=ys:=by
 apply List.ext_getElem?
 intro i
 by_cases hi:i<xs.length
 ·have:=h i hi
  rw [FK,FK,List.getElem?_eq_getElem hi,List.getElem?_eq_getElem (by omega)] at this
  rw [List.getElem?_eq_getElem hi,List.getElem?_eq_getElem (by omega)]
  exact congrArg some this
 ·rw [List.getElem?_eq_none (by omega),List.getElem?_eq_none (by omega)]
def EJ (r:Rul) (L:Rows) (sd:Nat→Int) (n q i:Nat):List Sco:=(List.range n).map fun j=>{ BU r L sd n j i with side:=cond (Nat.blt j q) (sd j) 0 }
theorem DC (r:Rul) (L:Rows) (sd:Nat→Int) (n q i:Nat):(EJ r L sd n q i).length=n:=by unfold EJ;rw [List.length_map,List.length_range]
theorem Hz (r:Rul) (L:Rows) (sd:Nat→Int) {n q i j:Nat} (h:j<n):sco (EJ r L sd n q i) j={ BU r L sd n j i with side:=cond (Nat.blt j q) (sd j) 0 }:=by
 rw [FK]
 unfold EJ
 rw [List.getElem?_map,List.getElem?_range h]
 rfl
theorem fZ {a b:Nat} (h:a<b):Nat.blt a b=true:=Nat.ble_eq_true_of_le h
theorem tV {a b:Nat} (h:¬ a<b):Nat.blt a b=false:=by
 cases hq:Nat.blt a b with
 | false=>rfl
 | true=>exact absurd (Nat.le_of_ble_eq_true hq) h
theorem VE {xs:List Sco} {k:Nat} (h:k<xs.length) (s:Sco):sco (xs.set k s) k=s:=by rw [fi _ _ _ _ h,if_pos rfl]
theorem zN {r:Rul} {L:Rows} {sd:Nat→Int} {n k i:Nat} (h:k<n):(EJ r L sd n k i).set k { sco (EJ r L sd n k i) k with side:=sd k }=EJ r L sd n (k+1) i:=by
 refine JO (by rw [List.length_set,DC,DC]) (fun j hj=>?_)
 rw [List.length_set,DC] at hj
 rw [fi _ _ _ _ (by rw [DC];exact hj),Hz _ _ _ h,Hz _ _ _ hj,Hz _ _ _ hj]
 by_cases e:k=j
 ·subst e
  rw [if_pos rfl,fZ (Nat.lt_succ_self k)]
  rfl
 ·rw [if_neg e]
  have:Nat.blt j k=Nat.blt j (k+1):=by
   by_cases hl:j<k
   ·rw [fZ hl,fZ (by omega)]
   ·rw [tV hl,tV (by omega)]
  rw [this]
theorem AAs (r:Rul) (L:Rows) (sd:Nat→Int) (n i:Nat):EJ r L sd n n i=(List.range n).map fun j=>BU r L sd n j i:=by
 refine JO (by rw [DC,List.length_map,List.length_range]) (fun j hj=>?_)
 rw [DC] at hj
 rw [Hz _ _ _ hj,FK,List.getElem?_map,List.getElem?_range hj,fZ hj]
 rfl
theorem zZ {r:Rul} {L:Rows} {sd:Nat→Int} {n i:Nat} (ho:opn L i=0) (h13:∀ j,j<i→((evR L j).kind==13)=true→1≤opn L (j+1)):List.replicate n dS=EJ r L sd n 0 i:=by
 have pz:∀ j,pnS L sd n j i=0:=fun j=>by
  have:∀ m,m≤i→pnS L sd n j m=0:=by
   intro m
   induction m with
   | zero=>intro _;rfl
   | succ m ih =>
    intro hm
    rw [YP,ih (by omega)]
    cases k13:(evR L m).kind==13 with
    | false=>rfl
    | true =>
     have h1:=h13 m (by omega) k13
     have h2:=Ir L (show m+1≤i by omega)
     omega
  exact this i (Nat.le_refl i)
 refine JO (by rw [DC,List.length_replicate]) (fun j hj=>?_)
 rw [List.length_replicate] at hj
 rw [Hz _ _ _ hj,FK,List.getElem?_replicate,if_pos hj,tV (by omega)]
 unfold BU
 have z:∀ f:Ev→Int,smi L f j i=0:=fun f=>VQ i (by omega)
 simp only [pz,z]
 rfl
theorem fO {r : Rul} {L : Rows} {sd : Nat → Int} {n k q i : Nat} {y : Sco} (hk : k < n) (hy : y = { BU r L sd n k (i + 1) with side := cond (Nat.blt k q) (sd k) 0 }) (ho : ∀ j, j < n → ¬ k = j → BU r L sd n j (i + 1) = BU r L sd n j i) :
    (EJ r L sd n q i).set k y=EJ r L sd n q (i+1):=by
  refine JO (by rw [List.length_set,DC,DC]) (fun j hj=>?_)
  rw [List.length_set,DC] at hj
  rw [fi _ _ _ _ (by rw [DC];exact hj),Hz _ _ _ hj,Hz _ _ _ hj]
  by_cases e:k=j
  · subst e
    rw [if_pos rfl,hy]
  · rw [if_neg e,ho j hj e]
theorem rN {r:Rul} {L:Rows} {sd:Nat→Int} {n q i:Nat} (ho:∀ j,j<n→BU r L sd n j (i+1)=BU r L sd n j i):EJ r L sd n q i=EJ r L sd n q (i+1):=by
 refine JO (by rw [DC,DC]) (fun j hj=>?_)
 rw [DC] at hj
 rw [Hz _ _ _ hj,Hz _ _ _ hj,ho j hj]
def qR (r:Rul) (e:Ev) (k:Nat) (d:Option Nat) (xs:List Sco):List Sco :=
  let x1:=cond (Q6 e) (xs.set k { sco xs k with wickets:=IntKind.i64.wrap ((sco xs k).wickets+1) }) xs
  let c:=AF r e.ball
  cond (e.kind==4)
    (x1.set k { sco x1 k with runs:=IntKind.i64.wrap ((sco x1 k).runs+DB c),balls:=cond c.counts (IntKind.i64.wrap ((sco x1 k).balls+1)) (sco x1 k).balls,wides:=IntKind.i64.wrap ((sco x1 k).wides+c.wides),noballs:=IntKind.i64.wrap ((sco x1 k).noballs+c.noballs),byes:=IntKind.i64.wrap ((sco x1 k).byes+c.byes),legbyes:=IntKind.i64.wrap ((sco x1 k).legbyes+c.legbyes) })
    (cond (e.kind==13) (match d with
      | some j=>x1.set j { sco x1 j with runs:=IntKind.i64.wrap ((sco x1 j).runs+5),pens:=IntKind.i64.wrap ((sco x1 j).pens+5) }
      | none=>x1) x1)
theorem kW {sd:Nat→Int} {n k j:Nat} {s:Int} (hk:k<n) (h:G3 sd n k s=some j):j<n:=by
 rcases (zt h).2 with h | h<;>omega
theorem z6 {r:Rul} {L:Rows} {sd:Nat→Int} {n k i:Nat} (rk:RulOk r) (hk:k<n) (ho:opn L (i+1)=k+1) (hi:i<4000):qR r (evR L i) k (G3 sd n k (evR L i).side) (EJ r L sd n (k+1) i)=EJ r L sd n (k+1) (i+1):=by
 have hn:∀ j,¬ k=j→Nat.beq (opn L (i+1)) (j+1)=false:=fun j hj=>eu (by omega)
 have hy:Nat.beq (opn L (i+1)) (k+1)=true:=by rw [ho];exact UV _
 have sm:=fun j=>ABD rk L sd n j (show i≤4000 by omega)
 have cs:=AAB r L sd n
 have hp:opn L (i+1) - 1=k:=by omega
 have tl:k<(EJ r L sd n (k+1) i).length:=by rw [DC];exact hk
 unfold qR
 cases h4:(evR L i).kind==4 with
 | true =>
  have k4:=beq_iff_eq.1 h4
  have h13:((evR L i).kind==13)=false:=by rw [k4];rfl
  have ce:Ao r (evR L i)=AF r (evR L i).ball:=by unfold Ao;rw [h4];rfl
  have co:=Ch rk (evR L i)
  have tb:=xZ rk (evR L i)
  rw [← ce]
  have fin:∀ y:Sco,y={ BU r L sd n k (i+1) with side:=cond (Nat.blt k (k+1)) (sd k) 0 }→(EJ r L sd n (k+1) i).set k y=EJ r L sd n (k+1) (i+1):=fun y hyy=>fO hk hyy (fun j hj hjk=>by
   rw [cs,h13,Bool.false_and,cond_false,DG,hn j hjk];rfl)
  have ex:BU r L sd n k (i+1)=Q0 r (evR L i) (BU r L sd n k i):=by rw [cs,h13,Bool.false_and,cond_false,DG,hy];rfl
  have s:=sm k
  have s1:=s.runs
  have s2:=s.wk
  have s3:=s.balls
  have s4:=s.wides
  have s5:=s.no
  have s6:=s.bb
  have s7:=s.lb
  have c1:=co.wi
  have c2:=co.no
  have c3:=co.bb
  have c4:=co.lb
  unfold Qz at tb
  have w1:IntKind.i64.wrap ((BU r L sd n k i).runs+DB (Ao r (evR L i)))=(BU r L sd n k i).runs+DB (Ao r (evR L i)):=A9 (by omega) (by omega)
  have w2:IntKind.i64.wrap ((BU r L sd n k i).wickets+1)=(BU r L sd n k i).wickets+1:=A9 (by omega) (by omega)
  have w3:IntKind.i64.wrap ((BU r L sd n k i).balls+1)=(BU r L sd n k i).balls+1:=A9 (by omega) (by omega)
  have w4:IntKind.i64.wrap ((BU r L sd n k i).wides+(Ao r (evR L i)).wides)=(BU r L sd n k i).wides+(Ao r (evR L i)).wides:=A9 (by omega) (by omega)
  have w5:IntKind.i64.wrap ((BU r L sd n k i).noballs+(Ao r (evR L i)).noballs)=(BU r L sd n k i).noballs+(Ao r (evR L i)).noballs:=A9 (by omega) (by omega)
  have w6:IntKind.i64.wrap ((BU r L sd n k i).byes+(Ao r (evR L i)).byes)=(BU r L sd n k i).byes+(Ao r (evR L i)).byes:=A9 (by omega) (by omega)
  have w7:IntKind.i64.wrap ((BU r L sd n k i).legbyes+(Ao r (evR L i)).legbyes)=(BU r L sd n k i).legbyes+(Ao r (evR L i)).legbyes:=A9 (by omega) (by omega)
  have od:=tn (evR L i)
  cases hb:Q6 (evR L i) with
  | false =>
   simp only [cond_false,cond_true,Hz _ _ _ hk,w1,w3,w4,w5,w6,w7]
   refine fin _ ?_
   rw [ex]
   unfold Q0
   rw [od,hb]
   cases (Ao r (evR L i)).counts<;>simp only [cond_false,cond_true,Int.add_zero]
  | true =>
   simp only [cond_true,VE tl,List.set_set,Hz _ _ _ hk,w1,w2,w3,w4,w5,w6,w7]
   refine fin _ ?_
   rw [ex]
   unfold Q0
   rw [od,hb]
   cases (Ao r (evR L i)).counts<;>simp only [cond_false,cond_true,Int.add_zero]
 | false =>
  have s:=sm k
  have s2:=s.wk
  have w2:IntKind.i64.wrap ((BU r L sd n k i).wickets+1)=(BU r L sd n k i).wickets+1:=A9 (by omega) (by omega)
  have od:=tn (evR L i)
  cases h13:(evR L i).kind==13 with
  | true =>
   have k13:=beq_iff_eq.1 h13
   have ob:Q6 (evR L i)=false:=by unfold Q6;rw [k13];rfl
   have oe:D2 (evR L i)=0:=by unfold D2;rw [k13];rfl
   have ex:∀ j,BU r L sd n j (i+1)=H0 (cond (isS (G3 sd n k (evR L i).side) j) 5 0) (BU r L sd n j i):=fun j=>by
    rw [cs,h13,Bool.true_and,hp,Wm _ h4 oe]
    cases Nat.beq (opn L (i+1)) (j+1)<;>rfl
   simp only [ob,cond_false,cond_true]
   cases hd:G3 sd n k (evR L i).side with
   | none =>
    refine rN (fun j hj=>?_)
    rw [ex,hd]
    exact DG _
   | some d =>
    have dl:=kW hk hd
    have q:=sm d
    have q1:=q.runs
    have q2:=q.pens
    have v1:IntKind.i64.wrap ((BU r L sd n d i).runs+5)=(BU r L sd n d i).runs+5:=A9 (by omega) (by omega)
    have v2:IntKind.i64.wrap ((BU r L sd n d i).pens+5)=(BU r L sd n d i).pens+5:=A9 (by omega) (by omega)
    simp only [Hz _ _ _ dl,v1,v2]
    refine fO dl ?_ (fun j hj hjd=>?_)
    ·rw [ex,hd,show isS (some d) d=true from UV d]
     rfl
    ·rw [ex,hd,show isS (some d) j=false from eu hjd]
     exact DG _
  | false =>
   have ex:∀ j,BU r L sd n j (i+1)=cond (Nat.beq (opn L (i+1)) (j+1)) (Q0 r (evR L i) (BU r L sd n j i)) (BU r L sd n j i):=fun j=>by
    rw [cs,h13,Bool.false_and,cond_false,DG]
   have oe:F1 (evR L i)=D2 (evR L i):=by unfold F1;rw [h4];rfl
   rw [oe] at od
   cases hb:Q6 (evR L i) with
   | false =>
    rw [hb] at od
    simp only [cond_false]
    refine rN (fun j hj=>?_)
    rw [ex,Wm _ h4 od]
    cases Nat.beq (opn L (i+1)) (j+1)<;>rfl
   | true =>
    rw [hb] at od
    simp only [cond_false,cond_true,Hz _ _ _ hk,w2]
    refine fO hk ?_ (fun j hj hjk=>?_)
    ·rw [ex,hy,cond_true,jV _ h4,od]
     rfl
    ·rw [ex,hn j hjk];rfl
def sdT (L:Rows):Nat→Int:=WI (Ja L) (Dx L L.length)
def Qq (r:Rul) (L:Rows) (sd:Nat→Int):List Sco:=(List.range (opn L L.length)).map fun j=>BU r L sd (opn L L.length) j L.length
structure InLog (L:Rows):Prop where
 len:L.length≤4000
 pen:∀ j,j<L.length→((evR L j).kind==13)=true→1≤opn L (j+1)
set_option maxHeartbeats 4000000 in
theorem yM {N : Nat} {r : Rul} {L : Rows} {k : Nat} (hN : 2097152 < N) (il : InLog L) (rk : RulOk r) (hk : k < opn L L.length) {F : (List AZ → Option (List PV)) → List PV → Option (List PV)}
    (f0:∀ xs self,F self [.rows (Ap xs),.int ((AB L (k+1) - AB L k:Nat):Int)]=some [.rows (Ap xs),.int ((AB L (k+1) - AB L k:Nat):Int)])
    (f1:∀ (i:Nat) self,i<AB L (k+1) - AB L k→∀ xs:List Sco,xs.length=opn L L.length→F self [.rows (Ap xs),.int (i:Int)]=self [.rows (Ap (qR r (evR L (AB L k+i)) k (G3 (sdT L) (opn L L.length) k (evR L (AB L k+i)).side) xs)),.int ((i+1:Nat):Int)]) :
    DR F N [.rows (Ap (EJ r L (sdT L) (opn L L.length) (k+1) (AB L k))),.int 0]=some [.rows (Ap (EJ r L (sdT L) (opn L L.length) (k+1) (AB L (k+1)))),.int ((AB L (k+1) - AB L k:Nat):Int)]:=by
  have sg:=seg (by have:=il.len;omega) hk
  have h1:=sg.lt
  have h2:=sg.le
  have h3:=il.len
  have e:AB L k+(AB L (k+1) - AB L k)=AB L (k+1):=by omega
  have:=Bk (F:=F) (len:=AB L (k+1) - AB L k) (fun i=>[.rows (Ap (EJ r L (sdT L) (opn L L.length) (k+1) (AB L k+i))),.int (i:Int)]) [.rows (Ap (EJ r L (sdT L) (opn L L.length) (k+1) (AB L (k+1)))),.int ((AB L (k+1) - AB L k:Nat):Int)]
    (fun self=>by
      show F self [.rows (Ap (EJ r L (sdT L) (opn L L.length) (k+1) (AB L k+(AB L (k+1) - AB L k)))),_]=_
      rw [e]
      exact f0 _ self)
    (fun i self hi=>by
      show F self [.rows (Ap (EJ r L (sdT L) (opn L L.length) (k+1) (AB L k+i))),.int (i:Int)]=_
      rw [f1 i self hi _ (DC _ _ _ _ _ _),z6 rk hk (sg.mid _ (by omega) (by omega)) (by omega)]
      rfl) N (by omega)
  exact this
theorem ABZ (L:Rows) (i:Nat):(⟨pvI (AD L i 0),pvI (AD L i 1),pvI (AD L i 2),pvI (AD L i 3),pvB (AD L i 4),pvI (AD L i 5),pvI (AD L i 6),⟨pvI (AD L i 7),pvI (AD L i 8),pvI (AD L i 9),pvI (AD L i 10),pvI (AD L i 11),pvB (AD L i 12),pvI (AD L i 13),pvI (AD L i 14),pvI (AD L i 15),pvI (AD L i 16),pvB (AD L i 17),pvI (AD L i 18)⟩⟩:Ev)=evR L i:=rfl
set_option maxHeartbeats 4000000 in
theorem Ym {N:Nat} {r1 r2 r3 r4 r5 r6 r7 r9 r10 r11 r12:Int} {r8:Bool} {r0:ByteArray} {r13:Rows} {L:Rows} (hN:2097152<N) (hs:r0.size≤1048576) (h13:r13.length≤1048576) (hL:L.length≤1048576) (il:Bn (⟨r0,r1,r2,r3,r4,r5,r6,r7,r8,r9,r10,r11,r12,r13⟩:Rul) L=0→InLog L∧RulOk (⟨r0,r1,r2,r3,r4,r5,r6,r7,r8,r9,r10,r11,r12,r13⟩:Rul)):DD N [.str r0,.int r1,.int r2,.int r3,.int r4,.int r5,.int r6,.int r7,.bool r8,.int r9,.int r10,.int r11,.int r12,.rows r13,.rows L]=some [.rows (cond (!(Bn (⟨r0,r1,r2,r3,r4,r5,r6,r7,r8,r9,r10,r11,r12,r13⟩:Rul) L==0)) [] (Ap (Qq (⟨r0,r1,r2,r3,r4,r5,r6,r7,r8,r9,r10,r11,r12,r13⟩:Rul) L (sdT L)))),.int (Bn (⟨r0,r1,r2,r3,r4,r5,r6,r7,r8,r9,r10,r11,r12,r13⟩:Rul) L)]:=by
  show Lg (std (B4 N) N) (xOf _)=_
  generalize hres:(some [.rows (cond (!(Bn (⟨r0,r1,r2,r3,r4,r5,r6,r7,r8,r9,r10,r11,r12,r13⟩:Rul) L==0)) [] (Ap (Qq (⟨r0,r1,r2,r3,r4,r5,r6,r7,r8,r9,r10,r11,r12,r13⟩:Rul) L (sdT L)))),.int (Bn (⟨r0,r1,r2,r3,r4,r5,r6,r7,r8,r9,r10,r11,r12,r13⟩:Rul) L)]:Option (List PV))=RR
  simp only [Lg,Si,Sw,Un,Ke,GY,G7,Ux,std,xOf,PXb,gy hN hs h13 hL]
  subst hres
  cases hc:Bn (⟨r0,r1,r2,r3,r4,r5,r6,r7,r8,r9,r10,r11,r12,r13⟩:Rul) L==0 with
  | false=>rfl
  | true =>
    have c0:=beq_iff_eq.1 hc
    obtain ⟨il,rk⟩:=il c0
    have ol:=Se L L.length
    have l4:=il.len
    have s80:iSm ((opn L L.length:Nat):Int) 80=true:=DP (by omega) (by omega)
    rw [c0]
    simp only [PXb,Bool.not_true,pK hN hL,FY,KI,s80,LN hN hL,AA7]
    have st:List.replicate (opn L L.length) dS=EJ (⟨r0,r1,r2,r3,r4,r5,r6,r7,r8,r9,r10,r11,r12,r13⟩:Rul) L (sdT L) (opn L L.length) 0 (AB L 0):=by
      refine zZ ?_ (fun j hj=>il.pen j ?_)
      · by_cases h0:0<opn L L.length
        · exact (seg hL h0).o0
        · unfold AB;rw [if_neg h0];omega
      · have : AB L 0 ≤ L.length := by
          by_cases h0:0<opn L L.length
          · have:=(seg hL h0).lt;have:=(seg hL h0).le;omega
          · unfold AB;rw [if_neg h0];exact Nat.le_refl _
        omega
    rw [st]
    refine AM (Bk (len:=opn L L.length) (fun k=>[.rows (Ap (EJ (⟨r0,r1,r2,r3,r4,r5,r6,r7,r8,r9,r10,r11,r12,r13⟩:Rul) L (sdT L) (opn L L.length) k (AB L k))),.int (k:Int)]) [.rows (Ap (Qq (⟨r0,r1,r2,r3,r4,r5,r6,r7,r8,r9,r10,r11,r12,r13⟩:Rul) L (sdT L)))] ?_ ?_ N (by omega)) ?_
    · intro self
      simp only [PXb,PXc,PXn,AA,PXp,F7,Ac,vx,AAs]
      rfl
    · intro k self hk
      have sg:=seg hL hk
      have sgl:=sg.lt
      have sge:=sg.le
      have rg:iRg (AB L k:Int) (AB L (k+1):Int) (L.length:Int)=true:=by simp only [iRg,decide_eq_true_eq];omega
      have zk:atI (Ez (zs (sdT L) (opn L L.length))) k 0=sdT L k:=fg _ hk
      have sl:=mj (L:=L) (a:=AB L k) sge
      have zk':pvI (AD (Ez (zs (WI (Ja L) (Dx L L.length)) (opn L L.length))) k 0)=sdT L k:=zk
      simp only [PXb,PXc,PXn,AA,PXp,PXs,F7,Cp (show k≤1099511627776 by omega),AX hk,AN hk,DC,FY,KI,sg.x0,sg.x1,rg,zk',PXt,zN hk]
      generalize hX:List.drop (AB L k) (List.take (AB L (k+1)) L)=X at *
      refine AM (yM hN il rk hk ?_ ?_) ?_
      · intro xs self
        simp only [PXb,PXc,PXn,AA,sl,Ac]
      · intro i self hi xs hx
        have hev:evR X i=evR L (AB L k+i):=by rw [← hX];exact db L i hi
        simp only [PXb,PXc,PXn,AA,PXc,sl,Cp (show i≤1099511627776 by omega),AX hi,AN hi,Nat.reduceAdd,Ke,ut,ABZ,hev]
        have hk':k<xs.length:=by rw [hx];exact hk
        generalize hd:G3 (sdT L) (opn L L.length) k (evR L (AB L k+i)).side=d
        have kx:pvI (AD X i 0)=(evR L (AB L k+i)).kind:=congrArg Ev.kind hev
        have sx:pvI (AD X i 1)=(evR L (AB L k+i)).side:=congrArg Ev.side hev
        have LD:JV N [.rows (Ez (zs (WI (Ja L) (Dx L L.length)) (opn L L.length))),.int (k:Int),.int (evR L (AB L k+i)).side]=some [.int (jZ d)]:=by rw [← hd];exact vM hN (by omega) hk
        have bx:(⟨pvI (AD X i 7),pvI (AD X i 8),pvI (AD X i 9),pvI (AD X i 10),pvI (AD X i 11),pvB (AD X i 12),pvI (AD X i 13),pvI (AD X i 14),pvI (AD X i 15),pvI (AD X i 16),pvB (AD X i 17),pvI (AD X i 18)⟩:Del)=(evR L (AB L k+i)).ball:=congrArg Ev.ball hev
        rw [kx]
        unfold qR
        cases ho:Q6 (evR L (AB L k+i))<;>cases h4:(evR L (AB L k+i)).kind==4<;>cases h13:(evR L (AB L k+i)).kind==13
        all_goals simp only [PXb,PXc,PXn,AA,PXc,PXs,PXt,Nat.reduceAdd,GY,HA,bx,sx,LD,G7,Ua,List.length_set,AN hk',hk',VE hk',List.set_set,Cre.ls,ho,h4,h13]
        all_goals first
          | (cases (AF (⟨r0,r1,r2,r3,r4,r5,r6,r7,r8,r9,r10,r11,r12,r13⟩:Rul) (evR L (AB L k+i)).ball).counts<;>rfl)
          | (cases d with
             | none=>rfl
             | some j =>
               have dl:j<xs.length:=by rw [hx];exact kW hk hd
               have dl2:∀ y s,sco ((xs.set k y).set j s) j=s:=fun y s=>VE (by rw [List.length_set];exact dl) s
               simp only [jZ,PXb,kY,AN dl,List.length_set,VE dl,List.set_set,dl2])
      · simp only [PXb,PXc,PXn,AA,PXc,PXb,PXc,PXn,PXm,Nat.reduceAdd,Int.reduceBEq]
    · simp only [PXb,PXc,PXn,PXm,Nat.reduceAdd,Int.reduceBEq]
end Go.Px
end
section
namespace Go.Px
set_option maxRecDepth 100000
theorem oQ {r:Rul} {L:Rows} (h:Bn r L=0):((Cf r).2==0)=true∧A2 r=0∧L.length≤4000∧acc L L.length 0 (Cf r).1∧Ct r L=(stM L L.length 0 (Cf r).1,-1,0):=by
 unfold Bn at h
 cases hc:A2 r==0 with
 | false=>rw [hc] at h;rw [show A2 r=0 from h] at hc;cases hc
 | true =>
  cases hl:iLt 4000 (L.length:Int) with
  | true=>rw [hc,hl] at h;cases h
  | false =>
   cases hr:(Ct r L).2.2==0 with
   | false=>rw [hc,hl,hr] at h;cases h
   | true =>
    have hn:=(zo r).trans hc
    have hrep:Ct r L=C4 L L.length 0 (Cf r).1:=by unfold Ct;rw [hn];rfl
    obtain ⟨k,h1,h2,h3,h4⟩:=tj L L.length 0 (Cf r).1
    have l4:L.length≤4000:=by simp only [iLt,decide_eq_false_iff_not] at hl;omega
    rcases h4 with ⟨h5,h6⟩ | ⟨h5,h6,h7⟩
    ·subst h5
     exact ⟨hn,beq_iff_eq.1 hc,l4,h2,hrep.trans h6⟩
    ·rw [hrep,h7] at hr
     rw [h6] at hr
     cases hr
theorem qS {r:Rul} {L:Rows} (h:Bn r L=0):InLog L∧RulOk r:=by
 obtain ⟨h1,h2,h3,h4,h5⟩:=oQ h
 obtain ⟨_,_,h6⟩:=nj h1 h4 L.length (Nat.le_refl _)
 refine ⟨⟨h3,fun j hj k13=>?_⟩,Dv h2⟩
 have e:=beq_iff_eq.1 k13
 have:=(h6 j hj).2.play (by rw [e];rfl) (by rw [e];rfl) (by rw [e];rfl) (by rw [e];rfl)
 exact Nat.le_trans this (jY L j)
theorem wX {r:Rul} {L:Rows} (h:Bn r L=0) {j:Nat} (hj:j<opn L L.length):j≤3∧(Ja L=1∨Ja L=2)∧sdT L j=sdF L L.length j∧WT (Ja L) (Dx L L.length) j=sdF L L.length j:=by
 obtain ⟨h1,h2,h3,h4,h5⟩:=oQ h
 obtain ⟨_,_,h6⟩:=nj h1 h4 L.length (Nat.le_refl _)
 obtain ⟨a,p1,p2,p3,p4,p5⟩:=dk (L:=L) (by omega) L.length (Nat.le_refl _) j hj
 obtain ⟨q1,v,q2,q3⟩:=(h6 a p2).2.two p4
 rw [p3] at q1
 have f:=gw q2 (show a≤L.length by omega)
 have fs:Ja L=v:=by unfold Ja;rw [f];rfl
 have oo:Ay (Ay (Ja L))=Ja L:=by rw [fs];rcases q3 with e | e<;>rw [e]<;>decide
 have un:=ABM (Ja L) (Dx L L.length) q1
 refine ⟨q1,by rw [fs];exact q3,?_,un⟩
 unfold sdT
 rw [AA3 oo]
 exact un
theorem vl (r:Rul) (L:Rows) (sd:Nat→Int):(Qq r L sd).length=opn L L.length:=by unfold Qq;rw [List.length_map,List.length_range]
theorem ABX {r:Rul} {L:Rows} {sd:Nat→Int} {j:Nat} (h:j<opn L L.length):sco (Qq r L sd) j=BU r L sd (opn L L.length) j L.length:=by
 rw [FK]
 unfold Qq
 rw [List.getElem?_map,List.getElem?_range h]
 rfl
theorem O7 {N:Nat} {L:Rows} (hN:2097152<N) (h:L.length≤1048576):B2 N [.rows L,.rows L]=some [.bool true]:=by
 show E4 (std (MA N) N) (xOf _)=_
 simp only [E4,std,xOf,PXb,PXm]
 refine AM (Bk (len:=L.length) (fun i=>[.int (i:Int)]) [.int 1] ?_ ?_ N (by omega)) ?_
 ·intro self
  simp only [PXb,PXc,PXn,AA,Ac]
 ·intro i self hi
  simp only [PXb,PXc,PXn,PXm,Nat.reduceAdd,Int.reduceBEq,AR (show i≤1099511627776 by omega),AX hi,AN hi]
  rfl
 ·simp only [PXb,PXc,PXn,PXm,Nat.reduceAdd,Int.reduceBEq]
def prA (r:Rul) (L:Rows) (k p:Nat):Cre:=⟨smi L (fun e=>(Ao r e).batter) k p,smi L (fun e=>(Ao r e).wides) k p,smi L (fun e=>(Ao r e).noballs) k p,smi L (fun e=>(Ao r e).byes) k p,smi L (fun e=>(Ao r e).legbyes) k p,smi L (fun e=>(Ao r e).bowler) k p,false,false,false,false⟩
theorem jQ {r:Rul} {L:Rows} {k p:Nat} (h:opn L p≤k):prA r L k p=KF:=by
 unfold prA
 have z:∀ f:Ev→Int,smi L f k p=0:=fun f=>VQ p h
 simp only [z]
 rfl
theorem AAh {r:Rul} (h:RulOk r) (e:Ev):0≤(Ao r e).bowler∧(Ao r e).bowler≤36:=by
 have c:=Ch h e
 have h0:=c.ba
 have h1:=c.wi
 have h2:=c.no
 have h3:=c.bo
 omega
def rx (a c:Cre):Cre:=⟨IntKind.i64.wrap (a.batter+c.batter),IntKind.i64.wrap (a.wides+c.wides),IntKind.i64.wrap (a.noballs+c.noballs),IntKind.i64.wrap (a.byes+c.byes),IntKind.i64.wrap (a.legbyes+c.legbyes),IntKind.i64.wrap (a.bowler+c.bowler),false,false,false,false⟩
theorem rV {r:Rul} {L:Rows} {k p:Nat} (rk:RulOk r) (ho:opn L (p+1)=k+1) (hp:p<4000):prA r L k (p+1)=rx (prA r L k p) (Ao r (evR L p)):=by
 have hy:Nat.beq (opn L (p+1)) (k+1)=true:=by rw [ho];exact UV _
 have c:=Ch rk (evR L p)
 have h0:=c.ba
 have h1:=c.wi
 have h2:=c.no
 have h3:=c.bb
 have h4:=c.lb
 have h5:=AAh rk (evR L p)
 have b0:=Di (L:=L) (f:=fun e=>(Ao r e).batter) (fun e=>(Ch rk e).ba) k p
 have b1:=Di (L:=L) (f:=fun e=>(Ao r e).wides) (fun e=>(Ch rk e).wi) k p
 have b2:=Di (L:=L) (f:=fun e=>(Ao r e).noballs) (fun e=>(Ch rk e).no) k p
 have b3:=Di (L:=L) (f:=fun e=>(Ao r e).byes) (fun e=>(Ch rk e).bb) k p
 have b4:=Di (L:=L) (f:=fun e=>(Ao r e).legbyes) (fun e=>(Ch rk e).lb) k p
 have b5:=Di (L:=L) (f:=fun e=>(Ao r e).bowler) (AAh rk) k p
 unfold prA rx
 simp only [Kj,hy,cond_true]
 rw [A9 (n:=smi L (fun e=>(Ao r e).batter) k p+_) (by omega) (by omega),A9 (n:=smi L (fun e=>(Ao r e).wides) k p+_) (by omega) (by omega),A9 (n:=smi L (fun e=>(Ao r e).noballs) k p+_) (by omega) (by omega),A9 (n:=smi L (fun e=>(Ao r e).byes) k p+_) (by omega) (by omega),A9 (n:=smi L (fun e=>(Ao r e).legbyes) k p+_) (by omega) (by omega),A9 (n:=smi L (fun e=>(Ao r e).bowler) k p+_) (by omega) (by omega)]
theorem sq {r:Rul} {L:Rows} {k p:Nat} (h4:((evR L p).kind==4)=false):prA r L k (p+1)=prA r L k p:=by
 have c0:Ao r (evR L p)=KF:=by unfold Ao;rw [h4];rfl
 unfold prA
 simp only [Kj,c0,KF]
 cases Nat.beq (opn L (p+1)) (k+1)<;>simp only [cond_true,cond_false,Int.add_zero]
def q0 (r:Rul) (L:Rows) (k:Int):Cre×Int:=cond (!(Bn r L==0)) (KF,Bn r L) (cond (iLt k 0||iLe (opn L L.length:Int) k) (KF,2) (prA r L k.toNat L.length,0))
def qP (x:Cre×Int):List PV:=[.int x.1.batter,.int x.1.wides,.int x.1.noballs,.int x.1.byes,.int x.1.legbyes,.int x.1.bowler,.bool x.1.counts,.bool x.1.faced,.bool x.1.wicket,.bool x.1.swap,.int x.2]
theorem oq {L:Rows} {f:Ev→Int} {k p:Nat} (h:opn L p=k+1) (hp:p≤L.length) (hn:p=L.length∨((evR L p).kind==2)=true):∀ c,p+c≤L.length→smi L f k (p+c)=smi L f k p
 | 0,_=>rfl
 | c+1,hc=>by
  rw [show p+(c+1)=p+c+1 by omega,Kj,oq h hp hn c (by omega)]
  rcases hn with hn | hn
  ·omega
  ·have:=Ir L (show p+1≤p+c+1 by omega)
   rw [VD hn] at this
   rw [eu (by omega),cond_false,Int.add_zero]
theorem yW {L:Rows} (hL:L.length≤1048576) {k:Nat} (hk:k<opn L L.length):AB L (k+1)=L.length∨((evR L (AB L (k+1))).kind==2)=true:=by
 by_cases h:k+1<opn L L.length
 ·obtain ⟨a,p1,p2,p3,p4,p5⟩:=dk hL L.length (Nat.le_refl _) (k+1) h
  have:AB L (k+1)=a:=by unfold AB;rw [if_pos h,p1];rfl
  rw [this]
  exact Or.inr p4
 ·exact Or.inl (by unfold AB;rw [if_neg h])
theorem vk {L:Rows} (hL:L.length≤1048576) {f:Ev→Int} {k:Nat} (hk:k<opn L L.length):smi L f k L.length=smi L f k (AB L (k+1)):=by
 have sg:=seg hL hk
 have:=oq (f:=f) sg.o1 sg.le (yW hL hk) (L.length - AB L (k+1)) (by have:=sg.le;omega)
 rw [show AB L (k+1)+(L.length - AB L (k+1))=L.length by have:=sg.le;omega] at this
 exact this
theorem vn {r:Rul} {L:Rows} (hL:L.length≤1048576) {k:Nat} (hk:k<opn L L.length):prA r L k L.length=prA r L k (AB L (k+1)):=by
 unfold prA
 simp only [vk hL hk]
theorem yo {N : Nat} {r : Rul} {L : Rows} {k : Nat} (hN : 2097152 < N) (il : InLog L) (rk : RulOk r) (hk : k < opn L L.length) {F : (List AZ → Option (List PV)) → List PV → Option (List PV)}
    (f0:∀ (c:Cre) self,F self [.int ((AB L (k+1) - AB L k:Nat):Int),.int c.batter,.int c.wides,.int c.noballs,.int c.byes,.int c.legbyes,.int c.bowler,.bool false,.bool false,.bool false,.bool false]=some [.int c.batter,.int c.wides,.int c.noballs,.int c.byes,.int c.legbyes,.int c.bowler,.bool false,.bool false,.bool false,.bool false])
    (f1:∀ (i:Nat) self,i<AB L (k+1) - AB L k→∀ c:Cre,F self [.int (i:Int),.int c.batter,.int c.wides,.int c.noballs,.int c.byes,.int c.legbyes,.int c.bowler,.bool false,.bool false,.bool false,.bool false]=(let d:=cond ((evR L (AB L k+i)).kind==4) (rx c (Ao r (evR L (AB L k+i)))) c;self [.int ((i+1:Nat):Int),.int d.batter,.int d.wides,.int d.noballs,.int d.byes,.int d.legbyes,.int d.bowler,.bool false,.bool false,.bool false,.bool false])) :
    DR F N [.int 0,.int 0,.int 0,.int 0,.int 0,.int 0,.int 0,.bool false,.bool false,.bool false,.bool false]=some (prA r L k (AB L (k+1))).ls:=by
  have sg:=seg (by have:=il.len;omega) hk
  have h1:=sg.lt
  have h2:=sg.le
  have h3:=il.len
  have e:AB L k+(AB L (k+1) - AB L k)=AB L (k+1):=by omega
  have z0:prA r L k (AB L k)=KF:=jQ (by rw [sg.o0];exact Nat.le_refl _)
  have:=Bk (F:=F) (len:=AB L (k+1) - AB L k) (fun i=>[.int (i:Int),.int (prA r L k (AB L k+i)).batter,.int (prA r L k (AB L k+i)).wides,.int (prA r L k (AB L k+i)).noballs,.int (prA r L k (AB L k+i)).byes,.int (prA r L k (AB L k+i)).legbyes,.int (prA r L k (AB L k+i)).bowler,.bool false,.bool false,.bool false,.bool false]) (prA r L k (AB L (k+1))).ls
    (fun self=>by
      have:=f0 (prA r L k (AB L k+(AB L (k+1) - AB L k))) self
      rw [e] at this
      show F self [.int ((AB L (k+1) - AB L k:Nat):Int),.int (prA r L k (AB L k+(AB L (k+1) - AB L k))).batter,.int (prA r L k (AB L k+(AB L (k+1) - AB L k))).wides,.int (prA r L k (AB L k+(AB L (k+1) - AB L k))).noballs,.int (prA r L k (AB L k+(AB L (k+1) - AB L k))).byes,.int (prA r L k (AB L k+(AB L (k+1) - AB L k))).legbyes,.int (prA r L k (AB L k+(AB L (k+1) - AB L k))).bowler,.bool false,.bool false,.bool false,.bool false]=_
      rw [e,this]
      rfl)
    (fun i self hi=>by
      have f2:=f1 i self hi (prA r L k (AB L k+i))
      have st:prA r L k (AB L k+i+1)=cond ((evR L (AB L k+i)).kind==4) (rx (prA r L k (AB L k+i)) (Ao r (evR L (AB L k+i)))) (prA r L k (AB L k+i)):=by
        cases h4:(evR L (AB L k+i)).kind==4 with
        | true=>exact rV rk (sg.mid _ (by omega) (by omega)) (by omega)
        | false=>exact sq h4
      rw [← st] at f2
      exact f2) N (by omega)
  rw [Nat.add_zero,z0] at this
  exact this
set_option maxHeartbeats 4000000 in
theorem mU {N:Nat} {r1 r2 r3 r4 r5 r6 r7 r9 r10 r11 r12:Int} {r8:Bool} {r0:ByteArray} {r13:Rows} {L:Rows} {k:Int} (hN:2097152<N) (hs:r0.size≤1048576) (h13:r13.length≤1048576) (hL:L.length≤1048576):EX N [.str r0,.int r1,.int r2,.int r3,.int r4,.int r5,.int r6,.int r7,.bool r8,.int r9,.int r10,.int r11,.int r12,.rows r13,.rows L,.int k]=some (qP (q0 (⟨r0,r1,r2,r3,r4,r5,r6,r7,r8,r9,r10,r11,r12,r13⟩:Rul) L k)):=by
 show Jr (std (Ef N) N) (xOf _)=_
 generalize hres:(some (qP (q0 (⟨r0,r1,r2,r3,r4,r5,r6,r7,r8,r9,r10,r11,r12,r13⟩:Rul) L k)):Option (List PV))=RR
 simp only [Jr,Qn,UB,Fw,std,xOf,PXb,gy hN hs h13 hL,LN hN hL,PXp,F7]
 subst hres;simp only [q0]
 cases hc:Bn (⟨r0,r1,r2,r3,r4,r5,r6,r7,r8,r9,r10,r11,r12,r13⟩:Rul) L==0 with
 | false=>rfl
 | true =>
  obtain ⟨il,rk⟩:=qS (beq_iff_eq.1 hc)
  simp only [PXb,Bool.not_true]
  cases hb:iLt k 0||iLe (opn L L.length:Int) k with
  | true=>rfl
  | false =>
   simp only [Bool.or_eq_false_iff,iLt,iLe,decide_eq_false_iff_not] at hb
   obtain ⟨K,rfl⟩:∃ K:Nat,k=(K:Int):=⟨k.toNat,by omega⟩
   have hk:K<opn L L.length:=by omega
   have sg:=seg hL hk
   have sgl:=sg.lt
   have sge:=sg.le
   have l4:=il.len
   have rg:iRg (AB L K:Int) (AB L (K+1):Int) (L.length:Int)=true:=by simp only [iRg,decide_eq_true_eq];omega
   have sl:=mj (L:=L) (a:=AB L K) sge
   simp only [PXb,AN hk,sg.x0,sg.x1,rg,vn hL hk,Int.toNat_natCast]
   generalize hX:List.drop (AB L K) (List.take (AB L (K+1)) L)=X at *
   have z0:prA (⟨r0,r1,r2,r3,r4,r5,r6,r7,r8,r9,r10,r11,r12,r13⟩:Rul) L K (AB L K)=KF:=jQ (by rw [sg.o0];exact Nat.le_refl _)
   have e1:AB L K+(AB L (K+1) - AB L K)=AB L (K+1):=by omega
   refine AM (yo hN il rk hk ?_ ?_) rfl
   ·intro c self
    simp only [PXb,PXc,PXn,AA,sl,Ac]
   ·intro i self hi c
    have hev:evR X i=evR L (AB L K+i):=by rw [← hX];exact db L i hi
    have kx:pvI (AD X i 0)=(evR L (AB L K+i)).kind:=congrArg Ev.kind hev
    have bx:(⟨pvI (AD X i 7),pvI (AD X i 8),pvI (AD X i 9),pvI (AD X i 10),pvI (AD X i 11),pvB (AD X i 12),pvI (AD X i 13),pvI (AD X i 14),pvI (AD X i 15),pvI (AD X i 16),pvB (AD X i 17),pvI (AD X i 18)⟩:Del)=(evR L (AB L K+i)).ball:=congrArg Ev.ball hev
    simp only [PXb,PXc,PXn,AA,PXc,sl,Cp (show i≤1099511627776 by omega),AX hi,AN hi,Nat.reduceAdd,kx,Fw,HA,bx,Cre.ls]
    unfold Ao
    cases h4:(evR L (AB L K+i)).kind==4<;>rfl
end Go.Px
end
section
namespace Go.Px
set_option maxRecDepth 100000
theorem xj {N:Nat} {L:Rows}  : SK N [.rows L]=some [.rows (cut L 60)]:=by
 show Sl (std (MY N) N) (xOf _)=_
 simp only [Sl,std,xOf,PXb,PXc,PXn,PXm,Nat.reduceAdd,Int.reduceBEq,ACN (show (0:Int)≤60 by omega)]
 rfl
theorem cP {N:Nat} {L:Rows} (hN:2097152<N) (h:L.length≤1048576):Dk N [.rows L,.rows L]=some [.bool true]:=by
 show Fq (std (Nx N) N) (xOf _)=_
 simp only [Fq,std,xOf,PXb,PXm]
 refine AM (Bk (len:=L.length) (fun i=>[.int (i:Int)]) [.int 1] ?_ ?_ N (by omega)) ?_
 ·intro self
  simp only [PXb,PXc,PXn,AA,Ac]
 ·intro i self hi
  simp only [PXb,PXc,PXn,PXm,Nat.reduceAdd,Int.reduceBEq,AR (show i≤1099511627776 by omega),AX hi,AN hi]
  rfl
 ·simp only [PXb,PXc,PXn,PXm,Nat.reduceAdd,Int.reduceBEq]
def Pp (k s p o:Int) (y:Bool) (t f n b h v:Int):List PV:=[.int k,.int s,.int p,.int o,.bool y,.int 0,.int 0,.int t,.int f,.int n,.int 0,.int b,.bool false,.int h,.int v,.int 0,.int 0,.bool false,.int 0]
def HD:Rows:=[Pp 1 1 0 0 true 0 0 0 0 0 0,Pp 2 0 1 2 false 0 0 0 0 0 0,Pp 8 0 2 0 false 0 0 0 0 0 0,Pp 3 0 1 0 false 0 0 0 0 0 0,Pp 4 0 0 0 false 1 1 1 0 0 0,Pp 4 0 0 0 false 1 0 0 0 1 1,Pp 2 0 2 1 false 0 0 0 0 0 0,Pp 8 0 1 0 false 0 0 0 0 0 0,Pp 3 0 2 0 false 0 0 0 0 0 0,Pp 4 0 0 0 false 2 0 0 0 0 0,Pp 4 0 0 0 false 1 1 0 4 0 0]
def QA:Rul:=⟨⟨#[84,69,83,84]⟩,2,1,1,4,0,1,1,false,0,0,0,11,[]⟩
theorem AAZ:Sn 4194304 []=some [.rows HD]:=by kernel_rfl
theorem ABA:Md 4194304 []=some QA.ls:=by kernel_rfl
theorem AA9:Bn QA HD=0:=by kernel_rfl
theorem ACD:Qq QA HD (sdT HD)=[⟨1,1,1,2,0,0,0,0,0,0⟩,⟨2,5,0,1,1,0,0,0,0,0⟩]:=by kernel_rfl
theorem ACL:q0 QA HD 1=(⟨4,1,0,0,0,5,false,false,false,false⟩,0):=by kernel_rfl
theorem AB7:FT (Bu HD HD.length)=[[.int 1,.int 6],[.int 6,.int 11]]:=by kernel_rfl
theorem ZP {x:Option (List PV)} {v:List PV} {f:List PV→Option (List PV)} {r:Option (List PV)} (h:x=some v) (hk:f v=r):x.bind f=r:=by rw [h];exact hk
set_option maxHeartbeats 2000000 in
theorem tq:MR 4194304 []=some [.bool true]:=by
 have hs:QA.name.size≤1048576:=by decide
 have hl:HD.length≤1048576:=by decide
 have hN:2097152<4194304:=by omega
 have k1:DD 4194304 (QA.ls++[.rows HD])=some [.rows (cond (!(Bn QA HD==0)) [] (Ap (Qq QA HD (sdT HD)))),.int (Bn QA HD)]:=Ym hN hs (Nat.zero_le _) hl qS
 have k2:EX 4194304 (QA.ls++[.rows HD,.int 1])=some (qP (q0 QA HD 1)):=mU hN hs (Nat.zero_le _) hl
 have k3:=LN (L:=HD) hN hl
 rw [AA9,ACD] at k1
 rw [ACL] at k2
 rw [AB7] at k3
 show Rl (std (C3 4194304) 4194304) (xOf [])=_
 simp only [Rl,QP,VJ,Us,PS,Tj,ZO,cO,std,xOf,PXb,AAZ,ABA]
 refine ZP k1 ?_
 simp only [PXb,PXc,PXn,PXm,Nat.reduceAdd,Int.reduceBEq]
 refine ZP k2 ?_
 simp only [qP,PXb,PXc,PXn,PXm,Nat.reduceAdd,Int.reduceBEq,Int.reduceBEq]
 refine ZP (O7 (L:=Ap [⟨1,1,1,2,0,0,0,0,0,0⟩,⟨2,5,0,1,1,0,0,0,0,0⟩]) hN (by decide)) ?_
 simp only [PXb,PXc,PXn,PXm,Nat.reduceAdd,Int.reduceBEq,AAZ,k3]
 refine ZP (cP (L:=[[.int 1,.int 6],[.int 6,.int 11]]) hN (by decide)) ?_
 rfl
theorem ACA (L:Rows):(cut L 60).length≤1048576:=Nat.le_trans (ABz L 60) (show 60≤1048576 by omega)
theorem AB8 {r:Rul} (rk:RulOk r) (L:Rows) (k:Nat) {p:Nat} (hp:p≤4000):(0≤(prA r L k p).batter∧(prA r L k p).batter≤100000)∧(0≤(prA r L k p).wides∧(prA r L k p).wides≤100000)∧(0≤(prA r L k p).noballs∧(prA r L k p).noballs≤100000)∧(0≤(prA r L k p).byes∧(prA r L k p).byes≤100000)∧(0≤(prA r L k p).legbyes∧(prA r L k p).legbyes≤100000):=by
 have b0:=Di (L:=L) (f:=fun e=>(Ao r e).batter) (fun e=>(Ch rk e).ba) k p
 have b1:=Di (L:=L) (f:=fun e=>(Ao r e).wides) (fun e=>(Ch rk e).wi) k p
 have b2:=Di (L:=L) (f:=fun e=>(Ao r e).noballs) (fun e=>(Ch rk e).no) k p
 have b3:=Di (L:=L) (f:=fun e=>(Ao r e).byes) (fun e=>(Ch rk e).bb) k p
 have b4:=Di (L:=L) (f:=fun e=>(Ao r e).legbyes) (fun e=>(Ch rk e).lb) k p
 unfold prA
 simp only
 omega
theorem ve {r:Rul} (rk:RulOk r) (L:Rows) (k:Nat):∀ p,smi L (Qz r) k p=(prA r L k p).batter+(prA r L k p).wides+(prA r L k p).noballs+(prA r L k p).byes+(prA r L k p).legbyes∧(prA r L k p).bowler=(prA r L k p).batter+(prA r L k p).wides+(prA r L k p).noballs
 | 0=>⟨rfl,rfl⟩
 | p+1=>by
  obtain ⟨h1,h2⟩:=ve rk L k p
  have c:=Ch rk (evR L p)
  have c1:=c.tot
  have c2:=c.bo
  unfold prA at h1 h2 ⊢
  simp only [Kj] at h1 h2 ⊢
  unfold Qz
  unfold Qz at h1
  cases Nat.beq (opn L (p+1)) (k+1)<;>simp only [cond_true,cond_false]<;>omega
end Go.Px
end
section
namespace Go.Px
set_option maxRecDepth 100000
theorem ji {N : Nat} {L : Rows} {k : Nat} (hN : 2097152 < N) (hL : L.length ≤ 4000) (hk : k < opn L L.length) {F : (List AZ → Option (List PV)) → List PV → Option (List PV)} (enc : Nat → Nat → List AZ) (fin : List PV) {st : List PV} (hst : (enc 0 (AB L k)).map Leaf.pv = st)
    (f0:∀ self,F self ((enc (AB L (k+1) - AB L k) (AB L (k+1))).map Leaf.pv)=some fin)
    (f1:∀ (i:Nat) self,i<AB L (k+1) - AB L k→AB L k+i<4000→opn L (AB L k+i+1)=k+1→F self ((enc i (AB L k+i)).map Leaf.pv)=self (enc (i+1) (AB L k+i+1))) :
    DR F N st=some fin:=by
  subst hst
  have sg:=seg (by omega) hk
  have h1:=sg.lt
  have h2:=sg.le
  have:=Bk (F:=F) (len:=AB L (k+1) - AB L k) (fun i=>enc i (AB L k+i)) fin
    (fun self=>by
      have e:AB L k+(AB L (k+1) - AB L k)=AB L (k+1):=by omega
      show F self ((enc (AB L (k+1) - AB L k) (AB L k+(AB L (k+1) - AB L k))).map Leaf.pv)=_
      rw [e]
      exact f0 self)
    (fun i self hi=>f1 i self hi (by omega) (sg.mid _ (by omega) (by omega))) N (by omega)
  exact this
theorem yP {N:Nat} {a0:Int} {a1:Int} {a2:Int} {a3:Int} {a4:Int} {a5:Int} {b0:Bool} {b1:Bool} {b2:Bool} {b3:Bool} {c0:Int} {c1:Int} {c2:Int} {c3:Int} {c4:Int} {c5:Int} {d0:Bool} {d1:Bool} {d2:Bool} {d3:Bool}  : Sc N [.int a0,.int a1,.int a2,.int a3,.int a4,.int a5,.bool b0,.bool b1,.bool b2,.bool b3,.int c0,.int c1,.int c2,.int c3,.int c4,.int c5,.bool d0,.bool d1,.bool d2,.bool d3]=some (rx ⟨a0,a1,a2,a3,a4,a5,b0,b1,b2,b3⟩ ⟨c0,c1,c2,c3,c4,c5,d0,d1,d2,d3⟩).ls:=by
 show WP (std (gq N) N) (xOf _)=_
 simp only [WP,std,xOf,PXb,PXc,PXn,PXm,Nat.reduceAdd,Int.reduceBEq]
 rfl
def U1 (L:Rows) (k:Nat):Rows:=List.drop (AB L k) (List.take (AB L (k+1)) L)
theorem jh {L:Rows} (hL:L.length≤1048576) {k:Nat} (hk:k<opn L L.length):(U1 L k).length=AB L (k+1) - AB L k:=mj (seg hL hk).le
theorem ACF {r:Rul} (L:Rows) (k p:Nat):0≤smi L (K1 r) k p∧smi L (K1 r) k p≤1 * (p:Int):=Di (fun e=>by unfold K1;cases (Ao r e).counts<;>simp) k p
set_option maxHeartbeats 4000000 in
theorem qA {N:Nat} {r1 r2 r3 r4 r5 r6 r7 r9 r10 r11 r12:Int} {r8:Bool} {r0:ByteArray} {r13:Rows} {L:Rows} {k:Nat} (hN:2097152<N) (hL:L.length≤4000) (rk:RulOk (⟨r0,r1,r2,r3,r4,r5,r6,r7,r8,r9,r10,r11,r12,r13⟩:Rul)) (hk:k<opn L L.length):JG N [.str r0,.int r1,.int r2,.int r3,.int r4,.int r5,.int r6,.int r7,.bool r8,.int r9,.int r10,.int r11,.int r12,.rows r13,.rows (U1 L k)]=some ((prA (⟨r0,r1,r2,r3,r4,r5,r6,r7,r8,r9,r10,r11,r12,r13⟩:Rul) L k (AB L (k+1))).ls++[.int (smi L (K1 (⟨r0,r1,r2,r3,r4,r5,r6,r7,r8,r9,r10,r11,r12,r13⟩:Rul)) k (AB L (k+1)))]):=by
 show Mx (std (Js N) N) (xOf _)=_
 simp only [Mx,LA,Nv,std,xOf,PXb]
 have sl:=jh (L:=L) (by omega) hk
 have sg:=seg (L:=L) (by omega) hk
 have z0:prA (⟨r0,r1,r2,r3,r4,r5,r6,r7,r8,r9,r10,r11,r12,r13⟩:Rul) L k (AB L k)=KF:=jQ (by rw [sg.o0];exact Nat.le_refl _)
 have z1:smi L (K1 (⟨r0,r1,r2,r3,r4,r5,r6,r7,r8,r9,r10,r11,r12,r13⟩:Rul)) k (AB L k)=0:=VQ _ (by rw [sg.o0];exact Nat.le_refl _)
 have hev:=fun (i:Nat) (hi:i<AB L (k+1) - AB L k)=>db L (a:=AB L k) (b:=AB L (k+1)) i hi
 change ∀ (i:Nat),i<AB L (k+1) - AB L k→evR (U1 L k) i=evR L (AB L k+i) at hev
 generalize U1 L k=X at *
 refine AM (ji hN hL hk (fun i p=>[.int (smi L (K1 (⟨r0,r1,r2,r3,r4,r5,r6,r7,r8,r9,r10,r11,r12,r13⟩:Rul)) k p),.int (i:Int),.int (prA (⟨r0,r1,r2,r3,r4,r5,r6,r7,r8,r9,r10,r11,r12,r13⟩:Rul) L k p).batter,.int (prA (⟨r0,r1,r2,r3,r4,r5,r6,r7,r8,r9,r10,r11,r12,r13⟩:Rul) L k p).wides,.int (prA (⟨r0,r1,r2,r3,r4,r5,r6,r7,r8,r9,r10,r11,r12,r13⟩:Rul) L k p).noballs,.int (prA (⟨r0,r1,r2,r3,r4,r5,r6,r7,r8,r9,r10,r11,r12,r13⟩:Rul) L k p).byes,.int (prA (⟨r0,r1,r2,r3,r4,r5,r6,r7,r8,r9,r10,r11,r12,r13⟩:Rul) L k p).legbyes,.int (prA (⟨r0,r1,r2,r3,r4,r5,r6,r7,r8,r9,r10,r11,r12,r13⟩:Rul) L k p).bowler,.bool false,.bool false,.bool false,.bool false]) (.int (smi L (K1 (⟨r0,r1,r2,r3,r4,r5,r6,r7,r8,r9,r10,r11,r12,r13⟩:Rul)) k (AB L (k+1)))::(prA (⟨r0,r1,r2,r3,r4,r5,r6,r7,r8,r9,r10,r11,r12,r13⟩:Rul) L k (AB L (k+1))).ls) (by rw [z0,z1];rfl) ?_ ?_) rfl
 ·intro self
  simp only [PXb,PXc,PXn,AA,sl,Ac]
  rfl
 ·intro i self hi hp ho
  have ev:=hev i hi
  have kx:pvI (AD X i 0)=(evR L (AB L k+i)).kind:=congrArg Ev.kind ev
  have bx:(⟨pvI (AD X i 7),pvI (AD X i 8),pvI (AD X i 9),pvI (AD X i 10),pvI (AD X i 11),pvB (AD X i 12),pvI (AD X i 13),pvI (AD X i 14),pvI (AD X i 15),pvI (AD X i 16),pvB (AD X i 17),pvI (AD X i 18)⟩:Del)=(evR L (AB L k+i)).ball:=congrArg Ev.ball ev
  have hy:Nat.beq (opn L (AB L k+i+1)) (k+1)=true:=by rw [ho];exact UV _
  have cb:=ACF (r:=(⟨r0,r1,r2,r3,r4,r5,r6,r7,r8,r9,r10,r11,r12,r13⟩:Rul)) L k (AB L k+i)
  have w1:IntKind.i64.wrap (smi L (K1 (⟨r0,r1,r2,r3,r4,r5,r6,r7,r8,r9,r10,r11,r12,r13⟩:Rul)) k (AB L k+i)+1)=smi L (K1 (⟨r0,r1,r2,r3,r4,r5,r6,r7,r8,r9,r10,r11,r12,r13⟩:Rul)) k (AB L k+i)+1:=A9 (by omega) (by omega)
  simp only [PXb,PXc,PXn,AA,PXc,sl,Cp (show i≤1099511627776 by omega),AX hi,AN hi,Nat.reduceAdd,kx,LA,dz,bx,Cre.ls,Nv,yP,Kj,hy,w1]
  cases h4:(evR L (AB L k+i)).kind==4 with
  | false =>
   have c0:Ao (⟨r0,r1,r2,r3,r4,r5,r6,r7,r8,r9,r10,r11,r12,r13⟩:Rul) (evR L (AB L k+i))=KF:=by unfold Ao;rw [h4];rfl
   have n0:K1 (⟨r0,r1,r2,r3,r4,r5,r6,r7,r8,r9,r10,r11,r12,r13⟩:Rul) (evR L (AB L k+i))=0:=by unfold K1;rw [c0];rfl
   rw [sq h4,n0,Int.add_zero]
   rfl
  | true =>
   have c0:Ao (⟨r0,r1,r2,r3,r4,r5,r6,r7,r8,r9,r10,r11,r12,r13⟩:Rul) (evR L (AB L k+i))=AF (⟨r0,r1,r2,r3,r4,r5,r6,r7,r8,r9,r10,r11,r12,r13⟩:Rul) (evR L (AB L k+i)).ball:=by unfold Ao;rw [h4];rfl
   have n1:K1 (⟨r0,r1,r2,r3,r4,r5,r6,r7,r8,r9,r10,r11,r12,r13⟩:Rul) (evR L (AB L k+i))=cond (AF (⟨r0,r1,r2,r3,r4,r5,r6,r7,r8,r9,r10,r11,r12,r13⟩:Rul) (evR L (AB L k+i)).ball).counts 1 0:=by unfold K1;rw [c0]
   rw [rV rk ho hp,c0,n1]
   cases (AF (⟨r0,r1,r2,r3,r4,r5,r6,r7,r8,r9,r10,r11,r12,r13⟩:Rul) (evR L (AB L k+i)).ball).counts with
   | true=>rfl
   | false=>simp only [cond_true,cond_false,Int.add_zero];rfl
theorem ACG (L:Rows) (k p:Nat):0≤smi L F1 k p∧smi L F1 k p≤1 * (p:Int):=Di ym k p
theorem zL (e:Ev):(((e.kind==4 && !(e.ball.how==0))||(e.kind==5&&e.yes))||(e.kind==6 && !e.yes))=Q6 e:=by
 unfold Q6
 cases h4:e.kind==4
 ·cases h5:e.kind==5
  ·cases h6:e.kind==6<;>cases e.yes<;>rfl
  ·rw [beq_iff_eq.1 h5];cases e.yes<;>rfl
 ·rw [beq_iff_eq.1 h4]
  cases e.ball.how==0<;>cases e.yes<;>rfl
set_option maxHeartbeats 4000000 in
theorem qJ {N:Nat} {L:Rows} {k:Nat} (hN:2097152<N) (hL:L.length≤4000) (hk:k<opn L L.length):Iy N [.rows (U1 L k)]=some [.int (smi L F1 k (AB L (k+1)))]:=by
 show NO (std (WV N) N) (xOf _)=_
 simp only [NO,std,xOf,PXb]
 have sl:=jh (L:=L) (by omega) hk
 have sg:=seg (L:=L) (by omega) hk
 have z1:smi L F1 k (AB L k)=0:=VQ _ (by rw [sg.o0];exact Nat.le_refl _)
 have hev:=fun (i:Nat) (hi:i<AB L (k+1) - AB L k)=>db L (a:=AB L k) (b:=AB L (k+1)) i hi
 change ∀ (i:Nat),i<AB L (k+1) - AB L k→evR (U1 L k) i=evR L (AB L k+i) at hev
 generalize U1 L k=X at *
 refine AM (ji hN hL hk (fun i p=>[.int (smi L F1 k p),.int (i:Int)]) [.int (smi L F1 k (AB L (k+1)))] (by rw [z1];rfl) ?_ ?_) rfl
 ·intro self
  simp only [PXb,PXc,PXn,AA,sl,Ac]
 ·intro i self hi hp ho
  have ev:=hev i hi
  have kx:pvI (AD X i 0)=(evR L (AB L k+i)).kind:=congrArg Ev.kind ev
  have yx:pvB (AD X i 4)=(evR L (AB L k+i)).yes:=congrArg Ev.yes ev
  have hx:pvI (AD X i 13)=(evR L (AB L k+i)).ball.how:=congrArg (fun e:Ev=>e.ball.how) ev
  have hy:Nat.beq (opn L (AB L k+i+1)) (k+1)=true:=by rw [ho];exact UV _
  have cb:=ACG L k (AB L k+i)
  have w1:IntKind.i64.wrap (smi L F1 k (AB L k+i)+1)=smi L F1 k (AB L k+i)+1:=A9 (by omega) (by omega)
  simp only [PXb,PXc,PXn,AA,sl,Cp (show i≤1099511627776 by omega),AX hi,AN hi,Nat.reduceAdd,kx,yx,hx,Kj,hy,w1,zL,tn]
  cases Q6 (evR L (AB L k+i)) with
  | true=>rfl
  | false=>simp only [cond_false,Int.add_zero]
end Go.Px
end
section
namespace Go.Px
set_option maxRecDepth 100000
def Xc (r:Rul) (L:Rows) (sd:Nat→Int) (j:Nat):Sco:=⟨sd j,smi L (Qz r) j L.length,smi L F1 j L.length,smi L (K1 r) j L.length,smi L (fun e=>(Ao r e).wides) j L.length,smi L (fun e=>(Ao r e).noballs) j L.length,smi L (fun e=>(Ao r e).byes) j L.length,smi L (fun e=>(Ao r e).legbyes) j L.length,0,0⟩
def Zu (r:Rul) (L:Rows) (sd:Nat→Int) (k:Nat):List Sco:=(List.range k).map (Xc r L sd)
def Q2 (r:Rul) (L:Rows) (sd:Nat→Int) (n p:Nat):List Sco:=(List.range n).map fun j=>H0 (pnS L sd n j p) (Xc r L sd j)
theorem nL (r:Rul) (L:Rows) (sd:Nat→Int) (k:Nat):(Zu r L sd k).length=k:=by unfold Zu;rw [List.length_map,List.length_range]
theorem AAG (r:Rul) (L:Rows) (sd:Nat→Int) (k:Nat):Zu r L sd k++[Xc r L sd k]=Zu r L sd (k+1):=by
 unfold Zu
 rw [List.range_succ,List.map_append]
 rfl
theorem EW (r:Rul) (L:Rows) (sd:Nat→Int) (n p:Nat):(Q2 r L sd n p).length=n:=by unfold Q2;rw [List.length_map,List.length_range]
theorem Ox (r:Rul) (L:Rows) (sd:Nat→Int) {n p j:Nat} (h:j<n):sco (Q2 r L sd n p) j=H0 (pnS L sd n j p) (Xc r L sd j):=by
 rw [FK]
 unfold Q2
 rw [List.getElem?_map,List.getElem?_range h]
 rfl
theorem ABB (r:Rul) (L:Rows) (sd:Nat→Int):Q2 r L sd (opn L L.length) L.length=Qq r L sd:=by
 refine JO (by rw [EW,vl]) (fun j hj=>?_)
 rw [EW] at hj
 rw [Ox _ _ _ hj,ABX hj]
 unfold H0 Xc BU
 simp only [Int.zero_add]
theorem vr {L:Rows} {sd:Nat→Int} {n i:Nat} (ho:opn L i=0) (h13:∀ j,j<i→((evR L j).kind==13)=true→1≤opn L (j+1)) (j:Nat):∀ m,m≤i→pnS L sd n j m=0
 | 0,_=>rfl
 | m+1,hm=>by
  rw [YP,vr ho h13 j m (by omega)]
  cases k13:(evR L m).kind==13 with
  | false=>rfl
  | true =>
   have h1:=h13 m (by omega) k13
   have h2:=Ir L (show m+1≤i by omega)
   omega
theorem xt {r:Rul} {L:Rows} {sd:Nat→Int} {n i:Nat} (ho:opn L i=0) (h13:∀ j,j<i→((evR L j).kind==13)=true→1≤opn L (j+1)):Zu r L sd n=Q2 r L sd n i:=by
 refine JO (by rw [nL,EW]) (fun j hj=>?_)
 rw [nL] at hj
 rw [Ox _ _ _ hj,vr ho h13 j i (Nat.le_refl _),DG,FK]
 unfold Zu
 rw [List.getElem?_map,List.getElem?_range hj]
 rfl
theorem AAr {r:Rul} (h:RulOk r) (L:Rows) (sd:Nat→Int) (j:Nat) (hl:L.length≤4000):0≤(Xc r L sd j).runs∧(Xc r L sd j).runs≤248000:=by
 have b1:=Di (L:=L) (xZ h) j L.length
 show 0≤smi L (Qz r) j L.length∧smi L (Qz r) j L.length≤248000
 omega
def zz (e:Ev) (d:Option Nat) (xs:List Sco):List Sco:=cond (e.kind==13) (match d with
 | some j=>xs.set j { sco xs j with runs:=IntKind.i64.wrap ((sco xs j).runs+5),pens:=IntKind.i64.wrap ((sco xs j).pens+5) }
 | none=>xs) xs
theorem AAv {r:Rul} {L:Rows} {sd:Nat→Int} {n k i:Nat} (rk:RulOk r) (hk:k<n) (ho:opn L (i+1)=k+1) (hi:i<4000) (hl:L.length≤4000):zz (evR L i) (G3 sd n k (evR L i).side) (Q2 r L sd n i)=Q2 r L sd n (i+1):=by
 have hp:opn L (i+1) - 1=k:=by omega
 have ex:∀ j,pnS L sd n j (i+1)=pnS L sd n j i+cond ((evR L i).kind==13&&isS (G3 sd n k (evR L i).side) j) 5 0:=fun j=>by rw [YP,hp]
 unfold zz
 cases h13:(evR L i).kind==13 with
 | false =>
  refine JO (by rw [cond_false,EW,EW]) (fun j hj=>?_)
  rw [cond_false,EW] at hj
  rw [cond_false,Ox _ _ _ hj,Ox _ _ _ hj,ex,h13,Bool.false_and,cond_false,Int.add_zero]
 | true =>
  cases hd:G3 sd n k (evR L i).side with
  | none =>
   refine JO (by rw [cond_true,EW,EW]) (fun j hj=>?_)
   rw [cond_true,EW] at hj
   rw [cond_true,Ox _ _ _ hj,Ox _ _ _ hj,ex,h13,hd]
   show _=H0 (_+0) _
   rw [Int.add_zero]
  | some d =>
   have dl:=kW hk hd
   have p1:=zm L sd n d i
   have p2:=AAr rk L sd d hl
   simp only [cond_true]
   refine JO (by rw [List.length_set,EW,EW]) (fun j hj=>?_)
   rw [List.length_set,EW] at hj
   rw [fi _ _ _ _ (by rw [EW];exact hj),Ox _ _ _ dl,Ox _ _ _ hj,Ox _ _ _ hj,ex,h13,hd,Bool.true_and]
   by_cases e:d=j
   ·subst e
    rw [if_pos rfl,show isS (some d) d=true from UV d]
    unfold H0
    have z:(Xc r L sd d).pens=0:=rfl
    simp only [z,Int.zero_add,cond_true]
    rw [A9 (n:=(Xc r L sd d).runs+pnS L sd n d i+5) (by omega) (by omega),A9 (n:=pnS L sd n d i+5) (by omega) (by omega),Int.add_assoc]
   ·rw [if_neg e,show isS (some d) j=false from eu e,cond_false,Int.add_zero]
set_option maxHeartbeats 4000000 in
theorem sP {N:Nat} {r1 r2 r3 r4 r5 r6 r7 r9 r10 r11 r12:Int} {r8:Bool} {r0:ByteArray} {r13:Rows} {L:Rows} (hN:2097152<N) (hs:r0.size≤1048576) (h13:r13.length≤1048576) (hL:L.length≤1048576):Om N [.str r0,.int r1,.int r2,.int r3,.int r4,.int r5,.int r6,.int r7,.bool r8,.int r9,.int r10,.int r11,.int r12,.rows r13,.rows L]=some [.rows (cond (!(Bn (⟨r0,r1,r2,r3,r4,r5,r6,r7,r8,r9,r10,r11,r12,r13⟩:Rul) L==0)) [] (Ap (Qq (⟨r0,r1,r2,r3,r4,r5,r6,r7,r8,r9,r10,r11,r12,r13⟩:Rul) L (sdT L)))),.int (Bn (⟨r0,r1,r2,r3,r4,r5,r6,r7,r8,r9,r10,r11,r12,r13⟩:Rul) L)]:=by
 show PY (std (Cd N) N) (xOf _)=_
 generalize hres:(some [.rows (cond (!(Bn (⟨r0,r1,r2,r3,r4,r5,r6,r7,r8,r9,r10,r11,r12,r13⟩:Rul) L==0)) [] (Ap (Qq (⟨r0,r1,r2,r3,r4,r5,r6,r7,r8,r9,r10,r11,r12,r13⟩:Rul) L (sdT L)))),.int (Bn (⟨r0,r1,r2,r3,r4,r5,r6,r7,r8,r9,r10,r11,r12,r13⟩:Rul) L)]:Option (List PV))=RR
 simp only [PY,V3,Xg,Xs,Kp,Mg,Kl,P2,std,xOf,PXb,uu hN hs h13 hL]
 subst hres
 cases hc:Bn (⟨r0,r1,r2,r3,r4,r5,r6,r7,r8,r9,r10,r11,r12,r13⟩:Rul) L==0 with
 | false=>rfl
 | true =>
  have c0:=beq_iff_eq.1 hc
  obtain ⟨il,rk⟩:=qS c0
  have ol:=Se L L.length
  have l4:=il.len
  have zu:zs (WT (Ja L) (Dx L L.length)) (opn L L.length)=zs (sdT L) (opn L L.length):=by
   unfold zs
   refine List.map_congr_left (fun j hj=>?_)
   have hj:=List.mem_range.1 hj
   obtain ⟨_,_,q1,q2⟩:=wX c0 hj
   rw [q1,q2]
  rw [c0]
  simp only [PXb,Bool.not_true,fA hN hL,vA hN hL,zu]
  have p0:opn L (AB L 0)=0∧AB L 0≤L.length:=by
   by_cases h0:0<opn L L.length
   ·have sg:=seg hL h0
    exact ⟨sg.o0,by have:=sg.lt;have:=sg.le;omega⟩
   ·unfold AB;rw [if_neg h0];exact ⟨by omega,Nat.le_refl _⟩
  refine AM (Bk (len:=opn L L.length) (fun k=>[.rows (Ap (Zu (⟨r0,r1,r2,r3,r4,r5,r6,r7,r8,r9,r10,r11,r12,r13⟩:Rul) L (sdT L) k)),.int (k:Int)]) [.rows (Ap (Zu (⟨r0,r1,r2,r3,r4,r5,r6,r7,r8,r9,r10,r11,r12,r13⟩:Rul) L (sdT L) (opn L L.length)))] ?_ ?_ N (by omega)) ?_
  ·intro self
   simp only [PXb,PXc,PXn,AA,PXp,F7,Ac]
  ·intro k self hk
   have sg:=seg hL hk
   have sgl:=sg.lt
   have sge:=sg.le
   have rg:iRg (AB L k:Int) (AB L (k+1):Int) (L.length:Int)=true:=by simp only [iRg,decide_eq_true_eq];omega
   have zk:pvI (AD (Ez (zs (sdT L) (opn L L.length))) k 0)=sdT L k:=fg _ hk
   have s80:iSm ((k+1:Nat):Int) 80=true:=DP (by omega) (by omega)
   have X0:List.drop (AB L k) (List.take (AB L (k+1)) L)=U1 L k:=rfl
   have lp:=qA (r0:=r0) (r1:=r1) (r2:=r2) (r3:=r3) (r4:=r4) (r5:=r5) (r6:=r6) (r7:=r7) (r8:=r8) (r9:=r9) (r10:=r10) (r11:=r11) (r12:=r12) (r13:=r13) hN l4 rk hk
   have pe:=vn (r:=(⟨r0,r1,r2,r3,r4,r5,r6,r7,r8,r9,r10,r11,r12,r13⟩:Rul)) hL hk
   have ts:DB (prA (⟨r0,r1,r2,r3,r4,r5,r6,r7,r8,r9,r10,r11,r12,r13⟩:Rul) L k (AB L (k+1)))=smi L (Qz (⟨r0,r1,r2,r3,r4,r5,r6,r7,r8,r9,r10,r11,r12,r13⟩:Rul)) k (AB L (k+1)):=by
    rw [(ve rk L k (AB L (k+1))).1]
    have pb:=AB8 rk L k (show AB L (k+1)≤4000 by omega)
    generalize prA (⟨r0,r1,r2,r3,r4,r5,r6,r7,r8,r9,r10,r11,r12,r13⟩:Rul) L k (AB L (k+1))=c at pb
    obtain ⟨b,w,o,y,l,x1,x2,x3,x4,x5⟩:=c
    simp only at pb
    show IntKind.i64.wrap (IntKind.i64.wrap (IntKind.i64.wrap (IntKind.i64.wrap (b+w)+o)+y)+l)=b+w+o+y+l
    rw [A9 (n:=b+w) (by omega) (by omega),A9 (n:=b+w+o) (by omega) (by omega),A9 (n:=b+w+o+y) (by omega) (by omega),A9 (n:=b+w+o+y+l) (by omega) (by omega)]
   simp only [PXb,PXc,PXn,AA,PXp,PXs,F7,Cp (show k≤1099511627776 by omega),AX hk,AN hk,FY,KI,sg.x0,sg.x1,rg,Int.toNat_natCast,X0,Kp,lp,Cre.ls,zk,Mg,iu,Kl,qJ hN l4 hk,List.length_append,nL,List.length_cons,List.length_nil,s80,PXt,Nat.reduceAdd]
   rw [← AAG]
   unfold Xc
   simp only [vk hL hk,← ts]
   rfl
  ·simp only [PXb]
   rw [xt (r:=(⟨r0,r1,r2,r3,r4,r5,r6,r7,r8,r9,r10,r11,r12,r13⟩:Rul)) (sd:=sdT L) (n:=opn L L.length) p0.1 (fun j hj=>il.pen j (by omega))]
   refine AM (Bk (len:=opn L L.length) (fun k=>[.rows (Ap (Q2 (⟨r0,r1,r2,r3,r4,r5,r6,r7,r8,r9,r10,r11,r12,r13⟩:Rul) L (sdT L) (opn L L.length) (AB L k))),.int (k:Int)]) [.rows (Ap (Qq (⟨r0,r1,r2,r3,r4,r5,r6,r7,r8,r9,r10,r11,r12,r13⟩:Rul) L (sdT L)))] ?_ ?_ N (by omega)) ?_
   ·intro self
    simp only [PXb,PXc,PXn,AA,PXp,F7,Ac,vx,ABB]
   ·intro k self hk
    have sg:=seg hL hk
    have sgl:=sg.lt
    have sge:=sg.le
    have rg:iRg (AB L k:Int) (AB L (k+1):Int) (L.length:Int)=true:=by simp only [iRg,decide_eq_true_eq];omega
    have X0:List.drop (AB L k) (List.take (AB L (k+1)) L)=U1 L k:=rfl
    have sl:=jh hL hk
    have hev:=fun (i:Nat) (hi:i<AB L (k+1) - AB L k)=>db L (a:=AB L k) (b:=AB L (k+1)) i hi
    change ∀ (i:Nat),i<AB L (k+1) - AB L k→evR (U1 L k) i=evR L (AB L k+i) at hev
    simp only [PXb,PXc,PXn,AA,PXp,F7,Cp (show k≤1099511627776 by omega),AX hk,AN hk,sg.x0,sg.x1,rg,Int.toNat_natCast,X0]
    generalize U1 L k=X at *
    refine AM (ji hN l4 hk (fun i p=>[.rows (Ap (Q2 (⟨r0,r1,r2,r3,r4,r5,r6,r7,r8,r9,r10,r11,r12,r13⟩:Rul) L (sdT L) (opn L L.length) p)),.int (i:Int)]) [.rows (Ap (Q2 (⟨r0,r1,r2,r3,r4,r5,r6,r7,r8,r9,r10,r11,r12,r13⟩:Rul) L (sdT L) (opn L L.length) (AB L (k+1)))),.int ((AB L (k+1) - AB L k:Nat):Int)] rfl ?_ ?_) ?_
    ·intro self
     simp only [PXb,PXc,PXn,AA,sl,Ac]
    ·intro i self hi hp ho
     have ev:=hev i hi
     have kx:pvI (AD X i 0)=(evR L (AB L k+i)).kind:=congrArg Ev.kind ev
     have sx:pvI (AD X i 1)=(evR L (AB L k+i)).side:=congrArg Ev.side ev
     rw [← AAv rk hk ho hp l4]
     have hx:(Q2 (⟨r0,r1,r2,r3,r4,r5,r6,r7,r8,r9,r10,r11,r12,r13⟩:Rul) L (sdT L) (opn L L.length) (AB L k+i)).length=opn L L.length:=EW _ _ _ _ _
     generalize Q2 (⟨r0,r1,r2,r3,r4,r5,r6,r7,r8,r9,r10,r11,r12,r13⟩:Rul) L (sdT L) (opn L L.length) (AB L k+i)=xs at *
     generalize hd:G3 (sdT L) (opn L L.length) k (evR L (AB L k+i)).side=d
     have LD:Nu N [.rows (Ez (zs (sdT L) (opn L L.length))),.int (k:Int),.int (evR L (AB L k+i)).side]=some [.int (jZ d)]:=by rw [← hd];exact xk hN (by omega) hk
     unfold zz
     simp only [PXb,PXc,PXn,AA,PXs,PXt,sl,Cp (show i≤1099511627776 by omega),AX hi,AN hi,Nat.reduceAdd,kx,sx,P2,LD,List.length_set,List.set_set]
     cases h4:(evR L (AB L k+i)).kind==13 with
     | false=>rfl
     | true =>
      cases d with
      | none=>rfl
      | some j =>
       have dl:j<xs.length:=by rw [hx];exact kW hk hd
       simp only [jZ,PXb,kY,AN dl,Int.toNat_natCast,VE dl,List.set_set]
    ·simp only [PXb,PXc,PXn,AA,PXc,PXb,PXc,PXn,PXm,Nat.reduceAdd,Int.reduceBEq]
   ·simp only [PXb,PXc,PXn,PXm,Nat.reduceAdd,Int.reduceBEq]
set_option maxHeartbeats 4000000 in
theorem gM {N:Nat} {r1 r2 r3 r4 r5 r6 r7 r9 r10 r11 r12:Int} {r8:Bool} {r0:ByteArray} {r13:Rows} {L:Rows} (ha:MR N []=some [.bool true]) (hN:2097152<N) (hs:r0.size≤1048576) (h13:r13.length≤1048576):Ep N [.str r0,.int r1,.int r2,.int r3,.int r4,.int r5,.int r6,.int r7,.bool r8,.int r9,.int r10,.int r11,.int r12,.rows r13,.rows L]=some [.bool true]:=by
 show Eg (std (BM N) N) (xOf _)=_
 have l:=ACA L
 have ol:=Se (cut L 60) (cut L 60).length
 simp only [Eg,ST,T2,P8,Q5,K8,std,xOf,PXb,PXc,PXn,PXm,Nat.reduceAdd,Int.reduceBEq,ha,xj,Ym hN hs h13 l qS,sP hN hs h13 l]
 refine ZP (O7 hN ?_) ?_
 ·cases (!(Bn (⟨r0,r1,r2,r3,r4,r5,r6,r7,r8,r9,r10,r11,r12,r13⟩:Rul) (cut L 60)==0)) with
  | true=>exact Nat.zero_le _
  | false=>rw [cond_false,kG,vl];omega
 ·simp only [PXb,PXc,PXn,PXm,Nat.reduceAdd,Int.reduceBEq]
end Go.Px
end
