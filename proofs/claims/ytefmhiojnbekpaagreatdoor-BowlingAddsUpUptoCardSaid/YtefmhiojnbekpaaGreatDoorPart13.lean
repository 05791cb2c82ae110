/- Part 13. -/
import Derived.Test.YtefmhiojnbekpaaGreatDoorPart12
import Derived.KernelRfl
import Derived.Test.YtefmhiojnbekpaaGreatDoorPart07
set_option linter.unusedVariables false
set_option linter.unusedSimpArgs false
section
namespace Go.Px
set_option maxRecDepth 100000
theorem Ta {xs ys:List Sco} (hl:xs.length=ys.length) (h:∀ j,j<xs.length→sco xs j=sco ys j):xs=ys:=by
 apply List.ext_getElem?
 intro i
 by_cases hi:i<xs.length
 ·have:=h i hi
  rw [Em,Em,List.getElem?_eq_getElem hi,List.getElem?_eq_getElem (by omega)] at this
  rw [List.getElem?_eq_getElem hi,List.getElem?_eq_getElem (by omega)]
  exact congrArg some this
 ·rw [List.getElem?_eq_none (by omega),List.getElem?_eq_none (by omega)]
def Dl (r:Rul) (L:Rows) (sd:Nat→Int) (n q i:Nat):List Sco:=(List.range n).map fun j=>{ BB r L sd n j i with side:=cond (Nat.blt j q) (sd j) 0 }
theorem Cw (r:Rul) (L:Rows) (sd:Nat→Int) (n q i:Nat):(Dl r L sd n q i).length=n:=by unfold Dl;rw [List.length_map,List.length_range]
theorem Gc (r:Rul) (L:Rows) (sd:Nat→Int) {n q i j:Nat} (h:j<n):sco (Dl r L sd n q i) j={ BB r L sd n j i with side:=cond (Nat.blt j q) (sd j) 0 }:=by
 rw [Em]
 unfold Dl
 rw [List.getElem?_map,List.getElem?_range h]
 rfl
theorem XI {a b:Nat} (h:a<b):Nat.blt a b=true:=Nat.ble_eq_true_of_le h
theorem fL {a b:Nat} (h:¬ a<b):Nat.blt a b=false:=by
 cases hq:Nat.blt a b with
 | false=>rfl
 | true=>exact absurd (Nat.le_of_ble_eq_true hq) h
theorem Tv {xs:List Sco} {k:Nat} (h:k<xs.length) (s:Sco):sco (xs.set k s) k=s:=by rw [TR _ _ _ _ h,if_pos rfl]
theorem nL {r:Rul} {L:Rows} {sd:Nat→Int} {n k i:Nat} (h:k<n):(Dl r L sd n k i).set k { sco (Dl r L sd n k i) k with side:=sd k }=Dl r L sd n (k+1) i:=by
 refine Ta (by rw [List.length_set,Cw,Cw]) (fun j hj=>?_)
 rw [List.length_set,Cw] at hj
 rw [TR _ _ _ _ (by rw [Cw];exact hj),Gc _ _ _ h,Gc _ _ _ hj,Gc _ _ _ hj]
 by_cases e:k=j
 ·subst e
  rw [if_pos rfl,XI (Nat.lt_succ_self k)]
  rfl
 ·rw [if_neg e]
  have:Nat.blt j k=Nat.blt j (k+1):=by
   by_cases hl:j<k
   ·rw [XI hl,XI (by omega)]
   ·rw [fL hl,fL (by omega)]
  rw [this]
theorem qP (r:Rul) (L:Rows) (sd:Nat→Int) (n i:Nat):Dl r L sd n n i=(List.range n).map fun j=>BB r L sd n j i:=by
 refine Ta (by rw [Cw,List.length_map,List.length_range]) (fun j hj=>?_)
 rw [Cw] at hj
 rw [Gc _ _ _ hj,Em,List.getElem?_map,List.getElem?_range hj,XI hj]
 rfl
theorem oO {r:Rul} {L:Rows} {sd:Nat→Int} {n i:Nat} (ho:opn L i=0) (h13:∀ j,j<i→((evR L j).kind==13)=true→1≤opn L (j+1)):List.replicate n dS=Dl r L sd n 0 i:=by
 have pz:∀ j,pnS L sd n j i=0:=fun j=>by
  have:∀ m,m≤i→pnS L sd n j m=0:=by
   intro m
   induction m with
   | zero=>intro _;rfl
   | succ m ih =>
    intro hm
    rw [bg,ih (by omega)]
    cases k13:(evR L m).kind==13 with
    | false=>rfl
    | true =>
     have h1:=h13 m (by omega) k13
     have h2:=F2 L (show m+1≤i by omega)
     omega
  exact this i (Nat.le_refl i)
 refine Ta (by rw [Cw,List.length_replicate]) (fun j hj=>?_)
 rw [List.length_replicate] at hj
 rw [Gc _ _ _ hj,Em,List.getElem?_replicate,if_pos hj,fL (by omega)]
 unfold BB
 have z:∀ f:Ev→Int,smi L f j i=0:=fun f=>Ug i (by omega)
 simp only [pz,z]
 rfl
theorem V0 {r : Rul} {L : Rows} {sd : Nat → Int} {n k q i : Nat} {y : Sco} (hk : k < n) (hy : y = { BB r L sd n k (i + 1) with side := cond (Nat.blt k q) (sd k) 0 }) (ho : ∀ j, j < n → ¬ k = j → BB r L sd n j (i + 1) = BB r L sd n j i) :
    (Dl r L sd n q i).set k y=Dl r L sd n q (i+1):=by
  refine Ta (by rw [List.length_set,Cw,Cw]) (fun j hj=>?_)
  rw [List.length_set,Cw] at hj
  rw [TR _ _ _ _ (by rw [Cw];exact hj),Gc _ _ _ hj,Gc _ _ _ hj]
  by_cases e:k=j
  · subst e
    rw [if_pos rfl,hy]
  · rw [if_neg e,ho j hj e]
theorem gJ {r:Rul} {L:Rows} {sd:Nat→Int} {n q i:Nat} (ho:∀ j,j<n→BB r L sd n j (i+1)=BB r L sd n j i):Dl r L sd n q i=Dl r L sd n q (i+1):=by
 refine Ta (by rw [Cw,Cw]) (fun j hj=>?_)
 rw [Cw] at hj
 rw [Gc _ _ _ hj,Gc _ _ _ hj,ho j hj]
def ec (r:Rul) (e:Ev) (k:Nat) (d:Option Nat) (xs:List Sco):List Sco :=
  let x1:=cond (Sq e) (xs.set k { sco xs k with wickets:=IntKind.i64.wrap ((sco xs k).wickets+1) }) xs
  let c:=AD r e.ball
  cond (e.kind==4)
    (x1.set k { sco x1 k with runs:=IntKind.i64.wrap ((sco x1 k).runs+DK c),balls:=cond c.counts (IntKind.i64.wrap ((sco x1 k).balls+1)) (sco x1 k).balls,wides:=IntKind.i64.wrap ((sco x1 k).wides+c.wides),noballs:=IntKind.i64.wrap ((sco x1 k).noballs+c.noballs),byes:=IntKind.i64.wrap ((sco x1 k).byes+c.byes),legbyes:=IntKind.i64.wrap ((sco x1 k).legbyes+c.legbyes) })
    (cond (e.kind==13) (match d with
      | some j=>x1.set j { sco x1 j with runs:=IntKind.i64.wrap ((sco x1 j).runs+5),pens:=IntKind.i64.wrap ((sco x1 j).pens+5) }
      | none=>x1) x1)
theorem mJ {sd:Nat→Int} {n k j:Nat} {s:Int} (hk:k<n) (h:DH sd n k s=some j):j<n:=by
 rcases (fK h).2 with h | h<;>omega
theorem nU {r:Rul} {L:Rows} {sd:Nat→Int} {n k i:Nat} (rk:RulOk r) (hk:k<n) (ho:opn L (i+1)=k+1) (hi:i<4000):ec r (evR L i) k (DH sd n k (evR L i).side) (Dl r L sd n (k+1) i)=Dl r L sd n (k+1) (i+1):=by
 have hn:∀ j,¬ k=j→Nat.beq (opn L (i+1)) (j+1)=false:=fun j hj=>RG (by omega)
 have hy:Nat.beq (opn L (i+1)) (k+1)=true:=by rw [ho];exact Nd _
 have sm:=fun j=>pT rk L sd n j (show i≤4000 by omega)
 have cs:=UI r L sd n
 have hp:opn L (i+1) - 1=k:=by omega
 have tl:k<(Dl r L sd n (k+1) i).length:=by rw [Cw];exact hk
 unfold ec
 cases h4:(evR L i).kind==4 with
 | true =>
  have k4:=beq_iff_eq.1 h4
  have h13:((evR L i).kind==13)=false:=by rw [k4];rfl
  have ce:Ah r (evR L i)=AD r (evR L i).ball:=by unfold Ah;rw [h4];rfl
  have co:=Dv rk (evR L i)
  have tb:=o6 rk (evR L i)
  rw [← ce]
  have fin:∀ y:Sco,y={ BB r L sd n k (i+1) with side:=cond (Nat.blt k (k+1)) (sd k) 0 }→(Dl r L sd n (k+1) i).set k y=Dl r L sd n (k+1) (i+1):=fun y hyy=>V0 hk hyy (fun j hj hjk=>by
   rw [cs,h13,Bool.false_and,cond_false,CA,hn j hjk];rfl)
  have ex:BB r L sd n k (i+1)=Nn r (evR L i) (BB r L sd n k i):=by rw [cs,h13,Bool.false_and,cond_false,CA,hy];rfl
  have s:=sm k
  have s1:=s.runs
  have s2:=s.wk
  have s3:=s.balls
  have s4:=s.wides
  have s5:=s.no
  have s6:=s.bb
  have s7:=s.lb
  have c1:=co.wi
  have c2:=co.no
  have c3:=co.bb
  have c4:=co.lb
  unfold cO at tb
  have w1:IntKind.i64.wrap ((BB r L sd n k i).runs+DK (Ah r (evR L i)))=(BB r L sd n k i).runs+DK (Ah r (evR L i)):=BJ (by omega) (by omega)
  have w2:IntKind.i64.wrap ((BB r L sd n k i).wickets+1)=(BB r L sd n k i).wickets+1:=BJ (by omega) (by omega)
  have w3:IntKind.i64.wrap ((BB r L sd n k i).balls+1)=(BB r L sd n k i).balls+1:=BJ (by omega) (by omega)
  have w4:IntKind.i64.wrap ((BB r L sd n k i).wides+(Ah r (evR L i)).wides)=(BB r L sd n k i).wides+(Ah r (evR L i)).wides:=BJ (by omega) (by omega)
  have w5:IntKind.i64.wrap ((BB r L sd n k i).noballs+(Ah r (evR L i)).noballs)=(BB r L sd n k i).noballs+(Ah r (evR L i)).noballs:=BJ (by omega) (by omega)
  have w6:IntKind.i64.wrap ((BB r L sd n k i).byes+(Ah r (evR L i)).byes)=(BB r L sd n k i).byes+(Ah r (evR L i)).byes:=BJ (by omega) (by omega)
  have w7:IntKind.i64.wrap ((BB r L sd n k i).legbyes+(Ah r (evR L i)).legbyes)=(BB r L sd n k i).legbyes+(Ah r (evR L i)).legbyes:=BJ (by omega) (by omega)
  have od:=mp (evR L i)
  cases hb:Sq (evR L i) with
  | false =>
   simp only [cond_false,cond_true,Gc _ _ _ hk,w1,w3,w4,w5,w6,w7]
   refine fin _ ?_
   rw [ex]
   unfold Nn
   rw [od,hb]
   cases (Ah r (evR L i)).counts<;>simp only [cond_false,cond_true,Int.add_zero]
  | true =>
   simp only [cond_true,Tv tl,List.set_set,Gc _ _ _ hk,w1,w2,w3,w4,w5,w6,w7]
   refine fin _ ?_
   rw [ex]
   unfold Nn
   rw [od,hb]
   cases (Ah r (evR L i)).counts<;>simp only [cond_false,cond_true,Int.add_zero]
 | false =>
  have s:=sm k
  have s2:=s.wk
  have w2:IntKind.i64.wrap ((BB r L sd n k i).wickets+1)=(BB r L sd n k i).wickets+1:=BJ (by omega) (by omega)
  have od:=mp (evR L i)
  cases h13:(evR L i).kind==13 with
  | true =>
   have k13:=beq_iff_eq.1 h13
   have ob:Sq (evR L i)=false:=by unfold Sq;rw [k13];rfl
   have oe:B4 (evR L i)=0:=by unfold B4;rw [k13];rfl
   have ex:∀ j,BB r L sd n j (i+1)=JP (cond (isS (DH sd n k (evR L i).side) j) 5 0) (BB r L sd n j i):=fun j=>by
    rw [cs,h13,Bool.true_and,hp,Lk _ h4 oe]
    cases Nat.beq (opn L (i+1)) (j+1)<;>rfl
   simp only [ob,cond_false,cond_true]
   cases hd:DH sd n k (evR L i).side with
   | none =>
    refine gJ (fun j hj=>?_)
    rw [ex,hd]
    exact CA _
   | some d =>
    have dl:=mJ hk hd
    have q:=sm d
    have q1:=q.runs
    have q2:=q.pens
    have v1:IntKind.i64.wrap ((BB r L sd n d i).runs+5)=(BB r L sd n d i).runs+5:=BJ (by omega) (by omega)
    have v2:IntKind.i64.wrap ((BB r L sd n d i).pens+5)=(BB r L sd n d i).pens+5:=BJ (by omega) (by omega)
    simp only [Gc _ _ _ dl,v1,v2]
    refine V0 dl ?_ (fun j hj hjd=>?_)
    ·rw [ex,hd,show isS (some d) d=true from Nd d]
     rfl
    ·rw [ex,hd,show isS (some d) j=false from RG hjd]
     exact CA _
  | false =>
   have ex:∀ j,BB r L sd n j (i+1)=cond (Nat.beq (opn L (i+1)) (j+1)) (Nn r (evR L i) (BB r L sd n j i)) (BB r L sd n j i):=fun j=>by
    rw [cs,h13,Bool.false_and,cond_false,CA]
   have oe:HX (evR L i)=B4 (evR L i):=by unfold HX;rw [h4];rfl
   rw [oe] at od
   cases hb:Sq (evR L i) with
   | false =>
    rw [hb] at od
    simp only [cond_false]
    refine gJ (fun j hj=>?_)
    rw [ex,Lk _ h4 od]
    cases Nat.beq (opn L (i+1)) (j+1)<;>rfl
   | true =>
    rw [hb] at od
    simp only [cond_false,cond_true,Gc _ _ _ hk,w2]
    refine V0 hk ?_ (fun j hj hjk=>?_)
    ·rw [ex,hy,cond_true,Yg _ h4,od]
     rfl
    ·rw [ex,hn j hjk];rfl
def sdT (L:Rows):Nat→Int:=XC (bA L) (D6 L L.length)
def Yh (r:Rul) (L:Rows) (sd:Nat→Int):List Sco:=(List.range (opn L L.length)).map fun j=>BB r L sd (opn L L.length) j L.length
structure InLog (L:Rows):Prop where
 len:L.length≤4000
 pen:∀ j,j<L.length→((evR L j).kind==13)=true→1≤opn L (j+1)
set_option maxHeartbeats 4000000 in
theorem mU {N : Nat} {r : Rul} {L : Rows} {k : Nat} (hN : 2097152 < N) (il : InLog L) (rk : RulOk r) (hk : k < opn L L.length) {F : (List AY → Option (List PV)) → List PV → Option (List PV)}
    (f0:∀ xs self,F self [.rows (Aw xs),.int ((AK L (k+1) - AK L k:Nat):Int)]=some [.rows (Aw xs),.int ((AK L (k+1) - AK L k:Nat):Int)])
    (f1:∀ (i:Nat) self,i<AK L (k+1) - AK L k→∀ xs:List Sco,xs.length=opn L L.length→F self [.rows (Aw xs),.int (i:Int)]=self [.rows (Aw (ec r (evR L (AK L k+i)) k (DH (sdT L) (opn L L.length) k (evR L (AK L k+i)).side) xs)),.int ((i+1:Nat):Int)]) :
    Cv F N [.rows (Aw (Dl r L (sdT L) (opn L L.length) (k+1) (AK L k))),.int 0]=some [.rows (Aw (Dl r L (sdT L) (opn L L.length) (k+1) (AK L (k+1)))),.int ((AK L (k+1) - AK L k:Nat):Int)]:=by
  have sg:=seg (by have:=il.len;omega) hk
  have h1:=sg.lt
  have h2:=sg.le
  have h3:=il.len
  have e:AK L k+(AK L (k+1) - AK L k)=AK L (k+1):=by omega
  have:=Cb (F:=F) (len:=AK L (k+1) - AK L k) (fun i=>[.rows (Aw (Dl r L (sdT L) (opn L L.length) (k+1) (AK L k+i))),.int (i:Int)]) [.rows (Aw (Dl r L (sdT L) (opn L L.length) (k+1) (AK L (k+1)))),.int ((AK L (k+1) - AK L k:Nat):Int)]
    (fun self=>by
      show F self [.rows (Aw (Dl r L (sdT L) (opn L L.length) (k+1) (AK L k+(AK L (k+1) - AK L k)))),_]=_
      rw [e]
      exact f0 _ self)
    (fun i self hi=>by
      show F self [.rows (Aw (Dl r L (sdT L) (opn L L.length) (k+1) (AK L k+i))),.int (i:Int)]=_
      rw [f1 i self hi _ (Cw _ _ _ _ _ _),nU rk hk (sg.mid _ (by omega) (by omega)) (by omega)]
      rfl) N (by omega)
  exact this
theorem qq (L:Rows) (i:Nat):(⟨pvI (AF L i 0),pvI (AF L i 1),pvI (AF L i 2),pvI (AF L i 3),pvB (AF L i 4),pvI (AF L i 5),pvI (AF L i 6),⟨pvI (AF L i 7),pvI (AF L i 8),pvI (AF L i 9),pvI (AF L i 10),pvI (AF L i 11),pvB (AF L i 12),pvI (AF L i 13),pvI (AF L i 14),pvI (AF L i 15),pvI (AF L i 16),pvB (AF L i 17),pvI (AF L i 18)⟩⟩:Ev)=evR L i:=rfl
set_option maxHeartbeats 4000000 in
theorem bR {N:Nat} {r1 r2 r3 r4 r5 r6 r7 r9 r10 r11 r12:Int} {r8:Bool} {r0:ByteArray} {r13:Rows} {L:Rows} (hN:2097152<N) (hs:r0.size≤1048576) (h13:r13.length≤1048576) (hL:L.length≤1048576) (il:BZ (⟨r0,r1,r2,r3,r4,r5,r6,r7,r8,r9,r10,r11,r12,r13⟩:Rul) L=0→InLog L∧RulOk (⟨r0,r1,r2,r3,r4,r5,r6,r7,r8,r9,r10,r11,r12,r13⟩:Rul)):Jw N [.str r0,.int r1,.int r2,.int r3,.int r4,.int r5,.int r6,.int r7,.bool r8,.int r9,.int r10,.int r11,.int r12,.rows r13,.rows L]=some [.rows (cond (!(BZ (⟨r0,r1,r2,r3,r4,r5,r6,r7,r8,r9,r10,r11,r12,r13⟩:Rul) L==0)) [] (Aw (Yh (⟨r0,r1,r2,r3,r4,r5,r6,r7,r8,r9,r10,r11,r12,r13⟩:Rul) L (sdT L)))),.int (BZ (⟨r0,r1,r2,r3,r4,r5,r6,r7,r8,r9,r10,r11,r12,r13⟩:Rul) L)]:=by
  show Jb (std (Bu N) N) (xOf _)=_
  generalize hres:(some [.rows (cond (!(BZ (⟨r0,r1,r2,r3,r4,r5,r6,r7,r8,r9,r10,r11,r12,r13⟩:Rul) L==0)) [] (Aw (Yh (⟨r0,r1,r2,r3,r4,r5,r6,r7,r8,r9,r10,r11,r12,r13⟩:Rul) L (sdT L)))),.int (BZ (⟨r0,r1,r2,r3,r4,r5,r6,r7,r8,r9,r10,r11,r12,r13⟩:Rul) L)]:Option (List PV))=RR
  simp only [Jb,QZ,Of,O4,I2,Fp,F5,Q4,std,xOf,PXb,Sj hN hs h13 hL]
  subst hres
  cases hc:BZ (⟨r0,r1,r2,r3,r4,r5,r6,r7,r8,r9,r10,r11,r12,r13⟩:Rul) L==0 with
  | false=>rfl
  | true =>
    have c0:=beq_iff_eq.1 hc
    obtain ⟨il,rk⟩:=il c0
    have ol:=Tg L L.length
    have l4:=il.len
    have s80:iSm ((opn L L.length:Nat):Int) 80=true:=GE (by omega) (by omega)
    rw [c0]
    simp only [PXb,Bool.not_true,dz hN hL,NM,Td,s80,Jt hN hL,pt]
    have st:List.replicate (opn L L.length) dS=Dl (⟨r0,r1,r2,r3,r4,r5,r6,r7,r8,r9,r10,r11,r12,r13⟩:Rul) L (sdT L) (opn L L.length) 0 (AK L 0):=by
      refine oO ?_ (fun j hj=>il.pen j ?_)
      · by_cases h0:0<opn L L.length
        · exact (seg hL h0).o0
        · unfold AK;rw [if_neg h0];omega
      · have : AK L 0 ≤ L.length := by
          by_cases h0:0<opn L L.length
          · have:=(seg hL h0).lt;have:=(seg hL h0).le;omega
          · unfold AK;rw [if_neg h0];exact Nat.le_refl _
        omega
    rw [st]
    refine Ab (Cb (len:=opn L L.length) (fun k=>[.rows (Aw (Dl (⟨r0,r1,r2,r3,r4,r5,r6,r7,r8,r9,r10,r11,r12,r13⟩:Rul) L (sdT L) (opn L L.length) k (AK L k))),.int (k:Int)]) [.rows (Aw (Yh (⟨r0,r1,r2,r3,r4,r5,r6,r7,r8,r9,r10,r11,r12,r13⟩:Rul) L (sdT L)))] ?_ ?_ N (by omega)) ?_
    · intro self
      simp only [PXb,PXc,PXn,AH,PXp,Ll,BC,pK,qP]
      rfl
    · intro k self hk
      have sg:=seg hL hk
      have sgl:=sg.lt
      have sge:=sg.le
      have rg:iRg (AK L k:Int) (AK L (k+1):Int) (L.length:Int)=true:=by simp only [iRg,decide_eq_true_eq];omega
      have zk:atI (GS (zs (sdT L) (opn L L.length))) k 0=sdT L k:=kf _ hk
      have sl:=jy (L:=L) (a:=AK L k) sge
      have zk':pvI (AF (GS (zs (XC (bA L) (D6 L L.length)) (opn L L.length))) k 0)=sdT L k:=zk
      simp only [PXb,PXc,PXn,AH,PXp,PXs,Ll,CO (show k≤1099511627776 by omega),Ay hk,AR hk,Cw,NM,Td,sg.x0,sg.x1,rg,zk',PXt,nL hk]
      generalize hX:List.drop (AK L k) (List.take (AK L (k+1)) L)=X at *
      refine Ab (mU hN il rk hk ?_ ?_) ?_
      · intro xs self
        simp only [PXb,PXc,PXn,AH,sl,BC]
      · intro i self hi xs hx
        have hev:evR X i=evR L (AK L k+i):=by rw [← hX];exact mZ L i hi
        simp only [PXb,PXc,PXn,AH,PXc,sl,CO (show i≤1099511627776 by omega),Ay hi,AR hi,Nat.reduceAdd,I2,ib,qq,hev]
        have hk':k<xs.length:=by rw [hx];exact hk
        generalize hd:DH (sdT L) (opn L L.length) k (evR L (AK L k+i)).side=d
        have kx:pvI (AF X i 0)=(evR L (AK L k+i)).kind:=congrArg Ev.kind hev
        have sx:pvI (AF X i 1)=(evR L (AK L k+i)).side:=congrArg Ev.side hev
        have LD:Hw N [.rows (GS (zs (XC (bA L) (D6 L L.length)) (opn L L.length))),.int (k:Int),.int (evR L (AK L k+i)).side]=some [.int (kS d)]:=by rw [← hd];exact jL hN (by omega) hk
        have bx:(⟨pvI (AF X i 7),pvI (AF X i 8),pvI (AF X i 9),pvI (AF X i 10),pvI (AF X i 11),pvB (AF X i 12),pvI (AF X i 13),pvI (AF X i 14),pvI (AF X i 15),pvI (AF X i 16),pvB (AF X i 17),pvI (AF X i 18)⟩:Del)=(evR L (AK L k+i)).ball:=congrArg Ev.ball hev
        rw [kx]
        unfold ec
        cases ho:Sq (evR L (AK L k+i))<;>cases h4:(evR L (AK L k+i)).kind==4<;>cases h13:(evR L (AK L k+i)).kind==13
        all_goals simp only [PXb,PXc,PXn,AH,PXc,PXs,PXt,Nat.reduceAdd,Fp,GB,bx,sx,LD,F5,Qt,List.length_set,AR hk',hk',Tv hk',List.set_set,Cre.ls,ho,h4,h13]
        all_goals first
          | (cases (AD (⟨r0,r1,r2,r3,r4,r5,r6,r7,r8,r9,r10,r11,r12,r13⟩:Rul) (evR L (AK L k+i)).ball).counts<;>rfl)
          | (cases d with
             | none=>rfl
             | some j =>
               have dl:j<xs.length:=by rw [hx];exact mJ hk hd
               have dl2:∀ y s,sco ((xs.set k y).set j s) j=s:=fun y s=>Tv (by rw [List.length_set];exact dl) s
               simp only [kS,PXb,mg,AR dl,List.length_set,Tv dl,List.set_set,dl2])
      · simp only [PXb,PXc,PXn,AH,PXc,PXb,PXc,PXn,PXm,Nat.reduceAdd,Int.reduceBEq]
    · simp only [PXb,PXc,PXn,PXm,Nat.reduceAdd,Int.reduceBEq]
end Go.Px
end
section
namespace Go.Px
set_option maxRecDepth 100000
theorem JQ {r:Rul} {L:Rows} (h:BZ r L=0):((AN r).2==0)=true∧BK r=0∧L.length≤4000∧acc L L.length 0 (AN r).1∧H3 r L=(stM L L.length 0 (AN r).1,-1,0):=by
 unfold BZ at h
 cases hc:BK r==0 with
 | false=>rw [hc] at h;rw [show BK r=0 from h] at hc;cases hc
 | true =>
  cases hl:iLt 4000 (L.length:Int) with
  | true=>rw [hc,hl] at h;cases h
  | false =>
   cases hr:(H3 r L).2.2==0 with
   | false=>rw [hc,hl,hr] at h;cases h
   | true =>
    have hn:=(oC r).trans hc
    have hrep:H3 r L=HF L L.length 0 (AN r).1:=by unfold H3;rw [hn];rfl
    obtain ⟨k,h1,h2,h3,h4⟩:=UR L L.length 0 (AN r).1
    have l4:L.length≤4000:=by simp only [iLt,decide_eq_false_iff_not] at hl;omega
    rcases h4 with ⟨h5,h6⟩ | ⟨h5,h6,h7⟩
    ·subst h5
     exact ⟨hn,beq_iff_eq.1 hc,l4,h2,hrep.trans h6⟩
    ·rw [hrep,h7] at hr
     rw [h6] at hr
     cases hr
theorem Zu {r:Rul} {L:Rows} (h:BZ r L=0):InLog L∧RulOk r:=by
 obtain ⟨h1,h2,h3,h4,h5⟩:=JQ h
 obtain ⟨_,_,h6⟩:=Lc h1 h4 L.length (Nat.le_refl _)
 refine ⟨⟨h3,fun j hj k13=>?_⟩,Ed h2⟩
 have e:=beq_iff_eq.1 k13
 have:=(h6 j hj).2.play (by rw [e];rfl) (by rw [e];rfl) (by rw [e];rfl) (by rw [e];rfl)
 exact Nat.le_trans this (RF L j)
theorem pu (r:Rul) (L:Rows) (sd:Nat→Int):(Yh r L sd).length=opn L L.length:=by unfold Yh;rw [List.length_map,List.length_range]
theorem qw {r:Rul} {L:Rows} {sd:Nat→Int} {j:Nat} (h:j<opn L L.length):sco (Yh r L sd) j=BB r L sd (opn L L.length) j L.length:=by
 rw [Em]
 unfold Yh
 rw [List.getElem?_map,List.getElem?_range h]
 rfl
def prA (r:Rul) (L:Rows) (k p:Nat):Cre:=⟨smi L (fun e=>(Ah r e).batter) k p,smi L (fun e=>(Ah r e).wides) k p,smi L (fun e=>(Ah r e).noballs) k p,smi L (fun e=>(Ah r e).byes) k p,smi L (fun e=>(Ah r e).legbyes) k p,smi L (fun e=>(Ah r e).bowler) k p,false,false,false,false⟩
theorem hP {r:Rul} {L:Rows} {k p:Nat} (h:opn L p≤k):prA r L k p=Kt:=by
 unfold prA
 have z:∀ f:Ev→Int,smi L f k p=0:=fun f=>Ug p h
 simp only [z]
 rfl
theorem kc {r:Rul} (h:RulOk r) (e:Ev):0≤(Ah r e).bowler∧(Ah r e).bowler≤36:=by
 have c:=Dv h e
 have h0:=c.ba
 have h1:=c.wi
 have h2:=c.no
 have h3:=c.bo
 omega
def kF (a c:Cre):Cre:=⟨IntKind.i64.wrap (a.batter+c.batter),IntKind.i64.wrap (a.wides+c.wides),IntKind.i64.wrap (a.noballs+c.noballs),IntKind.i64.wrap (a.byes+c.byes),IntKind.i64.wrap (a.legbyes+c.legbyes),IntKind.i64.wrap (a.bowler+c.bowler),false,false,false,false⟩
theorem ny {r:Rul} {L:Rows} {k p:Nat} (rk:RulOk r) (ho:opn L (p+1)=k+1) (hp:p<4000):prA r L k (p+1)=kF (prA r L k p) (Ah r (evR L p)):=by
 have hy:Nat.beq (opn L (p+1)) (k+1)=true:=by rw [ho];exact Nd _
 have c:=Dv rk (evR L p)
 have h0:=c.ba
 have h1:=c.wi
 have h2:=c.no
 have h3:=c.bb
 have h4:=c.lb
 have h5:=kc rk (evR L p)
 have b0:=GG (L:=L) (f:=fun e=>(Ah r e).batter) (fun e=>(Dv rk e).ba) k p
 have b1:=GG (L:=L) (f:=fun e=>(Ah r e).wides) (fun e=>(Dv rk e).wi) k p
 have b2:=GG (L:=L) (f:=fun e=>(Ah r e).noballs) (fun e=>(Dv rk e).no) k p
 have b3:=GG (L:=L) (f:=fun e=>(Ah r e).byes) (fun e=>(Dv rk e).bb) k p
 have b4:=GG (L:=L) (f:=fun e=>(Ah r e).legbyes) (fun e=>(Dv rk e).lb) k p
 have b5:=GG (L:=L) (f:=fun e=>(Ah r e).bowler) (kc rk) k p
 unfold prA kF
 simp only [CM,hy,cond_true]
 rw [BJ (n:=smi L (fun e=>(Ah r e).batter) k p+_) (by omega) (by omega),BJ (n:=smi L (fun e=>(Ah r e).wides) k p+_) (by omega) (by omega),BJ (n:=smi L (fun e=>(Ah r e).noballs) k p+_) (by omega) (by omega),BJ (n:=smi L (fun e=>(Ah r e).byes) k p+_) (by omega) (by omega),BJ (n:=smi L (fun e=>(Ah r e).legbyes) k p+_) (by omega) (by omega),BJ (n:=smi L (fun e=>(Ah r e).bowler) k p+_) (by omega) (by omega)]
theorem oU {r:Rul} {L:Rows} {k p:Nat} (h4:((evR L p).kind==4)=false):prA r L k (p+1)=prA r L k p:=by
 have c0:Ah r (evR L p)=Kt:=by unfold Ah;rw [h4];rfl
 unfold prA
 simp only [CM,c0,Kt]
 cases Nat.beq (opn L (p+1)) (k+1)<;>simp only [cond_true,cond_false,Int.add_zero]
def iL (r:Rul) (L:Rows) (k:Int):Cre×Int:=cond (!(BZ r L==0)) (Kt,BZ r L) (cond (iLt k 0||iLe (opn L L.length:Int) k) (Kt,2) (prA r L k.toNat L.length,0))
def kL (x:Cre×Int):List PV:=[.int x.1.batter,.int x.1.wides,.int x.1.noballs,.int x.1.byes,.int x.1.legbyes,.int x.1.bowler,.bool x.1.counts,.bool x.1.faced,.bool x.1.wicket,.bool x.1.swap,.int x.2]
theorem cu {L:Rows} {f:Ev→Int} {k p:Nat} (h:opn L p=k+1) (hp:p≤L.length) (hn:p=L.length∨((evR L p).kind==2)=true):∀ c,p+c≤L.length→smi L f k (p+c)=smi L f k p
 | 0,_=>rfl
 | c+1,hc=>by
  rw [show p+(c+1)=p+c+1 by omega,CM,cu h hp hn c (by omega)]
  rcases hn with hn | hn
  ·omega
  ·have:=F2 L (show p+1≤p+c+1 by omega)
   rw [RB hn] at this
   rw [RG (by omega),cond_false,Int.add_zero]
theorem nJ {L:Rows} (hL:L.length≤1048576) {k:Nat} (hk:k<opn L L.length):AK L (k+1)=L.length∨((evR L (AK L (k+1))).kind==2)=true:=by
 by_cases h:k+1<opn L L.length
 ·obtain ⟨a,p1,p2,p3,p4,p5⟩:=aX hL L.length (Nat.le_refl _) (k+1) h
  have:AK L (k+1)=a:=by unfold AK;rw [if_pos h,p1];rfl
  rw [this]
  exact Or.inr p4
 ·exact Or.inl (by unfold AK;rw [if_neg h])
theorem qR {L:Rows} (hL:L.length≤1048576) {f:Ev→Int} {k:Nat} (hk:k<opn L L.length):smi L f k L.length=smi L f k (AK L (k+1)):=by
 have sg:=seg hL hk
 have:=cu (f:=f) sg.o1 sg.le (nJ hL hk) (L.length - AK L (k+1)) (by have:=sg.le;omega)
 rw [show AK L (k+1)+(L.length - AK L (k+1))=L.length by have:=sg.le;omega] at this
 exact this
theorem qA {r:Rul} {L:Rows} (hL:L.length≤1048576) {k:Nat} (hk:k<opn L L.length):prA r L k L.length=prA r L k (AK L (k+1)):=by
 unfold prA
 simp only [qR hL hk]
theorem mq {N : Nat} {r : Rul} {L : Rows} {k : Nat} (hN : 2097152 < N) (il : InLog L) (rk : RulOk r) (hk : k < opn L L.length) {F : (List AY → Option (List PV)) → List PV → Option (List PV)}
    (f0:∀ (c:Cre) self,F self [.int ((AK L (k+1) - AK L k:Nat):Int),.int c.batter,.int c.wides,.int c.noballs,.int c.byes,.int c.legbyes,.int c.bowler,.bool false,.bool false,.bool false,.bool false]=some [.int c.batter,.int c.wides,.int c.noballs,.int c.byes,.int c.legbyes,.int c.bowler,.bool false,.bool false,.bool false,.bool false])
    (f1:∀ (i:Nat) self,i<AK L (k+1) - AK L k→∀ c:Cre,F self [.int (i:Int),.int c.batter,.int c.wides,.int c.noballs,.int c.byes,.int c.legbyes,.int c.bowler,.bool false,.bool false,.bool false,.bool false]=(let d:=cond ((evR L (AK L k+i)).kind==4) (kF c (Ah r (evR L (AK L k+i)))) c;self [.int ((i+1:Nat):Int),.int d.batter,.int d.wides,.int d.noballs,.int d.byes,.int d.legbyes,.int d.bowler,.bool false,.bool false,.bool false,.bool false])) :
    Cv F N [.int 0,.int 0,.int 0,.int 0,.int 0,.int 0,.int 0,.bool false,.bool false,.bool false,.bool false]=some (prA r L k (AK L (k+1))).ls:=by
  have sg:=seg (by have:=il.len;omega) hk
  have h1:=sg.lt
  have h2:=sg.le
  have h3:=il.len
  have e:AK L k+(AK L (k+1) - AK L k)=AK L (k+1):=by omega
  have z0:prA r L k (AK L k)=Kt:=hP (by rw [sg.o0];exact Nat.le_refl _)
  have:=Cb (F:=F) (len:=AK L (k+1) - AK L k) (fun i=>[.int (i:Int),.int (prA r L k (AK L k+i)).batter,.int (prA r L k (AK L k+i)).wides,.int (prA r L k (AK L k+i)).noballs,.int (prA r L k (AK L k+i)).byes,.int (prA r L k (AK L k+i)).legbyes,.int (prA r L k (AK L k+i)).bowler,.bool false,.bool false,.bool false,.bool false]) (prA r L k (AK L (k+1))).ls
    (fun self=>by
      have:=f0 (prA r L k (AK L k+(AK L (k+1) - AK L k))) self
      rw [e] at this
      show F self [.int ((AK L (k+1) - AK L k:Nat):Int),.int (prA r L k (AK L k+(AK L (k+1) - AK L k))).batter,.int (prA r L k (AK L k+(AK L (k+1) - AK L k))).wides,.int (prA r L k (AK L k+(AK L (k+1) - AK L k))).noballs,.int (prA r L k (AK L k+(AK L (k+1) - AK L k))).byes,.int (prA r L k (AK L k+(AK L (k+1) - AK L k))).legbyes,.int (prA r L k (AK L k+(AK L (k+1) - AK L k))).bowler,.bool false,.bool false,.bool false,.bool false]=_
      rw [e,this]
      rfl)
    (fun i self hi=>by
      have f2:=f1 i self hi (prA r L k (AK L k+i))
      have st:prA r L k (AK L k+i+1)=cond ((evR L (AK L k+i)).kind==4) (kF (prA r L k (AK L k+i)) (Ah r (evR L (AK L k+i)))) (prA r L k (AK L k+i)):=by
        cases h4:(evR L (AK L k+i)).kind==4 with
        | true=>exact ny rk (sg.mid _ (by omega) (by omega)) (by omega)
        | false=>exact oU h4
      rw [← st] at f2
      exact f2) N (by omega)
  rw [Nat.add_zero,z0] at this
  exact this
set_option maxHeartbeats 4000000 in
theorem ZO {N:Nat} {r1 r2 r3 r4 r5 r6 r7 r9 r10 r11 r12:Int} {r8:Bool} {r0:ByteArray} {r13:Rows} {L:Rows} {k:Int} (hN:2097152<N) (hs:r0.size≤1048576) (h13:r13.length≤1048576) (hL:L.length≤1048576):IY N [.str r0,.int r1,.int r2,.int r3,.int r4,.int r5,.int r6,.int r7,.bool r8,.int r9,.int r10,.int r11,.int r12,.rows r13,.rows L,.int k]=some (kL (iL (⟨r0,r1,r2,r3,r4,r5,r6,r7,r8,r9,r10,r11,r12,r13⟩:Rul) L k)):=by
 show IU (std (EC N) N) (xOf _)=_
 generalize hres:(some (kL (iL (⟨r0,r1,r2,r3,r4,r5,r6,r7,r8,r9,r10,r11,r12,r13⟩:Rul) L k)):Option (List PV))=RR
 simp only [IU,QA,Nf,FC,std,xOf,PXb,Sj hN hs h13 hL,Jt hN hL,PXp,Ll]
 subst hres;simp only [iL]
 cases hc:BZ (⟨r0,r1,r2,r3,r4,r5,r6,r7,r8,r9,r10,r11,r12,r13⟩:Rul) L==0 with
 | false=>rfl
 | true =>
  obtain ⟨il,rk⟩:=Zu (beq_iff_eq.1 hc)
  simp only [PXb,Bool.not_true]
  cases hb:iLt k 0||iLe (opn L L.length:Int) k with
  | true=>rfl
  | false =>
   simp only [Bool.or_eq_false_iff,iLt,iLe,decide_eq_false_iff_not] at hb
   obtain ⟨K,rfl⟩:∃ K:Nat,k=(K:Int):=⟨k.toNat,by omega⟩
   have hk:K<opn L L.length:=by omega
   have sg:=seg hL hk
   have sgl:=sg.lt
   have sge:=sg.le
   have l4:=il.len
   have rg:iRg (AK L K:Int) (AK L (K+1):Int) (L.length:Int)=true:=by simp only [iRg,decide_eq_true_eq];omega
   have sl:=jy (L:=L) (a:=AK L K) sge
   simp only [PXb,AR hk,sg.x0,sg.x1,rg,qA hL hk,Int.toNat_natCast]
   generalize hX:List.drop (AK L K) (List.take (AK L (K+1)) L)=X at *
   have z0:prA (⟨r0,r1,r2,r3,r4,r5,r6,r7,r8,r9,r10,r11,r12,r13⟩:Rul) L K (AK L K)=Kt:=hP (by rw [sg.o0];exact Nat.le_refl _)
   have e1:AK L K+(AK L (K+1) - AK L K)=AK L (K+1):=by omega
   refine Ab (mq hN il rk hk ?_ ?_) rfl
   ·intro c self
    simp only [PXb,PXc,PXn,AH,sl,BC]
   ·intro i self hi c
    have hev:evR X i=evR L (AK L K+i):=by rw [← hX];exact mZ L i hi
    have kx:pvI (AF X i 0)=(evR L (AK L K+i)).kind:=congrArg Ev.kind hev
    have bx:(⟨pvI (AF X i 7),pvI (AF X i 8),pvI (AF X i 9),pvI (AF X i 10),pvI (AF X i 11),pvB (AF X i 12),pvI (AF X i 13),pvI (AF X i 14),pvI (AF X i 15),pvI (AF X i 16),pvB (AF X i 17),pvI (AF X i 18)⟩:Del)=(evR L (AK L K+i)).ball:=congrArg Ev.ball hev
    simp only [PXb,PXc,PXn,AH,PXc,sl,CO (show i≤1099511627776 by omega),Ay hi,AR hi,Nat.reduceAdd,kx,FC,GB,bx,Cre.ls]
    unfold Ah
    cases h4:(evR L (AK L K+i)).kind==4<;>rfl
end Go.Px
end
section
namespace Go.Px
set_option maxRecDepth 100000
theorem my {N:Nat} {L:Rows}  : Ok N [.rows L]=some [.rows (cut L 60)]:=by
 show Oe (std (Kd N) N) (xOf _)=_
 simp only [Oe,std,xOf,PXb,PXc,PXn,PXm,Nat.reduceAdd,Int.reduceBEq,sJ (show (0:Int)≤60 by omega)]
 rfl
def MQ (k s p o:Int) (y:Bool) (t f n b h v:Int):List PV:=[.int k,.int s,.int p,.int o,.bool y,.int 0,.int 0,.int t,.int f,.int n,.int 0,.int b,.bool false,.int h,.int v,.int 0,.int 0,.bool false,.int 0]
def W3:Rows:=[MQ 1 1 0 0 true 0 0 0 0 0 0,MQ 2 0 1 2 false 0 0 0 0 0 0,MQ 8 0 2 0 false 0 0 0 0 0 0,MQ 3 0 1 0 false 0 0 0 0 0 0,MQ 4 0 0 0 false 1 1 1 0 0 0,MQ 4 0 0 0 false 1 0 0 0 1 1,MQ 2 0 2 1 false 0 0 0 0 0 0,MQ 8 0 1 0 false 0 0 0 0 0 0,MQ 3 0 2 0 false 0 0 0 0 0 0,MQ 4 0 0 0 false 2 0 0 0 0 0,MQ 4 0 0 0 false 1 1 0 4 0 0]
def XJ:Rul:=⟨⟨#[84,69,83,84]⟩,2,1,1,4,0,1,1,false,0,0,0,11,[]⟩
theorem sE:OW 4194304 []=some [.rows W3]:=by kernel_rfl
theorem qd:KU 4194304 []=some XJ.ls:=by kernel_rfl
theorem Gb {x:Option (List PV)} {v:List PV} {f:List PV→Option (List PV)} {r:Option (List PV)} (h:x=some v) (hk:f v=r):x.bind f=r:=by rw [h];exact hk
theorem sS (L:Rows):(cut L 60).length≤1048576:=Nat.le_trans (lZ L 60) (show 60≤1048576 by omega)
theorem rm {r:Rul} {L:Rows} {k:Nat} (hc:BZ r L=0) (hk:k<opn L L.length):iL r L (k:Int)=(prA r L k L.length,0):=by
 unfold iL
 have e:(iLt (k:Int) 0||iLe (opn L L.length:Int) (k:Int))=false:=by
  simp only [Bool.or_eq_false_iff,iLt,iLe,decide_eq_false_iff_not]
  omega
 rw [hc,e]
 rfl
end Go.Px
end
section
namespace Go.Px
set_option maxRecDepth 100000
structure Up (x y:Sco):Prop where
 side:y.side=x.side
 runs:x.runs≤y.runs
 wk:x.wickets≤y.wickets
 balls:x.balls≤y.balls
theorem Up.refl (x:Sco):Up x x:=⟨rfl,Int.le_refl _,Int.le_refl _,Int.le_refl _⟩
end Go.Px
end
section
namespace Go.Px
set_option maxRecDepth 100000
theorem ae {L:Rows}:∀ k i m out,OC L (k+1) i m out=cond ((evR L (i+k)).kind==4) (OC L k i m out++[C7 ((i+k:Nat):Int) (stM L k i m) (Az ((i+k:Nat):Int) (stM L k i m) (evR L (i+k))).1 (evR L (i+k)).ball]) (OC L k i m out)
 | 0,i,m,out=>rfl
 | k+1,i,m,out=>by
  have ih:=ae (L:=L) k (i+1) (Az i m (evR L i)).1 (cond ((evR L i).kind==4) (out++[C7 i m (Az i m (evR L i)).1 (evR L i).ball]) out)
  rw [show i+1+k=i+(k+1) by omega] at ih
  exact ih
def E6 (x:List PV):List PV:=[.int (pvI (AA x 0)),.int (pvI (AA x 1)),.int (pvI (AA x 2)),.int (pvI (AA x 3)),.int (pvI (AA x 4)),.int (pvI (AA x 5)),.int (pvI (AA x 6)),.bool (pvB (AA x 7)),.int (pvI (AA x 8)),.int (pvI (AA x 9)),.int (pvI (AA x 10)),.int (pvI (AA x 11)),.int (pvI (AA x 12)),.bool (pvB (AA x 13)),.int (pvI (AA x 14)),.int (pvI (AA x 15)),.int (pvI (AA x 16)),.int (pvI (AA x 17)),.bool (pvB (AA x 18)),.int (pvI (AA x 19)),.int (pvI (AA x 20)),.int (pvI (AA x 21)),.int (pvI (AA x 22)),.int (pvI (AA x 23)),.int (pvI (AA x 24)),.int (pvI (AA x 25)),.bool (pvB (AA x 26)),.bool (pvB (AA x 27)),.bool (pvB (AA x 28)),.bool (pvB (AA x 29)),.int (pvI (AA x 30)),.int (pvI (AA x 31))]
def fil (k:Int):Rows→Rows
 | []=>[]
 | x::D=>cond (pvI (AA x 1)==k) (E6 x::fil k D) (fil k D)
theorem cJ (k:Int):∀ A B,fil k (A++B)=fil k A++fil k B
 | [],B=>rfl
 | x::A,B=>by
  show cond _ (E6 x::fil k (A++B)) (fil k (A++B))=_
  rw [cJ k A B]
  show _=cond (pvI (AA x 1)==k) (E6 x::fil k A) (fil k A)++fil k B
  cases pvI (AA x 1)==k<;>rfl
theorem j9 (k:Int):∀ D,(fil k D).length≤D.length
 | []=>Nat.le_refl _
 | x::D=>by
  have:=j9 k D
  show (cond (pvI (AA x 1)==k) (E6 x::fil k D) (fil k D)).length≤D.length+1
  cases pvI (AA x 1)==k
  ·exact Nat.le_succ_of_le this
  ·exact Nat.succ_le_succ this
theorem eo {D:Rows} {i:Nat} (h:i<D.length):D.take (i+1)=D.take i++[AB D i]:=by
 rw [List.take_add_one,List.getElem?_eq_getElem h]
 unfold AB
 rw [List.getD_eq_getElem?_getD,List.getElem?_eq_getElem h]
 rfl
theorem fH {D:Rows} {i:Nat} {k:Int} (h:i<D.length):fil k (D.take (i+1))=cond (pvI (AF D i 1)==k) (fil k (D.take i)++[E6 (AB D i)]) (fil k (D.take i)):=by
 rw [eo h,cJ]
 show fil k (D.take i)++cond (pvI (AA (AB D i) 1)==k) [E6 (AB D i)] []=_
 show _=cond (pvI (AA (AB D i) 1)==k) _ _
 cases pvI (AA (AB D i) 1)==k
 ·exact List.append_nil _
 ·rfl
theorem gh {d:Del} (h:(DM d==0)=true):0≤d.sector∧d.sector≤8:=by
 unfold DM at h
 cases h1:(iLt d.type 1||iLt 3 d.type||iLt 3 d.source||iLt 10 d.how || !btw d.sector 0 8) with
 | true=>rw [h1] at h;cases h
 | false =>
  simp only [btw,iLe,Bool.or_eq_false_iff,Bool.not_eq_false',Bool.and_eq_true,decide_eq_true_eq] at h1
  exact h1.2
structure BallF (r:Rul) (L:Rows) (a:Nat):Prop where
 one:1≤opn L a
 lnx:lnx (stM L a 0 (AN r).1).inns=opn L a - 1
 inn:IntKind.i64.wrap (((stM L a 0 (AN r).1).inns.length:Int) - 1)=((opn L a - 1:Nat):Int)
 ok:InnOk r (AW (stM L a 0 (AN r).1))
 rules:(stM L a 0 (AN r).1).rules=r
 ref:(Gt r (AW (stM L a 0 (AN r).1)) (evR L a).ball==0)=true
 over:(AW (stM L a 0 (AN r).1)).complete≤1000
theorem V2 {r:Rul} {L:Rows} (hc:BZ r L=0) {a:Nat} (ha:a<L.length) (hk:((evR L a).kind==4)=true):BallF r L a:=by
 obtain ⟨h1,h2,h3,h4,h5⟩:=JQ hc
 obtain ⟨li,so,_⟩:=Lc h1 h4 a (by omega)
 obtain ⟨_,_,hi⟩:=Lc h1 h4 L.length (Nat.le_refl _)
 have e:=beq_iff_eq.1 hk
 have one:=(hi a ha).2.play (by rw [e];rfl) (by rw [e];rfl) (by rw [e];rfl) (by rw [e];rfl)
 have a0:=Tc L.length 0 _ h4 a ha
 rw [Nat.zero_add] at a0
 have q:=(Zq a0).1
 rw [q] at a0
 obtain ⟨g1,g2,g3,g4⟩:=Tu a0 hk
 have sl:=so.len
 have ll:=li.len
 have lx:Px.lnx (stM L a 0 (AN r).1).inns=opn L a - 1:=by
  unfold Px.lnx
  rw [ll,BA (by omega) (by omega)]
  omega
 have rl:=so.rules
 obtain ⟨hv,he,hn,hw,hp,hs⟩:=TW g3
 rw [rl] at hv hp
 have ok:=Ln.1 hv
 have hpb:Bw r (AW (stM L a 0 (AN r).1)) (evR L a)=K4 r (AW (stM L a 0 (AN r).1)) (evR L a).ball:=by unfold Bw;rw [e];rfl
 rw [hpb] at hp
 have cl:=eu h1 h4 a (by omega)
 have at1:=cl.at' (opn L a - 1) (by omega)
 have kx:sco (EP (stM L a 0 (AN r).1)).xs (opn L a - 1)=Bd r.balls (AW (stM L a 0 (AN r).1)):=by
  unfold EP AW
  rw [rl,lx]
  exact NK _ _ (by omega)
 rw [kx] at at1
 have bl:CX r.balls (AW (stM L a 0 (AN r).1)).complete (AW (stM L a 0 (AN r).1)).inover=smi L (L9 r) (opn L a - 1) a:=congrArg Sco.balls at1
 have be:=(Yn ok).1
 have cb:=GG (L:=L) (f:=L9 r) (c:=1) (fun e=>by unfold L9;cases (Ah r e).counts<;>simp) (opn L a - 1) a
 have q4:=(Ed ok.code).balls
 have io:=ok.io
 have co:=ok.complete
 unfold Bl at co
 have m1:=Int.mul_le_mul_of_nonneg_left q4.1 co.1
 refine ⟨one,lx,by rw [ll,BA (by omega) (by omega)];omega,ok,rl,(cP hp).1,?_⟩
 rw [bl] at be
 omega
def Bx (r:Rul) (L:Rows) (k:Nat):Nat→Rows
 | 0=>[]
 | n+1=>cond ((evR L n).kind==4&&Nat.beq (opn L (n+1)) (k+1)) (Bx r L k n++[C7 (n:Int) (stM L n 0 (AN r).1) (stM L (n+1) 0 (AN r).1) (evR L n).ball]) (Bx r L k n)
theorem ja {r:Rul} {L:Rows} (hc:BZ r L=0) (k:Nat):∀ n,n≤L.length→fil (k:Int) (OC L n 0 (AN r).1 [])=Bx r L k n
 | 0,_=>rfl
 | n+1,hn=>by
  have ih:=ja hc k n (by omega)
  rw [ae,Nat.zero_add]
  have si:=YN (L:=L) n 0 (AN r).1
  rw [Nat.zero_add] at si
  show _=cond ((evR L n).kind==4&&Nat.beq (opn L (n+1)) (k+1)) _ (Bx r L k n)
  cases hk:(evR L n).kind==4 with
  | false=>exact ih
  | true =>
   have bf:=V2 hc (show n<L.length by omega) hk
   have on:opn L (n+1)=opn L n:=Y5 (by rw [beq_iff_eq.1 hk];rfl)
   rw [cond_true,cJ,ih,← si,on,Bool.true_and]
   show Bx r L k n++cond (IntKind.i64.wrap (((stM L n 0 (AN r).1).inns.length:Int) - 1)==(k:Int)) [_] []=_
   rw [bf.inn]
   have one:=bf.one
   by_cases e:opn L n=k+1
   ·rw [e,Nd,show ((k+1 - 1:Nat):Int)=(k:Int) by omega,beq_self_eq_true]
    rfl
   ·rw [RG e,beq_false_of_ne (by omega)]
    exact List.append_nil _
theorem ko {r:Rul} {L:Rows} (hc:BZ r L=0) (k:Nat):fil (k:Int) (Ee r L)=Bx r L k L.length:=by
 obtain ⟨h1,h2,h3,h4,h5⟩:=JQ hc
 have:Ee r L=OC L L.length 0 (AN r).1 []:=by
  unfold Ee
  rw [h1]
  obtain ⟨j,j1,j2,j3,j4⟩:=UR L L.length 0 (AN r).1
  show Kl L L.length 0 (AN r).1 []=_
  rw [j3 []]
  rcases j4 with ⟨j5,_⟩ | ⟨j5,j6,j7⟩
  ·rw [j5]
  ·have hh:=Tc L.length 0 _ h4 j j5
   rw [hh] at j6
   cases j6
 rw [this]
 exact ja hc k L.length (Nat.le_refl _)
structure RowF (r:Rul) (x:List PV):Prop where
 over:∃ o:Nat,o≤1000∧pvI (AA x 2)=(o:Int)
 sector:∃ s:Nat,s≤8∧pvI (AA x 19)=(s:Int)
 striker:1≤pvI (AA x 5)∧pvI (AA x 5)≤r.side
 cre:∃ d,pvI (AA x 20)=(AD r d).batter∧pvI (AA x 21)=(AD r d).wides∧pvI (AA x 22)=(AD r d).noballs∧pvI (AA x 23)=(AD r d).byes∧pvI (AA x 24)=(AD r d).legbyes∧pvI (AA x 25)=(AD r d).bowler
theorem sP {r:Rul} {L:Rows} (hc:BZ r L=0) {a:Nat} (ha:a<L.length) (hk:((evR L a).kind==4)=true) (t:Mat):RowF r (C7 (a:Int) (stM L a 0 (AN r).1) t (evR L a).ball):=by
 have bf:=V2 hc ha hk
 obtain ⟨q1,q2,q3,q4,q5,q6⟩:=Ot bf.ref
 have ls:=gh q4
 have co:=bf.ok.complete
 unfold Bl at co
 have st:=bf.ok.st
 have over:=bf.over
 have beg:Cy (AW (stM L a 0 (AN r).1)).batters=true:=by
  obtain ⟨h1,h2,h3,h4,h5⟩:=JQ hc
  have a0:=Tc L.length 0 _ h4 a ha
  rw [Nat.zero_add] at a0
  have q:=(Zq a0).1
  rw [q] at a0
  obtain ⟨g1,g2,g3,g4⟩:=Tu a0 hk
  exact Yc (TW g3).2.2.2.1 (by rw [beq_iff_eq.1 hk];rfl)
 have z1:=(Y1 q1 beg).1
 rw [beq_eq_false_iff_ne] at z1
 refine ⟨⟨(AW (stM L a 0 (AN r).1)).complete.toNat,by omega,?_⟩,⟨(evR L a).ball.sector.toNat,by omega,?_⟩,?_,(evR L a).ball,?_⟩
 ·show (AW (stM L a 0 (AN r).1)).complete=_
  omega
 ·show (evR L a).ball.sector=_
  omega
 ·show 1≤(AW (stM L a 0 (AN r).1)).striker∧(AW (stM L a 0 (AN r).1)).striker≤r.side
  omega
 ·have rl:=bf.rules
  show (AD (stM L a 0 (AN r).1).rules _).batter=_∧(AD (stM L a 0 (AN r).1).rules _).wides=_∧(AD (stM L a 0 (AN r).1).rules _).noballs=_∧(AD (stM L a 0 (AN r).1).rules _).byes=_∧(AD (stM L a 0 (AN r).1).rules _).legbyes=_∧(AD (stM L a 0 (AN r).1).rules _).bowler=_
  rw [rl]
  exact ⟨rfl,rfl,rfl,rfl,rfl,rfl⟩
theorem oq {r:Rul} {L:Rows} (hc:BZ r L=0) (k:Nat):∀ n,n≤L.length→(Bx r L k n).length≤n∧∀ x,x∈Bx r L k n→RowF r x
 | 0,_=>⟨Nat.le_refl _,fun x hx=>absurd hx (List.not_mem_nil)⟩
 | n+1,hn=>by
  obtain ⟨i1,i2⟩:=oq hc k n (by omega)
  show (cond ((evR L n).kind==4&&Nat.beq (opn L (n+1)) (k+1)) _ (Bx r L k n)).length≤n+1∧∀ x,x∈cond ((evR L n).kind==4&&Nat.beq (opn L (n+1)) (k+1)) _ (Bx r L k n)→RowF r x
  cases hk:(evR L n).kind==4 with
  | false=>exact ⟨Nat.le_succ_of_le i1,i2⟩
  | true =>
   cases Nat.beq (opn L (n+1)) (k+1) with
   | false=>exact ⟨Nat.le_succ_of_le i1,i2⟩
   | true =>
    refine ⟨?_,fun x hx=>?_⟩
    ·show (Bx r L k n++[_]).length≤n+1
     rw [List.length_append]
     exact Nat.succ_le_succ i1
    ·rcases List.mem_append.1 hx with hx | hx
     ·exact i2 x hx
     ·rw [List.mem_singleton.1 hx]
      exact sP hc (by omega) hk _
end Go.Px
end
section
namespace Go.Px
set_option maxRecDepth 100000
def OL (r:Rul) (L:Rows) (k:Int):Rows×Int:=cond (!(BZ r L==0)) ([],BZ r L) (cond (iLt k 0||iLe (opn L L.length:Int) k) ([],2) (fil k (Ee r L),0))
end Go.Px
end
section
namespace Go.Px
set_option maxRecDepth 100000
theorem Vp {F : (List AY → Option (List PV)) → List PV → Option (List PV)} {len p : Nat} (enc : Nat → List AY) (stop fin : List PV) (hp : p ≤ len)
    (h0:p=len→∀ self,F self ((enc len).map Leaf.pv)=some fin) (h1:∀ i self,i<p→F self ((enc i).map Leaf.pv)=self (enc (i+1)))
    (h2:p<len→∀ self,F self ((enc p).map Leaf.pv)=some stop) (n:Nat) (hn:len<n) :
    Cv F n ((enc 0).map Leaf.pv)=some (cond (Nat.blt p len) stop fin):=by
  have main:∀ (k i n:Nat),i+k=p→k<n→Cv F n ((enc i).map Leaf.pv)=some (cond (Nat.blt p len) stop fin):=by
    intro k
    induction k with
    | zero =>
      intro i n hk hn
      obtain ⟨n,rfl⟩:∃ m,n=m+1:=⟨n - 1,by omega⟩
      obtain rfl:i=p:=by omega
      show F _ _=_
      rcases Nat.lt_or_ge i len with h | h
      · rw [h2 h,show Nat.blt i len=true from Nat.ble_eq_true_of_le h];rfl
      · obtain rfl:i=len:=by omega
        rw [h0 rfl,show Nat.blt i i=false from by
          cases hq:Nat.blt i i with
          | false=>rfl
          | true=>exact absurd (Nat.le_of_ble_eq_true hq) (by omega)]
        rfl
    | succ k ih =>
      intro i n hk hn
      obtain ⟨n,rfl⟩:∃ m,n=m+1:=⟨n - 1,by omega⟩
      show F _ _=_
      rw [h1 i _ (by omega)]
      exact ih (i+1) n (by omega) (by omega)
  exact main p 0 n (by omega) (by omega)
def ID (f:Nat→Bool):Nat→Nat→Nat
 | 0,i=>i
 | k+1,i=>cond (f i) i (ID f k (i+1))
theorem Lg (f:Nat→Bool):∀ k i,ID f k i≤i+k
 | 0,i=>Nat.le_refl _
 | k+1,i=>by
  show cond (f i) i (ID f k (i+1))≤_
  have:=Lg f k (i+1)
  cases f i
  ·show ID f k (i+1)≤_;omega
  ·show i≤_;omega
theorem QI (f:Nat→Bool):∀ k i j,i≤j→j<ID f k i→f j=false
 | 0,i,j,h1,h2=>by change j<i at h2;omega
 | k+1,i,j,h1,h2=>by
  change j<cond (f i) i (ID f k (i+1)) at h2
  cases hf:f i with
  | true=>rw [hf] at h2;change j<i at h2;omega
  | false =>
   rw [hf] at h2
   rcases Nat.lt_or_ge i j with h | h
   ·exact QI f k (i+1) j h h2
   ·obtain rfl:j=i:=by omega
    exact hf
theorem NQ (f:Nat→Bool):∀ k i,ID f k i<i+k→f (ID f k i)=true
 | 0,i,h=>by change i<i at h;omega
 | k+1,i,h=>by
  change cond (f i) i (ID f k (i+1))<i+(k+1) at h
  show f (cond (f i) i (ID f k (i+1)))=true
  cases hf:f i with
  | true=>exact hf
  | false =>
   rw [hf] at h
   change ID f k (i+1)<i+(k+1) at h
   exact NQ f k (i+1) (by omega)
structure BL where
 p:Int
 b:Int
 m:Int
 r:Int
 w:Int
 wd:Int
 nb:Int
def BL.ls (s:BL):List PV:=[.int s.p,.int s.b,.int s.m,.int s.r,.int s.w,.int s.wd,.int s.nb]
def Ai (xs:List BL):Rows:=xs.map BL.ls
def zBL (b m:Int):BL:=⟨b,0,m,0,0,0,0⟩
def bln (xs:List BL) (i:Nat):BL:=xs.getD i (zBL 0 0)
theorem fC (xs:List BL) (i:Nat):bln xs i=(match xs[i]? with | some s=>s | none=>zBL 0 0):=by
 unfold bln
 rw [List.getD_eq_getElem?_getD]
 cases xs[i]?<;>rfl
theorem RO {xs:List BL} {i:Nat} (h:i<xs.length):bln xs i=xs[i]:=by rw [fC,List.getElem?_eq_getElem h]
theorem js (xs:List BL) (i:Nat):AB (Ai xs) i=(match xs[i]? with | some s=>s.ls | none=>[]):=by
 unfold AB Ai
 rw [List.getD_eq_getElem?_getD,List.getElem?_map]
 cases xs[i]?<;>rfl
theorem Ld (xs:List BL):(Ai xs).length=xs.length:=List.length_map _
theorem PXv : (∀ xs : List BL, (Ai xs).length = xs.length) ∧ (∀ (xs : List BL) (i : Nat), pvI (AF (Ai xs) i 0) = (bln xs i).p) ∧ (∀ (xs : List BL) (i : Nat), pvI (AF (Ai xs) i 1) = (bln xs i).b) ∧ (∀ (xs : List BL) (i : Nat), pvI (AF (Ai xs) i 2) = (bln xs i).m) ∧ (∀ (xs : List BL) (i : Nat), pvI (AF (Ai xs) i 3) = (bln xs i).r) ∧
    (∀ (xs:List BL) (i:Nat),pvI (AF (Ai xs) i 4)=(bln xs i).w)∧(∀ (xs:List BL) (i:Nat),pvI (AF (Ai xs) i 5)=(bln xs i).wd)∧(∀ (xs:List BL) (i:Nat),pvI (AF (Ai xs) i 6)=(bln xs i).nb):=by
  refine ⟨Ld,?_,?_,?_,?_,?_,?_,?_⟩
  all_goals (intro xs i;rw [fC];unfold AF;rw [js];cases xs[i]?<;>rfl)
theorem JY {xs:List BL} {i j:Nat} {v:Int} (f:BL→BL) (h:∀ s:BL,Am s.ls j [.int v]=(f s).ls):(Ai xs).set i (Am (AB (Ai xs) i) j [.int v])=Ai (xs.set i (f (bln xs i))):=by
 by_cases hi:i<xs.length
 ·have e:AB (Ai xs) i=(bln xs i).ls:=by rw [js,fC,List.getElem?_eq_getElem hi]
  rw [e,h]
  exact List.map_set.symm
 ·rw [List.set_eq_of_length_le (by rw [Ld];omega),List.set_eq_of_length_le (by omega)]
theorem PXx : (∀ (xs : List BL) (i : Nat) (v : Int), (Ai xs).set i (Am (AB (Ai xs) i) 1 [.int v]) = Ai (xs.set i { bln xs i with b := v })) ∧ (∀ (xs : List BL) (i : Nat) (v : Int), (Ai xs).set i (Am (AB (Ai xs) i) 2 [.int v]) = Ai (xs.set i { bln xs i with m := v })) ∧
    (∀ (xs:List BL) (i:Nat) (v:Int),(Ai xs).set i (Am (AB (Ai xs) i) 3 [.int v])=Ai (xs.set i { bln xs i with r:=v }))∧(∀ (xs:List BL) (i:Nat) (v:Int),(Ai xs).set i (Am (AB (Ai xs) i) 4 [.int v])=Ai (xs.set i { bln xs i with w:=v })) ∧
    (∀ (xs:List BL) (i:Nat) (v:Int),(Ai xs).set i (Am (AB (Ai xs) i) 5 [.int v])=Ai (xs.set i { bln xs i with wd:=v }))∧(∀ (xs:List BL) (i:Nat) (v:Int),(Ai xs).set i (Am (AB (Ai xs) i) 6 [.int v])=Ai (xs.set i { bln xs i with nb:=v })) ∧
    (∀ (xs:List BL) (a b c d e f g:Int),Ai xs++[([.int a,.int b,.int c,.int d,.int e,.int f,.int g]:List PV)]=Ai (xs++[⟨a,b,c,d,e,f,g⟩])) :=
  ⟨fun xs i v=>JY (j:=1) (v:=v) (fun s=>{ s with b:=v }) (fun s=>rfl),fun xs i v=>JY (j:=2) (v:=v) (fun s=>{ s with m:=v }) (fun s=>rfl),fun xs i v=>JY (j:=3) (v:=v) (fun s=>{ s with r:=v }) (fun s=>rfl),fun xs i v=>JY (j:=4) (v:=v) (fun s=>{ s with w:=v }) (fun s=>rfl),fun xs i v=>JY (j:=5) (v:=v) (fun s=>{ s with wd:=v }) (fun s=>rfl),fun xs i v=>JY (j:=6) (v:=v) (fun s=>{ s with nb:=v }) (fun s=>rfl),
    fun xs a b c d e f g=>(List.map_append (f:=BL.ls) (l₁:=xs) (l₂:=[⟨a,b,c,d,e,f,g⟩])).symm⟩
abbrev wr6 (n:Int):Int:=IntKind.i64.wrap n
def blX (x:List PV) (md:Bool) (s:BL):BL:=⟨s.p,cond (pvB (AA x 26)) (wr6 (s.b+1)) s.b,cond md (wr6 (s.m+1)) s.m,wr6 (s.r+pvI (AA x 25)),cond (pvB (AA x 28)) (wr6 (s.w+1)) s.w,cond (pvI (AA x 8)==2) (wr6 (s.wd+1)) s.wd,cond (pvI (AA x 8)==2) s.nb (cond (pvI (AA x 8)==3) (wr6 (s.nb+1)) s.nb)⟩
def ES (b:Int) (xs:List BL):Nat:=ID (fun j=>(bln xs j).p==b) xs.length 0
def T6 (b:Int) (xs:List BL):List BL:=cond (Nat.blt (ES b xs) xs.length) xs (xs++[zBL b 0])
def ZH (x:List PV) (md:Bool) (xs:List BL):List BL:=(T6 (pvI (AA x 4)) xs).set (ES (pvI (AA x 4)) xs) (blX x md (bln (T6 (pvI (AA x 4)) xs) (ES (pvI (AA x 4)) xs)))
def LU (md:Nat→Bool) (X:Rows):Nat→List BL
 | 0=>[]
 | i+1=>ZH (AB X i) (md i) (LU md X i)
def CK (md:Nat→Bool) (X:Rows) (b m0:Int):Nat→BL
 | 0=>zBL b m0
 | i+1=>cond (pvI (AA (AB X i) 4)==b) (blX (AB X i) (md i) (CK md X b m0 i)) (CK md X b m0 i)
def boN (X:Rows):Nat→List Int
 | 0=>[]
 | i+1=>cond ((boN X i).any (·==pvI (AA (AB X i) 4))) (boN X i) (boN X i++[pvI (AA (AB X i) 4)])
theorem bM (X:Rows):∀ i,(boN X i).length≤i
 | 0=>Nat.le_refl _
 | i+1=>by
  have:=bM X i
  show (cond _ (boN X i) (boN X i++[_])).length≤i+1
  cases (boN X i).any (·==pvI (AA (AB X i) 4))
  ·show (boN X i++[_]).length≤_
   rw [List.length_append]
   exact Nat.succ_le_succ this
  ·exact Nat.le_succ_of_le this
theorem mO {l:List Int} {b:Int} (h:l.any (·==b)=false):b∉l:=fun hm=>by
 have:l.any (·==b)=true:=List.any_eq_true.2 ⟨b,hm,beq_self_eq_true b⟩
 rw [h] at this
 cases this
theorem WB (X:Rows):∀ i,(boN X i).Nodup
 | 0=>List.nodup_nil
 | i+1=>by
  have ih:=WB X i
  show (cond _ (boN X i) (boN X i++[_])).Nodup
  cases ha:(boN X i).any (·==pvI (AA (AB X i) 4)) with
  | true=>exact ih
  | false =>
   refine List.nodup_append.2 ⟨ih,List.pairwise_singleton _ _,fun x hx y hy=>?_⟩
   rw [List.mem_singleton.1 hy]
   exact fun e=>mO ha (e▸hx)
theorem pB (md:Nat→Bool) (X:Rows) (b m0:Int):∀ i,(CK md X b m0 i).p=b
 | 0=>rfl
 | i+1=>by
  have ih:=pB md X b m0 i
  show (cond _ (blX _ _ (CK md X b m0 i)) (CK md X b m0 i)).p=b
  cases pvI (AA (AB X i) 4)==b<;>exact ih
theorem fw (md:Nat→Bool) (X:Rows) (b m0:Int):∀ i,b∉boN X i→CK md X b m0 i=zBL b m0
 | 0,_=>rfl
 | i+1,h=>by
  change b∉cond _ (boN X i) (boN X i++[_]) at h
  have h1:b∉boN X i∧(pvI (AA (AB X i) 4)==b)=false:=by
   cases ha:(boN X i).any (·==pvI (AA (AB X i) 4)) with
   | true =>
    rw [ha] at h
    refine ⟨h,beq_eq_false_iff_ne.2 (fun e=>h ?_)⟩
    obtain ⟨y,hy,hye⟩:=List.any_eq_true.1 ha
    rw [← e,← beq_iff_eq.1 hye]
    exact hy
   | false =>
    rw [ha] at h
    have h:b∉boN X i++[_]:=h
    exact ⟨fun hm=>h (List.mem_append_left _ hm),beq_eq_false_iff_ne.2 (fun e=>h (List.mem_append_right _ (by rw [e];exact List.mem_singleton.2 rfl)))⟩
  show cond _ (blX _ _ (CK md X b m0 i)) (CK md X b m0 i)=_
  rw [h1.2]
  exact fw md X b m0 i h1.1
theorem ZM {a b:Nat} (h:a<b):Nat.blt a b=true:=Nat.ble_eq_true_of_le h
theorem Z5 {a b:Nat} (h:¬ a<b):Nat.blt a b=false:=by
 cases hq:Nat.blt a b with
 | false=>rfl
 | true=>exact absurd (Nat.le_of_ble_eq_true hq) h
theorem bU (md:Nat→Bool) (X:Rows):∀ i,LU md X i=(boN X i).map fun b=>CK md X b 0 i
 | 0=>rfl
 | i+1=>by
  have ih:=bU md X i
  have nd:=WB X i
  show ZH (AB X i) (md i) (LU md X i)=(cond ((boN X i).any (·==pvI (AA (AB X i) 4))) (boN X i) (boN X i++[pvI (AA (AB X i) 4)])).map _
  rw [ih]
  generalize hb:pvI (AA (AB X i) 4)=b
  generalize hB:boN X i=B at *
  have ls1:∀ c,CK md X c 0 (i+1)=cond (b==c) (blX (AB X i) (md i) (CK md X c 0 i)) (CK md X c 0 i):=fun c=>by rw [← hb];rfl
  have hpj:∀ j (hj:j<B.length),(bln (B.map fun b=>CK md X b 0 i) j).p=B[j]:=fun j hj=>by
   rw [RO (by rw [List.length_map];exact hj),List.getElem_map,pB]
  have ple:=Lg (fun j=>(bln (B.map fun b=>CK md X b 0 i) j).p==b) (B.map fun b=>CK md X b 0 i).length 0
  have pno:=QI (fun j=>(bln (B.map fun b=>CK md X b 0 i) j).p==b) (B.map fun b=>CK md X b 0 i).length 0
  have pyes:=NQ (fun j=>(bln (B.map fun b=>CK md X b 0 i) j).p==b) (B.map fun b=>CK md X b 0 i).length 0
  unfold ZH
  rw [hb]
  change ES b (B.map fun b=>CK md X b 0 i)≤_ at ple
  change ∀ j,0≤j→j<ES b (B.map fun b=>CK md X b 0 i)→_ at pno
  change ES b (B.map fun b=>CK md X b 0 i)<_→((bln (B.map fun b=>CK md X b 0 i) (ES b (B.map fun b=>CK md X b 0 i))).p==b)=true at pyes
  rw [Nat.zero_add,List.length_map] at ple
  rw [Nat.zero_add,List.length_map] at pyes
  unfold T6
  rw [List.length_map]
  generalize ES b (B.map fun b=>CK md X b 0 i)=p at *
  by_cases hp:p<B.length
  ·have hbp:B[p]=b:=by rw [← hpj p hp];exact beq_iff_eq.1 (pyes hp)
   have hany:B.any (·==b)=true:=List.any_eq_true.2 ⟨b,by rw [← hbp];exact List.getElem_mem hp,beq_self_eq_true b⟩
   rw [ZM hp,hany,cond_true,cond_true]
   apply List.ext_getElem
   ·simp
   ·intro j h1 h2o
    have h2:j<B.length:=by rw [List.length_map] at h2o;exact h2o
    rw [List.getElem_set,show (List.map (fun b=>CK md X b 0 (i+1)) B)[j]'h2o=CK md X B[j] 0 (i+1) from List.getElem_map _,ls1]
    by_cases hj:p=j
    ·subst hj
     rw [if_pos rfl,hbp,beq_self_eq_true,cond_true,RO (by rw [List.length_map];exact hp),List.getElem_map,hbp]
    ·rw [if_neg hj,List.getElem_map]
     have:¬ b=B[j]:=fun e=>hj (by
      rcases Nat.lt_trichotomy p j with h | h | h
      ·exact absurd (hbp.trans e) (List.pairwise_iff_getElem.1 nd p j hp h2 h)
      ·exact h
      ·exact absurd (e.symm.trans hbp.symm) (List.pairwise_iff_getElem.1 nd j p h2 hp h))
     rw [beq_eq_false_iff_ne.2 this,cond_false]
  ·obtain rfl:p=B.length:=by omega
   have hno:b∉B:=fun hm=>by
    obtain ⟨j,hj,e⟩:=List.getElem_of_mem hm
    have:=pno j (Nat.zero_le _) hj
    change ((bln (B.map fun b=>CK md X b 0 i) j).p==b)=false at this
    rw [hpj j hj,e,beq_self_eq_true] at this
    cases this
   have hany:B.any (·==b)=false:=by
    cases h:B.any (·==b) with
    | false=>rfl
    | true =>
     obtain ⟨y,hy,hye⟩:=List.any_eq_true.1 h
     exact absurd (beq_iff_eq.1 hye▸hy) hno
   have hz:CK md X b 0 i=zBL b 0:=fw md X b 0 i (by rw [hB];exact hno)
   rw [Z5 hp,hany,cond_false,cond_false,List.map_append]
   have hs:bln ((B.map fun b=>CK md X b 0 i)++[zBL b 0]) B.length=zBL b 0:=by
    rw [RO (by simp),List.getElem_append_right (by simp)]
    simp
   rw [hs,List.set_append_right _ _ (by simp)]
   have e1:(B.map fun b=>CK md X b 0 (i+1))=B.map fun b=>CK md X b 0 i:=List.map_congr_left (fun c hc=>by
    rw [ls1,beq_eq_false_iff_ne.2 (fun e=>hno (by rw [e];exact hc)),cond_false])
   rw [e1]
   simp only [List.length_map,Nat.sub_self,List.set_cons_zero,List.map_cons,List.map_nil,ls1,beq_self_eq_true,cond_true,hz]
def mdP (md:Nat→Bool) (X:Rows) (b:Int):Nat→Int
 | 0=>0
 | i+1=>cond (pvI (AA (AB X i) 4)==b&&md i) (wr6 (mdP md X b i+1)) (mdP md X b i)
def HM (X:Rows) (o b:Int) (j:Nat):Bool:=(pvI (AA (AB X j) 2)==o)&&(!(pvI (AA (AB X j) 4)==b) || !(pvI (AA (AB X j) 25)==0))
def Bv (X:Rows) (o:Int):Nat→Int
 | 0=>0
 | j+1=>cond ((pvI (AA (AB X j) 2)==o)&&pvB (AA (AB X j) 26)) (wr6 (Bv X o j+1)) (Bv X o j)
def mdS (bal:Int) (X:Rows) (o b:Int):Bool := !Nat.blt (ID (HM X o b) X.length 0) X.length&&(Bv X o X.length==bal)
def UO (X:Rows) (i:Nat):Bool:=Nat.beq i 0 || !(pvI (AA (AB X (i - 1)) 2)==pvI (AA (AB X i) 2))
def mdA (bal:Int) (X:Rows) (i:Nat):Bool:=UO X i&&mdS bal X (pvI (AA (AB X i) 2)) (pvI (AA (AB X i) 4))
theorem cZ {bal:Int} {X:Rows} {o b:Int}:mdS bal X o b=true↔(∀ j,j<X.length→(pvI (AA (AB X j) 2)==o)=true→(pvI (AA (AB X j) 4)==b)=true∧pvI (AA (AB X j) 25)=0)∧(Bv X o X.length==bal)=true:=by
 unfold mdS
 rw [Bool.and_eq_true]
 refine and_congr_left (fun _=>?_)
 have ple:=Lg (HM X o b) X.length 0
 have pno:=QI (HM X o b) X.length 0
 have pyes:=NQ (HM X o b) X.length 0
 rw [Nat.zero_add] at ple pyes
 generalize ID (HM X o b) X.length 0=p at *
 constructor
 ·intro h j hj hjo
  have hp:¬ p<X.length:=fun hl=>by rw [ZM hl] at h;cases h
  have:=pno j (Nat.zero_le _) (by omega)
  unfold HM at this
  rw [hjo,Bool.true_and,Bool.or_eq_false_iff,Bool.not_eq_false',Bool.not_eq_false'] at this
  exact ⟨this.1,beq_iff_eq.1 this.2⟩
 ·intro h
  rw [Z5 (fun hl=>?_)];rfl
  have:=pyes hl
  unfold HM at this
  rw [Bool.and_eq_true] at this
  obtain ⟨h1,h2⟩:=h _ hl this.1
  have h3:=this.2
  simp only [beq_iff_eq.1 h1,h2,beq_self_eq_true] at h3
  exact absurd h3 (by decide)
end Go.Px
end
section
namespace Go.Px
set_option maxRecDepth 100000
set_option maxHeartbeats 2000000 in
theorem RP {N:Nat} {r1 r2 r3 r4 r5 r6 r7 r9 r10 r11 r12:Int} {r8:Bool} {r0:ByteArray} {r13:Rows} {X:Rows} {o:Int} {b:Int} (hN:2097152<N) (hX:X.length≤1000000):HC N [.str r0,.int r1,.int r2,.int r3,.int r4,.int r5,.int r6,.int r7,.bool r8,.int r9,.int r10,.int r11,.int r12,.rows r13,.rows X,.int o,.int b]=some [.bool (mdS r4 X o b)]:=by
 show HN (std (ON N) N) (xOf _)=_
 simp only [HN,std,xOf,PXb]
 have ple:=Lg (HM X o b) X.length 0
 have pno:=QI (HM X o b) X.length 0
 have pyes:=NQ (HM X o b) X.length 0
 rw [Nat.zero_add] at ple pyes
 refine Ab (Vp (len:=X.length) (p:=ID (HM X o b) X.length 0) (fun i=>[.int (Bv X o i),.int (i:Int)]) [.int 0,.bool false] [.int 1,.int (Bv X o X.length)] ple ?_ ?_ ?_ N (by omega)) ?_
 ·intro _ self
  simp only [PXb,PXc,PXn,AH,BC]
 ·intro i self hi
  have hb:=pno i (Nat.zero_le _) hi
  unfold HM at hb
  have hl:i<X.length:=by omega
  simp only [PXb,PXc,PXn,AH,CO (show i≤1099511627776 by omega),Ay hl,AR hl,AF,Bv]
  cases h1:pvI (AA (AB X i) 2)==o with
  | false=>rfl
  | true =>
   rw [h1,Bool.true_and] at hb
   cases h2:pvI (AA (AB X i) 4)==b<;>cases h3:pvI (AA (AB X i) 25)==0<;>rw [h2,h3] at hb<;>first | (cases hb;done) | (cases pvB (AA (AB X i) 26)<;>rfl)
 ·intro hl self
  have hb:=pyes hl
  generalize ID (HM X o b) X.length 0=p at *
  unfold HM at hb
  simp only [PXb,PXc,PXn,AH,Ay hl,AR hl,AF]
  cases h1:pvI (AA (AB X p) 2)==o<;>cases h2:pvI (AA (AB X p) 4)==b<;>cases h3:pvI (AA (AB X p) 25)==0<;>rw [h1,h2,h3] at hb<;>first | (cases hb;done) | rfl
 ·unfold mdS
  cases Nat.blt (ID (HM X o b) X.length 0) X.length<;>rfl
end Go.Px
end
section
namespace Go.Px
set_option maxRecDepth 100000
def Yr (x:List PV):Prop:=x.length=32∧E6 x=x
theorem dF {L:Rows}:∀ k i m out,(∀ x∈out,Yr x)→∀ x∈OC L k i m out,Yr x
 | 0,i,m,out,h=>h
 | k+1,i,m,out,h=>by
  show ∀ x∈OC L k (i+1) (Az i m (evR L i)).1 (cond ((evR L i).kind==4) (out++[C7 i m (Az i m (evR L i)).1 (evR L i).ball]) out),Yr x
  refine dF k (i+1) _ _ ?_
  cases (evR L i).kind==4 with
  | false=>exact h
  | true =>
   intro x hx
   rcases List.mem_append.1 hx with hx | hx
   ·exact h x hx
   ·rw [List.mem_singleton.1 hx];exact ⟨rfl,rfl⟩
theorem jE {r:Rul} {L:Rows} (hc:BZ r L=0):∀ x∈Ee r L,Yr x:=by
 obtain ⟨h1,h2,h3,h4,h5⟩:=JQ hc
 have:Ee r L=OC L L.length 0 (AN r).1 []:=by
  unfold Ee
  rw [h1]
  obtain ⟨j,j1,j2,j3,j4⟩:=UR L L.length 0 (AN r).1
  show Kl L L.length 0 (AN r).1 []=_
  rw [j3 []]
  rcases j4 with ⟨j5,_⟩ | ⟨j5,j6,j7⟩
  ·rw [j5]
  ·have hh:=Tc L.length 0 _ h4 j j5
   rw [hh] at j6
   cases j6
 rw [this]
 exact dF _ _ _ _ (fun x hx=>absurd hx List.not_mem_nil)
theorem bh {k:Int}:∀ {A:Rows},(∀ x∈A,Yr x)→(∀ x∈A,(pvI (AA x 1)==k)=true)→fil k A=A
 | [],_,_=>rfl
 | x::A,h,h1=>by
  show cond (pvI (AA x 1)==k) (E6 x::fil k A) (fil k A)=_
  rw [h1 x List.mem_cons_self,bh (fun y hy=>h y (List.mem_cons_of_mem _ hy)) (fun y hy=>h1 y (List.mem_cons_of_mem _ hy)),(h x List.mem_cons_self).2]
  rfl
theorem OH {D:Rows} {i:Nat} (h:i<D.length):AB D i∈D:=by
 unfold AB
 rw [List.getD_eq_getElem?_getD,List.getElem?_eq_getElem h]
 exact List.getElem_mem h
theorem jA {D:Rows} {x:List PV} {n:Nat} (h:x∈D.take n):∃ j,j<n∧j<D.length∧x=AB D j:=by
 obtain ⟨j,hj,e⟩:=List.getElem_of_mem h
 rw [List.length_take] at hj
 refine ⟨j,by omega,by omega,?_⟩
 rw [← e,List.getElem_take]
 unfold AB
 rw [List.getD_eq_getElem?_getD,List.getElem?_eq_getElem (by omega)]
 rfl
theorem ar:∀ (ps r:List PV) (off:Nat),r.length=off+ps.length→Am r off ps=r.take off++ps
 | [],r,off,h=>by
  show r=_
  rw [List.append_nil,List.take_of_length_le (by simpa using Nat.le_of_eq h)]
 | p::ps,r,off,h=>by
  show Am (r.set off p) (off+1) ps=_
  have hl:off<r.length:=by rw [h];simp
  rw [ar ps (r.set off p) (off+1) (by rw [List.length_set,h];simp;omega),List.take_add_one,List.getElem?_set_self hl,List.take_set_of_le (Nat.le_refl _)]
  simp
theorem iy {ps r:List PV} (h:r.length=ps.length):Am r 0 ps=ps:=by rw [ar ps r 0 (by omega)];rfl
def dlN (D:Rows) (k:Int) (p:Nat):Nat→Rows×Nat
 | 0=>(D,p)
 | t+1=>cond (pvI (AA (AB (dlN D k p t).1 (p+1+t)) 1)==k) ((dlN D k p t).1.set (dlN D k p t).2 (E6 (AB (dlN D k p t).1 (p+1+t))),(dlN D k p t).2+1) (dlN D k p t)
structure DlF (D:Rows) (k:Int) (p t:Nat):Prop where
 len:(dlN D k p t).1.length=D.length
 le:(dlN D k p t).2≤p+t
 cut:(dlN D k p t).1.take (dlN D k p t).2=fil k (D.take (p+1+t))
 rest:∀ j,p+1+t≤j→AB (dlN D k p t).1 j=AB D j
 row:∀ x∈(dlN D k p t).1,Yr x
theorem ri {D:Rows} {k:Int} {p:Nat} (hD:∀ x∈D,Yr x) (hp:p<D.length) (h0:∀ j,j<p→(pvI (AA (AB D j) 1)==k)=true) (h1:(pvI (AA (AB D p) 1)==k)=false):∀ t,p+1+t≤D.length→DlF D k p t
 | 0,_=>by
  refine ⟨rfl,Nat.le_refl _,?_,fun j _=>rfl,hD⟩
  show D.take p=fil k (D.take (p+1))
  rw [fH hp,show pvI (AF D p 1)=pvI (AA (AB D p) 1) from rfl,h1,cond_false,bh (fun x hx=>hD x (List.mem_of_mem_take hx)) (fun x hx=>by
   obtain ⟨j,h2,h3,rfl⟩:=jA hx
   exact h0 j h2)]
 | t+1,ht=>by
  obtain ⟨f1,f2,f3,f4,f5⟩:=ri hD hp h0 h1 t (by omega)
  have hj:p+1+t<D.length:=by omega
  have hr:=f4 (p+1+t) (Nat.le_refl _)
  have ft:=fH (k:=k) hj
  rw [show pvI (AF D (p+1+t) 1)=pvI (AA (AB D (p+1+t)) 1) from rfl] at ft
  have e:dlN D k p (t+1)=cond (pvI (AA (AB D (p+1+t)) 1)==k) ((dlN D k p t).1.set (dlN D k p t).2 (E6 (AB D (p+1+t))),(dlN D k p t).2+1) (dlN D k p t):=by rw [← hr];rfl
  cases hk:pvI (AA (AB D (p+1+t)) 1)==k with
  | false =>
   rw [hk,cond_false] at e ft
   exact ⟨by rw [e];exact f1,by rw [e];omega,by rw [e,f3,show p+1+(t+1)=p+1+t+1 by omega,ft],fun j hj2=>by rw [e];exact f4 j (by omega),by rw [e];exact f5⟩
  | true =>
   rw [hk,cond_true] at e ft
   have hl:(dlN D k p t).2<(dlN D k p t).1.length:=by omega
   refine ⟨by rw [e];show (List.set _ _ _).length=_;rw [List.length_set];exact f1,by rw [e];show (dlN D k p t).2+1≤_;omega,?_,fun j hj2=>?_,?_⟩
   ·rw [e,show p+1+(t+1)=p+1+t+1 by omega,ft,← f3]
    show ((dlN D k p t).1.set (dlN D k p t).2 _).take ((dlN D k p t).2+1)=_
    rw [List.take_add_one,List.getElem?_set_self hl,List.take_set_of_le (Nat.le_refl _)]
    rfl
   ·rw [e,← f4 j (by omega)]
    show AB ((dlN D k p t).1.set (dlN D k p t).2 _) j=_
    unfold AB
    simp only [List.getD_eq_getElem?_getD,List.getElem?_set_ne (show (dlN D k p t).2≠j by omega)]
   ·rw [e]
    intro x hx
    rcases List.mem_or_eq_of_mem_set hx with h | h
    ·exact f5 x h
    ·have:=hD _ (OH hj)
     rw [h,this.2]
     exact this
def Sl (r:Rul) (L:Rows) (k:Int):Rows×Int:=cond ((OL r L k).2==0) (Ai (LU (mdA r.balls (OL r L k).1) (OL r L k).1 (OL r L k).1.length),0) ([],(OL r L k).2)
def ox (x:List PV):List AY:=[.int (pvI (AA x 0)),.int (pvI (AA x 1)),.int (pvI (AA x 2)),.int (pvI (AA x 3)),.int (pvI (AA x 4)),.int (pvI (AA x 5)),.int (pvI (AA x 6)),.bool (pvB (AA x 7)),.int (pvI (AA x 8)),.int (pvI (AA x 9)),.int (pvI (AA x 10)),.int (pvI (AA x 11)),.int (pvI (AA x 12)),.bool (pvB (AA x 13)),.int (pvI (AA x 14)),.int (pvI (AA x 15)),.int (pvI (AA x 16)),.int (pvI (AA x 17)),.bool (pvB (AA x 18)),.int (pvI (AA x 19)),.int (pvI (AA x 20)),.int (pvI (AA x 21)),.int (pvI (AA x 22)),.int (pvI (AA x 23)),.int (pvI (AA x 24)),.int (pvI (AA x 25)),.bool (pvB (AA x 26)),.bool (pvB (AA x 27)),.bool (pvB (AA x 28)),.bool (pvB (AA x 29)),.int (pvI (AA x 30)),.int (pvI (AA x 31))]
theorem pO {ys:List BL} {p:Nat} (h:p<ys.length) (s:BL):bln (ys.set p s) p=s:=by rw [RO (by rw [List.length_set];exact h),List.getElem_set_self]
theorem pY (b:Int) (xs:List BL):ES b xs<(T6 b xs).length∧(T6 b xs).length≤xs.length+1:=by
 have ple:=Lg (fun j=>(bln xs j).p==b) xs.length 0
 rw [Nat.zero_add] at ple
 change ES b xs≤xs.length at ple
 unfold T6
 by_cases h:ES b xs<xs.length
 ·rw [ZM h,cond_true];exact ⟨h,Nat.le_succ _⟩
 ·rw [Z5 h,cond_false,List.length_append]
  exact ⟨by simp only [List.length_cons,List.length_nil];omega,Nat.le_refl _⟩
theorem PXw:(∀ (xs:List BL) (i:Nat),pvI (AA (AB (Ai xs) i) 0)=(bln xs i).p)∧(∀ (xs:List BL) (i:Nat),pvI (AA (AB (Ai xs) i) 1)=(bln xs i).b)∧(∀ (xs:List BL) (i:Nat),pvI (AA (AB (Ai xs) i) 2)=(bln xs i).m)∧(∀ (xs:List BL) (i:Nat),pvI (AA (AB (Ai xs) i) 3)=(bln xs i).r)∧(∀ (xs:List BL) (i:Nat),pvI (AA (AB (Ai xs) i) 4)=(bln xs i).w)∧(∀ (xs:List BL) (i:Nat),pvI (AA (AB (Ai xs) i) 5)=(bln xs i).wd)∧(∀ (xs:List BL) (i:Nat),pvI (AA (AB (Ai xs) i) 6)=(bln xs i).nb):=PXv.2
theorem qv {N : Nat} (hN : 2097152 < N) {xs : List BL} (hx : xs.length ≤ 1000000) {b : Int} {J : List AY} {F : (List AY → Option (List PV)) → List PV → Option (List PV)}
    (h0:∀ self,F self (.int (xs.length:Int)::J.map Leaf.pv)=some (.int 1::J.map Leaf.pv)) (h1:∀ i self,i<xs.length→F self (.int (i:Int)::J.map Leaf.pv)=cond ((bln xs i).p==b) (some (.int 0::.int (i:Int)::J.map Leaf.pv)) (self (.int ((i+1:Nat):Int)::J))) :
    Cv F N (.int 0::J.map Leaf.pv)=some (cond (Nat.blt (ES b xs) xs.length) (.int 0::.int (ES b xs:Int)::J.map Leaf.pv) (.int 1::J.map Leaf.pv)):=by
  have ple:=Lg (fun j=>(bln xs j).p==b) xs.length 0
  have pno:=QI (fun j=>(bln xs j).p==b) xs.length 0
  have pyes:=NQ (fun j=>(bln xs j).p==b) xs.length 0
  rw [Nat.zero_add] at ple pyes
  have:=Vp (F:=F) (len:=xs.length) (p:=ES b xs) (fun i=>.int (i:Int)::J) (.int 0::.int (ES b xs:Int)::J.map Leaf.pv) (.int 1::J.map Leaf.pv) ple (fun _ self=>h0 self) (fun i self hi=>by
    have:=h1 i self (Nat.lt_of_lt_of_le hi ple)
    rw [show ((bln xs i).p==b)=false from pno i (Nat.zero_le _) hi] at this
    exact this) (fun hl self=>by
    have:=h1 (ES b xs) self hl
    rw [show ((bln xs (ES b xs)).p==b)=true from pyes hl] at this
    exact this) N (by omega)
  exact this
set_option maxHeartbeats 8000000 in
theorem PQ {N:Nat} {r1 r2 r3 r4 r5 r6 r7 r9 r10 r11 r12:Int} {r8:Bool} {r0:ByteArray} {r13:Rows} {L:Rows} {k:Int} (hN:2097152<N) (hs:r0.size≤1048576) (h13:r13.length≤1048576) (hL:L.length≤1000000):Bj N [.str r0,.int r1,.int r2,.int r3,.int r4,.int r5,.int r6,.int r7,.bool r8,.int r9,.int r10,.int r11,.int r12,.rows r13,.rows L,.int k]=some [.rows (Sl (⟨r0,r1,r2,r3,r4,r5,r6,r7,r8,r9,r10,r11,r12,r13⟩:Rul) L k).1,.int (Sl (⟨r0,r1,r2,r3,r4,r5,r6,r7,r8,r9,r10,r11,r12,r13⟩:Rul) L k).2]:=by
 show EO (std (Ba N) N) (xOf _)=_
 generalize hres:(some [.rows (Sl (⟨r0,r1,r2,r3,r4,r5,r6,r7,r8,r9,r10,r11,r12,r13⟩:Rul) L k).1,.int (Sl (⟨r0,r1,r2,r3,r4,r5,r6,r7,r8,r9,r10,r11,r12,r13⟩:Rul) L k).2]:Option (List PV))=RR
 have hl:L.length≤1048576:=by omega
 simp only [EO,Oa,MV,Oz,LQ,std,xOf,PXb,Sj hN hs h13 hl,Jt hN hl,aQ hN hs h13 hl,fX,PXc]
 subst hres;simp only [Sl,OL]
 cases hc:BZ (⟨r0,r1,r2,r3,r4,r5,r6,r7,r8,r9,r10,r11,r12,r13⟩:Rul) L==0 with
 | false=>simp only [PXb,Bool.not_false,hc]
 | true =>
  have c0:=beq_iff_eq.1 hc
  have pl:=lE (⟨r0,r1,r2,r3,r4,r5,r6,r7,r8,r9,r10,r11,r12,r13⟩:Rul) L
  have l4:=(JQ c0).2.2.1
  have rd:=jE c0
  cases h0:iLt k 0 with
  | true=>rfl
  | false =>
   simp only [PXb,Bool.not_true,Bool.not_false,PXp,Ll]
   cases h1:iLe (opn L L.length:Int) k with
   | true=>rfl
   | false =>
    simp only [PXb]
    generalize Ee (⟨r0,r1,r2,r3,r4,r5,r6,r7,r8,r9,r10,r11,r12,r13⟩:Rul) L=D at *
    have ple:=Lg (fun j => !(pvI (AA (AB D j) 1)==k)) D.length 0
    have pno:=QI (fun j => !(pvI (AA (AB D j) 1)==k)) D.length 0
    have pyes:=NQ (fun j => !(pvI (AA (AB D j) 1)==k)) D.length 0
    rw [Nat.zero_add] at ple pyes
    generalize ID (fun j => !(pvI (AA (AB D j) 1)==k)) D.length 0=p at *
    refine Gb (v:=[.rows (fil k D),.int k]) ?_ ?_
    ·refine Gb (v:=[.int (cond (Nat.blt p D.length) (p:Int) (-1)),.int k]) ?_ ?_
     ·refine Ab (Vp (len:=D.length) (p:=p) (fun i=>[.int (i:Int),.int k]) [.int 0,.int (p:Int),.int k] [.int 1,.int k] ple ?_ ?_ ?_ N (by omega)) ?_
      ·intro _ self
       simp only [PXb,PXc,PXn,AH,BC]
      ·intro i self hi
       have hb:=pno i (Nat.zero_le _) hi
       have hl2:i<D.length:=by omega
       simp only [PXb,PXc,PXn,AH,CO (show i≤1099511627776 by omega),Ay hl2,AR hl2,AF,hb]
      ·intro hl2 self
       have hb:=pyes hl2
       simp only [PXb,PXc,PXn,AH,Ay hl2,AR hl2,AF,hb]
      ·cases Nat.blt p D.length<;>rfl
     ·by_cases hp:p<D.length
      ·have f:=ri rd hp (fun j hj=>by
        have:=pno j (Nat.zero_le _) hj
        rwa [Bool.not_eq_false'] at this) (by
        have:=pyes hp
        rwa [Bool.not_eq_true'] at this)
       have pm:((p:Int) == -1)=false:=beq_eq_false_iff_ne.2 (by omega)
       have e9:p+1+(D.length - (p+1))=D.length:=by omega
       simp only [PXb,ZM hp,pm,CO (show p≤1099511627776 by omega)]
       refine Ab (Cb (len:=D.length - (p+1)) (fun t=>[.rows (dlN D k p t).1,.int ((dlN D k p t).2:Int),.int ((p+1+t:Nat):Int),.int k]) [.rows (dlN D k p (D.length - (p+1))).1,.int ((dlN D k p (D.length - (p+1))).2:Int),.int k] ?_ ?_ N (by omega)) ?_
       ·intro self
        have fl:=(f (D.length - (p+1)) (by omega)).len
        have el:(dlN D k p (D.length - (p+1))).1.length=p+1+(D.length - (p+1)):=by omega
        simp only [PXb,PXc,PXn,AH,el,BC]
       ·intro t self ht
        obtain ⟨f1,f2,f3,f4,f5⟩:=f t (by omega)
        have hj:p+1+t<(dlN D k p t).1.length:=by omega
        have hi:(dlN D k p t).2<(dlN D k p t).1.length:=by omega
        have rl:=(f5 _ (OH hi)).1
        have rj:=(f5 _ (OH hj)).1
        have e:dlN D k p (t+1)=cond (pvI (AA (AB (dlN D k p t).1 (p+1+t)) 1)==k) ((dlN D k p t).1.set (dlN D k p t).2 (E6 (AB (dlN D k p t).1 (p+1+t))),(dlN D k p t).2+1) (dlN D k p t):=rfl
        have pf:Am (AB (dlN D k p t).1 (dlN D k p t).2) 0 (E6 (AB (dlN D k p t).1 (p+1+t)))=E6 (AB (dlN D k p t).1 (p+1+t)):=iy (by rw [rl];rfl)
        rw [e]
        generalize dlN D k p t=q at *
        simp only [PXb,PXc,PXn,AH,Ay hj,AR hj,AR hi,CO (show p+1+t≤1099511627776 by omega),CO (show q.2≤1099511627776 by omega),AF,Int.toNat_natCast]
        cases pvI (AA (AB q.1 (p+1+t)) 1)==k with
        | false=>rfl
        | true =>
         refine congrArg self ?_
         refine congrArg (fun z:Rows=>([Leaf.rows z,.int ((q.2+1:Nat):Int),.int ((p+1+t+1:Nat):Int),.int k]:List AY)) ?_
         exact congrArg (fun z=>List.set q.1 q.2 z) pf
       ·obtain ⟨f1,f2,f3,f4,f5⟩:=f (D.length - (p+1)) (by omega)
        rw [e9,List.take_length] at f3
        generalize dlN D k p (D.length - (p+1))=q at *
        have g1:iRg (q.2:Int) (q.1.length:Int) (q.1.length:Int)=true:=by simp only [iRg,decide_eq_true_eq];omega
        have t1:∀ z:List PV,(List.drop (Int.toNat 0) (List.take q.2 q.1)++List.replicate (List.drop q.2 (List.take q.1.length q.1)).length z).take q.2=fil k D:=fun z=>by
         rw [← f3]
         show List.take q.2 (List.take q.2 q.1++_)=_
         rw [List.take_append_of_le_length (by rw [List.length_take];omega),List.take_take,Nat.min_self]
        have t2:∀ z:List PV,iRg 0 (q.2:Int) (((List.drop (Int.toNat 0) (List.take q.2 q.1)++List.replicate (List.drop q.2 (List.take q.1.length q.1)).length z).length:Nat):Int)=true:=fun z=>by
         simp only [iRg,decide_eq_true_eq,List.length_append,List.length_drop,List.length_take]
         have:(Int.toNat 0)=0:=rfl
         omega
        simp only [PXb,PXc,PXn,AH,g1,Int.toNat_natCast,t1,t2]
        rfl
      ·have pe:p=D.length:=by omega
       have fa:fil k D=D:=bh rd (fun x hx=>by
        obtain ⟨j,hj,e⟩:=List.getElem_of_mem hx
        have:=pno j (Nat.zero_le _) (by omega)
        rw [Bool.not_eq_false'] at this
        rw [← e]
        unfold AB at this
        rwa [List.getD_eq_getElem?_getD,List.getElem?_eq_getElem hj] at this)
       have pm:((-1:Int) == -1)=true:=rfl
       simp only [PXb,Z5 hp,pm,fa]
    ·have X4:(fil k D).length≤1000000:=Nat.le_trans (j9 k D) (by omega)
     generalize fil k D=X at *
     simp only [PXb]
     refine Ab (Cb (len:=X.length) (fun i=>[.rows (Ai (LU (mdA r4 X) X i)),.int (i:Int)]) [.rows (Ai (LU (mdA r4 X) X X.length))] ?_ ?_ N (by omega)) rfl
     ·intro self
      simp only [PXb,PXc,PXn,AH,BC]
     ·intro i self hi
      have e:LU (mdA r4 X) X (i+1)=ZH (AB X i) (mdA r4 X i) (LU (mdA r4 X) X i):=rfl
      have ln:(LU (mdA r4 X) X i).length≤i:=by rw [bU,List.length_map];exact bM X i
      rw [e]
      generalize LU (mdA r4 X) X i=xs at *
      simp only [PXb,PXc,PXn,AH,Ay hi,AR hi,AF]
      have hnew:UO X i=(Nat.beq i 0 || !(pvI (AA (AB X (i - 1)) 2)==pvI (AA (AB X i) 2))):=rfl
      have hmd:mdA r4 X i=(UO X i&&mdS r4 X (pvI (AA (AB X i) 2)) (pvI (AA (AB X i) 4))):=rfl
      rw [hmd,hnew]
      generalize AB X i=x at *
      obtain ⟨pa1,pa2⟩:=pY (pvI (AA x 4)) xs
      refine Gb (v:=.int (cond (Nat.blt (ES (pvI (AA x 4)) xs) xs.length) (ES (pvI (AA x 4)) xs:Int) (-1))::E6 x) ?_ ?_
      ·refine Ab (qv hN (show xs.length≤1000000 by omega) (b:=pvI (AA x 4)) (J:=ox x) ?_ ?_) ?_
       ·intro self
        simp only [PXb,PXc,PXn,AH,PXv,BC]
        rfl
       ·intro j self hj
        simp only [PXb,PXc,PXn,AH,PXw,CO (show j≤1099511627776 by omega),Ay (show j<(Ai xs).length by rw [Ld];exact hj),AR (show j<(Ai xs).length by rw [Ld];exact hj),ox]
       ·cases Nat.blt (ES (pvI (AA x 4)) xs) xs.length<;>rfl
      ·refine Gb (v:=[.rows (Ai (T6 (pvI (AA x 4)) xs)),.int (ES (pvI (AA x 4)) xs:Int)]) ?_ ?_
       ·have ple:=Lg (fun j=>(bln xs j).p==pvI (AA x 4)) xs.length 0
        rw [Nat.zero_add] at ple
        change ES (pvI (AA x 4)) xs≤xs.length at ple
        unfold T6
        simp only [PXb,PXc,PXn,AH,E6]
        generalize ES (pvI (AA x 4)) xs=q at *
        by_cases hq:q<xs.length
        ·have q0:iLt (q:Int) 0=false:=by simp only [iLt,decide_eq_false_iff_not];omega
         simp only [ZM hq,cond_true,q0,cond_false]
        ·obtain rfl:q=xs.length:=by omega
         have q0:iLt (-1) 0=true:=rfl
         have sm:iSm ((xs.length+1:Nat):Int) 56=true:=GE (by omega) (by omega)
         have w1:IntKind.i64.wrap (((xs.length+1:Nat):Int) - 1)=(xs.length:Int):=by rw [BA (by omega) (by omega)];omega
         simp only [Z5 hq,cond_false,q0,cond_true,Ld,List.length_append,List.length_cons,List.length_nil,Nat.zero_add,sm,w1,PXx]
         rfl
       ·unfold ZH
        generalize T6 (pvI (AA x 4)) xs=ys at *
        generalize ES (pvI (AA x 4)) xs=q at *
        have iq:iIn (q:Int) ((Ai ys).length:Int)=true:=by rw [Ld];exact AR pa1
        have bs:=fun s=>pO pa1 s
        have hz:((i:Int)==0)=Nat.beq i 0:=by
         cases i with
         | zero=>rfl
         | succ i=>exact beq_eq_false_iff_ne.2 (by omega)
        have hw:Nat.beq i 0=false→IntKind.i64.wrap ((i:Int) - 1)=((i - 1:Nat):Int)∧iIn ((i - 1:Nat):Int) (X.length:Int)=true:=fun h=>by
         have:i≠0:=fun e=>by rw [e] at h;cases h
         exact ⟨by rw [BA (by omega) (by omega)];omega,AR (by omega)⟩
        have fin:∀ {K:Option (List PV)} {y z:BL},K=self [.rows (Ai (ys.set q y)),.int ((i+1:Nat):Int)]→y=z→K=self [.rows (Ai (ys.set q z)),.int ((i+1:Nat):Int)]:=fun {K y z} h e=>by rw [h,e]
        unfold blX
        have wi:IntKind.i64.wrap ((i:Int)+1)=((i+1:Nat):Int):=CO (show i≤1099511627776 by omega)
        cases hn:Nat.beq i 0 with
        | true =>
         cases hct:pvB (AA x 26)<;>cases hwk:pvB (AA x 28)<;>cases ht2:pvI (AA x 8)==2<;>cases ht3:pvI (AA x 8)==3<;>simp only [PXb,PXc,PXn,AH,E6,iq,PXx,PXw,Int.toNat_natCast,bs,List.set_set,hct,hwk,ht2,ht3,hz,hn,wi]<;>(refine Gb (RP hN X4) ?_;cases mdS r4 X (pvI (AA x 2)) (pvI (AA x 4))<;>rfl)
        | false =>
         obtain ⟨w1,w2⟩:=hw hn
         cases ho:pvI (AA (AB X (i - 1)) 2)==pvI (AA x 2) with
         | true =>
          cases hct:pvB (AA x 26)<;>cases hwk:pvB (AA x 28)<;>cases ht2:pvI (AA x 8)==2<;>cases ht3:pvI (AA x 8)==3<;>simp only [PXb,PXc,PXn,AH,E6,iq,PXx,PXw,Int.toNat_natCast,bs,List.set_set,hct,hwk,ht2,ht3,hz,hn,wi,w1,w2,ho]<;>rfl
         | false =>
          cases hct:pvB (AA x 26)<;>cases hwk:pvB (AA x 28)<;>cases ht2:pvI (AA x 8)==2<;>cases ht3:pvI (AA x 8)==3<;>simp only [PXb,PXc,PXn,AH,E6,iq,PXx,PXw,Int.toNat_natCast,bs,List.set_set,hct,hwk,ht2,ht3,hz,hn,wi,w1,w2,ho]<;>(refine Gb (RP hN X4) ?_;cases mdS r4 X (pvI (AA x 2)) (pvI (AA x 4))<;>rfl)
end Go.Px
end
section
namespace Go.Px
set_option maxRecDepth 100000
theorem qG {r:Rul} (rk:RulOk r) {x:List PV} (h:RowF r x):0≤pvI (AA x 25)∧pvI (AA x 25)≤36:=by
 obtain ⟨d,h0,h1,h2,h3,h4,h5⟩:=h.cre
 have:=kc rk { (evR [] 0) with kind:=4,ball:=d }
 rw [h5]
 exact this
theorem sC:Sl XJ W3 1=(Ai [⟨2,1,0,5,0,1,0⟩],0):=by kernel_rfl
theorem qj:GZ 4194304 [.int 2,.int 1,.int 0,.int 5,.int 0,.int 1,.int 0,.int 4]=some [.str ⟨#[48,46,49,45,48,45,53,45,48]⟩,.int 0]:=by kernel_rfl
theorem qy:EI 4194304 [.int 2,.int 1,.int 0,.int 5,.int 0,.int 1,.int 0,.int 4]=some [.int 20,.int 1,.int 0]:=by kernel_rfl
set_option maxHeartbeats 2000000 in
theorem jS:KE 4194304 []=some [.bool true]:=by
 have hs:XJ.name.size≤1048576:=by decide
 have hl:W3.length≤1000000:=by decide
 have hN:2097152<4194304:=by omega
 have k1:Bj 4194304 (XJ.ls++[.rows W3,.int 1])=some [.rows (Sl XJ W3 1).1,.int (Sl XJ W3 1).2]:=PQ hN hs (Nat.zero_le _) hl
 rw [sC] at k1
 obtain ⟨xs,hxs⟩:∃ xs:List BL,xs=[⟨2,1,0,5,0,1,0⟩]:=⟨_,rfl⟩
 rw [← hxs] at k1
 have i1:iIn 0 ((Ai xs).length:Int)=true:=by rw [hxs];rfl
 have i2:(((Ai xs).length:Int)==1)=true:=by rw [hxs];rfl
 have z0:(0:Int).toNat=0:=rfl
 have e0:pvI (AF (Ai xs) 0 0)=2:=by rw [hxs];rfl
 have e1:pvI (AF (Ai xs) 0 1)=1:=by rw [hxs];rfl
 have e2:pvI (AF (Ai xs) 0 2)=0:=by rw [hxs];rfl
 have e3:pvI (AF (Ai xs) 0 3)=5:=by rw [hxs];rfl
 have e4:pvI (AF (Ai xs) 0 4)=0:=by rw [hxs];rfl
 have e5:pvI (AF (Ai xs) 0 5)=1:=by rw [hxs];rfl
 have e6:pvI (AF (Ai xs) 0 6)=0:=by rw [hxs];rfl
 show OD (std (D7 4194304) 4194304) (xOf [])=_
 simp only [OD,OS,RC,OY,TY,VR,std,xOf,PXb,sE,qd]
 refine Gb k1 ?_
 simp only [PXb,PXc,PXn,AH,Nat.reduceAdd,z0,i1,i2,e0,e1,e2,e3,e4,e5,e6]
 have cb:(!(0:Int)==0||(!(2:Int)==2||(!(1:Int)==1||(!(0:Int)==0||(!(5:Int)==5||(!(0:Int)==0||(!(1:Int)==1 || !(0:Int)==0)))))))=false:=by decide
 rw [cb,cond_false]
 refine Gb qj ?_
 simp only [PXb,PXc,PXn,AH,Nat.reduceAdd,z0,i1,i2,e0,e1,e2,e3,e4,e5,e6]
 refine Gb qy ?_
 simp only [PXb,PXc,PXn,AH,beq_self_eq_true]
end Go.Px
end
