/- Part 15. -/
import Derived.Test.YtmpgkalgfmnpjaaGreatPart14
import Derived.KernelRfl
set_option linter.unusedVariables false
set_option linter.unusedSimpArgs false
section
namespace Go.Px
set_option maxRecDepth 100000
theorem YQ {xs ys:List Sco} (hl:xs.length=ys.length) (h:∀ j,j<xs.length→sco xs j=sco ys j):xs=ys:=by
 apply List.ext_getElem?
 intro i
 by_cases hi:i<xs.length
 ·have:=h i hi
  rw [JC,JC,List.getElem?_eq_getElem hi,List.getElem?_eq_getElem (by omega)] at this
  rw [List.getElem?_eq_getElem hi,List.getElem?_eq_getElem (by omega)]
  exact congrArg some this
 ·rw [List.getElem?_eq_none (by omega),List.getElem?_eq_none (by omega)]
def Dz (r:Rul) (L:Rows) (sd:Nat→Int) (n q i:Nat):List Sco:=(List.range n).map fun j=>{ Bc r L sd n j i with side:=cond (Nat.blt j q) (sd j) 0 }
theorem DA (r:Rul) (L:Rows) (sd:Nat→Int) (n q i:Nat):(Dz r L sd n q i).length=n:=by unfold Dz;rw [List.length_map,List.length_range]
theorem Hh (r:Rul) (L:Rows) (sd:Nat→Int) {n q i j:Nat} (h:j<n):sco (Dz r L sd n q i) j={ Bc r L sd n j i with side:=cond (Nat.blt j q) (sd j) 0 }:=by
 rw [JC]
 unfold Dz
 rw [List.getElem?_map,List.getElem?_range h]
 rfl
theorem ep {a b:Nat} (h:a<b):Nat.blt a b=true:=Nat.ble_eq_true_of_le h
theorem rc {a b:Nat} (h:¬ a<b):Nat.blt a b=false:=by
 cases hq:Nat.blt a b with
 | false=>rfl
 | true=>exact absurd (Nat.le_of_ble_eq_true hq) h
theorem Y1 {xs:List Sco} {k:Nat} (h:k<xs.length) (s:Sco):sco (xs.set k s) k=s:=by rw [mB _ _ _ _ h,if_pos rfl]
theorem yC {r:Rul} {L:Rows} {sd:Nat→Int} {n k i:Nat} (h:k<n):(Dz r L sd n k i).set k { sco (Dz r L sd n k i) k with side:=sd k }=Dz r L sd n (k+1) i:=by
 refine YQ (by rw [List.length_set,DA,DA]) (fun j hj=>?_)
 rw [List.length_set,DA] at hj
 rw [mB _ _ _ _ (by rw [DA];exact hj),Hh _ _ _ h,Hh _ _ _ hj,Hh _ _ _ hj]
 by_cases e:k=j
 ·subst e
  rw [if_pos rfl,ep (Nat.lt_succ_self k)]
  rfl
 ·rw [if_neg e]
  have:Nat.blt j k=Nat.blt j (k+1):=by
   by_cases hl:j<k
   ·rw [ep hl,ep (by omega)]
   ·rw [rc hl,rc (by omega)]
  rw [this]
theorem AAL (r:Rul) (L:Rows) (sd:Nat→Int) (n i:Nat):Dz r L sd n n i=(List.range n).map fun j=>Bc r L sd n j i:=by
 refine YQ (by rw [DA,List.length_map,List.length_range]) (fun j hj=>?_)
 rw [DA] at hj
 rw [Hh _ _ _ hj,JC,List.getElem?_map,List.getElem?_range hj,ep hj]
 rfl
theorem ym {r:Rul} {L:Rows} {sd:Nat→Int} {n i:Nat} (ho:opn L i=0) (h13:∀ j,j<i→((evR L j).kind==13)=true→1≤opn L (j+1)):List.replicate n dS=Dz r L sd n 0 i:=by
 have pz:∀ j,pnS L sd n j i=0:=fun j=>by
  have:∀ m,m≤i→pnS L sd n j m=0:=by
   intro m
   induction m with
   | zero=>intro _;rfl
   | succ m ih =>
    intro hm
    rw [ma,ih (by omega)]
    cases k13:(evR L m).kind==13 with
    | false=>rfl
    | true =>
     have h1:=h13 m (by omega) k13
     have h2:=Ko L (show m+1≤i by omega)
     omega
  exact this i (Nat.le_refl i)
 refine YQ (by rw [DA,List.length_replicate]) (fun j hj=>?_)
 rw [List.length_replicate] at hj
 rw [Hh _ _ _ hj,JC,List.getElem?_replicate,if_pos hj,rc (by omega)]
 unfold Bc
 have z:∀ f:Ev→Int,smi L f j i=0:=fun f=>Yz i (by omega)
 simp only [pz,z]
 rfl
theorem dD {r : Rul} {L : Rows} {sd : Nat → Int} {n k q i : Nat} {y : Sco} (hk : k < n) (hy : y = { Bc r L sd n k (i + 1) with side := cond (Nat.blt k q) (sd k) 0 }) (ho : ∀ j, j < n → ¬ k = j → Bc r L sd n j (i + 1) = Bc r L sd n j i) :
    (Dz r L sd n q i).set k y=Dz r L sd n q (i+1):=by
  refine YQ (by rw [List.length_set,DA,DA]) (fun j hj=>?_)
  rw [List.length_set,DA] at hj
  rw [mB _ _ _ _ (by rw [DA];exact hj),Hh _ _ _ hj,Hh _ _ _ hj]
  by_cases e:k=j
  · subst e
    rw [if_pos rfl,hy]
  · rw [if_neg e,ho j hj e]
theorem rq {r:Rul} {L:Rows} {sd:Nat→Int} {n q i:Nat} (ho:∀ j,j<n→Bc r L sd n j (i+1)=Bc r L sd n j i):Dz r L sd n q i=Dz r L sd n q (i+1):=by
 refine YQ (by rw [DA,DA]) (fun j hj=>?_)
 rw [DA] at hj
 rw [Hh _ _ _ hj,Hh _ _ _ hj,ho j hj]
def pI (r:Rul) (e:Ev) (k:Nat) (d:Option Nat) (xs:List Sco):List Sco :=
  let x1:=cond (W0 e) (xs.set k { sco xs k with wickets:=IntKind.i64.wrap ((sco xs k).wickets+1) }) xs
  let c:=AD r e.ball
  cond (e.kind==4)
    (x1.set k { sco x1 k with runs:=IntKind.i64.wrap ((sco x1 k).runs+DT c),balls:=cond c.counts (IntKind.i64.wrap ((sco x1 k).balls+1)) (sco x1 k).balls,wides:=IntKind.i64.wrap ((sco x1 k).wides+c.wides),noballs:=IntKind.i64.wrap ((sco x1 k).noballs+c.noballs),byes:=IntKind.i64.wrap ((sco x1 k).byes+c.byes),legbyes:=IntKind.i64.wrap ((sco x1 k).legbyes+c.legbyes) })
    (cond (e.kind==13) (match d with
      | some j=>x1.set j { sco x1 j with runs:=IntKind.i64.wrap ((sco x1 j).runs+5),pens:=IntKind.i64.wrap ((sco x1 j).pens+5) }
      | none=>x1) x1)
theorem ww {sd:Nat→Int} {n k j:Nat} {s:Int} (hk:k<n) (h:Lg sd n k s=some j):j<n:=by
 rcases (yu h).2 with h | h<;>omega
theorem yr {r:Rul} {L:Rows} {sd:Nat→Int} {n k i:Nat} (rk:RulOk r) (hk:k<n) (ho:opn L (i+1)=k+1) (hi:i<4000):pI r (evR L i) k (Lg sd n k (evR L i).side) (Dz r L sd n (k+1) i)=Dz r L sd n (k+1) (i+1):=by
 have hn:∀ j,¬ k=j→Nat.beq (opn L (i+1)) (j+1)=false:=fun j hj=>jc (by omega)
 have hy:Nat.beq (opn L (i+1)) (k+1)=true:=by rw [ho];exact ez _
 have sm:=fun j=>AAQ rk L sd n j (show i≤4000 by omega)
 have cs:=yl r L sd n
 have hp:opn L (i+1) - 1=k:=by omega
 have tl:k<(Dz r L sd n (k+1) i).length:=by rw [DA];exact hk
 unfold pI
 cases h4:(evR L i).kind==4 with
 | true =>
  have k4:=beq_iff_eq.1 h4
  have h13:((evR L i).kind==13)=false:=by rw [k4];rfl
  have ce:Av r (evR L i)=AD r (evR L i).ball:=by unfold Av;rw [h4];rfl
  have co:=E7 rk (evR L i)
  have tb:=zY rk (evR L i)
  rw [← ce]
  have fin:∀ y:Sco,y={ Bc r L sd n k (i+1) with side:=cond (Nat.blt k (k+1)) (sd k) 0 }→(Dz r L sd n (k+1) i).set k y=Dz r L sd n (k+1) (i+1):=fun y hyy=>dD hk hyy (fun j hj hjk=>by
   rw [cs,h13,Bool.false_and,cond_false,DY,hn j hjk];rfl)
  have ex:Bc r L sd n k (i+1)=QJ r (evR L i) (Bc r L sd n k i):=by rw [cs,h13,Bool.false_and,cond_false,DY,hy];rfl
  have s:=sm k
  have s1:=s.runs
  have s2:=s.wk
  have s3:=s.balls
  have s4:=s.wides
  have s5:=s.no
  have s6:=s.bb
  have s7:=s.lb
  have c1:=co.wi
  have c2:=co.no
  have c3:=co.bb
  have c4:=co.lb
  unfold lZ at tb
  have w1:IntKind.i64.wrap ((Bc r L sd n k i).runs+DT (Av r (evR L i)))=(Bc r L sd n k i).runs+DT (Av r (evR L i)):=BL (by omega) (by omega)
  have w2:IntKind.i64.wrap ((Bc r L sd n k i).wickets+1)=(Bc r L sd n k i).wickets+1:=BL (by omega) (by omega)
  have w3:IntKind.i64.wrap ((Bc r L sd n k i).balls+1)=(Bc r L sd n k i).balls+1:=BL (by omega) (by omega)
  have w4:IntKind.i64.wrap ((Bc r L sd n k i).wides+(Av r (evR L i)).wides)=(Bc r L sd n k i).wides+(Av r (evR L i)).wides:=BL (by omega) (by omega)
  have w5:IntKind.i64.wrap ((Bc r L sd n k i).noballs+(Av r (evR L i)).noballs)=(Bc r L sd n k i).noballs+(Av r (evR L i)).noballs:=BL (by omega) (by omega)
  have w6:IntKind.i64.wrap ((Bc r L sd n k i).byes+(Av r (evR L i)).byes)=(Bc r L sd n k i).byes+(Av r (evR L i)).byes:=BL (by omega) (by omega)
  have w7:IntKind.i64.wrap ((Bc r L sd n k i).legbyes+(Av r (evR L i)).legbyes)=(Bc r L sd n k i).legbyes+(Av r (evR L i)).legbyes:=BL (by omega) (by omega)
  have od:=xW (evR L i)
  cases hb:W0 (evR L i) with
  | false =>
   simp only [cond_false,cond_true,Hh _ _ _ hk,w1,w3,w4,w5,w6,w7]
   refine fin _ ?_
   rw [ex]
   unfold QJ
   rw [od,hb]
   cases (Av r (evR L i)).counts<;>simp only [cond_false,cond_true,Int.add_zero]
  | true =>
   simp only [cond_true,Y1 tl,List.set_set,Hh _ _ _ hk,w1,w2,w3,w4,w5,w6,w7]
   refine fin _ ?_
   rw [ex]
   unfold QJ
   rw [od,hb]
   cases (Av r (evR L i)).counts<;>simp only [cond_false,cond_true,Int.add_zero]
 | false =>
  have s:=sm k
  have s2:=s.wk
  have w2:IntKind.i64.wrap ((Bc r L sd n k i).wickets+1)=(Bc r L sd n k i).wickets+1:=BL (by omega) (by omega)
  have od:=xW (evR L i)
  cases h13:(evR L i).kind==13 with
  | true =>
   have k13:=beq_iff_eq.1 h13
   have ob:W0 (evR L i)=false:=by unfold W0;rw [k13];rfl
   have oe:Du (evR L i)=0:=by unfold Du;rw [k13];rfl
   have ex:∀ j,Bc r L sd n j (i+1)=NK (cond (isS (Lg sd n k (evR L i).side) j) 5 0) (Bc r L sd n j i):=fun j=>by
    rw [cs,h13,Bool.true_and,hp,V5 _ h4 oe]
    cases Nat.beq (opn L (i+1)) (j+1)<;>rfl
   simp only [ob,cond_false,cond_true]
   cases hd:Lg sd n k (evR L i).side with
   | none =>
    refine rq (fun j hj=>?_)
    rw [ex,hd]
    exact DY _
   | some d =>
    have dl:=ww hk hd
    have q:=sm d
    have q1:=q.runs
    have q2:=q.pens
    have v1:IntKind.i64.wrap ((Bc r L sd n d i).runs+5)=(Bc r L sd n d i).runs+5:=BL (by omega) (by omega)
    have v2:IntKind.i64.wrap ((Bc r L sd n d i).pens+5)=(Bc r L sd n d i).pens+5:=BL (by omega) (by omega)
    simp only [Hh _ _ _ dl,v1,v2]
    refine dD dl ?_ (fun j hj hjd=>?_)
    ·rw [ex,hd,show isS (some d) d=true from ez d]
     rfl
    ·rw [ex,hd,show isS (some d) j=false from jc hjd]
     exact DY _
  | false =>
   have ex:∀ j,Bc r L sd n j (i+1)=cond (Nat.beq (opn L (i+1)) (j+1)) (QJ r (evR L i) (Bc r L sd n j i)) (Bc r L sd n j i):=fun j=>by
    rw [cs,h13,Bool.false_and,cond_false,DY]
   have oe:Qt (evR L i)=Du (evR L i):=by unfold Qt;rw [h4];rfl
   rw [oe] at od
   cases hb:W0 (evR L i) with
   | false =>
    rw [hb] at od
    simp only [cond_false]
    refine rq (fun j hj=>?_)
    rw [ex,V5 _ h4 od]
    cases Nat.beq (opn L (i+1)) (j+1)<;>rfl
   | true =>
    rw [hb] at od
    simp only [cond_false,cond_true,Hh _ _ _ hk,w2]
    refine dD hk ?_ (fun j hj hjk=>?_)
    ·rw [ex,hy,cond_true,ia _ h4,od]
     rfl
    ·rw [ex,hn j hjk];rfl
def sdT (L:Rows):Nat→Int:=eu (lu L) (IP L L.length)
def sD (r:Rul) (L:Rows) (sd:Nat→Int):List Sco:=(List.range (opn L L.length)).map fun j=>Bc r L sd (opn L L.length) j L.length
structure InLog (L:Rows):Prop where
 len:L.length≤4000
 pen:∀ j,j<L.length→((evR L j).kind==13)=true→1≤opn L (j+1)
set_option maxHeartbeats 4000000 in
theorem xa {N : Nat} {r : Rul} {L : Rows} {k : Nat} (hN : 2097152 < N) (il : InLog L) (rk : RulOk r) (hk : k < opn L L.length) {F : (List AY → Option (List PV)) → List PV → Option (List PV)}
    (f0:∀ xs self,F self [.rows (Au xs),.int ((AF L (k+1) - AF L k:Nat):Int)]=some [.rows (Au xs),.int ((AF L (k+1) - AF L k:Nat):Int)])
    (f1:∀ (i:Nat) self,i<AF L (k+1) - AF L k→∀ xs:List Sco,xs.length=opn L L.length→F self [.rows (Au xs),.int (i:Int)]=self [.rows (Au (pI r (evR L (AF L k+i)) k (Lg (sdT L) (opn L L.length) k (evR L (AF L k+i)).side) xs)),.int ((i+1:Nat):Int)]) :
    DL F N [.rows (Au (Dz r L (sdT L) (opn L L.length) (k+1) (AF L k))),.int 0]=some [.rows (Au (Dz r L (sdT L) (opn L L.length) (k+1) (AF L (k+1)))),.int ((AF L (k+1) - AF L k:Nat):Int)]:=by
  have sg:=seg (by have:=il.len;omega) hk
  have h1:=sg.lt
  have h2:=sg.le
  have h3:=il.len
  have e:AF L k+(AF L (k+1) - AF L k)=AF L (k+1):=by omega
  have:=B3 (F:=F) (len:=AF L (k+1) - AF L k) (fun i=>[.rows (Au (Dz r L (sdT L) (opn L L.length) (k+1) (AF L k+i))),.int (i:Int)]) [.rows (Au (Dz r L (sdT L) (opn L L.length) (k+1) (AF L (k+1)))),.int ((AF L (k+1) - AF L k:Nat):Int)]
    (fun self=>by
      show F self [.rows (Au (Dz r L (sdT L) (opn L L.length) (k+1) (AF L k+(AF L (k+1) - AF L k)))),_]=_
      rw [e]
      exact f0 _ self)
    (fun i self hi=>by
      show F self [.rows (Au (Dz r L (sdT L) (opn L L.length) (k+1) (AF L k+i))),.int (i:Int)]=_
      rw [f1 i self hi _ (DA _ _ _ _ _ _),yr rk hk (sg.mid _ (by omega) (by omega)) (by omega)]
      rfl) N (by omega)
  exact this
theorem AAa (L:Rows) (i:Nat):(⟨pvI (AE L i 0),pvI (AE L i 1),pvI (AE L i 2),pvI (AE L i 3),pvB (AE L i 4),pvI (AE L i 5),pvI (AE L i 6),⟨pvI (AE L i 7),pvI (AE L i 8),pvI (AE L i 9),pvI (AE L i 10),pvI (AE L i 11),pvB (AE L i 12),pvI (AE L i 13),pvI (AE L i 14),pvI (AE L i 15),pvI (AE L i 16),pvB (AE L i 17),pvI (AE L i 18)⟩⟩:Ev)=evR L i:=rfl
set_option maxHeartbeats 4000000 in
theorem me {N:Nat} {r1 r2 r3 r4 r5 r6 r7 r9 r10 r11 r12:Int} {r8:Bool} {r0:ByteArray} {r13:Rows} {L:Rows} (hN:2097152<N) (hs:r0.size≤1048576) (h13:r13.length≤1048576) (hL:L.length≤1048576) (il:Ce (⟨r0,r1,r2,r3,r4,r5,r6,r7,r8,r9,r10,r11,r12,r13⟩:Rul) L=0→InLog L∧RulOk (⟨r0,r1,r2,r3,r4,r5,r6,r7,r8,r9,r10,r11,r12,r13⟩:Rul)):E6 N [.str r0,.int r1,.int r2,.int r3,.int r4,.int r5,.int r6,.int r7,.bool r8,.int r9,.int r10,.int r11,.int r12,.rows r13,.rows L]=some [.rows (cond (!(Ce (⟨r0,r1,r2,r3,r4,r5,r6,r7,r8,r9,r10,r11,r12,r13⟩:Rul) L==0)) [] (Au (sD (⟨r0,r1,r2,r3,r4,r5,r6,r7,r8,r9,r10,r11,r12,r13⟩:Rul) L (sdT L)))),.int (Ce (⟨r0,r1,r2,r3,r4,r5,r6,r7,r8,r9,r10,r11,r12,r13⟩:Rul) L)]:=by
  show LP (std (B2 N) N) (xOf _)=_
  generalize hres:(some [.rows (cond (!(Ce (⟨r0,r1,r2,r3,r4,r5,r6,r7,r8,r9,r10,r11,r12,r13⟩:Rul) L==0)) [] (Au (sD (⟨r0,r1,r2,r3,r4,r5,r6,r7,r8,r9,r10,r11,r12,r13⟩:Rul) L (sdT L)))),.int (Ce (⟨r0,r1,r2,r3,r4,r5,r6,r7,r8,r9,r10,r11,r12,r13⟩:Rul) L)]:Option (List PV))=RR
  simp only [LP,SB,SV,US,KR,Ge,Gt,Uw,std,xOf,PXb,gR hN hs h13 hL]
  subst hres
  cases hc:Ce (⟨r0,r1,r2,r3,r4,r5,r6,r7,r8,r9,r10,r11,r12,r13⟩:Rul) L==0 with
  | false=>rfl
  | true =>
    have c0:=beq_iff_eq.1 hc
    obtain ⟨il,rk⟩:=il c0
    have ol:=cc L L.length
    have l4:=il.len
    have s80:iSm ((opn L L.length:Nat):Int) 80=true:=Dt (by omega) (by omega)
    rw [c0]
    simp only [PXb,Bool.not_true,oj hN hL,QO,Xi,s80,LV hN hL,z9]
    have st:List.replicate (opn L L.length) dS=Dz (⟨r0,r1,r2,r3,r4,r5,r6,r7,r8,r9,r10,r11,r12,r13⟩:Rul) L (sdT L) (opn L L.length) 0 (AF L 0):=by
      refine ym ?_ (fun j hj=>il.pen j ?_)
      · by_cases h0:0<opn L L.length
        · exact (seg hL h0).o0
        · unfold AF;rw [if_neg h0];omega
      · have : AF L 0 ≤ L.length := by
          by_cases h0:0<opn L L.length
          · have:=(seg hL h0).lt;have:=(seg hL h0).le;omega
          · unfold AF;rw [if_neg h0];exact Nat.le_refl _
        omega
    rw [st]
    refine AM (B3 (len:=opn L L.length) (fun k=>[.rows (Au (Dz (⟨r0,r1,r2,r3,r4,r5,r6,r7,r8,r9,r10,r11,r12,r13⟩:Rul) L (sdT L) (opn L L.length) k (AF L k))),.int (k:Int)]) [.rows (Au (sD (⟨r0,r1,r2,r3,r4,r5,r6,r7,r8,r9,r10,r11,r12,r13⟩:Rul) L (sdT L)))] ?_ ?_ N (by omega)) ?_
    · intro self
      simp only [PXb,PXc,PXn,AA,PXp,Nk,Ao,AAA,AAL]
      rfl
    · intro k self hk
      have sg:=seg hL hk
      have sgl:=sg.lt
      have sge:=sg.le
      have rg:iRg (AF L k:Int) (AF L (k+1):Int) (L.length:Int)=true:=by simp only [iRg,decide_eq_true_eq];omega
      have zk:atI (He (zs (sdT L) (opn L L.length))) k 0=sdT L k:=vB _ hk
      have sl:=mG (L:=L) (a:=AF L k) sge
      have zk':pvI (AE (He (zs (eu (lu L) (IP L L.length)) (opn L L.length))) k 0)=sdT L k:=zk
      simp only [PXb,PXc,PXn,AA,PXp,PXs,Nk,IB (show k≤1099511627776 by omega),Ah hk,AP hk,DA,QO,Xi,sg.x0,sg.x1,rg,zk',PXt,yC hk]
      generalize hX:List.drop (AF L k) (List.take (AF L (k+1)) L)=X at *
      refine AM (xa hN il rk hk ?_ ?_) ?_
      · intro xs self
        simp only [PXb,PXc,PXn,AA,sl,Ao]
      · intro i self hi xs hx
        have hev:evR X i=evR L (AF L k+i):=by rw [← hX];exact qg L i hi
        simp only [PXb,PXc,PXn,AA,PXc,sl,IB (show i≤1099511627776 by omega),Ah hi,AP hi,Nat.reduceAdd,KR,so,AAa,hev]
        have hk':k<xs.length:=by rw [hx];exact hk
        generalize hd:Lg (sdT L) (opn L L.length) k (evR L (AF L k+i)).side=d
        have kx:pvI (AE X i 0)=(evR L (AF L k+i)).kind:=congrArg Ev.kind hev
        have sx:pvI (AE X i 1)=(evR L (AF L k+i)).side:=congrArg Ev.side hev
        have LD:JI N [.rows (He (zs (eu (lu L) (IP L L.length)) (opn L L.length))),.int (k:Int),.int (evR L (AF L k+i)).side]=some [.int (vk d)]:=by rw [← hd];exact tZ hN (by omega) hk
        have bx:(⟨pvI (AE X i 7),pvI (AE X i 8),pvI (AE X i 9),pvI (AE X i 10),pvI (AE X i 11),pvB (AE X i 12),pvI (AE X i 13),pvI (AE X i 14),pvI (AE X i 15),pvI (AE X i 16),pvB (AE X i 17),pvI (AE X i 18)⟩:Del)=(evR L (AF L k+i)).ball:=congrArg Ev.ball hev
        rw [kx]
        unfold pI
        cases ho:W0 (evR L (AF L k+i))<;>cases h4:(evR L (AF L k+i)).kind==4<;>cases h13:(evR L (AF L k+i)).kind==13
        all_goals simp only [PXb,PXc,PXn,AA,PXc,PXs,PXt,Nat.reduceAdd,Ge,G6,bx,sx,LD,Gt,Uz,List.length_set,AP hk',hk',Y1 hk',List.set_set,Cre.ls,ho,h4,h13]
        all_goals first
          | (cases (AD (⟨r0,r1,r2,r3,r4,r5,r6,r7,r8,r9,r10,r11,r12,r13⟩:Rul) (evR L (AF L k+i)).ball).counts<;>rfl)
          | (cases d with
             | none=>rfl
             | some j =>
               have dl:j<xs.length:=by rw [hx];exact ww hk hd
               have dl2:∀ y s,sco ((xs.set k y).set j s) j=s:=fun y s=>Y1 (by rw [List.length_set];exact dl) s
               simp only [vk,PXb,w9,AP dl,List.length_set,Y1 dl,List.set_set,dl2])
      · simp only [PXb,PXc,PXn,AA,PXc,PXb,PXc,PXn,PXm,Nat.reduceAdd,Int.reduceBEq]
    · simp only [PXb,PXc,PXn,PXm,Nat.reduceAdd,Int.reduceBEq]
end Go.Px
end
section
namespace Go.Px
set_option maxRecDepth 100000
theorem xu {r:Rul} {L:Rows} (h:Ce r L=0):((Cd r).2==0)=true∧A1 r=0∧L.length≤4000∧acc L L.length 0 (Cd r).1∧Cr r L=(stM L L.length 0 (Cd r).1,-1,0):=by
 unfold Ce at h
 cases hc:A1 r==0 with
 | false=>rw [hc] at h;rw [show A1 r=0 from h] at hc;cases hc
 | true =>
  cases hl:iLt 4000 (L.length:Int) with
  | true=>rw [hc,hl] at h;cases h
  | false =>
   cases hr:(Cr r L).2.2==0 with
   | false=>rw [hc,hl,hr] at h;cases h
   | true =>
    have hn:=(y7 r).trans hc
    have hrep:Cr r L=C2 L L.length 0 (Cd r).1:=by unfold Cr;rw [hn];rfl
    obtain ⟨k,h1,h2,h3,h4⟩:=rJ L L.length 0 (Cd r).1
    have l4:L.length≤4000:=by simp only [iLt,decide_eq_false_iff_not] at hl;omega
    rcases h4 with ⟨h5,h6⟩ | ⟨h5,h6,h7⟩
    ·subst h5
     exact ⟨hn,beq_iff_eq.1 hc,l4,h2,hrep.trans h6⟩
    ·rw [hrep,h7] at hr
     rw [h6] at hr
     cases hr
theorem v7 {r:Rul} {L:Rows} (h:Ce r L=0):InLog L∧RulOk r:=by
 obtain ⟨h1,h2,h3,h4,h5⟩:=xu h
 obtain ⟨_,_,h6⟩:=uf h1 h4 L.length (Nat.le_refl _)
 refine ⟨⟨h3,fun j hj k13=>?_⟩,Dq h2⟩
 have e:=beq_iff_eq.1 k13
 have:=(h6 j hj).2.play (by rw [e];rfl) (by rw [e];rfl) (by rw [e];rfl) (by rw [e];rfl)
 exact Nat.le_trans this (iC L j)
theorem ZL {N:Nat} {L:Rows} (hN:2097152<N) (h:L.length≤1048576):DG N [.rows L,.rows L]=some [.bool true]:=by
 show Et (std (Lu N) N) (xOf _)=_
 simp only [Et,std,xOf,PXb,PXm]
 refine AM (B3 (len:=L.length) (fun i=>[.int (i:Int)]) [.int 1] ?_ ?_ N (by omega)) ?_
 ·intro self
  simp only [PXb,PXc,PXn,AA,Ao]
 ·intro i self hi
  simp only [PXb,PXc,PXn,PXm,Nat.reduceAdd,Int.reduceBEq,AS (show i≤1099511627776 by omega),Ah hi,AP hi]
  rfl
 ·simp only [PXb,PXc,PXn,PXm,Nat.reduceAdd,Int.reduceBEq]
def prA (r:Rul) (L:Rows) (k p:Nat):Cre:=⟨smi L (fun e=>(Av r e).batter) k p,smi L (fun e=>(Av r e).wides) k p,smi L (fun e=>(Av r e).noballs) k p,smi L (fun e=>(Av r e).byes) k p,smi L (fun e=>(Av r e).legbyes) k p,smi L (fun e=>(Av r e).bowler) k p,false,false,false,false⟩
theorem iQ {r:Rul} {L:Rows} {k p:Nat} (h:opn L p≤k):prA r L k p=Jo:=by
 unfold prA
 have z:∀ f:Ev→Int,smi L f k p=0:=fun f=>Yz p h
 simp only [z]
 rfl
theorem zM {r:Rul} (h:RulOk r) (e:Ev):0≤(Av r e).bowler∧(Av r e).bowler≤36:=by
 have c:=E7 h e
 have h0:=c.ba
 have h1:=c.wi
 have h2:=c.no
 have h3:=c.bo
 omega
def ro (a c:Cre):Cre:=⟨IntKind.i64.wrap (a.batter+c.batter),IntKind.i64.wrap (a.wides+c.wides),IntKind.i64.wrap (a.noballs+c.noballs),IntKind.i64.wrap (a.byes+c.byes),IntKind.i64.wrap (a.legbyes+c.legbyes),IntKind.i64.wrap (a.bowler+c.bowler),false,false,false,false⟩
theorem pi {r:Rul} {L:Rows} {k p:Nat} (rk:RulOk r) (ho:opn L (p+1)=k+1) (hp:p<4000):prA r L k (p+1)=ro (prA r L k p) (Av r (evR L p)):=by
 have hy:Nat.beq (opn L (p+1)) (k+1)=true:=by rw [ho];exact ez _
 have c:=E7 rk (evR L p)
 have h0:=c.ba
 have h1:=c.wi
 have h2:=c.no
 have h3:=c.bb
 have h4:=c.lb
 have h5:=zM rk (evR L p)
 have b0:=Ig (L:=L) (f:=fun e=>(Av r e).batter) (fun e=>(E7 rk e).ba) k p
 have b1:=Ig (L:=L) (f:=fun e=>(Av r e).wides) (fun e=>(E7 rk e).wi) k p
 have b2:=Ig (L:=L) (f:=fun e=>(Av r e).noballs) (fun e=>(E7 rk e).no) k p
 have b3:=Ig (L:=L) (f:=fun e=>(Av r e).byes) (fun e=>(E7 rk e).bb) k p
 have b4:=Ig (L:=L) (f:=fun e=>(Av r e).legbyes) (fun e=>(E7 rk e).lb) k p
 have b5:=Ig (L:=L) (f:=fun e=>(Av r e).bowler) (zM rk) k p
 unfold prA ro
 simp only [Qv,hy,cond_true]
 rw [BL (n:=smi L (fun e=>(Av r e).batter) k p+_) (by omega) (by omega),BL (n:=smi L (fun e=>(Av r e).wides) k p+_) (by omega) (by omega),BL (n:=smi L (fun e=>(Av r e).noballs) k p+_) (by omega) (by omega),BL (n:=smi L (fun e=>(Av r e).byes) k p+_) (by omega) (by omega),BL (n:=smi L (fun e=>(Av r e).legbyes) k p+_) (by omega) (by omega),BL (n:=smi L (fun e=>(Av r e).bowler) k p+_) (by omega) (by omega)]
theorem sJ {r:Rul} {L:Rows} {k p:Nat} (h4:((evR L p).kind==4)=false):prA r L k (p+1)=prA r L k p:=by
 have c0:Av r (evR L p)=Jo:=by unfold Av;rw [h4];rfl
 unfold prA
 simp only [Qv,c0,Jo]
 cases Nat.beq (opn L (p+1)) (k+1)<;>simp only [cond_true,cond_false,Int.add_zero]
def cx (r:Rul) (L:Rows) (k:Int):Cre×Int:=cond (!(Ce r L==0)) (Jo,Ce r L) (cond (iLt k 0||iLe (opn L L.length:Int) k) (Jo,2) (prA r L k.toNat L.length,0))
def ZV (x:Cre×Int):List PV:=[.int x.1.batter,.int x.1.wides,.int x.1.noballs,.int x.1.byes,.int x.1.legbyes,.int x.1.bowler,.bool x.1.counts,.bool x.1.faced,.bool x.1.wicket,.bool x.1.swap,.int x.2]
theorem na {L:Rows} {f:Ev→Int} {k p:Nat} (h:opn L p=k+1) (hp:p≤L.length) (hn:p=L.length∨((evR L p).kind==2)=true):∀ c,p+c≤L.length→smi L f k (p+c)=smi L f k p
 | 0,_=>rfl
 | c+1,hc=>by
  rw [show p+(c+1)=p+c+1 by omega,Qv,na h hp hn c (by omega)]
  rcases hn with hn | hn
  ·omega
  ·have:=Ko L (show p+1≤p+c+1 by omega)
   rw [U1 hn] at this
   rw [jc (by omega),cond_false,Int.add_zero]
theorem wd {L:Rows} (hL:L.length≤1048576) {k:Nat} (hk:k<opn L L.length):AF L (k+1)=L.length∨((evR L (AF L (k+1))).kind==2)=true:=by
 by_cases h:k+1<opn L L.length
 ·obtain ⟨a,p1,p2,p3,p4,p5⟩:=jU hL L.length (Nat.le_refl _) (k+1) h
  have:AF L (k+1)=a:=by unfold AF;rw [if_pos h,p1];rfl
  rw [this]
  exact Or.inr p4
 ·exact Or.inl (by unfold AF;rw [if_neg h])
theorem AAF {L:Rows} (hL:L.length≤1048576) {f:Ev→Int} {k:Nat} (hk:k<opn L L.length):smi L f k L.length=smi L f k (AF L (k+1)):=by
 have sg:=seg hL hk
 have:=na (f:=f) sg.o1 sg.le (wd hL hk) (L.length - AF L (k+1)) (by have:=sg.le;omega)
 rw [show AF L (k+1)+(L.length - AF L (k+1))=L.length by have:=sg.le;omega] at this
 exact this
theorem uW {r:Rul} {L:Rows} (hL:L.length≤1048576) {k:Nat} (hk:k<opn L L.length):prA r L k L.length=prA r L k (AF L (k+1)):=by
 unfold prA
 simp only [AAF hL hk]
theorem wU {N : Nat} {r : Rul} {L : Rows} {k : Nat} (hN : 2097152 < N) (il : InLog L) (rk : RulOk r) (hk : k < opn L L.length) {F : (List AY → Option (List PV)) → List PV → Option (List PV)}
    (f0:∀ (c:Cre) self,F self [.int ((AF L (k+1) - AF L k:Nat):Int),.int c.batter,.int c.wides,.int c.noballs,.int c.byes,.int c.legbyes,.int c.bowler,.bool false,.bool false,.bool false,.bool false]=some [.int c.batter,.int c.wides,.int c.noballs,.int c.byes,.int c.legbyes,.int c.bowler,.bool false,.bool false,.bool false,.bool false])
    (f1:∀ (i:Nat) self,i<AF L (k+1) - AF L k→∀ c:Cre,F self [.int (i:Int),.int c.batter,.int c.wides,.int c.noballs,.int c.byes,.int c.legbyes,.int c.bowler,.bool false,.bool false,.bool false,.bool false]=(let d:=cond ((evR L (AF L k+i)).kind==4) (ro c (Av r (evR L (AF L k+i)))) c;self [.int ((i+1:Nat):Int),.int d.batter,.int d.wides,.int d.noballs,.int d.byes,.int d.legbyes,.int d.bowler,.bool false,.bool false,.bool false,.bool false])) :
    DL F N [.int 0,.int 0,.int 0,.int 0,.int 0,.int 0,.int 0,.bool false,.bool false,.bool false,.bool false]=some (prA r L k (AF L (k+1))).ls:=by
  have sg:=seg (by have:=il.len;omega) hk
  have h1:=sg.lt
  have h2:=sg.le
  have h3:=il.len
  have e:AF L k+(AF L (k+1) - AF L k)=AF L (k+1):=by omega
  have z0:prA r L k (AF L k)=Jo:=iQ (by rw [sg.o0];exact Nat.le_refl _)
  have:=B3 (F:=F) (len:=AF L (k+1) - AF L k) (fun i=>[.int (i:Int),.int (prA r L k (AF L k+i)).batter,.int (prA r L k (AF L k+i)).wides,.int (prA r L k (AF L k+i)).noballs,.int (prA r L k (AF L k+i)).byes,.int (prA r L k (AF L k+i)).legbyes,.int (prA r L k (AF L k+i)).bowler,.bool false,.bool false,.bool false,.bool false]) (prA r L k (AF L (k+1))).ls
    (fun self=>by
      have:=f0 (prA r L k (AF L k+(AF L (k+1) - AF L k))) self
      rw [e] at this
      show F self [.int ((AF L (k+1) - AF L k:Nat):Int),.int (prA r L k (AF L k+(AF L (k+1) - AF L k))).batter,.int (prA r L k (AF L k+(AF L (k+1) - AF L k))).wides,.int (prA r L k (AF L k+(AF L (k+1) - AF L k))).noballs,.int (prA r L k (AF L k+(AF L (k+1) - AF L k))).byes,.int (prA r L k (AF L k+(AF L (k+1) - AF L k))).legbyes,.int (prA r L k (AF L k+(AF L (k+1) - AF L k))).bowler,.bool false,.bool false,.bool false,.bool false]=_
      rw [e,this]
      rfl)
    (fun i self hi=>by
      have f2:=f1 i self hi (prA r L k (AF L k+i))
      have st:prA r L k (AF L k+i+1)=cond ((evR L (AF L k+i)).kind==4) (ro (prA r L k (AF L k+i)) (Av r (evR L (AF L k+i)))) (prA r L k (AF L k+i)):=by
        cases h4:(evR L (AF L k+i)).kind==4 with
        | true=>exact pi rk (sg.mid _ (by omega) (by omega)) (by omega)
        | false=>exact sJ h4
      rw [← st] at f2
      exact f2) N (by omega)
  rw [Nat.add_zero,z0] at this
  exact this
set_option maxHeartbeats 4000000 in
theorem Wb {N:Nat} {r1 r2 r3 r4 r5 r6 r7 r9 r10 r11 r12:Int} {r8:Bool} {r0:ByteArray} {r13:Rows} {L:Rows} {k:Int} (hN:2097152<N) (hs:r0.size≤1048576) (h13:r13.length≤1048576) (hL:L.length≤1048576):Co N [.str r0,.int r1,.int r2,.int r3,.int r4,.int r5,.int r6,.int r7,.bool r8,.int r9,.int r10,.int r11,.int r12,.rows r13,.rows L,.int k]=some (ZV (cx (⟨r0,r1,r2,r3,r4,r5,r6,r7,r8,r9,r10,r11,r12,r13⟩:Rul) L k)):=by
 show Jp (std (EY N) N) (xOf _)=_
 generalize hres:(some (ZV (cx (⟨r0,r1,r2,r3,r4,r5,r6,r7,r8,r9,r10,r11,r12,r13⟩:Rul) L k)):Option (List PV))=RR
 simp only [Jp,QR,TW,Fp,std,xOf,PXb,gR hN hs h13 hL,LV hN hL,PXp,Nk]
 subst hres;simp only [cx]
 cases hc:Ce (⟨r0,r1,r2,r3,r4,r5,r6,r7,r8,r9,r10,r11,r12,r13⟩:Rul) L==0 with
 | false=>rfl
 | true =>
  obtain ⟨il,rk⟩:=v7 (beq_iff_eq.1 hc)
  simp only [PXb,Bool.not_true]
  cases hb:iLt k 0||iLe (opn L L.length:Int) k with
  | true=>rfl
  | false =>
   simp only [Bool.or_eq_false_iff,iLt,iLe,decide_eq_false_iff_not] at hb
   obtain ⟨K,rfl⟩:∃ K:Nat,k=(K:Int):=⟨k.toNat,by omega⟩
   have hk:K<opn L L.length:=by omega
   have sg:=seg hL hk
   have sgl:=sg.lt
   have sge:=sg.le
   have l4:=il.len
   have rg:iRg (AF L K:Int) (AF L (K+1):Int) (L.length:Int)=true:=by simp only [iRg,decide_eq_true_eq];omega
   have sl:=mG (L:=L) (a:=AF L K) sge
   simp only [PXb,AP hk,sg.x0,sg.x1,rg,uW hL hk,Int.toNat_natCast]
   generalize hX:List.drop (AF L K) (List.take (AF L (K+1)) L)=X at *
   have z0:prA (⟨r0,r1,r2,r3,r4,r5,r6,r7,r8,r9,r10,r11,r12,r13⟩:Rul) L K (AF L K)=Jo:=iQ (by rw [sg.o0];exact Nat.le_refl _)
   have e1:AF L K+(AF L (K+1) - AF L K)=AF L (K+1):=by omega
   refine AM (wU hN il rk hk ?_ ?_) rfl
   ·intro c self
    simp only [PXb,PXc,PXn,AA,sl,Ao]
   ·intro i self hi c
    have hev:evR X i=evR L (AF L K+i):=by rw [← hX];exact qg L i hi
    have kx:pvI (AE X i 0)=(evR L (AF L K+i)).kind:=congrArg Ev.kind hev
    have bx:(⟨pvI (AE X i 7),pvI (AE X i 8),pvI (AE X i 9),pvI (AE X i 10),pvI (AE X i 11),pvB (AE X i 12),pvI (AE X i 13),pvI (AE X i 14),pvI (AE X i 15),pvI (AE X i 16),pvB (AE X i 17),pvI (AE X i 18)⟩:Del)=(evR L (AF L K+i)).ball:=congrArg Ev.ball hev
    simp only [PXb,PXc,PXn,AA,PXc,sl,IB (show i≤1099511627776 by omega),Ah hi,AP hi,Nat.reduceAdd,kx,Fp,G6,bx,Cre.ls]
    unfold Av
    cases h4:(evR L (AF L K+i)).kind==4<;>rfl
end Go.Px
end
section
namespace Go.Px
set_option maxRecDepth 100000
theorem xM {N:Nat} {L:Rows}  : R3 N [.rows L]=some [.rows (cut L 60)]:=by
 show SK (std (ML N) N) (xOf _)=_
 simp only [SK,std,xOf,PXb,PXc,PXn,PXm,Nat.reduceAdd,Int.reduceBEq,AA4 (show (0:Int)≤60 by omega)]
 rfl
theorem be {N:Nat} {L:Rows} (hN:2097152<N) (h:L.length≤1048576):Di N [.rows L,.rows L]=some [.bool true]:=by
 show Fe (std (Ns N) N) (xOf _)=_
 simp only [Fe,std,xOf,PXb,PXm]
 refine AM (B3 (len:=L.length) (fun i=>[.int (i:Int)]) [.int 1] ?_ ?_ N (by omega)) ?_
 ·intro self
  simp only [PXb,PXc,PXn,AA,Ao]
 ·intro i self hi
  simp only [PXb,PXc,PXn,PXm,Nat.reduceAdd,Int.reduceBEq,AS (show i≤1099511627776 by omega),Ah hi,AP hi]
  rfl
 ·simp only [PXb,PXc,PXn,PXm,Nat.reduceAdd,Int.reduceBEq]
def OH (k s p o:Int) (y:Bool) (t f n b h v:Int):List PV:=[.int k,.int s,.int p,.int o,.bool y,.int 0,.int 0,.int t,.int f,.int n,.int 0,.int b,.bool false,.int h,.int v,.int 0,.int 0,.bool false,.int 0]
def HB:Rows:=[OH 1 1 0 0 true 0 0 0 0 0 0,OH 2 0 1 2 false 0 0 0 0 0 0,OH 8 0 2 0 false 0 0 0 0 0 0,OH 3 0 1 0 false 0 0 0 0 0 0,OH 4 0 0 0 false 1 1 1 0 0 0,OH 4 0 0 0 false 1 0 0 0 1 1,OH 2 0 2 1 false 0 0 0 0 0 0,OH 8 0 1 0 false 0 0 0 0 0 0,OH 3 0 2 0 false 0 0 0 0 0 0,OH 4 0 0 0 false 2 0 0 0 0 0,OH 4 0 0 0 false 1 1 0 4 0 0]
def Ox:Rul:=⟨⟨#[84,69,83,84]⟩,2,1,1,4,0,1,1,false,0,0,0,11,[]⟩
theorem zW:R1 4194304 []=some [.rows HB]:=by kernel_rfl
theorem AAG:MF 4194304 []=some Ox.ls:=by kernel_rfl
theorem zg:Ce Ox HB=0:=by kernel_rfl
theorem AA8:sD Ox HB (sdT HB)=[⟨1,1,1,2,0,0,0,0,0,0⟩,⟨2,5,0,1,1,0,0,0,0,0⟩]:=by kernel_rfl
theorem ABJ:cx Ox HB 1=(⟨4,1,0,0,0,5,false,false,false,false⟩,0):=by kernel_rfl
theorem ABE:FR (Bs HB HB.length)=[[.int 1,.int 6],[.int 6,.int 11]]:=by kernel_rfl
theorem X9 {x:Option (List PV)} {v:List PV} {f:List PV→Option (List PV)} {r:Option (List PV)} (h:x=some v) (hk:f v=r):x.bind f=r:=by rw [h];exact hk
set_option maxHeartbeats 2000000 in
theorem ta:L8 4194304 []=some [.bool true]:=by
 have hs:Ox.name.size≤1048576:=by decide
 have hl:HB.length≤1048576:=by decide
 have hN:2097152<4194304:=by omega
 have k1:E6 4194304 (Ox.ls++[.rows HB])=some [.rows (cond (!(Ce Ox HB==0)) [] (Au (sD Ox HB (sdT HB)))),.int (Ce Ox HB)]:=me hN hs (Nat.zero_le _) hl v7
 have k2:Co 4194304 (Ox.ls++[.rows HB,.int 1])=some (ZV (cx Ox HB 1)):=Wb hN hs (Nat.zero_le _) hl
 have k3:=LV (L:=HB) hN hl
 rw [zg,AA8] at k1
 rw [ABJ] at k2
 rw [ABE] at k3
 show RH (std (C1 4194304) 4194304) (xOf [])=_
 simp only [RH,Pw,Uq,T6,OD,TJ,Yo,br,std,xOf,PXb,zW,AAG]
 refine X9 k1 ?_
 simp only [PXb,PXc,PXn,PXm,Nat.reduceAdd,Int.reduceBEq]
 refine X9 k2 ?_
 simp only [ZV,PXb,PXc,PXn,PXm,Nat.reduceAdd,Int.reduceBEq,Int.reduceBEq]
 refine X9 (ZL (L:=Au [⟨1,1,1,2,0,0,0,0,0,0⟩,⟨2,5,0,1,1,0,0,0,0,0⟩]) hN (by decide)) ?_
 simp only [PXb,PXc,PXn,PXm,Nat.reduceAdd,Int.reduceBEq,zW,k3]
 refine X9 (be (L:=[[.int 1,.int 6],[.int 6,.int 11]]) hN (by decide)) ?_
 rfl
theorem AA9 (L:Rows):(cut L 60).length≤1048576:=Nat.le_trans (AAX L 60) (show 60≤1048576 by omega)
end Go.Px
end
section
namespace Go.Px
set_option maxRecDepth 100000
theorem yn {N : Nat} {L : Rows} {k : Nat} (hN : 2097152 < N) (hL : L.length ≤ 4000) (hk : k < opn L L.length) {F : (List AY → Option (List PV)) → List PV → Option (List PV)} (enc : Nat → Nat → List AY) (fin : List PV) {st : List PV} (hst : (enc 0 (AF L k)).map Leaf.pv = st)
    (f0:∀ self,F self ((enc (AF L (k+1) - AF L k) (AF L (k+1))).map Leaf.pv)=some fin)
    (f1:∀ (i:Nat) self,i<AF L (k+1) - AF L k→AF L k+i<4000→opn L (AF L k+i+1)=k+1→F self ((enc i (AF L k+i)).map Leaf.pv)=self (enc (i+1) (AF L k+i+1))) :
    DL F N st=some fin:=by
  subst hst
  have sg:=seg (by omega) hk
  have h1:=sg.lt
  have h2:=sg.le
  have:=B3 (F:=F) (len:=AF L (k+1) - AF L k) (fun i=>enc i (AF L k+i)) fin
    (fun self=>by
      have e:AF L k+(AF L (k+1) - AF L k)=AF L (k+1):=by omega
      show F self ((enc (AF L (k+1) - AF L k) (AF L k+(AF L (k+1) - AF L k))).map Leaf.pv)=_
      rw [e]
      exact f0 self)
    (fun i self hi=>f1 i self hi (by omega) (sg.mid _ (by omega) (by omega))) N (by omega)
  exact this
theorem xn {N:Nat} {a0:Int} {a1:Int} {a2:Int} {a3:Int} {a4:Int} {a5:Int} {b0:Bool} {b1:Bool} {b2:Bool} {b3:Bool} {c0:Int} {c1:Int} {c2:Int} {c3:Int} {c4:Int} {c5:Int} {d0:Bool} {d1:Bool} {d2:Bool} {d3:Bool}  : R2 N [.int a0,.int a1,.int a2,.int a3,.int a4,.int a5,.bool b0,.bool b1,.bool b2,.bool b3,.int c0,.int c1,.int c2,.int c3,.int c4,.int c5,.bool d0,.bool d1,.bool d2,.bool d3]=some (ro ⟨a0,a1,a2,a3,a4,a5,b0,b1,b2,b3⟩ ⟨c0,c1,c2,c3,c4,c5,d0,d1,d2,d3⟩).ls:=by
 show Vl (std (hY N) N) (xOf _)=_
 simp only [Vl,std,xOf,PXb,PXc,PXn,PXm,Nat.reduceAdd,Int.reduceBEq]
 rfl
def u7 (L:Rows) (k:Nat):Rows:=List.drop (AF L k) (List.take (AF L (k+1)) L)
theorem yd {L:Rows} (hL:L.length≤1048576) {k:Nat} (hk:k<opn L L.length):(u7 L k).length=AF L (k+1) - AF L k:=mG (seg hL hk).le
theorem ABI {r:Rul} (L:Rows) (k p:Nat):0≤smi L (Ll r) k p∧smi L (Ll r) k p≤1 * (p:Int):=Ig (fun e=>by unfold Ll;cases (Av r e).counts<;>simp) k p
set_option maxHeartbeats 4000000 in
theorem oD {N:Nat} {r1 r2 r3 r4 r5 r6 r7 r9 r10 r11 r12:Int} {r8:Bool} {r0:ByteArray} {r13:Rows} {L:Rows} {k:Nat} (hN:2097152<N) (hL:L.length≤4000) (rk:RulOk (⟨r0,r1,r2,r3,r4,r5,r6,r7,r8,r9,r10,r11,r12,r13⟩:Rul)) (hk:k<opn L L.length):I5 N [.str r0,.int r1,.int r2,.int r3,.int r4,.int r5,.int r6,.int r7,.bool r8,.int r9,.int r10,.int r11,.int r12,.rows r13,.rows (u7 L k)]=some ((prA (⟨r0,r1,r2,r3,r4,r5,r6,r7,r8,r9,r10,r11,r12,r13⟩:Rul) L k (AF L (k+1))).ls++[.int (smi L (Ll (⟨r0,r1,r2,r3,r4,r5,r6,r7,r8,r9,r10,r11,r12,r13⟩:Rul)) k (AF L (k+1)))]):=by
 show Mh (std (Ji N) N) (xOf _)=_
 simp only [Mh,Kc,Nm,std,xOf,PXb]
 have sl:=yd (L:=L) (by omega) hk
 have sg:=seg (L:=L) (by omega) hk
 have z0:prA (⟨r0,r1,r2,r3,r4,r5,r6,r7,r8,r9,r10,r11,r12,r13⟩:Rul) L k (AF L k)=Jo:=iQ (by rw [sg.o0];exact Nat.le_refl _)
 have z1:smi L (Ll (⟨r0,r1,r2,r3,r4,r5,r6,r7,r8,r9,r10,r11,r12,r13⟩:Rul)) k (AF L k)=0:=Yz _ (by rw [sg.o0];exact Nat.le_refl _)
 have hev:=fun (i:Nat) (hi:i<AF L (k+1) - AF L k)=>qg L (a:=AF L k) (b:=AF L (k+1)) i hi
 change ∀ (i:Nat),i<AF L (k+1) - AF L k→evR (u7 L k) i=evR L (AF L k+i) at hev
 generalize u7 L k=X at *
 refine AM (yn hN hL hk (fun i p=>[.int (smi L (Ll (⟨r0,r1,r2,r3,r4,r5,r6,r7,r8,r9,r10,r11,r12,r13⟩:Rul)) k p),.int (i:Int),.int (prA (⟨r0,r1,r2,r3,r4,r5,r6,r7,r8,r9,r10,r11,r12,r13⟩:Rul) L k p).batter,.int (prA (⟨r0,r1,r2,r3,r4,r5,r6,r7,r8,r9,r10,r11,r12,r13⟩:Rul) L k p).wides,.int (prA (⟨r0,r1,r2,r3,r4,r5,r6,r7,r8,r9,r10,r11,r12,r13⟩:Rul) L k p).noballs,.int (prA (⟨r0,r1,r2,r3,r4,r5,r6,r7,r8,r9,r10,r11,r12,r13⟩:Rul) L k p).byes,.int (prA (⟨r0,r1,r2,r3,r4,r5,r6,r7,r8,r9,r10,r11,r12,r13⟩:Rul) L k p).legbyes,.int (prA (⟨r0,r1,r2,r3,r4,r5,r6,r7,r8,r9,r10,r11,r12,r13⟩:Rul) L k p).bowler,.bool false,.bool false,.bool false,.bool false]) (.int (smi L (Ll (⟨r0,r1,r2,r3,r4,r5,r6,r7,r8,r9,r10,r11,r12,r13⟩:Rul)) k (AF L (k+1)))::(prA (⟨r0,r1,r2,r3,r4,r5,r6,r7,r8,r9,r10,r11,r12,r13⟩:Rul) L k (AF L (k+1))).ls) (by rw [z0,z1];rfl) ?_ ?_) rfl
 ·intro self
  simp only [PXb,PXc,PXn,AA,sl,Ao]
  rfl
 ·intro i self hi hp ho
  have ev:=hev i hi
  have kx:pvI (AE X i 0)=(evR L (AF L k+i)).kind:=congrArg Ev.kind ev
  have bx:(⟨pvI (AE X i 7),pvI (AE X i 8),pvI (AE X i 9),pvI (AE X i 10),pvI (AE X i 11),pvB (AE X i 12),pvI (AE X i 13),pvI (AE X i 14),pvI (AE X i 15),pvI (AE X i 16),pvB (AE X i 17),pvI (AE X i 18)⟩:Del)=(evR L (AF L k+i)).ball:=congrArg Ev.ball ev
  have hy:Nat.beq (opn L (AF L k+i+1)) (k+1)=true:=by rw [ho];exact ez _
  have cb:=ABI (r:=(⟨r0,r1,r2,r3,r4,r5,r6,r7,r8,r9,r10,r11,r12,r13⟩:Rul)) L k (AF L k+i)
  have w1:IntKind.i64.wrap (smi L (Ll (⟨r0,r1,r2,r3,r4,r5,r6,r7,r8,r9,r10,r11,r12,r13⟩:Rul)) k (AF L k+i)+1)=smi L (Ll (⟨r0,r1,r2,r3,r4,r5,r6,r7,r8,r9,r10,r11,r12,r13⟩:Rul)) k (AF L k+i)+1:=BL (by omega) (by omega)
  simp only [PXb,PXc,PXn,AA,PXc,sl,IB (show i≤1099511627776 by omega),Ah hi,AP hi,Nat.reduceAdd,kx,Kc,cZ,bx,Cre.ls,Nm,xn,Qv,hy,w1]
  cases h4:(evR L (AF L k+i)).kind==4 with
  | false =>
   have c0:Av (⟨r0,r1,r2,r3,r4,r5,r6,r7,r8,r9,r10,r11,r12,r13⟩:Rul) (evR L (AF L k+i))=Jo:=by unfold Av;rw [h4];rfl
   have n0:Ll (⟨r0,r1,r2,r3,r4,r5,r6,r7,r8,r9,r10,r11,r12,r13⟩:Rul) (evR L (AF L k+i))=0:=by unfold Ll;rw [c0];rfl
   rw [sJ h4,n0,Int.add_zero]
   rfl
  | true =>
   have c0:Av (⟨r0,r1,r2,r3,r4,r5,r6,r7,r8,r9,r10,r11,r12,r13⟩:Rul) (evR L (AF L k+i))=AD (⟨r0,r1,r2,r3,r4,r5,r6,r7,r8,r9,r10,r11,r12,r13⟩:Rul) (evR L (AF L k+i)).ball:=by unfold Av;rw [h4];rfl
   have n1:Ll (⟨r0,r1,r2,r3,r4,r5,r6,r7,r8,r9,r10,r11,r12,r13⟩:Rul) (evR L (AF L k+i))=cond (AD (⟨r0,r1,r2,r3,r4,r5,r6,r7,r8,r9,r10,r11,r12,r13⟩:Rul) (evR L (AF L k+i)).ball).counts 1 0:=by unfold Ll;rw [c0]
   rw [pi rk ho hp,c0,n1]
   cases (AD (⟨r0,r1,r2,r3,r4,r5,r6,r7,r8,r9,r10,r11,r12,r13⟩:Rul) (evR L (AF L k+i)).ball).counts with
   | true=>rfl
   | false=>simp only [cond_true,cond_false,Int.add_zero];rfl
set_option maxHeartbeats 4000000 in
theorem oW {N:Nat} {r1 r2 r3 r4 r5 r6 r7 r9 r10 r11 r12:Int} {r8:Bool} {r0:ByteArray} {r13:Rows} {L:Rows} {k:Int} (hN:2097152<N) (hs:r0.size≤1048576) (h13:r13.length≤1048576) (hL:L.length≤1048576):Mo N [.str r0,.int r1,.int r2,.int r3,.int r4,.int r5,.int r6,.int r7,.bool r8,.int r9,.int r10,.int r11,.int r12,.rows r13,.rows L,.int k]=some (ZV (cx (⟨r0,r1,r2,r3,r4,r5,r6,r7,r8,r9,r10,r11,r12,r13⟩:Rul) L k)):=by
 show Mc (std (GC N) N) (xOf _)=_
 generalize hres:(some (ZV (cx (⟨r0,r1,r2,r3,r4,r5,r6,r7,r8,r9,r10,r11,r12,r13⟩:Rul) L k)):Option (List PV))=RR
 simp only [Mc,VJ,Vc,Ta,std,xOf,PXb,sT hN hs h13 hL,pg hN hL,PXp,Nk]
 subst hres;simp only [cx]
 cases hc:Ce (⟨r0,r1,r2,r3,r4,r5,r6,r7,r8,r9,r10,r11,r12,r13⟩:Rul) L==0 with
 | false=>rfl
 | true =>
  obtain ⟨il,rk⟩:=v7 (beq_iff_eq.1 hc)
  simp only [PXb,Bool.not_true]
  cases hb:iLt k 0||iLe (opn L L.length:Int) k with
  | true=>rfl
  | false =>
   simp only [Bool.or_eq_false_iff,iLt,iLe,decide_eq_false_iff_not] at hb
   obtain ⟨K,rfl⟩:∃ K:Nat,k=(K:Int):=⟨k.toNat,by omega⟩
   have hk:K<opn L L.length:=by omega
   have sg:=seg hL hk
   have sgl:=sg.lt
   have sge:=sg.le
   have rg:iRg (AF L K:Int) (AF L (K+1):Int) (L.length:Int)=true:=by simp only [iRg,decide_eq_true_eq];omega
   simp only [PXb,AP hk,sg.x0,sg.x1,rg,uW hL hk,Int.toNat_natCast]
   refine X9 (oD (k:=K) hN il.len rk hk) ?_
   rfl
set_option maxHeartbeats 4000000 in
theorem eB {N:Nat} {r1 r2 r3 r4 r5 r6 r7 r9 r10 r11 r12:Int} {r8:Bool} {r0:ByteArray} {r13:Rows} {L:Rows} {k:Int} (ha:L8 N []=some [.bool true]) (hN:2097152<N) (hs:r0.size≤1048576) (h13:r13.length≤1048576):D7 N [.str r0,.int r1,.int r2,.int r3,.int r4,.int r5,.int r6,.int r7,.bool r8,.int r9,.int r10,.int r11,.int r12,.rows r13,.rows L,.int k]=some [.bool true]:=by
 show D4 (std (BN N) N) (xOf _)=_
 have l:=AA9 L
 simp only [D4,Qj,So,NG,OT,std,xOf,PXb,PXc,PXn,PXm,Nat.reduceAdd,Int.reduceBEq,ha,xM,Wb hN hs h13 l,oW hN hs h13 l,ZV]
end Go.Px
end
