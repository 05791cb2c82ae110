/- Part 13. -/
import Derived.Test.YtdpnocjfbplgjaaGreatPart12
import Derived.KernelRfl
set_option linter.unusedVariables false
set_option linter.unusedSimpArgs false
section
namespace Go.Px
set_option maxRecDepth 100000
theorem S5 {xs ys:List Sco} (hl:xs.length=ys.length) (h:∀ j,j<xs.length→sco xs j=sco ys j):xs=ys:=by
 apply List.ext_getElem?
 intro i
 by_cases hi:i<xs.length
 ·have:=h i hi
  rw [Em,Em,List.getElem?_eq_getElem hi,List.getElem?_eq_getElem (by omega)] at this
  rw [List.getElem?_eq_getElem hi,List.getElem?_eq_getElem (by omega)]
  exact congrArg some this
 ·rw [List.getElem?_eq_none (by omega),List.getElem?_eq_none (by omega)]
def Db (r:Rul) (L:Rows) (sd:Nat→Int) (n q i:Nat):List Sco:=(List.range n).map fun j=>{ A5 r L sd n j i with side:=cond (Nat.blt j q) (sd j) 0 }
theorem Cs (r:Rul) (L:Rows) (sd:Nat→Int) (n q i:Nat):(Db r L sd n q i).length=n:=by unfold Db;rw [List.length_map,List.length_range]
theorem GR (r:Rul) (L:Rows) (sd:Nat→Int) {n q i j:Nat} (h:j<n):sco (Db r L sd n q i) j={ A5 r L sd n j i with side:=cond (Nat.blt j q) (sd j) 0 }:=by
 rw [Em]
 unfold Db
 rw [List.getElem?_map,List.getElem?_range h]
 rfl
theorem Wk {a b:Nat} (h:a<b):Nat.blt a b=true:=Nat.ble_eq_true_of_le h
theorem dn {a b:Nat} (h:¬ a<b):Nat.blt a b=false:=by
 cases hq:Nat.blt a b with
 | false=>rfl
 | true=>exact absurd (Nat.le_of_ble_eq_true hq) h
theorem Tq {xs:List Sco} {k:Nat} (h:k<xs.length) (s:Sco):sco (xs.set k s) k=s:=by rw [Sj _ _ _ _ h,if_pos rfl]
theorem mJ {r:Rul} {L:Rows} {sd:Nat→Int} {n k i:Nat} (h:k<n):(Db r L sd n k i).set k { sco (Db r L sd n k i) k with side:=sd k }=Db r L sd n (k+1) i:=by
 refine S5 (by rw [List.length_set,Cs,Cs]) (fun j hj=>?_)
 rw [List.length_set,Cs] at hj
 rw [Sj _ _ _ _ (by rw [Cs];exact hj),GR _ _ _ h,GR _ _ _ hj,GR _ _ _ hj]
 by_cases e:k=j
 ·subst e
  rw [if_pos rfl,Wk (Nat.lt_succ_self k)]
  rfl
 ·rw [if_neg e]
  have:Nat.blt j k=Nat.blt j (k+1):=by
   by_cases hl:j<k
   ·rw [Wk hl,Wk (by omega)]
   ·rw [dn hl,dn (by omega)]
  rw [this]
theorem nZ (r:Rul) (L:Rows) (sd:Nat→Int) (n i:Nat):Db r L sd n n i=(List.range n).map fun j=>A5 r L sd n j i:=by
 refine S5 (by rw [Cs,List.length_map,List.length_range]) (fun j hj=>?_)
 rw [Cs] at hj
 rw [GR _ _ _ hj,Em,List.getElem?_map,List.getElem?_range hj,Wk hj]
 rfl
theorem mc {r:Rul} {L:Rows} {sd:Nat→Int} {n i:Nat} (ho:opn L i=0) (h13:∀ j,j<i→((evR L j).kind==13)=true→1≤opn L (j+1)):List.replicate n dS=Db r L sd n 0 i:=by
 have pz:∀ j,pnS L sd n j i=0:=fun j=>by
  have:∀ m,m≤i→pnS L sd n j m=0:=by
   intro m
   induction m with
   | zero=>intro _;rfl
   | succ m ih =>
    intro hm
    rw [ar,ih (by omega)]
    cases k13:(evR L m).kind==13 with
    | false=>rfl
    | true =>
     have h1:=h13 m (by omega) k13
     have h2:=F1 L (show m+1≤i by omega)
     omega
  exact this i (Nat.le_refl i)
 refine S5 (by rw [Cs,List.length_replicate]) (fun j hj=>?_)
 rw [List.length_replicate] at hj
 rw [GR _ _ _ hj,Em,List.getElem?_replicate,if_pos hj,dn (by omega)]
 unfold A5
 have z:∀ f:Ev→Int,smi L f j i=0:=fun f=>UC i (by omega)
 simp only [pz,z]
 rfl
theorem WU {r : Rul} {L : Rows} {sd : Nat → Int} {n k q i : Nat} {y : Sco} (hk : k < n) (hy : y = { A5 r L sd n k (i + 1) with side := cond (Nat.blt k q) (sd k) 0 }) (ho : ∀ j, j < n → ¬ k = j → A5 r L sd n j (i + 1) = A5 r L sd n j i) :
    (Db r L sd n q i).set k y=Db r L sd n q (i+1):=by
  refine S5 (by rw [List.length_set,Cs,Cs]) (fun j hj=>?_)
  rw [List.length_set,Cs] at hj
  rw [Sj _ _ _ _ (by rw [Cs];exact hj),GR _ _ _ hj,GR _ _ _ hj]
  by_cases e:k=j
  · subst e
    rw [if_pos rfl,hy]
  · rw [if_neg e,ho j hj e]
theorem fx {r:Rul} {L:Rows} {sd:Nat→Int} {n q i:Nat} (ho:∀ j,j<n→A5 r L sd n j (i+1)=A5 r L sd n j i):Db r L sd n q i=Db r L sd n q (i+1):=by
 refine S5 (by rw [Cs,Cs]) (fun j hj=>?_)
 rw [Cs] at hj
 rw [GR _ _ _ hj,GR _ _ _ hj,ho j hj]
def cx (r:Rul) (e:Ev) (k:Nat) (d:Option Nat) (xs:List Sco):List Sco :=
  let x1:=cond (SK e) (xs.set k { sco xs k with wickets:=IntKind.i64.wrap ((sco xs k).wickets+1) }) xs
  let c:=AB r e.ball
  cond (e.kind==4)
    (x1.set k { sco x1 k with runs:=IntKind.i64.wrap ((sco x1 k).runs+BU c),balls:=cond c.counts (IntKind.i64.wrap ((sco x1 k).balls+1)) (sco x1 k).balls,wides:=IntKind.i64.wrap ((sco x1 k).wides+c.wides),noballs:=IntKind.i64.wrap ((sco x1 k).noballs+c.noballs),byes:=IntKind.i64.wrap ((sco x1 k).byes+c.byes),legbyes:=IntKind.i64.wrap ((sco x1 k).legbyes+c.legbyes) })
    (cond (e.kind==13) (match d with
      | some j=>x1.set j { sco x1 j with runs:=IntKind.i64.wrap ((sco x1 j).runs+5),pens:=IntKind.i64.wrap ((sco x1 j).pens+5) }
      | none=>x1) x1)
theorem kE {sd:Nat→Int} {n k j:Nat} {s:Int} (hk:k<n) (h:DD sd n k s=some j):j<n:=by
 rcases (di h).2 with h | h<;>omega
theorem ma {r:Rul} {L:Rows} {sd:Nat→Int} {n k i:Nat} (rk:RulOk r) (hk:k<n) (ho:opn L (i+1)=k+1) (hi:i<4000):cx r (evR L i) k (DD sd n k (evR L i).side) (Db r L sd n (k+1) i)=Db r L sd n (k+1) (i+1):=by
 have hn:∀ j,¬ k=j→Nat.beq (opn L (i+1)) (j+1)=false:=fun j hj=>QM (by omega)
 have hy:Nat.beq (opn L (i+1)) (k+1)=true:=by rw [ho];exact Nj _
 have sm:=fun j=>iT rk L sd n j (show i≤4000 by omega)
 have cs:=Tt r L sd n
 have hp:opn L (i+1) - 1=k:=by omega
 have tl:k<(Db r L sd n (k+1) i).length:=by rw [Cs];exact hk
 unfold cx
 cases h4:(evR L i).kind==4 with
 | true =>
  have k4:=beq_iff_eq.1 h4
  have h13:((evR L i).kind==13)=false:=by rw [k4];rfl
  have ce:Ak r (evR L i)=AB r (evR L i).ball:=by unfold Ak;rw [h4];rfl
  have co:=Dv rk (evR L i)
  have tb:=jD rk (evR L i)
  rw [← ce]
  have fin:∀ y:Sco,y={ A5 r L sd n k (i+1) with side:=cond (Nat.blt k (k+1)) (sd k) 0 }→(Db r L sd n (k+1) i).set k y=Db r L sd n (k+1) (i+1):=fun y hyy=>WU hk hyy (fun j hj hjk=>by
   rw [cs,h13,Bool.false_and,cond_false,CB,hn j hjk];rfl)
  have ex:A5 r L sd n k (i+1)=Nf r (evR L i) (A5 r L sd n k i):=by rw [cs,h13,Bool.false_and,cond_false,CB,hy];rfl
  have s:=sm k
  have s1:=s.runs
  have s2:=s.wk
  have s3:=s.balls
  have s4:=s.wides
  have s5:=s.no
  have s6:=s.bb
  have s7:=s.lb
  have c1:=co.wi
  have c2:=co.no
  have c3:=co.bb
  have c4:=co.lb
  unfold M1 at tb
  have w1:IntKind.i64.wrap ((A5 r L sd n k i).runs+BU (Ak r (evR L i)))=(A5 r L sd n k i).runs+BU (Ak r (evR L i)):=BD (by omega) (by omega)
  have w2:IntKind.i64.wrap ((A5 r L sd n k i).wickets+1)=(A5 r L sd n k i).wickets+1:=BD (by omega) (by omega)
  have w3:IntKind.i64.wrap ((A5 r L sd n k i).balls+1)=(A5 r L sd n k i).balls+1:=BD (by omega) (by omega)
  have w4:IntKind.i64.wrap ((A5 r L sd n k i).wides+(Ak r (evR L i)).wides)=(A5 r L sd n k i).wides+(Ak r (evR L i)).wides:=BD (by omega) (by omega)
  have w5:IntKind.i64.wrap ((A5 r L sd n k i).noballs+(Ak r (evR L i)).noballs)=(A5 r L sd n k i).noballs+(Ak r (evR L i)).noballs:=BD (by omega) (by omega)
  have w6:IntKind.i64.wrap ((A5 r L sd n k i).byes+(Ak r (evR L i)).byes)=(A5 r L sd n k i).byes+(Ak r (evR L i)).byes:=BD (by omega) (by omega)
  have w7:IntKind.i64.wrap ((A5 r L sd n k i).legbyes+(Ak r (evR L i)).legbyes)=(A5 r L sd n k i).legbyes+(Ak r (evR L i)).legbyes:=BD (by omega) (by omega)
  have od:=jw (evR L i)
  cases hb:SK (evR L i) with
  | false =>
   simp only [cond_false,cond_true,GR _ _ _ hk,w1,w3,w4,w5,w6,w7]
   refine fin _ ?_
   rw [ex]
   unfold Nf
   rw [od,hb]
   cases (Ak r (evR L i)).counts<;>simp only [cond_false,cond_true,Int.add_zero]
  | true =>
   simp only [cond_true,Tq tl,List.set_set,GR _ _ _ hk,w1,w2,w3,w4,w5,w6,w7]
   refine fin _ ?_
   rw [ex]
   unfold Nf
   rw [od,hb]
   cases (Ak r (evR L i)).counts<;>simp only [cond_false,cond_true,Int.add_zero]
 | false =>
  have s:=sm k
  have s2:=s.wk
  have w2:IntKind.i64.wrap ((A5 r L sd n k i).wickets+1)=(A5 r L sd n k i).wickets+1:=BD (by omega) (by omega)
  have od:=jw (evR L i)
  cases h13:(evR L i).kind==13 with
  | true =>
   have k13:=beq_iff_eq.1 h13
   have ob:SK (evR L i)=false:=by unfold SK;rw [k13];rfl
   have oe:B1 (evR L i)=0:=by unfold B1;rw [k13];rfl
   have ex:∀ j,A5 r L sd n j (i+1)=JE (cond (isS (DD sd n k (evR L i).side) j) 5 0) (A5 r L sd n j i):=fun j=>by
    rw [cs,h13,Bool.true_and,hp,LV _ h4 oe]
    cases Nat.beq (opn L (i+1)) (j+1)<;>rfl
   simp only [ob,cond_false,cond_true]
   cases hd:DD sd n k (evR L i).side with
   | none =>
    refine fx (fun j hj=>?_)
    rw [ex,hd]
    exact CB _
   | some d =>
    have dl:=kE hk hd
    have q:=sm d
    have q1:=q.runs
    have q2:=q.pens
    have v1:IntKind.i64.wrap ((A5 r L sd n d i).runs+5)=(A5 r L sd n d i).runs+5:=BD (by omega) (by omega)
    have v2:IntKind.i64.wrap ((A5 r L sd n d i).pens+5)=(A5 r L sd n d i).pens+5:=BD (by omega) (by omega)
    simp only [GR _ _ _ dl,v1,v2]
    refine WU dl ?_ (fun j hj hjd=>?_)
    ·rw [ex,hd,show isS (some d) d=true from Nj d]
     rfl
    ·rw [ex,hd,show isS (some d) j=false from QM hjd]
     exact CB _
  | false =>
   have ex:∀ j,A5 r L sd n j (i+1)=cond (Nat.beq (opn L (i+1)) (j+1)) (Nf r (evR L i) (A5 r L sd n j i)) (A5 r L sd n j i):=fun j=>by
    rw [cs,h13,Bool.false_and,cond_false,CB]
   have oe:NR (evR L i)=B1 (evR L i):=by unfold NR;rw [h4];rfl
   rw [oe] at od
   cases hb:SK (evR L i) with
   | false =>
    rw [hb] at od
    simp only [cond_false]
    refine fx (fun j hj=>?_)
    rw [ex,LV _ h4 od]
    cases Nat.beq (opn L (i+1)) (j+1)<;>rfl
   | true =>
    rw [hb] at od
    simp only [cond_false,cond_true,GR _ _ _ hk,w2]
    refine WU hk ?_ (fun j hj hjk=>?_)
    ·rw [ex,hy,cond_true,Ya _ h4,od]
     rfl
    ·rw [ex,hn j hjk];rfl
def sdT (L:Rows):Nat→Int:=Wi (aC L) (Dy L L.length)
def Xy (r:Rul) (L:Rows) (sd:Nat→Int):List Sco:=(List.range (opn L L.length)).map fun j=>A5 r L sd (opn L L.length) j L.length
structure InLog (L:Rows):Prop where
 len:L.length≤4000
 pen:∀ j,j<L.length→((evR L j).kind==13)=true→1≤opn L (j+1)
set_option maxHeartbeats 4000000 in
theorem ki {N : Nat} {r : Rul} {L : Rows} {k : Nat} (hN : 2097152 < N) (il : InLog L) (rk : RulOk r) (hk : k < opn L L.length) {F : (List AQ → Option (List PV)) → List PV → Option (List PV)}
    (f0:∀ xs self,F self [.rows (Ar xs),.int ((AJ L (k+1) - AJ L k:Nat):Int)]=some [.rows (Ar xs),.int ((AJ L (k+1) - AJ L k:Nat):Int)])
    (f1:∀ (i:Nat) self,i<AJ L (k+1) - AJ L k→∀ xs:List Sco,xs.length=opn L L.length→F self [.rows (Ar xs),.int (i:Int)]=self [.rows (Ar (cx r (evR L (AJ L k+i)) k (DD (sdT L) (opn L L.length) k (evR L (AJ L k+i)).side) xs)),.int ((i+1:Nat):Int)]) :
    CS F N [.rows (Ar (Db r L (sdT L) (opn L L.length) (k+1) (AJ L k))),.int 0]=some [.rows (Ar (Db r L (sdT L) (opn L L.length) (k+1) (AJ L (k+1)))),.int ((AJ L (k+1) - AJ L k:Nat):Int)]:=by
  have sg:=seg (by have:=il.len;omega) hk
  have h1:=sg.lt
  have h2:=sg.le
  have h3:=il.len
  have e:AJ L k+(AJ L (k+1) - AJ L k)=AJ L (k+1):=by omega
  have:=Bc (F:=F) (len:=AJ L (k+1) - AJ L k) (fun i=>[.rows (Ar (Db r L (sdT L) (opn L L.length) (k+1) (AJ L k+i))),.int (i:Int)]) [.rows (Ar (Db r L (sdT L) (opn L L.length) (k+1) (AJ L (k+1)))),.int ((AJ L (k+1) - AJ L k:Nat):Int)]
    (fun self=>by
      show F self [.rows (Ar (Db r L (sdT L) (opn L L.length) (k+1) (AJ L k+(AJ L (k+1) - AJ L k)))),_]=_
      rw [e]
      exact f0 _ self)
    (fun i self hi=>by
      show F self [.rows (Ar (Db r L (sdT L) (opn L L.length) (k+1) (AJ L k+i))),.int (i:Int)]=_
      rw [f1 i self hi _ (Cs _ _ _ _ _ _),ma rk hk (sg.mid _ (by omega) (by omega)) (by omega)]
      rfl) N (by omega)
  exact this
theorem pR (L:Rows) (i:Nat):(⟨pvI (AE L i 0),pvI (AE L i 1),pvI (AE L i 2),pvI (AE L i 3),pvB (AE L i 4),pvI (AE L i 5),pvI (AE L i 6),⟨pvI (AE L i 7),pvI (AE L i 8),pvI (AE L i 9),pvI (AE L i 10),pvI (AE L i 11),pvB (AE L i 12),pvI (AE L i 13),pvI (AE L i 14),pvI (AE L i 15),pvI (AE L i 16),pvB (AE L i 17),pvI (AE L i 18)⟩⟩:Ev)=evR L i:=rfl
set_option maxHeartbeats 4000000 in
theorem aM {N:Nat} {r1 r2 r3 r4 r5 r6 r7 r9 r10 r11 r12:Int} {r8:Bool} {r0:ByteArray} {r13:Rows} {L:Rows} (hN:2097152<N) (hs:r0.size≤1048576) (h13:r13.length≤1048576) (hL:L.length≤1048576) (il:BG (⟨r0,r1,r2,r3,r4,r5,r6,r7,r8,r9,r10,r11,r12,r13⟩:Rul) L=0→InLog L∧RulOk (⟨r0,r1,r2,r3,r4,r5,r6,r7,r8,r9,r10,r11,r12,r13⟩:Rul)):Jg N [.str r0,.int r1,.int r2,.int r3,.int r4,.int r5,.int r6,.int r7,.bool r8,.int r9,.int r10,.int r11,.int r12,.rows r13,.rows L]=some [.rows (cond (!(BG (⟨r0,r1,r2,r3,r4,r5,r6,r7,r8,r9,r10,r11,r12,r13⟩:Rul) L==0)) [] (Ar (Xy (⟨r0,r1,r2,r3,r4,r5,r6,r7,r8,r9,r10,r11,r12,r13⟩:Rul) L (sdT L)))),.int (BG (⟨r0,r1,r2,r3,r4,r5,r6,r7,r8,r9,r10,r11,r12,r13⟩:Rul) L)]:=by
  show JY (std (Bw N) N) (xOf _)=_
  generalize hres:(some [.rows (cond (!(BG (⟨r0,r1,r2,r3,r4,r5,r6,r7,r8,r9,r10,r11,r12,r13⟩:Rul) L==0)) [] (Ar (Xy (⟨r0,r1,r2,r3,r4,r5,r6,r7,r8,r9,r10,r11,r12,r13⟩:Rul) L (sdT L)))),.int (BG (⟨r0,r1,r2,r3,r4,r5,r6,r7,r8,r9,r10,r11,r12,r13⟩:Rul) L)]:Option (List PV))=RR
  simp only [JY,F8,QQ,Oo,OS,JA,Fj,Qr,std,xOf,PXb,SA hN hs h13 hL]
  subst hres
  cases hc:BG (⟨r0,r1,r2,r3,r4,r5,r6,r7,r8,r9,r10,r11,r12,r13⟩:Rul) L==0 with
  | false=>rfl
  | true =>
    have c0:=beq_iff_eq.1 hc
    obtain ⟨il,rk⟩:=il c0
    have ol:=Sx L L.length
    have l4:=il.len
    have s80:iSm ((opn L L.length:Nat):Int) 80=true:=Fr (by omega) (by omega)
    rw [c0]
    simp only [PXb,Bool.not_true,cn hN hL,Bu,Ss,s80,JK hN hL,nV]
    have st:List.replicate (opn L L.length) dS=Db (⟨r0,r1,r2,r3,r4,r5,r6,r7,r8,r9,r10,r11,r12,r13⟩:Rul) L (sdT L) (opn L L.length) 0 (AJ L 0):=by
      refine mc ?_ (fun j hj=>il.pen j ?_)
      · by_cases h0:0<opn L L.length
        · exact (seg hL h0).o0
        · unfold AJ;rw [if_neg h0];omega
      · have : AJ L 0 ≤ L.length := by
          by_cases h0:0<opn L L.length
          · have:=(seg hL h0).lt;have:=(seg hL h0).le;omega
          · unfold AJ;rw [if_neg h0];exact Nat.le_refl _
        omega
    rw [st]
    refine AO (Bc (len:=opn L L.length) (fun k=>[.rows (Ar (Db (⟨r0,r1,r2,r3,r4,r5,r6,r7,r8,r9,r10,r11,r12,r13⟩:Rul) L (sdT L) (opn L L.length) k (AJ L k))),.int (k:Int)]) [.rows (Ar (Xy (⟨r0,r1,r2,r3,r4,r5,r6,r7,r8,r9,r10,r11,r12,r13⟩:Rul) L (sdT L)))] ?_ ?_ N (by omega)) ?_
    · intro self
      simp only [PXb,PXc,PXn,AG,PXp,LR,BB,nS,nZ]
      rfl
    · intro k self hk
      have sg:=seg hL hk
      have sgl:=sg.lt
      have sge:=sg.le
      have rg:iRg (AJ L k:Int) (AJ L (k+1):Int) (L.length:Int)=true:=by simp only [iRg,decide_eq_true_eq];omega
      have zk:atI (AU (zs (sdT L) (opn L L.length))) k 0=sdT L k:=jq _ hk
      have sl:=gz (L:=L) (a:=AJ L k) sge
      have zk':pvI (AE (AU (zs (Wi (aC L) (Dy L L.length)) (opn L L.length))) k 0)=sdT L k:=zk
      simp only [PXb,PXc,PXn,AG,PXp,PXs,LR,DB (show k≤1099511627776 by omega),A4 hk,AS hk,Cs,Bu,Ss,sg.x0,sg.x1,rg,zk',PXt,mJ hk]
      generalize hX:List.drop (AJ L k) (List.take (AJ L (k+1)) L)=X at *
      refine AO (ki hN il rk hk ?_ ?_) ?_
      · intro xs self
        simp only [PXb,PXc,PXn,AG,sl,BB]
      · intro i self hi xs hx
        have hev:evR X i=evR L (AJ L k+i):=by rw [← hX];exact ka L i hi
        simp only [PXb,PXc,PXn,AG,PXc,sl,DB (show i≤1099511627776 by omega),A4 hi,AS hi,Nat.reduceAdd,JA,gx,pR,hev]
        have hk':k<xs.length:=by rw [hx];exact hk
        generalize hd:DD (sdT L) (opn L L.length) k (evR L (AJ L k+i)).side=d
        have kx:pvI (AE X i 0)=(evR L (AJ L k+i)).kind:=congrArg Ev.kind hev
        have sx:pvI (AE X i 1)=(evR L (AJ L k+i)).side:=congrArg Ev.side hev
        have LD:Hw N [.rows (AU (zs (Wi (aC L) (Dy L L.length)) (opn L L.length))),.int (k:Int),.int (evR L (AJ L k+i)).side]=some [.int (jb d)]:=by rw [← hd];exact gQ hN (by omega) hk
        have bx:(⟨pvI (AE X i 7),pvI (AE X i 8),pvI (AE X i 9),pvI (AE X i 10),pvI (AE X i 11),pvB (AE X i 12),pvI (AE X i 13),pvI (AE X i 14),pvI (AE X i 15),pvI (AE X i 16),pvB (AE X i 17),pvI (AE X i 18)⟩:Del)=(evR L (AJ L k+i)).ball:=congrArg Ev.ball hev
        rw [kx]
        unfold cx
        cases ho:SK (evR L (AJ L k+i))<;>cases h4:(evR L (AJ L k+i)).kind==4<;>cases h13:(evR L (AJ L k+i)).kind==13
        all_goals simp only [PXb,PXc,PXn,AG,PXc,PXs,PXt,Nat.reduceAdd,Fj,GD,bx,sx,LD,F8,K1,List.length_set,AS hk',hk',Tq hk',List.set_set,Cre.ls,ho,h4,h13]
        all_goals first
          | (cases (AB (⟨r0,r1,r2,r3,r4,r5,r6,r7,r8,r9,r10,r11,r12,r13⟩:Rul) (evR L (AJ L k+i)).ball).counts<;>rfl)
          | (cases d with
             | none=>rfl
             | some j =>
               have dl:j<xs.length:=by rw [hx];exact kE hk hd
               have dl2:∀ y s,sco ((xs.set k y).set j s) j=s:=fun y s=>Tq (by rw [List.length_set];exact dl) s
               simp only [jb,PXb,jy,AS dl,List.length_set,Tq dl,List.set_set,dl2])
      · simp only [PXb,PXc,PXn,AG,PXc,PXb,PXc,PXn,PXm,Nat.reduceAdd,Int.reduceBEq]
    · simp only [PXb,PXc,PXn,PXm,Nat.reduceAdd,Int.reduceBEq]
end Go.Px
end
section
namespace Go.Px
set_option maxRecDepth 100000
theorem Od {r:Rul} {L:Rows} (h:BG r L=0):((Ad r).2==0)=true∧BE r=0∧L.length≤4000∧acc L L.length 0 (Ad r).1∧H2 r L=(stM L L.length 0 (Ad r).1,-1,0):=by
 unfold BG at h
 cases hc:BE r==0 with
 | false=>rw [hc] at h;rw [show BE r=0 from h] at hc;cases hc
 | true =>
  cases hl:iLt 4000 (L.length:Int) with
  | true=>rw [hc,hl] at h;cases h
  | false =>
   cases hr:(H2 r L).2.2==0 with
   | false=>rw [hc,hl,hr] at h;cases h
   | true =>
    have hn:=(mP r).trans hc
    have hrep:H2 r L=HW L L.length 0 (Ad r).1:=by unfold H2;rw [hn];rfl
    obtain ⟨k,h1,h2,h3,h4⟩:=YP L L.length 0 (Ad r).1
    have l4:L.length≤4000:=by simp only [iLt,decide_eq_false_iff_not] at hl;omega
    rcases h4 with ⟨h5,h6⟩ | ⟨h5,h6,h7⟩
    ·subst h5
     exact ⟨hn,beq_iff_eq.1 hc,l4,h2,hrep.trans h6⟩
    ·rw [hrep,h7] at hr
     rw [h6] at hr
     cases hr
theorem jd {r:Rul} {L:Rows} (h:BG r L=0):InLog L∧RulOk r:=by
 obtain ⟨h1,h2,h3,h4,h5⟩:=Od h
 obtain ⟨_,_,h6⟩:=M4 h1 h4 L.length (Nat.le_refl _)
 refine ⟨⟨h3,fun j hj k13=>?_⟩,EV h2⟩
 have e:=beq_iff_eq.1 k13
 have:=(h6 j hj).2.play (by rw [e];rfl) (by rw [e];rfl) (by rw [e];rfl) (by rw [e];rfl)
 exact Nat.le_trans this (Qx L j)
theorem oV (r:Rul) (L:Rows) (sd:Nat→Int):(Xy r L sd).length=opn L L.length:=by unfold Xy;rw [List.length_map,List.length_range]
theorem pX {r:Rul} {L:Rows} {sd:Nat→Int} {j:Nat} (h:j<opn L L.length):sco (Xy r L sd) j=A5 r L sd (opn L L.length) j L.length:=by
 rw [Em]
 unfold Xy
 rw [List.getElem?_map,List.getElem?_range h]
 rfl
def prA (r:Rul) (L:Rows) (k p:Nat):Cre:=⟨smi L (fun e=>(Ak r e).batter) k p,smi L (fun e=>(Ak r e).wides) k p,smi L (fun e=>(Ak r e).noballs) k p,smi L (fun e=>(Ak r e).byes) k p,smi L (fun e=>(Ak r e).legbyes) k p,smi L (fun e=>(Ak r e).bowler) k p,false,false,false,false⟩
theorem dc {r:Rul} {L:Rows} {k p:Nat} (h:opn L p≤k):prA r L k p=IX:=by
 unfold prA
 have z:∀ f:Ev→Int,smi L f k p=0:=fun f=>UC p h
 simp only [z]
 rfl
theorem nA {r:Rul} (h:RulOk r) (e:Ev):0≤(Ak r e).bowler∧(Ak r e).bowler≤36:=by
 have c:=Dv h e
 have h0:=c.ba
 have h1:=c.wi
 have h2:=c.no
 have h3:=c.bo
 omega
def jP (a c:Cre):Cre:=⟨IntKind.i64.wrap (a.batter+c.batter),IntKind.i64.wrap (a.wides+c.wides),IntKind.i64.wrap (a.noballs+c.noballs),IntKind.i64.wrap (a.byes+c.byes),IntKind.i64.wrap (a.legbyes+c.legbyes),IntKind.i64.wrap (a.bowler+c.bowler),false,false,false,false⟩
theorem lX {r:Rul} {L:Rows} {k p:Nat} (rk:RulOk r) (ho:opn L (p+1)=k+1) (hp:p<4000):prA r L k (p+1)=jP (prA r L k p) (Ak r (evR L p)):=by
 have hy:Nat.beq (opn L (p+1)) (k+1)=true:=by rw [ho];exact Nj _
 have c:=Dv rk (evR L p)
 have h0:=c.ba
 have h1:=c.wi
 have h2:=c.no
 have h3:=c.bb
 have h4:=c.lb
 have h5:=nA rk (evR L p)
 have b0:=GG (L:=L) (f:=fun e=>(Ak r e).batter) (fun e=>(Dv rk e).ba) k p
 have b1:=GG (L:=L) (f:=fun e=>(Ak r e).wides) (fun e=>(Dv rk e).wi) k p
 have b2:=GG (L:=L) (f:=fun e=>(Ak r e).noballs) (fun e=>(Dv rk e).no) k p
 have b3:=GG (L:=L) (f:=fun e=>(Ak r e).byes) (fun e=>(Dv rk e).bb) k p
 have b4:=GG (L:=L) (f:=fun e=>(Ak r e).legbyes) (fun e=>(Dv rk e).lb) k p
 have b5:=GG (L:=L) (f:=fun e=>(Ak r e).bowler) (nA rk) k p
 unfold prA jP
 simp only [I4,hy,cond_true]
 rw [BD (n:=smi L (fun e=>(Ak r e).batter) k p+_) (by omega) (by omega),BD (n:=smi L (fun e=>(Ak r e).wides) k p+_) (by omega) (by omega),BD (n:=smi L (fun e=>(Ak r e).noballs) k p+_) (by omega) (by omega),BD (n:=smi L (fun e=>(Ak r e).byes) k p+_) (by omega) (by omega),BD (n:=smi L (fun e=>(Ak r e).legbyes) k p+_) (by omega) (by omega),BD (n:=smi L (fun e=>(Ak r e).bowler) k p+_) (by omega) (by omega)]
theorem mQ {r:Rul} {L:Rows} {k p:Nat} (h4:((evR L p).kind==4)=false):prA r L k (p+1)=prA r L k p:=by
 have c0:Ak r (evR L p)=IX:=by unfold Ak;rw [h4];rfl
 unfold prA
 simp only [I4,c0,IX]
 cases Nat.beq (opn L (p+1)) (k+1)<;>simp only [cond_true,cond_false,Int.add_zero]
def eA (r:Rul) (L:Rows) (k:Int):Cre×Int:=cond (!(BG r L==0)) (IX,BG r L) (cond (iLt k 0||iLe (opn L L.length:Int) k) (IX,2) (prA r L k.toNat L.length,0))
def jQ (x:Cre×Int):List PV:=[.int x.1.batter,.int x.1.wides,.int x.1.noballs,.int x.1.byes,.int x.1.legbyes,.int x.1.bowler,.bool x.1.counts,.bool x.1.faced,.bool x.1.wicket,.bool x.1.swap,.int x.2]
theorem bm {L:Rows} {f:Ev→Int} {k p:Nat} (h:opn L p=k+1) (hp:p≤L.length) (hn:p=L.length∨((evR L p).kind==2)=true):∀ c,p+c≤L.length→smi L f k (p+c)=smi L f k p
 | 0,_=>rfl
 | c+1,hc=>by
  rw [show p+(c+1)=p+c+1 by omega,I4,bm h hp hn c (by omega)]
  rcases hn with hn | hn
  ·omega
  ·have:=F1 L (show p+1≤p+c+1 by omega)
   rw [Qg hn] at this
   rw [QM (by omega),cond_false,Int.add_zero]
theorem lS {L:Rows} (hL:L.length≤1048576) {k:Nat} (hk:k<opn L L.length):AJ L (k+1)=L.length∨((evR L (AJ L (k+1))).kind==2)=true:=by
 by_cases h:k+1<opn L L.length
 ·obtain ⟨a,p1,p2,p3,p4,p5⟩:=Yk hL L.length (Nat.le_refl _) (k+1) h
  have:AJ L (k+1)=a:=by unfold AJ;rw [if_pos h,p1];rfl
  rw [this]
  exact Or.inr p4
 ·exact Or.inl (by unfold AJ;rw [if_neg h])
theorem oX {L:Rows} (hL:L.length≤1048576) {f:Ev→Int} {k:Nat} (hk:k<opn L L.length):smi L f k L.length=smi L f k (AJ L (k+1)):=by
 have sg:=seg hL hk
 have:=bm (f:=f) sg.o1 sg.le (lS hL hk) (L.length - AJ L (k+1)) (by have:=sg.le;omega)
 rw [show AJ L (k+1)+(L.length - AJ L (k+1))=L.length by have:=sg.le;omega] at this
 exact this
theorem nU {r:Rul} {L:Rows} (hL:L.length≤1048576) {k:Nat} (hk:k<opn L L.length):prA r L k L.length=prA r L k (AJ L (k+1)):=by
 unfold prA
 simp only [oX hL hk]
theorem kJ {N : Nat} {r : Rul} {L : Rows} {k : Nat} (hN : 2097152 < N) (il : InLog L) (rk : RulOk r) (hk : k < opn L L.length) {F : (List AQ → Option (List PV)) → List PV → Option (List PV)}
    (f0:∀ (c:Cre) self,F self [.int ((AJ L (k+1) - AJ L k:Nat):Int),.int c.batter,.int c.wides,.int c.noballs,.int c.byes,.int c.legbyes,.int c.bowler,.bool false,.bool false,.bool false,.bool false]=some [.int c.batter,.int c.wides,.int c.noballs,.int c.byes,.int c.legbyes,.int c.bowler,.bool false,.bool false,.bool false,.bool false])
    (f1:∀ (i:Nat) self,i<AJ L (k+1) - AJ L k→∀ c:Cre,F self [.int (i:Int),.int c.batter,.int c.wides,.int c.noballs,.int c.byes,.int c.legbyes,.int c.bowler,.bool false,.bool false,.bool false,.bool false]=(let d:=cond ((evR L (AJ L k+i)).kind==4) (jP c (Ak r (evR L (AJ L k+i)))) c;self [.int ((i+1:Nat):Int),.int d.batter,.int d.wides,.int d.noballs,.int d.byes,.int d.legbyes,.int d.bowler,.bool false,.bool false,.bool false,.bool false])) :
    CS F N [.int 0,.int 0,.int 0,.int 0,.int 0,.int 0,.int 0,.bool false,.bool false,.bool false,.bool false]=some (prA r L k (AJ L (k+1))).ls:=by
  have sg:=seg (by have:=il.len;omega) hk
  have h1:=sg.lt
  have h2:=sg.le
  have h3:=il.len
  have e:AJ L k+(AJ L (k+1) - AJ L k)=AJ L (k+1):=by omega
  have z0:prA r L k (AJ L k)=IX:=dc (by rw [sg.o0];exact Nat.le_refl _)
  have:=Bc (F:=F) (len:=AJ L (k+1) - AJ L k) (fun i=>[.int (i:Int),.int (prA r L k (AJ L k+i)).batter,.int (prA r L k (AJ L k+i)).wides,.int (prA r L k (AJ L k+i)).noballs,.int (prA r L k (AJ L k+i)).byes,.int (prA r L k (AJ L k+i)).legbyes,.int (prA r L k (AJ L k+i)).bowler,.bool false,.bool false,.bool false,.bool false]) (prA r L k (AJ L (k+1))).ls
    (fun self=>by
      have:=f0 (prA r L k (AJ L k+(AJ L (k+1) - AJ L k))) self
      rw [e] at this
      show F self [.int ((AJ L (k+1) - AJ L k:Nat):Int),.int (prA r L k (AJ L k+(AJ L (k+1) - AJ L k))).batter,.int (prA r L k (AJ L k+(AJ L (k+1) - AJ L k))).wides,.int (prA r L k (AJ L k+(AJ L (k+1) - AJ L k))).noballs,.int (prA r L k (AJ L k+(AJ L (k+1) - AJ L k))).byes,.int (prA r L k (AJ L k+(AJ L (k+1) - AJ L k))).legbyes,.int (prA r L k (AJ L k+(AJ L (k+1) - AJ L k))).bowler,.bool false,.bool false,.bool false,.bool false]=_
      rw [e,this]
      rfl)
    (fun i self hi=>by
      have f2:=f1 i self hi (prA r L k (AJ L k+i))
      have st:prA r L k (AJ L k+i+1)=cond ((evR L (AJ L k+i)).kind==4) (jP (prA r L k (AJ L k+i)) (Ak r (evR L (AJ L k+i)))) (prA r L k (AJ L k+i)):=by
        cases h4:(evR L (AJ L k+i)).kind==4 with
        | true=>exact lX rk (sg.mid _ (by omega) (by omega)) (by omega)
        | false=>exact mQ h4
      rw [← st] at f2
      exact f2) N (by omega)
  rw [Nat.add_zero,z0] at this
  exact this
set_option maxHeartbeats 4000000 in
theorem ZJ {N:Nat} {r1 r2 r3 r4 r5 r6 r7 r9 r10 r11 r12:Int} {r8:Bool} {r0:ByteArray} {r13:Rows} {L:Rows} {k:Int} (hN:2097152<N) (hs:r0.size≤1048576) (h13:r13.length≤1048576) (hL:L.length≤1048576):IB N [.str r0,.int r1,.int r2,.int r3,.int r4,.int r5,.int r6,.int r7,.bool r8,.int r9,.int r10,.int r11,.int r12,.rows r13,.rows L,.int k]=some (jQ (eA (⟨r0,r1,r2,r3,r4,r5,r6,r7,r8,r9,r10,r11,r12,r13⟩:Rul) L k)):=by
 show IG (std (D8 N) N) (xOf _)=_
 generalize hres:(some (jQ (eA (⟨r0,r1,r2,r3,r4,r5,r6,r7,r8,r9,r10,r11,r12,r13⟩:Rul) L k)):Option (List PV))=RR
 simp only [IG,PX,NJ,E8,std,xOf,PXb,SA hN hs h13 hL,JK hN hL,PXp,LR]
 subst hres;simp only [eA]
 cases hc:BG (⟨r0,r1,r2,r3,r4,r5,r6,r7,r8,r9,r10,r11,r12,r13⟩:Rul) L==0 with
 | false=>rfl
 | true =>
  obtain ⟨il,rk⟩:=jd (beq_iff_eq.1 hc)
  simp only [PXb,Bool.not_true]
  cases hb:iLt k 0||iLe (opn L L.length:Int) k with
  | true=>rfl
  | false =>
   simp only [Bool.or_eq_false_iff,iLt,iLe,decide_eq_false_iff_not] at hb
   obtain ⟨K,rfl⟩:∃ K:Nat,k=(K:Int):=⟨k.toNat,by omega⟩
   have hk:K<opn L L.length:=by omega
   have sg:=seg hL hk
   have sgl:=sg.lt
   have sge:=sg.le
   have l4:=il.len
   have rg:iRg (AJ L K:Int) (AJ L (K+1):Int) (L.length:Int)=true:=by simp only [iRg,decide_eq_true_eq];omega
   have sl:=gz (L:=L) (a:=AJ L K) sge
   simp only [PXb,AS hk,sg.x0,sg.x1,rg,nU hL hk,Int.toNat_natCast]
   generalize hX:List.drop (AJ L K) (List.take (AJ L (K+1)) L)=X at *
   have z0:prA (⟨r0,r1,r2,r3,r4,r5,r6,r7,r8,r9,r10,r11,r12,r13⟩:Rul) L K (AJ L K)=IX:=dc (by rw [sg.o0];exact Nat.le_refl _)
   have e1:AJ L K+(AJ L (K+1) - AJ L K)=AJ L (K+1):=by omega
   refine AO (kJ hN il rk hk ?_ ?_) rfl
   ·intro c self
    simp only [PXb,PXc,PXn,AG,sl,BB]
   ·intro i self hi c
    have hev:evR X i=evR L (AJ L K+i):=by rw [← hX];exact ka L i hi
    have kx:pvI (AE X i 0)=(evR L (AJ L K+i)).kind:=congrArg Ev.kind hev
    have bx:(⟨pvI (AE X i 7),pvI (AE X i 8),pvI (AE X i 9),pvI (AE X i 10),pvI (AE X i 11),pvB (AE X i 12),pvI (AE X i 13),pvI (AE X i 14),pvI (AE X i 15),pvI (AE X i 16),pvB (AE X i 17),pvI (AE X i 18)⟩:Del)=(evR L (AJ L K+i)).ball:=congrArg Ev.ball hev
    simp only [PXb,PXc,PXn,AG,PXc,sl,DB (show i≤1099511627776 by omega),A4 hi,AS hi,Nat.reduceAdd,kx,E8,GD,bx,Cre.ls]
    unfold Ak
    cases h4:(evR L (AJ L K+i)).kind==4<;>rfl
end Go.Px
end
section
namespace Go.Px
set_option maxRecDepth 100000
theorem lQ {N:Nat} {L:Rows}  : N8 N [.rows L]=some [.rows (cut L 60)]:=by
 show OD (std (KB N) N) (xOf _)=_
 simp only [OD,std,xOf,PXb,PXc,PXn,PXm,Nat.reduceAdd,Int.reduceBEq,qN (show (0:Int)≤60 by omega)]
 rfl
def MF (k s p o:Int) (y:Bool) (t f n b h v:Int):List PV:=[.int k,.int s,.int p,.int o,.bool y,.int 0,.int 0,.int t,.int f,.int n,.int 0,.int b,.bool false,.int h,.int v,.int 0,.int 0,.bool false,.int 0]
def N0:Rows:=[MF 1 1 0 0 true 0 0 0 0 0 0,MF 2 0 1 2 false 0 0 0 0 0 0,MF 8 0 2 0 false 0 0 0 0 0 0,MF 3 0 1 0 false 0 0 0 0 0 0,MF 4 0 0 0 false 1 1 1 0 0 0,MF 4 0 0 0 false 1 0 0 0 1 1,MF 2 0 2 1 false 0 0 0 0 0 0,MF 8 0 1 0 false 0 0 0 0 0 0,MF 3 0 2 0 false 0 0 0 0 0 0,MF 4 0 0 0 false 2 0 0 0 0 0,MF 4 0 0 0 false 1 1 0 4 0 0]
def Nx:Rul:=⟨⟨#[84,69,83,84]⟩,2,1,1,4,0,1,1,false,0,0,0,11,[]⟩
theorem py:Oc 4194304 []=some [.rows N0]:=by kernel_rfl
theorem nv:KG 4194304 []=some Nx.ls:=by kernel_rfl
theorem P8 {x:Option (List PV)} {v:List PV} {f:List PV→Option (List PV)} {r:Option (List PV)} (h:x=some v) (hk:f v=r):x.bind f=r:=by rw [h];exact hk
theorem pw (L:Rows):(cut L 60).length≤1048576:=Nat.le_trans (lG L 60) (show 60≤1048576 by omega)
theorem hZ {r:Rul} (rk:RulOk r) (L:Rows) (k:Nat):∀ p,smi L (M1 r) k p=(prA r L k p).batter+(prA r L k p).wides+(prA r L k p).noballs+(prA r L k p).byes+(prA r L k p).legbyes∧(prA r L k p).bowler=(prA r L k p).batter+(prA r L k p).wides+(prA r L k p).noballs
 | 0=>⟨rfl,rfl⟩
 | p+1=>by
  obtain ⟨h1,h2⟩:=hZ rk L k p
  have c:=Dv rk (evR L p)
  have c1:=c.tot
  have c2:=c.bo
  unfold prA at h1 h2 ⊢
  simp only [I4] at h1 h2 ⊢
  unfold M1
  unfold M1 at h1
  cases Nat.beq (opn L (p+1)) (k+1)<;>simp only [cond_true,cond_false]<;>omega
theorem pT {r:Rul} {L:Rows} {k:Nat} (hc:BG r L=0) (hk:k<opn L L.length):eA r L (k:Int)=(prA r L k L.length,0):=by
 unfold eA
 have e:(iLt (k:Int) 0||iLe (opn L L.length:Int) (k:Int))=false:=by
  simp only [Bool.or_eq_false_iff,iLt,iLe,decide_eq_false_iff_not]
  omega
 rw [hc,e]
 rfl
end Go.Px
end
section
namespace Go.Px
set_option maxRecDepth 100000
structure Up (x y:Sco):Prop where
 side:y.side=x.side
 runs:x.runs≤y.runs
 wk:x.wickets≤y.wickets
 balls:x.balls≤y.balls
theorem Up.refl (x:Sco):Up x x:=⟨rfl,Int.le_refl _,Int.le_refl _,Int.le_refl _⟩
end Go.Px
end
section
namespace Go.Px
set_option maxRecDepth 100000
theorem Zo {L:Rows}:∀ k i m out,To L (k+1) i m out=cond ((evR L (i+k)).kind==4) (To L k i m out++[Lm ((i+k:Nat):Int) (stM L k i m) (A0 ((i+k:Nat):Int) (stM L k i m) (evR L (i+k))).1 (evR L (i+k)).ball]) (To L k i m out)
 | 0,i,m,out=>rfl
 | k+1,i,m,out=>by
  have ih:=Zo (L:=L) k (i+1) (A0 i m (evR L i)).1 (cond ((evR L i).kind==4) (out++[Lm i m (A0 i m (evR L i)).1 (evR L i).ball]) out)
  rw [show i+1+k=i+(k+1) by omega] at ih
  exact ih
def UO (x:List PV):List PV:=[.int (pvI (AA x 0)),.int (pvI (AA x 1)),.int (pvI (AA x 2)),.int (pvI (AA x 3)),.int (pvI (AA x 4)),.int (pvI (AA x 5)),.int (pvI (AA x 6)),.bool (pvB (AA x 7)),.int (pvI (AA x 8)),.int (pvI (AA x 9)),.int (pvI (AA x 10)),.int (pvI (AA x 11)),.int (pvI (AA x 12)),.bool (pvB (AA x 13)),.int (pvI (AA x 14)),.int (pvI (AA x 15)),.int (pvI (AA x 16)),.int (pvI (AA x 17)),.bool (pvB (AA x 18)),.int (pvI (AA x 19)),.int (pvI (AA x 20)),.int (pvI (AA x 21)),.int (pvI (AA x 22)),.int (pvI (AA x 23)),.int (pvI (AA x 24)),.int (pvI (AA x 25)),.bool (pvB (AA x 26)),.bool (pvB (AA x 27)),.bool (pvB (AA x 28)),.bool (pvB (AA x 29)),.int (pvI (AA x 30)),.int (pvI (AA x 31))]
def fil (k:Int):Rows→Rows
 | []=>[]
 | x::D=>cond (pvI (AA x 1)==k) (UO x::fil k D) (fil k D)
theorem aO (k:Int):∀ A B,fil k (A++B)=fil k A++fil k B
 | [],B=>rfl
 | x::A,B=>by
  show cond _ (UO x::fil k (A++B)) (fil k (A++B))=_
  rw [aO k A B]
  show _=cond (pvI (AA x 1)==k) (UO x::fil k A) (fil k A)++fil k B
  cases pvI (AA x 1)==k<;>rfl
theorem iY (k:Int):∀ D,(fil k D).length≤D.length
 | []=>Nat.le_refl _
 | x::D=>by
  have:=iY k D
  show (cond (pvI (AA x 1)==k) (UO x::fil k D) (fil k D)).length≤D.length+1
  cases pvI (AA x 1)==k
  ·exact Nat.le_succ_of_le this
  ·exact Nat.succ_le_succ this
theorem Xv {D:Rows} {i:Nat} (h:i<D.length):D.take (i+1)=D.take i++[AM D i]:=by
 rw [List.take_add_one,List.getElem?_eq_getElem h]
 unfold AM
 rw [List.getD_eq_getElem?_getD,List.getElem?_eq_getElem h]
 rfl
theorem mY {D:Rows} {i:Nat} {k:Int} (h:i<D.length):fil k (D.take (i+1))=cond (pvI (AE D i 1)==k) (fil k (D.take i)++[UO (AM D i)]) (fil k (D.take i)):=by
 rw [Xv h,aO]
 show fil k (D.take i)++cond (pvI (AA (AM D i) 1)==k) [UO (AM D i)] []=_
 show _=cond (pvI (AA (AM D i) 1)==k) _ _
 cases pvI (AA (AM D i) 1)==k
 ·exact List.append_nil _
 ·rfl
theorem lr {N : Nat} {D : Rows} {k : Int} (hN : 2097152 < N) (hD : D.length ≤ 1000000) {F : (List AQ → Option (List PV)) → List PV → Option (List PV)}
    (h0:∀ self,F self [.rows (fil k D),.int (D.length:Int)]=some [.rows (fil k D)])
    (h1:∀ i self out,i<D.length→out.length≤i→F self [.rows out,.int (i:Int)]=self [.rows (cond (pvI (AE D i 1)==k) (out++[UO (AM D i)]) out),.int ((i+1:Nat):Int)]):CS F N [.rows [],.int 0]=some [.rows (fil k D)]:=by
  have:=Bc (F:=F) (len:=D.length) (fun i=>[.rows (fil k (D.take i)),.int (i:Int)]) [.rows (fil k D)] (fun self=>by
    show F self [.rows (fil k (D.take D.length)),_]=_
    rw [List.take_length]
    exact h0 self) (fun i self hi=>by
    have hl:=iY k (D.take i)
    rw [List.length_take] at hl
    rw [mY hi]
    exact h1 i self _ hi (by omega)) N (by omega)
  exact this
theorem eW {d:Del} (h:(EA d==0)=true):0≤d.sector∧d.sector≤8:=by
 unfold EA at h
 cases h1:(iLt d.type 1||iLt 3 d.type||iLt 3 d.source||iLt 10 d.how || !btw d.sector 0 8) with
 | true=>rw [h1] at h;cases h
 | false =>
  simp only [btw,iLe,Bool.or_eq_false_iff,Bool.not_eq_false',Bool.and_eq_true,decide_eq_true_eq] at h1
  exact h1.2
structure BallF (r:Rul) (L:Rows) (a:Nat):Prop where
 one:1≤opn L a
 lnx:lnx (stM L a 0 (Ad r).1).inns=opn L a - 1
 inn:IntKind.i64.wrap (((stM L a 0 (Ad r).1).inns.length:Int) - 1)=((opn L a - 1:Nat):Int)
 ok:InnOk r (Ab (stM L a 0 (Ad r).1))
 rules:(stM L a 0 (Ad r).1).rules=r
 ref:(Gv r (Ab (stM L a 0 (Ad r).1)) (evR L a).ball==0)=true
 over:(Ab (stM L a 0 (Ad r).1)).complete≤1000
theorem dM {r:Rul} {L:Rows} (hc:BG r L=0) {a:Nat} (ha:a<L.length) (hk:((evR L a).kind==4)=true):BallF r L a:=by
 obtain ⟨h1,h2,h3,h4,h5⟩:=Od hc
 obtain ⟨li,so,_⟩:=M4 h1 h4 a (by omega)
 obtain ⟨_,_,hi⟩:=M4 h1 h4 L.length (Nat.le_refl _)
 have e:=beq_iff_eq.1 hk
 have one:=(hi a ha).2.play (by rw [e];rfl) (by rw [e];rfl) (by rw [e];rfl) (by rw [e];rfl)
 have a0:=WC L.length 0 _ h4 a ha
 rw [Nat.zero_add] at a0
 have q:=(Y3 a0).1
 rw [q] at a0
 obtain ⟨g1,g2,g3,g4⟩:=UE a0 hk
 have sl:=so.len
 have ll:=li.len
 have lx:Px.lnx (stM L a 0 (Ad r).1).inns=opn L a - 1:=by
  unfold Px.lnx
  rw [ll,BQ (by omega) (by omega)]
  omega
 have rl:=so.rules
 obtain ⟨hv,he,hn,hw,hp,hs⟩:=Su g3
 rw [rl] at hv hp
 have ok:=LL.1 hv
 have hpb:Bv r (Ab (stM L a 0 (Ad r).1)) (evR L a)=Kb r (Ab (stM L a 0 (Ad r).1)) (evR L a).ball:=by unfold Bv;rw [e];rfl
 rw [hpb] at hp
 have cl:=lM h1 h4 a (by omega)
 have at1:=cl.at' (opn L a - 1) (by omega)
 have kx:sco (FA (stM L a 0 (Ad r).1)).xs (opn L a - 1)=BZ r.balls (Ab (stM L a 0 (Ad r).1)):=by
  unfold FA Ab
  rw [rl,lx]
  exact P6 _ _ (by omega)
 rw [kx] at at1
 have bl:Cg r.balls (Ab (stM L a 0 (Ad r).1)).complete (Ab (stM L a 0 (Ad r).1)).inover=smi L (ae r) (opn L a - 1) a:=congrArg Sco.balls at1
 have be:=(eT ok).1
 have cb:=GG (L:=L) (f:=ae r) (c:=1) (fun e=>by unfold ae;cases (Ak r e).counts<;>simp) (opn L a - 1) a
 have q4:=(EV ok.code).balls
 have io:=ok.io
 have co:=ok.complete
 unfold Bh at co
 have m1:=Int.mul_le_mul_of_nonneg_left q4.1 co.1
 refine ⟨one,lx,by rw [ll,BQ (by omega) (by omega)];omega,ok,rl,(Z9 hp).1,?_⟩
 rw [bl] at be
 omega
def DG (r:Rul) (L:Rows) (k:Nat):Nat→Rows
 | 0=>[]
 | n+1=>cond ((evR L n).kind==4&&Nat.beq (opn L (n+1)) (k+1)) (DG r L k n++[Lm (n:Int) (stM L n 0 (Ad r).1) (stM L (n+1) 0 (Ad r).1) (evR L n).ball]) (DG r L k n)
theorem iK {r:Rul} {L:Rows} (hc:BG r L=0) (k:Nat):∀ n,n≤L.length→fil (k:Int) (To L n 0 (Ad r).1 [])=DG r L k n
 | 0,_=>rfl
 | n+1,hn=>by
  have ih:=iK hc k n (by omega)
  rw [Zo,Nat.zero_add]
  have si:=YF (L:=L) n 0 (Ad r).1
  rw [Nat.zero_add] at si
  show _=cond ((evR L n).kind==4&&Nat.beq (opn L (n+1)) (k+1)) _ (DG r L k n)
  cases hk:(evR L n).kind==4 with
  | false=>exact ih
  | true =>
   have bf:=dM hc (show n<L.length by omega) hk
   have on:opn L (n+1)=opn L n:=dr (by rw [beq_iff_eq.1 hk];rfl)
   rw [cond_true,aO,ih,← si,on,Bool.true_and]
   show DG r L k n++cond (IntKind.i64.wrap (((stM L n 0 (Ad r).1).inns.length:Int) - 1)==(k:Int)) [_] []=_
   rw [bf.inn]
   have one:=bf.one
   by_cases e:opn L n=k+1
   ·rw [e,Nj,show ((k+1 - 1:Nat):Int)=(k:Int) by omega,beq_self_eq_true]
    rfl
   ·rw [QM e,beq_false_of_ne (by omega)]
    exact List.append_nil _
theorem Zp {r:Rul} {L:Rows} (hc:BG r L=0) (k:Nat):fil (k:Int) (EX r L)=DG r L k L.length:=by
 obtain ⟨h1,h2,h3,h4,h5⟩:=Od hc
 have:EX r L=To L L.length 0 (Ad r).1 []:=by
  unfold EX
  rw [h1]
  obtain ⟨j,j1,j2,j3,j4⟩:=YP L L.length 0 (Ad r).1
  show Lw L L.length 0 (Ad r).1 []=_
  rw [j3 []]
  rcases j4 with ⟨j5,_⟩ | ⟨j5,j6,j7⟩
  ·rw [j5]
  ·have hh:=WC L.length 0 _ h4 j j5
   rw [hh] at j6
   cases j6
 rw [this]
 exact iK hc k L.length (Nat.le_refl _)
structure RowF (r:Rul) (x:List PV):Prop where
 over:∃ o:Nat,o≤1000∧pvI (AA x 2)=(o:Int)
 sector:∃ s:Nat,s≤8∧pvI (AA x 19)=(s:Int)
 striker:1≤pvI (AA x 5)∧pvI (AA x 5)≤r.side
 cre:∃ d,pvI (AA x 20)=(AB r d).batter∧pvI (AA x 21)=(AB r d).wides∧pvI (AA x 22)=(AB r d).noballs∧pvI (AA x 23)=(AB r d).byes∧pvI (AA x 24)=(AB r d).legbyes∧pvI (AA x 25)=(AB r d).bowler
theorem qI {r:Rul} {L:Rows} (hc:BG r L=0) {a:Nat} (ha:a<L.length) (hk:((evR L a).kind==4)=true) (t:Mat):RowF r (Lm (a:Int) (stM L a 0 (Ad r).1) t (evR L a).ball):=by
 have bf:=dM hc ha hk
 obtain ⟨q1,q2,q3,q4,q5,q6⟩:=VZ bf.ref
 have ls:=eW q4
 have co:=bf.ok.complete
 unfold Bh at co
 have st:=bf.ok.st
 have over:=bf.over
 have beg:Ct (Ab (stM L a 0 (Ad r).1)).batters=true:=by
  obtain ⟨h1,h2,h3,h4,h5⟩:=Od hc
  have a0:=WC L.length 0 _ h4 a ha
  rw [Nat.zero_add] at a0
  have q:=(Y3 a0).1
  rw [q] at a0
  obtain ⟨g1,g2,g3,g4⟩:=UE a0 hk
  exact YY (Su g3).2.2.2.1 (by rw [beq_iff_eq.1 hk];rfl)
 have z1:=(X6 q1 beg).1
 rw [beq_eq_false_iff_ne] at z1
 refine ⟨⟨(Ab (stM L a 0 (Ad r).1)).complete.toNat,by omega,?_⟩,⟨(evR L a).ball.sector.toNat,by omega,?_⟩,?_,(evR L a).ball,?_⟩
 ·show (Ab (stM L a 0 (Ad r).1)).complete=_
  omega
 ·show (evR L a).ball.sector=_
  omega
 ·show 1≤(Ab (stM L a 0 (Ad r).1)).striker∧(Ab (stM L a 0 (Ad r).1)).striker≤r.side
  omega
 ·have rl:=bf.rules
  show (AB (stM L a 0 (Ad r).1).rules _).batter=_∧(AB (stM L a 0 (Ad r).1).rules _).wides=_∧(AB (stM L a 0 (Ad r).1).rules _).noballs=_∧(AB (stM L a 0 (Ad r).1).rules _).byes=_∧(AB (stM L a 0 (Ad r).1).rules _).legbyes=_∧(AB (stM L a 0 (Ad r).1).rules _).bowler=_
  rw [rl]
  exact ⟨rfl,rfl,rfl,rfl,rfl,rfl⟩
theorem js {r:Rul} {L:Rows} (hc:BG r L=0) (k:Nat):∀ n,n≤L.length→(DG r L k n).length≤n∧∀ x,x∈DG r L k n→RowF r x
 | 0,_=>⟨Nat.le_refl _,fun x hx=>absurd hx (List.not_mem_nil)⟩
 | n+1,hn=>by
  obtain ⟨i1,i2⟩:=js hc k n (by omega)
  show (cond ((evR L n).kind==4&&Nat.beq (opn L (n+1)) (k+1)) _ (DG r L k n)).length≤n+1∧∀ x,x∈cond ((evR L n).kind==4&&Nat.beq (opn L (n+1)) (k+1)) _ (DG r L k n)→RowF r x
  cases hk:(evR L n).kind==4 with
  | false=>exact ⟨Nat.le_succ_of_le i1,i2⟩
  | true =>
   cases Nat.beq (opn L (n+1)) (k+1) with
   | false=>exact ⟨Nat.le_succ_of_le i1,i2⟩
   | true =>
    refine ⟨?_,fun x hx=>?_⟩
    ·show (DG r L k n++[_]).length≤n+1
     rw [List.length_append]
     exact Nat.succ_le_succ i1
    ·rcases List.mem_append.1 hx with hx | hx
     ·exact i2 x hx
     ·rw [List.mem_singleton.1 hx]
      exact qI hc (by omega) hk _
end Go.Px
end
section
namespace Go.Px
set_option maxRecDepth 100000
def Bk (r:Rul) (L:Rows) (k:Int):Rows×Int:=cond (!(BG r L==0)) ([],BG r L) (cond (iLt k 0||iLe (opn L L.length:Int) k) ([],2) (fil k (EX r L),0))
theorem X3 {r:Rul} {L:Rows} {k:Int} (h:((Bk r L k).2==0)=true):BG r L=0∧0≤k∧k<(opn L L.length:Int)∧(Bk r L k).1=DG r L k.toNat L.length∧(Bk r L k).2=0∧(Bk r L k).1.length≤4000∧∀ i,i<(Bk r L k).1.length→RowF r (AM (Bk r L k).1 i):=by
 unfold Bk at h ⊢
 cases hc:BG r L==0 with
 | false=>rw [hc] at h;exact absurd (show (BG r L==0)=true from h) (by rw [hc];decide)
 | true =>
  have c0:=beq_iff_eq.1 hc
  cases hb:iLt k 0||iLe (opn L L.length:Int) k with
  | true=>rw [hc,hb] at h;cases h
  | false =>
   simp only [Bool.or_eq_false_iff,iLt,iLe,decide_eq_false_iff_not] at hb
   obtain ⟨K,rfl⟩:∃ K:Nat,k=(K:Int):=⟨k.toNat,by omega⟩
   have e:=Zp c0 K
   obtain ⟨b1,b2⟩:=js c0 K L.length (Nat.le_refl _)
   have l4:=(Od c0).2.2.1
   refine ⟨c0,by omega,by omega,?_,rfl,?_,fun i hi=>?_⟩
   ·exact e
   ·show (fil (K:Int) (EX r L)).length≤4000
    rw [e]
    omega
   ·change i<(fil (K:Int) (EX r L)).length at hi
    show RowF r (AM (fil (K:Int) (EX r L)) i)
    rw [e] at hi ⊢
    refine b2 _ ?_
    unfold AM
    rw [List.getD_eq_getElem?_getD,List.getElem?_eq_getElem hi]
    exact List.getElem_mem hi
set_option maxHeartbeats 4000000 in
theorem Uj {N:Nat} {r1 r2 r3 r4 r5 r6 r7 r9 r10 r11 r12:Int} {r8:Bool} {r0:ByteArray} {r13:Rows} {L:Rows} {k:Int} (hN:2097152<N) (hs:r0.size≤1048576) (h13:r13.length≤1048576) (hL:L.length≤1000000):Cl N [.str r0,.int r1,.int r2,.int r3,.int r4,.int r5,.int r6,.int r7,.bool r8,.int r9,.int r10,.int r11,.int r12,.rows r13,.rows L,.int k]=some [.rows (Bk (⟨r0,r1,r2,r3,r4,r5,r6,r7,r8,r9,r10,r11,r12,r13⟩:Rul) L k).1,.int (Bk (⟨r0,r1,r2,r3,r4,r5,r6,r7,r8,r9,r10,r11,r12,r13⟩:Rul) L k).2]:=by
 show HZ (std (CW N) N) (xOf _)=_
 generalize hres:(some [.rows (Bk (⟨r0,r1,r2,r3,r4,r5,r6,r7,r8,r9,r10,r11,r12,r13⟩:Rul) L k).1,.int (Bk (⟨r0,r1,r2,r3,r4,r5,r6,r7,r8,r9,r10,r11,r12,r13⟩:Rul) L k).2]:Option (List PV))=RR
 have hl:L.length≤1048576:=by omega
 simp only [HZ,Q9,O7,ST,std,xOf,PXb,SA hN hs h13 hl,JK hN hl,Zm hN hs h13 hl,em,PXc]
 subst hres;simp only [Bk]
 cases hc:BG (⟨r0,r1,r2,r3,r4,r5,r6,r7,r8,r9,r10,r11,r12,r13⟩:Rul) L==0 with
 | false=>rfl
 | true =>
  have pl:=iu (⟨r0,r1,r2,r3,r4,r5,r6,r7,r8,r9,r10,r11,r12,r13⟩:Rul) L
  cases h0:iLt k 0 with
  | true=>rfl
  | false =>
   simp only [PXb,Bool.not_true,Bool.not_false,PXp,LR]
   cases h1:iLe (opn L L.length:Int) k with
   | true=>rfl
   | false =>
    simp only [PXb]
    generalize EX (⟨r0,r1,r2,r3,r4,r5,r6,r7,r8,r9,r10,r11,r12,r13⟩:Rul) L=D at *
    refine AO (lr hN (show D.length≤1000000 by omega) ?_ ?_) rfl
    ·intro self
     simp only [PXb,PXc,PXn,AG,BB]
    ·intro i self out hi ho
     have sm:iSm ((out.length+1:Nat):Int) 216=true:=Fr (by omega) (by omega)
     simp only [PXb,PXc,PXn,AG,DB (show i≤1099511627776 by omega),A4 hi,AS hi,Nat.reduceAdd,List.length_append,List.length_cons,List.length_nil,sm]
     cases pvI (AE D i 1)==k<;>rfl
def whX (x:List PV) (p:Int) (xs:List Int):List Int:=cond (p==0||pvI (AA x 5)==p) (xs.set (pvI (AA x 19)).toNat (IntKind.i64.wrap (xs.getD (pvI (AA x 19)).toNat 0+pvI (AA x 20)))) xs
def whN (X:Rows) (p:Int):Nat→List Int
 | 0=>List.replicate 9 0
 | i+1=>whX (AM X i) p (whN X p i)
theorem JN (X:Rows) (p:Int):∀ i,(whN X p i).length=9
 | 0=>List.length_replicate
 | i+1=>by
  show (cond _ _ (whN X p i)).length=9
  cases (p==0||pvI (AA (AM X i) 5)==p)
  ·exact JN X p i
  ·exact List.length_set.trans (JN X p i)
def I0 (r:Rul) (L:Rows) (k p:Int):List Int×Int:=cond (!((Bk r L k).2==0)) ([],(Bk r L k).2) (cond (iLt p 0||iLt r.side p) ([],2) (whN (Bk r L k).1 p (Bk r L k).1.length,0))
theorem nz {N : Nat} {r : Rul} {X : Rows} {p : Int} (hN : 2097152 < N) (hX : X.length ≤ 4000) (rf : ∀ i, i < X.length → RowF r (AM X i)) {F : (List AQ → Option (List PV)) → List PV → Option (List PV)}
    (h0:∀ xs self,F self [.rows (AU xs),.int (X.length:Int)]=some [.rows (AU xs)])
    (h1:∀ (i s:Nat) self (xs:List Int),i<X.length→s≤8→xs.length=9→pvI (AE X i 19)=(s:Int)→F self [.rows (AU xs),.int (i:Int)]=self [.rows (AU (cond (p==0||pvI (AE X i 5)==p) (xs.set s (IntKind.i64.wrap (xs.getD s 0+pvI (AE X i 20)))) xs)),.int ((i+1:Nat):Int)]):CS F N [.rows (AU (List.replicate 9 0)),.int 0]=some [.rows (AU (whN X p X.length))]:=by
  have:=Bc (F:=F) (len:=X.length) (fun i=>[.rows (AU (whN X p i)),.int (i:Int)]) [.rows (AU (whN X p X.length))] (fun self=>h0 _ self) (fun i self hi=>by
    obtain ⟨s,s1,s2⟩:=(rf i hi).sector
    have:=h1 i s self (whN X p i) hi s1 (JN X p i) s2
    have e:whN X p (i+1)=cond (p==0||pvI (AE X i 5)==p) ((whN X p i).set s (IntKind.i64.wrap ((whN X p i).getD s 0+pvI (AE X i 20)))) (whN X p i):=by
      show whX (AM X i) p (whN X p i)=_
      unfold whX
      rw [s2]
      rfl
    rw [← e] at this
    exact this) N (by omega)
  exact this
set_option maxHeartbeats 4000000 in
theorem Ub {N:Nat} {r1 r2 r3 r4 r5 r6 r7 r9 r10 r11 r12:Int} {r8:Bool} {r0:ByteArray} {r13:Rows} {L:Rows} {k:Int} {p:Int} (hN:2097152<N) (hs:r0.size≤1048576) (h13:r13.length≤1048576) (hL:L.length≤1000000):C6 N [.str r0,.int r1,.int r2,.int r3,.int r4,.int r5,.int r6,.int r7,.bool r8,.int r9,.int r10,.int r11,.int r12,.rows r13,.rows L,.int k,.int p]=some [.rows (AU (I0 (⟨r0,r1,r2,r3,r4,r5,r6,r7,r8,r9,r10,r11,r12,r13⟩:Rul) L k p).1),.int (I0 (⟨r0,r1,r2,r3,r4,r5,r6,r7,r8,r9,r10,r11,r12,r13⟩:Rul) L k p).2]:=by
 show Km (std (L3 N) N) (xOf _)=_
 generalize hres:(some [.rows (AU (I0 (⟨r0,r1,r2,r3,r4,r5,r6,r7,r8,r9,r10,r11,r12,r13⟩:Rul) L k p).1),.int (I0 (⟨r0,r1,r2,r3,r4,r5,r6,r7,r8,r9,r10,r11,r12,r13⟩:Rul) L k p).2]:Option (List PV))=RR
 simp only [Km,Pn,std,xOf,PXb,Uj hN hs h13 hL]
 subst hres;simp only [I0]
 cases hb:(Bk (⟨r0,r1,r2,r3,r4,r5,r6,r7,r8,r9,r10,r11,r12,r13⟩:Rul) L k).2==0 with
 | false=>rfl
 | true =>
  obtain ⟨b1,b2,b3,b4,b5,b6,b7⟩:=X3 hb
  generalize (Bk (⟨r0,r1,r2,r3,r4,r5,r6,r7,r8,r9,r10,r11,r12,r13⟩:Rul) L k).1=X at *
  have s9:iSm 9 8=true:=by decide
  simp only [PXb,Bool.not_true]
  cases iLt p 0||iLt r1 p with
  | true=>rfl
  | false =>
   have rz:List.replicate (Int.toNat 9) [PV.int 0]=AU (List.replicate 9 0):=rfl
   simp only [PXb,s9,rz]
   refine AO (nz hN b6 b7 ?_ ?_) rfl
   ·intro xs self
    simp only [PXb,PXc,PXn,AG,BB]
   ·intro i s self xs hi h8 hx he
    have i9:iIn (s:Int) (xs.length:Int)=true:=AS (by omega)
    simp only [PXb,PXc,PXn,AG,DB (show i≤1099511627776 by omega),A4 hi,AS hi,he,Bu,i9,Int.toNat_natCast,BI,Vk,Wj]
    cases (p==0||atI X i 5==p)<;>rfl
def Lx (xs:List Int) (n:Nat):List Int:=xs++List.replicate (n - xs.length) 0
def T1 (x:List PV):Cre:=⟨pvI (AA x 20),pvI (AA x 21),pvI (AA x 22),pvI (AA x 23),pvI (AA x 24),pvI (AA x 25),pvB (AA x 26),pvB (AA x 27),pvB (AA x 28),pvB (AA x 29)⟩
def ovX (x:List PV) (xs:List Int):List Int:=(Lx xs ((pvI (AA x 2)).toNat+1)).set (pvI (AA x 2)).toNat (IntKind.i64.wrap ((Lx xs ((pvI (AA x 2)).toNat+1)).getD (pvI (AA x 2)).toNat 0+BU (T1 x)))
def ovN (X:Rows):Nat→List Int
 | 0=>[]
 | i+1=>ovX (AM X i) (ovN X i)
theorem aj (xs:List Int) (n:Nat):(Lx xs n).length=max xs.length n:=by
 unfold Lx
 rw [List.length_append,List.length_replicate]
 omega
theorem aH {r:Rul} {X:Rows} (rf:∀ i,i<X.length→RowF r (AM X i)):∀ i,i≤X.length→(ovN X i).length≤1001
 | 0,_=>Nat.zero_le _
 | i+1,hi=>by
  have ih:=aH rf i (by omega)
  obtain ⟨o,o1,o2⟩:=(rf i (by omega)).over
  show (ovX (AM X i) (ovN X i)).length≤1001
  unfold ovX
  rw [List.length_set,aj,o2]
  omega
theorem mp {N : Nat} {xs : List Int} {o : Nat} (hN : 2097152 < N) (ho : o ≤ 1000) (hx : xs.length ≤ 1001) {F : (List AQ → Option (List PV)) → List PV → Option (List PV)}
    (h:∀ (ys:List Int) self,ys.length≤1001→F self [.rows (AU ys)]=cond (iLe (ys.length:Int) (o:Int)) (self [.rows (AU (ys++[0]))]) (some [.rows (AU ys)])):CS F N [.rows (AU xs)]=some [.rows (AU (Lx xs (o+1)))]:=by
  have:=Bc (F:=F) (len:=o+1 - xs.length) (fun j=>[.rows (AU (xs++List.replicate j 0))]) [.rows (AU (Lx xs (o+1)))] (fun self=>by
    have:=h (xs++List.replicate (o+1 - xs.length) 0) self (by rw [List.length_append,List.length_replicate];omega)
    rw [List.length_append,List.length_replicate,show iLe ((xs.length+(o+1 - xs.length):Nat):Int) (o:Int)=false by simp only [iLe,decide_eq_false_iff_not];omega] at this
    exact this) (fun j self hj=>by
    have:=h (xs++List.replicate j 0) self (by rw [List.length_append,List.length_replicate];omega)
    rw [List.length_append,List.length_replicate,show iLe ((xs.length+j:Nat):Int) (o:Int)=true by simp only [iLe,decide_eq_true_eq];omega,List.append_assoc,← List.replicate_succ'] at this
    exact this) N (by omega)
  have e:xs++List.replicate 0 (0:Int)=xs:=List.append_nil _
  rw [e] at this
  exact this
def Dh (r:Rul) (L:Rows) (k:Int):List Int×Int:=cond (!((Bk r L k).2==0)) ([],(Bk r L k).2) (ovN (Bk r L k).1 (Bk r L k).1.length,0)
theorem nX {N : Nat} {r : Rul} {X : Rows} (hN : 2097152 < N) (hX : X.length ≤ 4000) (rf : ∀ i, i < X.length → RowF r (AM X i)) {F : (List AQ → Option (List PV)) → List PV → Option (List PV)}
    (h0:∀ xs self,F self [.rows (AU xs),.int (X.length:Int)]=some [.rows (AU xs)])
    (h1:∀ (i o:Nat) self (xs:List Int),i<X.length→o≤1000→xs.length≤1001→pvI (AE X i 2)=(o:Int)→F self [.rows (AU xs),.int (i:Int)]=self [.rows (AU ((Lx xs (o+1)).set o (IntKind.i64.wrap ((Lx xs (o+1)).getD o 0+BU (T1 (AM X i)))))),.int ((i+1:Nat):Int)]):CS F N [.rows [],.int 0]=some [.rows (AU (ovN X X.length))]:=by
  have:=Bc (F:=F) (len:=X.length) (fun i=>[.rows (AU (ovN X i)),.int (i:Int)]) [.rows (AU (ovN X X.length))] (fun self=>h0 _ self) (fun i self hi=>by
    obtain ⟨o,o1,o2⟩:=(rf i hi).over
    have:=h1 i o self (ovN X i) hi o1 (aH rf i (by omega)) o2
    have e:ovN X (i+1)=(Lx (ovN X i) (o+1)).set o (IntKind.i64.wrap ((Lx (ovN X i) (o+1)).getD o 0+BU (T1 (AM X i)))):=by
      show ovX (AM X i) (ovN X i)=_
      unfold ovX
      rw [o2]
      rfl
    rw [← e] at this
    exact this) N (by omega)
  exact this
theorem qM (ys:List Int) (v:Int):AU ys++[[.int v]]=AU (ys++[v]):=(List.map_append (f:=fun x:Int=>[PV.int x]) (l₁:=ys) (l₂:=[v])).symm
set_option maxHeartbeats 4000000 in
theorem TQ {N:Nat} {r1 r2 r3 r4 r5 r6 r7 r9 r10 r11 r12:Int} {r8:Bool} {r0:ByteArray} {r13:Rows} {L:Rows} {k:Int} (hN:2097152<N) (hs:r0.size≤1048576) (h13:r13.length≤1048576) (hL:L.length≤1000000):CO N [.str r0,.int r1,.int r2,.int r3,.int r4,.int r5,.int r6,.int r7,.bool r8,.int r9,.int r10,.int r11,.int r12,.rows r13,.rows L,.int k]=some [.rows (AU (Dh (⟨r0,r1,r2,r3,r4,r5,r6,r7,r8,r9,r10,r11,r12,r13⟩:Rul) L k).1),.int (Dh (⟨r0,r1,r2,r3,r4,r5,r6,r7,r8,r9,r10,r11,r12,r13⟩:Rul) L k).2]:=by
 show Ji (std (HC N) N) (xOf _)=_
 generalize hres:(some [.rows (AU (Dh (⟨r0,r1,r2,r3,r4,r5,r6,r7,r8,r9,r10,r11,r12,r13⟩:Rul) L k).1),.int (Dh (⟨r0,r1,r2,r3,r4,r5,r6,r7,r8,r9,r10,r11,r12,r13⟩:Rul) L k).2]:Option (List PV))=RR
 simp only [Ji,Ou,F4,std,xOf,PXb,Uj hN hs h13 hL]
 subst hres;simp only [Dh]
 cases hb:(Bk (⟨r0,r1,r2,r3,r4,r5,r6,r7,r8,r9,r10,r11,r12,r13⟩:Rul) L k).2==0 with
 | false=>rfl
 | true =>
  obtain ⟨b1,b2,b3,b4,b5,b6,b7⟩:=X3 hb
  generalize (Bk (⟨r0,r1,r2,r3,r4,r5,r6,r7,r8,r9,r10,r11,r12,r13⟩:Rul) L k).1=X at *
  simp only [PXb,Bool.not_true]
  refine AO (nX hN b6 b7 ?_ ?_) rfl
  ·intro xs self
   simp only [PXb,PXc,PXn,AG,BB]
  ·intro i o self xs hi h8 hx he
   simp only [PXb,PXc,PXn,AG,A4 hi,AS hi,he]
   refine AO (mp hN h8 hx ?_) ?_
   ·intro ys self hy
    have sm:iSm ((ys.length+1:Nat):Int) 8=true:=Fr (by omega) (by omega)
    simp only [PXb,PXc,PXn,AG,Bu,qM,List.length_append,List.length_cons,List.length_nil,sm,Nat.reduceAdd]
   ·have io:iIn (o:Int) ((Lx xs (o+1)).length:Int)=true:=AS (by rw [aj];omega)
    simp only [PXb,PXc,PXn,AG,PXc,DB (show i≤1099511627776 by omega),Bu,io,F4,K1,Nat.reduceAdd,Int.toNat_natCast,BI,Vk,Wj]
    rfl
def woN (xs:List Int):Nat→List Int
 | 0=>xs
 | j+1=>(woN xs j).set (j+1) (IntKind.i64.wrap ((woN xs j).getD (j+1) 0+(woN xs j).getD j 0))
theorem TJ (xs:List Int):∀ j,(woN xs j).length=xs.length
 | 0=>rfl
 | j+1=>by
  show ((woN xs j).set _ _).length=_
  rw [List.length_set,TJ xs j]
def JH (xs:List Int):List Int:=woN xs (xs.length - 1)
theorem nr {N : Nat} {xs : List Int} (hN : 2097152 < N) (hx : xs.length ≤ 1001) {F : (List AQ → Option (List PV)) → List PV → Option (List PV)}
    (h:∀ (ys:List Int) (j:Nat) self,ys.length=xs.length→j≤1001→F self [.rows (AU ys),.int ((j:Int)+1)]=cond (iLt ((j:Int)+1) (xs.length:Int)) (self [.rows (AU (ys.set (j+1) (IntKind.i64.wrap (ys.getD (j+1) 0+ys.getD j 0)))),.int (((j+1:Nat):Int)+1)]) (some [.rows (AU ys)])):CS F N [.rows (AU xs),.int 1]=some [.rows (AU (JH xs))]:=by
  have:=Bc (F:=F) (len:=xs.length - 1) (fun j=>[.rows (AU (woN xs j)),.int ((j:Int)+1)]) [.rows (AU (JH xs))] (fun self=>by
    have:=h (woN xs (xs.length - 1)) (xs.length - 1) self (TJ xs _) (by omega)
    rw [show iLt (((xs.length - 1:Nat):Int)+1) (xs.length:Int)=false by simp only [iLt,decide_eq_false_iff_not];omega] at this
    exact this) (fun j self hj=>by
    have:=h (woN xs j) j self (TJ xs _) (by omega)
    rw [show iLt ((j:Int)+1) (xs.length:Int)=true by simp only [iLt,decide_eq_true_eq];omega] at this
    exact this) N (by omega)
  exact this
theorem gF (r:Rul) (L:Rows) (k:Int):(Dh r L k).1.length≤1001:=by
 unfold Dh
 cases hb:(Bk r L k).2==0 with
 | false=>exact Nat.zero_le _
 | true =>
  obtain ⟨b1,b2,b3,b4,b5,b6,b7⟩:=X3 hb
  exact aH b7 _ (Nat.le_refl _)
set_option maxHeartbeats 4000000 in
theorem fN {N:Nat} {r1 r2 r3 r4 r5 r6 r7 r9 r10 r11 r12:Int} {r8:Bool} {r0:ByteArray} {r13:Rows} {L:Rows} {k:Int} (hN:2097152<N) (hs:r0.size≤1048576) (h13:r13.length≤1048576) (hL:L.length≤1000000):Lq N [.str r0,.int r1,.int r2,.int r3,.int r4,.int r5,.int r6,.int r7,.bool r8,.int r9,.int r10,.int r11,.int r12,.rows r13,.rows L,.int k]=some [.rows (AU (JH (Dh (⟨r0,r1,r2,r3,r4,r5,r6,r7,r8,r9,r10,r11,r12,r13⟩:Rul) L k).1)),.int (Dh (⟨r0,r1,r2,r3,r4,r5,r6,r7,r8,r9,r10,r11,r12,r13⟩:Rul) L k).2]:=by
 show MG (std (M5 N) N) (xOf _)=_
 generalize hres:(some [.rows (AU (JH (Dh (⟨r0,r1,r2,r3,r4,r5,r6,r7,r8,r9,r10,r11,r12,r13⟩:Rul) L k).1)),.int (Dh (⟨r0,r1,r2,r3,r4,r5,r6,r7,r8,r9,r10,r11,r12,r13⟩:Rul) L k).2]:Option (List PV))=RR
 simp only [MG,Ph,std,xOf,PXb,TQ hN hs h13 hL]
 subst hres
 have ol:=gF (⟨r0,r1,r2,r3,r4,r5,r6,r7,r8,r9,r10,r11,r12,r13⟩:Rul) L k
 generalize Dh (⟨r0,r1,r2,r3,r4,r5,r6,r7,r8,r9,r10,r11,r12,r13⟩:Rul) L k=o at *
 obtain ⟨xs,e⟩:=o
 refine AO (nr hN ol ?_) rfl
 intro ys j self hy hj
 have w1:IntKind.i64.wrap ((j:Int)+1 - 1)=(j:Int):=by rw [BQ (by omega) (by omega)];omega
 have w2:IntKind.i64.wrap ((j:Int)+1+1)=((j+1:Nat):Int)+1:=by rw [BQ (by omega) (by omega)];omega
 have t1:((j:Int)+1).toNat=j+1:=by omega
 simp only [PXb,PXc,PXn,AG,Bu,hy,w1,w2,t1,Int.toNat_natCast,BI,Vk,Wj]
 cases hl:iLt ((j:Int)+1) (xs.length:Int) with
 | false=>rfl
 | true =>
  simp only [iLt,decide_eq_true_eq] at hl
  have i1:iIn ((j:Int)+1) (xs.length:Int)=true:=by simp only [iIn,decide_eq_true_eq];omega
  have i2:iIn (j:Int) (xs.length:Int)=true:=by simp only [iIn,decide_eq_true_eq];omega
  simp only [PXb,i1,i2]
end Go.Px
end
section
namespace Go.Px
set_option maxRecDepth 100000
def mB (L:Rows):Rows×Int:=cond (!((L.length:Int)==9)) ([],1) (AU [atI L 0 0,atI L 8 0,atI L 7 0,atI L 6 0,atI L 5 0,atI L 4 0,atI L 3 0,atI L 2 0,atI L 1 0],0)
def miN (X:Rows):Nat→List Int
 | 0=>[atI X 0 0,0,0,0,0,0,0,0,0]
 | j+1=>(miN X j).set (8 - j) (atI X (j+1) 0)
theorem bB (X:Rows):∀ j,(miN X j).length=9
 | 0=>rfl
 | j+1=>by
  show ((miN X j).set _ _).length=_
  rw [List.length_set,bB X j]
set_option maxHeartbeats 4000000 in
theorem aR {N:Nat} {L:Rows} (hN:2097152<N):Gc N [.rows L]=some [.rows (mB L).1,.int (mB L).2]:=by
 show JM (std (QZ N) N) (xOf _)=_
 simp only [JM,std,xOf,PXb]
 unfold mB
 cases h9:(L.length:Int)==9 with
 | false=>rfl
 | true =>
  have e9:(L.length:Int)=9:=beq_iff_eq.1 h9
  have s9:iSm 9 8=true:=by decide
  have i0:iIn 0 9=true:=by decide
  have n9:L.length=9:=by omega
  have c9:((9:Nat):Int)=9:=rfl
  have z0:(0:Int).toNat=0:=rfl
  have st:(List.replicate 9 (0:Int)).set 0 (pvI (AE L 0 0))=miN L 0:=rfl
  simp only [PXb,n9,c9,s9,i0,qO,z0,Wj,st,Bu,bB,List.length_replicate,Bool.not_true,beq_self_eq_true]
  refine AO (Bc (len:=8) (fun j=>[.rows (AU (miN L j)),.int ((j+1:Nat):Int)]) [.rows (AU (miN L 8))] ?_ ?_ N (by omega)) rfl
  ·intro self
   rfl
  ·intro j self hj
   have w1:IntKind.i64.wrap (((j+1:Nat):Int)+1)=((j+1+1:Nat):Int):=DB (by omega)
   have w2:IntKind.i64.wrap (9 - ((j+1:Nat):Int))=((8 - j:Nat):Int):=by rw [BQ (by omega) (by omega)];omega
   have l1:iLe ((j+1:Nat):Int) 8=true:=by simp only [iLe,decide_eq_true_eq];omega
   have i1:iIn ((j+1:Nat):Int) 9=true:=by simp only [iIn,decide_eq_true_eq];omega
   have i2:iIn ((8 - j:Nat):Int) ((AU (miN L j)).length:Int)=true:=by rw [Bu,bB];simp only [iIn,decide_eq_true_eq];omega
   simp only [PXb,PXc,PXn,AG,w1,w2,l1,i1,i2,Int.toNat_natCast,Wj,miN,BI]
theorem pf:Dh Nx N0 1=([5],0):=by kernel_rfl
theorem np:I0 Nx N0 1 2=([4,0,0,0,0,0,0,0,0],0):=by kernel_rfl
set_option maxHeartbeats 2000000 in
theorem gM:KK 4194304 []=some [.bool true]:=by
 have hs:Nx.name.size≤1048576:=by decide
 have hl:N0.length≤1000000:=by decide
 have hN:2097152<4194304:=by omega
 have k1:CO 4194304 (Nx.ls++[.rows N0,.int 1])=some [.rows (AU (Dh Nx N0 1).1),.int (Dh Nx N0 1).2]:=TQ hN hs (Nat.zero_le _) hl
 have k2:C6 4194304 (Nx.ls++[.rows N0,.int 1,.int 2])=some [.rows (AU (I0 Nx N0 1 2).1),.int (I0 Nx N0 1 2).2]:=Ub hN hs (Nat.zero_le _) hl
 have k3:=aR (L:=[[.int 9],[.int 1],[.int 2],[.int 3],[.int 4],[.int 5],[.int 6],[.int 7],[.int 8]]) hN
 rw [pf] at k1
 rw [np] at k2
 show Ny (std (C5 4194304) 4194304) (xOf [])=_
 simp only [Ny,Q7,NI,Q2,Q4,Sn,VA,std,xOf,PXb,py,nv]
 refine P8 k1 ?_
 refine P8 k2 ?_
 refine P8 k3 ?_
 refine P8 (FZ (L:=AU [5]) (M:=[[.int 5]]) hN (by decide)) ?_
 refine P8 (FZ (L:=AU [4,0,0,0,0,0,0,0,0]) (M:=[[.int 4],[.int 0],[.int 0],[.int 0],[.int 0],[.int 0],[.int 0],[.int 0],[.int 0]]) hN (by decide)) ?_
 refine P8 (FZ (L:=AU [9,8,7,6,5,4,3,2,1]) (M:=[[.int 9],[.int 8],[.int 7],[.int 6],[.int 5],[.int 4],[.int 3],[.int 2],[.int 1]]) hN (by decide)) ?_
 rfl
end Go.Px
end
section
namespace Go.Px
set_option maxRecDepth 100000
def Bo (f:List PV→Int):Rows→Int
 | []=>0
 | x::D=>f x+Bo f D
theorem YT (f:List PV→Int):∀ A B,Bo f (A++B)=Bo f A+Bo f B
 | [],B=>by rw [List.nil_append];show _=0+Bo f B;omega
 | x::A,B=>by
  have:=YT f A B
  show f x+Bo f (A++B)=f x+Bo f A+Bo f B
  omega
theorem bN (f:List PV→Int) {D:Rows} {i:Nat} (h:i<D.length):Bo f (D.take (i+1))=Bo f (D.take i)+f (AM D i):=by
 rw [Xv h,YT]
 show _+(f (AM D i)+0)=_
 omega
theorem Of {f:List PV→Int} {c:Int}:∀ (D:Rows),(∀ x,x∈D→0≤f x∧f x≤c)→0≤Bo f D∧Bo f D≤c * (D.length:Int)
 | [],_=>by
  show (0:Int)≤0∧(0:Int)≤c * ((0:Nat):Int)
  omega
 | x::D,h=>by
  have ih:=Of D (fun y hy=>h y (List.mem_cons_of_mem _ hy))
  have h1:=h x List.mem_cons_self
  have e:c * (((x::D).length:Nat):Int)=c * (D.length:Int)+c:=by rw [List.length_cons,show ((D.length+1:Nat):Int)=(D.length:Int)+1 by omega,Int.mul_add,Int.mul_one]
  rw [e]
  show 0≤f x+Bo f D∧f x+Bo f D≤_
  omega
theorem Ty {f g h:List PV→Int}:∀ (D:Rows),(∀ x,x∈D→f x+g x=h x)→Bo f D+Bo g D=Bo h D
 | [],_=>rfl
 | x::D,e=>by
  have ih:=Ty D (fun y hy=>e y (List.mem_cons_of_mem _ hy))
  have h1:=e x List.mem_cons_self
  show f x+Bo f D+(g x+Bo g D)=h x+Bo h D
  omega
theorem Fo {f g:List PV→Int}:∀ (D:Rows),(∀ x,x∈D→f x=g x)→Bo f D=Bo g D
 | [],_=>rfl
 | x::D,e=>by
  have ih:=Fo D (fun y hy=>e y (List.mem_cons_of_mem _ hy))
  have h1:=e x List.mem_cons_self
  show f x+Bo f D=g x+Bo g D
  omega
theorem RG:∀ (D:Rows),Bo (fun _=>0) D=0
 | []=>rfl
 | x::D=>by
  have:=RG D
  show (0:Int)+Bo (fun _=>0) D=0
  omega
theorem iW {D:Rows} {i:Nat} (h:i<D.length):AM D i∈D:=by
 unfold AM
 rw [List.getD_eq_getElem?_getD,List.getElem?_eq_getElem h]
 exact List.getElem_mem h
structure RowG (n:Int) (x:List PV):Prop where
 over:∃ o:Nat,o≤1000∧pvI (AA x 2)=(o:Int)
 sector:∃ s:Nat,s≤8∧pvI (AA x 19)=(s:Int)
 striker:1≤pvI (AA x 5)∧pvI (AA x 5)≤n
 bat:0≤pvI (AA x 20)∧pvI (AA x 20)≤62
 tot:0≤BU (T1 x)∧BU (T1 x)≤62
theorem qJ {r:Rul} (rk:RulOk r) {x:List PV} (h:RowF r x):RowG r.side x:=by
 obtain ⟨d,e0,e1,e2,e3,e4,e5⟩:=h.cre
 have c:=gC rk d
 have t:BU (T1 x)=BU (AB r d):=by
  unfold BU T1
  simp only [e0,e1,e2,e3,e4]
 have h0:=c.ba
 have h1:=c.wi
 have h2:=c.no
 have h3:=c.bb
 have h4:=c.lb
 have h5:=c.tot
 exact ⟨h.over,h.sector,h.striker,by omega,by omega⟩
theorem We (xs:List Int) (i s:Nat) (v:Int) (h:i<xs.length):(xs.set i v).getD s 0=if i=s then v else xs.getD s 0:=by
 rw [List.getD_eq_getElem?_getD,List.getD_eq_getElem?_getD,List.getElem?_set]
 by_cases e:i=s
 ·rw [if_pos e,if_pos e,if_pos h]
  rfl
 ·rw [if_neg e,if_neg e]
def pre (xs:List Int):Nat→Int
 | 0=>0
 | j+1=>pre xs j+xs.getD j 0
theorem bK {xs:List Int} {D:Rows} (q:List PV→Bool) (g:List PV→Int) (b:List PV→Int):∀ j,(∀ s,s<j→xs.getD s 0=Bo (fun x=>cond (q x&&g x==(s:Int)) (b x) 0) D)→(∀ x,x∈D→0≤g x)→pre xs j=Bo (fun x=>cond (q x&&decide (g x<(j:Int))) (b x) 0) D
 | 0,_,hg=>by
  show (0:Int)=_
  refine (RG D).symm.trans (Fo D fun x hx=>?_)
  have:=hg x hx
  rw [decide_eq_false (show ¬ g x<((0:Nat):Int) by omega),Bool.and_false]
  rfl
 | j+1,h,hg=>by
  have ih:=bK q g b j (fun s hs=>h s (by omega)) hg
  show pre xs j+xs.getD j 0=_
  rw [ih,h j (by omega)]
  refine Ty D fun x hx=>?_
  cases q x with
  | false=>rfl
  | true =>
   simp only [Bool.true_and]
   by_cases e:g x=(j:Int)
   ·rw [e,decide_eq_false (show ¬ ((j:Nat):Int)<(j:Int) by omega),decide_eq_true (show (j:Int)<((j+1:Nat):Int) by omega),beq_self_eq_true]
    simp only [cond_true,cond_false]
    omega
   ·rw [beq_false_of_ne e]
    by_cases l:g x<(j:Int)
    ·rw [decide_eq_true l,decide_eq_true (show g x<((j+1:Nat):Int) by omega)]
     simp only [cond_true,cond_false]
     omega
    ·rw [decide_eq_false l,decide_eq_false (show ¬ g x<((j+1:Nat):Int) by omega)]
     rfl
def Qe (p:Int) (x:List PV):Bool:=p==0||pvI (AA x 5)==p
def NS (x:List PV):Int:=pvI (AA x 20)
def aA (x:List PV):Int:=pvI (AA x 19)
def QI (q:List PV→Bool) (s:Nat) (x:List PV):Int:=cond (q x&&aA x==(s:Int)) (NS x) 0
theorem Yp {n:Int} {x:List PV} (h:RowG n x) (q:List PV→Bool) (s:Nat):0≤QI q s x∧QI q s x≤62:=by
 unfold QI
 have:=h.bat
 cases q x&&aA x==(s:Int)
 ·show (0:Int)≤0∧(0:Int)≤62
  omega
 ·exact this
theorem pu {n:Int} {x:List PV} (h:RowG n x) (q:Bool):0≤cond q (NS x) 0∧cond q (NS x) 0≤62:=by
 have:=h.bat
 cases q
 ·show (0:Int)≤0∧(0:Int)≤62
  omega
 ·exact this
theorem WG {n:Int} {X:Rows} (hX:X.length≤4000) (rg:∀ x,x∈X→RowG n x) (p:Int) {s:Nat} (hs:s<9):∀ i,i≤X.length→(whN X p i).getD s 0=Bo (QI (Qe p) s) (X.take i)
 | 0,_=>by
  show (List.replicate 9 (0:Int)).getD s 0=0
  rw [List.getD_eq_getElem?_getD,List.getElem?_replicate,if_pos hs]
  rfl
 | i+1,hi=>by
  have ih:=WG hX rg p hs i (by omega)
  have bd:=Of (f:=QI (Qe p) s) (c:=62) (X.take i) (fun x hx=>Yp (rg x (List.mem_of_mem_take hx)) _ _)
  have lt:(X.take i).length=i:=by rw [List.length_take];omega
  rw [lt] at bd
  have g:=rg _ (iW (show i<X.length by omega))
  obtain ⟨o,o1,o2⟩:=g.sector
  have gb:=g.bat
  rw [bN _ (show i<X.length by omega),← ih]
  rw [← ih] at bd
  show (whX (AM X i) p (whN X p i)).getD s 0=(whN X p i).getD s 0+cond (Qe p (AM X i)&&aA (AM X i)==(s:Int)) (NS (AM X i)) 0
  unfold whX aA NS
  have wl:=JN X p i
  generalize whN X p i=xs at *
  rw [o2,Int.toNat_natCast]
  show (cond (Qe p (AM X i)) _ _:List Int).getD s 0=_
  cases Qe p (AM X i) with
  | false =>
   show xs.getD s 0=xs.getD s 0+0
   omega
  | true =>
   show (xs.set o _).getD s 0=_
   rw [We _ _ _ _ (by omega)]
   by_cases e:o=s
   ·rw [if_pos e,e,beq_self_eq_true]
    exact BQ (by omega) (by omega)
   ·rw [if_neg e,beq_false_of_ne (show ¬ (o:Int)=(s:Int) by omega)]
    show xs.getD s 0=xs.getD s 0+0
    omega
def Kg (xs ys:List Int):Nat→List Int
 | 0=>xs
 | j+1=>(Kg xs ys j).set j (IntKind.i64.wrap ((Kg xs ys j).getD j 0+ys.getD j 0))
def RH (a:Int) (ys:List Int):Nat→Int
 | 0=>a
 | j+1=>IntKind.i64.wrap (RH a ys j+ys.getD j 0)
theorem RP (xs ys:List Int):∀ j,(Kg xs ys j).length=xs.length
 | 0=>rfl
 | j+1=>by
  show ((Kg xs ys j).set _ _).length=_
  rw [List.length_set,RP xs ys j]
theorem VW {xs ys:List Int} (s:Nat):∀ j,j≤xs.length→(Kg xs ys j).getD s 0=if s<j then IntKind.i64.wrap (xs.getD s 0+ys.getD s 0) else xs.getD s 0
 | 0,_=>by rw [if_neg (by omega)];rfl
 | j+1,h=>by
  have ih:=VW (xs:=xs) (ys:=ys) s j (by omega)
  have il:=VW (xs:=xs) (ys:=ys) j j (by omega)
  rw [if_neg (by omega)] at il
  show ((Kg xs ys j).set j _).getD s 0=_
  rw [We _ _ _ _ (by rw [RP];omega),il]
  by_cases e:j=s
  ·rw [if_pos e,e,if_pos (by omega)]
  ·rw [if_neg e,ih]
   by_cases l:s<j
   ·rw [if_pos l,if_pos (by omega)]
   ·rw [if_neg l,if_neg (by omega)]
theorem dN {a:Int} {ys:List Int} (ha:0≤a∧a≤100000000):∀ j,j≤9→(∀ s,s<j→0≤ys.getD s 0∧ys.getD s 0≤1000000)→RH a ys j=a+pre ys j∧0≤pre ys j∧pre ys j≤1000000 * (j:Int)
 | 0,_,_=>by
  show a=a+0∧(0:Int)≤0∧(0:Int)≤1000000 * ((0:Nat):Int)
  omega
 | j+1,hj,h=>by
  obtain ⟨i1,i2,i3⟩:=dN ha j (by omega) (fun s hs=>h s (by omega))
  have h1:=h j (by omega)
  show IntKind.i64.wrap (RH a ys j+ys.getD j 0)=a+(pre ys j+ys.getD j 0)∧0≤pre ys j+ys.getD j 0∧pre ys j+ys.getD j 0≤_
  rw [i1,BQ (by omega) (by omega)]
  omega
def Tc (X:Rows):Nat→List Int
 | 0=>List.replicate 9 0
 | P+1=>Kg (Tc X P) (whN X ((P+1:Nat):Int) X.length) 9
def aQ (X:Rows):Nat→Int
 | 0=>0
 | P+1=>RH (aQ X P) (whN X ((P+1:Nat):Int) X.length) 9
theorem NX (X:Rows):∀ P,(Tc X P).length=9
 | 0=>List.length_replicate
 | P+1=>by
  show (Kg (Tc X P) _ 9).length=9
  rw [RP,NX X P]
def upP (P:Nat) (x:List PV):Bool:=decide (1≤pvI (AA x 5)∧pvI (AA x 5)≤(P:Int))
theorem iM (P:Nat) (x:List PV) (b:Int) (c:Bool):cond (upP P x&&c) b 0+cond (Qe ((P+1:Nat):Int) x&&c) b 0=cond (upP (P+1) x&&c) b 0:=by
 unfold upP Qe
 rw [beq_false_of_ne (show ¬ ((P+1:Nat):Int)=0 by omega),Bool.false_or]
 cases c with
 | false=>simp only [Bool.and_false,cond_false];rfl
 | true =>
  simp only [Bool.and_true]
  by_cases e:pvI (AA x 5)=((P+1:Nat):Int)
  ·rw [e,beq_self_eq_true,decide_eq_false (by omega),decide_eq_true (by omega)]
   simp only [cond_true,cond_false]
   omega
  ·rw [beq_false_of_ne e]
   by_cases l:1≤pvI (AA x 5)∧pvI (AA x 5)≤(P:Int)
   ·rw [decide_eq_true l,decide_eq_true (by omega)]
    simp only [cond_true,cond_false]
    omega
   ·rw [decide_eq_false l,decide_eq_false (by omega)]
    rfl
theorem iG {n:Int} {X:Rows} (hX:X.length≤4000) (rg:∀ x,x∈X→RowG n x) {s:Nat} (hs:s<9):∀ P,(Tc X P).getD s 0=Bo (QI (upP P) s) X
 | 0=>by
  show (List.replicate 9 (0:Int)).getD s 0=_
  rw [List.getD_eq_getElem?_getD,List.getElem?_replicate,if_pos hs]
  show (0:Int)=_
  refine (RG X).symm.trans (Fo X fun x hx=>?_)
  unfold QI upP
  rw [decide_eq_false (by omega)]
  rfl
 | P+1=>by
  have ih:=iG hX rg hs P
  have w:=WG hX rg ((P+1:Nat):Int) hs X.length (Nat.le_refl _)
  rw [List.take_length] at w
  have b1:=Of (f:=QI (upP P) s) (c:=62) X (fun x hx=>Yp (rg x hx) _ _)
  have b2:=Of (f:=QI (Qe ((P+1:Nat):Int)) s) (c:=62) X (fun x hx=>Yp (rg x hx) _ _)
  show (Kg (Tc X P) _ 9).getD s 0=_
  rw [VW s 9 (by rw [NX];exact Nat.le_refl _),if_pos hs,ih,w,BQ (by omega) (by omega)]
  exact Ty X fun x hx=>iM P x _ _
theorem pM {n:Int} {X:Rows} (hX:X.length≤4000) (rg:∀ x,x∈X→RowG n x) (p:Int):pre (whN X p X.length) 9=Bo (fun x=>cond (Qe p x) (NS x) 0) X:=by
 rw [bK (Qe p) aA NS (D:=X) 9 (fun s hs=>by
  have:=WG hX rg p hs X.length (Nat.le_refl _)
  rw [List.take_length] at this
  exact this) (fun x hx=>by
  obtain ⟨o,o1,o2⟩:=(rg x hx).sector
  show 0≤pvI (AA x 19)
  omega)]
 refine Fo X fun x hx=>?_
 obtain ⟨o,o1,o2⟩:=(rg x hx).sector
 rw [decide_eq_true (show aA x<((9:Nat):Int) by show pvI (AA x 19)<_;omega),Bool.and_true]
theorem hC {n:Int} {X:Rows} (hX:X.length≤4000) (rg:∀ x,x∈X→RowG n x):∀ P,aQ X P=Bo (fun x=>cond (upP P x) (NS x) 0) X
 | 0=>by
  show (0:Int)=_
  refine (RG X).symm.trans (Fo X fun x hx=>?_)
  unfold upP
  rw [decide_eq_false (by omega)]
  rfl
 | P+1=>by
  have ih:=hC hX rg P
  have b1:=Of (f:=fun x=>cond (upP P x) (NS x) 0) (c:=62) X (fun x hx=>pu (rg x hx) _)
  have wp:=pM hX rg ((P+1:Nat):Int)
  show RH (aQ X P) _ 9=_
  rw [ih]
  rw [(dN (by omega) 9 (Nat.le_refl _) (fun s hs=>by
   have w:=WG hX rg ((P+1:Nat):Int) hs X.length (Nat.le_refl _)
   rw [List.take_length] at w
   rw [w]
   have b2:=Of (f:=QI (Qe ((P+1:Nat):Int)) s) (c:=62) X (fun x hx=>Yp (rg x hx) _ _)
   omega)).1,wp]
  refine Ty X fun x hx=>?_
  have:=iM P x (NS x) true
  simp only [Bool.and_true] at this
  exact this
theorem kD {xs ys:List Int} (h:xs.length=ys.length) (e:∀ s,s<xs.length→xs.getD s 0=ys.getD s 0):xs=ys:=by
 refine List.ext_getElem? fun i=>?_
 by_cases hi:i<xs.length
 ·have:=e i hi
  rw [List.getD_eq_getElem?_getD,List.getD_eq_getElem?_getD,List.getElem?_eq_getElem hi,List.getElem?_eq_getElem (show i<ys.length by omega)] at this
  rw [List.getElem?_eq_getElem hi,List.getElem?_eq_getElem (show i<ys.length by omega)]
  exact congrArg some this
 ·rw [List.getElem?_eq_none (by omega),List.getElem?_eq_none (by omega)]
theorem lJ {n:Nat} {x:List PV} (h:RowG (n:Int) x):upP n x=true:=decide_eq_true h.striker
theorem lC {n:Nat} {X:Rows} (hX:X.length≤4000) (rg:∀ x,x∈X→RowG (n:Int) x):Tc X n=whN X 0 X.length:=by
 refine kD (by rw [NX,JN]) fun s hs=>?_
 rw [NX] at hs
 have w:=WG hX rg 0 hs X.length (Nat.le_refl _)
 rw [List.take_length] at w
 rw [iG hX rg hs n,w]
 refine Fo X fun x hx=>?_
 unfold QI
 rw [lJ (rg x hx)]
 rfl
theorem kZ {n:Nat} {X:Rows} (hX:X.length≤4000) (rg:∀ x,x∈X→RowG (n:Int) x):aQ X n=Bo NS X:=by
 rw [hC hX rg n]
 refine Fo X fun x hx=>?_
 rw [lJ (rg x hx)]
 rfl
end Go.Px
end
section
namespace Go.Px
set_option maxRecDepth 100000
def ik (x:List PV):Int:=pvI (AA x 2)
def fK (x:List PV):Int:=BU (T1 x)
def ovF (s:Nat) (x:List PV):Int:=cond (true&&ik x==(s:Int)) (fK x) 0
theorem nF {n:Int} {x:List PV} (h:RowG n x) (s:Nat):0≤ovF s x∧ovF s x≤62:=by
 unfold ovF
 have:=h.tot
 cases true&&ik x==(s:Int)
 ·show (0:Int)≤0∧(0:Int)≤62
  omega
 ·exact this
theorem iU (xs:List Int) (n s:Nat):(Lx xs n).getD s 0=xs.getD s 0:=by
 unfold Lx
 rw [List.getD_eq_getElem?_getD,List.getD_eq_getElem?_getD,List.getElem?_append]
 by_cases h:s<xs.length
 ·rw [if_pos h]
 ·rw [if_neg h,List.getElem?_eq_none (l:=xs) (by omega),List.getElem?_replicate]
  by_cases h2:s - xs.length<n - xs.length
  ·rw [if_pos h2]
   rfl
  ·rw [if_neg h2]
theorem fo {n:Int} {X:Rows} (hX:X.length≤4000) (rg:∀ x,x∈X→RowG n x) (s:Nat):∀ i,i≤X.length→(ovN X i).getD s 0=Bo (ovF s) (X.take i)∧∀ x,x∈X.take i→ik x<((ovN X i).length:Int)
 | 0,_=>by
  refine ⟨?_,fun x hx=>?_⟩
  ·show ([]:List Int).getD s 0=0
   rfl
  ·rw [List.take_zero] at hx
   exact absurd hx List.not_mem_nil
 | i+1,hi=>by
  obtain ⟨ih,il⟩:=fo hX rg s i (by omega)
  have bd:=Of (f:=ovF s) (c:=62) (X.take i) (fun x hx=>nF (rg x (List.mem_of_mem_take hx)) _)
  have lt:(X.take i).length=i:=by rw [List.length_take];omega
  rw [lt] at bd
  have g:=rg _ (iW (show i<X.length by omega))
  obtain ⟨o,o1,o2⟩:=g.over
  have gb:=g.tot
  have tl:∀ xs:List Int,(Lx xs (o+1)).length=max xs.length (o+1):=fun xs=>aj xs (o+1)
  refine ⟨?_,fun x hx=>?_⟩
  ·rw [bN _ (show i<X.length by omega),← ih]
   rw [← ih] at bd
   show (ovX (AM X i) (ovN X i)).getD s 0=(ovN X i).getD s 0+cond (true&&pvI (AA (AM X i) 2)==(s:Int)) (BU (T1 (AM X i))) 0
   unfold ovX
   generalize ovN X i=xs at *
   rw [o2,Int.toNat_natCast,Bool.true_and]
   rw [We _ _ _ _ (by rw [tl];omega),iU,iU]
   by_cases e:o=s
   ·rw [if_pos e,e,beq_self_eq_true]
    exact BQ (by omega) (by omega)
   ·rw [if_neg e,beq_false_of_ne (show ¬ (o:Int)=(s:Int) by omega)]
    show xs.getD s 0=xs.getD s 0+0
    omega
  ·have ll:(ovN X (i+1)).length=max (ovN X i).length (o+1):=by
    show (ovX (AM X i) (ovN X i)).length=_
    unfold ovX
    rw [List.length_set,o2,Int.toNat_natCast,tl]
   rw [ll]
   rw [Xv (show i<X.length by omega)] at hx
   rcases List.mem_append.1 hx with hx | hx
   ·have:=il x hx
    omega
   ·rw [List.mem_singleton.1 hx]
    show pvI (AA (AM X i) 2)<_
    omega
theorem pe {n:Int} {X:Rows} (hX:X.length≤4000) (rg:∀ x,x∈X→RowG n x):pre (ovN X X.length) (ovN X X.length).length=Bo fK X∧(∀ s,0≤(ovN X X.length).getD s 0∧(ovN X X.length).getD s 0≤1000000):=by
 have ft:∀ s,(ovN X X.length).getD s 0=Bo (ovF s) X:=fun s=>by
  have:=(fo hX rg s X.length (Nat.le_refl _)).1
  rw [List.take_length] at this
  exact this
 refine ⟨?_,fun s=>?_⟩
 ·rw [bK (fun _=>true) ik fK (D:=X) (ovN X X.length).length (fun s _=>ft s) (fun x hx=>by
   obtain ⟨o,o1,o2⟩:=(rg x hx).over
   show 0≤pvI (AA x 2)
   omega)]
  refine Fo X fun x hx=>?_
  have:=(fo hX rg 0 X.length (Nat.le_refl _)).2 x (by rw [List.take_length];exact hx)
  rw [decide_eq_true this]
  rfl
 ·rw [ft s]
  have:=Of (f:=ovF s) (c:=62) X (fun x hx=>nF (rg x hx) _)
  omega
theorem nI {xs:List Int} (h:∀ s,0≤xs.getD s 0∧xs.getD s 0≤1000000):∀ j,0≤pre xs j∧pre xs j≤1000000 * (j:Int)
 | 0=>by
  show (0:Int)≤0∧(0:Int)≤1000000 * ((0:Nat):Int)
  omega
 | j+1=>by
  have ih:=nI h j
  have:=h j
  show 0≤pre xs j+xs.getD j 0∧pre xs j+xs.getD j 0≤_
  omega
theorem ZR {xs:List Int} (h:∀ s,0≤xs.getD s 0∧xs.getD s 0≤1000000) (hl:xs.length≤1001) (t:Nat):∀ j,j<xs.length→(woN xs j).getD t 0=if t≤j then pre xs (t+1) else xs.getD t 0
 | 0,hj=>by
  by_cases e:t≤0
  ·rw [if_pos e]
   have:t=0:=by omega
   rw [this]
   show xs.getD 0 0=0+xs.getD 0 0
   omega
  ·rw [if_neg e]
   rfl
 | j+1,hj=>by
  have ih:=ZR h hl t j (by omega)
  have i1:=ZR h hl (j+1) j (by omega)
  have i2:=ZR h hl j j (by omega)
  rw [if_neg (by omega)] at i1
  rw [if_pos (Nat.le_refl _)] at i2
  have pb:=nI h (j+1)
  have xb:=h (j+1)
  show ((woN xs j).set (j+1) _).getD t 0=_
  rw [We _ _ _ _ (by rw [TJ];omega),i1,i2]
  by_cases e:j+1=t
  ·rw [if_pos e,← e,if_pos (Nat.le_refl _),BQ (by omega) (by omega)]
   show _=pre xs (j+1)+xs.getD (j+1) 0
   omega
  ·rw [if_neg e,ih]
   by_cases l:t≤j
   ·rw [if_pos l,if_pos (by omega)]
   ·rw [if_neg l,if_neg (by omega)]
theorem Yc {xs:List Int} (h:∀ s,0≤xs.getD s 0∧xs.getD s 0≤1000000) (hl:xs.length≤1001) {t:Nat} (ht:t<xs.length):(JH xs).getD t 0=pre xs (t+1):=by
 unfold JH
 rw [ZR h hl t (xs.length - 1) (by omega),if_pos (by omega)]
theorem iJ {r:Rul} {L:Rows} (hc:BG r L=0) (k:Nat):∀ n,n≤L.length→Bo NS (DG r L k n)=smi L (fun e=>(Ak r e).batter) k n∧Bo fK (DG r L k n)=smi L (M1 r) k n
 | 0,_=>⟨rfl,rfl⟩
 | n+1,hn=>by
  obtain ⟨i1,i2⟩:=iJ hc k n (by omega)
  rw [I4,I4]
  show Bo NS (cond ((evR L n).kind==4&&Nat.beq (opn L (n+1)) (k+1)) _ (DG r L k n))=_∧Bo fK (cond ((evR L n).kind==4&&Nat.beq (opn L (n+1)) (k+1)) _ (DG r L k n))=_
  unfold M1 Ak
  unfold M1 Ak at i2
  unfold Ak at i1
  cases hk:(evR L n).kind==4 with
  | false =>
   have z:BU IX=0:=by decide
   have z1:IX.batter=0:=rfl
   have cc:∀ b:Bool,cond b (0:Int) 0=0:=fun b=>by cases b<;>rfl
   simp only [Bool.false_and,cond_false,z,z1,cc,Int.add_zero]
   exact ⟨i1,i2⟩
  | true =>
   have bf:=dM hc (show n<L.length by omega) hk
   have rl:=bf.rules
   cases Nat.beq (opn L (n+1)) (k+1) with
   | false =>
    simp only [Bool.and_false,cond_false,Int.add_zero]
    exact ⟨i1,i2⟩
   | true =>
    simp only [Bool.and_true,cond_true,YT]
    rw [i1,i2]
    refine ⟨?_,?_⟩
    ·show _+((AB (stM L n 0 (Ad r).1).rules (evR L n).ball).batter+0)=_
     rw [rl,Int.add_zero]
    ·show _+(BU (AB (stM L n 0 (Ad r).1).rules (evR L n).ball)+0)=_
     rw [rl,Int.add_zero]
theorem aX {N:Nat} {a:Int} {b:Int}  : GT N [.int a,.int b]=some [.bool (iLt a b)]:=by
 show JG (std (K3 N) N) (xOf _)=_
 simp only [JG,M2,std,xOf,PXb,PXc,PXn,PXm,Nat.reduceAdd,Int.reduceBEq]
 have e:∀ v:Int,Fa N [.int v]=some [.bool false]:=fun v=>by
  show some [PV.bool (!(v==v))]=_
  rw [beq_self_eq_true]
  rfl
 rw [e]
 rfl
set_option maxHeartbeats 2000000 in
theorem TB {N:Nat} {L:Rows} (hN:2097152<N) (hl:L.length≤1048576) (hs:∀ i,i+1<L.length→iLt (atI L (i+1) 0) (atI L i 0)=false):Dx N [.rows L]=some [.bool true]:=by
 show Dp (std (E9 N) N) (xOf _)=_
 simp only [Dp,ED,std,xOf,PXb]
 have w0:IntKind.i64.wrap ((L.length:Int) - 1)=(L.length:Int) - 1 - ((0:Nat):Int):=by rw [BQ (by omega) (by omega)];omega
 rw [w0]
 refine AO (Bc (len:=L.length - 1) (fun j=>[.int ((L.length:Int) - 1 - (j:Int))]) [.int 1] ?_ ?_ N (by omega)) rfl
 ·intro self
  have:iLt 0 ((L.length:Int) - 1 - ((L.length - 1:Nat):Int))=false:=by simp only [iLt,decide_eq_false_iff_not];omega
  simp only [PXb,PXc,PXn,AG,this]
 ·intro j self hj
  obtain ⟨i,hi⟩:∃ i:Nat,L.length=j+i+2:=⟨L.length - j - 2,by omega⟩
  have e1:(L.length:Int) - 1 - (j:Int)=((i+1:Nat):Int):=by omega
  have e2:(L.length:Int) - 1 - ((j+1:Nat):Int)=(i:Int):=by omega
  have w1:IntKind.i64.wrap (((i+1:Nat):Int) - 1)=(i:Int):=by rw [BQ (by omega) (by omega)];omega
  have lp:iLt 0 ((i+1:Nat):Int)=true:=by simp only [iLt,decide_eq_true_eq];omega
  have h:=hs i (by omega)
  have i1:iIn ((i+1:Nat):Int) (L.length:Int)=true:=AS (by omega)
  have i2:iIn (i:Int) (L.length:Int)=true:=AS (by omega)
  rw [e1,e2]
  simp only [PXb,PXc,PXn,AG,lp,i1,i2,w1,ED,aX,Int.toNat_natCast,BI,h]
theorem eS {r:Rul} {L:Rows} {k:Nat} (hc:BG r L=0) (hk:k<opn L L.length):Bk r L (k:Int)=(DG r L k L.length,0):=by
 unfold Bk
 have e:(iLt (k:Int) 0||iLe (opn L L.length:Int) (k:Int))=false:=by
  simp only [Bool.or_eq_false_iff,iLt,iLe,decide_eq_false_iff_not]
  omega
 rw [hc,e,Zp hc]
 rfl
theorem mT {r:Rul} {L:Rows} {k:Nat} (hc:BG r L=0) (hk:k<opn L L.length) {p:Int} (hp:0≤p∧p≤r.side):I0 r L (k:Int) p=(whN (DG r L k L.length) p (DG r L k L.length).length,0):=by
 unfold I0
 rw [eS hc hk]
 have e:(iLt p 0||iLt r.side p)=false:=by
  simp only [Bool.or_eq_false_iff,iLt,decide_eq_false_iff_not]
  omega
 rw [e]
 rfl
theorem nR {r:Rul} {L:Rows} {k:Nat} (hc:BG r L=0) (hk:k<opn L L.length):Dh r L (k:Int)=(ovN (DG r L k L.length) (DG r L k L.length).length,0):=by
 unfold Dh
 rw [eS hc hk]
 rfl
theorem mt {N : Nat} {xs ys : List Int} {a : Int} (hN : 2097152 < N) (hx : xs.length = 9) (hy : ys.length = 9) {F : (List AQ → Option (List PV)) → List PV → Option (List PV)}
    (h0:∀ (zs:List Int) (b:Int) self,F self [.rows (AU zs),.int b,.int 9]=some [.rows (AU zs),.int b,.int 9])
    (h1:∀ (zs:List Int) (b:Int) (j:Nat) self,zs.length=9→j<9→F self [.rows (AU zs),.int b,.int (j:Int)]=self [.rows (AU (zs.set j (IntKind.i64.wrap (zs.getD j 0+ys.getD j 0)))),.int (IntKind.i64.wrap (b+ys.getD j 0)),.int ((j+1:Nat):Int)]):CS F N [.rows (AU xs),.int a,.int 0]=some [.rows (AU (Kg xs ys 9)),.int (RH a ys 9),.int 9]:=by
  have:=Bc (F:=F) (len:=9) (fun j=>[.rows (AU (Kg xs ys j)),.int (RH a ys j),.int (j:Int)]) [.rows (AU (Kg xs ys 9)),.int (RH a ys 9),.int 9] (fun self=>h0 _ _ self) (fun j self hj=>h1 _ _ j self (by rw [RP];exact hx) hj) N (by omega)
  exact this
end Go.Px
end
section
namespace Go.Px
set_option maxRecDepth 100000
set_option maxHeartbeats 8000000 in
theorem XA {N:Nat} {r1 r2 r3 r4 r5 r6 r7 r9 r10 r11 r12:Int} {r8:Bool} {r0:ByteArray} {r13:Rows} {L:Rows} (ha:KK N []=some [.bool true]) (hN:2097152<N) (hs:r0.size≤1048576) (h13:r13.length≤1048576):D2 N [.str r0,.int r1,.int r2,.int r3,.int r4,.int r5,.int r6,.int r7,.bool r8,.int r9,.int r10,.int r11,.int r12,.rows r13,.rows L]=some [.bool true]:=by
 show D7 (std (As N) N) (xOf _)=_
 have l:=pw L
 have l6:(cut L 60).length≤1000000:=Nat.le_trans (lG L 60) (show 60≤1000000 by omega)
 simp only [D7,OO,Pf,F3,Jq,GS,ME,E5,Id,std,xOf,PXb,PXc,PXn,PXm,Nat.reduceAdd,Int.reduceBEq,ha,lQ,aM hN hs h13 l jd,PXc]
 generalize cut L 60=X at *
 cases hc:BG (⟨r0,r1,r2,r3,r4,r5,r6,r7,r8,r9,r10,r11,r12,r13⟩:Rul) X==0 with
 | false=>rfl
 | true =>
  have c0:=beq_iff_eq.1 hc
  obtain ⟨il,rk⟩:=jd c0
  have sd:=rk.side
  change 2≤r1∧r1≤11 at sd
  have il4:=il.len
  simp only [PXb,PXc,PXn,PXm,Nat.reduceAdd,Int.reduceBEq,Int.reduceBEq,PXs,oV]
  have ol:=Sx X X.length
  refine AO (Bc (len:=opn X X.length) (fun i=>[.int (i:Int)]) [.int 1] ?_ ?_ N (by omega)) ?_
  ·intro self
   simp only [PXb,PXc,PXn,AG,BB]
  ·intro k self hi
   obtain ⟨s1,s2⟩:=hZ rk X k X.length
   have sm:=(iT rk X (sdT X) (opn X X.length) k il.len).pens
   have e1:(A5 (⟨r0,r1,r2,r3,r4,r5,r6,r7,r8,r9,r10,r11,r12,r13⟩:Rul) X (sdT X) (opn X X.length) k X.length).runs=smi X (M1 (⟨r0,r1,r2,r3,r4,r5,r6,r7,r8,r9,r10,r11,r12,r13⟩:Rul)) k X.length+(A5 (⟨r0,r1,r2,r3,r4,r5,r6,r7,r8,r9,r10,r11,r12,r13⟩:Rul) X (sdT X) (opn X X.length) k X.length).pens:=rfl
   have bt:=GG (L:=X) (jD rk) k X.length
   obtain ⟨u1,u2⟩:=iJ c0 k X.length (Nat.le_refl _)
   obtain ⟨bl,bf⟩:=js c0 k X.length (Nat.le_refl _)
   obtain ⟨n,hn⟩:∃ n:Nat,r1=(n:Int):=⟨r1.toNat,by omega⟩
   have rg:∀ x,x∈DG (⟨r0,r1,r2,r3,r4,r5,r6,r7,r8,r9,r10,r11,r12,r13⟩:Rul) X k X.length→RowG (n:Int) x:=fun x hx=>by
    have:=qJ rk (bf x hx)
    rw [← hn]
    exact this
   have B4:(DG (⟨r0,r1,r2,r3,r4,r5,r6,r7,r8,r9,r10,r11,r12,r13⟩:Rul) X k X.length).length≤4000:=by omega
   have wi:∀ p:Int,0≤p∧p≤r1→I0 (⟨r0,r1,r2,r3,r4,r5,r6,r7,r8,r9,r10,r11,r12,r13⟩:Rul) X (k:Int) p=(whN (DG (⟨r0,r1,r2,r3,r4,r5,r6,r7,r8,r9,r10,r11,r12,r13⟩:Rul) X k X.length) p (DG (⟨r0,r1,r2,r3,r4,r5,r6,r7,r8,r9,r10,r11,r12,r13⟩:Rul) X k X.length).length,0):=fun p hp=>mT c0 hi hp
   have oi:=nR c0 hi
   have wh:=lC B4 rg
   have wt:=kZ B4 rg
   obtain ⟨o1,o2⟩:=pe B4 rg
   have ol1:(ovN (DG (⟨r0,r1,r2,r3,r4,r5,r6,r7,r8,r9,r10,r11,r12,r13⟩:Rul) X k X.length) (DG (⟨r0,r1,r2,r3,r4,r5,r6,r7,r8,r9,r10,r11,r12,r13⟩:Rul) X k X.length).length).length≤1001:=by
    have:=gF (⟨r0,r1,r2,r3,r4,r5,r6,r7,r8,r9,r10,r11,r12,r13⟩:Rul) X (k:Int)
    rw [oi] at this
    exact this
   have pb:(prA (⟨r0,r1,r2,r3,r4,r5,r6,r7,r8,r9,r10,r11,r12,r13⟩:Rul) X k X.length).batter=smi X (fun e=>(Ak (⟨r0,r1,r2,r3,r4,r5,r6,r7,r8,r9,r10,r11,r12,r13⟩:Rul) e).batter) k X.length:=rfl
   simp only [PXb,PXc,PXn,PXm,Nat.reduceAdd,Int.reduceBEq,PXs,Az (show k≤1099511627776 by omega),A4 hi,AS hi,F3,Ub hN hs h13 l6,wi 0 (by omega),E5,ZJ hN hs h13 l,pT c0 hi,jQ,pX hi,GS,fN hN hs h13 l6,oi,Bu,JN,Int.reduceBEq]
   generalize DG (⟨r0,r1,r2,r3,r4,r5,r6,r7,r8,r9,r10,r11,r12,r13⟩:Rul) X k X.length=B at *
   have c9:((9:Nat):Int)=9:=rfl
   have s9:iSm 9 8=true:=by decide
   have rz:List.replicate (Int.toNat 9) [PV.int 0]=AU (Tc B 0):=rfl
   simp only [PXb,c9,s9,rz,beq_self_eq_true,Bool.not_true]
   refine AO (Bc (len:=n) (fun P=>[.rows (AU (Tc B P)),.int (aQ B P),.int ((P+1:Nat):Int)]) [.int 1,.rows (AU (Tc B n)),.int (aQ B n),.int ((n+1:Nat):Int)] ?_ ?_ N (by omega)) ?_
   ·intro self
    have lp:iLe ((n+1:Nat):Int) r1=false:=by simp only [iLe,decide_eq_false_iff_not];omega
    simp only [PXb,PXc,PXn,AG,lp]
   ·intro P self hP
    have lp:iLe ((P+1:Nat):Int) r1=true:=by simp only [iLe,decide_eq_true_eq];omega
    simp only [PXb,PXc,PXn,AG,lp,wi ((P+1:Nat):Int) (by omega),JN,Bu,NX,c9,beq_self_eq_true,Bool.not_true,Int.reduceBEq]
    refine AO (mt hN (NX B P) (JN B ((P+1:Nat):Int) B.length) ?_ ?_) ?_
    ·intro zs b self
     rfl
    ·intro zs b j self hz hj
     have l9:iLt (j:Int) 9=true:=by simp only [iLt,decide_eq_true_eq];omega
     have i9:iIn (j:Int) 9=true:=by simp only [iIn,decide_eq_true_eq];omega
     simp only [PXb,PXc,PXn,AG,hz,Bu,c9,l9,i9,Int.toNat_natCast,BI,Vk,Wj,DB (show j≤1099511627776 by omega)]
    ·simp only [PXb,PXc,PXn,AG,DB (show P+1≤1099511627776 by omega)]
     rfl
   ·generalize ovN B B.length=xs at *
    have wl:(JH xs).length=xs.length:=by unfold JH;rw [TJ]
    have mx:(cond (iLt 0 (xs.length:Int)) (cond (iIn (IntKind.i64.wrap ((xs.length:Int) - 1)) (xs.length:Int)) (some [PV.int ((JH xs).getD (IntKind.i64.wrap ((xs.length:Int) - 1)).toNat 0)]) none) (some [PV.int 0]))=some [PV.int (pre xs xs.length)]:=by
     by_cases z:xs.length=0
     ·rw [z]
      rfl
     ·have w1:IntKind.i64.wrap ((xs.length:Int) - 1)=((xs.length - 1:Nat):Int):=by rw [BQ (by omega) (by omega)];omega
      have l1:iLt 0 (xs.length:Int)=true:=by simp only [iLt,decide_eq_true_eq];omega
      rw [w1,l1,AS (show xs.length - 1<xs.length by omega),Int.toNat_natCast,Yc o2 ol1 (show xs.length - 1<xs.length by omega),show xs.length - 1+1=xs.length by omega]
      rfl
    have so:∀ i,i+1<(AU (JH xs)).length→iLt (atI (AU (JH xs)) (i+1) 0) (atI (AU (JH xs)) i 0)=false:=fun i hi=>by
     rw [Bu,wl] at hi
     rw [Vk,Vk,Yc o2 ol1 (show i+1<xs.length by omega),Yc o2 ol1 (show i<xs.length by omega)]
     have:=o2 (i+1)
     simp only [iLt,decide_eq_false_iff_not]
     show ¬ pre xs (i+1)+xs.getD (i+1) 0<pre xs (i+1)
     omega
    have SO:=TB (N:=N) (L:=AU (JH xs)) hN (by rw [Bu,wl];omega) so
    have EQ:=FZ (N:=N) (L:=AU (whN B 0 B.length)) (M:=AU (whN B 0 B.length)) hN (by rw [Bu,JN];omega)
    rw [lf] at EQ
    have wr:IntKind.i64.wrap ((A5 (⟨r0,r1,r2,r3,r4,r5,r6,r7,r8,r9,r10,r11,r12,r13⟩:Rul) X (sdT X) (opn X X.length) k X.length).runs - (A5 (⟨r0,r1,r2,r3,r4,r5,r6,r7,r8,r9,r10,r11,r12,r13⟩:Rul) X (sdT X) (opn X X.length) k X.length).pens)=pre xs xs.length:=by
     rw [e1,o1,u2,BQ (by omega) (by omega)]
     omega
    simp only [PXb,PXc,PXn,PXm,Nat.reduceAdd,Int.reduceBEq,wl,BI,Vk,mx,wh,EQ,wt,u1,pb,wr,SO,beq_self_eq_true,Int.reduceBEq]
    rfl
  ·simp only [PXb,PXc,PXn,PXm,Nat.reduceAdd,Int.reduceBEq]
end Go.Px
end
