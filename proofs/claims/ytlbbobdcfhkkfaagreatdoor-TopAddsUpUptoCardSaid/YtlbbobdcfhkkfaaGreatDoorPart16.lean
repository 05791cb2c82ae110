/- Part 16. -/
import Derived.Test.YtlbbobdcfhkkfaaGreatDoorPart15
set_option linter.unusedVariables false
set_option linter.unusedSimpArgs false
section
namespace Go.Px
set_option maxRecDepth 100000
def IQ (r:Rul) (L:Rows) (k:Int):Rows×Int:=cond (!(Ak r L==0)) ([],Ak r L) (cond (iLt k 0||iLe (opn L L.length:Int) k) ([],2) (fil k (Bi r L),0))
def oG (x:List PV):Cre:=⟨pvI (AA x 20),pvI (AA x 21),pvI (AA x 22),pvI (AA x 23),pvI (AA x 24),pvI (AA x 25),pvB (AA x 26),pvB (AA x 27),pvB (AA x 28),pvB (AA x 29)⟩
theorem Nm {p:Int} {n:Nat}:inR p n=true↔1≤p∧p≤(n:Int):=by
 unfold inR;simp only [iLe,zzj,decide_eq_true_eq]
theorem rm {s:Inn} {p q:Int} (h:((I5 s p q).2==0)=true):inR p s.batters.length=true∧inR q s.batters.length=true:=by
 unfold I5 at h;cases hb:Ce s.batters with
 | true=>rw [hb] at h;cases h
 | false =>
  cases hp:inR p s.batters.length with
  | false=>rw [hb,hp] at h;cases h
  | true =>
   cases hq:inR q s.batters.length with
   | false=>rw [hb,hp,hq] at h;cases h
   | true=>exact ⟨rfl,rfl⟩
structure EvIn (r:Rul) (e:Ev):Prop where
 op:e.kind=2→(1≤e.player∧e.player≤r.side)∧(1≤e.other∧e.other≤r.side)
 en:e.kind=5→1≤e.player∧e.player≤r.side
 re:e.kind=6→1≤e.player∧e.player≤r.side
theorem sq {r:Rul} {s:Inn} {e:Ev} (hl:(s.batters.length:Int)=r.side) (h:((Al r s e).2==0)=true):EvIn r e:=by
 unfold Al at h;refine ⟨fun k=>?_,fun k=>?_,fun k=>?_⟩
 ·rw [k] at h;have h:((I5 s e.player e.other).2==0)=true:=h;obtain ⟨a,b⟩:=rm h;rw [Nm,hl] at a b;exact ⟨a,b⟩
 ·rw [k] at h;have h:((cond e.yes (DK s e.player) (Fy s e.player)).2==0)=true:=h;have m:(F4 s e.player==0)=true:=by
   cases hm:F4 s e.player==0 with
   | true=>rfl
   | false =>
    cases hy:e.yes with
    | true=>rw [hy] at h;unfold DK at h;rw [hm] at h;rw [show (F4 s e.player==0)=true from h] at hm;cases hm
    | false=>rw [hy] at h;unfold Fy at h;rw [hm] at h;rw [show (F4 s e.player==0)=true from h] at hm;cases hm
  have:=Zp m;rw [Nm,hl] at this;exact this
 ·rw [k] at h;have h:((D2 s e.player e.yes).2==0)=true:=h;have:=(kS h).1;rw [Nm,hl] at this;exact this
theorem rK {r:Rul} {s:Inn} {e:Ev} (h:((Af r s e).2==0)=true):EvIn r e:=by
 obtain ⟨hv,he,hn,hw,hp,hs⟩:=LN h;exact sq (Fe.1 hv).lb hp
theorem zZ {r:Rul} {e:Ev} (h2:(e.kind==2)=false) (h5:(e.kind==5)=false) (h6:(e.kind==6)=false):EvIn r e where
 op k:=by rw [k] at h2;cases h2
 en k:=by rw [k] at h5;cases h5
 re k:=by rw [k] at h6;cases h6
theorem Xk {m:Mat} {b:Bool} {x:Mat×Int} (h:((cond (!b) (m,1) x).2==0)=true):b=true∧(x.2==0)=true:=by
 cases b with
 | false=>cases h
 | true=>exact ⟨rfl,h⟩
theorem Xw {m:Mat} {t:Int} {x:Mat×Int} (h:((cond (!(t==0)) (m,t) x).2==0)=true):(t==0)=true:=by
 cases ht:t==0 with
 | true=>rfl
 | false =>
  rw [ht] at h;rw [show (t==0)=true from h] at ht;cases ht
theorem ym {m:Mat} {e:Ev} (h:((EE m e).2==0)=true):EvIn m.rules e:=by
 unfold EE at h;exact rK (Xw h)
theorem xL {m:Mat} {e:Ev} (h:((Bu m e).2==0)=true):EvIn m.rules e:=by
 obtain ⟨hv,he,h5,ha,hs⟩:=M9 h;unfold Ec at ha;have go:∀ k,e.kind=k→(k==1)=false→(k==2)=false→(k==12)=false→(k==16)=false→EvIn m.rules e:=fun k hk a b c d=>by
  rw [hk,a,b,c,d] at ha;have ha:((cond (!(m.stage==3)) (m,1) (EE m e)).2==0)=true:=ha;exact ym (Xk ha).2
 cases k2:e.kind==2 with
 | true =>
  have k:=beq_iff_eq.1 k2;rw [k] at ha;have ha:((cond (!(m.stage==2)) (m,1) (SK m e)).2==0)=true:=ha;have ha:=(Xk ha).2;unfold SK at ha;exact rK (Xw (Xk ha).2)
 | false =>
  cases k5:e.kind==5 with
  | true=>exact go 5 (beq_iff_eq.1 k5) rfl rfl rfl rfl
  | false =>
   cases k6:e.kind==6 with
   | true=>exact go 6 (beq_iff_eq.1 k6) rfl rfl rfl rfl
   | false=>exact zZ k2 k5 k6
theorem yY {r:Rul} {L:Rows} (hc:Ak r L=0) {a:Nat} (ha:a<L.length):EvIn r (evR L a):=by
 obtain ⟨h1,h2,h3,h4,h5⟩:=Bc hc;obtain ⟨li,so,_⟩:=Er h1 h4 a (by omega);have a0:=MV L.length 0 _ h4 a ha;rw [Nat.zero_add] at a0;have q:=(Tu a0).1;rw [q] at a0;have:=xL a0;rw [so.rules] at this;exact this
def Cu (x:List PV):Int:=cond (pvI (AA x 14)==0) 0 (cond (pvI (AA x 15)==1) (pvI (AA x 5)) (cond (pvI (AA x 15)==2) (pvI (AA x 6)) 0))
def XW (x:List PV):Bool:=pvI (AA x 9)==1&&pvI (AA x 10)==0
def PW (x:List PV) (l:Ln):Ln:={ l with runs:=IntKind.i64.wrap (l.runs+pvI (AA x 20)),balls:=cond (pvB (AA x 27)) (IntKind.i64.wrap (l.balls+1)) l.balls,fours:=cond (XW x&&pvI (AA x 12)==4) (IntKind.i64.wrap (l.fours+1)) l.fours,sixes:=cond (XW x&&pvI (AA x 12)==6) (IntKind.i64.wrap (l.sixes+1)) l.sixes }
def AAe (x:List PV) (l:Ln):Ln:={ l with out:=true,how:=pvI (AA x 14),fielder:=pvI (AA x 16),bowler:=cond (pvB (AA x 28)) (pvI (AA x 4)) l.bowler }
def Hc (x:List PV) (p:Int) (l:Ln):Ln:=cond (Cu x==p) (AAe x (cond (pvI (AA x 5)==p) (PW x l) l)) (cond (pvI (AA x 5)==p) (PW x l) l)
def dLn (k:Int) (D:Rows) (F:Int→Ln):Nat→Int→Ln
 | 0,p=>F p
 | n+1,p=>cond (pvI (AF D n 1)==k) (Hc (AB D n) p (dLn k D F n p)) (dLn k D F n p)
def evL (e:Ev) (p:Int) (l:Ln):Ln:=cond (e.kind==5&&e.yes) (cond (e.player==p) { l with out:=true,how:=9 } l) (cond (e.kind==6 && !e.yes) (cond (e.player==p) { l with out:=true,how:=10 } l) l)
def eLn (E:Rows) (F:Int→Ln):Nat→Int→Ln
 | 0,p=>F p
 | n+1,p=>evL (evR E n) p (eLn E F n p)
def QO (r:Rul) (L:Rows) (k:Int):Rows×Int:=cond ((IQ r L k).2==0)
  (AP (OY (Bo (CR L k.toNat) (CR L k.toNat).length) r.side.toNat) (eLn (CR L k.toNat) (dLn k (Bi r L) (E7 fun p=>CQ (CR L k.toNat) p (CR L k.toNat).length) (Bi r L).length) (CR L k.toNat).length),0) ([],(IQ r L k).2)
theorem aO {N:Nat} {a:Int} {b:Int} {c:Int} {d:Int} {f:Int} {x:Bool} {h:Int} {v:Int} {i:Int} {j:Int} {y:Bool} {g:Int} {p:Int} {q:Int}  : Ed N [.int a,.int b,.int c,.int d,.int f,.bool x,.int h,.int v,.int i,.int j,.bool y,.int g,.int p,.int q]=some [.int (cond (h==0) 0 (cond (v==1) p (cond (v==2) q 0)))]:=by
 show HH (std (N3 N) N) (xOf _)=_;simp only [HH,lq9,std,xOf,PXb];cases h==0<;>cases v==1<;>cases v==2<;>rfl
theorem AAF {r:Rul} {L:Rows} (hc:Ak r L=0) {a:Nat} (ha:a<L.length) (hk:((evR L a).kind==4)=true) (t:Mat):Cu (Bh (a:Int) (stM L a 0 (AK r).1) t (evR L a).ball)=0∨(1≤Cu (Bh (a:Int) (stM L a 0 (AK r).1) t (evR L a).ball)∧Cu (Bh (a:Int) (stM L a 0 (AK r).1) t (evR L a).ball)≤r.side):=by
 have bf:=N1 hc ha hk;have st:=bf.ok.st;have ot:=bf.ok.ot;have e:Cu (Bh (a:Int) (stM L a 0 (AK r).1) t (evR L a).ball)=cond ((evR L a).ball.how==0) 0 (cond ((evR L a).ball.victim==1) (AJ (stM L a 0 (AK r).1)).striker (cond ((evR L a).ball.victim==2) (AJ (stM L a 0 (AK r).1)).other 0)):=rfl;rw [e];cases (evR L a).ball.how==0 with
 | true=>exact .inl rfl
 | false =>
  cases (evR L a).ball.victim==1 with
  | true=>show (AJ (stM L a 0 (AK r).1)).striker=0∨(1≤(AJ (stM L a 0 (AK r).1)).striker∧(AJ (stM L a 0 (AK r).1)).striker≤r.side);omega
  | false =>
   cases (evR L a).ball.victim==2 with
   | true=>show (AJ (stM L a 0 (AK r).1)).other=0∨(1≤(AJ (stM L a 0 (AK r).1)).other∧(AJ (stM L a 0 (AK r).1)).other≤r.side);omega
   | false=>exact .inl rfl
theorem qm {r:Rul} {L:Rows} (hc:Ak r L=0):∀ n,n≤L.length→∀ x,x∈M0 L n 0 (AK r).1 []→RowF r x∧(Cu x=0∨(1≤Cu x∧Cu x≤r.side))
 | 0,_,x,hx=>absurd hx List.not_mem_nil
 | n+1,hn,x,hx=>by
  have ih:=qm hc n (by omega);rw [Xx,Nat.zero_add] at hx;cases hk:(evR L n).kind==4 with
  | false =>
   rw [hk,cond_false] at hx;exact ih x hx
  | true =>
   rw [hk,cond_true] at hx
   rcases List.mem_append.1 hx with hx | hx
   ·exact ih x hx
   ·rw [List.mem_singleton.1 hx];exact ⟨yO hc (show n<L.length by omega) hk _,AAF hc (show n<L.length by omega) hk _⟩
theorem kQ {r:Rul} {L:Rows} (hc:Ak r L=0):Bi r L=M0 L L.length 0 (AK r).1 []:=by
 obtain ⟨h1,h2,h3,h4,h5⟩:=Bc hc;unfold Bi;rw [h1];obtain ⟨j,j1,j2,j3,j4⟩:=P9 L L.length 0 (AK r).1;show Ls L L.length 0 (AK r).1 []=_;rw [j3 []]
 rcases j4 with ⟨j5,_⟩ | ⟨j5,j6,j7⟩
 ·rw [j5]
 ·have hh:=MV L.length 0 _ h4 j j5;rw [hh] at j6;cases j6
theorem xD {D:Rows} {j:Nat} (h:j<D.length):AB D j∈D:=by
 unfold AB;rw [zzk,zzn h];exact List.getElem_mem h
theorem wH {r:Rul} {L:Rows} (hc:Ak r L=0) {j:Nat} (hj:j<(Bi r L).length):RowF r (AB (Bi r L) j)∧(Cu (AB (Bi r L) j)=0∨(1≤Cu (AB (Bi r L) j)∧Cu (AB (Bi r L) j)≤r.side)):=by
 have:=xD hj;rw [kQ hc] at this;have e:=kQ hc;rw [e] at hj ⊢;exact qm hc L.length (Nat.le_refl _) _ this
theorem rD {r:Rul} {L:Rows} {k:Nat} (hc:Ak r L=0) (hk:k<opn L L.length):∀ n,n≤(CR L k).length→∀ p,p∈Bo (CR L k) n→1≤p∧p≤r.side
 | 0,_,p,hp=>absurd hp List.not_mem_nil
 | n+1,hn,p,hp=>by
  have l4:=(Bc hc).2.2.1;have ih:=rD hc hk n (by omega);have sl:=dp (L:=L) (by omega) hk;have sg:=seg (L:=L) (by omega) hk;have ei:evR (CR L k) n=evR L (AR L k+n):=gR L n (by omega);have hi:=yY hc (a:=AR L k+n) (by have:=sg.le;omega);unfold Bo at hp;rw [ei] at hp;cases h2:(evR L (AR L k+n)).kind==2 with
  | true =>
   rw [h2,cond_true] at hp;have o:=hi.op (beq_iff_eq.1 h2)
   rcases Lj.1 hp with hp | rfl
   ·rcases Lj.1 hp with hp | rfl
    ·exact ih p hp
    ·exact o.1
   ·exact o.2
  | false =>
   rw [h2,cond_false] at hp;cases h5:(evR L (AR L k+n)).kind==5 with
   | true =>
    rw [h5,cond_true] at hp
    rcases Lj.1 hp with hp | rfl
    ·exact ih p hp
    ·exact hi.en (beq_iff_eq.1 h5)
   | false =>
    rw [h5,cond_false] at hp;exact ih p hp
theorem Wo {r:Rul} {L:Rows} {k:Nat} (hc:Ak r L=0) (hk:k<opn L L.length) (h0:0≤r.side) {p:Int}:p∈OY (Bo (CR L k) (CR L k).length) r.side.toNat↔1≤p∧p≤r.side:=by
 rw [dk];constructor
 ·rintro (h | h)
  ·exact rD hc hk _ (Nat.le_refl _) p h
  ·omega
 ·intro h;exact .inr (by omega)
theorem fC {o : List Int} {p : Int} (hn : o.Nodup) (h : p ∈ o) :
    (∀ (F:Int→Ln) (a:Int),(AP o F).set (Aq p o) (Ac (AB (AP o F) (Aq p o)) 1 [.int a])=AP o (B0 F p { F p with runs:=a })) ∧
    (∀ (F:Int→Ln) (a:Int),(AP o F).set (Aq p o) (Ac (AB (AP o F) (Aq p o)) 2 [.int a])=AP o (B0 F p { F p with balls:=a })) ∧
    (∀ (F:Int→Ln) (a:Int),(AP o F).set (Aq p o) (Ac (AB (AP o F) (Aq p o)) 3 [.int a])=AP o (B0 F p { F p with fours:=a })) ∧
    (∀ (F:Int→Ln) (a:Int),(AP o F).set (Aq p o) (Ac (AB (AP o F) (Aq p o)) 4 [.int a])=AP o (B0 F p { F p with sixes:=a })) ∧
    (∀ (F:Int→Ln) (a:Bool),(AP o F).set (Aq p o) (Ac (AB (AP o F) (Aq p o)) 5 [.bool a])=AP o (B0 F p { F p with out:=a })) ∧
    (∀ (F:Int→Ln) (a:Int),(AP o F).set (Aq p o) (Ac (AB (AP o F) (Aq p o)) 6 [.int a])=AP o (B0 F p { F p with how:=a })) ∧
    (∀ (F:Int→Ln) (a:Int),(AP o F).set (Aq p o) (Ac (AB (AP o F) (Aq p o)) 7 [.int a])=AP o (B0 F p { F p with bowler:=a })) ∧
    (∀ (F:Int→Ln) (a:Int),(AP o F).set (Aq p o) (Ac (AB (AP o F) (Aq p o)) 8 [.int a])=AP o (B0 F p { F p with fielder:=a })) ∧
    (∀ (F:Int→Ln),pvI (AF (AP o F) (Aq p o) 1)=(F p).runs)∧(∀ (F:Int→Ln),pvI (AF (AP o F) (Aq p o) 2)=(F p).balls) ∧
    (∀ (F:Int→Ln),pvI (AF (AP o F) (Aq p o) 3)=(F p).fours)∧(∀ (F:Int→Ln),pvI (AF (AP o F) (Aq p o) 4)=(F p).sixes):=by
  refine ⟨fun F a=>F7 hn h rfl,fun F a=>F7 hn h rfl,fun F a=>F7 hn h rfl,fun F a=>F7 hn h rfl,fun F a=>F7 hn h rfl,fun F a=>F7 hn h rfl,fun F a=>F7 hn h rfl,fun F a=>F7 hn h rfl,fun F=>?_,fun F=>?_,fun F=>?_,fun F=>?_⟩ <;>
  · unfold AF;rw [iX h];rfl
set_option maxHeartbeats 8000000 in
theorem Wf {N:Nat} {r1 r2 r3 r4 r5 r6 r7 r9 r10 r11 r12:Int} {r8:Bool} {r0:ByteArray} {r13:Rows} {L:Rows} {k:Int} (hN:2097152<N) (hs:r0.size≤1048576) (h13:r13.length≤1048576) (hL:L.length≤1000000):DF N [.str r0,.int r1,.int r2,.int r3,.int r4,.int r5,.int r6,.int r7,.bool r8,.int r9,.int r10,.int r11,.int r12,.rows r13,.rows L,.int k]=some [.rows (QO (⟨r0,r1,r2,r3,r4,r5,r6,r7,r8,r9,r10,r11,r12,r13⟩:Rul) L k).1,.int (QO (⟨r0,r1,r2,r3,r4,r5,r6,r7,r8,r9,r10,r11,r12,r13⟩:Rul) L k).2]:=by
 show IA (std (Bs N) N) (xOf _)=_;generalize hres:(some [.rows (QO (⟨r0,r1,r2,r3,r4,r5,r6,r7,r8,r9,r10,r11,r12,r13⟩:Rul) L k).1,.int (QO (⟨r0,r1,r2,r3,r4,r5,r6,r7,r8,r9,r10,r11,r12,r13⟩:Rul) L k).2]:Option (List PV))=RR;have hl:L.length≤1048576:=by omega
 simp only [IA,Ui,Tk,Qn,Pz,JX,Nr,lq9,std,xOf,PXb,QY hN hs h13 hl,IP hN hl,SL hN hs h13 hl,Wg,PXc];subst hres;simp only [QO,IQ];cases hc:Ak (⟨r0,r1,r2,r3,r4,r5,r6,r7,r8,r9,r10,r11,r12,r13⟩:Rul) L==0 with
 | false=>simp only [PXb,Bool.not_false,hc]
 | true =>
  have pl:=fx (⟨r0,r1,r2,r3,r4,r5,r6,r7,r8,r9,r10,r11,r12,r13⟩:Rul) L;have c0:=beq_iff_eq.1 hc;simp only [PXb,Bool.not_true,PXp,Nk];cases hb:iLt k 0||iLe (opn L L.length:Int) k with
  | true=>rfl
  | false =>
   simp only [Bool.or_eq_false_iff,iLt,iLe,decide_eq_false_iff_not] at hb;obtain ⟨K,rfl⟩:∃ K:Nat,k=(K:Int):=⟨k.toNat,by omega⟩;have hk:K<opn L L.length:=by omega
   have l4:=(Bc c0).2.2.1;have sg:=seg hl hk;have sgl:=sg.lt;have sge:=sg.le;have sl:=dp hl hk;have rk:=Dm (Bc c0).2.1;have rs:2≤r1∧r1≤11:=rk.side;have rg:iRg (AR L K:Int) (AR L (K+1):Int) (L.length:Int)=true:=by simp only [iRg,decide_eq_true_eq];omega
   have om:=fun p=>Wo (p:=p) c0 hk (show 0≤r1 by omega)
   have pin:=fun j (hj:j<(Bi (⟨r0,r1,r2,r3,r4,r5,r6,r7,r8,r9,r10,r11,r12,r13⟩:Rul) L).length)=>wH c0 hj
   have ein:=fun j (hj:j<(CR L K).length)=>yY c0 (a:=AR L K+j) (by omega)
   have esub:=fun j (hj:j<(CR L K).length)=>gR L (a:=AR L K) (b:=AR L (K+1)) j (by omega)
   change ∀ j,j<(CR L K).length→evR (CR L K) j=_ at esub;have on:=LI (Iu (CR L K) (CR L K).length) r1.toNat;have ol:=eM (Bo (CR L K) (CR L K).length) r1.toNat;have oe:=X9 (CR L K) (CR L K).length;simp only [PXb,AN hk,sg.x0,sg.x1,rg,Int.toNat_natCast,beq_self_eq_true];have ex:List.drop (AR L K) (List.take (AR L (K+1)) L)=CR L K:=rfl;rw [ex];have einE:=fun j (hj:j<(CR L K).length)=>(esub j hj)▸(ein j hj)
   clear ein esub ex rg sg;generalize hE:CR L K=E at *
   generalize Bi (⟨r0,r1,r2,r3,r4,r5,r6,r7,r8,r9,r10,r11,r12,r13⟩:Rul) L=D at *
   have e1:E.length≤4000:=by omega
   have e2:=fV (r0:=r0) (r1:=r1) (r2:=r2) (r3:=r3) (r4:=r4) (r5:=r5) (r6:=r6) (r7:=r7) (r8:=r8) (r9:=r9) (r10:=r10) (r11:=r11) (r12:=r12) (r13:=r13) hN e1 (by omega) (by omega);refine CW e2 ?_;simp only [PXb,i7];generalize hO:OY (Bo E E.length) r1.toNat=o at *
   refine AZ (CA (len:=D.length) (fun i=>[.int (i:Int),.rows (AP o (dLn K D (E7 fun p=>CQ E p E.length) i))]) [.rows (AP o (dLn K D (E7 fun p=>CQ E p E.length) D.length))] ?_ ?_ N (by omega)) ?_
   ·intro self;simp only [PXb,PXc,PXn,AG,A3]
   ·intro i self hi;have wi:IntKind.i64.wrap ((i:Int)+1)=((i+1:Nat):Int):=BN (show i≤1099511627776 by omega);obtain ⟨rf,vf⟩:=pin i hi;have st:=rf.striker;have so:pvI (AF D i 5)∈o:=(om _).2 st;have ix:=DY (o:=o) (F:=dLn K D (E7 fun p=>CQ E p E.length) i) (p:=pvI (AF D i 5)) (by omega) hN;rw [LV.2 so,cond_true] at ix;generalize hF:dLn (K:Int) D (E7 fun p=>CQ E p E.length)=G at *
    have nx:G (i+1)=fun p=>cond (pvI (AF D i 1)==(K:Int)) (Hc (AB D i) p (G i p)) (G i p):=by rw [← hF];rfl
    simp only [PXb,Ay hi,AN hi,wi];cases hk1:pvI (AF D i 1)==(K:Int) with
    | false =>
     have:G (i+1)=G i:=by rw [nx,hk1];rfl
     rw [this];rfl
    | true =>
     rw [Bool.not_true,cond_false];refine CW ix ?_;simp only [PXb,Bt,AN (Ge so).1,Int.toNat_natCast];have cs:=fC on so;generalize hp:pvI (AF D i 5)=p at *
     generalize hx:AB D i=x at *
     have xx:∀ c,AF D i c=AA x c:=fun c=>by unfold AF;rw [hx]
     simp only [xx] at hp ⊢;have b46:(pvI (AA x 12)==4)=true→(pvI (AA x 12)==6)=false:=fun h=>by rw [beq_iff_eq.1 h];rfl
     refine CW (v:=[.rows (AP o (B0 (G i) p { G i p with runs:=IntKind.i64.wrap ((G i p).runs+pvI (AA x 20)),balls:=cond (pvB (AA x 27)) (IntKind.i64.wrap ((G i p).balls+1)) (G i p).balls }))]) ?_ ?_
     ·cases pvB (AA x 27)<;>simp only [cond_true,cond_false,cs,Il,PZ]
     simp only [PXb];refine CW (v:=[.rows (AP o (B0 (G i) p (PW x (G i p))))]) ?_ ?_
     ·unfold PW XW;cases pvI (AA x 9)==1<;>cases pvI (AA x 10)==0<;>cases h4:pvI (AA x 12)==4<;>cases h6:pvI (AA x 12)==6 <;>
       simp only [Bool.and_true,Bool.and_false,Bool.true_and,Bool.false_and,cond_true,cond_false,cs,Il,PZ]
      rw [b46 h4] at h6;cases h6
     simp only [PXb];have vr:Cu x=cond (pvI (AA x 14)==0) 0 (cond (pvI (AA x 15)==1) p (cond (pvI (AA x 15)==2) (pvI (AA x 6)) 0)):=by unfold Cu;rw [hp]
     refine CW (v:=[.int (Cu x)]) (by rw [vr];exact aO) ?_;simp only [PXb];have fin:∀ F:Int→Ln,(∀ q,1≤q→F q=Hc x q (G i q))→AP o F=AP o (G (i+1)):=fun F hF=>tM fun q hq=>by
      rw [nx,hF q ((om q).1 hq).1,hk1];exact rfl
     have two:∀ q,B0 (G i) p (PW x (G i p)) q=cond (pvI (AA x 5)==q) (PW x (G i q)) (G i q):=fun q=>by
      unfold B0;rw [hp];cases hq:q==p with
      | true=>rw [beq_iff_eq.1 hq,beq_self_eq_true]
      | false=>rw [show (p==q)=false from beq_eq_false_iff_ne.2 (fun e=>by rw [e,beq_self_eq_true] at hq;cases hq)];rfl
     rcases vf with v0 | v1
     ·have e:iLt 0 (Cu x)=false:=by rw [v0];rfl
      rw [e,cond_false,fin _ fun q hq=>by
       rw [two];unfold Hc;rw [v0,show ((0:Int)==q)=false from beq_eq_false_iff_ne.2 (by omega),cond_false]]
     ·have e:iLt 0 (Cu x)=true:=by simp only [iLt,decide_eq_true_eq];omega
      have vo:Cu x∈o:=(om _).2 v1;have cv:=fC on vo;have iv:=DY (o:=o) (F:=B0 (G i) p (PW x (G i p))) (p:=Cu x) (by omega) hN;rw [LV.2 vo,cond_true] at iv;rw [e,cond_true];refine CW iv ?_;simp only [PXb,Bt,AN (Ge vo).1,Int.toNat_natCast,cv,Il,PZ];have last:∀ (b:Bool) (bw:Int),b=pvB (AA x 28)→bw=cond b (pvI (AA x 4)) (B0 (G i) p (PW x (G i p)) (Cu x)).bowler→AP o (B0 (B0 (G i) p (PW x (G i p))) (Cu x) { B0 (G i) p (PW x (G i p)) (Cu x) with out:=true,how:=pvI (AA x 14),fielder:=pvI (AA x 16),bowler:=bw })=AP o (G (i+1)):=fun b bw hb hw=>fin _ fun q hq=>by
       subst hb;subst hw;show B0 _ (Cu x) (AAe x (B0 (G i) p (PW x (G i p)) (Cu x))) q=_;unfold Hc;rw [← two q];unfold B0;cases hq2:q==Cu x with
       | true=>rw [beq_iff_eq.1 hq2,beq_self_eq_true]
       | false=>rw [show (Cu x==q)=false from beq_eq_false_iff_ne.2 (fun e=>by rw [e,beq_self_eq_true] at hq2;cases hq2)];rfl
      cases hw:pvB (AA x 28) with
      | true =>
       rw [cond_true];exact congrArg (fun R=>self [Leaf.int ((i+1:Nat):Int),Leaf.rows R]) (last true _ hw.symm rfl)
      | false =>
       rw [cond_false];exact congrArg (fun R=>self [Leaf.int ((i+1:Nat):Int),Leaf.rows R]) (last false _ hw.symm rfl)
   ·simp only [PXb];generalize dLn (K:Int) D (E7 fun p=>CQ E p E.length) D.length=F0 at *
    refine AZ (CA (len:=E.length) (fun i=>[.int (i:Int),.rows (AP o (eLn E F0 i))]) [.rows (AP o (eLn E F0 E.length))] ?_ ?_ N (by omega)) rfl
    ·intro self;simp only [PXb,A3]
    ·intro i self hi;have wi:IntKind.i64.wrap ((i:Int)+1)=((i+1:Nat):Int):=BN (show i≤1099511627776 by omega);have ei:=einE i hi;have kk:(evR E i).kind=pvI (AF E i 0):=rfl;have kp:(evR E i).player=pvI (AF E i 2):=rfl;have ky:(evR E i).yes=pvB (AF E i 4):=rfl;have nx:eLn E F0 (i+1)=fun p=>evL (evR E i) p (eLn E F0 i p):=rfl
     generalize eLn E F0 i=G at *
     simp only [PXb,Ay hi,AN hi,wi,← kk,← kp,← ky];rw [nx];have fin:∀ (h:Int),(∀ q,evL (evR E i) q (G q)=cond ((evR E i).player==q) { G q with out:=true,how:=h } (G q))→AP o (B0 G (evR E i).player { G (evR E i).player with out:=true,how:=h })=AP o fun p=>evL (evR E i) p (G p):=fun h hq=>by
      congr 1
      funext q
      rw [hq];unfold B0;cases hq2:q==(evR E i).player with
      | true=>rw [beq_iff_eq.1 hq2,beq_self_eq_true]
      | false=>rw [show ((evR E i).player==q)=false from beq_eq_false_iff_ne.2 (fun e=>by rw [e,beq_self_eq_true] at hq2;cases hq2)];rfl
     cases h5:(evR E i).kind==5&&(evR E i).yes with
     | true =>
      simp only [zzj] at h5;have po:(evR E i).player∈o:=(om _).2 (ei.en (beq_iff_eq.1 h5.1));have cs:=fC on po;have ix:=DY (o:=o) (F:=G) (p:=(evR E i).player) (by omega) hN;rw [LV.2 po,cond_true] at ix;rw [cond_true];refine CW ix ?_;simp only [PXb,Bt,AN (Ge po).1,Int.toNat_natCast,cs,Il,PZ];rw [← fin 9 fun q=>by unfold evL;rw [h5.1,h5.2];rfl]
     | false =>
      cases h6:(evR E i).kind==6 && !(evR E i).yes with
      | true =>
       have h6':=h6;simp only [zzj] at h6';have po:(evR E i).player∈o:=(om _).2 (ei.re (beq_iff_eq.1 h6'.1));have cs:=fC on po;have ix:=DY (o:=o) (F:=G) (p:=(evR E i).player) (by omega) hN;rw [LV.2 po,cond_true] at ix;rw [cond_false,cond_true];refine CW ix ?_;simp only [PXb,Bt,AN (Ge po).1,Int.toNat_natCast,cs,Il,PZ];rw [← fin 10 fun q=>by unfold evL;rw [h5,h6];rfl]
      | false =>
       rw [cond_false,cond_false];have:(fun p=>evL (evR E i) p (G p))=G:=funext fun q=>by unfold evL;rw [h5,h6];rfl
       rw [this]
def HL (X:Rows) (p:Int):Nat→Ln
 | 0=>ln0
 | n+1=>Hc (AB X n) p (HL X p n)
def evX (e:Ev) (p:Int) (l:Ln):Ln:=cond (e.kind==2&&(e.player==p||e.other==p)) { l with batted:=true } (cond ((e.kind==5&&e.player==p) && !e.yes) { l with batted:=true } (cond (e.kind==5&&e.player==p) { l with out:=true,how:=9 } (cond ((e.kind==6&&e.player==p) && !e.yes) { l with out:=true,how:=10 } l)))
def Vc (E:Rows) (p:Int) (l:Ln):Nat→Ln
 | 0=>l
 | n+1=>evX (evR E n) p (Vc E p l n)
theorem rA (E:Rows) (p:Int) (F:Int→Ln):∀ n,Vc E p (F p) n={ eLn E F n p with batted:=(F p).batted||CQ E p n }
 | 0=>by
  show F p={ F p with batted:=(F p).batted||false };rw [Bool.or_false]
 | n+1=>by
  show evX (evR E n) p (Vc E p (F p) n)={ evL (evR E n) p (eLn E F n p) with batted:=(F p).batted||(CQ E p n||cond ((evR E n).kind==2) (p==(evR E n).player||p==(evR E n).other) (cond ((evR E n).kind==5) (p==(evR E n).player && !(evR E n).yes) false)) };rw [rA E p F n];generalize eLn E F n p=l;generalize (F p).batted=b;generalize CQ E p n=c;have c1:((evR E n).player==p)=(p==(evR E n).player):=by rw [Bool.eq_iff_iff,beq_iff_eq,beq_iff_eq];exact eq_comm
  have c2:((evR E n).other==p)=(p==(evR E n).other):=by rw [Bool.eq_iff_iff,beq_iff_eq,beq_iff_eq];exact eq_comm
  unfold evX evL;rw [c1,c2];cases h2:(evR E n).kind==2 with
  | true =>
   rw [beq_iff_eq.1 h2];cases p==(evR E n).player<;>cases p==(evR E n).other<;>cases (evR E n).yes<;>cases b<;>cases c<;>rfl
  | false =>
   cases h5:(evR E n).kind==5 with
   | true =>
    rw [beq_iff_eq.1 h5];cases p==(evR E n).player<;>cases p==(evR E n).other<;>cases (evR E n).yes<;>cases b<;>cases c<;>rfl
   | false =>
    cases (evR E n).kind==6<;>cases p==(evR E n).player<;>cases p==(evR E n).other<;>cases (evR E n).yes<;>cases b<;>cases c<;>rfl
theorem AAV (x:List PV) (p:Int) (l:Ln) (b:Bool):Hc x p { l with batted:=b }={ Hc x p l with batted:=b }:=by
 unfold Hc;cases Cu x==p<;>cases pvI (AA x 5)==p<;>rfl
theorem ABO (e:Ev) (p:Int) (l:Ln) (b:Bool):evL e p { l with batted:=b }={ evL e p l with batted:=b }:=by
 unfold evL;cases e.kind==5&&e.yes<;>cases e.kind==6 && !e.yes<;>cases e.player==p<;>rfl
theorem xM (x:List PV) (p:Int) (l:Ln):(Hc x p l).batted=l.batted:=by
 unfold Hc;cases Cu x==p<;>cases pvI (AA x 5)==p<;>rfl
theorem kf (X:Rows) (p:Int):∀ n,(HL X p n).batted=false
 | 0=>rfl
 | n+1=>(xM _ _ _).trans (kf X p n)
theorem ck {X Y:Rows} {p:Int}:∀ n,(∀ i,i<n→AB X i=AB Y i)→HL X p n=HL Y p n
 | 0,_=>rfl
 | n+1,h=>by
  show Hc (AB X n) p _=Hc (AB Y n) p _;rw [h n (Nat.lt_succ_self n),ck n (fun i hi=>h i (Nat.lt_succ_of_lt hi))]
theorem uU (A:Rows) (y:List PV) (p:Int):HL (A++[y]) p (A++[y]).length=Hc y p (HL A p A.length):=by
 rw [List.length_append];show Hc (AB (A++[y]) A.length) p (HL (A++[y]) p A.length)=_;have e:AB (A++[y]) A.length=y:=by
  unfold AB;rw [zzk,List.getElem?_append_right (Nat.le_refl _),Nat.sub_self];rfl
 rw [e,ck (Y:=A) A.length (fun i hi=>by
  unfold AB;rw [zzk,zzk,List.getElem?_append_left hi])]
theorem nN (k:Int) (D:Rows) (B:Int→Bool) (p:Int):∀ n,n≤D.length→dLn k D (E7 B) n p={ HL (fil k (D.take n)) p (fil k (D.take n)).length with batted:=B p }
 | 0,_=>rfl
 | n+1,h=>by
  show cond (pvI (AF D n 1)==k) (Hc (AB D n) p (dLn k D (E7 B) n p)) (dLn k D (E7 B) n p)=_;rw [eT (by omega),nN k D B p n (by omega)];cases pvI (AF D n 1)==k with
  | true =>
   rw [cond_true,cond_true,uU,AAV];rfl
  | false=>rfl
theorem yc (E:Rows) {F G:Int→Ln} {B:Int→Bool} {p:Int} (h:F p={ G p with batted:=B p }):∀ n,eLn E F n p={ eLn E G n p with batted:=B p }
 | 0=>h
 | n+1=>by
  show evL (evR E n) p (eLn E F n p)=_;rw [yc E h n,ABO];rfl
theorem zT (k:Int) (D E:Rows) (p:Int):Vc E p (HL (fil k D) p (fil k D).length) E.length=eLn E (dLn k D (E7 fun p=>CQ E p E.length) D.length) E.length p:=by
 have h1:=rA E p (fun p=>HL (fil k D) p (fil k D).length) E.length;have h2:=nN k D (fun p=>CQ E p E.length) p D.length (Nat.le_refl _);rw [List.take_length] at h2;rw [yc E (G:=fun p=>HL (fil k D) p (fil k D).length) (B:=fun p=>CQ E p E.length) h2 E.length];refine h1.trans ?_;rw [kf,Bool.false_or]
def CF (B:Rows) (p:Int):Bool:=atI B (ix p) 0==2
def I3 (s:Inn) (d:Del):Int:=cond (d.how==0) 0 (cond (d.victim==1) s.striker (cond (d.victim==2) s.other 0))
def HC (e:Ev) (p:Int):Bool:=(e.kind==5&&e.yes&&e.player==p)||(e.kind==6 && !e.yes&&e.player==p)
theorem NE {B:Rows} {p v q:Int} (hs:Shp B) (hl:B.length≤1048576) (hp:inR p B.length=true) (hq:inR q B.length=true):CF (DX B p v) q=cond (q==p) (v==2) (CF B q):=by
 obtain ⟨i1,j1⟩:=Ot hp hl;obtain ⟨i2,j2⟩:=Ot hq hl;unfold CF;rw [pT hs j1]
 by_cases h:q=p
 ·subst h;rw [Nat.beq_refl,beq_self_eq_true];rfl
 ·have:Nat.beq (ix q) (ix p)=false:=II (by omega);rw [this,beq_false_of_ne h];rfl
theorem vg {r:Rul} {s:Inn} {e:Ev} (h2:(e.kind==2)=false) (h4:(e.kind==4)=false) (h5:(e.kind==5)=false) (h6:(e.kind==6)=false):(Al r s e).1.batters=s.batters:=by
 unfold Al;rw [h2,h4,h5,h6];simp only [cond_false];unfold Sm JB LP Oj JM JG F1 Jq Ld Ky
 repeat' (first | rfl | exact P_c (P:=fun x:Inn=>x.batters=s.batters) _ _ _ rfl rfl | refine P_c (P:=fun x:Inn×Int=>x.1.batters=s.batters) _ _ _ ?_ ?_)
theorem xy (r:Rul) (s:Inn) (b:Bool):(Av r s b).1.batters=s.batters:=by
 unfold Av;exact P_c (P:=fun x:Inn×Bool=>x.1.batters=s.batters) _ _ _ rfl (P_c (P:=fun x:Inn×Bool=>x.1.batters=s.batters) _ _ _ rfl rfl)
theorem yz (r:Rul) (s:Inn) (d:Del):(Ic r s d).batters=(Ag s d).batters:=by
 unfold Ic;simp only;rw [← xy r (Ag s d) (AD r d).counts];cases (Av r (Ag s d) (AD r d).counts).2<;>rfl
theorem zW (r:Rul) (t:Inn) (b:Bool):(CC r t b).batters=t.batters:=by
 unfold CC fG;cases b<;>rfl
theorem yy {s : Inn} {d : Del} (h1 : (s.striker == 0) = false) (h2 : (s.other == 0) = false) (hi : inR s.striker s.batters.length = true) (ho : inR s.other s.batters.length = true) (hv : (d.how == 0) = false → (d.victim == 1) = true ∨ (d.victim == 2) = true) :
    (Ag s d).batters=cond (d.how==0) s.batters (DX s.batters (I3 s d) 2):=by
  unfold Ag I3;rw [h1,h2,hi,ho];cases hd:d.how==0 with
  | true=>cases (!(d.runs.tmod 2==0) != d.crossed)<;>rfl
  | false =>
    rcases hv hd with h | h
    · rw [h];rfl
    · have h':(d.victim==1)=false:=by rw [beq_iff_eq.1 h];rfl
      rw [h,h'];rfl
theorem uM {r : Rul} {s : Inn} {e : Ev} (ok : InnOk r s) (hs : Shp s.batters) (hw : XK s e = false) (h : ((Al r s e).2 == 0) = true) :
    Shp (Al r s e).1.batters∧Fr (Al r s e).1.batters=Fr s.batters+Bp e∧∀ q,inR q s.batters.length=true→CF (Al r s e).1.batters q=(CF s.batters q||((e.kind==4)&&I3 s e.ball==q)||HC e q):=by
  have hsd:=rH ok;have hlen:=ok.lb;have hl:s.batters.length≤1048576:=by omega
  have b:=AAU ok;have alive:∀ p,inR p s.batters.length=true→(atI s.batters (ix p) 0=1)→CF s.batters p=false:=fun p _ h=>by unfold CF;rw [h];rfl
  have c0:(cond ((1:Int)==2) 1 0:Int)=0:=rfl;have c3:(cond ((3:Int)==2) 1 0:Int)=0:=rfl;have c2:(cond ((2:Int)==2) 1 0:Int)=1:=rfl;have qr:∀ q,inR q s.batters.length=true→1≤q:=fun q hq=>(Nm.1 hq).1
  unfold HC;cases k2:e.kind==2 with
  | true =>
    have e2:=beq_iff_eq.1 k2;have hp:Al r s e=I5 s e.player e.other:=by unfold Al;rw [e2];rfl
    rw [hp] at h ⊢;obtain ⟨i1,i2⟩:=rm h;have hb:Ce s.batters=false:=by
      cases hb:Ce s.batters with
      | false=>rfl
      | true=>unfold I5 at h;rw [hb] at h;cases h
    have hx:(I5 s e.player e.other).1.batters=DX (DX s.batters e.player 1) e.other 1:=by
      unfold I5 at h ⊢;rw [hb,i1,i2] at h ⊢;cases hd:e.player==e.other with
      | true=>rw [hd] at h;cases h
      | false=>rfl
    rw [hx];obtain ⟨_,j1⟩:=Ot i1 hl;obtain ⟨_,j2⟩:=Ot i2 hl;have zz:∀ p,inR p s.batters.length=true→atI s.batters (ix p) 0=0:=fun p hp=>by
      obtain ⟨_,j⟩:=Ot hp hl;have:=Fa.1 hb (ix p) (by omega) (by omega);rw [Bool.not_eq_false',beq_iff_eq] at this;exact this
    have o1:=Pa (v:=1) hs j1;have o2:=Pa (p:=e.other) (v:=1) (Nj (p:=e.player) (v:=1) hs) (by rw [FA];exact j2);have n2:(atI (DX s.batters e.player 1) (ix e.other) 0==2)=false:=by
      have:=NE (v:=1) hs hl i1 i2;unfold CF at this;rw [this,zz _ i2];cases e.other==e.player<;>rfl
    rw [zz _ i1] at o1;rw [n2] at o2;have d0:Bp e=0:=by unfold Bp Bj;rw [e2];rfl
    have f0:(cond ((0:Int)==2) 1 0:Int)=0:=rfl;have f1:(cond false 1 0:Int)=0:=rfl;refine ⟨Nj (Nj hs),by omega,fun q hq=>?_⟩;rw [NE (Nj hs) (by rw [FA];exact hl) (by rw [FA];exact i2) (by rw [FA];exact hq),NE hs hl i1 hq,e2];have z:CF s.batters q=false:=by
      obtain ⟨_,j⟩:=Ot hq hl;have:=Fa.1 hb (ix q) (by omega) (by omega);rw [Bool.not_eq_false',beq_iff_eq] at this;unfold CF;rw [show atI s.batters (ix q) 0=0 from this];rfl
    rw [z];cases q==e.other<;>cases q==e.player<;>rfl
  | false =>
    cases k4:e.kind==4 with
    | true =>
      have e4:=beq_iff_eq.1 k4;have hp:Al r s e=KN r s e.ball:=by unfold Al;rw [e4];rfl
      rw [hp] at h ⊢;obtain ⟨hr,hx⟩:=WY h;obtain ⟨q1,q2,q3,q4,q5,q6⟩:=HT hr;have hbeg:Ce s.batters=true:=Xp hw (by rw [e4];rfl);obtain ⟨z1,z2⟩:=X2 q1 hbeg;have hst:=ok.st;have hot:=ok.ot;have n1:=z1;have n2:=z2;rw [beq_eq_false_iff_ne] at n1 n2;have i1:inR s.striker s.batters.length=true:=Nm.2 (by omega);have i2:inR s.other s.batters.length=true:=Nm.2 (by omega);rw [hx,yz,yy z1 z2 i1 i2 (fun hd=>Qe q5 hd),e4];cases hd:e.ball.how==0 with
      | true =>
        have d0:Bp e=0:=by unfold Bp;rw [e4,hd];rfl
        refine ⟨hs,by rw [cond_true];omega,fun q hq=>?_⟩;have:(I3 s e.ball==q)=false:=by
          unfold I3;rw [hd];have:=qr q hq;exact beq_eq_false_iff_ne.2 (by show ¬ (0:Int)=q;omega)
        rw [this,cond_true];cases CF s.batters q<;>rfl
      | false =>
        have hv:=Qe q5 hd;have iv:inR (I3 s e.ball) s.batters.length=true:=by
          unfold I3;rw [hd]
          rcases hv with h | h
          · rw [h];exact i1
          · have h':(e.ball.victim==1)=false:=by rw [beq_iff_eq.1 h];rfl
            rw [h,h'];exact i2
        have d1:Bp e=1:=by unfold Bp;rw [e4,hd];rfl
        obtain ⟨ii,jv⟩:=Ot iv hl;have o1:=Pa (v:=2) hs jv;have st1:atI s.batters (ix (I3 s e.ball)) 0=1:=(b.at1 _ jv).2 (by
          have:I3 s e.ball=s.striker∨I3 s e.ball=s.other:=by
            unfold I3;rw [hd]
            rcases hv with h | h
            · rw [h];exact .inl rfl
            · have h':(e.ball.victim==1)=false:=by rw [beq_iff_eq.1 h];rfl
              rw [h,h'];exact .inr rfl
          rcases this with h | h<;>omega)
        rw [st1] at o1;refine ⟨Nj hs,by rw [cond_false];omega,fun q hq=>?_⟩;rw [cond_false,NE hs hl iv hq]
        by_cases hqv:q=I3 s e.ball
        · subst hqv;rw [beq_self_eq_true];cases CF s.batters (I3 s e.ball)<;>rfl
        · rw [beq_false_of_ne hqv,beq_false_of_ne (fun h=>hqv h.symm)];cases CF s.batters q<;>rfl
    | false =>
      cases k5:e.kind==5 with
      | true =>
        have e5:=beq_iff_eq.1 k5;have hp:Al r s e=cond e.yes (DK s e.player) (Fy s e.player):=by unfold Al;rw [e5];rfl
        rw [hp] at h ⊢;have m:(F4 s e.player==0)=true:=by
          cases hm:F4 s e.player==0 with
          | true=>rfl
          | false =>
            cases hy:e.yes with
            | true=>rw [hy] at h;unfold DK at h;rw [hm] at h;rw [show (F4 s e.player==0)=true from h] at hm;cases hm
            | false=>rw [hy] at h;unfold Fy at h;rw [hm] at h;rw [show (F4 s e.player==0)=true from h] at hm;cases hm
        obtain ⟨ip,_,n1,n2⟩:=AAG m;rw [e5];cases hy:e.yes with
        | true =>
          have hx:(DK s e.player).1.batters=DX s.batters e.player 2:=by unfold DK;rw [m];rfl
          rw [cond_true,hx];have d1:Bp e=1:=by unfold Bp Bj;rw [e5,hy];rfl
          obtain ⟨_,jv⟩:=Ot ip hl;have o1:=Pa (v:=2) hs jv;have f1:(cond false 1 0:Int)=0:=rfl;rw [beq_false_of_ne n2] at o1;refine ⟨Nj hs,by omega,fun q hq=>?_⟩;rw [NE hs hl ip hq]
          by_cases hqp:q=e.player
          · subst hqp;rw [beq_self_eq_true];cases CF s.batters e.player<;>rfl
          · rw [beq_false_of_ne hqp,beq_false_of_ne (fun h=>hqp h.symm)];cases CF s.batters q<;>rfl
        | false =>
          have hx:(Fy s e.player).1.batters=DX s.batters e.player 1:=by unfold Fy;rw [m];rfl
          rw [cond_false,hx];have d1:Bp e=0:=by unfold Bp Bj;rw [e5,hy];rfl
          obtain ⟨_,jv⟩:=Ot ip hl;have o1:=Pa (v:=1) hs jv;have f1:(cond false 1 0:Int)=0:=rfl;rw [beq_false_of_ne n2] at o1;refine ⟨Nj hs,by omega,fun q hq=>?_⟩;rw [NE hs hl ip hq]
          by_cases hqp:q=e.player
          · subst hqp;have:CF s.batters e.player=false:=beq_eq_false_iff_ne.2 n2;rw [beq_self_eq_true,this];rfl
          · rw [beq_false_of_ne hqp];cases CF s.batters q<;>rfl
      | false =>
        cases k6:e.kind==6 with
        | true =>
          have e6:=beq_iff_eq.1 k6;have hp:Al r s e=D2 s e.player e.yes:=by unfold Al;rw [e6];rfl
          rw [hp] at h ⊢;obtain ⟨ip,n1,n2,hcr,hh⟩:=kS h;have hx:(D2 s e.player e.yes).1.batters=DX s.batters e.player (cond e.yes 3 2):=by
            unfold D2;have c1:(s.striker==0)=false:=beq_false_of_ne n1;have c2:(s.other==0)=false:=beq_false_of_ne n2;have c3:(!(e.player==s.striker) && !(e.player==s.other))=false:=by
              rcases hcr with h | h<;>rw [h,beq_self_eq_true]
              · rfl
              · exact Bool.and_false _
            rw [ip,c1,c2,c3,hh];rfl
          obtain ⟨i1,j1⟩:=Ot ip hl;have st1:atI s.batters (ix e.player) 0=1:=(b.at1 _ j1).2 (by rcases hcr with h | h<;>omega);rw [hx];have o1:=Pa (v:=cond e.yes 3 2) hs j1;rw [st1] at o1;have d1:Bp e=cond ((cond e.yes 3 2:Int)==2) 1 0:=by
            unfold Bp Bj;rw [e6];cases e.yes<;>rfl
          refine ⟨Nj hs,by omega,fun q hq=>?_⟩;rw [NE hs hl ip hq]
          by_cases hqp:q=e.player
          · subst hqp;rw [beq_self_eq_true,alive _ ip st1];cases e.yes<;>rfl
          · rw [beq_false_of_ne hqp,beq_false_of_ne (fun h=>hqp h.symm)];cases CF s.batters q<;>cases e.yes<;>rfl
        | false =>
          rw [vg k2 k4 k5 k6];have d1:Bp e=0:=by
            unfold Bp Bj;rw [k4,k5,k6];rfl
          refine ⟨hs,by omega,fun q hq=>?_⟩;cases CF s.batters q<;>rfl
theorem lE {r : Rul} {s : Inn} {e : Ev} (hs : Shp s.batters) (h : ((Af r s e).2 == 0) = true) :
    Shp (Af r s e).1.batters∧Fr (Af r s e).1.batters=Fr s.batters+Bp e∧∀ q,inR q s.batters.length=true→CF (Af r s e).1.batters q=(CF s.batters q||((e.kind==4)&&I3 s e.ball==q)||HC e q):=by
  obtain ⟨hv,he,hn,hw,hp,hx⟩:=LN h;rw [hx,zW];exact uM (Fe.1 hv) hs hw hp
theorem kW {m t:Mat} (h:t.inns=m.inns):AJ t=AJ m:=by unfold AJ;rw [h]
theorem WX {xs:List Inn} (h0:1≤xs.length) (hl:xs.length≤5):lnx xs=xs.length - 1:=by
 unfold lnx;rw [A9 (by omega) (by omega)];omega
theorem pO {m:Mat} {t:Inn} (h0:1≤m.inns.length) (hl:m.inns.length≤5):AJ { m with inns:=m.inns.set (lnx m.inns) t }=t:=by
 unfold AJ;have e:=WX h0 hl;have e2:lnx (m.inns.set (lnx m.inns) t)=m.inns.length - 1:=by rw [WX (by rw [List.length_set];exact h0) (by rw [List.length_set];exact hl),List.length_set]
 show inn (m.inns.set (lnx m.inns) t) (lnx (m.inns.set (lnx m.inns) t))=t;rw [e2,e,Sz _ _ _ _ (by omega),if_pos rfl]
theorem yt (xs:List Inn) (k j:Nat) (hj:j<xs.length):(inn (xs.set k (Ky (inn xs k))) j).batters=(inn xs j).batters:=by
 rw [Sz _ _ _ _ hj]
 by_cases h:k=j
 ·rw [if_pos h,h];rfl
 ·rw [if_neg h]
theorem vF {m:Mat} {sd:Int} (h0:1≤m.inns.length) (hl:m.inns.length≤5):(AJ (EF m sd)).batters=(AJ m).batters:=by
 unfold EF
 split
 ·rename_i k hk;unfold AJ;show (inn (m.inns.set k (Ky (inn m.inns k))) (lnx (m.inns.set k (Ky (inn m.inns k))))).batters=_;have e2:lnx (m.inns.set k (Ky (inn m.inns k)))=lnx m.inns:=by rw [WX h0 hl,WX (by rw [List.length_set];exact h0) (by rw [List.length_set];exact hl),List.length_set]
  rw [e2];exact yt _ _ _ (by rw [WX h0 hl];omega)
 ·rfl
theorem zX (i:Int) (m t:Mat) (d:Del):Cu (Bh i m t d)=I3 (AJ m) d:=rfl
theorem tB {m : Mat} {e : Ev} (h : ((Bu m e).2 == 0) = true) (h2 : (e.kind == 2) = false) (h0 : 1 ≤ m.inns.length) (hl : m.inns.length ≤ 5) (hs : Shp (AJ m).batters) :
    Shp (AJ (Bu m e).1).batters∧(AJ (Bu m e).1).batters.length=(AJ m).batters.length∧Fr (AJ (Bu m e).1).batters=Fr (AJ m).batters+Bp e ∧
      ∀ q,inR q (AJ m).batters.length=true→CF (AJ (Bu m e).1).batters q=(CF (AJ m).batters q||((e.kind==4)&&I3 (AJ m) e.ball==q)||HC e q):=by
  obtain ⟨hv,he,h5,hp,hx⟩:=M9 h;have ci:=(ZO (Ec m e).1).2.1;have lc:AJ (Bu m e).1=AJ (Ec m e).1:=by rw [hx];exact kW ci
  rw [lc];have same : ∀ b : Rows, b = (AJ m).batters → (e.kind == 4) = false → (e.kind == 5) = false → (e.kind == 6) = false →
      Shp b∧b.length=(AJ m).batters.length∧Fr b=Fr (AJ m).batters+Bp e∧∀ q,inR q (AJ m).batters.length=true→CF b q=(CF (AJ m).batters q||((e.kind==4)&&I3 (AJ m) e.ball==q)||HC e q):=fun b hb k4 k5 k6=>by
    subst hb;have d0:Bp e=0:=by unfold Bp Bj;rw [k4,k5,k6];rfl
    refine ⟨hs,rfl,by omega,fun q _=>?_⟩;unfold HC;rw [k4,k5,k6];cases CF (AJ m).batters q<;>rfl
  have kk:∀ k:Int,e.kind=k→(k==4)=false→(k==5)=false→(k==6)=false→(e.kind==4)=false∧(e.kind==5)=false∧(e.kind==6)=false:=fun k hk a b c=>by rw [hk];exact ⟨a,b,c⟩
  unfold Ec at hp ⊢;cases k1:e.kind==1 with
  | true =>
    obtain ⟨a,b,c⟩:=kk 1 (beq_iff_eq.1 k1) rfl rfl rfl;rw [k1] at hp;cases s1:m.stage==1 with
    | false=>rw [s1] at hp;cases hp
    | true=>exact same _ rfl a b c
  | false =>
    rw [k1,h2] at hp;rw [h2];cases k12:e.kind==12 with
    | true =>
      obtain ⟨a,b,c⟩:=kk 12 (beq_iff_eq.1 k12) rfl rfl rfl;rw [k12] at hp;cases s4:m.stage==4 with
      | false=>rw [s4] at hp;cases hp
      | true =>
        rw [s4] at hp;cases sf:e.side==m.first with
        | false=>rw [sf] at hp;cases hp
        | true=>exact same _ rfl a b c
    | false =>
      rw [k12] at hp;cases k16:e.kind==16 with
      | true =>
        obtain ⟨a,b,c⟩:=kk 16 (beq_iff_eq.1 k16) rfl rfl rfl;refine same _ ?_ a b c;show (AJ (VD m)).batters=_;unfold VD;cases s3:m.stage==3 with
        | false=>rfl
        | true =>
          have:=pO (m:=m) (t:={ AJ m with ending:=5 }) h0 hl;show (AJ { m with inns:=m.inns.set (lnx m.inns) { AJ m with ending:=5 } }).batters=_;rw [this]
      | false =>
        rw [k16] at hp;simp only [cond_false] at hp ⊢;cases s3:m.stage==3 with
        | false=>rw [s3] at hp;exact absurd (show ((1:Int)==0)=true from hp) (by decide)
        | true =>
          rw [s3] at hp;simp only [Bool.not_true,cond_false] at hp ⊢;unfold EE at hp ⊢;have ht:=Xw hp;simp only [ht,Bool.not_true,cond_false];obtain ⟨d1,d2,d3⟩:=lE hs ht;have ln:=(Nf m.rules (AJ m) e).bt;have hb:(AJ (cond (e.kind==13 && !(e.side==(Af m.rules (AJ m) e).1.side)) (EF { m with inns:=m.inns.set (lnx m.inns) (Af m.rules (AJ m) e).1 } e.side) { m with inns:=m.inns.set (lnx m.inns) (Af m.rules (AJ m) e).1 })).batters=(Af m.rules (AJ m) e).1.batters:=by
            have e1:=pO (m:=m) (t:=(Af m.rules (AJ m) e).1) h0 hl;cases (e.kind==13 && !(e.side==(Af m.rules (AJ m) e).1.side)) with
            | false=>rw [cond_false,e1]
            | true=>rw [cond_true,vF (by show 1≤(m.inns.set _ _).length;rw [List.length_set];exact h0) (by show (m.inns.set _ _).length≤5;rw [List.length_set];exact hl),e1]
          rw [hb];exact ⟨d1,ln,d2,d3⟩
theorem yp (n:Nat):Shp (List.replicate n [PV.int 0]):=fun r hr=>by rw [List.eq_of_mem_replicate hr];simp
theorem uD (n i:Nat):atI (List.replicate n [PV.int 0]) i 0=0:=by
 unfold atI AF AB;rw [zzk,List.getElem?_replicate]
 split<;>rfl
theorem ue {m : Mat} {e : Ev} (h : ((Bu m e).2 == 0) = true) (h2 : (e.kind == 2) = true) (hl : m.inns.length ≤ 3) :
    Shp (AJ (Bu m e).1).batters∧((AJ (Bu m e).1).batters.length:Int)=m.rules.side∧Fr (AJ (Bu m e).1).batters=0∧∀ q,inR q (AJ (Bu m e).1).batters.length=true→CF (AJ (Bu m e).1).batters q=false:=by
  obtain ⟨hv,he,h5,hp,hx⟩:=M9 h;have ci:=(ZO (Ec m e).1).2.1;have lc:AJ (Bu m e).1=AJ (Ec m e).1:=by rw [hx];exact kW ci
  rw [lc];have e2:=beq_iff_eq.1 h2;unfold Ec at hp ⊢;rw [h2] at hp ⊢;have k1:(e.kind==1)=false:=by rw [e2];rfl
  rw [k1] at hp ⊢;cases s2:m.stage==2 with
  | false=>rw [s2] at hp;cases hp
  | true =>
    rw [s2] at hp;simp only [Bool.not_true,cond_false,cond_true] at hp ⊢;unfold SK at hp ⊢;obtain ⟨sd,hsd⟩:∃ sd,sd=B8 m (m.inns.length:Int):=⟨_,rfl⟩;rw [← hsd] at hp ⊢;simp only at hp ⊢;generalize hbb:B7 m.rules sd (D0 m sd) (cond (sd==2) m.pen2 m.pen1)=bb at hp ⊢;obtain ⟨hb,hp⟩:=Xk hp;have ht:=Xw hp;have bz:bb.1.batters=List.replicate m.rules.side.toNat [.int 0]:=by
      rw [← hbb] at hb ⊢;unfold B7 at hb ⊢;cases h1:BJ m.rules==0 with
      | false=>rw [h1] at hb;exact absurd (show (BJ m.rules==0)=true from hb) (by rw [h1];decide)
      | true =>
        cases h3:(!btw sd 1 2 || !btw (D0 m sd) 0 1000000 || !btw (cond (sd==2) m.pen2 m.pen1) 0 1000000) with
        | true=>rw [h1,h3] at hb;cases hb
        | false=>rfl
    have hs:Shp bb.1.batters:=by rw [bz];exact yp _
    obtain ⟨d1,d2,d3⟩:=lE hs ht;have ln:=(Nf m.rules bb.1 e).bt;have ok:=Fe.1 (LN ht).1;simp only [hb,ht,Bool.not_true,cond_false];have lt:∀ t:Inn,AJ { m with stage:=3,inns:=m.inns++[t],pen1:=cond (sd==1) 0 m.pen1,pen2:=cond (sd==2) 0 m.pen2 }=t:=fun t=>by
      unfold AJ;show inn (m.inns++[t]) (lnx (m.inns++[t]))=t;have l1:(m.inns++[t]).length=m.inns.length+1:=by simp
      rw [WX (by omega) (by omega),l1,Nat.add_sub_cancel,qv _ _ _ (by omega),if_neg (by omega)]
    rw [lt];have d0:Bp e=0:=by unfold Bp Bj;rw [e2];rfl
    refine ⟨d1,by rw [ln];exact ok.lb,?_,fun q hq=>?_⟩
    · rw [d2,d0,bz];unfold Fr;have:Bq (pIs (List.replicate m.rules.side.toNat [PV.int 0]) 2) (List.replicate m.rules.side.toNat [PV.int 0]).length=Bq (fun _=>false) (List.replicate m.rules.side.toNat [PV.int 0]).length :=
        NV _ (fun j _=>by unfold pIs;rw [uD];rfl)
      rw [this];have z:∀ n,Bq (fun _=>false) n=0:=fun n=>by
        induction n with
        | zero=>rfl
        | succ n ih=>exact ih
      rw [z];rfl
    · rw [ln] at hq;rw [d3 q hq];unfold CF HC;rw [bz,uD,e2];rfl
def Xi (X:Rows) (q:Int):Bool:=X.any fun x=>Cu x==q
def V2 (L:Rows) (k:Nat) (q:Int):Nat→Bool
 | 0=>false
 | n+1=>V2 L k q n||(Nat.beq (opn L (n+1)) (k+1)&&HC (evR L n) q)
theorem rX {r:Rul} {L:Rows} {k:Nat}:∀ n,opn L n≤k→Aw r L k n=[]
 | 0,_=>rfl
 | n+1,h=>by
  have:=Kv L n;unfold Aw;rw [II (show ¬ opn L (n+1)=k+1 by omega),Bool.and_false,cond_false];exact rX n (by omega)
theorem dJ {L:Rows} {k:Nat} {q:Int}:∀ n,opn L n≤k→V2 L k q n=false
 | 0,_=>rfl
 | n+1,h=>by
  have:=Kv L n;unfold V2;rw [II (show ¬ opn L (n+1)=k+1 by omega),dJ n (by omega)];rfl
structure DeadN (r:Rul) (L:Rows) (k n:Nat):Prop where
 shp:Shp (AJ (stM L n 0 (AK r).1)).batters
 len:((AJ (stM L n 0 (AK r).1)).batters.length:Int)=r.side
 wk:Fr (AJ (stM L n 0 (AK r).1)).batters=smi L Bp k n
 dead:∀ q,inR q (AJ (stM L n 0 (AK r).1)).batters.length=true→CF (AJ (stM L n 0 (AK r).1)).batters q=(Xi (Aw r L k n) q||V2 L k q n)
theorem vX {r:Rul} {L:Rows} (hc:Ak r L=0) (k:Nat):∀ n,n≤L.length→opn L n=k+1→DeadN r L k n
 | 0,_,h=>by cases h
 | n+1,hn,h=>by
  obtain ⟨h1,h2,h3,h4,h5⟩:=Bc hc;obtain ⟨li,so,_⟩:=Er h1 h4 n (by omega);obtain ⟨_,_,hi⟩:=Er h1 h4 L.length (Nat.le_refl _);have a0:=MV L.length 0 _ h4 n (by omega);have s0:=UQ (L:=L) n 0 (AK r).1;rw [Nat.zero_add] at a0 s0;have q:=(Tu a0).1;rw [q] at s0 a0;have sl:=so.len;have ll:=li.len;have os:opn L (n+1)=opn L n+cond ((evR L n).kind==2) 1 0:=rfl;cases k2:(evR L n).kind==2 with
  | true =>
   rw [k2,cond_true] at os;obtain ⟨d1,d2,d3,d4⟩:=ue a0 k2 (by have:=((hi n (by omega)).2.two k2).1;omega);rw [← s0,so.rules] at *
   have e2:=beq_iff_eq.1 k2;have sm:smi L Bp k (n+1)=0:=by
    rw [CP,XX n (by omega)];have:Bp (evR L n)=0:=by unfold Bp Bj;rw [e2];rfl
    rw [this];cases Nat.beq (opn L (n+1)) (k+1)<;>rfl
   refine ⟨d1,d2,by rw [d3,sm],fun q hq=>?_⟩;rw [d4 q hq];unfold Aw V2;rw [rX n (by omega),dJ n (by omega),e2];unfold HC;rw [e2];cases Nat.beq (opn L (n+1)) (k+1)<;>rfl
  | false =>
   rw [k2,cond_false,Nat.add_zero] at os;have ih:=vX hc k n (by omega) (by omega);obtain ⟨d1,d2,d3,d4⟩:=tB a0 k2 (by omega) (by omega) ih.shp;have hb:Nat.beq (opn L (n+1)) (k+1)=true:=by rw [h];exact Lc _
   rw [← s0] at d1 d2 d3 d4;refine ⟨d1,by rw [d2];exact ih.len,by rw [d3,ih.wk,CP,hb];rfl,fun q hq=>?_⟩;rw [d2] at hq;rw [d4 q hq,ih.dead q hq];have ea:V2 L k q (n+1)=(V2 L k q n||(Nat.beq (opn L (n+1)) (k+1)&&HC (evR L n) q)):=rfl;have eb:Aw r L k (n+1)=cond ((evR L n).kind==4) (Aw r L k n++[Bh (n:Int) (stM L n 0 (AK r).1) (stM L (n+1) 0 (AK r).1) (evR L n).ball]) (Aw r L k n):=by
    show cond ((evR L n).kind==4&&Nat.beq (opn L (n+1)) (k+1)) _ _=_;rw [hb,Bool.and_true]
   rw [ea,eb,hb,Bool.true_and];cases k4:(evR L n).kind==4 with
   | false =>
    rw [cond_false];rw [Bool.false_and,Bool.or_false,Bool.or_assoc]
   | true =>
    rw [cond_true];have:Xi (Aw r L k n++[Bh (n:Int) (stM L n 0 (AK r).1) (stM L (n+1) 0 (AK r).1) (evR L n).ball]) q=(Xi (Aw r L k n) q||I3 (AJ (stM L n 0 (AK r).1)) (evR L n).ball==q):=by
     unfold Xi;rw [List.any_append];show (_||(Cu (Bh _ _ _ _)==q||false))=_;rw [Bool.or_false,zX]
    rw [this];rw [Bool.true_and];generalize (I3 (AJ (stM L n 0 (AK r).1)) (evR L n).ball==q)=v;generalize HC (evR L n) q=w;cases Xi (Aw r L k n) q<;>cases V2 L k q n<;>cases v<;>cases w<;>rfl
def dV (L:Rows):Nat→Int
 | 0=>0
 | n+1=>IntKind.i64.wrap (dV L n+pvI (AF L n 1))
theorem fT {N:Nat} (hN:2097152<N) {L:Rows} (hl:L.length≤1048576):G0 N [.rows L]=some [.int (dV L L.length)]:=by
 show J7 (std (SD N) N) (xOf _)=_;simp only [J7,lq9,std,xOf,PXb];refine AZ (CA (len:=L.length) (fun i=>[.int (dV L i),.int (i:Int)]) [.int (dV L L.length)] ?_ ?_ N (by omega)) rfl
 ·intro self;simp only [PXb,A3]
 ·intro i self hi;simp only [PXb,BN (show i≤1099511627776 by omega),Ay hi,AN hi,dV]
def I9 (f:List PV→Int):Rows→Int
 | []=>0
 | x::D=>f x+I9 f D
theorem eR (f:List PV→Int):∀ A B,I9 f (A++B)=I9 f A+I9 f B
 | [],B=>by rw [List.nil_append];show _=0+I9 f B;omega
 | x::A,B=>by
  have:=eR f A B;show f x+I9 f (A++B)=f x+I9 f A+I9 f B;omega
theorem um (f:List PV→Int) {D:Rows} {i:Nat} (h:i<D.length):I9 f (D.take (i+1))=I9 f (D.take i)+f (AB D i):=by
 rw [Xn h,eR];show _+(f (AB D i)+0)=_;omega
theorem zw {D:Rows} {i:Nat} (h:i<D.length):AB D i∈D:=by
 unfold AB;rw [zzk,zzn h];exact List.getElem_mem h
structure RowG (n:Int) (x:List PV):Prop where
 over:∃ o:Nat,o≤1000∧pvI (AA x 2)=(o:Int)
 sector:∃ s:Nat,s≤8∧pvI (AA x 19)=(s:Int)
 striker:1≤pvI (AA x 5)∧pvI (AA x 5)≤n
 bat:0≤pvI (AA x 20)∧pvI (AA x 20)≤62
 tot:0≤CT (oG x)∧CT (oG x)≤62
theorem ABp {r:Rul} (rk:RulOk r) {x:List PV} (h:RowF r x):RowG r.side x:=by
 obtain ⟨d,e0,e1,e2,e3,e4,e5⟩:=h.cre;have c:=ff rk d;have t:CT (oG x)=CT (AD r d):=by
  unfold CT oG;simp only [e0,e1,e2,e3,e4]
 have h0:=c.ba;have h1:=c.wi;have h2:=c.no;have h3:=c.bb;have h4:=c.lb;have h5:=c.tot;exact ⟨h.over,h.sector,h.striker,by omega,by omega⟩
def pre (xs:List Int):Nat→Int
 | 0=>0
 | j+1=>pre xs j+xs.getD j 0
def eZ (x:List PV):Int:=pvI (AA x 20)
def AAf (x:List PV):Int:=CT (oG x)
theorem qp {r:Rul} {L:Rows} (hc:Ak r L=0) (k:Nat):∀ n,n≤L.length→I9 eZ (Aw r L k n)=smi L (fun e=>(A1 r e).batter) k n∧I9 AAf (Aw r L k n)=smi L (Rj r) k n
 | 0,_=>⟨rfl,rfl⟩
 | n+1,hn=>by
  obtain ⟨i1,i2⟩:=qp hc k n (by omega);rw [CP,CP];show I9 eZ (cond ((evR L n).kind==4&&Nat.beq (opn L (n+1)) (k+1)) _ (Aw r L k n))=_∧I9 AAf (cond ((evR L n).kind==4&&Nat.beq (opn L (n+1)) (k+1)) _ (Aw r L k n))=_;unfold Rj A1;unfold Rj A1 at i2;unfold A1 at i1;cases hk:(evR L n).kind==4 with
  | false =>
   have z:CT X7=0:=by decide
   have z1:X7.batter=0:=rfl;have cc:∀ b:Bool,cond b (0:Int) 0=0:=fun b=>by cases b<;>rfl
   simp only [Bool.false_and,cond_false,z,z1,cc,Int.add_zero];exact ⟨i1,i2⟩
  | true =>
   have bf:=N1 hc (show n<L.length by omega) hk;have rl:=bf.rules;cases Nat.beq (opn L (n+1)) (k+1) with
   | false =>
    simp only [Bool.and_false,cond_false,Int.add_zero];exact ⟨i1,i2⟩
   | true =>
    simp only [Bool.and_true,cond_true,eR];rw [i1,i2];refine ⟨?_,?_⟩
    ·show _+((AD (stM L n 0 (AK r).1).rules (evR L n).ball).batter+0)=_;rw [rl,Int.add_zero]
    ·show _+(CT (AD (stM L n 0 (AK r).1).rules (evR L n).ball)+0)=_;rw [rl,Int.add_zero]
theorem xc {r:Rul} {L:Rows} {k:Nat} (hc:Ak r L=0) (hk:k<opn L L.length):IQ r L (k:Int)=(Aw r L k L.length,0):=by
 unfold IQ;have e:(iLt (k:Int) 0||iLe (opn L L.length:Int) (k:Int))=false:=by
  simp only [Bool.or_eq_false_iff,iLt,iLe,decide_eq_false_iff_not];omega
 rw [hc,e,YF hc];rfl
def B4 (g:Int→Int):List Int→Int
 | []=>0
 | b::B=>g b+B4 g B
theorem aR:∀ B,B4 (fun _=>0) B=0
 | []=>rfl
 | b::B=>by
  have:=aR B;show 0+B4 (fun _=>0) B=0;omega
theorem eA (g h:Int→Int):∀ B,B4 (fun b=>g b+h b) B=B4 g B+B4 h B
 | []=>rfl
 | b::B=>by
  have:=eA g h B;show g b+h b+B4 (fun b=>g b+h b) B=g b+B4 g B+(h b+B4 h B);omega
theorem Lg {g h:Int→Int}:∀ {B:List Int},(∀ b,b∈B→g b=h b)→B4 g B=B4 h B
 | [],_=>rfl
 | b::B,e=>by
  have:=Lg (B:=B) (fun y hy=>e y (zzm _ hy));have h1:=e b zzl;show g b+B4 g B=h b+B4 h B;omega
theorem kb {c v:Int}:∀ {B:List Int},c∉B→B4 (fun b=>cond (c==b) v 0) B=0
 | [],_=>rfl
 | b::B,h=>by
  have ih:=kb (c:=c) (v:=v) (B:=B) (fun hm=>h (zzm _ hm));show cond (c==b) v 0+B4 (fun b=>cond (c==b) v 0) B=0;rw [ih,beq_eq_false_iff_ne.2 (fun e=>h (by rw [e];exact zzl))];rfl
theorem eN {c v:Int}:∀ {B:List Int},B.Nodup→c∈B→B4 (fun b=>cond (c==b) v 0) B=v
 | [],_,h=>absurd h List.not_mem_nil
 | b::B,hn,h=>by
  obtain ⟨n1,n2⟩:=List.nodup_cons.1 hn;show cond (c==b) v 0+B4 (fun b=>cond (c==b) v 0) B=v
  by_cases e:c=b
  ·subst e;rw [kb n1,beq_self_eq_true];show v+0=v;omega
  ·have hc:c∈B:=(List.mem_cons.1 h).resolve_left e;rw [eN n2 hc,beq_eq_false_iff_ne.2 e];show 0+v=v;omega
theorem oN {B:List Int} (hn:B.Nodup) (g f:List PV→Int):∀ (D:Rows),(∀ x,x∈D→g x∈B)→B4 (fun b=>I9 (fun x=>cond (g x==b) (f x) 0) D) B=I9 f D
 | [],_=>aR B
 | x::D,h=>by
  have ih:=oN hn g f D (fun y hy=>h y (zzm _ hy));have h1:=h x zzl;show B4 (fun b=>cond (g x==b) (f x) 0+I9 (fun x=>cond (g x==b) (f x) 0) D) B=f x+I9 f D;rw [eA,ih];refine congrArg (·+_) ?_;exact eN hn h1
theorem jM {P:Int→Bool} {o:List Int} (hn:o.Nodup):∀ n:Nat,(∀ i:Nat,i<n→((i:Int)+1)∈o)→B4 (fun p=>cond ((iLe 1 p&&iLe p (n:Int))&&P p) 1 0) o=Bq (fun i=>P ((i:Int)+1)) n
 | 0,_=>by
  rw [Lg (h:=fun _=>0) (fun b _=>by
   have:(iLe 1 b&&iLe b ((0:Nat):Int))=false:=by
    rw [Bool.eq_false_iff];intro h;simp only [iLe,zzj,decide_eq_true_eq] at h;omega
   rw [this];rfl),aR]
  rfl
 | n+1,h=>by
  have ih:=jM (P:=P) hn n (fun i hi=>h i (by omega));have one:=eN (v:=cond (P ((n:Int)+1)) 1 0) hn (h n (by omega));have key:=eA (fun p=>cond ((iLe 1 p&&iLe p (n:Int))&&P p) 1 0) (fun b=>cond (((n:Int)+1)==b) (cond (P ((n:Int)+1)) 1 0) 0) o;rw [ih,one] at key;rw [Lg (h:=fun b=>cond ((iLe 1 b&&iLe b (n:Int))&&P b) 1 0+cond (((n:Int)+1)==b) (cond (P ((n:Int)+1)) 1 0) 0) (fun b _=>?_),key]
  ·show _=cond (P ((n:Int)+1)) (Bq _ n+1) (Bq _ n);cases P ((n:Int)+1)<;>simp
  ·by_cases e:(n:Int)+1=b
   ·subst e;have h1:iLe 1 ((n:Int)+1)=true:=by simp only [iLe,decide_eq_true_eq];omega
    have h2:iLe ((n:Int)+1) (n:Int)=false:=by simp only [iLe,decide_eq_false_iff_not];omega
    have h3:iLe ((n:Int)+1) ((n+1:Nat):Int)=true:=by simp only [iLe,decide_eq_true_eq];omega
    rw [h1,h2,h3,beq_self_eq_true];cases P ((n:Int)+1)<;>rfl
   ·have h1:iLe b ((n+1:Nat):Int)=iLe b (n:Int):=by
     unfold iLe;rw [Bool.eq_iff_iff,decide_eq_true_eq,decide_eq_true_eq];omega
    rw [h1,beq_false_of_ne e];cases ((iLe 1 b&&iLe b (n:Int))&&P b)<;>rfl
theorem xN (x:List PV) (p:Int) (l:Ln):(Hc x p l).out=(l.out||Cu x==p):=by
 unfold Hc;cases Cu x==p with
 | true=>rw [cond_true,Bool.or_true];rfl
 | false =>
  rw [cond_false,Bool.or_false];cases pvI (AA x 5)==p<;>rfl
theorem yq (e:Ev) (p:Int) (l:Ln):(evX e p l).out=(l.out||HC e p):=by
 unfold evX HC;cases k2:e.kind==2 with
 | true =>
  have e2:=beq_iff_eq.1 k2;rw [e2];cases (e.player==p||e.other==p)
  ·exact (Bool.or_false _).symm
  ·exact (Bool.or_false _).symm
 | false =>
  cases k5:e.kind==5 with
  | true =>
   have e5:=beq_iff_eq.1 k5;rw [e5];cases e.player==p<;>cases e.yes<;>first | exact (Bool.or_false _).symm | exact (Bool.or_true _).symm
  | false =>
   cases e.kind==6<;>cases e.player==p<;>cases e.yes<;>first | exact (Bool.or_false _).symm | exact (Bool.or_true _).symm
theorem j0 (X:Rows) (p:Int):∀ n,n≤X.length→(HL X p n).out=Xi (X.take n) p
 | 0,_=>rfl
 | n+1,h=>by
  show (Hc (AB X n) p (HL X p n)).out=_;have ih:=j0 X p n (by omega);have e:Xi (X.take (n+1)) p=(Xi (X.take n) p||Cu (AB X n)==p):=by
   rw [Xn (by omega)];unfold Xi;rw [List.any_append];show (_||(Cu (AB X n)==p||false))=_;rw [Bool.or_false]
  rw [e,← ih,xN]
def sA (E:Rows) (q:Int):Nat→Bool
 | 0=>false
 | n+1=>sA E q n||HC (evR E n) q
theorem kZ (E:Rows) (p:Int) (l:Ln):∀ n,(Vc E p l n).out=(l.out||sA E p n)
 | 0=>(Bool.or_false _).symm
 | n+1=>by
  show (evX (evR E n) p (Vc E p l n)).out=(l.out||(sA E p n||HC (evR E n) p));rw [← Bool.or_assoc,← kZ E p l n];exact yq _ _ _
theorem pM {L:Rows} {k:Nat} {q:Int} (sg:Seg L k):∀ i,AR L k+i≤AR L (k+1)→V2 L k q (AR L k+i)=sA (CR L k) q i
 | 0,_=>dJ _ (by rw [Nat.add_zero,sg.o0];exact Nat.le_refl _)
 | i+1,h=>by
  show (V2 L k q (AR L k+i)||(Nat.beq (opn L (AR L k+i+1)) (k+1)&&HC (evR L (AR L k+i)) q))=_;rw [pM sg i (by omega),sg.mid (AR L k+i) (by omega) (by omega),Lc,Bool.true_and];have:evR (CR L k) i=evR L (AR L k+i):=gR L i (by omega);show _=(_||HC (evR (CR L k) i) q);rw [this]
theorem kh {r:Rul} {L:Rows} {k p:Nat} (h:opn L p=k+1) (hn:p=L.length∨((evR L p).kind==2)=true):∀ c,p+c≤L.length→Aw r L k (p+c)=Aw r L k p
 | 0,_=>rfl
 | c+1,hc=>by
  rw [show p+(c+1)=p+c+1 by omega];show cond ((evR L (p+c)).kind==4&&Nat.beq (opn L (p+c+1)) (k+1)) _ (Aw r L k (p+c))=_
  rcases hn with hn | hn
  ·omega
  ·have:=E6 L (show p+1≤p+c+1 by omega);rw [Pj hn] at this;rw [II (by omega),Bool.and_false,cond_false];exact kh h (.inr hn) c (by omega)
def plL (r:Rul) (L:Rows) (k:Nat) (p:Int):Ln:=Vc (CR L k) p (HL (Aw r L k L.length) p (Aw r L k L.length).length) (CR L k).length
def QB (r:Rul) (L:Rows) (k:Nat):List Int:=OY (Bo (CR L k) (CR L k).length) r.side.toNat
theorem zi {r:Rul} {L:Rows} {k:Nat} (hc:Ak r L=0) (hk:k<opn L L.length):QO r L (k:Int)=(AP (QB r L k) (plL r L k),0):=by
 unfold QO;rw [xc hc hk];show (AP (QB r L k) _,0)=_;refine congrArg (fun X=>(AP (QB r L k) X,(0:Int))) (funext fun p=>?_);have e:=zT (k:Int) (Bi r L) (CR L k) p;rw [YF hc] at e;exact e.symm
theorem ABI {r : Rul} {L : Rows} {k : Nat} (hc : Ak r L = 0) (hk : k < opn L L.length) :
    ∃ B:Rows,(B.length:Int)=r.side∧Fr B=smi L Bp k L.length∧∀ p,inR p B.length=true→(plL r L k p).out=CF B p:=by
  have l4:=(Bc hc).2.2.1;have sg:=seg (L:=L) (by omega) hk;have af:=kc (L:=L) (by omega) hk;have sl:=dp (L:=L) (by omega) hk;have d:=vX hc k (AR L (k+1)) sg.le sg.o1;have sge:=sg.le;refine ⟨_,d.len,d.wk.trans (yh (by omega) hk).symm,fun p hp=>?_⟩;rw [d.dead p hp];unfold plL;rw [kZ,j0 _ _ _ (Nat.le_refl _),List.take_length];have e1:Aw r L k L.length=Aw r L k (AR L (k+1)):=by
    have:=kh (r:=r) sg.o1 af (L.length - AR L (k+1)) (by omega);rw [show AR L (k+1)+(L.length - AR L (k+1))=L.length by omega] at this;exact this
  have e2:=pM (q:=p) sg (CR L k).length (by rw [sl];have:=sg.lt;omega);rw [sl,show AR L k+(AR L (k+1) - AR L k)=AR L (k+1) by have:=sg.lt;omega] at e2;rw [e1,e2,sl]
theorem zl {r:Rul} {L:Rows} {k:Nat} (hc:Ak r L=0) (hk:k<opn L L.length):B4 (fun p=>cond (plL r L k p).out 1 0) (QB r L k)=smi L Bp k L.length:=by
 obtain ⟨B,b1,b2,b3⟩:=ABI hc hk;have rs:=(Dm (Bc hc).2.1).side;have on:(QB r L k).Nodup:=LI (Iu (CR L k) (CR L k).length) r.side.toNat;have om:=fun p=>Wo (p:=p) hc hk (show 0≤r.side by omega)
 rw [← b2];have sc:=jM (P:=CF B) on B.length (fun i hi=>(om _).2 (by omega));unfold Fr;rw [NV (q:=fun i=>CF B ((i:Int)+1)) B.length (fun j hj=>?_),← sc]
 ·refine Lg fun p hp=>?_
  have hp:=(om p).1 hp;have hi:inR p B.length=true:=Nm.2 (by omega);have h1:iLe 1 p=true:=by simp only [iLe,decide_eq_true_eq];omega
  have h2:iLe p (B.length:Int)=true:=by simp only [iLe,decide_eq_true_eq];omega
  rw [b3 p hi,h1,h2];rfl
 ·have hi:inR ((j:Int)+1) B.length=true:=Nm.2 (by omega);obtain ⟨e,_⟩:=Ot hi (by omega);unfold pIs CF;rw [show ix ((j:Int)+1)=j by omega]
def wL (x:List PV):Prop:=((XW x&&pvI (AA x 12)==4)=true→4≤eZ x)∧((XW x&&pvI (AA x 12)==6)=true→6≤eZ x)
theorem AAz {r:Rul} {d:Del} (hl:(Dp d==0)=true) {b:Int} (h1:d.source=1) (h2:d.runs=0) (hb:d.boundary=b) (h0:0≤b∧b≤6):b≤(AD r d).batter:=by
 unfold AD;rw [hl];show b≤(KA r d).batter;unfold Dp at hl;cases k1:(iLt d.type 1||iLt 3 d.type||iLt 3 d.source||iLt 10 d.how || !btw d.sector 0 8) with
 | true=>rw [k1] at hl;cases hl
 | false =>
  cases k2:(!btw d.runs 0 7 || !btw d.short 0 d.runs||(!(d.boundary==0) && !(d.boundary==4) && !(d.boundary==6))) with
  | true=>rw [k1,k2] at hl;cases hl
  | false =>
   cases k3:Q8 d with
   | false=>rw [k1,k2,k3] at hl;cases hl
   | true =>
    rw [Bool.or_eq_false_iff,Bool.or_eq_false_iff] at k2;have s0:=k2.1.2;rw [h2] at s0;simp only [btw,iLe,Bool.not_eq_false',zzj,decide_eq_true_eq] at s0;have sh:d.short=0:=by omega
    have t2:(d.type==2)=false:=by
     cases ht:d.type==2 with
     | false=>rfl
     | true =>
      unfold Q8 at k3;rw [ht,h1] at k3;cases k3
    unfold KA;simp only [t2,h1,h2,sh,hb];rw [show IntKind.i64.wrap (0 - 0)=0 from rfl,Int.zero_add,A9 (by omega) (by omega)];exact Int.le_refl _
theorem ABk {r:Rul} {L:Rows} (hc:Ak r L=0) {a:Nat} (ha:a<L.length) (hk:((evR L a).kind==4)=true) (t:Mat):wL (Bh (a:Int) (stM L a 0 (AK r).1) t (evR L a).ball):=by
 have bf:=N1 hc ha hk;obtain ⟨q1,q2,q3,q4,q5,q6⟩:=HT bf.ref;have go:∀ b:Int,0≤b∧b≤6→(((evR L a).ball.source==1&&(evR L a).ball.runs==0)&&(evR L a).ball.boundary==b)=true→b≤(AD (stM L a 0 (AK r).1).rules (evR L a).ball).batter:=fun b hb h=>by
  simp only [zzj,beq_iff_eq] at h;exact AAz q4 h.1.1 h.1.2 h.2 hb
 exact ⟨go 4 (by omega),go 6 (by omega)⟩
theorem yZ {r:Rul} {L:Rows} (hc:Ak r L=0) (k:Nat):∀ n,n≤L.length→∀ x,x∈Aw r L k n→wL x
 | 0,_,x,hx=>absurd hx List.not_mem_nil
 | n+1,hn,x,hx=>by
  have ih:=yZ hc k n (by omega);change x∈cond ((evR L n).kind==4&&Nat.beq (opn L (n+1)) (k+1)) _ (Aw r L k n) at hx;cases hk:(evR L n).kind==4 with
  | false=>rw [hk] at hx;exact ih x hx
  | true =>
   cases hb:Nat.beq (opn L (n+1)) (k+1) with
   | false=>rw [hk,hb] at hx;exact ih x hx
   | true =>
    rw [hk,hb] at hx
    rcases List.mem_append.1 hx with hx | hx
    ·exact ih x hx
    ·rw [List.mem_singleton.1 hx];exact ABk hc (by omega) hk _
def iz (p:Int) (x:List PV):Int:=cond (pvI (AA x 5)==p) (eZ x) 0
structure LnF (p:Int) (X:Rows) (i:Nat) (l:Ln):Prop where
 runs:l.runs=I9 (iz p) (X.take i)
 rb:0≤l.runs∧l.runs≤62 * (i:Int)
 fb:0≤l.fours∧l.fours≤(i:Int)
 sb:0≤l.sixes∧l.sixes≤(i:Int)
 bnd:4 * l.fours+6 * l.sixes≤l.runs
 how:l.out = !(l.how==0)
theorem zG {x:List PV} {p:Int} (hp:1≤p) (h:(Cu x==p)=true):(pvI (AA x 14)==0)=false:=by
 cases h0:pvI (AA x 14)==0 with
 | false=>rfl
 | true =>
  unfold Cu at h;rw [h0] at h;have:(0:Int)=p:=beq_iff_eq.1 h;omega
theorem uW {n:Int} {X:Rows} (hX:X.length≤4000) (rg:∀ x,x∈X→RowG n x) (rk:∀ x,x∈X→wL x) {p:Int} (hp:1≤p):∀ i,i≤X.length→LnF p X i (HL X p i)
 | 0,_=>⟨rfl,⟨Int.le_refl _,by show (0:Int)≤_;omega⟩,⟨Int.le_refl _,by show (0:Int)≤_;omega⟩,⟨Int.le_refl _,by show (0:Int)≤_;omega⟩,Int.le_refl _,rfl⟩
 | i+1,h=>by
  have ih:=uW hX rg rk hp i (by omega);have hm:=zw (D:=X) (i:=i) (by omega);have g:=(rg _ hm).bat;obtain ⟨k4,k6⟩:=rk _ hm;have st:=um (iz p) (D:=X) (i:=i) (by omega);show LnF p X (i+1) (Hc (AB X i) p (HL X p i));generalize HL X p i=l at *
  generalize AB X i=x at *
  obtain ⟨i1,i2,i3,i4,i5,i6⟩:=ih;have hit:LnF p X (i+1) (cond (pvI (AA x 5)==p) (PW x l) l):=by
   cases hs:pvI (AA x 5)==p with
   | false =>
    have sv:iz p x=0:=by unfold iz;rw [hs];rfl
    exact ⟨by rw [st,sv,Int.add_zero];exact i1,⟨i2.1,by show l.runs≤_;omega⟩,⟨i3.1,by show l.fours≤_;omega⟩,⟨i4.1,by show l.sixes≤_;omega⟩,i5,i6⟩
   | true =>
    have sv:iz p x=pvI (AA x 20):=by unfold iz;rw [hs];rfl
    have bx:eZ x=pvI (AA x 20):=rfl;have w1:IntKind.i64.wrap (l.runs+pvI (AA x 20))=l.runs+pvI (AA x 20):=A9 (by omega) (by omega);have w2:IntKind.i64.wrap (l.fours+1)=l.fours+1:=A9 (by omega) (by omega);have w3:IntKind.i64.wrap (l.sixes+1)=l.sixes+1:=A9 (by omega) (by omega);have excl:(XW x&&pvI (AA x 12)==4)=true→(XW x&&pvI (AA x 12)==6)=false:=fun h=>by
     rw [zzj,beq_iff_eq] at h;rw [h.2];exact Bool.and_false _
    rw [cond_true];unfold PW;rw [w1,w2,w3];cases h4:(XW x&&pvI (AA x 12)==4) with
    | true =>
     have b4:=k4 h4;rw [excl h4];exact ⟨by rw [st,sv,← i1],⟨by show 0≤l.runs+pvI (AA x 20);omega,by show l.runs+pvI (AA x 20)≤_;omega⟩,⟨by show 0≤l.fours+1;omega,by show l.fours+1≤_;omega⟩,⟨i4.1,by show l.sixes≤_;omega⟩,by show 4 * (l.fours+1)+6 * l.sixes≤l.runs+pvI (AA x 20);omega,i6⟩
    | false =>
     cases h6:(XW x&&pvI (AA x 12)==6) with
     | true =>
      have b6:=k6 h6;exact ⟨by rw [st,sv,← i1],⟨by show 0≤l.runs+pvI (AA x 20);omega,by show l.runs+pvI (AA x 20)≤_;omega⟩,⟨i3.1,by show l.fours≤_;omega⟩,⟨by show 0≤l.sixes+1;omega,by show l.sixes+1≤_;omega⟩,by show 4 * l.fours+6 * (l.sixes+1)≤l.runs+pvI (AA x 20);omega,i6⟩
     | false =>
      exact ⟨by rw [st,sv,← i1],⟨by show 0≤l.runs+pvI (AA x 20);omega,by show l.runs+pvI (AA x 20)≤_;omega⟩,⟨i3.1,by show l.fours≤_;omega⟩,⟨i4.1,by show l.sixes≤_;omega⟩,by show 4 * l.fours+6 * l.sixes≤l.runs+pvI (AA x 20);omega,i6⟩
  unfold Hc;cases hv:Cu x==p with
  | false=>exact hit
  | true =>
   have:=zG hp hv;exact ⟨hit.runs,hit.rb,hit.fb,hit.sb,hit.bnd,by show true = !(pvI (AA x 14)==0);rw [this];rfl⟩
theorem ABZ {e:Ev} {p:Int} {X:Rows} {i:Nat} {l:Ln} (h:LnF p X i l):LnF p X i (evX e p l):=by
 unfold evX;exact P_c (P:=LnF p X i) _ _ _ ⟨h.runs,h.rb,h.fb,h.sb,h.bnd,h.how⟩ (P_c (P:=LnF p X i) _ _ _ ⟨h.runs,h.rb,h.fb,h.sb,h.bnd,h.how⟩ (P_c (P:=LnF p X i) _ _ _ ⟨h.runs,h.rb,h.fb,h.sb,h.bnd,rfl⟩ (P_c (P:=LnF p X i) _ _ _ ⟨h.runs,h.rb,h.fb,h.sb,h.bnd,rfl⟩ h)))
theorem rG {E:Rows} {p:Int} {X:Rows} {i:Nat} {l:Ln} (h:LnF p X i l):∀ n,LnF p X i (Vc E p l n)
 | 0=>h
 | n+1=>ABZ (rG h n)
theorem AAM {r:Rul} {L:Rows} {k:Nat} (hc:Ak r L=0) (rk:RulOk r) {p:Int} (hp:1≤p):LnF p (Aw r L k L.length) (Aw r L k L.length).length (plL r L k p):=by
 have l4:=(Bc hc).2.2.1;obtain ⟨b1,b2⟩:=ep hc k L.length (Nat.le_refl _);exact rG (uW (by omega) (fun x hx=>ABp rk (b2 x hx)) (yZ hc k L.length (Nat.le_refl _)) hp _ (Nat.le_refl _)) _
theorem y7 {r:Rul} {L:Rows} {k:Nat} (hc:Ak r L=0) (hk:k<opn L L.length):((QB r L k).length:Int)=r.side:=by
 have rs:=(Dm (Bc hc).2.1).side;have on:(QB r L k).Nodup:=LI (Iu (CR L k) (CR L k).length) r.side.toNat;have om:=fun p=>Wo (p:=p) hc hk (show 0≤r.side by omega)
 have sc:=jM (P:=fun _=>true) on r.side.toNat (fun i hi=>(om _).2 (by omega));have all:∀ B:List Int,B4 (fun _=>1) B=(B.length:Int):=fun B=>by
  induction B with
  | nil=>rfl
  | cons b B ih=>show 1+B4 (fun _=>1) B=((B.length+1:Nat):Int);omega
 have one:∀ n,Bq (fun _=>true) n=(n:Int):=fun n=>by
  induction n with
  | zero=>rfl
  | succ n ih=>show Bq (fun _=>true) n+1=_;omega
 rw [one,Lg (h:=fun _=>1) (fun p hp=>by
  have:=(om p).1 hp;have h1:iLe 1 p=true:=by simp only [iLe,decide_eq_true_eq];omega
  have h2:iLe p (r.side.toNat:Int)=true:=by simp only [iLe,decide_eq_true_eq];omega
  rw [h1,h2];rfl),all] at sc
 omega
theorem xt {r:Rul} {L:Rows} {k:Nat} (hc:Ak r L=0) (rk:RulOk r) (hk:k<opn L L.length):B4 (fun p=>(plL r L k p).runs) (QB r L k)=smi L (fun e=>(A1 r e).batter) k L.length:=by
 have rs:=rk.side;have on:(QB r L k).Nodup:=LI (Iu (CR L k) (CR L k).length) r.side.toNat;have om:=fun p=>Wo (p:=p) hc hk (show 0≤r.side by omega)
 obtain ⟨b1,b2⟩:=ep hc k L.length (Nat.le_refl _);rw [← (qp hc k L.length (Nat.le_refl _)).1,← oN on (fun x=>pvI (AA x 5)) eZ (Aw r L k L.length) (fun x hx=>(om _).2 (b2 x hx).striker)];refine Lg fun p hp=>?_
 have:=(AAM (k:=k) hc rk ((om p).1 hp).1).runs;rw [List.take_length] at this;exact this
theorem ZM (g:Int→Int) {o:List Int} {j:Nat} (h:j<o.length):B4 g (o.take (j+1))=B4 g (o.take j)+g (o.getD j 0):=by
 have app:∀ A B:List Int,B4 g (A++B)=B4 g A+B4 g B:=fun A B=>by
  induction A with
  | nil=>show B4 g B=0+_;omega
  | cons a A ih=>show g a+B4 g (A++B)=g a+B4 g A+_;omega
 rw [List.take_add_one,app,zzk,zzn h];show _+(g o[j]+0)=_;show _=_+g o[j];omega
theorem mj {g:Int→Int} {c:Int} {o:List Int} (h:∀ p,p∈o→0≤g p∧g p≤c):∀ j,j≤o.length→0≤B4 g (o.take j)∧B4 g (o.take j)≤c * (j:Int)
 | 0,_=>by show (0:Int)≤0∧(0:Int)≤c * ((0:Nat):Int);omega
 | j+1,hj=>by
  have ih:=mj h j (by omega);rw [ZM g (by omega)];have:=h (o.getD j 0) (by rw [zzk,zzn (show j<o.length by omega)];exact List.getElem_mem _);have e:c * ((j+1:Nat):Int)=c * (j:Int)+c:=by rw [show ((j+1:Nat):Int)=(j:Int)+1 by omega,Int.mul_add,Int.mul_one]
  rw [e];omega
theorem nC {o:List Int} {F:Int→Ln} (hb:∀ p,p∈o→0≤(F p).runs∧(F p).runs≤1000000) (hl:o.length≤1000):∀ j,j≤o.length→dV (AP o F) j=B4 (fun p=>(F p).runs) (o.take j)
 | 0,_=>rfl
 | j+1,h=>by
  have b:=mj (g:=fun p=>(F p).runs) hb j (by omega);have m:o.getD j 0∈o:=by rw [zzk,zzn (show j<o.length by omega)];exact List.getElem_mem _
  have b1:=hb _ m;show IntKind.i64.wrap (dV (AP o F) j+pvI (AF (AP o F) j 1))=_;have e:pvI (AF (AP o F) j 1)=(F (o.getD j 0)).runs:=by unfold AF;rw [YE (by omega)];rfl
  rw [nC hb hl j (by omega),e,ZM _ (by omega),A9 (by omega) (by omega)]
end Go.Px
end
