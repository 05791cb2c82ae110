/- Part 15. -/
import Derived.Test.YtejjoflbpnjohaaGreatDoorPart14
set_option linter.unusedVariables false
set_option linter.unusedSimpArgs false
section
namespace Go.Px
set_option maxRecDepth 100000
theorem MT {p:Int} {n:Nat}:inR p n=true↔1≤p∧p≤(n:Int):=by
 unfold inR;simp only [iLe,zzj,decide_eq_true_eq]
theorem ma {s:Inn} {p q:Int} (h:((I5 s p q).2==0)=true):inR p s.batters.length=true∧inR q s.batters.length=true:=by
 unfold I5 at h;cases hb:CE s.batters with
 | true=>rw [hb] at h;cases h
 | false =>
  cases hp:inR p s.batters.length with
  | false=>rw [hb,hp] at h;cases h
  | true =>
   cases hq:inR q s.batters.length with
   | false=>rw [hb,hp,hq] at h;cases h
   | true=>exact ⟨rfl,rfl⟩
structure EvIn (r:Rul) (e:Ev):Prop where
 op:e.kind=2→(1≤e.player∧e.player≤r.side)∧(1≤e.other∧e.other≤r.side)
 en:e.kind=5→1≤e.player∧e.player≤r.side
 re:e.kind=6→1≤e.player∧e.player≤r.side
theorem oX {r:Rul} {s:Inn} {e:Ev} (hl:(s.batters.length:Int)=r.side) (h:((Ar r s e).2==0)=true):EvIn r e:=by
 unfold Ar at h;refine ⟨fun k=>?_,fun k=>?_,fun k=>?_⟩
 ·rw [k] at h;have h:((I5 s e.player e.other).2==0)=true:=h;obtain ⟨a,b⟩:=ma h;rw [MT,hl] at a b;exact ⟨a,b⟩
 ·rw [k] at h;have h:((cond e.yes (DA s e.player) (GE s e.player)).2==0)=true:=h;have m:(FI s e.player==0)=true:=by
   cases hm:FI s e.player==0 with
   | true=>rfl
   | false =>
    cases hy:e.yes with
    | true=>rw [hy] at h;unfold DA at h;rw [hm] at h;rw [show (FI s e.player==0)=true from h] at hm;cases hm
    | false=>rw [hy] at h;unfold GE at h;rw [hm] at h;rw [show (FI s e.player==0)=true from h] at hm;cases hm
  have:=Xb m;rw [MT,hl] at this;exact this
 ·rw [k] at h;have h:((Dq s e.player e.yes).2==0)=true:=h;have:=(fx h).1;rw [MT,hl] at this;exact this
theorem nG {r:Rul} {s:Inn} {e:Ev} (h:((Aj r s e).2==0)=true):EvIn r e:=by
 obtain ⟨hv,he,hn,hw,hp,hs⟩:=MV h;exact oX (F8.1 hv).lb hp
theorem uD {r:Rul} {e:Ev} (h2:(e.kind==2)=false) (h5:(e.kind==5)=false) (h6:(e.kind==6)=false):EvIn r e where
 op k:=by rw [k] at h2;cases h2
 en k:=by rw [k] at h5;cases h5
 re k:=by rw [k] at h6;cases h6
theorem Va {m:Mat} {b:Bool} {x:Mat×Int} (h:((cond (!b) (m,1) x).2==0)=true):b=true∧(x.2==0)=true:=by
 cases b with
 | false=>cases h
 | true=>exact ⟨rfl,h⟩
theorem U4 {m:Mat} {t:Int} {x:Mat×Int} (h:((cond (!(t==0)) (m,t) x).2==0)=true):(t==0)=true:=by
 cases ht:t==0 with
 | true=>rfl
 | false =>
  rw [ht] at h;rw [show (t==0)=true from h] at ht;cases ht
theorem uG {m:Mat} {e:Ev} (h:((Dw m e).2==0)=true):EvIn m.rules e:=by
 unfold Dw at h;exact nG (U4 h)
theorem rJ {m:Mat} {e:Ev} (h:((Bn m e).2==0)=true):EvIn m.rules e:=by
 obtain ⟨hv,he,h5,ha,hs⟩:=OY h;unfold EU at ha;have go:∀ k,e.kind=k→(k==1)=false→(k==2)=false→(k==12)=false→(k==16)=false→EvIn m.rules e:=fun k hk a b c d=>by
  rw [hk,a,b,c,d] at ha;have ha:((cond (!(m.stage==3)) (m,1) (Dw m e)).2==0)=true:=ha;exact uG (Va ha).2
 cases k2:e.kind==2 with
 | true =>
  have k:=beq_iff_eq.1 k2;rw [k] at ha;have ha:((cond (!(m.stage==2)) (m,1) (TI m e)).2==0)=true:=ha;have ha:=(Va ha).2;unfold TI at ha;exact nG (U4 (Va ha).2)
 | false =>
  cases k5:e.kind==5 with
  | true=>exact go 5 (beq_iff_eq.1 k5) rfl rfl rfl rfl
  | false =>
   cases k6:e.kind==6 with
   | true=>exact go 6 (beq_iff_eq.1 k6) rfl rfl rfl rfl
   | false=>exact uD k2 k5 k6
theorem tV {r:Rul} {L:Rows} (hc:Ay r L=0) {a:Nat} (ha:a<L.length):EvIn r (evR L a):=by
 obtain ⟨h1,h2,h3,h4,h5⟩:=Cp hc;obtain ⟨li,so,_⟩:=Ip h1 h4 a (by omega);have a0:=Pa L.length 0 _ h4 a ha;rw [Nat.zero_add] at a0;have q:=(UN a0).1;rw [q] at a0;have:=rJ a0;rw [so.rules] at this;exact this
def CT (x:List PV):Int:=cond (pvI (AA x 14)==0) 0 (cond (pvI (AA x 15)==1) (pvI (AA x 5)) (cond (pvI (AA x 15)==2) (pvI (AA x 6)) 0))
def VP (x:List PV):Bool:=pvI (AA x 9)==1&&pvI (AA x 10)==0
def Ob (x:List PV) (l:Ln):Ln:={ l with runs:=IntKind.i64.wrap (l.runs+pvI (AA x 20)),balls:=cond (pvB (AA x 27)) (IntKind.i64.wrap (l.balls+1)) l.balls,fours:=cond (VP x&&pvI (AA x 12)==4) (IntKind.i64.wrap (l.fours+1)) l.fours,sixes:=cond (VP x&&pvI (AA x 12)==6) (IntKind.i64.wrap (l.sixes+1)) l.sixes }
def wu (x:List PV) (l:Ln):Ln:={ l with out:=true,how:=pvI (AA x 14),fielder:=pvI (AA x 16),bowler:=cond (pvB (AA x 28)) (pvI (AA x 4)) l.bowler }
def Gi (x:List PV) (p:Int) (l:Ln):Ln:=cond (CT x==p) (wu x (cond (pvI (AA x 5)==p) (Ob x l) l)) (cond (pvI (AA x 5)==p) (Ob x l) l)
def dLn (k:Int) (D:Rows) (F:Int→Ln):Nat→Int→Ln
 | 0,p=>F p
 | n+1,p=>cond (pvI (AB D n 1)==k) (Gi (AK D n) p (dLn k D F n p)) (dLn k D F n p)
def evL (e:Ev) (p:Int) (l:Ln):Ln:=cond (e.kind==5&&e.yes) (cond (e.player==p) { l with out:=true,how:=9 } l) (cond (e.kind==6 && !e.yes) (cond (e.player==p) { l with out:=true,how:=10 } l) l)
def eLn (E:Rows) (F:Int→Ln):Nat→Int→Ln
 | 0,p=>F p
 | n+1,p=>evL (evR E n) p (eLn E F n p)
def Oq (r:Rul) (L:Rows) (k:Int):Rows×Int:=cond ((XJ r L k).2==0)
  (AN (Mx (BZ (Bt L k.toNat) (Bt L k.toNat).length) r.side.toNat) (eLn (Bt L k.toNat) (dLn k (CL r L) (EM fun p=>B5 (Bt L k.toNat) p (Bt L k.toNat).length) (CL r L).length) (Bt L k.toNat).length),0) ([],(XJ r L k).2)
theorem XW {N:Nat} {a:Int} {b:Int} {c:Int} {d:Int} {f:Int} {x:Bool} {h:Int} {v:Int} {i:Int} {j:Int} {y:Bool} {g:Int} {p:Int} {q:Int}  : GB N [.int a,.int b,.int c,.int d,.int f,.bool x,.int h,.int v,.int i,.int j,.bool y,.int g,.int p,.int q]=some [.int (cond (h==0) 0 (cond (v==1) p (cond (v==2) q 0)))]:=by
 show F4 (std (M4 N) N) (xOf _)=_;simp only [F4,lq9,std,xOf,PXb];cases h==0<;>cases v==1<;>cases v==2<;>rfl
theorem uy {r:Rul} {L:Rows} (hc:Ay r L=0) {a:Nat} (ha:a<L.length) (hk:((evR L a).kind==4)=true) (t:Mat):CT (Dc (a:Int) (stM L a 0 (AQ r).1) t (evR L a).ball)=0∨(1≤CT (Dc (a:Int) (stM L a 0 (AQ r).1) t (evR L a).ball)∧CT (Dc (a:Int) (stM L a 0 (AQ r).1) t (evR L a).ball)≤r.side):=by
 have bf:=W8 hc ha hk;have st:=bf.ok.st;have ot:=bf.ok.ot;have e:CT (Dc (a:Int) (stM L a 0 (AQ r).1) t (evR L a).ball)=cond ((evR L a).ball.how==0) 0 (cond ((evR L a).ball.victim==1) (AJ (stM L a 0 (AQ r).1)).striker (cond ((evR L a).ball.victim==2) (AJ (stM L a 0 (AQ r).1)).other 0)):=rfl;rw [e];cases (evR L a).ball.how==0 with
 | true=>exact .inl rfl
 | false =>
  cases (evR L a).ball.victim==1 with
  | true=>show (AJ (stM L a 0 (AQ r).1)).striker=0∨(1≤(AJ (stM L a 0 (AQ r).1)).striker∧(AJ (stM L a 0 (AQ r).1)).striker≤r.side);omega
  | false =>
   cases (evR L a).ball.victim==2 with
   | true=>show (AJ (stM L a 0 (AQ r).1)).other=0∨(1≤(AJ (stM L a 0 (AQ r).1)).other∧(AJ (stM L a 0 (AQ r).1)).other≤r.side);omega
   | false=>exact .inl rfl
theorem mw {r:Rul} {L:Rows} (hc:Ay r L=0):∀ n,n≤L.length→∀ x,x∈Qe L n 0 (AQ r).1 []→RowF r x∧(CT x=0∨(1≤CT x∧CT x≤r.side))
 | 0,_,x,hx=>absurd hx List.not_mem_nil
 | n+1,hn,x,hx=>by
  have ih:=mw hc n (by omega);rw [VT,Nat.zero_add] at hx;cases hk:(evR L n).kind==4 with
  | false =>
   rw [hk,cond_false] at hx;exact ih x hx
  | true =>
   rw [hk,cond_true] at hx
   rcases List.mem_append.1 hx with hx | hx
   ·exact ih x hx
   ·rw [List.mem_singleton.1 hx];exact ⟨tR hc (show n<L.length by omega) hk _,uy hc (show n<L.length by omega) hk _⟩
theorem fk {r:Rul} {L:Rows} (hc:Ay r L=0):CL r L=Qe L L.length 0 (AQ r).1 []:=by
 obtain ⟨h1,h2,h3,h4,h5⟩:=Cp hc;unfold CL;rw [h1];obtain ⟨j,j1,j2,j3,j4⟩:=Vx L L.length 0 (AQ r).1;show Lr L L.length 0 (AQ r).1 []=_;rw [j3 []]
 rcases j4 with ⟨j5,_⟩ | ⟨j5,j6,j7⟩
 ·rw [j5]
 ·have hh:=Pa L.length 0 _ h4 j j5;rw [hh] at j6;cases j6
theorem rM {D:Rows} {j:Nat} (h:j<D.length):AK D j∈D:=by
 unfold AK;rw [zzk,zzn h];exact List.getElem_mem h
theorem pX {r:Rul} {L:Rows} (hc:Ay r L=0) {j:Nat} (hj:j<(CL r L).length):RowF r (AK (CL r L) j)∧(CT (AK (CL r L) j)=0∨(1≤CT (AK (CL r L) j)∧CT (AK (CL r L) j)≤r.side)):=by
 have:=rM hj;rw [fk hc] at this;have e:=fk hc;rw [e] at hj ⊢;exact mw hc L.length (Nat.le_refl _) _ this
theorem mN {r:Rul} {L:Rows} {k:Nat} (hc:Ay r L=0) (hk:k<opn L L.length):∀ n,n≤(Bt L k).length→∀ p,p∈BZ (Bt L k) n→1≤p∧p≤r.side
 | 0,_,p,hp=>absurd hp List.not_mem_nil
 | n+1,hn,p,hp=>by
  have l4:=(Cp hc).2.2.1;have ih:=mN hc hk n (by omega);have sl:=aA (L:=L) (by omega) hk;have sg:=seg (L:=L) (by omega) hk;have ei:evR (Bt L k) n=evR L (AH L k+n):=W9 L n (by omega);have hi:=tV hc (a:=AH L k+n) (by have:=sg.le;omega);unfold BZ at hp;rw [ei] at hp;cases h2:(evR L (AH L k+n)).kind==2 with
  | true =>
   rw [h2,cond_true] at hp;have o:=hi.op (beq_iff_eq.1 h2)
   rcases Kk.1 hp with hp | rfl
   ·rcases Kk.1 hp with hp | rfl
    ·exact ih p hp
    ·exact o.1
   ·exact o.2
  | false =>
   rw [h2,cond_false] at hp;cases h5:(evR L (AH L k+n)).kind==5 with
   | true =>
    rw [h5,cond_true] at hp
    rcases Kk.1 hp with hp | rfl
    ·exact ih p hp
    ·exact hi.en (beq_iff_eq.1 h5)
   | false =>
    rw [h5,cond_false] at hp;exact ih p hp
theorem Um {r:Rul} {L:Rows} {k:Nat} (hc:Ay r L=0) (hk:k<opn L L.length) (h0:0≤r.side) {p:Int}:p∈Mx (BZ (Bt L k) (Bt L k).length) r.side.toNat↔1≤p∧p≤r.side:=by
 rw [Zk];constructor
 ·rintro (h | h)
  ·exact mN hc hk _ (Nat.le_refl _) p h
  ·omega
 ·intro h;exact .inr (by omega)
theorem dK {o : List Int} {p : Int} (hn : o.Nodup) (h : p ∈ o) :
    (∀ (F:Int→Ln) (a:Int),(AN o F).set (Ai p o) (Ah (AK (AN o F) (Ai p o)) 1 [.int a])=AN o (Bh F p { F p with runs:=a })) ∧
    (∀ (F:Int→Ln) (a:Int),(AN o F).set (Ai p o) (Ah (AK (AN o F) (Ai p o)) 2 [.int a])=AN o (Bh F p { F p with balls:=a })) ∧
    (∀ (F:Int→Ln) (a:Int),(AN o F).set (Ai p o) (Ah (AK (AN o F) (Ai p o)) 3 [.int a])=AN o (Bh F p { F p with fours:=a })) ∧
    (∀ (F:Int→Ln) (a:Int),(AN o F).set (Ai p o) (Ah (AK (AN o F) (Ai p o)) 4 [.int a])=AN o (Bh F p { F p with sixes:=a })) ∧
    (∀ (F:Int→Ln) (a:Bool),(AN o F).set (Ai p o) (Ah (AK (AN o F) (Ai p o)) 5 [.bool a])=AN o (Bh F p { F p with out:=a })) ∧
    (∀ (F:Int→Ln) (a:Int),(AN o F).set (Ai p o) (Ah (AK (AN o F) (Ai p o)) 6 [.int a])=AN o (Bh F p { F p with how:=a })) ∧
    (∀ (F:Int→Ln) (a:Int),(AN o F).set (Ai p o) (Ah (AK (AN o F) (Ai p o)) 7 [.int a])=AN o (Bh F p { F p with bowler:=a })) ∧
    (∀ (F:Int→Ln) (a:Int),(AN o F).set (Ai p o) (Ah (AK (AN o F) (Ai p o)) 8 [.int a])=AN o (Bh F p { F p with fielder:=a })) ∧
    (∀ (F:Int→Ln),pvI (AB (AN o F) (Ai p o) 1)=(F p).runs)∧(∀ (F:Int→Ln),pvI (AB (AN o F) (Ai p o) 2)=(F p).balls) ∧
    (∀ (F:Int→Ln),pvI (AB (AN o F) (Ai p o) 3)=(F p).fours)∧(∀ (F:Int→Ln),pvI (AB (AN o F) (Ai p o) 4)=(F p).sixes):=by
  refine ⟨fun F a=>FT hn h rfl,fun F a=>FT hn h rfl,fun F a=>FT hn h rfl,fun F a=>FT hn h rfl,fun F a=>FT hn h rfl,fun F a=>FT hn h rfl,fun F a=>FT hn h rfl,fun F a=>FT hn h rfl,fun F=>?_,fun F=>?_,fun F=>?_,fun F=>?_⟩ <;>
  · unfold AB;rw [eE h];rfl
set_option maxHeartbeats 8000000 in
theorem Ua {N:Nat} {r1 r2 r3 r4 r5 r6 r7 r9 r10 r11 r12:Int} {r8:Bool} {r0:ByteArray} {r13:Rows} {L:Rows} {k:Int} (hN:2097152<N) (hs:r0.size≤1048576) (h13:r13.length≤1048576) (hL:L.length≤1000000):Cf N [.str r0,.int r1,.int r2,.int r3,.int r4,.int r5,.int r6,.int r7,.bool r8,.int r9,.int r10,.int r11,.int r12,.rows r13,.rows L,.int k]=some [.rows (Oq (⟨r0,r1,r2,r3,r4,r5,r6,r7,r8,r9,r10,r11,r12,r13⟩:Rul) L k).1,.int (Oq (⟨r0,r1,r2,r3,r4,r5,r6,r7,r8,r9,r10,r11,r12,r13⟩:Rul) L k).2]:=by
 show HK (std (BX N) N) (xOf _)=_;generalize hres:(some [.rows (Oq (⟨r0,r1,r2,r3,r4,r5,r6,r7,r8,r9,r10,r11,r12,r13⟩:Rul) L k).1,.int (Oq (⟨r0,r1,r2,r3,r4,r5,r6,r7,r8,r9,r10,r11,r12,r13⟩:Rul) L k).2]:Option (List PV))=RR;have hl:L.length≤1048576:=by omega
 simp only [HK,O7,SI,N7,Ic,SQ,Mf,lq9,std,xOf,PXb,Ti hN hs h13 hl,KM hN hl,bN hN hs h13 hl,jd,PXc];subst hres;simp only [Oq,XJ];cases hc:Ay (⟨r0,r1,r2,r3,r4,r5,r6,r7,r8,r9,r10,r11,r12,r13⟩:Rul) L==0 with
 | false=>simp only [PXb,Bool.not_false,hc]
 | true =>
  have pl:=oL (⟨r0,r1,r2,r3,r4,r5,r6,r7,r8,r9,r10,r11,r12,r13⟩:Rul) L;have c0:=beq_iff_eq.1 hc;simp only [PXb,Bool.not_true,PXp,MO];cases hb:iLt k 0||iLe (opn L L.length:Int) k with
  | true=>rfl
  | false =>
   simp only [Bool.or_eq_false_iff,iLt,iLe,decide_eq_false_iff_not] at hb;obtain ⟨K,rfl⟩:∃ K:Nat,k=(K:Int):=⟨k.toNat,by omega⟩;have hk:K<opn L L.length:=by omega
   have l4:=(Cp c0).2.2.1;have sg:=seg hl hk;have sgl:=sg.lt;have sge:=sg.le;have sl:=aA hl hk;have rk:=DQ (Cp c0).2.1;have rs:2≤r1∧r1≤11:=rk.side;have rg:iRg (AH L K:Int) (AH L (K+1):Int) (L.length:Int)=true:=by simp only [iRg,decide_eq_true_eq];omega
   have om:=fun p=>Um (p:=p) c0 hk (show 0≤r1 by omega)
   have pin:=fun j (hj:j<(CL (⟨r0,r1,r2,r3,r4,r5,r6,r7,r8,r9,r10,r11,r12,r13⟩:Rul) L).length)=>pX c0 hj
   have ein:=fun j (hj:j<(Bt L K).length)=>tV c0 (a:=AH L K+j) (by omega)
   have esub:=fun j (hj:j<(Bt L K).length)=>W9 L (a:=AH L K) (b:=AH L (K+1)) j (by omega)
   change ∀ j,j<(Bt L K).length→evR (Bt L K) j=_ at esub;have on:=H9 (GU (Bt L K) (Bt L K).length) r1.toNat;have ol:=Z3 (BZ (Bt L K) (Bt L K).length) r1.toNat;have oe:=VO (Bt L K) (Bt L K).length;simp only [PXb,AP hk,sg.x0,sg.x1,rg,Int.toNat_natCast,beq_self_eq_true];have ex:List.drop (AH L K) (List.take (AH L (K+1)) L)=Bt L K:=rfl;rw [ex];have einE:=fun j (hj:j<(Bt L K).length)=>(esub j hj)▸(ein j hj)
   clear ein esub ex rg sg;generalize hE:Bt L K=E at *
   generalize CL (⟨r0,r1,r2,r3,r4,r5,r6,r7,r8,r9,r10,r11,r12,r13⟩:Rul) L=D at *
   have e1:E.length≤4000:=by omega
   have e2:=cB (r0:=r0) (r1:=r1) (r2:=r2) (r3:=r3) (r4:=r4) (r5:=r5) (r6:=r6) (r7:=r7) (r8:=r8) (r9:=r9) (r10:=r10) (r11:=r11) (r12:=r12) (r13:=r13) hN e1 (by omega) (by omega);refine E5 e2 ?_;simp only [PXb,dy];generalize hO:Mx (BZ E E.length) r1.toNat=o at *
   refine Ac (CC (len:=D.length) (fun i=>[.int (i:Int),.rows (AN o (dLn K D (EM fun p=>B5 E p E.length) i))]) [.rows (AN o (dLn K D (EM fun p=>B5 E p E.length) D.length))] ?_ ?_ N (by omega)) ?_
   ·intro self;simp only [PXb,PXc,PXn,AG,A7]
   ·intro i self hi;have wi:IntKind.i64.wrap ((i:Int)+1)=((i+1:Nat):Int):=Bv (show i≤1099511627776 by omega);obtain ⟨rf,vf⟩:=pin i hi;have st:=rf.striker;have so:pvI (AB D i 5)∈o:=(om _).2 st;have ix:=C5 (o:=o) (F:=dLn K D (EM fun p=>B5 E p E.length) i) (p:=pvI (AB D i 5)) (by omega) hN;rw [Kg.2 so,cond_true] at ix;generalize hF:dLn (K:Int) D (EM fun p=>B5 E p E.length)=G at *
    have nx:G (i+1)=fun p=>cond (pvI (AB D i 1)==(K:Int)) (Gi (AK D i) p (G i p)) (G i p):=by rw [← hF];rfl
    simp only [PXb,Az hi,AP hi,wi];cases hk1:pvI (AB D i 1)==(K:Int) with
    | false =>
     have:G (i+1)=G i:=by rw [nx,hk1];rfl
     rw [this];rfl
    | true =>
     rw [Bool.not_true,cond_false];refine E5 ix ?_;simp only [PXb,Bk,AP (Fu so).1,Int.toNat_natCast];have cs:=dK on so;generalize hp:pvI (AB D i 5)=p at *
     generalize hx:AK D i=x at *
     have xx:∀ c,AB D i c=AA x c:=fun c=>by unfold AB;rw [hx]
     simp only [xx] at hp ⊢;have b46:(pvI (AA x 12)==4)=true→(pvI (AA x 12)==6)=false:=fun h=>by rw [beq_iff_eq.1 h];rfl
     refine E5 (v:=[.rows (AN o (Bh (G i) p { G i p with runs:=IntKind.i64.wrap ((G i p).runs+pvI (AA x 20)),balls:=cond (pvB (AA x 27)) (IntKind.i64.wrap ((G i p).balls+1)) (G i p).balls }))]) ?_ ?_
     ·cases pvB (AA x 27)<;>simp only [cond_true,cond_false,cs,Hl,OI]
     simp only [PXb];refine E5 (v:=[.rows (AN o (Bh (G i) p (Ob x (G i p))))]) ?_ ?_
     ·unfold Ob VP;cases pvI (AA x 9)==1<;>cases pvI (AA x 10)==0<;>cases h4:pvI (AA x 12)==4<;>cases h6:pvI (AA x 12)==6 <;>
       simp only [Bool.and_true,Bool.and_false,Bool.true_and,Bool.false_and,cond_true,cond_false,cs,Hl,OI]
      rw [b46 h4] at h6;cases h6
     simp only [PXb];have vr:CT x=cond (pvI (AA x 14)==0) 0 (cond (pvI (AA x 15)==1) p (cond (pvI (AA x 15)==2) (pvI (AA x 6)) 0)):=by unfold CT;rw [hp]
     refine E5 (v:=[.int (CT x)]) (by rw [vr];exact XW) ?_;simp only [PXb];have fin:∀ F:Int→Ln,(∀ q,1≤q→F q=Gi x q (G i q))→AN o F=AN o (G (i+1)):=fun F hF=>oY fun q hq=>by
      rw [nx,hF q ((om q).1 hq).1,hk1];exact rfl
     have two:∀ q,Bh (G i) p (Ob x (G i p)) q=cond (pvI (AA x 5)==q) (Ob x (G i q)) (G i q):=fun q=>by
      unfold Bh;rw [hp];cases hq:q==p with
      | true=>rw [beq_iff_eq.1 hq,beq_self_eq_true]
      | false=>rw [show (p==q)=false from beq_eq_false_iff_ne.2 (fun e=>by rw [e,beq_self_eq_true] at hq;cases hq)];rfl
     rcases vf with v0 | v1
     ·have e:iLt 0 (CT x)=false:=by rw [v0];rfl
      rw [e,cond_false,fin _ fun q hq=>by
       rw [two];unfold Gi;rw [v0,show ((0:Int)==q)=false from beq_eq_false_iff_ne.2 (by omega),cond_false]]
     ·have e:iLt 0 (CT x)=true:=by simp only [iLt,decide_eq_true_eq];omega
      have vo:CT x∈o:=(om _).2 v1;have cv:=dK on vo;have iv:=C5 (o:=o) (F:=Bh (G i) p (Ob x (G i p))) (p:=CT x) (by omega) hN;rw [Kg.2 vo,cond_true] at iv;rw [e,cond_true];refine E5 iv ?_;simp only [PXb,Bk,AP (Fu vo).1,Int.toNat_natCast,cv,Hl,OI];have last:∀ (b:Bool) (bw:Int),b=pvB (AA x 28)→bw=cond b (pvI (AA x 4)) (Bh (G i) p (Ob x (G i p)) (CT x)).bowler→AN o (Bh (Bh (G i) p (Ob x (G i p))) (CT x) { Bh (G i) p (Ob x (G i p)) (CT x) with out:=true,how:=pvI (AA x 14),fielder:=pvI (AA x 16),bowler:=bw })=AN o (G (i+1)):=fun b bw hb hw=>fin _ fun q hq=>by
       subst hb;subst hw;show Bh _ (CT x) (wu x (Bh (G i) p (Ob x (G i p)) (CT x))) q=_;unfold Gi;rw [← two q];unfold Bh;cases hq2:q==CT x with
       | true=>rw [beq_iff_eq.1 hq2,beq_self_eq_true]
       | false=>rw [show (CT x==q)=false from beq_eq_false_iff_ne.2 (fun e=>by rw [e,beq_self_eq_true] at hq2;cases hq2)];rfl
      cases hw:pvB (AA x 28) with
      | true =>
       rw [cond_true];exact congrArg (fun R=>self [Leaf.int ((i+1:Nat):Int),Leaf.rows R]) (last true _ hw.symm rfl)
      | false =>
       rw [cond_false];exact congrArg (fun R=>self [Leaf.int ((i+1:Nat):Int),Leaf.rows R]) (last false _ hw.symm rfl)
   ·simp only [PXb];generalize dLn (K:Int) D (EM fun p=>B5 E p E.length) D.length=F0 at *
    refine Ac (CC (len:=E.length) (fun i=>[.int (i:Int),.rows (AN o (eLn E F0 i))]) [.rows (AN o (eLn E F0 E.length))] ?_ ?_ N (by omega)) rfl
    ·intro self;simp only [PXb,A7]
    ·intro i self hi;have wi:IntKind.i64.wrap ((i:Int)+1)=((i+1:Nat):Int):=Bv (show i≤1099511627776 by omega);have ei:=einE i hi;have kk:(evR E i).kind=pvI (AB E i 0):=rfl;have kp:(evR E i).player=pvI (AB E i 2):=rfl;have ky:(evR E i).yes=pvB (AB E i 4):=rfl;have nx:eLn E F0 (i+1)=fun p=>evL (evR E i) p (eLn E F0 i p):=rfl
     generalize eLn E F0 i=G at *
     simp only [PXb,Az hi,AP hi,wi,← kk,← kp,← ky];rw [nx];have fin:∀ (h:Int),(∀ q,evL (evR E i) q (G q)=cond ((evR E i).player==q) { G q with out:=true,how:=h } (G q))→AN o (Bh G (evR E i).player { G (evR E i).player with out:=true,how:=h })=AN o fun p=>evL (evR E i) p (G p):=fun h hq=>by
      congr 1
      funext q
      rw [hq];unfold Bh;cases hq2:q==(evR E i).player with
      | true=>rw [beq_iff_eq.1 hq2,beq_self_eq_true]
      | false=>rw [show ((evR E i).player==q)=false from beq_eq_false_iff_ne.2 (fun e=>by rw [e,beq_self_eq_true] at hq2;cases hq2)];rfl
     cases h5:(evR E i).kind==5&&(evR E i).yes with
     | true =>
      simp only [zzj] at h5;have po:(evR E i).player∈o:=(om _).2 (ei.en (beq_iff_eq.1 h5.1));have cs:=dK on po;have ix:=C5 (o:=o) (F:=G) (p:=(evR E i).player) (by omega) hN;rw [Kg.2 po,cond_true] at ix;rw [cond_true];refine E5 ix ?_;simp only [PXb,Bk,AP (Fu po).1,Int.toNat_natCast,cs,Hl,OI];rw [← fin 9 fun q=>by unfold evL;rw [h5.1,h5.2];rfl]
     | false =>
      cases h6:(evR E i).kind==6 && !(evR E i).yes with
      | true =>
       have h6':=h6;simp only [zzj] at h6';have po:(evR E i).player∈o:=(om _).2 (ei.re (beq_iff_eq.1 h6'.1));have cs:=dK on po;have ix:=C5 (o:=o) (F:=G) (p:=(evR E i).player) (by omega) hN;rw [Kg.2 po,cond_true] at ix;rw [cond_false,cond_true];refine E5 ix ?_;simp only [PXb,Bk,AP (Fu po).1,Int.toNat_natCast,cs,Hl,OI];rw [← fin 10 fun q=>by unfold evL;rw [h5,h6];rfl]
      | false =>
       rw [cond_false,cond_false];have:(fun p=>evL (evR E i) p (G p))=G:=funext fun q=>by unfold evL;rw [h5,h6];rfl
       rw [this]
def Fw (X:Rows) (p:Int):Nat→Ln
 | 0=>ln0
 | n+1=>Gi (AK X n) p (Fw X p n)
def evX (e:Ev) (p:Int) (l:Ln):Ln:=cond (e.kind==2&&(e.player==p||e.other==p)) { l with batted:=true } (cond ((e.kind==5&&e.player==p) && !e.yes) { l with batted:=true } (cond (e.kind==5&&e.player==p) { l with out:=true,how:=9 } (cond ((e.kind==6&&e.player==p) && !e.yes) { l with out:=true,how:=10 } l)))
def TJ (E:Rows) (p:Int) (l:Ln):Nat→Ln
 | 0=>l
 | n+1=>evX (evR E n) p (TJ E p l n)
theorem mL (E:Rows) (p:Int) (F:Int→Ln):∀ n,TJ E p (F p) n={ eLn E F n p with batted:=(F p).batted||B5 E p n }
 | 0=>by
  show F p={ F p with batted:=(F p).batted||false };rw [Bool.or_false]
 | n+1=>by
  show evX (evR E n) p (TJ E p (F p) n)={ evL (evR E n) p (eLn E F n p) with batted:=(F p).batted||(B5 E p n||cond ((evR E n).kind==2) (p==(evR E n).player||p==(evR E n).other) (cond ((evR E n).kind==5) (p==(evR E n).player && !(evR E n).yes) false)) };rw [mL E p F n];generalize eLn E F n p=l;generalize (F p).batted=b;generalize B5 E p n=c;have c1:((evR E n).player==p)=(p==(evR E n).player):=by rw [Bool.eq_iff_iff,beq_iff_eq,beq_iff_eq];exact eq_comm
  have c2:((evR E n).other==p)=(p==(evR E n).other):=by rw [Bool.eq_iff_iff,beq_iff_eq,beq_iff_eq];exact eq_comm
  unfold evX evL;rw [c1,c2];cases h2:(evR E n).kind==2 with
  | true =>
   rw [beq_iff_eq.1 h2];cases p==(evR E n).player<;>cases p==(evR E n).other<;>cases (evR E n).yes<;>cases b<;>cases c<;>rfl
  | false =>
   cases h5:(evR E n).kind==5 with
   | true =>
    rw [beq_iff_eq.1 h5];cases p==(evR E n).player<;>cases p==(evR E n).other<;>cases (evR E n).yes<;>cases b<;>cases c<;>rfl
   | false =>
    cases (evR E n).kind==6<;>cases p==(evR E n).player<;>cases p==(evR E n).other<;>cases (evR E n).yes<;>cases b<;>cases c<;>rfl
theorem wT (x:List PV) (p:Int) (l:Ln) (b:Bool):Gi x p { l with batted:=b }={ Gi x p l with batted:=b }:=by
 unfold Gi;cases CT x==p<;>cases pvI (AA x 5)==p<;>rfl
theorem xH (e:Ev) (p:Int) (l:Ln) (b:Bool):evL e p { l with batted:=b }={ evL e p l with batted:=b }:=by
 unfold evL;cases e.kind==5&&e.yes<;>cases e.kind==6 && !e.yes<;>cases e.player==p<;>rfl
theorem rZ (x:List PV) (p:Int) (l:Ln):(Gi x p l).batted=l.batted:=by
 unfold Gi;cases CT x==p<;>cases pvI (AA x 5)==p<;>rfl
theorem fQ (X:Rows) (p:Int):∀ n,(Fw X p n).batted=false
 | 0=>rfl
 | n+1=>(rZ _ _ _).trans (fQ X p n)
theorem Yy {X Y:Rows} {p:Int}:∀ n,(∀ i,i<n→AK X i=AK Y i)→Fw X p n=Fw Y p n
 | 0,_=>rfl
 | n+1,h=>by
  show Gi (AK X n) p _=Gi (AK Y n) p _;rw [h n (Nat.lt_succ_self n),Yy n (fun i hi=>h i (Nat.lt_succ_of_lt hi))]
theorem qQ (A:Rows) (y:List PV) (p:Int):Fw (A++[y]) p (A++[y]).length=Gi y p (Fw A p A.length):=by
 rw [List.length_append];show Gi (AK (A++[y]) A.length) p (Fw (A++[y]) p A.length)=_;have e:AK (A++[y]) A.length=y:=by
  unfold AK;rw [zzk,List.getElem?_append_right (Nat.le_refl _),Nat.sub_self];rfl
 rw [e,Yy (Y:=A) A.length (fun i hi=>by
  unfold AK;rw [zzk,zzk,List.getElem?_append_left hi])]
theorem jm (k:Int) (D:Rows) (B:Int→Bool) (p:Int):∀ n,n≤D.length→dLn k D (EM B) n p={ Fw (fil k (D.take n)) p (fil k (D.take n)).length with batted:=B p }
 | 0,_=>rfl
 | n+1,h=>by
  show cond (pvI (AB D n 1)==k) (Gi (AK D n) p (dLn k D (EM B) n p)) (dLn k D (EM B) n p)=_;rw [sM (by omega),jm k D B p n (by omega)];cases pvI (AB D n 1)==k with
  | true =>
   rw [cond_true,cond_true,qQ,wT];rfl
  | false=>rfl
theorem tW (E:Rows) {F G:Int→Ln} {B:Int→Bool} {p:Int} (h:F p={ G p with batted:=B p }):∀ n,eLn E F n p={ eLn E G n p with batted:=B p }
 | 0=>h
 | n+1=>by
  show evL (evR E n) p (eLn E F n p)=_;rw [tW E h n,xH];rfl
theorem ud (k:Int) (D E:Rows) (p:Int):TJ E p (Fw (fil k D) p (fil k D).length) E.length=eLn E (dLn k D (EM fun p=>B5 E p E.length) D.length) E.length p:=by
 have h1:=mL E p (fun p=>Fw (fil k D) p (fil k D).length) E.length;have h2:=jm k D (fun p=>B5 E p E.length) p D.length (Nat.le_refl _);rw [List.take_length] at h2;rw [tW E (G:=fun p=>Fw (fil k D) p (fil k D).length) (B:=fun p=>B5 E p E.length) h2 E.length];refine h1.trans ?_;rw [fQ,Bool.false_or]
def Bx (B:Rows) (p:Int):Bool:=atI B (ix p) 0==2
def H5 (s:Inn) (d:Del):Int:=cond (d.how==0) 0 (cond (d.victim==1) s.striker (cond (d.victim==2) s.other 0))
def F3 (e:Ev) (p:Int):Bool:=(e.kind==5&&e.yes&&e.player==p)||(e.kind==6 && !e.yes&&e.player==p)
theorem L7 {B:Rows} {p v q:Int} (hs:Shp B) (hl:B.length≤1048576) (hp:inR p B.length=true) (hq:inR q B.length=true):Bx (DN B p v) q=cond (q==p) (v==2) (Bx B q):=by
 obtain ⟨i1,j1⟩:=NQ hp hl;obtain ⟨i2,j2⟩:=NQ hq hl;unfold Bx;rw [kD hs j1]
 by_cases h:q=p
 ·subst h;rw [Nat.beq_refl,beq_self_eq_true];rfl
 ·have:Nat.beq (ix q) (ix p)=false:=Js (by omega);rw [this,beq_false_of_ne h];rfl
theorem qo {r:Rul} {s:Inn} {e:Ev} (h2:(e.kind==2)=false) (h4:(e.kind==4)=false) (h5:(e.kind==5)=false) (h6:(e.kind==6)=false):(Ar r s e).1.batters=s.batters:=by
 unfold Ar;rw [h2,h4,h5,h6];simp only [cond_false];unfold S8 Ja MH PS JV Jm Gg KB MJ J8
 repeat' (first | rfl | exact P_c (P:=fun x:Inn=>x.batters=s.batters) _ _ _ rfl rfl | refine P_c (P:=fun x:Inn×Int=>x.1.batters=s.batters) _ _ _ ?_ ?_)
theorem rc (r:Rul) (s:Inn) (b:Bool):(Aq r s b).1.batters=s.batters:=by
 unfold Aq;exact P_c (P:=fun x:Inn×Bool=>x.1.batters=s.batters) _ _ _ rfl (P_c (P:=fun x:Inn×Bool=>x.1.batters=s.batters) _ _ _ rfl rfl)
theorem ua (r:Rul) (s:Inn) (d:Del):(Hb r s d).batters=(Ag s d).batters:=by
 unfold Hb;simp only;rw [← rc r (Ag s d) (AE r d).counts];cases (Aq r (Ag s d) (AE r d).counts).2<;>rfl
theorem vh (r:Rul) (t:Inn) (b:Bool):(Bq r t b).batters=t.batters:=by
 unfold Bq dA;cases b<;>rfl
theorem tz {s : Inn} {d : Del} (h1 : (s.striker == 0) = false) (h2 : (s.other == 0) = false) (hi : inR s.striker s.batters.length = true) (ho : inR s.other s.batters.length = true) (hv : (d.how == 0) = false → (d.victim == 1) = true ∨ (d.victim == 2) = true) :
    (Ag s d).batters=cond (d.how==0) s.batters (DN s.batters (H5 s d) 2):=by
  unfold Ag H5;rw [h1,h2,hi,ho];cases hd:d.how==0 with
  | true=>cases (!(d.runs.tmod 2==0) != d.crossed)<;>rfl
  | false =>
    rcases hv hd with h | h
    · rw [h];rfl
    · have h':(d.victim==1)=false:=by rw [beq_iff_eq.1 h];rfl
      rw [h,h'];rfl
theorem qC {r : Rul} {s : Inn} {e : Ev} (ok : InnOk r s) (hs : Shp s.batters) (hw : U5 s e = false) (h : ((Ar r s e).2 == 0) = true) :
    Shp (Ar r s e).1.batters∧FQ (Ar r s e).1.batters=FQ s.batters+Bs e∧∀ q,inR q s.batters.length=true→Bx (Ar r s e).1.batters q=(Bx s.batters q||((e.kind==4)&&H5 s e.ball==q)||F3 e q):=by
  have hsd:=mz ok;have hlen:=ok.lb;have hl:s.batters.length≤1048576:=by omega
  have b:=wh ok;have alive:∀ p,inR p s.batters.length=true→(atI s.batters (ix p) 0=1)→Bx s.batters p=false:=fun p _ h=>by unfold Bx;rw [h];rfl
  have c0:(cond ((1:Int)==2) 1 0:Int)=0:=rfl;have c3:(cond ((3:Int)==2) 1 0:Int)=0:=rfl;have c2:(cond ((2:Int)==2) 1 0:Int)=1:=rfl;have qr:∀ q,inR q s.batters.length=true→1≤q:=fun q hq=>(MT.1 hq).1
  unfold F3;cases k2:e.kind==2 with
  | true =>
    have e2:=beq_iff_eq.1 k2;have hp:Ar r s e=I5 s e.player e.other:=by unfold Ar;rw [e2];rfl
    rw [hp] at h ⊢;obtain ⟨i1,i2⟩:=ma h;have hb:CE s.batters=false:=by
      cases hb:CE s.batters with
      | false=>rfl
      | true=>unfold I5 at h;rw [hb] at h;cases h
    have hx:(I5 s e.player e.other).1.batters=DN (DN s.batters e.player 1) e.other 1:=by
      unfold I5 at h ⊢;rw [hb,i1,i2] at h ⊢;cases hd:e.player==e.other with
      | true=>rw [hd] at h;cases h
      | false=>rfl
    rw [hx];obtain ⟨_,j1⟩:=NQ i1 hl;obtain ⟨_,j2⟩:=NQ i2 hl;have zz:∀ p,inR p s.batters.length=true→atI s.batters (ix p) 0=0:=fun p hp=>by
      obtain ⟨_,j⟩:=NQ hp hl;have:=Eo.1 hb (ix p) (by omega) (by omega);rw [Bool.not_eq_false',beq_iff_eq] at this;exact this
    have o1:=Od (v:=1) hs j1;have o2:=Od (p:=e.other) (v:=1) (ME (p:=e.player) (v:=1) hs) (by rw [EP];exact j2);have n2:(atI (DN s.batters e.player 1) (ix e.other) 0==2)=false:=by
      have:=L7 (v:=1) hs hl i1 i2;unfold Bx at this;rw [this,zz _ i2];cases e.other==e.player<;>rfl
    rw [zz _ i1] at o1;rw [n2] at o2;have d0:Bs e=0:=by unfold Bs BW;rw [e2];rfl
    have f0:(cond ((0:Int)==2) 1 0:Int)=0:=rfl;have f1:(cond false 1 0:Int)=0:=rfl;refine ⟨ME (ME hs),by omega,fun q hq=>?_⟩;rw [L7 (ME hs) (by rw [EP];exact hl) (by rw [EP];exact i2) (by rw [EP];exact hq),L7 hs hl i1 hq,e2];have z:Bx s.batters q=false:=by
      obtain ⟨_,j⟩:=NQ hq hl;have:=Eo.1 hb (ix q) (by omega) (by omega);rw [Bool.not_eq_false',beq_iff_eq] at this;unfold Bx;rw [show atI s.batters (ix q) 0=0 from this];rfl
    rw [z];cases q==e.other<;>cases q==e.player<;>rfl
  | false =>
    cases k4:e.kind==4 with
    | true =>
      have e4:=beq_iff_eq.1 k4;have hp:Ar r s e=KZ r s e.ball:=by unfold Ar;rw [e4];rfl
      rw [hp] at h ⊢;obtain ⟨hr,hx⟩:=Yd h;obtain ⟨q1,q2,q3,q4,q5,q6⟩:=Pg hr;have hbeg:CE s.batters=true:=Vi hw (by rw [e4];rfl);obtain ⟨z1,z2⟩:=VY q1 hbeg;have hst:=ok.st;have hot:=ok.ot;have n1:=z1;have n2:=z2;rw [beq_eq_false_iff_ne] at n1 n2;have i1:inR s.striker s.batters.length=true:=MT.2 (by omega);have i2:inR s.other s.batters.length=true:=MT.2 (by omega);rw [hx,ua,tz z1 z2 i1 i2 (fun hd=>O4 q5 hd),e4];cases hd:e.ball.how==0 with
      | true =>
        have d0:Bs e=0:=by unfold Bs;rw [e4,hd];rfl
        refine ⟨hs,by rw [cond_true];omega,fun q hq=>?_⟩;have:(H5 s e.ball==q)=false:=by
          unfold H5;rw [hd];have:=qr q hq;exact beq_eq_false_iff_ne.2 (by show ¬ (0:Int)=q;omega)
        rw [this,cond_true];cases Bx s.batters q<;>rfl
      | false =>
        have hv:=O4 q5 hd;have iv:inR (H5 s e.ball) s.batters.length=true:=by
          unfold H5;rw [hd]
          rcases hv with h | h
          · rw [h];exact i1
          · have h':(e.ball.victim==1)=false:=by rw [beq_iff_eq.1 h];rfl
            rw [h,h'];exact i2
        have d1:Bs e=1:=by unfold Bs;rw [e4,hd];rfl
        obtain ⟨ii,jv⟩:=NQ iv hl;have o1:=Od (v:=2) hs jv;have st1:atI s.batters (ix (H5 s e.ball)) 0=1:=(b.at1 _ jv).2 (by
          have:H5 s e.ball=s.striker∨H5 s e.ball=s.other:=by
            unfold H5;rw [hd]
            rcases hv with h | h
            · rw [h];exact .inl rfl
            · have h':(e.ball.victim==1)=false:=by rw [beq_iff_eq.1 h];rfl
              rw [h,h'];exact .inr rfl
          rcases this with h | h<;>omega)
        rw [st1] at o1;refine ⟨ME hs,by rw [cond_false];omega,fun q hq=>?_⟩;rw [cond_false,L7 hs hl iv hq]
        by_cases hqv:q=H5 s e.ball
        · subst hqv;rw [beq_self_eq_true];cases Bx s.batters (H5 s e.ball)<;>rfl
        · rw [beq_false_of_ne hqv,beq_false_of_ne (fun h=>hqv h.symm)];cases Bx s.batters q<;>rfl
    | false =>
      cases k5:e.kind==5 with
      | true =>
        have e5:=beq_iff_eq.1 k5;have hp:Ar r s e=cond e.yes (DA s e.player) (GE s e.player):=by unfold Ar;rw [e5];rfl
        rw [hp] at h ⊢;have m:(FI s e.player==0)=true:=by
          cases hm:FI s e.player==0 with
          | true=>rfl
          | false =>
            cases hy:e.yes with
            | true=>rw [hy] at h;unfold DA at h;rw [hm] at h;rw [show (FI s e.player==0)=true from h] at hm;cases hm
            | false=>rw [hy] at h;unfold GE at h;rw [hm] at h;rw [show (FI s e.player==0)=true from h] at hm;cases hm
        obtain ⟨ip,_,n1,n2⟩:=wy m;rw [e5];cases hy:e.yes with
        | true =>
          have hx:(DA s e.player).1.batters=DN s.batters e.player 2:=by unfold DA;rw [m];rfl
          rw [cond_true,hx];have d1:Bs e=1:=by unfold Bs BW;rw [e5,hy];rfl
          obtain ⟨_,jv⟩:=NQ ip hl;have o1:=Od (v:=2) hs jv;have f1:(cond false 1 0:Int)=0:=rfl;rw [beq_false_of_ne n2] at o1;refine ⟨ME hs,by omega,fun q hq=>?_⟩;rw [L7 hs hl ip hq]
          by_cases hqp:q=e.player
          · subst hqp;rw [beq_self_eq_true];cases Bx s.batters e.player<;>rfl
          · rw [beq_false_of_ne hqp,beq_false_of_ne (fun h=>hqp h.symm)];cases Bx s.batters q<;>rfl
        | false =>
          have hx:(GE s e.player).1.batters=DN s.batters e.player 1:=by unfold GE;rw [m];rfl
          rw [cond_false,hx];have d1:Bs e=0:=by unfold Bs BW;rw [e5,hy];rfl
          obtain ⟨_,jv⟩:=NQ ip hl;have o1:=Od (v:=1) hs jv;have f1:(cond false 1 0:Int)=0:=rfl;rw [beq_false_of_ne n2] at o1;refine ⟨ME hs,by omega,fun q hq=>?_⟩;rw [L7 hs hl ip hq]
          by_cases hqp:q=e.player
          · subst hqp;have:Bx s.batters e.player=false:=beq_eq_false_iff_ne.2 n2;rw [beq_self_eq_true,this];rfl
          · rw [beq_false_of_ne hqp];cases Bx s.batters q<;>rfl
      | false =>
        cases k6:e.kind==6 with
        | true =>
          have e6:=beq_iff_eq.1 k6;have hp:Ar r s e=Dq s e.player e.yes:=by unfold Ar;rw [e6];rfl
          rw [hp] at h ⊢;obtain ⟨ip,n1,n2,hcr,hh⟩:=fx h;have hx:(Dq s e.player e.yes).1.batters=DN s.batters e.player (cond e.yes 3 2):=by
            unfold Dq;have c1:(s.striker==0)=false:=beq_false_of_ne n1;have c2:(s.other==0)=false:=beq_false_of_ne n2;have c3:(!(e.player==s.striker) && !(e.player==s.other))=false:=by
              rcases hcr with h | h<;>rw [h,beq_self_eq_true]
              · rfl
              · exact Bool.and_false _
            rw [ip,c1,c2,c3,hh];rfl
          obtain ⟨i1,j1⟩:=NQ ip hl;have st1:atI s.batters (ix e.player) 0=1:=(b.at1 _ j1).2 (by rcases hcr with h | h<;>omega);rw [hx];have o1:=Od (v:=cond e.yes 3 2) hs j1;rw [st1] at o1;have d1:Bs e=cond ((cond e.yes 3 2:Int)==2) 1 0:=by
            unfold Bs BW;rw [e6];cases e.yes<;>rfl
          refine ⟨ME hs,by omega,fun q hq=>?_⟩;rw [L7 hs hl ip hq]
          by_cases hqp:q=e.player
          · subst hqp;rw [beq_self_eq_true,alive _ ip st1];cases e.yes<;>rfl
          · rw [beq_false_of_ne hqp,beq_false_of_ne (fun h=>hqp h.symm)];cases Bx s.batters q<;>cases e.yes<;>rfl
        | false =>
          rw [qo k2 k4 k5 k6];have d1:Bs e=0:=by
            unfold Bs BW;rw [k4,k5,k6];rfl
          refine ⟨hs,by omega,fun q hq=>?_⟩;cases Bx s.batters q<;>rfl
theorem f9 {r : Rul} {s : Inn} {e : Ev} (hs : Shp s.batters) (h : ((Aj r s e).2 == 0) = true) :
    Shp (Aj r s e).1.batters∧FQ (Aj r s e).1.batters=FQ s.batters+Bs e∧∀ q,inR q s.batters.length=true→Bx (Aj r s e).1.batters q=(Bx s.batters q||((e.kind==4)&&H5 s e.ball==q)||F3 e q):=by
  obtain ⟨hv,he,hn,hw,hp,hx⟩:=MV h;rw [hx,vh];exact qC (F8.1 hv) hs hw hp
theorem fG {m t:Mat} (h:t.inns=m.inns):AJ t=AJ m:=by unfold AJ;rw [h]
theorem T8 {xs:List Inn} (h0:1≤xs.length) (hl:xs.length≤5):lnx xs=xs.length - 1:=by
 unfold lnx;rw [BQ (by omega) (by omega)];omega
theorem ja {m:Mat} {t:Inn} (h0:1≤m.inns.length) (hl:m.inns.length≤5):AJ { m with inns:=m.inns.set (lnx m.inns) t }=t:=by
 unfold AJ;have e:=T8 h0 hl;have e2:lnx (m.inns.set (lnx m.inns) t)=m.inns.length - 1:=by rw [T8 (by rw [List.length_set];exact h0) (by rw [List.length_set];exact hl),List.length_set]
 show inn (m.inns.set (lnx m.inns) t) (lnx (m.inns.set (lnx m.inns) t))=t;rw [e2,e,Q4 _ _ _ _ (by omega),if_pos rfl]
theorem vJ (xs:List Inn) (k j:Nat) (hj:j<xs.length):(inn (xs.set k (J8 (inn xs k))) j).batters=(inn xs j).batters:=by
 rw [Q4 _ _ _ _ hj]
 by_cases h:k=j
 ·rw [if_pos h,h];rfl
 ·rw [if_neg h]
theorem pu {m:Mat} {sd:Int} (h0:1≤m.inns.length) (hl:m.inns.length≤5):(AJ (FP m sd)).batters=(AJ m).batters:=by
 unfold FP
 split
 ·rename_i k hk;unfold AJ;show (inn (m.inns.set k (J8 (inn m.inns k))) (lnx (m.inns.set k (J8 (inn m.inns k))))).batters=_;have e2:lnx (m.inns.set k (J8 (inn m.inns k)))=lnx m.inns:=by rw [T8 h0 hl,T8 (by rw [List.length_set];exact h0) (by rw [List.length_set];exact hl),List.length_set]
  rw [e2];exact vJ _ _ _ (by rw [T8 h0 hl];omega)
 ·rfl
theorem vW (i:Int) (m t:Mat) (d:Del):CT (Dc i m t d)=H5 (AJ m) d:=rfl
theorem oy {m : Mat} {e : Ev} (h : ((Bn m e).2 == 0) = true) (h2 : (e.kind == 2) = false) (h0 : 1 ≤ m.inns.length) (hl : m.inns.length ≤ 5) (hs : Shp (AJ m).batters) :
    Shp (AJ (Bn m e).1).batters∧(AJ (Bn m e).1).batters.length=(AJ m).batters.length∧FQ (AJ (Bn m e).1).batters=FQ (AJ m).batters+Bs e ∧
      ∀ q,inR q (AJ m).batters.length=true→Bx (AJ (Bn m e).1).batters q=(Bx (AJ m).batters q||((e.kind==4)&&H5 (AJ m) e.ball==q)||F3 e q):=by
  obtain ⟨hv,he,h5,hp,hx⟩:=OY h;have ci:=(X2 (EU m e).1).2.1;have lc:AJ (Bn m e).1=AJ (EU m e).1:=by rw [hx];exact fG ci
  rw [lc];have same : ∀ b : Rows, b = (AJ m).batters → (e.kind == 4) = false → (e.kind == 5) = false → (e.kind == 6) = false →
      Shp b∧b.length=(AJ m).batters.length∧FQ b=FQ (AJ m).batters+Bs e∧∀ q,inR q (AJ m).batters.length=true→Bx b q=(Bx (AJ m).batters q||((e.kind==4)&&H5 (AJ m) e.ball==q)||F3 e q):=fun b hb k4 k5 k6=>by
    subst hb;have d0:Bs e=0:=by unfold Bs BW;rw [k4,k5,k6];rfl
    refine ⟨hs,rfl,by omega,fun q _=>?_⟩;unfold F3;rw [k4,k5,k6];cases Bx (AJ m).batters q<;>rfl
  have kk:∀ k:Int,e.kind=k→(k==4)=false→(k==5)=false→(k==6)=false→(e.kind==4)=false∧(e.kind==5)=false∧(e.kind==6)=false:=fun k hk a b c=>by rw [hk];exact ⟨a,b,c⟩
  unfold EU at hp ⊢;cases k1:e.kind==1 with
  | true =>
    obtain ⟨a,b,c⟩:=kk 1 (beq_iff_eq.1 k1) rfl rfl rfl;rw [k1] at hp;cases s1:m.stage==1 with
    | false=>rw [s1] at hp;cases hp
    | true=>exact same _ rfl a b c
  | false =>
    rw [k1,h2] at hp;rw [h2];cases k12:e.kind==12 with
    | true =>
      obtain ⟨a,b,c⟩:=kk 12 (beq_iff_eq.1 k12) rfl rfl rfl;rw [k12] at hp;cases s4:m.stage==4 with
      | false=>rw [s4] at hp;cases hp
      | true =>
        rw [s4] at hp;cases sf:e.side==m.first with
        | false=>rw [sf] at hp;cases hp
        | true=>exact same _ rfl a b c
    | false =>
      rw [k12] at hp;cases k16:e.kind==16 with
      | true =>
        obtain ⟨a,b,c⟩:=kk 16 (beq_iff_eq.1 k16) rfl rfl rfl;refine same _ ?_ a b c;show (AJ (Vn m)).batters=_;unfold Vn;cases s3:m.stage==3 with
        | false=>rfl
        | true =>
          have:=ja (m:=m) (t:={ AJ m with ending:=5 }) h0 hl;show (AJ { m with inns:=m.inns.set (lnx m.inns) { AJ m with ending:=5 } }).batters=_;rw [this]
      | false =>
        rw [k16] at hp;simp only [cond_false] at hp ⊢;cases s3:m.stage==3 with
        | false=>rw [s3] at hp;exact absurd (show ((1:Int)==0)=true from hp) (by decide)
        | true =>
          rw [s3] at hp;simp only [Bool.not_true,cond_false] at hp ⊢;unfold Dw at hp ⊢;have ht:=U4 hp;simp only [ht,Bool.not_true,cond_false];obtain ⟨d1,d2,d3⟩:=f9 hs ht;have ln:=(MR m.rules (AJ m) e).bt;have hb:(AJ (cond (e.kind==13 && !(e.side==(Aj m.rules (AJ m) e).1.side)) (FP { m with inns:=m.inns.set (lnx m.inns) (Aj m.rules (AJ m) e).1 } e.side) { m with inns:=m.inns.set (lnx m.inns) (Aj m.rules (AJ m) e).1 })).batters=(Aj m.rules (AJ m) e).1.batters:=by
            have e1:=ja (m:=m) (t:=(Aj m.rules (AJ m) e).1) h0 hl;cases (e.kind==13 && !(e.side==(Aj m.rules (AJ m) e).1.side)) with
            | false=>rw [cond_false,e1]
            | true=>rw [cond_true,pu (by show 1≤(m.inns.set _ _).length;rw [List.length_set];exact h0) (by show (m.inns.set _ _).length≤5;rw [List.length_set];exact hl),e1]
          rw [hb];exact ⟨d1,ln,d2,d3⟩
theorem uN (n:Nat):Shp (List.replicate n [PV.int 0]):=fun r hr=>by rw [List.eq_of_mem_replicate hr];simp
theorem pO (n i:Nat):atI (List.replicate n [PV.int 0]) i 0=0:=by
 unfold atI AB AK;rw [zzk,List.getElem?_replicate]
 split<;>rfl
theorem qm {m : Mat} {e : Ev} (h : ((Bn m e).2 == 0) = true) (h2 : (e.kind == 2) = true) (hl : m.inns.length ≤ 3) :
    Shp (AJ (Bn m e).1).batters∧((AJ (Bn m e).1).batters.length:Int)=m.rules.side∧FQ (AJ (Bn m e).1).batters=0∧∀ q,inR q (AJ (Bn m e).1).batters.length=true→Bx (AJ (Bn m e).1).batters q=false:=by
  obtain ⟨hv,he,h5,hp,hx⟩:=OY h;have ci:=(X2 (EU m e).1).2.1;have lc:AJ (Bn m e).1=AJ (EU m e).1:=by rw [hx];exact fG ci
  rw [lc];have e2:=beq_iff_eq.1 h2;unfold EU at hp ⊢;rw [h2] at hp ⊢;have k1:(e.kind==1)=false:=by rw [e2];rfl
  rw [k1] at hp ⊢;cases s2:m.stage==2 with
  | false=>rw [s2] at hp;cases hp
  | true =>
    rw [s2] at hp;simp only [Bool.not_true,cond_false,cond_true] at hp ⊢;unfold TI at hp ⊢;obtain ⟨sd,hsd⟩:∃ sd,sd=DF m (m.inns.length:Int):=⟨_,rfl⟩;rw [← hsd] at hp ⊢;simp only at hp ⊢;generalize hbb:Ce m.rules sd (E0 m sd) (cond (sd==2) m.pen2 m.pen1)=bb at hp ⊢;obtain ⟨hb,hp⟩:=Va hp;have ht:=U4 hp;have bz:bb.1.batters=List.replicate m.rules.side.toNat [.int 0]:=by
      rw [← hbb] at hb ⊢;unfold Ce at hb ⊢;cases h1:BL m.rules==0 with
      | false=>rw [h1] at hb;exact absurd (show (BL m.rules==0)=true from hb) (by rw [h1];decide)
      | true =>
        cases h3:(!btw sd 1 2 || !btw (E0 m sd) 0 1000000 || !btw (cond (sd==2) m.pen2 m.pen1) 0 1000000) with
        | true=>rw [h1,h3] at hb;cases hb
        | false=>rfl
    have hs:Shp bb.1.batters:=by rw [bz];exact uN _
    obtain ⟨d1,d2,d3⟩:=f9 hs ht;have ln:=(MR m.rules bb.1 e).bt;have ok:=F8.1 (MV ht).1;simp only [hb,ht,Bool.not_true,cond_false];have lt:∀ t:Inn,AJ { m with stage:=3,inns:=m.inns++[t],pen1:=cond (sd==1) 0 m.pen1,pen2:=cond (sd==2) 0 m.pen2 }=t:=fun t=>by
      unfold AJ;show inn (m.inns++[t]) (lnx (m.inns++[t]))=t;have l1:(m.inns++[t]).length=m.inns.length+1:=by simp
      rw [T8 (by omega) (by omega),l1,Nat.add_sub_cancel,my _ _ _ (by omega),if_neg (by omega)]
    rw [lt];have d0:Bs e=0:=by unfold Bs BW;rw [e2];rfl
    refine ⟨d1,by rw [ln];exact ok.lb,?_,fun q hq=>?_⟩
    · rw [d2,d0,bz];unfold FQ;have:Ba (pIs (List.replicate m.rules.side.toNat [PV.int 0]) 2) (List.replicate m.rules.side.toNat [PV.int 0]).length=Ba (fun _=>false) (List.replicate m.rules.side.toNat [PV.int 0]).length :=
        MY _ (fun j _=>by unfold pIs;rw [pO];rfl)
      rw [this];have z:∀ n,Ba (fun _=>false) n=0:=fun n=>by
        induction n with
        | zero=>rfl
        | succ n ih=>exact ih
      rw [z];rfl
    · rw [ln] at hq;rw [d3 q hq];unfold Bx F3;rw [bz,pO,e2];rfl
def V0 (X:Rows) (q:Int):Bool:=X.any fun x=>CT x==q
def Tn (L:Rows) (k:Nat) (q:Int):Nat→Bool
 | 0=>false
 | n+1=>Tn L k q n||(Nat.beq (opn L (n+1)) (k+1)&&F3 (evR L n) q)
theorem md {r:Rul} {L:Rows} {k:Nat}:∀ n,opn L n≤k→B6 r L k n=[]
 | 0,_=>rfl
 | n+1,h=>by
  have:=Lx L n;unfold B6;rw [Js (show ¬ opn L (n+1)=k+1 by omega),Bool.and_false,cond_false];exact md n (by omega)
theorem Zv {L:Rows} {k:Nat} {q:Int}:∀ n,opn L n≤k→Tn L k q n=false
 | 0,_=>rfl
 | n+1,h=>by
  have:=Lx L n;unfold Tn;rw [Js (show ¬ opn L (n+1)=k+1 by omega),Zv n (by omega)];rfl
structure DeadN (r:Rul) (L:Rows) (k n:Nat):Prop where
 shp:Shp (AJ (stM L n 0 (AQ r).1)).batters
 len:((AJ (stM L n 0 (AQ r).1)).batters.length:Int)=r.side
 wk:FQ (AJ (stM L n 0 (AQ r).1)).batters=smi L Bs k n
 dead:∀ q,inR q (AJ (stM L n 0 (AQ r).1)).batters.length=true→Bx (AJ (stM L n 0 (AQ r).1)).batters q=(V0 (B6 r L k n) q||Tn L k q n)
theorem pj {r:Rul} {L:Rows} (hc:Ay r L=0) (k:Nat):∀ n,n≤L.length→opn L n=k+1→DeadN r L k n
 | 0,_,h=>by cases h
 | n+1,hn,h=>by
  obtain ⟨h1,h2,h3,h4,h5⟩:=Cp hc;obtain ⟨li,so,_⟩:=Ip h1 h4 n (by omega);obtain ⟨_,_,hi⟩:=Ip h1 h4 L.length (Nat.le_refl _);have a0:=Pa L.length 0 _ h4 n (by omega);have s0:=VE (L:=L) n 0 (AQ r).1;rw [Nat.zero_add] at a0 s0;have q:=(UN a0).1;rw [q] at s0 a0;have sl:=so.len;have ll:=li.len;have os:opn L (n+1)=opn L n+cond ((evR L n).kind==2) 1 0:=rfl;cases k2:(evR L n).kind==2 with
  | true =>
   rw [k2,cond_true] at os;obtain ⟨d1,d2,d3,d4⟩:=qm a0 k2 (by have:=((hi n (by omega)).2.two k2).1;omega);rw [← s0,so.rules] at *
   have e2:=beq_iff_eq.1 k2;have sm:smi L Bs k (n+1)=0:=by
    rw [Hq,RN n (by omega)];have:Bs (evR L n)=0:=by unfold Bs BW;rw [e2];rfl
    rw [this];cases Nat.beq (opn L (n+1)) (k+1)<;>rfl
   refine ⟨d1,d2,by rw [d3,sm],fun q hq=>?_⟩;rw [d4 q hq];unfold B6 Tn;rw [md n (by omega),Zv n (by omega),e2];unfold F3;rw [e2];cases Nat.beq (opn L (n+1)) (k+1)<;>rfl
  | false =>
   rw [k2,cond_false,Nat.add_zero] at os;have ih:=pj hc k n (by omega) (by omega);obtain ⟨d1,d2,d3,d4⟩:=oy a0 k2 (by omega) (by omega) ih.shp;have hb:Nat.beq (opn L (n+1)) (k+1)=true:=by rw [h];exact KR _
   rw [← s0] at d1 d2 d3 d4;refine ⟨d1,by rw [d2];exact ih.len,by rw [d3,ih.wk,Hq,hb];rfl,fun q hq=>?_⟩;rw [d2] at hq;rw [d4 q hq,ih.dead q hq];have ea:Tn L k q (n+1)=(Tn L k q n||(Nat.beq (opn L (n+1)) (k+1)&&F3 (evR L n) q)):=rfl;have eb:B6 r L k (n+1)=cond ((evR L n).kind==4) (B6 r L k n++[Dc (n:Int) (stM L n 0 (AQ r).1) (stM L (n+1) 0 (AQ r).1) (evR L n).ball]) (B6 r L k n):=by
    show cond ((evR L n).kind==4&&Nat.beq (opn L (n+1)) (k+1)) _ _=_;rw [hb,Bool.and_true]
   rw [ea,eb,hb,Bool.true_and];cases k4:(evR L n).kind==4 with
   | false =>
    rw [cond_false];rw [Bool.false_and,Bool.or_false,Bool.or_assoc]
   | true =>
    rw [cond_true];have:V0 (B6 r L k n++[Dc (n:Int) (stM L n 0 (AQ r).1) (stM L (n+1) 0 (AQ r).1) (evR L n).ball]) q=(V0 (B6 r L k n) q||H5 (AJ (stM L n 0 (AQ r).1)) (evR L n).ball==q):=by
     unfold V0;rw [List.any_append];show (_||(CT (Dc _ _ _ _)==q||false))=_;rw [Bool.or_false,vW]
    rw [this];rw [Bool.true_and];generalize (H5 (AJ (stM L n 0 (AQ r).1)) (evR L n).ball==q)=v;generalize F3 (evR L n) q=w;cases V0 (B6 r L k n) q<;>cases Tn L k q n<;>cases v<;>cases w<;>rfl
def Z0 (L:Rows):Nat→Int
 | 0=>0
 | n+1=>IntKind.i64.wrap (Z0 L n+pvI (AB L n 1))
theorem bH {N:Nat} (hN:2097152<N) {L:Rows} (hl:L.length≤1048576):GK N [.rows L]=some [.int (Z0 L L.length)]:=by
 show JH (std (QP N) N) (xOf _)=_;simp only [JH,lq9,std,xOf,PXb];refine Ac (CC (len:=L.length) (fun i=>[.int (Z0 L i),.int (i:Int)]) [.int (Z0 L L.length)] ?_ ?_ N (by omega)) rfl
 ·intro self;simp only [PXb,A7]
 ·intro i self hi;simp only [PXb,Bv (show i≤1099511627776 by omega),Az hi,AP hi,Z0]
def H1 (f:List PV→Int):Rows→Int
 | []=>0
 | x::D=>f x+H1 f D
theorem aM (f:List PV→Int):∀ A B,H1 f (A++B)=H1 f A+H1 f B
 | [],B=>by rw [List.nil_append];show _=0+H1 f B;omega
 | x::A,B=>by
  have:=aM f A B;show f x+H1 f (A++B)=f x+H1 f A+H1 f B;omega
theorem pG (f:List PV→Int) {D:Rows} {i:Nat} (h:i<D.length):H1 f (D.take (i+1))=H1 f (D.take i)+f (AK D i):=by
 rw [Zi h,aM];show _+(f (AK D i)+0)=_;omega
theorem tx {D:Rows} {i:Nat} (h:i<D.length):AK D i∈D:=by
 unfold AK;rw [zzk,zzn h];exact List.getElem_mem h
structure RowG (n:Int) (x:List PV):Prop where
 over:∃ o:Nat,o≤1000∧pvI (AA x 2)=(o:Int)
 sector:∃ s:Nat,s≤8∧pvI (AA x 19)=(s:Int)
 striker:1≤pvI (AA x 5)∧pvI (AA x 5)≤n
 bat:0≤pvI (AA x 20)∧pvI (AA x 20)≤62
 tot:0≤B8 (iL x)∧B8 (iL x)≤62
theorem xO {r:Rul} (rk:RulOk r) {x:List PV} (h:RowF r x):RowG r.side x:=by
 obtain ⟨d,e0,e1,e2,e3,e4,e5⟩:=h.cre;have c:=kt rk d;have t:B8 (iL x)=B8 (AE r d):=by
  unfold B8 iL;simp only [e0,e1,e2,e3,e4]
 have h0:=c.ba;have h1:=c.wi;have h2:=c.no;have h3:=c.bb;have h4:=c.lb;have h5:=c.tot;exact ⟨h.over,h.sector,h.striker,by omega,by omega⟩
def pre (xs:List Int):Nat→Int
 | 0=>0
 | j+1=>pre xs j+xs.getD j 0
def Zy (x:List PV):Int:=pvI (AA x 20)
def vx (x:List PV):Int:=B8 (iL x)
theorem mX {r:Rul} {L:Rows} (hc:Ay r L=0) (k:Nat):∀ n,n≤L.length→H1 Zy (B6 r L k n)=smi L (fun e=>(As r e).batter) k n∧H1 vx (B6 r L k n)=smi L (Vz r) k n
 | 0,_=>⟨rfl,rfl⟩
 | n+1,hn=>by
  obtain ⟨i1,i2⟩:=mX hc k n (by omega);rw [Hq,Hq];show H1 Zy (cond ((evR L n).kind==4&&Nat.beq (opn L (n+1)) (k+1)) _ (B6 r L k n))=_∧H1 vx (cond ((evR L n).kind==4&&Nat.beq (opn L (n+1)) (k+1)) _ (B6 r L k n))=_;unfold Vz As;unfold Vz As at i2;unfold As at i1;cases hk:(evR L n).kind==4 with
  | false =>
   have z:B8 JR=0:=by decide
   have z1:JR.batter=0:=rfl;have cc:∀ b:Bool,cond b (0:Int) 0=0:=fun b=>by cases b<;>rfl
   simp only [Bool.false_and,cond_false,z,z1,cc,Int.add_zero];exact ⟨i1,i2⟩
  | true =>
   have bf:=W8 hc (show n<L.length by omega) hk;have rl:=bf.rules;cases Nat.beq (opn L (n+1)) (k+1) with
   | false =>
    simp only [Bool.and_false,cond_false,Int.add_zero];exact ⟨i1,i2⟩
   | true =>
    simp only [Bool.and_true,cond_true,aM];rw [i1,i2];refine ⟨?_,?_⟩
    ·show _+((AE (stM L n 0 (AQ r).1).rules (evR L n).ball).batter+0)=_;rw [rl,Int.add_zero]
    ·show _+(B8 (AE (stM L n 0 (AQ r).1).rules (evR L n).ball)+0)=_;rw [rl,Int.add_zero]
theorem rC {r:Rul} {L:Rows} {k:Nat} (hc:Ay r L=0) (hk:k<opn L L.length):XJ r L (k:Int)=(B6 r L k L.length,0):=by
 unfold XJ;have e:(iLt (k:Int) 0||iLe (opn L L.length:Int) (k:Int))=false:=by
  simp only [Bool.or_eq_false_iff,iLt,iLe,decide_eq_false_iff_not];omega
 rw [hc,e,cu hc];rfl
def Bg (g:Int→Int):List Int→Int
 | []=>0
 | b::B=>g b+Bg g B
theorem Xk:∀ B,Bg (fun _=>0) B=0
 | []=>rfl
 | b::B=>by
  have:=Xk B;show 0+Bg (fun _=>0) B=0;omega
theorem Zm (g h:Int→Int):∀ B,Bg (fun b=>g b+h b) B=Bg g B+Bg h B
 | []=>rfl
 | b::B=>by
  have:=Zm g h B;show g b+h b+Bg (fun b=>g b+h b) B=g b+Bg g B+(h b+Bg h B);omega
theorem KE {g h:Int→Int}:∀ {B:List Int},(∀ b,b∈B→g b=h b)→Bg g B=Bg h B
 | [],_=>rfl
 | b::B,e=>by
  have:=KE (B:=B) (fun y hy=>e y (zzm _ hy));have h1:=e b zzl;show g b+Bg g B=h b+Bg h B;omega
theorem fu {c v:Int}:∀ {B:List Int},c∉B→Bg (fun b=>cond (c==b) v 0) B=0
 | [],_=>rfl
 | b::B,h=>by
  have ih:=fu (c:=c) (v:=v) (B:=B) (fun hm=>h (zzm _ hm));show cond (c==b) v 0+Bg (fun b=>cond (c==b) v 0) B=0;rw [ih,beq_eq_false_iff_ne.2 (fun e=>h (by rw [e];exact zzl))];rfl
theorem aK {c v:Int}:∀ {B:List Int},B.Nodup→c∈B→Bg (fun b=>cond (c==b) v 0) B=v
 | [],_,h=>absurd h List.not_mem_nil
 | b::B,hn,h=>by
  obtain ⟨n1,n2⟩:=List.nodup_cons.1 hn;show cond (c==b) v 0+Bg (fun b=>cond (c==b) v 0) B=v
  by_cases e:c=b
  ·subst e;rw [fu n1,beq_self_eq_true];show v+0=v;omega
  ·have hc:c∈B:=(List.mem_cons.1 h).resolve_left e;rw [aK n2 hc,beq_eq_false_iff_ne.2 e];show 0+v=v;omega
theorem iK {B:List Int} (hn:B.Nodup) (g f:List PV→Int):∀ (D:Rows),(∀ x,x∈D→g x∈B)→Bg (fun b=>H1 (fun x=>cond (g x==b) (f x) 0) D) B=H1 f D
 | [],_=>Xk B
 | x::D,h=>by
  have ih:=iK hn g f D (fun y hy=>h y (zzm _ hy));have h1:=h x zzl;show Bg (fun b=>cond (g x==b) (f x) 0+H1 (fun x=>cond (g x==b) (f x) 0) D) B=f x+H1 f D;rw [Zm,ih];refine congrArg (·+_) ?_;exact aK hn h1
theorem eS {P:Int→Bool} {o:List Int} (hn:o.Nodup):∀ n:Nat,(∀ i:Nat,i<n→((i:Int)+1)∈o)→Bg (fun p=>cond ((iLe 1 p&&iLe p (n:Int))&&P p) 1 0) o=Ba (fun i=>P ((i:Int)+1)) n
 | 0,_=>by
  rw [KE (h:=fun _=>0) (fun b _=>by
   have:(iLe 1 b&&iLe b ((0:Nat):Int))=false:=by
    rw [Bool.eq_false_iff];intro h;simp only [iLe,zzj,decide_eq_true_eq] at h;omega
   rw [this];rfl),Xk]
  rfl
 | n+1,h=>by
  have ih:=eS (P:=P) hn n (fun i hi=>h i (by omega));have one:=aK (v:=cond (P ((n:Int)+1)) 1 0) hn (h n (by omega));have key:=Zm (fun p=>cond ((iLe 1 p&&iLe p (n:Int))&&P p) 1 0) (fun b=>cond (((n:Int)+1)==b) (cond (P ((n:Int)+1)) 1 0) 0) o;rw [ih,one] at key;rw [KE (h:=fun b=>cond ((iLe 1 b&&iLe b (n:Int))&&P b) 1 0+cond (((n:Int)+1)==b) (cond (P ((n:Int)+1)) 1 0) 0) (fun b _=>?_),key]
  ·show _=cond (P ((n:Int)+1)) (Ba _ n+1) (Ba _ n);cases P ((n:Int)+1)<;>simp
  ·by_cases e:(n:Int)+1=b
   ·subst e;have h1:iLe 1 ((n:Int)+1)=true:=by simp only [iLe,decide_eq_true_eq];omega
    have h2:iLe ((n:Int)+1) (n:Int)=false:=by simp only [iLe,decide_eq_false_iff_not];omega
    have h3:iLe ((n:Int)+1) ((n+1:Nat):Int)=true:=by simp only [iLe,decide_eq_true_eq];omega
    rw [h1,h2,h3,beq_self_eq_true];cases P ((n:Int)+1)<;>rfl
   ·have h1:iLe b ((n+1:Nat):Int)=iLe b (n:Int):=by
     unfold iLe;rw [Bool.eq_iff_iff,decide_eq_true_eq,decide_eq_true_eq];omega
    rw [h1,beq_false_of_ne e];cases ((iLe 1 b&&iLe b (n:Int))&&P b)<;>rfl
theorem sn (x:List PV) (p:Int) (l:Ln):(Gi x p l).out=(l.out||CT x==p):=by
 unfold Gi;cases CT x==p with
 | true=>rw [cond_true,Bool.or_true];rfl
 | false =>
  rw [cond_false,Bool.or_false];cases pvI (AA x 5)==p<;>rfl
theorem vG (e:Ev) (p:Int) (l:Ln):(evX e p l).out=(l.out||F3 e p):=by
 unfold evX F3;cases k2:e.kind==2 with
 | true =>
  have e2:=beq_iff_eq.1 k2;rw [e2];cases (e.player==p||e.other==p)
  ·exact (Bool.or_false _).symm
  ·exact (Bool.or_false _).symm
 | false =>
  cases k5:e.kind==5 with
  | true =>
   have e5:=beq_iff_eq.1 k5;rw [e5];cases e.player==p<;>cases e.yes<;>first | exact (Bool.or_false _).symm | exact (Bool.or_true _).symm
  | false =>
   cases e.kind==6<;>cases e.player==p<;>cases e.yes<;>first | exact (Bool.or_false _).symm | exact (Bool.or_true _).symm
theorem fm (X:Rows) (p:Int):∀ n,n≤X.length→(Fw X p n).out=V0 (X.take n) p
 | 0,_=>rfl
 | n+1,h=>by
  show (Gi (AK X n) p (Fw X p n)).out=_;have ih:=fm X p n (by omega);have e:V0 (X.take (n+1)) p=(V0 (X.take n) p||CT (AK X n)==p):=by
   rw [Zi (by omega)];unfold V0;rw [List.any_append];show (_||(CT (AK X n)==p||false))=_;rw [Bool.or_false]
  rw [e,← ih,sn]
def nn (E:Rows) (q:Int):Nat→Bool
 | 0=>false
 | n+1=>nn E q n||F3 (evR E n) q
theorem fH (E:Rows) (p:Int) (l:Ln):∀ n,(TJ E p l n).out=(l.out||nn E p n)
 | 0=>(Bool.or_false _).symm
 | n+1=>by
  show (evX (evR E n) p (TJ E p l n)).out=(l.out||(nn E p n||F3 (evR E n) p));rw [← Bool.or_assoc,← fH E p l n];exact vG _ _ _
theorem kV {L:Rows} {k:Nat} {q:Int} (sg:Seg L k):∀ i,AH L k+i≤AH L (k+1)→Tn L k q (AH L k+i)=nn (Bt L k) q i
 | 0,_=>Zv _ (by rw [Nat.add_zero,sg.o0];exact Nat.le_refl _)
 | i+1,h=>by
  show (Tn L k q (AH L k+i)||(Nat.beq (opn L (AH L k+i+1)) (k+1)&&F3 (evR L (AH L k+i)) q))=_;rw [kV sg i (by omega),sg.mid (AH L k+i) (by omega) (by omega),KR,Bool.true_and];have:evR (Bt L k) i=evR L (AH L k+i):=W9 L i (by omega);show _=(_||F3 (evR (Bt L k) i) q);rw [this]
theorem fZ {r:Rul} {L:Rows} {k p:Nat} (h:opn L p=k+1) (hn:p=L.length∨((evR L p).kind==2)=true):∀ c,p+c≤L.length→B6 r L k (p+c)=B6 r L k p
 | 0,_=>rfl
 | c+1,hc=>by
  rw [show p+(c+1)=p+c+1 by omega];show cond ((evR L (p+c)).kind==4&&Nat.beq (opn L (p+c+1)) (k+1)) _ (B6 r L k (p+c))=_
  rcases hn with hn | hn
  ·omega
  ·have:=E9 L (show p+1≤p+c+1 by omega);rw [OL hn] at this;rw [Js (by omega),Bool.and_false,cond_false];exact fZ h (.inr hn) c (by omega)
def plL (r:Rul) (L:Rows) (k:Nat) (p:Int):Ln:=TJ (Bt L k) p (Fw (B6 r L k L.length) p (B6 r L k L.length).length) (Bt L k).length
def Mz (r:Rul) (L:Rows) (k:Nat):List Int:=Mx (BZ (Bt L k) (Bt L k).length) r.side.toNat
theorem tw {r:Rul} {L:Rows} {k:Nat} (hc:Ay r L=0) (hk:k<opn L L.length):Oq r L (k:Int)=(AN (Mz r L k) (plL r L k),0):=by
 unfold Oq;rw [rC hc hk];show (AN (Mz r L k) _,0)=_;refine congrArg (fun X=>(AN (Mz r L k) X,(0:Int))) (funext fun p=>?_);have e:=ud (k:Int) (CL r L) (Bt L k) p;rw [cu hc] at e;exact e.symm
theorem wO {r : Rul} {L : Rows} {k : Nat} (hc : Ay r L = 0) (hk : k < opn L L.length) :
    ∃ B:Rows,(B.length:Int)=r.side∧FQ B=smi L Bs k L.length∧∀ p,inR p B.length=true→(plL r L k p).out=Bx B p:=by
  have l4:=(Cp hc).2.2.1;have sg:=seg (L:=L) (by omega) hk;have af:=fM (L:=L) (by omega) hk;have sl:=aA (L:=L) (by omega) hk;have d:=pj hc k (AH L (k+1)) sg.le sg.o1;have sge:=sg.le;refine ⟨_,d.len,d.wk.trans (mg (by omega) hk).symm,fun p hp=>?_⟩;rw [d.dead p hp];unfold plL;rw [fH,fm _ _ _ (Nat.le_refl _),List.take_length];have e1:B6 r L k L.length=B6 r L k (AH L (k+1)):=by
    have:=fZ (r:=r) sg.o1 af (L.length - AH L (k+1)) (by omega);rw [show AH L (k+1)+(L.length - AH L (k+1))=L.length by omega] at this;exact this
  have e2:=kV (q:=p) sg (Bt L k).length (by rw [sl];have:=sg.lt;omega);rw [sl,show AH L k+(AH L (k+1) - AH L k)=AH L (k+1) by have:=sg.lt;omega] at e2;rw [e1,e2,sl]
theorem vB {r:Rul} {L:Rows} {k:Nat} (hc:Ay r L=0) (hk:k<opn L L.length):Bg (fun p=>cond (plL r L k p).out 1 0) (Mz r L k)=smi L Bs k L.length:=by
 obtain ⟨B,b1,b2,b3⟩:=wO hc hk;have rs:=(DQ (Cp hc).2.1).side;have on:(Mz r L k).Nodup:=H9 (GU (Bt L k) (Bt L k).length) r.side.toNat;have om:=fun p=>Um (p:=p) hc hk (show 0≤r.side by omega)
 rw [← b2];have sc:=eS (P:=Bx B) on B.length (fun i hi=>(om _).2 (by omega));unfold FQ;rw [MY (q:=fun i=>Bx B ((i:Int)+1)) B.length (fun j hj=>?_),← sc]
 ·refine KE fun p hp=>?_
  have hp:=(om p).1 hp;have hi:inR p B.length=true:=MT.2 (by omega);have h1:iLe 1 p=true:=by simp only [iLe,decide_eq_true_eq];omega
  have h2:iLe p (B.length:Int)=true:=by simp only [iLe,decide_eq_true_eq];omega
  rw [b3 p hi,h1,h2];rfl
 ·have hi:inR ((j:Int)+1) B.length=true:=MT.2 (by omega);obtain ⟨e,_⟩:=NQ hi (by omega);unfold pIs Bx;rw [show ix ((j:Int)+1)=j by omega]
def rh (x:List PV):Prop:=((VP x&&pvI (AA x 12)==4)=true→4≤Zy x)∧((VP x&&pvI (AA x 12)==6)=true→6≤Zy x)
theorem wH {r:Rul} {d:Del} (hl:(Db d==0)=true) {b:Int} (h1:d.source=1) (h2:d.runs=0) (hb:d.boundary=b) (h0:0≤b∧b≤6):b≤(AE r d).batter:=by
 unfold AE;rw [hl];show b≤(Ok r d).batter;unfold Db at hl;cases k1:(iLt d.type 1||iLt 3 d.type||iLt 3 d.source||iLt 10 d.how || !btw d.sector 0 8) with
 | true=>rw [k1] at hl;cases hl
 | false =>
  cases k2:(!btw d.runs 0 7 || !btw d.short 0 d.runs||(!(d.boundary==0) && !(d.boundary==4) && !(d.boundary==6))) with
  | true=>rw [k1,k2] at hl;cases hl
  | false =>
   cases k3:PY d with
   | false=>rw [k1,k2,k3] at hl;cases hl
   | true =>
    rw [Bool.or_eq_false_iff,Bool.or_eq_false_iff] at k2;have s0:=k2.1.2;rw [h2] at s0;simp only [btw,iLe,Bool.not_eq_false',zzj,decide_eq_true_eq] at s0;have sh:d.short=0:=by omega
    have t2:(d.type==2)=false:=by
     cases ht:d.type==2 with
     | false=>rfl
     | true =>
      unfold PY at k3;rw [ht,h1] at k3;cases k3
    unfold Ok;simp only [t2,h1,h2,sh,hb];rw [show IntKind.i64.wrap (0 - 0)=0 from rfl,Int.zero_add,BQ (by omega) (by omega)];exact Int.le_refl _
theorem xW {r:Rul} {L:Rows} (hc:Ay r L=0) {a:Nat} (ha:a<L.length) (hk:((evR L a).kind==4)=true) (t:Mat):rh (Dc (a:Int) (stM L a 0 (AQ r).1) t (evR L a).ball):=by
 have bf:=W8 hc ha hk;obtain ⟨q1,q2,q3,q4,q5,q6⟩:=Pg bf.ref;have go:∀ b:Int,0≤b∧b≤6→(((evR L a).ball.source==1&&(evR L a).ball.runs==0)&&(evR L a).ball.boundary==b)=true→b≤(AE (stM L a 0 (AQ r).1).rules (evR L a).ball).batter:=fun b hb h=>by
  simp only [zzj,beq_iff_eq] at h;exact wH q4 h.1.1 h.1.2 h.2 hb
 exact ⟨go 4 (by omega),go 6 (by omega)⟩
theorem tp {r:Rul} {L:Rows} (hc:Ay r L=0) (k:Nat):∀ n,n≤L.length→∀ x,x∈B6 r L k n→rh x
 | 0,_,x,hx=>absurd hx List.not_mem_nil
 | n+1,hn,x,hx=>by
  have ih:=tp hc k n (by omega);change x∈cond ((evR L n).kind==4&&Nat.beq (opn L (n+1)) (k+1)) _ (B6 r L k n) at hx;cases hk:(evR L n).kind==4 with
  | false=>rw [hk] at hx;exact ih x hx
  | true =>
   cases hb:Nat.beq (opn L (n+1)) (k+1) with
   | false=>rw [hk,hb] at hx;exact ih x hx
   | true =>
    rw [hk,hb] at hx
    rcases List.mem_append.1 hx with hx | hx
    ·exact ih x hx
    ·rw [List.mem_singleton.1 hx];exact xW hc (by omega) hk _
def eY (p:Int) (x:List PV):Int:=cond (pvI (AA x 5)==p) (Zy x) 0
structure LnF (p:Int) (X:Rows) (i:Nat) (l:Ln):Prop where
 runs:l.runs=H1 (eY p) (X.take i)
 rb:0≤l.runs∧l.runs≤62 * (i:Int)
 fb:0≤l.fours∧l.fours≤(i:Int)
 sb:0≤l.sixes∧l.sixes≤(i:Int)
 bnd:4 * l.fours+6 * l.sixes≤l.runs
 how:l.out = !(l.how==0)
theorem um {x:List PV} {p:Int} (hp:1≤p) (h:(CT x==p)=true):(pvI (AA x 14)==0)=false:=by
 cases h0:pvI (AA x 14)==0 with
 | false=>rfl
 | true =>
  unfold CT at h;rw [h0] at h;have:(0:Int)=p:=beq_iff_eq.1 h;omega
theorem py {n:Int} {X:Rows} (hX:X.length≤4000) (rg:∀ x,x∈X→RowG n x) (rk:∀ x,x∈X→rh x) {p:Int} (hp:1≤p):∀ i,i≤X.length→LnF p X i (Fw X p i)
 | 0,_=>⟨rfl,⟨Int.le_refl _,by show (0:Int)≤_;omega⟩,⟨Int.le_refl _,by show (0:Int)≤_;omega⟩,⟨Int.le_refl _,by show (0:Int)≤_;omega⟩,Int.le_refl _,rfl⟩
 | i+1,h=>by
  have ih:=py hX rg rk hp i (by omega);have hm:=tx (D:=X) (i:=i) (by omega);have g:=(rg _ hm).bat;obtain ⟨k4,k6⟩:=rk _ hm;have st:=pG (eY p) (D:=X) (i:=i) (by omega);show LnF p X (i+1) (Gi (AK X i) p (Fw X p i));generalize Fw X p i=l at *
  generalize AK X i=x at *
  obtain ⟨i1,i2,i3,i4,i5,i6⟩:=ih;have hit:LnF p X (i+1) (cond (pvI (AA x 5)==p) (Ob x l) l):=by
   cases hs:pvI (AA x 5)==p with
   | false =>
    have sv:eY p x=0:=by unfold eY;rw [hs];rfl
    exact ⟨by rw [st,sv,Int.add_zero];exact i1,⟨i2.1,by show l.runs≤_;omega⟩,⟨i3.1,by show l.fours≤_;omega⟩,⟨i4.1,by show l.sixes≤_;omega⟩,i5,i6⟩
   | true =>
    have sv:eY p x=pvI (AA x 20):=by unfold eY;rw [hs];rfl
    have bx:Zy x=pvI (AA x 20):=rfl;have w1:IntKind.i64.wrap (l.runs+pvI (AA x 20))=l.runs+pvI (AA x 20):=BQ (by omega) (by omega);have w2:IntKind.i64.wrap (l.fours+1)=l.fours+1:=BQ (by omega) (by omega);have w3:IntKind.i64.wrap (l.sixes+1)=l.sixes+1:=BQ (by omega) (by omega);have excl:(VP x&&pvI (AA x 12)==4)=true→(VP x&&pvI (AA x 12)==6)=false:=fun h=>by
     rw [zzj,beq_iff_eq] at h;rw [h.2];exact Bool.and_false _
    rw [cond_true];unfold Ob;rw [w1,w2,w3];cases h4:(VP x&&pvI (AA x 12)==4) with
    | true =>
     have b4:=k4 h4;rw [excl h4];exact ⟨by rw [st,sv,← i1],⟨by show 0≤l.runs+pvI (AA x 20);omega,by show l.runs+pvI (AA x 20)≤_;omega⟩,⟨by show 0≤l.fours+1;omega,by show l.fours+1≤_;omega⟩,⟨i4.1,by show l.sixes≤_;omega⟩,by show 4 * (l.fours+1)+6 * l.sixes≤l.runs+pvI (AA x 20);omega,i6⟩
    | false =>
     cases h6:(VP x&&pvI (AA x 12)==6) with
     | true =>
      have b6:=k6 h6;exact ⟨by rw [st,sv,← i1],⟨by show 0≤l.runs+pvI (AA x 20);omega,by show l.runs+pvI (AA x 20)≤_;omega⟩,⟨i3.1,by show l.fours≤_;omega⟩,⟨by show 0≤l.sixes+1;omega,by show l.sixes+1≤_;omega⟩,by show 4 * l.fours+6 * (l.sixes+1)≤l.runs+pvI (AA x 20);omega,i6⟩
     | false =>
      exact ⟨by rw [st,sv,← i1],⟨by show 0≤l.runs+pvI (AA x 20);omega,by show l.runs+pvI (AA x 20)≤_;omega⟩,⟨i3.1,by show l.fours≤_;omega⟩,⟨i4.1,by show l.sixes≤_;omega⟩,by show 4 * l.fours+6 * l.sixes≤l.runs+pvI (AA x 20);omega,i6⟩
  unfold Gi;cases hv:CT x==p with
  | false=>exact hit
  | true =>
   have:=um hp hv;exact ⟨hit.runs,hit.rb,hit.fb,hit.sb,hit.bnd,by show true = !(pvI (AA x 14)==0);rw [this];rfl⟩
theorem xG {e:Ev} {p:Int} {X:Rows} {i:Nat} {l:Ln} (h:LnF p X i l):LnF p X i (evX e p l):=by
 unfold evX;exact P_c (P:=LnF p X i) _ _ _ ⟨h.runs,h.rb,h.fb,h.sb,h.bnd,h.how⟩ (P_c (P:=LnF p X i) _ _ _ ⟨h.runs,h.rb,h.fb,h.sb,h.bnd,h.how⟩ (P_c (P:=LnF p X i) _ _ _ ⟨h.runs,h.rb,h.fb,h.sb,h.bnd,rfl⟩ (P_c (P:=LnF p X i) _ _ _ ⟨h.runs,h.rb,h.fb,h.sb,h.bnd,rfl⟩ h)))
theorem nA {E:Rows} {p:Int} {X:Rows} {i:Nat} {l:Ln} (h:LnF p X i l):∀ n,LnF p X i (TJ E p l n)
 | 0=>h
 | n+1=>xG (nA h n)
theorem wL {r:Rul} {L:Rows} {k:Nat} (hc:Ay r L=0) (rk:RulOk r) {p:Int} (hp:1≤p):LnF p (B6 r L k L.length) (B6 r L k L.length).length (plL r L k p):=by
 have l4:=(Cp hc).2.2.1;obtain ⟨b1,b2⟩:=hY hc k L.length (Nat.le_refl _);exact nA (py (by omega) (fun x hx=>xO rk (b2 x hx)) (tp hc k L.length (Nat.le_refl _)) hp _ (Nat.le_refl _)) _
theorem uz {r:Rul} {L:Rows} {k:Nat} (hc:Ay r L=0) (hk:k<opn L L.length):((Mz r L k).length:Int)=r.side:=by
 have rs:=(DQ (Cp hc).2.1).side;have on:(Mz r L k).Nodup:=H9 (GU (Bt L k) (Bt L k).length) r.side.toNat;have om:=fun p=>Um (p:=p) hc hk (show 0≤r.side by omega)
 have sc:=eS (P:=fun _=>true) on r.side.toNat (fun i hi=>(om _).2 (by omega));have all:∀ B:List Int,Bg (fun _=>1) B=(B.length:Int):=fun B=>by
  induction B with
  | nil=>rfl
  | cons b B ih=>show 1+Bg (fun _=>1) B=((B.length+1:Nat):Int);omega
 have one:∀ n,Ba (fun _=>true) n=(n:Int):=fun n=>by
  induction n with
  | zero=>rfl
  | succ n ih=>show Ba (fun _=>true) n+1=_;omega
 rw [one,KE (h:=fun _=>1) (fun p hp=>by
  have:=(om p).1 hp;have h1:iLe 1 p=true:=by simp only [iLe,decide_eq_true_eq];omega
  have h2:iLe p (r.side.toNat:Int)=true:=by simp only [iLe,decide_eq_true_eq];omega
  rw [h1,h2];rfl),all] at sc
 omega
theorem sY {r:Rul} {L:Rows} {k:Nat} (hc:Ay r L=0) (rk:RulOk r) (hk:k<opn L L.length):Bg (fun p=>(plL r L k p).runs) (Mz r L k)=smi L (fun e=>(As r e).batter) k L.length:=by
 have rs:=rk.side;have on:(Mz r L k).Nodup:=H9 (GU (Bt L k) (Bt L k).length) r.side.toNat;have om:=fun p=>Um (p:=p) hc hk (show 0≤r.side by omega)
 obtain ⟨b1,b2⟩:=hY hc k L.length (Nat.le_refl _);rw [← (mX hc k L.length (Nat.le_refl _)).1,← iK on (fun x=>pvI (AA x 5)) Zy (B6 r L k L.length) (fun x hx=>(om _).2 (b2 x hx).striker)];refine KE fun p hp=>?_
 have:=(wL (k:=k) hc rk ((om p).1 hp).1).runs;rw [List.take_length] at this;exact this
theorem XN (g:Int→Int) {o:List Int} {j:Nat} (h:j<o.length):Bg g (o.take (j+1))=Bg g (o.take j)+g (o.getD j 0):=by
 have app:∀ A B:List Int,Bg g (A++B)=Bg g A+Bg g B:=fun A B=>by
  induction A with
  | nil=>show Bg g B=0+_;omega
  | cons a A ih=>show g a+Bg g (A++B)=g a+Bg g A+_;omega
 rw [List.take_add_one,app,zzk,zzn h];show _+(g o[j]+0)=_;show _=_+g o[j];omega
theorem jJ {g:Int→Int} {c:Int} {o:List Int} (h:∀ p,p∈o→0≤g p∧g p≤c):∀ j,j≤o.length→0≤Bg g (o.take j)∧Bg g (o.take j)≤c * (j:Int)
 | 0,_=>by show (0:Int)≤0∧(0:Int)≤c * ((0:Nat):Int);omega
 | j+1,hj=>by
  have ih:=jJ h j (by omega);rw [XN g (by omega)];have:=h (o.getD j 0) (by rw [zzk,zzn (show j<o.length by omega)];exact List.getElem_mem _);have e:c * ((j+1:Nat):Int)=c * (j:Int)+c:=by rw [show ((j+1:Nat):Int)=(j:Int)+1 by omega,Int.mul_add,Int.mul_one]
  rw [e];omega
theorem iW {o:List Int} {F:Int→Ln} (hb:∀ p,p∈o→0≤(F p).runs∧(F p).runs≤1000000) (hl:o.length≤1000):∀ j,j≤o.length→Z0 (AN o F) j=Bg (fun p=>(F p).runs) (o.take j)
 | 0,_=>rfl
 | j+1,h=>by
  have b:=jJ (g:=fun p=>(F p).runs) hb j (by omega);have m:o.getD j 0∈o:=by rw [zzk,zzn (show j<o.length by omega)];exact List.getElem_mem _
  have b1:=hb _ m;show IntKind.i64.wrap (Z0 (AN o F) j+pvI (AB (AN o F) j 1))=_;have e:pvI (AB (AN o F) j 1)=(F (o.getD j 0)).runs:=by unfold AB;rw [VN (by omega)];rfl
  rw [iW hb hl j (by omega),e,XN _ (by omega),BQ (by omega) (by omega)]
theorem TT {N:Nat} {L:Rows} (hN:2097152<N) (h:L.length≤1048576):Cy N [.rows L,.rows L]=some [.bool true]:=by
 show Dt (std (J6 N) N) (xOf _)=_;simp only [Dt,lq9,std,xOf,PXb];simp only [PXb,PXc,PXn,AG,beq_self_eq_true,Bool.not_true];refine Ac (CC (len:=L.length) (fun i=>[.int (i:Int)]) [.int 1] ?_ ?_ N (by omega)) rfl
 ·intro self;simp only [PXb,PXc,PXn,AG,A7]
 ·intro i self hi;simp only [PXb,PXc,PXn,AG,Bv (show i≤1099511627776 by omega),Az hi,AP hi,beq_self_eq_true,Bool.not_true]
def hP:Rows:=[[.int 1,.int 1,.int 1,.int 0,.int 0,.bool false,.int 0,.int 0,.int 0,.bool true],[.int 2,.int 0,.int 1,.int 0,.int 0,.bool true,.int 1,.int 1,.int 0,.bool true]]
def gz:ByteArray:=⟨#[65,78,78,32,40,99,41,58,32,49,32,40,49,41,32,78,79,84,32,79,85,84,10,66,79,66,32,40,107,41,58,32,48,32,40,49,41,32,66,79,87,76,69,68,32,98,32,67,76,69,79,10]⟩
theorem v8:E4 4194304 [.rows hP,.str ⟨#[79,65,75,83]⟩,.rows [[.str ⟨#[65,78,78]⟩],[.str ⟨#[66,79,66]⟩]],.int 1,.int 2,.str ⟨#[69,76,77,83]⟩,.rows [[.str ⟨#[67,76,69,79]⟩],[.str ⟨#[68,65,78]⟩]],.int 2,.int 2]=some [.str gz,.int 0]:=by kernel_rfl
theorem we:Oq YY YJ 0=(hP,0):=by kernel_rfl
set_option maxHeartbeats 2000000 in
theorem lS:K0 4194304 []=some [.bool true]:=by
 have hs:YY.name.size≤1048576:=by decide
 have hl:YJ.length≤1000000:=by decide
 have hN:2097152<4194304:=by omega
 have k1:Cf 4194304 (YY.ls++[.rows YJ,.int 0])=some [.rows (Oq YY YJ 0).1,.int (Oq YY YJ 0).2]:=Ua hN hs (Nat.zero_le _) hl;rw [we] at k1;have k2:=v8;have k3:=TT (L:=hP) hN (by decide);obtain ⟨C,hC⟩:∃ C,C=hP:=⟨_,rfl⟩;obtain ⟨X,hX⟩:∃ X,X=gz:=⟨_,rfl⟩;have k4:∀ O:ByteArray,O=gz→(X.toList==O.toList)=true:=fun O h=>by rw [h,hX];exact beq_self_eq_true _
 rw [← hC] at k1 k2 k3;rw [← hX] at k2;show O3 (std (ER 4194304) 4194304) (xOf [])=_;simp only [O3,RO,Lu,RD,UK,Wn,lq9,std,xOf,PXb,xC,vY];refine E5 k1 ?_;simp only [PXb,PXc,PXn,AG,Nat.reduceAdd];refine E5 k2 ?_;simp only [PXb,PXc,PXn,AG,Nat.reduceAdd,beq_self_eq_true];refine E5 (v:=[.bool true]) (by rw [hC] at k3 ⊢;exact k3) ?_;simp only [PXb,PXc,PXn,AG,Nat.reduceAdd];rw [hX];exact congrArg (fun b=>some [PV.bool b]) (beq_self_eq_true gz.toList)
end Go.Px
end
