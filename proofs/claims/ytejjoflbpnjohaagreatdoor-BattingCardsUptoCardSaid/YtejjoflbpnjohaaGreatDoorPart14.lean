/- Part 14. -/
import Derived.Test.YtejjoflbpnjohaaGreatDoorPart13
set_option linter.unusedVariables false
set_option linter.unusedSimpArgs false
variable {r1 r2 r3 r4 r5 r6 r7 r9 r10 r11 r12:Int}
variable {m1 m2 m3 m4 m5 m6 m7 m9 m10 m11 m12 m14 m15 m18 m19 m20 m21 m22:Int}
variable {e0 e1 e2 e3 e5 e6 e7 e8 e9 e10 e11 e13 e14 e15 e16 e18:Int}
section
namespace Go.Px
set_option maxRecDepth 100000
def lnx (xs:List Inn):Nat:=(IntKind.i64.wrap ((xs.length:Int) - 1)).toNat
def AY (m:Mat):Inn:=inn m.inns (lnx m.inns)
theorem OX {n:Nat} (h:((n:Int)==0)=false) (hl:n≤1000000):iIn (IntKind.i64.wrap ((n:Int) - 1)) (n:Int)=true:=by
 rw [beq_eq_false_iff_ne] at h;rw [CK (by omega) (by omega)];simp only [iIn,decide_eq_true_eq];omega
theorem ZL {xs:List Inn} (h:((xs.length:Int)==0)=false) (hl:xs.length≤1000000):lnx xs<xs.length:=by
 rw [beq_eq_false_iff_ne] at h;unfold lnx;rw [CK (by omega) (by omega)];omega
def Z3 (r:Rul):Int:=cond (r.overs==0) 5 6
theorem LU {N:Nat} {r8:Bool} {r0:ByteArray} {r13:Rows}  : CB N [.str r0,.int r1,.int r2,.int r3,.int r4,.int r5,.int r6,.int r7,.bool r8,.int r9,.int r10,.int r11,.int r12,.rows r13]=some [.int (Z3 (⟨r0,r1,r2,r3,r4,r5,r6,r7,r8,r9,r10,r11,r12,r13⟩:Rul))]:=by
 show G9 (std (PA N) N) (xOf _)=_;simp only [G9,lq9,std,xOf,PXb,PXc,PXn,PXm,Nat.reduceAdd,Int.reduceBEq,Z3]
theorem Ue {N:Nat} {m8 m16:Bool} {m0:ByteArray} {m13:Rows} {m17:List Inn} (h:((m17.length:Int)==0)=false) (hl:m17.length≤1000000):Dj N [.str m0,.int m1,.int m2,.int m3,.int m4,.int m5,.int m6,.int m7,.bool m8,.int m9,.int m10,.int m11,.int m12,.rows m13,.int m14,.int m15,.bool m16,.rows (Aa m17),.int m18,.int m19,.int m20,.int m21,.int m22]=some (inn m17 (lnx m17)).ls:=by
 show PP (std (LQ N) N) (xOf _)=_;simp only [PP,lq9,std,xOf,PXb,PXc,PXn,PXm,Nat.reduceAdd,Int.reduceBEq,PXi,OX h hl,lnx]
def ud (x:Int×Int×Int):List PV:=[.int x.1,.int x.2.1,.int x.2.2]
def OB (m:Mat):Int×Int×Int :=
  let n:Int:=m.inns.length
  let most:=IntKind.i64.wrap (2 * m.rules.innings)
  let x:=AY m
  cond (!Ci m||n==0) (0,0,0) (cond (x.ending==5) (Z3 m.rules,0,0) (cond (x.ending==0) (0,0,0)
    (cond (n==most&&iLe x.target x.runs) (2,x.side,IntKind.i64.wrap (IntKind.i64.wrap (m.rules.side - 1) - x.wickets)) (cond (n==most&&x.runs==IntKind.i64.wrap (x.target - 1)) (4,0,0)
      (cond (n==most) (1,Bd x.side,IntKind.i64.wrap (IntKind.i64.wrap (x.target - 1) - x.runs))
        (cond (n==3&&iLt (BK m x.side) (BK m (Bd x.side))) (3,Bd x.side,IntKind.i64.wrap (BK m (Bd x.side) - BK m x.side)) (0,0,0)))))))
set_option maxHeartbeats 4000000 in
theorem nN {N:Nat} {m8 m16:Bool} {m0:ByteArray} {m13:Rows} {m17:List Inn} (hf:D9 m17) (hN:2097152<N) (hl:m17.length≤1000000) (hs:m0.size≤1048576):G1 N [.str m0,.int m1,.int m2,.int m3,.int m4,.int m5,.int m6,.int m7,.bool m8,.int m9,.int m10,.int m11,.int m12,.rows m13,.int m14,.int m15,.bool m16,.rows (Aa m17),.int m18,.int m19,.int m20,.int m21,.int m22]=some (ud (OB (⟨⟨m0,m1,m2,m3,m4,m5,m6,m7,m8,m9,m10,m11,m12,m13⟩,m14,m15,m16,m17,m18,m19,m20,m21,m22⟩:Mat))):=by
 show KW (std (Dm N) N) (xOf _)=_;generalize hres:(some (ud (OB (⟨⟨m0,m1,m2,m3,m4,m5,m6,m7,m8,m9,m10,m11,m12,m13⟩,m14,m15,m16,m17,m18,m19,m20,m21,m22⟩:Mat))):Option (List PV))=RR;simp only [KW,Si,TE,Sr,N9,lq9,std,xOf,PXb,PXi,dP hf hN hl hs,Jc,LU,TO hN (show m17.length≤1048576 by omega)];subst hres;simp only [OB,AY,lnx];cases hv:Ci (⟨⟨m0,m1,m2,m3,m4,m5,m6,m7,m8,m9,m10,m11,m12,m13⟩,m14,m15,m16,m17,m18,m19,m20,m21,m22⟩:Mat)
 case false=>rfl
 cases h0:(m17.length:Int)==0
 case true=>rfl
 simp only [PXb,OX h0 hl];generalize inn m17 (IntKind.i64.wrap ((m17.length:Int) - 1)).toNat=x;cases x.ending==5
 case true=>rfl
 cases x.ending==0
 case true=>rfl
 cases (m17.length:Int)==IntKind.i64.wrap (2 * m2)<;>cases iLe x.target x.runs<;>cases x.runs==IntKind.i64.wrap (x.target - 1)<;>try rfl
 all_goals (cases (m17.length:Int)==3<;>try rfl)
 all_goals (simp only [PXb];cases iLt (BK (⟨⟨m0,m1,m2,m3,m4,m5,m6,m7,m8,m9,m10,m11,m12,m13⟩,m14,m15,m16,m17,m18,m19,m20,m21,m22⟩:Mat) x.side) (BK (⟨⟨m0,m1,m2,m3,m4,m5,m6,m7,m8,m9,m10,m11,m12,m13⟩,m14,m15,m16,m17,m18,m19,m20,m21,m22⟩:Mat) (Bd x.side))<;>rfl)
set_option maxHeartbeats 4000000 in
theorem td {N:Nat} {m8 m16:Bool} {m0:ByteArray} {m13:Rows} {m17:List Inn} (hf:D9 m17) (hN:2097152<N) (hl:m17.length≤1000000) (hs:m0.size≤1048576):Jo N [.str m0,.int m1,.int m2,.int m3,.int m4,.int m5,.int m6,.int m7,.bool m8,.int m9,.int m10,.int m11,.int m12,.rows m13,.int m14,.int m15,.bool m16,.rows (Aa m17),.int m18,.int m19,.int m20,.int m21,.int m22]=some (ud (OB (⟨⟨m0,m1,m2,m3,m4,m5,m6,m7,m8,m9,m10,m11,m12,m13⟩,m14,m15,m16,m17,m18,m19,m20,m21,m22⟩:Mat))):=by
 show JS (std (Cd N) N) (xOf _)=_;generalize hres:(some (ud (OB (⟨⟨m0,m1,m2,m3,m4,m5,m6,m7,m8,m9,m10,m11,m12,m13⟩,m14,m15,m16,m17,m18,m19,m20,m21,m22⟩:Mat))):Option (List PV))=RR;simp only [JS,Wm,Mi,MJ,MK,lq9,std,xOf,PXb,PXi,Yw hf hN hl hs,HG,MW hN (show m17.length≤1048576 by omega)];subst hres;simp only [OB,AY];cases hv:Ci (⟨⟨m0,m1,m2,m3,m4,m5,m6,m7,m8,m9,m10,m11,m12,m13⟩,m14,m15,m16,m17,m18,m19,m20,m21,m22⟩:Mat)
 case false=>rfl
 cases h0:(m17.length:Int)==0
 case true=>rfl
 simp only [PXb,PXm,Mi,Ue h0 hl,MJ,MK,HG,MW hN (show m17.length≤1048576 by omega)];generalize inn m17 (lnx m17)=x;unfold Z3;cases x.ending==5<;>cases m3==0<;>try rfl
 all_goals (cases x.ending==0<;>try rfl)
 all_goals (cases (m17.length:Int)==IntKind.i64.wrap (2 * m2)<;>cases iLe x.target x.runs<;>cases x.runs==IntKind.i64.wrap (x.target - 1)<;>try rfl)
 all_goals (cases (m17.length:Int)==3<;>try rfl)
 all_goals (simp only [PXb];cases iLt (BK (⟨⟨m0,m1,m2,m3,m4,m5,m6,m7,m8,m9,m10,m11,m12,m13⟩,m14,m15,m16,m17,m18,m19,m20,m21,m22⟩:Mat) x.side) (BK (⟨⟨m0,m1,m2,m3,m4,m5,m6,m7,m8,m9,m10,m11,m12,m13⟩,m14,m15,m16,m17,m18,m19,m20,m21,m22⟩:Mat) (Bd x.side))<;>rfl)
theorem xh:∀ (n k:Nat) (f:Nat→Nat),(∀ i,i<k→1≤f i∧f i≤n)→(∀ i j,i<j→j<k→f i≠f j)→k≤n
 | 0,k,f,h,_=>by
  rcases Nat.eq_zero_or_pos k with e | e
  ·omega
  ·have:=h 0 e;omega
 | n+1,0,f,_,_=>by omega
 | n+1,k+1,f,h,hi=>by
  by_cases he:∃ j,j<k+1∧f j=n+1
  ·obtain ⟨j,hj,hfj⟩:=he;have:=xh n k (fun i=>if i=j then f k else f i) (fun i hik=>by
    show 1≤(if i=j then f k else f i)∧(if i=j then f k else f i)≤n
    by_cases e:i=j
    ·rw [if_pos e];have h1:=h k (by omega);have:f k≠f j:=fun e2=>hi j k (by omega) (by omega) e2.symm
     omega
    ·rw [if_neg e];have h1:=h i (by omega);have:f i≠f j:=by
      rcases Nat.lt_or_gt_of_ne e with e2 | e2
      ·exact hi i j e2 hj
      ·exact fun e3=>hi j i e2 (by omega) e3.symm
     omega) (fun a b hab hb=>by
    show (if a=j then f k else f a)≠(if b=j then f k else f b)
    by_cases e1:a=j
    ·have e2:b≠j:=by omega
     rw [if_pos e1,if_neg e2];exact fun e3=>hi b k hb (by omega) e3.symm
    ·rw [if_neg e1]
     by_cases e2:b=j
     ·rw [if_pos e2];exact hi a k (by omega) (by omega)
     ·rw [if_neg e2];exact hi a b hab (by omega))
   omega
  ·have:=xh n (k+1) f (fun i hik=>by
    have h1:=h i hik;have:f i≠n+1:=fun e=>he ⟨i,hik,e⟩
    omega) hi
   omega
theorem vm {L:Rows} {n:Int} (h:G2 L n=true) (hn:0≤n):(L.length:Int)≤n:=by
 unfold G2 at h;rw [Bool.not_eq_true',L7] at h;have hb:∀ i,i<L.length→1≤atI L i 0∧atI L i 0≤n:=fun i hi=>by
  have:=h i (by omega) (by omega);unfold Lr at this;rw [Bool.or_eq_false_iff,Bool.not_eq_false',Zh] at this;exact this.1
 have:=xh n.toNat L.length (fun i=>(atI L i 0).toNat) (fun i hi=>by have:=hb i hi;show 1≤(atI L i 0).toNat∧(atI L i 0).toNat≤n.toNat;omega) (fun i j hij hj=>by
  show (atI L i 0).toNat≠(atI L j 0).toNat;have h1:=hb i (by omega);have h2:=hb j hj;have h3:=h j (by omega) (by omega);unfold Lr at h3;rw [Bool.or_eq_false_iff] at h3;have h4:=L7.1 h3.2 i (by omega) (by omega);rw [beq_eq_false_iff_ne] at h4;omega)
 omega
theorem QQ {r:Rul} {s:Inn} (h:FC r s=true):s.bowlers.length≤11∧s.before.length≤11∧s.Fit:=by
 have ok:=Ke.1 h;have hs:=AE5 ok;have h1:=vm ok.dw (by omega);have h2:=vm ok.df (by omega);have h3:=ok.lb;have h4:=ok.ld;have h5:=ok.lz;exact ⟨by omega,by omega,by omega,by omega,by omega,by omega,by omega⟩
def SN (m:Mat) (e:Ev):Mat×Int :=
  let sd:=Cc m (m.inns.length:Int)
  let b:=Bm m.rules sd (FX m sd) (cond (sd==2) m.pen2 m.pen1)
  let t:=Av m.rules b.1 e
  cond (!(b.2==0)) (m,1) (cond (!(t.2==0)) (m,t.2)
    ({ m with stage:=3,inns:=m.inns++[t.1],pen1:=cond (sd==1) 0 m.pen1,pen2:=cond (sd==2) 0 m.pen2 },0))
def NR (xs:List Inn) (sd:Int):Nat→Option Nat
 | 0=>none
 | k+1=>cond ((inn xs k).side==sd) (some k) (NR xs sd k)
def II (m:Mat) (sd:Int):Mat:=match NR m.inns sd m.inns.length with
 | some k=>{ m with inns:=m.inns.set k (J1 (inn m.inns k)) }
 | none=>{ m with pen1:=cond (sd==1) (IntKind.i64.wrap (m.pen1+5)) m.pen1,pen2:=cond (sd==2) (IntKind.i64.wrap (m.pen2+5)) m.pen2 }
def Dx (m:Mat) (e:Ev):Mat×Int :=
 let t:=Av m.rules (AY m) e
 cond (!(t.2==0)) (m,t.2) (cond (e.kind==13 && !(e.side==t.1.side)) (II { m with inns:=m.inns.set (lnx m.inns) t.1 } e.side) { m with inns:=m.inns.set (lnx m.inns) t.1 },0)
def jM (m:Mat):Mat:={ m with inns:=cond (m.stage==3) (m.inns.set (lnx m.inns) { AY m with ending:=5 }) m.inns,stage:=5,win:=Z3 m.rules,wside:=0,margin:=0 }
def GG (m:Mat) (e:Ev):Mat×Int :=
  cond (e.kind==1) (cond (!(m.stage==1)) (m,1) ({ m with first:=cond e.yes e.side (Bd e.side),stage:=2 },0))
    (cond (e.kind==2) (cond (!(m.stage==2)) (m,1) (SN m e))
      (cond (e.kind==12) (cond (!(m.stage==4)) (m,1) (cond (!(e.side==m.first)) (m,2) ({ m with follow:=e.yes,stage:=2 },0)))
        (cond (e.kind==16) (jM m,0) (cond (!(m.stage==3)) (m,1) (Dx m e)))))
def Oi (m:Mat):Mat :=
  let n:Int:=m.inns.length
  let sd:=(AY m).side
  let o:=OB { m with stage:=5 }
  cond (n==IntKind.i64.wrap (2 * m.rules.innings)||(n==3&&iLt (BK m sd) (BK m (Bd sd)))) { m with stage:=5,win:=o.1,wside:=o.2.1,margin:=o.2.2 }
    (cond (n==2&&iLt 0 m.rules.followon&&iLe m.rules.followon (IntKind.i64.wrap (BK m m.first - BK m (Bd m.first)))) { m with stage:=4 } { m with stage:=2 })
def CF (m:Mat):Mat:=cond (m.stage==3 && !((AY m).ending==0)) (Oi m) m
def CM (m:Mat) (e:Ev):Mat×Int :=
 cond (!Ci m || !(evS e==0)) (m,1) (cond (m.stage==5) (m,26) (cond (!((GG m e).2==0)) (m,(GG m e).2) (CF (GG m e).1,0)))
theorem jC {X:Option (List PV)} {r:List PV} {k:List PV→Option (List PV)} {g:Option (List PV)} (h:X=some r) (hk:k r=g):X.bind k=g:=by rw [h];exact hk
structure MatOk (m:Mat):Prop where
 code:A4 m.rules=0
 len:m.inns.length≤4
 innv:∀ i,i<m.inns.length→FC m.rules (inn m.inns i)=true∧(inn m.inns i).side=Cc m (i:Int)
 begun:(m.stage==3)=true→((m.inns.length:Int)==0)=false
 toss:(m.stage==2)=true→m.first=1∨m.first=2
 room:(m.stage==2)=true→(m.inns.length:Int)<2 * m.rules.innings
 most:IntKind.i64.wrap (2 * m.rules.innings)=2 * m.rules.innings∧(m.inns.length:Int)≤2 * m.rules.innings
theorem VR {m:Mat} (h:Ci m=true):MatOk m:=by
 unfold Ci pw at h;simp only [zzj,Bool.not_eq_true'] at h;obtain ⟨⟨h1,h2,h3,h4,h5,h6,h7,h8,h9,h10⟩,h11,h12⟩:=h;have hc:=beq_iff_eq.1 h1;have rk:=(C9 hc).innings;have e2:IntKind.i64.wrap (2 * m.rules.innings)=2 * m.rules.innings:=CK (by omega) (by omega);rw [e2] at h5 h8;rw [Bool.or_eq_false_iff,Bool.or_eq_false_iff] at h5;have hn:=h5.2;have hf1:=h5.1.1;have hf2:=h5.1.2;simp only [iLt,decide_eq_false_iff_not] at hn hf1 hf2;refine ⟨hc,by omega,fun i hi=>?_,fun hs=>?_,fun hs=>?_,fun hs=>?_,e2,by omega⟩
 ·have:=L7.1 h11 i (by omega) (by omega);unfold Kr at this;rw [Bool.or_eq_false_iff,Bool.not_eq_false',Bool.not_eq_false',beq_iff_eq] at this;exact this
 ·unfold aL at h12;rw [hs,zzj] at h12;have:=h12.2;simp only [iLt,Bool.not_true,Bool.false_or,decide_eq_true_eq] at this;exact beq_false_of_ne (by omega)
 ·rw [beq_iff_eq.1 hs] at h6;cases h0:m.first==0 with
  | true=>rw [h0] at h6;simp at h6
  | false =>
   rw [beq_eq_false_iff_ne] at h0;omega
 ·rw [hs,Bool.true_and,beq_eq_false_iff_ne] at h8;omega
theorem xi {m:Mat} (h:m.first=1∨m.first=2) (i:Int):Cc m i=1∨Cc m i=2:=by
 unfold Cc;cases cond (m.follow&&iLe 2 i) (i==2) (i.tmod 2==1) with
 | false=>exact h
 | true=>rcases h with h | h<;>rw [h]<;>decide
theorem sH {m:Mat} (h:MatOk m):D9 m.inns:=fun i hi=>(QQ (h.innv i hi).1).2.2
theorem dH {F : (List Ac → Option (List PV)) → List PV → Option (List PV)} {len : Nat} (enc : Nat → List Ac) (ans : Nat → Option (List PV))
    (h0:∀ self,F self ((enc len).map Leaf.pv)=some [.int 1]) (h1:∀ i self,i<len→F self ((enc i).map Leaf.pv)=match ans i with | some r=>some (.int 0::r) | none=>self (enc (i+1))) :
    ∀ (k i n:Nat),i+k=len→k<n→ES F n ((enc i).map Leaf.pv)=some (Ui (Ca ans k i))
  | 0,i,n,hk,hn=>by
    obtain ⟨n,rfl⟩:∃ m,n=m+1:=⟨n - 1,by omega⟩;obtain rfl:i=len:=by omega
    exact h0 _
  | k+1,i,n,hk,hn=>by
    obtain ⟨n,rfl⟩:∃ m,n=m+1:=⟨n - 1,by omega⟩;show F _ _=_;rw [h1 i _ (by omega)];simp only [Ca];cases ans i with
    | some r=>rfl
    | none=>exact dH enc ans h0 h1 k (i+1) n (by omega) (by omega)
theorem qg (ys:List Inn) (sd:Int) (g:Nat→List PV) (n:Nat):∀ k,k≤n→Ca (fun j=>cond ((inn ys (n - 1 - j)).side==sd) (some (g (n - 1 - j))) none) k (n - k)=(NR ys sd k).map g
 | 0,_=>rfl
 | k+1,h=>by
  have ih:=qg ys sd g n k (by omega);have e:n - 1 - (n - (k+1))=k:=by omega
  have e2:n - (k+1)+1=n - k:=by omega
  simp only [Ca,NR,e,e2,ih];cases (inn ys k).side==sd<;>rfl
theorem jR (xs:List Inn) (k:Nat) (s:Inn) (i:Nat) (hi:i<xs.length):inn (xs.set k s) i=(if k=i then s else inn xs i):=by
 rw [P8,P8,List.getElem?_set]
 by_cases h:k=i
 ·subst h;rw [if_pos rfl,if_pos rfl,if_pos hi]
 ·rw [if_neg h,if_neg h]
theorem RB {xs:List Inn} {s:Inn} (k:Nat) (h:D9 xs) (hs:s.Fit):D9 (xs.set k s):=fun i hi=>by
 rw [List.length_set] at hi;rw [jR xs k s i hi]
 by_cases e:k=i
 ·rw [if_pos e];exact hs
 ·rw [if_neg e];exact h i hi
theorem rx {e:Ev} (h:(evS e==0)=true) (hk:(e.kind==13)=true):e.side=1∨e.side=2:=by
 have h0:=jF h;rw [beq_iff_eq] at hk;unfold evS at h;rw [h0] at h;cases h1:qX e with
 | true=>rw [h1] at h;cases h
 | false =>
  cases h2:fa e with
  | true=>rw [h1,h2] at h;cases h
  | false =>
   unfold fa at h2;rw [Bool.or_eq_false_iff] at h2;have h3:=h2.1;rw [hk,show uS 13=true from rfl,Bool.and_true] at h3;simp only [btw,iLe,Bool.not_eq_false',zzj,decide_eq_true_eq] at h3;omega
theorem AFU (xs:List Inn) (s:Inn) (i:Nat) (hi:i<xs.length+1):inn (xs++[s]) i=(if i<xs.length then inn xs i else s):=by
 rw [P8,P8]
 by_cases h:i<xs.length
 ·rw [if_pos h,List.getElem?_append_left h]
 ·have:i=xs.length:=by omega
  subst this;rw [if_neg h,List.getElem?_append_right (Nat.le_refl _),Nat.sub_self];rfl
theorem AC3 {xs:List Inn} {s:Inn} (h:D9 xs) (hs:s.Fit):D9 (xs++[s]):=fun i hi=>by
 rw [List.length_append] at hi;rw [AFU xs s i hi]
 by_cases e:i<xs.length
 ·rw [if_pos e];exact h i e
 ·rw [if_neg e];exact hs
theorem qr (r:Rul) (a b c:Int) (e:Ev):(Av r (Bm r a b c).1 e).1.Fit:=by
 obtain ⟨f,h1,h2⟩:=I1 r a b c;exact LA (Sl r _ e) f (by rw [h1,h2];exact Nat.zero_le _)
structure ActOk (m:Mat) (x:Mat×Int):Prop where
 rules:x.1.rules=m.rules
 fit:D9 x.1.inns
 len:x.1.inns.length≤5
 some':(x.2==0)=true→(x.1.stage==3)=true→((x.1.inns.length:Int)==0)=false
theorem A_c {m:Mat} (b:Bool) (x y:Mat×Int) (hx:ActOk m x) (hy:ActOk m y):ActOk m (cond b x y):=by cases b<;>assumption
theorem vA {m:Mat} (sd:Int) (hf:D9 m.inns):(II m sd).rules=m.rules∧D9 (II m sd).inns∧(II m sd).inns.length=m.inns.length∧(II m sd).stage=m.stage:=by
 unfold II;cases h:NR m.inns sd m.inns.length with
 | none=>exact ⟨rfl,hf,rfl,rfl⟩
 | some k =>
  have hk:k<m.inns.length:=by
   have:∀ n,NR m.inns sd n=some k→k<n:=by
    intro n
    induction n with
    | zero=>intro h;cases h
    | succ n ih =>
     intro h;unfold NR at h;cases hq:(inn m.inns n).side==sd with
     | true=>rw [hq] at h;cases h;omega
     | false=>rw [hq] at h;have:=ih h;omega
   exact this _ h
  exact ⟨rfl,RB k hf (AEn (hf k hk)),List.length_set,rfl⟩
theorem xG {m:Mat} (ok:MatOk m) (e:Ev):ActOk m (GG m e):=by
 have hf:=sH ok;have hl:=ok.len;have self:∀ n:Int,(n==0)=false→ActOk m (m,n):=fun n hn=>⟨rfl,hf,by show m.inns.length≤5;omega,fun h=>by rw [hn] at h;cases h⟩
 unfold GG;refine A_c _ _ _ (A_c _ _ _ (self 1 rfl) ⟨rfl,hf,by show m.inns.length≤5;omega,fun _ h=>by cases h⟩) (A_c _ _ _ ?_ (A_c _ _ _ ?_ (A_c _ _ _ ?_ ?_)))
 ·refine A_c _ _ _ (self 1 rfl) ?_;unfold SN;refine A_c _ _ _ (self 1 rfl) ?_;cases hq:(Av m.rules (Bm m.rules (Cc m (m.inns.length:Int)) (FX m (Cc m (m.inns.length:Int))) (cond (Cc m (m.inns.length:Int)==2) m.pen2 m.pen1)).1 e).2==0 with
  | false =>
   simp only [Bool.not_false,cond_true];exact self _ hq
  | true =>
   simp only [Bool.not_true,cond_false];exact ⟨rfl,AC3 hf (qr _ _ _ _ e),by simp;omega,fun _ _=>by
    show ((((m.inns++[_]).length:Nat):Int)==0)=false;rw [List.length_append];exact beq_false_of_ne (by simp;omega)⟩
 ·exact A_c _ _ _ (self 1 rfl) (A_c _ _ _ (self 2 rfl) ⟨rfl,hf,by show m.inns.length≤5;omega,fun _ h=>by cases h⟩)
 ·unfold jM;cases h3:m.stage==3 with
  | false=>exact ⟨rfl,hf,by show m.inns.length≤5;omega,fun _ h=>by cases h⟩
  | true =>
   have h0:=ok.begun h3;have fl:=hf (lnx m.inns) (ZL h0 (by omega));exact ⟨rfl,RB _ hf ⟨fl.bt,fl.bw,fl.bf,fl.bd,fl.sb⟩,by show (m.inns.set _ _).length≤5;rw [List.length_set];omega,fun _ h=>by cases h⟩
 ·cases h3:m.stage==3 with
  | false=>exact self 1 rfl
  | true =>
   have h0:=ok.begun h3;have lv:=QQ (ok.innv (lnx m.inns) (ZL h0 (by omega))).1;have h1:=lv.1;have h2:=lv.2.1;have ft:=LA (Sl m.rules (AY m) e) lv.2.2 (show (inn m.inns (lnx m.inns)).before.length+(inn m.inns (lnx m.inns)).bowlers.length≤1048575 by omega);simp only [Bool.not_true,cond_false,Dx];cases hq:(Av m.rules (AY m) e).2==0 with
   | false =>
    simp only [Bool.not_false,Bool.not_true,cond_true,cond_false];exact self _ hq
   | true =>
    have fs:=RB (lnx m.inns) hf ft;have ln:(m.inns.set (lnx m.inns) (Av m.rules (AY m) e).1).length=m.inns.length:=List.length_set;simp only [Bool.not_true,cond_false];cases (e.kind==13 && !(e.side==(Av m.rules (AY m) e).1.side)) with
    | false =>
     exact ⟨rfl,fs,by show (m.inns.set _ _).length≤5;omega,fun _ _=>by
      show ((((m.inns.set _ _).length:Nat):Int)==0)=false;rw [ln];exact h0⟩
    | true =>
     obtain ⟨a1,a2,a3,a4⟩:=vA (m:={ m with inns:=m.inns.set (lnx m.inns) (Av m.rules (AY m) e).1 }) e.side fs;exact ⟨a1,a2,by show (II _ _).inns.length≤5;rw [a3];show (m.inns.set _ _).length≤5;omega,fun _ _=>by
      show ((((II _ _).inns.length:Nat):Int)==0)=false;rw [a3];show ((((m.inns.set _ _).length:Nat):Int)==0)=false;rw [ln];exact h0⟩
set_option maxHeartbeats 8000000 in
theorem xS {N:Nat} {m8 m16:Bool} {m0:ByteArray} {m13:Rows} {m17:List Inn} {e4 e12 e17:Bool} (hN:2097152<N) (hf:D9 m17) (hl:m17.length≤1000000) (hs:m0.size≤1048576) (h13:m13.length≤1048576):PH N [.str m0,.int m1,.int m2,.int m3,.int m4,.int m5,.int m6,.int m7,.bool m8,.int m9,.int m10,.int m11,.int m12,.rows m13,.int m14,.int m15,.bool m16,.rows (Aa m17),.int m18,.int m19,.int m20,.int m21,.int m22,.int e0,.int e1,.int e2,.int e3,.bool e4,.int e5,.int e6,.int e7,.int e8,.int e9,.int e10,.int e11,.bool e12,.int e13,.int e14,.int e15,.int e16,.bool e17,.int e18]=some (HT (CM (⟨⟨m0,m1,m2,m3,m4,m5,m6,m7,m8,m9,m10,m11,m12,m13⟩,m14,m15,m16,m17,m18,m19,m20,m21,m22⟩:Mat) (⟨e0,e1,e2,e3,e4,e5,e6,⟨e7,e8,e9,e10,e11,e12,e13,e14,e15,e16,e17,e18⟩⟩:Ev))):=by
 show PI (std (BR N) N) (xOf _)=_;generalize hres:(some (HT (CM (⟨⟨m0,m1,m2,m3,m4,m5,m6,m7,m8,m9,m10,m11,m12,m13⟩,m14,m15,m16,m17,m18,m19,m20,m21,m22⟩:Mat) (⟨e0,e1,e2,e3,e4,e5,e6,⟨e7,e8,e9,e10,e11,e12,e13,e14,e15,e16,e17,e18⟩⟩:Ev))):Option (List PV))=RR;simp only [PI,WG,V8,VT,Ff,Fg,K5,Jl,Eo,FI,DW,Dt,IU,lq9,std,xOf,PXb,dP hf hN hl hs,eA hN,uA hf hN hl h13];subst hres;simp only [CM];cases hv:Ci (⟨⟨m0,m1,m2,m3,m4,m5,m6,m7,m8,m9,m10,m11,m12,m13⟩,m14,m15,m16,m17,m18,m19,m20,m21,m22⟩:Mat)
 case false=>rfl
 cases he:evS (⟨e0,e1,e2,e3,e4,e5,e6,⟨e7,e8,e9,e10,e11,e12,e13,e14,e15,e16,e17,e18⟩⟩:Ev)==0
 case false=>simp only [PXb,he];rfl
 simp only [PXb,he];cases h5:m14==5
 case true=>rfl
 simp only [PXb];have ok:=VR hv;refine jC (r:=.int (GG (⟨⟨m0,m1,m2,m3,m4,m5,m6,m7,m8,m9,m10,m11,m12,m13⟩,m14,m15,m16,m17,m18,m19,m20,m21,m22⟩:Mat) (⟨e0,e1,e2,e3,e4,e5,e6,⟨e7,e8,e9,e10,e11,e12,e13,e14,e15,e16,e17,e18⟩⟩:Ev)).2::(GG (⟨⟨m0,m1,m2,m3,m4,m5,m6,m7,m8,m9,m10,m11,m12,m13⟩,m14,m15,m16,m17,m18,m19,m20,m21,m22⟩:Mat) (⟨e0,e1,e2,e3,e4,e5,e6,⟨e7,e8,e9,e10,e11,e12,e13,e14,e15,e16,e17,e18⟩⟩:Ev)).1.ls) ?_ ?_
 ·unfold GG;cases hk1:e0==1
  case true =>
   simp only [PXb,Fg,Jc];cases m14==1<;>cases e4<;>rfl
  cases hk2:e0==2
  case true =>
   simp only [PXb];cases hs2:m14==2
   case false=>rfl
   have hl2:m17.length≤1048576:=by omega
   have h304:iSm ((m17.length+1:Nat):Int) 304=true:=DJ (by omega) (by omega);have fb:=fun a b c=>(I1 (⟨⟨m0,m1,m2,m3,m4,m5,m6,m7,m8,m9,m10,m11,m12,m13⟩,m14,m15,m16,m17,m18,m19,m20,m21,m22⟩:Mat).rules a b c).1
   have wb:∀ a b c,(Bm (⟨⟨m0,m1,m2,m3,m4,m5,m6,m7,m8,m9,m10,m11,m12,m13⟩,m14,m15,m16,m17,m18,m19,m20,m21,m22⟩:Mat).rules a b c).1.before.length+(Bm (⟨⟨m0,m1,m2,m3,m4,m5,m6,m7,m8,m9,m10,m11,m12,m13⟩,m14,m15,m16,m17,m18,m19,m20,m21,m22⟩:Mat).rules a b c).1.bowlers.length≤1000000:=fun a b c=>by
    rw [(I1 (⟨⟨m0,m1,m2,m3,m4,m5,m6,m7,m8,m9,m10,m11,m12,m13⟩,m14,m15,m16,m17,m18,m19,m20,m21,m22⟩:Mat).rules a b c).2.1,(I1 (⟨⟨m0,m1,m2,m3,m4,m5,m6,m7,m8,m9,m10,m11,m12,m13⟩,m14,m15,m16,m17,m18,m19,m20,m21,m22⟩:Mat).rules a b c).2.2];exact Nat.zero_le _
   rcases xi (m:=(⟨⟨m0,m1,m2,m3,m4,m5,m6,m7,m8,m9,m10,m11,m12,m13⟩,m14,m15,m16,m17,m18,m19,m20,m21,m22⟩:Mat)) (ok.toss hs2) (m17.length:Int) with ho | ho
   ·simp only [PXb,PXc,Cy,WJ,Nat.reduceAdd,Int.reduceBEq,PXi,PXr,Inn.eta,Ai,List.length_append,List.length_cons,List.length_nil,h304,SN,Ff,FI,Eo,DW,Tg,aO hN hl2,XV hN hs,Q9 (fb _ _ _) (wb _ _ _) hN hs h13,ho,wr1,wr2,YC,Yt];cases (Bm (⟨⟨m0,m1,m2,m3,m4,m5,m6,m7,m8,m9,m10,m11,m12,m13⟩,m14,m15,m16,m17,m18,m19,m20,m21,m22⟩:Mat).rules 1 (FX (⟨⟨m0,m1,m2,m3,m4,m5,m6,m7,m8,m9,m10,m11,m12,m13⟩,m14,m15,m16,m17,m18,m19,m20,m21,m22⟩:Mat) 1) m18).2==0<;>try rfl
    cases (Av (⟨⟨m0,m1,m2,m3,m4,m5,m6,m7,m8,m9,m10,m11,m12,m13⟩,m14,m15,m16,m17,m18,m19,m20,m21,m22⟩:Mat).rules (Bm (⟨⟨m0,m1,m2,m3,m4,m5,m6,m7,m8,m9,m10,m11,m12,m13⟩,m14,m15,m16,m17,m18,m19,m20,m21,m22⟩:Mat).rules 1 (FX (⟨⟨m0,m1,m2,m3,m4,m5,m6,m7,m8,m9,m10,m11,m12,m13⟩,m14,m15,m16,m17,m18,m19,m20,m21,m22⟩:Mat) 1) m18).1 (⟨e0,e1,e2,e3,e4,e5,e6,⟨e7,e8,e9,e10,e11,e12,e13,e14,e15,e16,e17,e18⟩⟩:Ev)).2==0<;>rfl
   ·simp only [PXb,PXc,Cy,WJ,Nat.reduceAdd,Int.reduceBEq,PXi,PXr,Inn.eta,Ai,List.length_append,List.length_cons,List.length_nil,h304,SN,Ff,FI,Eo,DW,Tg,aO hN hl2,XV hN hs,Q9 (fb _ _ _) (wb _ _ _) hN hs h13,ho,wr1,wr2,YC,Yt];cases (Bm (⟨⟨m0,m1,m2,m3,m4,m5,m6,m7,m8,m9,m10,m11,m12,m13⟩,m14,m15,m16,m17,m18,m19,m20,m21,m22⟩:Mat).rules 2 (FX (⟨⟨m0,m1,m2,m3,m4,m5,m6,m7,m8,m9,m10,m11,m12,m13⟩,m14,m15,m16,m17,m18,m19,m20,m21,m22⟩:Mat) 2) m19).2==0<;>try rfl
    cases (Av (⟨⟨m0,m1,m2,m3,m4,m5,m6,m7,m8,m9,m10,m11,m12,m13⟩,m14,m15,m16,m17,m18,m19,m20,m21,m22⟩:Mat).rules (Bm (⟨⟨m0,m1,m2,m3,m4,m5,m6,m7,m8,m9,m10,m11,m12,m13⟩,m14,m15,m16,m17,m18,m19,m20,m21,m22⟩:Mat).rules 2 (FX (⟨⟨m0,m1,m2,m3,m4,m5,m6,m7,m8,m9,m10,m11,m12,m13⟩,m14,m15,m16,m17,m18,m19,m20,m21,m22⟩:Mat) 2) m19).1 (⟨e0,e1,e2,e3,e4,e5,e6,⟨e7,e8,e9,e10,e11,e12,e13,e14,e15,e16,e17,e18⟩⟩:Ev)).2==0<;>rfl
  cases hk3:e0==12
  case true =>
   simp only [PXb];cases m14==4<;>cases e1==m15<;>rfl
  cases hk4:e0==16
  case true =>
   simp only [PXb,jM];cases h3:m14==3
   case false=>simp only [PXb,PXc,PXi,PXr,Cy,Nat.reduceAdd,Dt,LU];rfl
   simp only [PXb,PXc,PXi,PXr,Cy,Nat.reduceAdd,OX (ok.begun h3) hl,Dt,LU];rfl
  simp only [PXb];cases h3:m14==3
  case false=>rfl
  have h0:=ok.begun h3;have lv:=QQ (ok.innv (lnx m17) (ZL h0 hl)).1;have fl:(inn m17 (IntKind.i64.wrap ((m17.length:Int) - 1)).toNat).Fit:=lv.2.2;have wl:(inn m17 (IntKind.i64.wrap ((m17.length:Int) - 1)).toNat).before.length+(inn m17 (IntKind.i64.wrap ((m17.length:Int) - 1)).toNat).bowlers.length≤1000000:=by
   have h1:=lv.1;have h2:=lv.2.1;change (inn m17 (IntKind.i64.wrap ((m17.length:Int) - 1)).toNat).bowlers.length≤11 at h1;change (inn m17 (IntKind.i64.wrap ((m17.length:Int) - 1)).toNat).before.length≤11 at h2;omega
  have f1:=LA (Sl (⟨⟨m0,m1,m2,m3,m4,m5,m6,m7,m8,m9,m10,m11,m12,m13⟩,m14,m15,m16,m17,m18,m19,m20,m21,m22⟩:Mat).rules (inn m17 (IntKind.i64.wrap ((m17.length:Int) - 1)).toNat) (⟨e0,e1,e2,e3,e4,e5,e6,⟨e7,e8,e9,e10,e11,e12,e13,e14,e15,e16,e17,e18⟩⟩:Ev)) fl (by omega);simp only [PXb,PXc,PXi,PXr,Ai,Inn.eta,Cy,Nat.reduceAdd,List.length_set,OX h0 hl,DW,Q9 fl wl hN hs h13,Dx,AY,lnx];generalize hX:Av (⟨⟨m0,m1,m2,m3,m4,m5,m6,m7,m8,m9,m10,m11,m12,m13⟩,m14,m15,m16,m17,m18,m19,m20,m21,m22⟩:Mat).rules (inn m17 (IntKind.i64.wrap ((m17.length:Int) - 1)).toNat) (⟨e0,e1,e2,e3,e4,e5,e6,⟨e7,e8,e9,e10,e11,e12,e13,e14,e15,e16,e17,e18⟩⟩:Ev)=X at f1;have fy:=RB (IntKind.i64.wrap ((m17.length:Int) - 1)).toNat hf f1;generalize hy:m17.set (IntKind.i64.wrap ((m17.length:Int) - 1)).toNat X.1=ys at fy;have ly:ys.length=m17.length:=by rw [← hy,List.length_set]
  cases X.2==0<;>try rfl
  cases h13k:e0==13
  case false=>rfl
  cases hsd:e1==X.1.side
  case true=>rfl
  simp only [PXb,Option.bind_assoc];have e0w:IntKind.i64.wrap ((m17.length:Int) - 1)=(m17.length:Int) - 1 - ((0:Nat):Int):=by
   rw [beq_eq_false_iff_ne] at h0;rw [CK (by omega) (by omega)];omega
  rw [e0w];have hside:=rx (e:=(⟨e0,e1,e2,e3,e4,e5,e6,⟨e7,e8,e9,e10,e11,e12,e13,e14,e15,e16,e17,e18⟩⟩:Ev)) he h13k;simp only at hside;refine AN (dH (len:=m17.length) (fun j=>[.int ((m17.length:Int) - 1 - (j:Int))]) (fun j=>cond ((inn ys (m17.length - 1 - j)).side==e1) (some [PV.str m0,PV.int m1,PV.int m2,PV.int m3,PV.int m4,PV.int m5,PV.int m6,PV.int m7,PV.bool m8,PV.int m9,PV.int m10,PV.int m11,PV.int m12,PV.rows m13,PV.int m14,PV.int m15,PV.bool m16,PV.rows (Aa (ys.set (m17.length - 1 - j) (J1 (inn ys (m17.length - 1 - j))))),PV.int m18,PV.int m19,PV.int m20,PV.int m21,PV.int m22]) none) ?_ ?_ m17.length 0 N (by omega) (by omega)) ?_
  ·intro self;have q1:iLe 0 ((m17.length:Int) - 1 - (m17.length:Int))=false:=by simp only [iLe,decide_eq_false_iff_not];omega
   simp only [PXb,q1]
  ·intro i self hi;have q1:iLe 0 ((m17.length:Int) - 1 - (i:Int))=true:=by simp only [iLe,decide_eq_true_eq];omega
   have q2:iIn ((m17.length:Int) - 1 - (i:Int)) (m17.length:Int)=true:=by simp only [iIn,decide_eq_true_eq];omega
   have q3:((m17.length:Int) - 1 - (i:Int)).toNat=m17.length - 1 - i:=by omega
   have q4:IntKind.i64.wrap ((m17.length:Int) - 1 - (i:Int) - 1)=(m17.length:Int) - 1 - ((i+1:Nat):Int):=by rw [CK (by omega) (by omega)];omega
   have q5:=fy (m17.length - 1 - i) (by omega);simp only [PXb,PXc,q1,q2,q3,q4,IU,Tz q5,PXm];cases (inn ys (m17.length - 1 - i)).side==e1<;>rfl
  ·have hfa:=qg ys e1 (fun k=>[PV.str m0,PV.int m1,PV.int m2,PV.int m3,PV.int m4,PV.int m5,PV.int m6,PV.int m7,PV.bool m8,PV.int m9,PV.int m10,PV.int m11,PV.int m12,PV.rows m13,PV.int m14,PV.int m15,PV.bool m16,PV.rows (Aa (ys.set k (J1 (inn ys k)))),PV.int m18,PV.int m19,PV.int m20,PV.int m21,PV.int m22]) m17.length m17.length (Nat.le_refl _);rw [Nat.sub_self] at hfa;rw [hfa];unfold II;simp only [ly];cases NR ys e1 m17.length with
   | some k=>rfl
   | none =>
    rcases hside with h | h<;>subst h
    ·simp only [Option.map_none,Ui,PXb,PXc,Cy,Int.reduceBEq,wr1,YC];rfl
    ·simp only [Option.map_none,Ui,PXb,PXc,Cy,Int.reduceBEq,wr2,Yt];rfl
 ·have ak:=xG ok (⟨e0,e1,e2,e3,e4,e5,e6,⟨e7,e8,e9,e10,e11,e12,e13,e14,e15,e16,e17,e18⟩⟩:Ev);generalize GG (⟨⟨m0,m1,m2,m3,m4,m5,m6,m7,m8,m9,m10,m11,m12,m13⟩,m14,m15,m16,m17,m18,m19,m20,m21,m22⟩:Mat) (⟨e0,e1,e2,e3,e4,e5,e6,⟨e7,e8,e9,e10,e11,e12,e13,e14,e15,e16,e17,e18⟩⟩:Ev)=A at ak;obtain ⟨⟨⟨a0,a1,a2,a3,a4,a5,a6,a7,a8,a9,a10,a11,a12,a13⟩,a14,a15,a16,a17,a18,a19,a20,a21,a22⟩,l⟩:=A;obtain ⟨k1,k2,k3,k4⟩:=ak;simp only at k1 k2 k3 k4;have hl5:a17.length≤1048576:=by omega
  have hs5:a0.size≤1048576:=by
   have:=congrArg Rul.name k1;simp only at this;rw [this];exact hs
  simp only [PXb,PXc,PXk,PXi,Cy,Nat.reduceAdd];cases hl0:l==0
  case false=>rfl
  simp only [PXb,CF];cases h3:a14==3
  case false=>rfl
  have h0:=k4 hl0 h3;have li:=OX h0 (show a17.length≤1000000 by omega);simp only [PXb,PXc,PXi,li];cases he2:(inn a17 (IntKind.i64.wrap ((a17.length:Int) - 1)).toNat).ending==0
  case true=>simp only [PXb,AY,lnx,he2]
  simp only [PXb,PXc,PXi,AY,lnx,he2,K5,Fg,Jl,TO hN hl5,Jc,nN k2 hN (show a17.length≤1000000 by omega) hs5];unfold Oi;simp only [AY,lnx];simp only [BK,AY,lnx];cases hq1:((a17.length:Int)==IntKind.i64.wrap (2 * a2))
  case true=>rfl
  cases hq2:((a17.length:Int)==3)
  case true =>
   simp only [PXb];cases iLt (HL a17 (inn a17 (IntKind.i64.wrap ((a17.length:Int) - 1)).toNat).side a17.length) (HL a17 (Bd (inn a17 (IntKind.i64.wrap ((a17.length:Int) - 1)).toNat).side) a17.length)
   case true=>rfl
   simp only [PXb];cases ((a17.length:Int)==2)&&iLt 0 a10&&iLe a10 (IntKind.i64.wrap (HL a17 a15 a17.length - HL a17 (Bd a15) a17.length))<;>rfl
  simp only [PXb];cases ((a17.length:Int)==2)&&iLt 0 a10&&iLe a10 (IntKind.i64.wrap (HL a17 a15 a17.length - HL a17 (Bd a15) a17.length))<;>rfl
def Vp (m:Mat):Int:=cond (!Ci m) 0 (cond (m.stage==3) (AY m).side (cond (m.stage==2) (Cc m (m.inns.length:Int)) 0))
theorem tx {N:Nat} {m8 m16:Bool} {m0:ByteArray} {m13:Rows} {m17:List Inn} (hf:D9 m17) (hN:2097152<N) (hl:m17.length≤1000000) (hs:m0.size≤1048576):JQ N [.str m0,.int m1,.int m2,.int m3,.int m4,.int m5,.int m6,.int m7,.bool m8,.int m9,.int m10,.int m11,.int m12,.rows m13,.int m14,.int m15,.bool m16,.rows (Aa m17),.int m18,.int m19,.int m20,.int m21,.int m22]=some [.int (Vp (⟨⟨m0,m1,m2,m3,m4,m5,m6,m7,m8,m9,m10,m11,m12,m13⟩,m14,m15,m16,m17,m18,m19,m20,m21,m22⟩:Mat))]:=by
 show Jn (std (C4 N) N) (xOf _)=_;generalize hres:(some [.int (Vp (⟨⟨m0,m1,m2,m3,m4,m5,m6,m7,m8,m9,m10,m11,m12,m13⟩,m14,m15,m16,m17,m18,m19,m20,m21,m22⟩:Mat))]:Option (List PV))=RR;simp only [Jn,Wt,Mg,LT,lq9,std,xOf,PXb,Yw hf hN hl hs];subst hres;simp only [Vp];cases hv:Ci (⟨⟨m0,m1,m2,m3,m4,m5,m6,m7,m8,m9,m10,m11,m12,m13⟩,m14,m15,m16,m17,m18,m19,m20,m21,m22⟩:Mat)
 case false=>rfl
 have ok:=VR hv;simp only [PXb];cases h3:m14==3
 case true=>simp only [PXb,PXi,Mg,Ue (ok.begun h3) hl,AY,PXm]
 cases h2:m14==2
 case false=>rfl
 have hr:=ok.room h2;have rk:=(C9 ok.code).innings;simp only at hr rk;have hi3:0≤(m17.length:Int)∧(m17.length:Int)≤3:=by omega
 simp only [PXb,PXi,LT,fR hi3]
theorem ACM {m:Mat} (ok:MatOk m) (h2:(m.stage==2)=true) (sd:Int):FX m sd=cond (IntKind.i64.wrap ((m.inns.length:Int)+1)==IntKind.i64.wrap (2 * m.rules.innings)) (IntKind.i64.wrap (IntKind.i64.wrap (BK m (Bd sd) - BK m sd)+1)) 0:=by
 have hr:=ok.room h2;have hm:=ok.most.1;have hl:=ok.len;unfold FX;rw [hm,CK (by omega) (by omega)];cases hq:((m.inns.length:Int)+1==2 * m.rules.innings) with
 | true =>
  rw [beq_iff_eq] at hq;rw [show iLt ((m.inns.length:Int)+1) (2 * m.rules.innings)=false by simp only [iLt,decide_eq_false_iff_not];omega];rfl
 | false =>
  rw [beq_eq_false_iff_ne] at hq;rw [show iLt ((m.inns.length:Int)+1) (2 * m.rules.innings)=true by simp only [iLt,decide_eq_true_eq];omega];rfl
set_option maxHeartbeats 4000000 in
theorem z8 {N:Nat} {m8 m16:Bool} {m0:ByteArray} {m13:Rows} {m17:List Inn} {e4 e12 e17:Bool} (hN:2097152<N) (hf:D9 m17) (hl:m17.length≤1000000) (hs:m0.size≤1048576) (h13:m13.length≤1048576) (ok:MatOk (⟨⟨m0,m1,m2,m3,m4,m5,m6,m7,m8,m9,m10,m11,m12,m13⟩,m14,m15,m16,m17,m18,m19,m20,m21,m22⟩:Mat)) (hv:Ci (⟨⟨m0,m1,m2,m3,m4,m5,m6,m7,m8,m9,m10,m11,m12,m13⟩,m14,m15,m16,m17,m18,m19,m20,m21,m22⟩:Mat)=true) (hs2:(m14==2)=true):Pa N [.str m0,.int m1,.int m2,.int m3,.int m4,.int m5,.int m6,.int m7,.bool m8,.int m9,.int m10,.int m11,.int m12,.rows m13,.int m14,.int m15,.bool m16,.rows (Aa m17),.int m18,.int m19,.int m20,.int m21,.int m22,.int e0,.int e1,.int e2,.int e3,.bool e4,.int e5,.int e6,.int e7,.int e8,.int e9,.int e10,.int e11,.bool e12,.int e13,.int e14,.int e15,.int e16,.bool e17,.int e18]=some (HT (SN (⟨⟨m0,m1,m2,m3,m4,m5,m6,m7,m8,m9,m10,m11,m12,m13⟩,m14,m15,m16,m17,m18,m19,m20,m21,m22⟩:Mat) (⟨e0,e1,e2,e3,e4,e5,e6,⟨e7,e8,e9,e10,e11,e12,e13,e14,e15,e16,e17,e18⟩⟩:Ev))):=by
 show QX (std (DD N) N) (xOf _)=_;have hl2:m17.length≤1048576:=by omega
 have h304:iSm ((m17.length+1:Nat):Int) 304=true:=DJ (by omega) (by omega);have fb:=fun a b c=>(I1 (⟨⟨m0,m1,m2,m3,m4,m5,m6,m7,m8,m9,m10,m11,m12,m13⟩,m14,m15,m16,m17,m18,m19,m20,m21,m22⟩:Mat).rules a b c).1
 have wb:∀ a b c,(Bm (⟨⟨m0,m1,m2,m3,m4,m5,m6,m7,m8,m9,m10,m11,m12,m13⟩,m14,m15,m16,m17,m18,m19,m20,m21,m22⟩:Mat).rules a b c).1.before.length+(Bm (⟨⟨m0,m1,m2,m3,m4,m5,m6,m7,m8,m9,m10,m11,m12,m13⟩,m14,m15,m16,m17,m18,m19,m20,m21,m22⟩:Mat).rules a b c).1.bowlers.length≤1000000:=fun a b c=>by
  rw [(I1 (⟨⟨m0,m1,m2,m3,m4,m5,m6,m7,m8,m9,m10,m11,m12,m13⟩,m14,m15,m16,m17,m18,m19,m20,m21,m22⟩:Mat).rules a b c).2.1,(I1 (⟨⟨m0,m1,m2,m3,m4,m5,m6,m7,m8,m9,m10,m11,m12,m13⟩,m14,m15,m16,m17,m18,m19,m20,m21,m22⟩:Mat).rules a b c).2.2];exact Nat.zero_le _
 have hb:Vp (⟨⟨m0,m1,m2,m3,m4,m5,m6,m7,m8,m9,m10,m11,m12,m13⟩,m14,m15,m16,m17,m18,m19,m20,m21,m22⟩:Mat)=Cc (⟨⟨m0,m1,m2,m3,m4,m5,m6,m7,m8,m9,m10,m11,m12,m13⟩,m14,m15,m16,m17,m18,m19,m20,m21,m22⟩:Mat) (m17.length:Int):=by
  unfold Vp;rw [hv];have h3:(m14==3)=false:=by
   rw [beq_iff_eq] at hs2;rw [hs2];rfl
  simp only [PXb,h3,hs2]
 have ht:=fun sd=>ACM ok hs2 sd
 simp only at ht;simp only [QX,JA,Ir,YV,I0,J0,lq9,std,xOf,PXb,tx hf hN hl hs,hb]
 rcases xi (m:=(⟨⟨m0,m1,m2,m3,m4,m5,m6,m7,m8,m9,m10,m11,m12,m13⟩,m14,m15,m16,m17,m18,m19,m20,m21,m22⟩:Mat)) (ok.toss hs2) (m17.length:Int) with ho | ho
 ·simp only [PXb,PXc,ho,wr1,wr2,YC,Yt,Cy,WJ,Nat.reduceAdd,Int.reduceBEq,SN,ht,PXi,JA,Ir,HG,MW hN hl2];generalize hT:cond (IntKind.i64.wrap ((m17.length:Int)+1)==IntKind.i64.wrap (2 * m2)) (IntKind.i64.wrap (IntKind.i64.wrap (BK (⟨⟨m0,m1,m2,m3,m4,m5,m6,m7,m8,m9,m10,m11,m12,m13⟩,m14,m15,m16,m17,m18,m19,m20,m21,m22⟩:Mat) (Bd 1) - BK (⟨⟨m0,m1,m2,m3,m4,m5,m6,m7,m8,m9,m10,m11,m12,m13⟩,m14,m15,m16,m17,m18,m19,m20,m21,m22⟩:Mat) 1)+1)) 0=T;refine jC (r:=[.int T]) (by subst hT;cases IntKind.i64.wrap ((m17.length:Int)+1)==IntKind.i64.wrap (2 * m2)<;>rfl) ?_;simp only [PXb,PXc,PXi,PXr,Inn.eta,Ai,List.length_append,List.length_cons,List.length_nil,h304,Cy,WJ,Nat.reduceAdd,Int.reduceBEq,I0,J0,kX hN hs,cT (fb _ _ _) (wb _ _ _) hN hs h13];cases (Bm (⟨⟨m0,m1,m2,m3,m4,m5,m6,m7,m8,m9,m10,m11,m12,m13⟩,m14,m15,m16,m17,m18,m19,m20,m21,m22⟩:Mat).rules 1 T m18).2==0<;>try rfl
  cases (Av (⟨⟨m0,m1,m2,m3,m4,m5,m6,m7,m8,m9,m10,m11,m12,m13⟩,m14,m15,m16,m17,m18,m19,m20,m21,m22⟩:Mat).rules (Bm (⟨⟨m0,m1,m2,m3,m4,m5,m6,m7,m8,m9,m10,m11,m12,m13⟩,m14,m15,m16,m17,m18,m19,m20,m21,m22⟩:Mat).rules 1 T m18).1 (⟨e0,e1,e2,e3,e4,e5,e6,⟨e7,e8,e9,e10,e11,e12,e13,e14,e15,e16,e17,e18⟩⟩:Ev)).2==0<;>rfl
 ·simp only [PXb,PXc,ho,wr1,wr2,YC,Yt,Cy,WJ,Nat.reduceAdd,Int.reduceBEq,SN,ht,PXi,JA,Ir,HG,MW hN hl2];generalize hT:cond (IntKind.i64.wrap ((m17.length:Int)+1)==IntKind.i64.wrap (2 * m2)) (IntKind.i64.wrap (IntKind.i64.wrap (BK (⟨⟨m0,m1,m2,m3,m4,m5,m6,m7,m8,m9,m10,m11,m12,m13⟩,m14,m15,m16,m17,m18,m19,m20,m21,m22⟩:Mat) (Bd 2) - BK (⟨⟨m0,m1,m2,m3,m4,m5,m6,m7,m8,m9,m10,m11,m12,m13⟩,m14,m15,m16,m17,m18,m19,m20,m21,m22⟩:Mat) 2)+1)) 0=T;refine jC (r:=[.int T]) (by subst hT;cases IntKind.i64.wrap ((m17.length:Int)+1)==IntKind.i64.wrap (2 * m2)<;>rfl) ?_;simp only [PXb,PXc,PXi,PXr,Inn.eta,Ai,List.length_append,List.length_cons,List.length_nil,h304,Cy,WJ,Nat.reduceAdd,Int.reduceBEq,I0,J0,kX hN hs,cT (fb _ _ _) (wb _ _ _) hN hs h13];cases (Bm (⟨⟨m0,m1,m2,m3,m4,m5,m6,m7,m8,m9,m10,m11,m12,m13⟩,m14,m15,m16,m17,m18,m19,m20,m21,m22⟩:Mat).rules 2 T m19).2==0<;>try rfl
  cases (Av (⟨⟨m0,m1,m2,m3,m4,m5,m6,m7,m8,m9,m10,m11,m12,m13⟩,m14,m15,m16,m17,m18,m19,m20,m21,m22⟩:Mat).rules (Bm (⟨⟨m0,m1,m2,m3,m4,m5,m6,m7,m8,m9,m10,m11,m12,m13⟩,m14,m15,m16,m17,m18,m19,m20,m21,m22⟩:Mat).rules 2 T m19).1 (⟨e0,e1,e2,e3,e4,e5,e6,⟨e7,e8,e9,e10,e11,e12,e13,e14,e15,e16,e17,e18⟩⟩:Ev)).2==0<;>rfl
set_option maxHeartbeats 8000000 in
theorem AA6 {N:Nat} {m8 m16:Bool} {m0:ByteArray} {m13:Rows} {m17:List Inn} {e4 e12 e17:Bool} (hN:2097152<N) (hf:D9 m17) (hl:m17.length≤1000000) (hs:m0.size≤1048576) (h13:m13.length≤1048576) (ok:MatOk (⟨⟨m0,m1,m2,m3,m4,m5,m6,m7,m8,m9,m10,m11,m12,m13⟩,m14,m15,m16,m17,m18,m19,m20,m21,m22⟩:Mat)) (he:(evS (⟨e0,e1,e2,e3,e4,e5,e6,⟨e7,e8,e9,e10,e11,e12,e13,e14,e15,e16,e17,e18⟩⟩:Ev)==0)=true) (h3:(m14==3)=true):P9 N [.str m0,.int m1,.int m2,.int m3,.int m4,.int m5,.int m6,.int m7,.bool m8,.int m9,.int m10,.int m11,.int m12,.rows m13,.int m14,.int m15,.bool m16,.rows (Aa m17),.int m18,.int m19,.int m20,.int m21,.int m22,.int e0,.int e1,.int e2,.int e3,.bool e4,.int e5,.int e6,.int e7,.int e8,.int e9,.int e10,.int e11,.bool e12,.int e13,.int e14,.int e15,.int e16,.bool e17,.int e18]=some (HT (Dx (⟨⟨m0,m1,m2,m3,m4,m5,m6,m7,m8,m9,m10,m11,m12,m13⟩,m14,m15,m16,m17,m18,m19,m20,m21,m22⟩:Mat) (⟨e0,e1,e2,e3,e4,e5,e6,⟨e7,e8,e9,e10,e11,e12,e13,e14,e15,e16,e17,e18⟩⟩:Ev))):=by
 show QR (std (Fp N) N) (xOf _)=_;simp only [QR,Q0,Me,lq9,std,xOf,PXb];have h0:=ok.begun h3;have lv:=QQ (ok.innv (lnx m17) (ZL h0 hl)).1;have fl:(inn m17 (IntKind.i64.wrap ((m17.length:Int) - 1)).toNat).Fit:=lv.2.2;have wl:(inn m17 (IntKind.i64.wrap ((m17.length:Int) - 1)).toNat).before.length+(inn m17 (IntKind.i64.wrap ((m17.length:Int) - 1)).toNat).bowlers.length≤1000000:=by
  have h1:=lv.1;have h2:=lv.2.1;change (inn m17 (IntKind.i64.wrap ((m17.length:Int) - 1)).toNat).bowlers.length≤11 at h1;change (inn m17 (IntKind.i64.wrap ((m17.length:Int) - 1)).toNat).before.length≤11 at h2;omega
 have f1:=LA (Sl (⟨⟨m0,m1,m2,m3,m4,m5,m6,m7,m8,m9,m10,m11,m12,m13⟩,m14,m15,m16,m17,m18,m19,m20,m21,m22⟩:Mat).rules (inn m17 (IntKind.i64.wrap ((m17.length:Int) - 1)).toNat) (⟨e0,e1,e2,e3,e4,e5,e6,⟨e7,e8,e9,e10,e11,e12,e13,e14,e15,e16,e17,e18⟩⟩:Ev)) fl (by omega);simp only [PXb,PXc,PXi,PXr,Ai,Inn.eta,Cy,Nat.reduceAdd,List.length_set,OX h0 hl,Q0,cT fl wl hN hs h13,Dx,AY,lnx];generalize hX:Av (⟨⟨m0,m1,m2,m3,m4,m5,m6,m7,m8,m9,m10,m11,m12,m13⟩,m14,m15,m16,m17,m18,m19,m20,m21,m22⟩:Mat).rules (inn m17 (IntKind.i64.wrap ((m17.length:Int) - 1)).toNat) (⟨e0,e1,e2,e3,e4,e5,e6,⟨e7,e8,e9,e10,e11,e12,e13,e14,e15,e16,e17,e18⟩⟩:Ev)=X at f1;have fy:=RB (IntKind.i64.wrap ((m17.length:Int) - 1)).toNat hf f1;generalize hy:m17.set (IntKind.i64.wrap ((m17.length:Int) - 1)).toNat X.1=ys at fy;have ly:ys.length=m17.length:=by rw [← hy,List.length_set]
 cases X.2==0<;>try rfl
 cases h13k:e0==13
 case false=>rfl
 cases hsd:e1==X.1.side
 case true=>rfl
 simp only [PXb,Option.bind_assoc];have e0w:IntKind.i64.wrap ((m17.length:Int) - 1)=(m17.length:Int) - 1 - ((0:Nat):Int):=by
  rw [beq_eq_false_iff_ne] at h0;rw [CK (by omega) (by omega)];omega
 rw [e0w];have hside:=rx (e:=(⟨e0,e1,e2,e3,e4,e5,e6,⟨e7,e8,e9,e10,e11,e12,e13,e14,e15,e16,e17,e18⟩⟩:Ev)) he h13k;simp only at hside;refine AN (dH (len:=m17.length) (fun j=>[.int ((m17.length:Int) - 1 - (j:Int))]) (fun j=>cond ((inn ys (m17.length - 1 - j)).side==e1) (some [PV.int 0,PV.str m0,PV.int m1,PV.int m2,PV.int m3,PV.int m4,PV.int m5,PV.int m6,PV.int m7,PV.bool m8,PV.int m9,PV.int m10,PV.int m11,PV.int m12,PV.rows m13,PV.int m14,PV.int m15,PV.bool m16,PV.rows (Aa (ys.set (m17.length - 1 - j) (J1 (inn ys (m17.length - 1 - j))))),PV.int m18,PV.int m19,PV.int m20,PV.int m21,PV.int m22]) none) ?_ ?_ m17.length 0 N (by omega) (by omega)) ?_
 ·intro self;have q1:iLe 0 ((m17.length:Int) - 1 - (m17.length:Int))=false:=by simp only [iLe,decide_eq_false_iff_not];omega
  simp only [PXb,q1]
 ·intro i self hi;have q1:iLe 0 ((m17.length:Int) - 1 - (i:Int))=true:=by simp only [iLe,decide_eq_true_eq];omega
  have q2:iIn ((m17.length:Int) - 1 - (i:Int)) (m17.length:Int)=true:=by simp only [iIn,decide_eq_true_eq];omega
  have q3:((m17.length:Int) - 1 - (i:Int)).toNat=m17.length - 1 - i:=by omega
  have q4:IntKind.i64.wrap ((m17.length:Int) - 1 - (i:Int) - 1)=(m17.length:Int) - 1 - ((i+1:Nat):Int):=by rw [CK (by omega) (by omega)];omega
  have q5:=fy (m17.length - 1 - i) (by omega);simp only [PXb,PXc,q1,q2,q3,q4,Me,eJ q5,PXm];cases (inn ys (m17.length - 1 - i)).side==e1<;>rfl
 ·have hfa:=qg ys e1 (fun k=>[PV.int 0,PV.str m0,PV.int m1,PV.int m2,PV.int m3,PV.int m4,PV.int m5,PV.int m6,PV.int m7,PV.bool m8,PV.int m9,PV.int m10,PV.int m11,PV.int m12,PV.rows m13,PV.int m14,PV.int m15,PV.bool m16,PV.rows (Aa (ys.set k (J1 (inn ys k)))),PV.int m18,PV.int m19,PV.int m20,PV.int m21,PV.int m22]) m17.length m17.length (Nat.le_refl _);rw [Nat.sub_self] at hfa;rw [hfa];unfold II;simp only [ly];cases NR ys e1 m17.length with
  | some k=>rfl
  | none =>
   rcases hside with h | h<;>subst h
   ·simp only [Option.map_none,Ui,PXb,PXc,Cy,Int.reduceBEq,wr1,YC];rfl
   ·simp only [Option.map_none,Ui,PXb,PXc,Cy,Int.reduceBEq,wr2,Yt];rfl
set_option maxHeartbeats 4000000 in
theorem ACS {N:Nat} {m8 m16:Bool} {m0:ByteArray} {m13:Rows} {m17:List Inn} {e4 e12 e17:Bool} (hN:2097152<N) (hf:D9 m17) (hl:m17.length≤1000000) (hs:m0.size≤1048576) (h13:m13.length≤1048576) (ok:MatOk (⟨⟨m0,m1,m2,m3,m4,m5,m6,m7,m8,m9,m10,m11,m12,m13⟩,m14,m15,m16,m17,m18,m19,m20,m21,m22⟩:Mat)) (hv:Ci (⟨⟨m0,m1,m2,m3,m4,m5,m6,m7,m8,m9,m10,m11,m12,m13⟩,m14,m15,m16,m17,m18,m19,m20,m21,m22⟩:Mat)=true) (he:(evS (⟨e0,e1,e2,e3,e4,e5,e6,⟨e7,e8,e9,e10,e11,e12,e13,e14,e15,e16,e17,e18⟩⟩:Ev)==0)=true):Sq N [.str m0,.int m1,.int m2,.int m3,.int m4,.int m5,.int m6,.int m7,.bool m8,.int m9,.int m10,.int m11,.int m12,.rows m13,.int m14,.int m15,.bool m16,.rows (Aa m17),.int m18,.int m19,.int m20,.int m21,.int m22,.int e0,.int e1,.int e2,.int e3,.bool e4,.int e5,.int e6,.int e7,.int e8,.int e9,.int e10,.int e11,.bool e12,.int e13,.int e14,.int e15,.int e16,.bool e17,.int e18]=some (HT (GG (⟨⟨m0,m1,m2,m3,m4,m5,m6,m7,m8,m9,m10,m11,m12,m13⟩,m14,m15,m16,m17,m18,m19,m20,m21,m22⟩:Mat) (⟨e0,e1,e2,e3,e4,e5,e6,⟨e7,e8,e9,e10,e11,e12,e13,e14,e15,e16,e17,e18⟩⟩:Ev))):=by
 show Su (std (FN N) N) (xOf _)=_;simp only [Su,Qs,Sb,SV,lq9,std,xOf,PXb];unfold GG;cases hk1:e0==1
 case true =>
  simp only [PXb,Qs,HG];cases m14==1<;>cases e4<;>rfl
 cases hk2:e0==2
 case true =>
  simp only [PXb];cases hs2:m14==2
  case false=>rfl
  simp only [PXb,Sb,z8 hN hf hl hs h13 ok hv hs2];rfl
 cases hk3:e0==12
 case true =>
  simp only [PXb];cases m14==4<;>cases e1==m15<;>rfl
 cases hk4:e0==16
 case true =>
  simp only [PXb,jM,Z3];cases h3:m14==3
  case false =>
   simp only [PXb,PXc,PXi,PXr,Cy,Nat.reduceAdd];cases m3==0<;>rfl
  simp only [PXb,PXc,PXi,PXr,Cy,Nat.reduceAdd,OX (ok.begun h3) hl];cases m3==0<;>rfl
 simp only [PXb];cases h3:m14==3
 case false=>rfl
 simp only [PXb,SV,AA6 hN hf hl hs h13 ok he h3];rfl
theorem wE {N:Nat} {m8 m16:Bool} {m0:ByteArray} {m13:Rows} {m17:List Inn} (hf:D9 m17) (hN:2097152<N) (hl:m17.length≤1000000) (hs:m0.size≤1048576) (h0:((m17.length:Int)==0)=false):LW N [.str m0,.int m1,.int m2,.int m3,.int m4,.int m5,.int m6,.int m7,.bool m8,.int m9,.int m10,.int m11,.int m12,.rows m13,.int m14,.int m15,.bool m16,.rows (Aa m17),.int m18,.int m19,.int m20,.int m21,.int m22]=some (Oi (⟨⟨m0,m1,m2,m3,m4,m5,m6,m7,m8,m9,m10,m11,m12,m13⟩,m14,m15,m16,m17,m18,m19,m20,m21,m22⟩:Mat)).ls:=by
 show Kw (std (Cu N) N) (xOf _)=_;have hl5:m17.length≤1048576:=by omega
 simp only [Kw,aD,YA,Yo,VA,lq9,std,xOf,PXb,Ue h0 hl,HG,MW hN hl5,td hf hN hl hs,PXi];unfold Oi;simp only [BK,AY,lnx,PXm];cases hq1:((m17.length:Int)==IntKind.i64.wrap (2 * m2))
 case true=>rfl
 cases hq2:((m17.length:Int)==3)
 case true =>
  simp only [PXb];cases iLt (HL m17 (inn m17 (IntKind.i64.wrap ((m17.length:Int) - 1)).toNat).side m17.length) (HL m17 (Bd (inn m17 (IntKind.i64.wrap ((m17.length:Int) - 1)).toNat).side) m17.length)
  case true=>rfl
  simp only [PXb];cases ((m17.length:Int)==2)<;>cases iLt 0 m10<;>try rfl
  simp only [PXb];cases iLe m10 (IntKind.i64.wrap (HL m17 m15 m17.length - HL m17 (Bd m15) m17.length))<;>rfl
 simp only [PXb];cases ((m17.length:Int)==2)<;>cases iLt 0 m10<;>try rfl
 simp only [PXb];cases iLe m10 (IntKind.i64.wrap (HL m17 m15 m17.length - HL m17 (Bd m15) m17.length))<;>rfl
set_option maxHeartbeats 4000000 in
theorem ni {N:Nat} {m8 m16:Bool} {m0:ByteArray} {m13:Rows} {m17:List Inn} {e4 e12 e17:Bool} (hN:2097152<N) (hf:D9 m17) (hl:m17.length≤1000000) (hs:m0.size≤1048576) (h13:m13.length≤1048576):JG N [.str m0,.int m1,.int m2,.int m3,.int m4,.int m5,.int m6,.int m7,.bool m8,.int m9,.int m10,.int m11,.int m12,.rows m13,.int m14,.int m15,.bool m16,.rows (Aa m17),.int m18,.int m19,.int m20,.int m21,.int m22,.int e0,.int e1,.int e2,.int e3,.bool e4,.int e5,.int e6,.int e7,.int e8,.int e9,.int e10,.int e11,.bool e12,.int e13,.int e14,.int e15,.int e16,.bool e17,.int e18]=some (HT (CM (⟨⟨m0,m1,m2,m3,m4,m5,m6,m7,m8,m9,m10,m11,m12,m13⟩,m14,m15,m16,m17,m18,m19,m20,m21,m22⟩:Mat) (⟨e0,e1,e2,e3,e4,e5,e6,⟨e7,e8,e9,e10,e11,e12,e13,e14,e15,e16,e17,e18⟩⟩:Ev))):=by
 show Pn (std (Cl N) N) (xOf _)=_;generalize hres:(some (HT (CM (⟨⟨m0,m1,m2,m3,m4,m5,m6,m7,m8,m9,m10,m11,m12,m13⟩,m14,m15,m16,m17,m18,m19,m20,m21,m22⟩:Mat) (⟨e0,e1,e2,e3,e4,e5,e6,⟨e7,e8,e9,e10,e11,e12,e13,e14,e15,e16,e17,e18⟩⟩:Ev))):Option (List PV))=RR;simp only [Pn,Pw,bJ,bh,TC,Qr,OK,lq9,std,xOf,PXb,Yw hf hN hl hs,jz,ka hf hN hl h13];subst hres;simp only [CM];cases hv:Ci (⟨⟨m0,m1,m2,m3,m4,m5,m6,m7,m8,m9,m10,m11,m12,m13⟩,m14,m15,m16,m17,m18,m19,m20,m21,m22⟩:Mat)
 case false=>rfl
 cases he:evS (⟨e0,e1,e2,e3,e4,e5,e6,⟨e7,e8,e9,e10,e11,e12,e13,e14,e15,e16,e17,e18⟩⟩:Ev)==0
 case false=>simp only [PXb,he];rfl
 simp only [PXb,he];cases h5:m14==5
 case true=>rfl
 have ok:=VR hv;simp only [PXb,PXc,Cy,Nat.reduceAdd,Pw,ka hf hN hl h13,TC,ACS hN hf hl hs h13 ok hv he];have ak:=xG ok (⟨e0,e1,e2,e3,e4,e5,e6,⟨e7,e8,e9,e10,e11,e12,e13,e14,e15,e16,e17,e18⟩⟩:Ev);generalize GG (⟨⟨m0,m1,m2,m3,m4,m5,m6,m7,m8,m9,m10,m11,m12,m13⟩,m14,m15,m16,m17,m18,m19,m20,m21,m22⟩:Mat) (⟨e0,e1,e2,e3,e4,e5,e6,⟨e7,e8,e9,e10,e11,e12,e13,e14,e15,e16,e17,e18⟩⟩:Ev)=A at ak;obtain ⟨⟨⟨a0,a1,a2,a3,a4,a5,a6,a7,a8,a9,a10,a11,a12,a13⟩,a14,a15,a16,a17,a18,a19,a20,a21,a22⟩,l⟩:=A;obtain ⟨k1,k2,k3,k4⟩:=ak;simp only at k1 k2 k3 k4;have hl5:a17.length≤1000000:=by omega
 have hs5:a0.size≤1048576:=by
  have:=congrArg Rul.name k1;simp only at this;rw [this];exact hs
 simp only [PXb,PXc,PXk,PXi,Cy,Nat.reduceAdd];cases hl0:l==0
 case false=>rfl
 simp only [PXb,CF];cases h3:a14==3
 case false=>rfl
 have h0:=k4 hl0 h3;simp only [PXb,PXc,PXi,Qr,Ue h0 hl5,AY,OK,wE k2 hN hl5 hs5 h0,PXm];cases (inn a17 (lnx a17)).ending==0<;>rfl
theorem yN (m:Mat):(Oi m).rules=m.rules∧(Oi m).inns=m.inns:=by
 unfold Oi
 dsimp only
 cases ((m.inns.length:Int)==IntKind.i64.wrap (2 * m.rules.innings)||((m.inns.length:Int)==3&&iLt (BK m (AY m).side) (BK m (Bd (AY m).side)))) with
 | true=>exact ⟨rfl,rfl⟩
 | false =>
  cases ((m.inns.length:Int)==2&&iLt 0 m.rules.followon&&iLe m.rules.followon (IntKind.i64.wrap (BK m m.first - BK m (Bd m.first))))<;>exact ⟨rfl,rfl⟩
theorem oQ (m:Mat):(CF m).rules=m.rules∧(CF m).inns=m.inns:=by
 unfold CF;cases (m.stage==3 && !((AY m).ending==0)) with
 | true=>exact yN m
 | false=>exact ⟨rfl,rfl⟩
structure StepOk (r:Rul) (m:Mat):Prop where
 rules:m.rules=r
 fit:D9 m.inns
 len:m.inns.length≤5
theorem AAk {r:Rul} {m:Mat} (h:StepOk r m) (e:Ev):StepOk r (CM m e).1:=by
 unfold CM;cases hv:Ci m with
 | false=>exact h
 | true =>
  cases he:evS e==0 with
  | false=>exact h
  | true =>
   cases h5:m.stage==5 with
   | true=>exact h
   | false =>
    have a:=xG (VR hv) e;cases hx:(GG m e).2==0 with
    | false=>exact h
    | true =>
     have k:=oQ (GG m e).1;exact ⟨k.1.trans (a.rules.trans h.rules),by show D9 (CF _).inns;rw [k.2];exact a.fit,by show (CF _).inns.length≤5;rw [k.2];exact a.len⟩
theorem jP (r:Rul) (h:((AU r).2==0)=true):StepOk r (AU r).1:=by
 unfold AU at h ⊢;cases hc:A4 r==0 with
 | false=>rw [hc] at h;exact absurd (show (A4 r==0)=true from h) (by rw [hc];decide)
 | true=>exact ⟨rfl,fun i hi=>absurd hi (Nat.not_lt_zero i),Nat.zero_le _⟩
theorem cd {m:Mat} {e:Ev} (h:((CM m e).2==0)=true):Ci m=true∧(evS e==0)=true∧(m.stage==5)=false∧((GG m e).2==0)=true∧(CM m e).1=CF (GG m e).1:=by
 unfold CM at h ⊢;cases hv:Ci m with
 | false=>rw [hv] at h;exact absurd (show ((1:Int)==0)=true from h) (by decide)
 | true =>
  cases he:evS e==0 with
  | false=>rw [hv,he] at h;exact absurd (show ((1:Int)==0)=true from h) (by decide)
  | true =>
   cases h5:m.stage==5 with
   | true=>rw [hv,he,h5] at h;exact absurd (show ((26:Int)==0)=true from h) (by decide)
   | false =>
    cases hx:(GG m e).2==0 with
    | false=>rw [hv,he,h5,hx] at h;exact absurd (show ((GG m e).2==0)=true from h) (by rw [hx];decide)
    | true=>exact ⟨rfl,rfl,rfl,rfl,rfl⟩
theorem aR {m:Mat} {e:Ev} (h:((CM m e).2==0)=true) (hk:(e.kind==4)=true):(m.stage==3)=true∧((m.inns.length:Int)==0)=false∧((Av m.rules (AY m) e).2==0)=true∧(CM m e).1.inns=m.inns.set (lnx m.inns) (Av m.rules (AY m) e).1:=by
 obtain ⟨hv,he,h5,ha,hs⟩:=cd h;have hk4:=beq_iff_eq.1 hk;rw [hs,(oQ _).2];unfold GG at ha ⊢;simp only [hk4,Int.reduceBEq,cond_false] at ha ⊢;cases h3:m.stage==3 with
 | false=>rw [h3] at ha;exact absurd (show ((1:Int)==0)=true from ha) (by decide)
 | true =>
  rw [h3] at ha;simp only [Bool.not_true,cond_false] at ha ⊢;unfold Dx at ha ⊢;cases hq:(Av m.rules (AY m) e).2==0 with
  | false=>simp only [hq,Bool.not_false,cond_true] at ha;exact absurd ha Bool.false_ne_true
  | true =>
   simp only [hk4,Int.reduceBEq,Bool.false_and,hq,Bool.not_true,cond_false];exact ⟨trivial,(VR hv).begun h3,trivial,trivial⟩
def evR (L:Rows) (i:Nat):Ev:=⟨atI L i 0,atI L i 1,atI L i 2,atI L i 3,atB L i 4,atI L i 5,atI L i 6,⟨atI L i 7,atI L i 8,atI L i 9,atI L i 10,atI L i 11,atB L i 12,atI L i 13,atI L i 14,atI L i 15,atI L i 16,atB L i 17,atI L i 18⟩⟩
theorem AAT (L:Rows) (i:Nat):(⟨atI L i 0,atI L i 1,atI L i 2,atI L i 3,atB L i 4,atI L i 5,atI L i 6,⟨atI L i 7,atI L i 8,atI L i 9,atI L i 10,atI L i 11,atB L i 12,atI L i 13,atI L i 14,atI L i 15,atI L i 16,atB L i 17,atI L i 18⟩⟩:Ev)=evR L i:=rfl
def Ax (i:Int) (m:Mat) (e:Ev):Mat×Int:=cond (iLe 4000 i) (m,26) (CM m e)
def C6 (L:Rows):Nat→Nat→Mat→Mat×Int×Int
 | 0,_,m=>(m,-1,0)
 | k+1,i,m=>cond (!((Ax i m (evR L i)).2==0)) (m,(i:Int),(Ax i m (evR L i)).2) (C6 L k (i+1) (Ax i m (evR L i)).1)
def E8 (i:Int) (m t:Mat) (d:Del):List PV :=
 [.int i,.int (IntKind.i64.wrap ((m.inns.length:Int) - 1)),.int (AY m).complete,.int (AY m).inover,.int (AY m).bowler,.int (AY m).striker,.int (AY m).other,.bool (AY m).freehit,
  .int d.type,.int d.source,.int d.runs,.int d.short,.int d.boundary,.bool d.crossed,.int d.how,.int d.victim,.int d.fielder,.int d.second,.bool d.sub,.int d.sector,
  .int (AF m.rules d).batter,.int (AF m.rules d).wides,.int (AF m.rules d).noballs,.int (AF m.rules d).byes,.int (AF m.rules d).legbyes,.int (AF m.rules d).bowler,.bool (AF m.rules d).counts,.bool (AF m.rules d).faced,.bool (AF m.rules d).wicket,.bool (AF m.rules d).swap,
  .int (inn t.inns (lnx m.inns)).runs,.int (inn t.inns (lnx m.inns)).wickets]
def MF (L:Rows):Nat→Nat→Mat→Rows→Rows
 | 0,_,_,out=>out
 | k+1,i,m,out=>cond (!((Ax i m (evR L i)).2==0)) out (MF L k (i+1) (Ax i m (evR L i)).1 (cond ((evR L i).kind==4) (out++[E8 i m (Ax i m (evR L i)).1 (evR L i).ball]) out))
def Um (f:Mat×Int×Int):List PV:=[.str f.1.rules.name,.int f.1.rules.side,.int f.1.rules.innings,.int f.1.rules.overs,.int f.1.rules.balls,.int f.1.rules.quota,.int f.1.rules.wide,.int f.1.rules.noball,.bool f.1.rules.freehit,.int f.1.rules.newball,.int f.1.rules.followon,.int f.1.rules.reviews,.int f.1.rules.outside,.rows f.1.rules.power,.int f.1.stage,.int f.1.first,.bool f.1.follow,.rows (Aa f.1.inns),.int f.1.pen1,.int f.1.pen2,.int f.1.win,.int f.1.wside,.int f.1.margin,.int f.2.1,.int f.2.2]
def BQ (r:Rul) (L:Rows):Mat×Int×Int:=cond (!((AU r).2==0)) (ABT,0,1) (C6 L L.length 0 (AU r).1)
def BC (r:Rul) (L:Rows):Rows:=cond (!((AU r).2==0)) [] (MF L L.length 0 (AU r).1 [])
theorem l8 (L:Rows):∀ k i m,((C6 L k i m).2.1 == -1)=true→(C6 L k i m).2.2=0
 | 0,_,_,_=>rfl
 | k+1,i,m,h=>by
  unfold C6 at h ⊢;cases hq:(Ax i m (evR L i)).2==0 with
  | false =>
   rw [hq] at h;have:=beq_iff_eq.1 (show ((i:Int) == -1)=true from h);omega
  | true=>rw [hq] at h;exact l8 L k (i+1) _ h
theorem vg (L:Rows):∀ k i m out,(MF L k i m out).length≤out.length+k
 | 0,_,_,out=>Nat.le_refl _
 | k+1,i,m,out=>by
  unfold MF;cases (Ax i m (evR L i)).2==0 with
  | false=>show out.length≤_;omega
  | true =>
   have:=vg L k (i+1) (Ax i m (evR L i)).1 (cond ((evR L i).kind==4) (out++[E8 i m (Ax i m (evR L i)).1 (evR L i).ball]) out);refine Nat.le_trans this ?_;cases (evR L i).kind==4 with
   | false=>show out.length+k≤_;omega
   | true=>show (out++[_]).length+k≤_;rw [List.length_append];simp;omega
theorem cw {r:Rul} {m:Mat} (h:StepOk r m) (i:Int) (e:Ev):StepOk r (Ax i m e).1:=by
 unfold Ax;cases iLe 4000 i with
 | true=>exact h
 | false=>exact AAk h e
theorem WH {m:Mat} {i:Int} {e:Ev} (h:((Ax i m e).2==0)=true):Ax i m e=CM m e∧iLe 4000 i=false:=by
 unfold Ax at h ⊢;cases h4:iLe 4000 i with
 | true=>rw [h4] at h;exact absurd (show ((26:Int)==0)=true from h) (by decide)
 | false=>exact ⟨rfl,rfl⟩
theorem AAP {N:Nat} {m8 m16:Bool} {m0:ByteArray} {m13:Rows} {m17:List Inn} {i:Int} {e4 e12 e17:Bool} (hN:2097152<N) (hf:D9 m17) (hl:m17.length≤1000000) (hs:m0.size≤1048576) (h13:m13.length≤1048576):QN N [.str m0,.int m1,.int m2,.int m3,.int m4,.int m5,.int m6,.int m7,.bool m8,.int m9,.int m10,.int m11,.int m12,.rows m13,.int m14,.int m15,.bool m16,.rows (Aa m17),.int m18,.int m19,.int m20,.int m21,.int m22,.int i,.int e0,.int e1,.int e2,.int e3,.bool e4,.int e5,.int e6,.int e7,.int e8,.int e9,.int e10,.int e11,.bool e12,.int e13,.int e14,.int e15,.int e16,.bool e17,.int e18]=some (HT (Ax i (⟨⟨m0,m1,m2,m3,m4,m5,m6,m7,m8,m9,m10,m11,m12,m13⟩,m14,m15,m16,m17,m18,m19,m20,m21,m22⟩:Mat) (⟨e0,e1,e2,e3,e4,e5,e6,⟨e7,e8,e9,e10,e11,e12,e13,e14,e15,e16,e17,e18⟩⟩:Ev))):=by
 show QL (std (Hr N) N) (xOf _)=_;generalize hres:(some (HT (Ax i (⟨⟨m0,m1,m2,m3,m4,m5,m6,m7,m8,m9,m10,m11,m12,m13⟩,m14,m15,m16,m17,m18,m19,m20,m21,m22⟩:Mat) (⟨e0,e1,e2,e3,e4,e5,e6,⟨e7,e8,e9,e10,e11,e12,e13,e14,e15,e16,e17,e18⟩⟩:Ev))):Option (List PV))=RR;simp only [QL,aJ,lq9,std,xOf,PXb,xS hN hf hl hs h13];subst hres;simp only [Ax];cases iLe 4000 i<;>rfl
theorem pK {N:Nat} {i:Int} {m8 m16:Bool} {m0:ByteArray} {m13:Rows} {m17:List Inn} {t1 t2 t3 t4 t5 t6 t7 t9 t10 t11 t12 t14 t15 t18 t19 t20 t21 t22:Int} {t8 t16:Bool} {t0:ByteArray} {t13:Rows} {t17:List Inn} {d0 d1 d2 d3 d4 d6 d7 d8 d9 d11:Int} {d5 d10:Bool} (h1:iIn (IntKind.i64.wrap ((m17.length:Int) - 1)) (m17.length:Int)=true) (h2:iIn (IntKind.i64.wrap ((m17.length:Int) - 1)) (t17.length:Int)=true):KB N [.int i,.str m0,.int m1,.int m2,.int m3,.int m4,.int m5,.int m6,.int m7,.bool m8,.int m9,.int m10,.int m11,.int m12,.rows m13,.int m14,.int m15,.bool m16,.rows (Aa m17),.int m18,.int m19,.int m20,.int m21,.int m22,.str t0,.int t1,.int t2,.int t3,.int t4,.int t5,.int t6,.int t7,.bool t8,.int t9,.int t10,.int t11,.int t12,.rows t13,.int t14,.int t15,.bool t16,.rows (Aa t17),.int t18,.int t19,.int t20,.int t21,.int t22,.int d0,.int d1,.int d2,.int d3,.int d4,.bool d5,.int d6,.int d7,.int d8,.int d9,.bool d10,.int d11]=some (E8 i (⟨⟨m0,m1,m2,m3,m4,m5,m6,m7,m8,m9,m10,m11,m12,m13⟩,m14,m15,m16,m17,m18,m19,m20,m21,m22⟩:Mat) (⟨⟨t0,t1,t2,t3,t4,t5,t6,t7,t8,t9,t10,t11,t12,t13⟩,t14,t15,t16,t17,t18,t19,t20,t21,t22⟩:Mat) (⟨d0,d1,d2,d3,d4,d5,d6,d7,d8,d9,d10,d11⟩:Del)):=by
 show Kb (std (MR N) N) (xOf _)=_;simp only [Kb,On,lq9,std,xOf,PXb,PXi,h1,h2,T7];rfl
def Vt (L:Rows) (i:Nat) (m:Mat):List PV ⊕ Mat:=cond (!((Ax i m (evR L i)).2==0)) (.inl (.int 0::.int i::.int (Ax i m (evR L i)).2::m.ls)) (.inr (Ax i m (evR L i)).1)
def ABd (f:Mat×Int×Int):List PV:=cond (f.2.1 == -1) (.int 1::f.1.ls) (.int 0::.int f.2.1::.int f.2.2::f.1.ls)
theorem sK (L:Rows):∀ k i m,Xf (Vt L) (fun m=>.int 1::m.ls) k i m=ABd (C6 L k i m)
 | 0,_,_=>rfl
 | k+1,i,m=>by
  simp only [Xf,Vt,C6];cases (Ax i m (evR L i)).2==0 with
  | false =>
   simp only [Bool.not_false,cond_true,ABd];rw [show ((i:Int) == -1)=false from beq_false_of_ne (show (i:Int) ≠ -1 by omega)];rfl
  | true=>exact sK L k (i+1) _
set_option maxHeartbeats 4000000 in
theorem ABf {N:Nat} {m8 m16:Bool} {m0:ByteArray} {m13:Rows} {m17:List Inn} {L:Rows} (hN:2097152<N) (hf:D9 m17) (hl:m17.length≤5) (hs:m0.size≤1048576) (h13:m13.length≤1048576) (hL:L.length≤1048576):QE N [.str m0,.int m1,.int m2,.int m3,.int m4,.int m5,.int m6,.int m7,.bool m8,.int m9,.int m10,.int m11,.int m12,.rows m13,.int m14,.int m15,.bool m16,.rows (Aa m17),.int m18,.int m19,.int m20,.int m21,.int m22,.rows L]=some (Um (C6 L L.length 0 (⟨⟨m0,m1,m2,m3,m4,m5,m6,m7,m8,m9,m10,m11,m12,m13⟩,m14,m15,m16,m17,m18,m19,m20,m21,m22⟩:Mat))):=by
  show QF (std (IX N) N) (xOf _)=_;generalize hres:(some (Um (C6 L L.length 0 (⟨⟨m0,m1,m2,m3,m4,m5,m6,m7,m8,m9,m10,m11,m12,m13⟩,m14,m15,m16,m17,m18,m19,m20,m21,m22⟩:Mat))):Option (List PV))=RR;simp only [QF,Qp,lq9,std,xOf,PXb];subst hres;refine AN (Xe (St:=Mat) (len:=L.length) (enc:=fun i m=>[.int (i:Int),.str m.rules.name,.int m.rules.side,.int m.rules.innings,.int m.rules.overs,.int m.rules.balls,.int m.rules.quota,.int m.rules.wide,.int m.rules.noball,.bool m.rules.freehit,.int m.rules.newball,.int m.rules.followon,.int m.rules.reviews,.int m.rules.outside,.rows m.rules.power,.int m.stage,.int m.first,.bool m.follow,.rows (Aa m.inns),.int m.pen1,.int m.pen2,.int m.win,.int m.wside,.int m.margin])
    (body:=Vt L) (fin:=fun m=>.int 1::m.ls) (fun _ m=>StepOk (⟨m0,m1,m2,m3,m4,m5,m6,m7,m8,m9,m10,m11,m12,m13⟩:Rul) m) ?_ ?_ L.length 0 (⟨⟨m0,m1,m2,m3,m4,m5,m6,m7,m8,m9,m10,m11,m12,m13⟩,m14,m15,m16,m17,m18,m19,m20,m21,m22⟩:Mat) N (by omega) (by omega) ⟨rfl,hf,hl⟩) ?_
  · intro m self _;simp only [PXb,PXc,PXn,AD,Aj];rfl
  · intro i m self hi ok;obtain ⟨⟨a0,a1,a2,a3,a4,a5,a6,a7,a8,a9,a10,a11,a12,a13⟩,a14,a15,a16,a17,a18,a19,a20,a21,a22⟩:=m;have o1:=ok.rules;have o2:=ok.fit;have o3:=ok.len;simp only at o1 o2 o3;cases o1;have kp:=cw ok (i:Int) (evR L i);refine ⟨?_,?_⟩
    · simp only [PXb,PXc,PXn,AD,Ah (show i≤1099511627776 by omega),Ad hi,AM hi,Qp,ni hN o2 (show a17.length≤1000000 by omega) hs h13,BW,qR,Nat.reduceAdd,PXk,PXc,AAT];unfold Vt Ax;cases iLe 4000 (i:Int)
      case true=>rfl
      simp only [cond_false];cases (CM (⟨⟨m0,m1,m2,m3,m4,m5,m6,m7,m8,m9,m10,m11,m12,m13⟩,a14,a15,a16,a17,a18,a19,a20,a21,a22⟩:Mat) (evR L i)).2==0<;>rfl
    · intro s' h;unfold Vt at h;cases hq:(Ax (i:Int) (⟨⟨m0,m1,m2,m3,m4,m5,m6,m7,m8,m9,m10,m11,m12,m13⟩,a14,a15,a16,a17,a18,a19,a20,a21,a22⟩:Mat) (evR L i)).2==0 with
      | false=>rw [hq] at h;cases h
      | true=>rw [hq] at h;cases h;exact kp
  · rw [sK];have he:=l8 L L.length 0 (⟨⟨m0,m1,m2,m3,m4,m5,m6,m7,m8,m9,m10,m11,m12,m13⟩,m14,m15,m16,m17,m18,m19,m20,m21,m22⟩:Mat);generalize C6 L L.length 0 (⟨⟨m0,m1,m2,m3,m4,m5,m6,m7,m8,m9,m10,m11,m12,m13⟩,m14,m15,m16,m17,m18,m19,m20,m21,m22⟩:Mat)=f at he;obtain ⟨⟨⟨a0,a1,a2,a3,a4,a5,a6,a7,a8,a9,a10,a11,a12,a13⟩,a14,a15,a16,a17,a18,a19,a20,a21,a22⟩,b,l⟩:=f;simp only at he;unfold ABd;cases hb:b == -1 with
    | false=>rfl
    | true =>
      rw [he hb,beq_iff_eq.1 hb];rfl
def VQ (L:Rows) (i:Nat) (s:Rows×Mat):List PV ⊕ Rows×Mat:=cond (!((Ax i s.2 (evR L i)).2==0)) (.inl (.int 0::.rows s.1::.int i::.int (Ax i s.2 (evR L i)).2::s.2.ls)) (.inr (cond ((evR L i).kind==4) (s.1++[E8 i s.2 (Ax i s.2 (evR L i)).1 (evR L i).ball]) s.1,(Ax i s.2 (evR L i)).1))
def AAX (out:Rows) (f:Mat×Int×Int):List PV:=cond (f.2.1 == -1) (.int 1::.rows out::f.1.ls) (.int 0::.rows out::.int f.2.1::.int f.2.2::f.1.ls)
theorem sO (L:Rows):∀ k i s,Xf (VQ L) (fun s=>.int 1::.rows s.1::s.2.ls) k i s=AAX (MF L k i s.2 s.1) (C6 L k i s.2)
 | 0,_,_=>rfl
 | k+1,i,s=>by
  simp only [Xf,VQ,C6,MF];cases (Ax i s.2 (evR L i)).2==0 with
  | false =>
   simp only [Bool.not_false,cond_true,AAX];rw [show ((i:Int) == -1)=false from beq_false_of_ne (show (i:Int) ≠ -1 by omega)];rfl
  | true=>exact sO L k (i+1) _
def Zo (out:Rows) (f:Mat×Int×Int):List PV:=[.rows out,.str f.1.rules.name,.int f.1.rules.side,.int f.1.rules.innings,.int f.1.rules.overs,.int f.1.rules.balls,.int f.1.rules.quota,.int f.1.rules.wide,.int f.1.rules.noball,.bool f.1.rules.freehit,.int f.1.rules.newball,.int f.1.rules.followon,.int f.1.rules.reviews,.int f.1.rules.outside,.rows f.1.rules.power,.int f.1.stage,.int f.1.first,.bool f.1.follow,.rows (Aa f.1.inns),.int f.1.pen1,.int f.1.pen2,.int f.1.win,.int f.1.wside,.int f.1.margin,.int f.2.1,.int f.2.2]
theorem AB3 {m t:Mat} {e:Ev} (hl:m.inns.length≤5) (h:((CM m e).2==0)=true) (hk:(e.kind==4)=true) (ht:(CM m e).1=t):iIn (IntKind.i64.wrap ((m.inns.length:Int) - 1)) (m.inns.length:Int)=true∧iIn (IntKind.i64.wrap ((m.inns.length:Int) - 1)) (t.inns.length:Int)=true:=by
 obtain ⟨_,h2,_,h4⟩:=aR h hk;have:=OX h2 (show m.inns.length≤1000000 by omega);rw [← ht,h4,List.length_set];exact ⟨this,this⟩
set_option maxHeartbeats 8000000 in
theorem o9 {N:Nat} {r8:Bool} {r0:ByteArray} {r13:Rows} {L:Rows} (hN:2097152<N) (hs:r0.size≤1048576) (h13:r13.length≤1048576) (hL:L.length≤1048576):Im N [.str r0,.int r1,.int r2,.int r3,.int r4,.int r5,.int r6,.int r7,.bool r8,.int r9,.int r10,.int r11,.int r12,.rows r13,.rows L]=some (Zo (BC (⟨r0,r1,r2,r3,r4,r5,r6,r7,r8,r9,r10,r11,r12,r13⟩:Rul) L) (BQ (⟨r0,r1,r2,r3,r4,r5,r6,r7,r8,r9,r10,r11,r12,r13⟩:Rul) L)):=by
  show Ox (std (ER N) N) (xOf _)=_;generalize hres:(some (Zo (BC (⟨r0,r1,r2,r3,r4,r5,r6,r7,r8,r9,r10,r11,r12,r13⟩:Rul) L) (BQ (⟨r0,r1,r2,r3,r4,r5,r6,r7,r8,r9,r10,r11,r12,r13⟩:Rul) L)):Option (List PV))=RR;simp only [Ox,bL,Qt,Ld,lq9,std,xOf,PXb,yb hN hs h13];subst hres;simp only [BC,BQ];have nk:=jP (⟨r0,r1,r2,r3,r4,r5,r6,r7,r8,r9,r10,r11,r12,r13⟩:Rul);generalize AU (⟨r0,r1,r2,r3,r4,r5,r6,r7,r8,r9,r10,r11,r12,r13⟩:Rul)=X at nk;obtain ⟨⟨⟨m0,m1,m2,m3,m4,m5,m6,m7,m8,m9,m10,m11,m12,m13⟩,m14,m15,m16,m17,m18,m19,m20,m21,m22⟩,l⟩:=X;simp only at nk;simp only [PXb,PXc,PXk,Nat.reduceAdd];cases hl:l==0
  case false=>rfl
  have ok:=nk hl;simp only [PXb];refine AN (Xe (St:=Rows×Mat) (len:=L.length) (enc:=fun i s=>[.rows s.1,.int (i:Int),.str s.2.rules.name,.int s.2.rules.side,.int s.2.rules.innings,.int s.2.rules.overs,.int s.2.rules.balls,.int s.2.rules.quota,.int s.2.rules.wide,.int s.2.rules.noball,.bool s.2.rules.freehit,.int s.2.rules.newball,.int s.2.rules.followon,.int s.2.rules.reviews,.int s.2.rules.outside,.rows s.2.rules.power,.int s.2.stage,.int s.2.first,.bool s.2.follow,.rows (Aa s.2.inns),.int s.2.pen1,.int s.2.pen2,.int s.2.win,.int s.2.wside,.int s.2.margin])
    (body:=VQ L) (fin:=fun s=>.int 1::.rows s.1::s.2.ls) (fun i s=>StepOk (⟨r0,r1,r2,r3,r4,r5,r6,r7,r8,r9,r10,r11,r12,r13⟩:Rul) s.2∧s.1.length≤i) ?_ ?_ L.length 0 ([],(⟨⟨m0,m1,m2,m3,m4,m5,m6,m7,m8,m9,m10,m11,m12,m13⟩,m14,m15,m16,m17,m18,m19,m20,m21,m22⟩:Mat)) N (by omega) (by omega) ⟨ok,Nat.zero_le _⟩) ?_
  · intro m self _;simp only [PXb,PXc,PXn,AD,Aj];rfl
  · intro i s self hi ok;obtain ⟨out,⟨⟨a0,a1,a2,a3,a4,a5,a6,a7,a8,a9,a10,a11,a12,a13⟩,a14,a15,a16,a17,a18,a19,a20,a21,a22⟩⟩:=s;obtain ⟨ok,hout⟩:=ok;have o1:=ok.rules;have o2:=ok.fit;have o3:=ok.len;simp only at o1 o2 o3 hout;cases o1;have kp:=cw ok (i:Int) (evR L i);have acc:=WH (m:=(⟨⟨r0,r1,r2,r3,r4,r5,r6,r7,r8,r9,r10,r11,r12,r13⟩,a14,a15,a16,a17,a18,a19,a20,a21,a22⟩:Mat)) (i:=(i:Int)) (e:=evR L i);refine ⟨?_,?_⟩
    · simp only [PXb,PXc,PXn,AD,Ah (show i≤1099511627776 by omega),Ad hi,AM hi,Qt,AAP hN o2 (show a17.length≤1000000 by omega) hs h13,BW,qR,Nat.reduceAdd,PXk,PXc,AAT,List.length_append,List.length_cons,List.length_nil,Ld];unfold VQ;simp only;generalize hT:Ax (i:Int) (⟨⟨r0,r1,r2,r3,r4,r5,r6,r7,r8,r9,r10,r11,r12,r13⟩,a14,a15,a16,a17,a18,a19,a20,a21,a22⟩:Mat) (evR L i)=T at acc;obtain ⟨⟨⟨b0,b1,b2,b3,b4,b5,b6,b7,b8,b9,b10,b11,b12,b13⟩,b14,b15,b16,b17,b18,b19,b20,b21,b22⟩,l2⟩:=T;simp only at acc;simp only;cases hl2:l2==0
      case false=>rfl
      have hk0:(evR L i).kind=atI L i 0:=rfl;rw [hk0];simp only [PXb];cases hk:atI L i 0==4
      case false=>rfl
      have ha:=(acc hl2).1;have hd:=AB3 (m:=(⟨⟨r0,r1,r2,r3,r4,r5,r6,r7,r8,r9,r10,r11,r12,r13⟩,a14,a15,a16,a17,a18,a19,a20,a21,a22⟩:Mat)) (e:=evR L i) o3 (by rw [← ha];exact hl2) hk (congrArg Prod.fst ha).symm;simp only at hd;have h216:iSm ((out.length+1:Nat):Int) 216=true:=DJ (by omega) (by omega);simp only [PXb,PXc,pK hd.1 hd.2,h216];rfl
    · intro s' h;unfold VQ at h;simp only at h;cases hq:(Ax (i:Int) (⟨⟨r0,r1,r2,r3,r4,r5,r6,r7,r8,r9,r10,r11,r12,r13⟩,a14,a15,a16,a17,a18,a19,a20,a21,a22⟩:Mat) (evR L i)).2==0 with
      | false=>rw [hq] at h;cases h
      | true =>
        rw [hq] at h;cases h;refine ⟨kp,?_⟩;cases (evR L i).kind==4 with
        | false=>show out.length≤_;omega
        | true=>show (out++[_]).length≤_;rw [List.length_append];simp;omega
  · rw [sO];have he:=l8 L L.length 0 (⟨⟨m0,m1,m2,m3,m4,m5,m6,m7,m8,m9,m10,m11,m12,m13⟩,m14,m15,m16,m17,m18,m19,m20,m21,m22⟩:Mat);simp only;generalize MF L L.length 0 (⟨⟨m0,m1,m2,m3,m4,m5,m6,m7,m8,m9,m10,m11,m12,m13⟩,m14,m15,m16,m17,m18,m19,m20,m21,m22⟩:Mat) []=out;generalize C6 L L.length 0 (⟨⟨m0,m1,m2,m3,m4,m5,m6,m7,m8,m9,m10,m11,m12,m13⟩,m14,m15,m16,m17,m18,m19,m20,m21,m22⟩:Mat)=f at he;obtain ⟨⟨⟨a0,a1,a2,a3,a4,a5,a6,a7,a8,a9,a10,a11,a12,a13⟩,a14,a15,a16,a17,a18,a19,a20,a21,a22⟩,b,l⟩:=f;simp only at he;unfold AAX;cases hb:b == -1 with
    | false=>rfl
    | true =>
      rw [he hb,beq_iff_eq.1 hb];rfl
theorem wy {N:Nat} {r8:Bool} {r0:ByteArray} {r13:Rows} {L:Rows} (hN:2097152<N) (hs:r0.size≤1048576) (h13:r13.length≤1048576) (hL:L.length≤1048576):K2 N [.str r0,.int r1,.int r2,.int r3,.int r4,.int r5,.int r6,.int r7,.bool r8,.int r9,.int r10,.int r11,.int r12,.rows r13,.rows L]=some (Um (BQ (⟨r0,r1,r2,r3,r4,r5,r6,r7,r8,r9,r10,r11,r12,r13⟩:Rul) L)):=by
 show Kn (std (FY N) N) (xOf _)=_;generalize hres:(some (Um (BQ (⟨r0,r1,r2,r3,r4,r5,r6,r7,r8,r9,r10,r11,r12,r13⟩:Rul) L)):Option (List PV))=RR;simp only [Kn,ZA,lq9,std,xOf,PXb,o9 hN hs h13 hL];subst hres;rfl
theorem fw {N:Nat} {r8:Bool} {r0:ByteArray} {r13:Rows} {L:Rows} (hN:2097152<N) (hs:r0.size≤1048576) (h13:r13.length≤1048576) (hL:L.length≤1048576):Fm N [.str r0,.int r1,.int r2,.int r3,.int r4,.int r5,.int r6,.int r7,.bool r8,.int r9,.int r10,.int r11,.int r12,.rows r13,.rows L]=some (Um (BQ (⟨r0,r1,r2,r3,r4,r5,r6,r7,r8,r9,r10,r11,r12,r13⟩:Rul) L)):=by
 show Kj (std (D6 N) N) (xOf _)=_;generalize hres:(some (Um (BQ (⟨r0,r1,r2,r3,r4,r5,r6,r7,r8,r9,r10,r11,r12,r13⟩:Rul) L)):Option (List PV))=RR;simp only [Kj,bi,OH,lq9,std,xOf,PXb,sv hN hs h13];subst hres;simp only [BQ];have nk:=jP (⟨r0,r1,r2,r3,r4,r5,r6,r7,r8,r9,r10,r11,r12,r13⟩:Rul);generalize AU (⟨r0,r1,r2,r3,r4,r5,r6,r7,r8,r9,r10,r11,r12,r13⟩:Rul)=X at nk;obtain ⟨⟨⟨m0,m1,m2,m3,m4,m5,m6,m7,m8,m9,m10,m11,m12,m13⟩,m14,m15,m16,m17,m18,m19,m20,m21,m22⟩,l⟩:=X;simp only at nk;simp only [PXb,PXc,PXk,Nat.reduceAdd];cases hl:l==0
 case false=>rfl
 have ok:=nk hl;have o1:=ok.rules;have o2:=ok.fit;have o3:=ok.len;simp only at o1 o2 o3;cases o1;simp only [PXb,OH,ABf hN o2 o3 hs h13 hL];rfl
theorem vd (L:Rows):∀ k i m,iLe 0 (C6 L k i m).2.1 = !((C6 L k i m).2.2==0)∧((C6 L k i m).2.1 == -1)=((C6 L k i m).2.2==0)
 | 0,_,_=>⟨rfl,rfl⟩
 | k+1,i,m=>by
  unfold C6;cases hq:(Ax i m (evR L i)).2==0 with
  | false =>
   simp only [Bool.not_false,cond_true,hq];exact ⟨by simp only [iLe,decide_eq_true_eq];omega,beq_false_of_ne (by omega)⟩
  | true=>exact vd L k (i+1) _
theorem ABN (r:Rul) (L:Rows):iLe 0 (BQ r L).2.1 = !((BQ r L).2.2==0)∧((BQ r L).2.1 == -1)=((BQ r L).2.2==0):=by
 unfold BQ;cases (AU r).2==0 with
 | false=>exact ⟨rfl,rfl⟩
 | true=>exact vd L L.length 0 _
def B6 (r:Rul) (L:Rows):Int:=cond (!(A4 r==0)) (A4 r) (cond (iLt 4000 (L.length:Int)) 9 (cond (!((BQ r L).2.2==0)) 10 0))
theorem yF {N:Nat} {r8:Bool} {r0:ByteArray} {r13:Rows} {L:Rows} (hN:2097152<N) (hs:r0.size≤1048576) (h13:r13.length≤1048576) (hL:L.length≤1048576):M4 N [.str r0,.int r1,.int r2,.int r3,.int r4,.int r5,.int r6,.int r7,.bool r8,.int r9,.int r10,.int r11,.int r12,.rows r13,.rows L]=some [.int (B6 (⟨r0,r1,r2,r3,r4,r5,r6,r7,r8,r9,r10,r11,r12,r13⟩:Rul) L)]:=by
 show Mc (std (Et N) N) (xOf _)=_;generalize hres:(some [.int (B6 (⟨r0,r1,r2,r3,r4,r5,r6,r7,r8,r9,r10,r11,r12,r13⟩:Rul) L)]:Option (List PV))=RR;simp only [Mc,W1,X9,lq9,std,xOf,PXb,Ds hN hs,wy hN hs h13 hL,PXm];subst hres;simp only [B6];rfl
theorem yH {N:Nat} {r8:Bool} {r0:ByteArray} {r13:Rows} {L:Rows} (hN:2097152<N) (hs:r0.size≤1048576) (h13:r13.length≤1048576) (hL:L.length≤1048576):M0 N [.str r0,.int r1,.int r2,.int r3,.int r4,.int r5,.int r6,.int r7,.bool r8,.int r9,.int r10,.int r11,.int r12,.rows r13,.rows L]=some [.int (B6 (⟨r0,r1,r2,r3,r4,r5,r6,r7,r8,r9,r10,r11,r12,r13⟩:Rul) L)]:=by
 show Mv (std (Ep N) N) (xOf _)=_;generalize hres:(some [.int (B6 (⟨r0,r1,r2,r3,r4,r5,r6,r7,r8,r9,r10,r11,r12,r13⟩:Rul) L)]:Option (List PV))=RR;simp only [Mv,ZX,Ym,lq9,std,xOf,PXb,FP hN hs,fw hN hs h13 hL,PXm,Um,PXc,(ABN (⟨r0,r1,r2,r3,r4,r5,r6,r7,r8,r9,r10,r11,r12,r13⟩:Rul) L).1];subst hres;simp only [B6]
def aI (L:Rows) (n:Int):Rows:=(L.take n.toNat).drop (0:Int).toNat
structure LogOk (m:Mat):Prop where
 fit:D9 m.inns
 len:m.inns.length≤5
 name:m.rules.name.size≤1048576
 power:m.rules.power.length≤1048576
def acc (L:Rows):Nat→Nat→Mat→Prop
 | 0,_,_=>True
 | k+1,i,m=>((Ax i m (evR L i)).2==0)=true∧acc L k (i+1) (Ax i m (evR L i)).1
def stM (L:Rows):Nat→Nat→Mat→Mat
 | 0,_,m=>m
 | k+1,i,m=>stM L k (i+1) (Ax i m (evR L i)).1
def NZ (L:Rows):Nat→Nat→Mat→Rows→Rows
 | 0,_,_,out=>out
 | k+1,i,m,out=>NZ L k (i+1) (Ax i m (evR L i)).1 (cond ((evR L i).kind==4) (out++[E8 i m (Ax i m (evR L i)).1 (evR L i).ball]) out)
theorem V2 (L : Rows) : ∀ K i m, ∃ k, k ≤ K ∧ acc L k i m ∧ (∀ out, MF L K i m out = NZ L k i m out) ∧
    ((k=K∧C6 L K i m=(stM L k i m,-1,0))∨(k<K∧((Ax ((i+k:Nat):Int) (stM L k i m) (evR L (i+k))).2==0)=false∧C6 L K i m=(stM L k i m,((i+k:Nat):Int),(Ax ((i+k:Nat):Int) (stM L k i m) (evR L (i+k))).2)))
  | 0,i,m=>⟨0,Nat.le_refl _,trivial,fun _=>rfl,Or.inl ⟨rfl,rfl⟩⟩
  | K+1,i,m=>by
    cases hq:(Ax i m (evR L i)).2==0 with
    | false =>
      refine ⟨0,Nat.zero_le _,trivial,fun out=>?_,Or.inr ⟨Nat.succ_pos _,hq,?_⟩⟩
      · simp only [MF,hq,Bool.not_false,cond_true];rfl
      · simp only [C6,hq,Bool.not_false,cond_true];rfl
    | true =>
      obtain ⟨k,h1,h2,h3,h4⟩:=V2 L K (i+1) (Ax i m (evR L i)).1;refine ⟨k+1,Nat.succ_le_succ h1,⟨hq,h2⟩,fun out=>?_,?_⟩
      · simp only [MF,hq,Bool.not_true,cond_false];exact h3 _
      · have e:C6 L (K+1) i m=C6 L K (i+1) (Ax i m (evR L i)).1:=by simp only [C6,hq,Bool.not_true,cond_false]
        rw [e,show i+(k+1)=i+1+k by omega]
        rcases h4 with ⟨h5,h6⟩ | ⟨h5,h6⟩
        · exact Or.inl ⟨by omega,h6⟩
        · exact Or.inr ⟨by omega,h6⟩
theorem ADd {L:Rows} {n:Int} {i:Nat} (h:(i:Int)<n):evR (aI L n) i=evR L i:=by
 have e:∀ j,AJ (aI L n) i j=AJ L i j:=fun j=>by
  unfold AJ AO aI;rw [zzk,zzk,List.getElem?_drop,List.getElem?_take,if_pos (by omega)];simp
 unfold evR atI atB;simp only [e]
theorem AAZ {L:Rows} {n:Nat} (h:n≤L.length):(aI L (n:Int)).length=n:=by
 unfold aI;rw [List.length_drop,List.length_take];omega
theorem ADu (r:Rul):((AU r).2==0)=(A4 r==0):=by
 unfold AU;cases h:A4 r==0 with
 | false=>exact h
 | true=>rfl
theorem AEN {r:Rul} {L:Rows}:∀ k i m,StepOk r m→StepOk r (stM L k i m)
 | 0,_,_,h=>h
 | k+1,i,m,h=>AEN k (i+1) _ (cw h _ _)
theorem bP {L:Rows}:∀ k i m,stM L (k+1) i m=(Ax ((i+k:Nat):Int) (stM L k i m) (evR L (i+k))).1
 | 0,i,m=>rfl
 | k+1,i,m=>by
  show stM L (k+1) (i+1) _=_;rw [bP k (i+1),show i+1+k=i+(k+1) by omega];rfl
theorem Sd {L:Rows}:∀ k i m,acc L k i m→∀ j,j<k→((Ax ((i+j:Nat):Int) (stM L j i m) (evR L (i+j))).2==0)=true
 | 0,_,_,_,j,h=>absurd h (Nat.not_lt_zero j)
 | k+1,i,m,ha,0,_=>ha.1
 | k+1,i,m,ha,j+1,h=>by
  have:=Sd k (i+1) _ ha.2 j (by omega);rw [show i+1+j=i+(j+1) by omega] at this;exact this
def uk (L:Rows):Nat→Nat→Mat→Rows→Rows
 | 0,_,_,out=>out
 | k+1,i,m,out=>uk L k (i+1) (CM m (evR L i)).1 (cond ((evR L i).kind==4) (out++[E8 i m (CM m (evR L i)).1 (evR L i).ball]) out)
theorem xe {L X:Rows}:∀ k i m out,acc L k i m→(∀ j,j<i+k→evR X j=evR L j)→uk X k i m out=NZ L k i m out
 | 0,_,_,_,_,_=>rfl
 | k+1,i,m,out,ha,he=>by
  have e:=(WH ha.1).1;have ih:=xe k (i+1) (Ax i m (evR L i)).1 (cond ((evR L i).kind==4) (out++[E8 i m (Ax i m (evR L i)).1 (evR L i).ball]) out) ha.2 (fun j h=>he j (by omega));unfold uk NZ;rw [he i (by omega),← e];exact ih
def ul (X:Rows) (i:Nat) (s:Rows×Mat):List PV ⊕ Rows×Mat:=.inr (cond ((evR X i).kind==4) (s.1++[E8 i s.2 (CM s.2 (evR X i)).1 (evR X i).ball]) s.1,(CM s.2 (evR X i)).1)
theorem pR (X:Rows):∀ k i s,Xf (ul X) (fun s=>[.rows s.1]) k i s=[.rows (uk X k i s.2 s.1)]
 | 0,_,_=>rfl
 | k+1,i,s=>pR X k (i+1) _
def O3 (r:Rul) (L:Rows):Rows:=cond (iLe 0 (BQ r L).2.1) (aI L (BQ r L).2.1) L
theorem AFI {r:Rul} {L:Rows} (hc:((AU r).2==0)=true):(O3 r L).length≤L.length∧acc L (O3 r L).length 0 (AU r).1∧(∀ j,j<(O3 r L).length→evR (O3 r L) j=evR L j)∧BC r L=NZ L (O3 r L).length 0 (AU r).1 []∧(iLe 0 (BQ r L).2.1=true→iRg 0 (BQ r L).2.1 (L.length:Int)=true):=by
 obtain ⟨k,h1,h2,h3,h4⟩:=V2 L L.length 0 (AU r).1;have hr:BQ r L=C6 L L.length 0 (AU r).1:=by unfold BQ;rw [hc];rfl
 have hp:BC r L=MF L L.length 0 (AU r).1 []:=by unfold BC;rw [hc];rfl
 unfold O3;rw [hr,hp]
 rcases h4 with ⟨h5,h6⟩ | ⟨h5,h6,h7⟩
 ·rw [h6];subst h5;exact ⟨Nat.le_refl _,h2,fun _ _=>rfl,h3 [],fun h=>absurd (show iLe (0:Int) (-1)=true from h) (by decide)⟩
 ·rw [h7];have hk:iLe 0 ((0+k:Nat):Int)=true:=by simp only [iLe,decide_eq_true_eq];omega
  simp only [hk,cond_true];rw [Nat.zero_add,AAZ h1];exact ⟨h1,h2,fun j hj=>ADd (by omega),h3 [],fun _=>by simp only [iRg,decide_eq_true_eq];omega⟩
set_option maxHeartbeats 8000000 in
theorem ABV {N:Nat} {r8:Bool} {r0:ByteArray} {r13:Rows} {L:Rows} (hN:2097152<N) (hs:r0.size≤1048576) (h13:r13.length≤1048576) (hL:L.length≤1048576):QY N [.str r0,.int r1,.int r2,.int r3,.int r4,.int r5,.int r6,.int r7,.bool r8,.int r9,.int r10,.int r11,.int r12,.rows r13,.rows L]=some (Zo (BC (⟨r0,r1,r2,r3,r4,r5,r6,r7,r8,r9,r10,r11,r12,r13⟩:Rul) L) (BQ (⟨r0,r1,r2,r3,r4,r5,r6,r7,r8,r9,r10,r11,r12,r13⟩:Rul) L)):=by
  show Pf (std (Dg N) N) (xOf _)=_;generalize hres:(some (Zo (BC (⟨r0,r1,r2,r3,r4,r5,r6,r7,r8,r9,r10,r11,r12,r13⟩:Rul) L) (BQ (⟨r0,r1,r2,r3,r4,r5,r6,r7,r8,r9,r10,r11,r12,r13⟩:Rul) L)):Option (List PV))=RR;simp only [Pf,Zf,hZ,Qz,Oc,lq9,std,xOf,PXb,fw hN hs h13 hL,sv hN hs h13];subst hres;cases hc:(AU (⟨r0,r1,r2,r3,r4,r5,r6,r7,r8,r9,r10,r11,r12,r13⟩:Rul)).2==0
  case false =>
    have e1:BQ (⟨r0,r1,r2,r3,r4,r5,r6,r7,r8,r9,r10,r11,r12,r13⟩:Rul) L=(ABT,0,1):=by unfold BQ;rw [hc];rfl
    have e2:BC (⟨r0,r1,r2,r3,r4,r5,r6,r7,r8,r9,r10,r11,r12,r13⟩:Rul) L=[]:=by unfold BC;rw [hc];rfl
    have hr:iRg 0 0 (L.length:Int)=true:=by simp only [iRg,decide_eq_true_eq];omega
    rw [e1,e2];simp only [HT,Um,PXb,PXc,hc,hr,show iLe (0:Int) 0=true from rfl];rfl
  obtain ⟨p1,p2,p3,p4,p5⟩:=AFI (L:=L) hc;have q1:(O3 (⟨r0,r1,r2,r3,r4,r5,r6,r7,r8,r9,r10,r11,r12,r13⟩:Rul) L).length≤1048576:=by omega
  refine jC (r:=[.rows (O3 (⟨r0,r1,r2,r3,r4,r5,r6,r7,r8,r9,r10,r11,r12,r13⟩:Rul) L)]) ?_ ?_
  · unfold O3;simp only [Um,PXb,PXc];cases hp:iLe 0 (BQ (⟨r0,r1,r2,r3,r4,r5,r6,r7,r8,r9,r10,r11,r12,r13⟩:Rul) L).2.1 with
    | false=>rfl
    | true=>rw [p5 hp];rfl
  have okm:=jP (⟨r0,r1,r2,r3,r4,r5,r6,r7,r8,r9,r10,r11,r12,r13⟩:Rul) hc;have on:=fun i=>AEN (L:=L) i 0 _ okm
  have aat:=Sd _ 0 _ p2;rw [p4];have d1:=xe (X:=O3 (⟨r0,r1,r2,r3,r4,r5,r6,r7,r8,r9,r10,r11,r12,r13⟩:Rul) L) _ 0 _ [] p2 (fun j hj=>p3 j (by omega));rw [← d1];generalize hX:O3 (⟨r0,r1,r2,r3,r4,r5,r6,r7,r8,r9,r10,r11,r12,r13⟩:Rul) L=X at *
  clear hX d1 p4 p5;simp only [HT,PXb,PXc,hc,Nat.reduceAdd];refine AN (Xe (St:=Rows×Mat) (len:=X.length) (enc:=fun i s=>[.rows s.1,.int (i:Int),.str s.2.rules.name,.int s.2.rules.side,.int s.2.rules.innings,.int s.2.rules.overs,.int s.2.rules.balls,.int s.2.rules.quota,.int s.2.rules.wide,.int s.2.rules.noball,.bool s.2.rules.freehit,.int s.2.rules.newball,.int s.2.rules.followon,.int s.2.rules.reviews,.int s.2.rules.outside,.rows s.2.rules.power,.int s.2.stage,.int s.2.first,.bool s.2.follow,.rows (Aa s.2.inns),.int s.2.pen1,.int s.2.pen2,.int s.2.win,.int s.2.wside,.int s.2.margin])
    (body:=ul X) (fin:=fun s=>[.rows s.1]) (fun i s=>s.2=stM L i 0 (AU (⟨r0,r1,r2,r3,r4,r5,r6,r7,r8,r9,r10,r11,r12,r13⟩:Rul)).1∧s.1.length≤i) ?_ ?_ X.length 0 ([],(AU (⟨r0,r1,r2,r3,r4,r5,r6,r7,r8,r9,r10,r11,r12,r13⟩:Rul)).1) N (by omega) (by omega) ⟨rfl,Nat.zero_le _⟩) ?_
  · intro m self _;simp only [PXb,PXc,PXn,AD,Aj]
  · intro i s self hi ok;obtain ⟨out,m⟩:=s;obtain ⟨ok,hout⟩:=ok;simp only at ok hout;have oi:=on i;have ai:=aat i hi;have si:=bP (L:=L) i 0 (AU (⟨r0,r1,r2,r3,r4,r5,r6,r7,r8,r9,r10,r11,r12,r13⟩:Rul)).1;rw [Nat.zero_add] at ai si;rw [← ok] at oi ai si;rw [← p3 i hi] at ai si;have st:=(WH ai).1;rw [st] at ai si;clear ok st aat on;obtain ⟨⟨a0,a1,a2,a3,a4,a5,a6,a7,a8,a9,a10,a11,a12,a13⟩,a14,a15,a16,a17,a18,a19,a20,a21,a22⟩:=m;have o1:=oi.rules;have o2:=oi.fit;have o3:=oi.len;simp only at o1 o2 o3;cases o1;refine ⟨?_,?_⟩
    · simp only [PXb,PXc,PXn,AD,Ah (show i≤1099511627776 by omega),Ad hi,AM hi,Qz,ni hN o2 (show a17.length≤1000000 by omega) hs h13,BW,qR,Nat.reduceAdd,PXk,PXc,AAT,List.length_append,List.length_cons,List.length_nil,PXi];unfold ul;simp only;have hk0:(evR X i).kind=atI X i 0:=rfl;rw [hk0];cases hk:atI X i 0==4
      case false=>rfl
      have hd:=AB3 (m:=(⟨⟨r0,r1,r2,r3,r4,r5,r6,r7,r8,r9,r10,r11,r12,r13⟩,a14,a15,a16,a17,a18,a19,a20,a21,a22⟩:Mat)) (e:=evR X i) o3 ai hk rfl;simp only at hd;have h216:iSm ((out.length+1:Nat):Int) 216=true:=DJ (by omega) (by omega);simp only [PXb,PXc,hd.1,hd.2,h216,Oc,f7,Cre.ls];simp only [atI,atB,PXi];rfl
    · intro s' h;unfold ul at h;cases h;refine ⟨si.symm,?_⟩;show (cond ((evR X i).kind==4) (out++[_]) out).length≤i+1;cases (evR X i).kind==4 with
      | false=>show out.length≤_;omega
      | true=>show (out++[_]).length≤_;rw [List.length_append];simp;omega
  · rw [pR];rfl
theorem pH (r:Rul) (L:Rows):(BC r L).length≤L.length:=by
 unfold BC;cases (AU r).2==0 with
 | false=>exact Nat.zero_le _
 | true =>
  have:=vg L L.length 0 (AU r).1 [];rw [List.length_nil,Nat.zero_add] at this;exact this
end Go.Px
end
