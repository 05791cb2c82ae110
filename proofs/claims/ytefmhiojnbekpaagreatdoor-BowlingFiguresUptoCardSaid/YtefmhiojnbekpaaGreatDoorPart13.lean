/- Part 13. -/
import Derived.Test.YtefmhiojnbekpaaGreatDoorPart12
set_option linter.unusedVariables false
set_option linter.unusedSimpArgs false
variable {r1 r2 r3 r4 r5 r6 r7 r9 r10 r11 r12:Int}
variable {m1 m2 m3 m4 m5 m6 m7 m9 m10 m11 m12 m14 m15 m18 m19 m20 m21 m22:Int}
variable {e0 e1 e2 e3 e5 e6 e7 e8 e9 e10 e11 e13 e14 e15 e16 e18:Int}
section
namespace Go.Px
set_option maxRecDepth 100000
def lnx (xs:List Inn):Nat:=(IntKind.i64.wrap ((xs.length:Int) - 1)).toNat
def Af (m:Mat):Inn:=inn m.inns (lnx m.inns)
theorem OG {n:Nat} (h:((n:Int)==0)=false) (hl:n≤1000000):iIn (IntKind.i64.wrap ((n:Int) - 1)) (n:Int)=true:=by
 rw [beq_eq_false_iff_ne] at h;rw [B3 (by omega) (by omega)];simp only [iIn,decide_eq_true_eq];omega
theorem Yv {xs:List Inn} (h:((xs.length:Int)==0)=false) (hl:xs.length≤1000000):lnx xs<xs.length:=by
 rw [beq_eq_false_iff_ne] at h;unfold lnx;rw [B3 (by omega) (by omega)];omega
def Zf (r:Rul):Int:=cond (r.overs==0) 5 6
theorem KG {N:Nat} {r8:Bool} {r0:ByteArray} {r13:Rows}  : B4 N [.str r0,.int r1,.int r2,.int r3,.int r4,.int r5,.int r6,.int r7,.bool r8,.int r9,.int r10,.int r11,.int r12,.rows r13]=some [.int (Zf (⟨r0,r1,r2,r3,r4,r5,r6,r7,r8,r9,r10,r11,r12,r13⟩:Rul))]:=by
 show GH (std (PK N) N) (xOf _)=_;simp only [GH,Alg.q,std,xOf,PXb,PXc,PXn,PXm,Nat.reduceAdd,Int.reduceBEq,Zf]
theorem UM {N:Nat} {m8 m16:Bool} {m0:ByteArray} {m13:Rows} {m17:List Inn} (h:((m17.length:Int)==0)=false) (hl:m17.length≤1000000):DK N [.str m0,.int m1,.int m2,.int m3,.int m4,.int m5,.int m6,.int m7,.bool m8,.int m9,.int m10,.int m11,.int m12,.rows m13,.int m14,.int m15,.bool m16,.rows (AX m17),.int m18,.int m19,.int m20,.int m21,.int m22]=some (inn m17 (lnx m17)).ls:=by
 show Pv (std (Ky N) N) (xOf _)=_;simp only [Pv,Alg.q,std,xOf,PXb,PXc,PXn,PXm,Nat.reduceAdd,Int.reduceBEq,PXi,OG h hl,lnx]
def sX (x:Int×Int×Int):List PV:=[.int x.1,.int x.2.1,.int x.2.2]
def Nl (m:Mat):Int×Int×Int :=
  let n:Int:=m.inns.length
  let most:=IntKind.i64.wrap (2 * m.rules.innings)
  let x:=Af m
  cond (!CY m||n==0) (0,0,0) (cond (x.ending==5) (Zf m.rules,0,0) (cond (x.ending==0) (0,0,0)
    (cond (n==most&&iLe x.target x.runs) (2,x.side,IntKind.i64.wrap (IntKind.i64.wrap (m.rules.side - 1) - x.wickets)) (cond (n==most&&x.runs==IntKind.i64.wrap (x.target - 1)) (4,0,0)
      (cond (n==most) (1,BZ x.side,IntKind.i64.wrap (IntKind.i64.wrap (x.target - 1) - x.runs))
        (cond (n==3&&iLt (BD m x.side) (BD m (BZ x.side))) (3,BZ x.side,IntKind.i64.wrap (BD m (BZ x.side) - BD m x.side)) (0,0,0)))))))
set_option maxHeartbeats 4000000 in
theorem nn {N:Nat} {m8 m16:Bool} {m0:ByteArray} {m13:Rows} {m17:List Inn} (hf:Dw m17) (hN:2097152<N) (hl:m17.length≤1000000) (hs:m0.size≤1048576):GR N [.str m0,.int m1,.int m2,.int m3,.int m4,.int m5,.int m6,.int m7,.bool m8,.int m9,.int m10,.int m11,.int m12,.rows m13,.int m14,.int m15,.bool m16,.rows (AX m17),.int m18,.int m19,.int m20,.int m21,.int m22]=some (sX (Nl (⟨⟨m0,m1,m2,m3,m4,m5,m6,m7,m8,m9,m10,m11,m12,m13⟩,m14,m15,m16,m17,m18,m19,m20,m21,m22⟩:Mat))):=by
 show KA (std (DX N) N) (xOf _)=_;generalize hres:(some (sX (Nl (⟨⟨m0,m1,m2,m3,m4,m5,m6,m7,m8,m9,m10,m11,m12,m13⟩,m14,m15,m16,m17,m18,m19,m20,m21,m22⟩:Mat))):Option (List PV))=RR;simp only [KA,R9,SI,SG,Nj,Alg.q,std,xOf,PXb,PXi,cD hf hN hl hs,I5,KG,Sh hN (show m17.length≤1048576 by omega)];subst hres;simp only [Nl,Af,lnx];cases hv:CY (⟨⟨m0,m1,m2,m3,m4,m5,m6,m7,m8,m9,m10,m11,m12,m13⟩,m14,m15,m16,m17,m18,m19,m20,m21,m22⟩:Mat)
 case false=>rfl
 cases h0:(m17.length:Int)==0
 case true=>rfl
 simp only [PXb,OG h0 hl];generalize inn m17 (IntKind.i64.wrap ((m17.length:Int) - 1)).toNat=x;cases x.ending==5
 case true=>rfl
 cases x.ending==0
 case true=>rfl
 cases (m17.length:Int)==IntKind.i64.wrap (2 * m2)<;>cases iLe x.target x.runs<;>cases x.runs==IntKind.i64.wrap (x.target - 1)<;>try rfl
 all_goals (cases (m17.length:Int)==3<;>try rfl)
 all_goals (simp only [PXb];cases iLt (BD (⟨⟨m0,m1,m2,m3,m4,m5,m6,m7,m8,m9,m10,m11,m12,m13⟩,m14,m15,m16,m17,m18,m19,m20,m21,m22⟩:Mat) x.side) (BD (⟨⟨m0,m1,m2,m3,m4,m5,m6,m7,m8,m9,m10,m11,m12,m13⟩,m14,m15,m16,m17,m18,m19,m20,m21,m22⟩:Mat) (BZ x.side))<;>rfl)
set_option maxHeartbeats 4000000 in
theorem q9 {N:Nat} {m8 m16:Bool} {m0:ByteArray} {m13:Rows} {m17:List Inn} (hf:Dw m17) (hN:2097152<N) (hl:m17.length≤1000000) (hs:m0.size≤1048576):I7 N [.str m0,.int m1,.int m2,.int m3,.int m4,.int m5,.int m6,.int m7,.bool m8,.int m9,.int m10,.int m11,.int m12,.rows m13,.int m14,.int m15,.bool m16,.rows (AX m17),.int m18,.int m19,.int m20,.int m21,.int m22]=some (sX (Nl (⟨⟨m0,m1,m2,m3,m4,m5,m6,m7,m8,m9,m10,m11,m12,m13⟩,m14,m15,m16,m17,m18,m19,m20,m21,m22⟩:Mat))):=by
 show I4 (std (CQ N) N) (xOf _)=_;generalize hres:(some (sX (Nl (⟨⟨m0,m1,m2,m3,m4,m5,m6,m7,m8,m9,m10,m11,m12,m13⟩,m14,m15,m16,m17,m18,m19,m20,m21,m22⟩:Mat))):Option (List PV))=RR;simp only [I4,WB,Mb,Lt,Lw,Alg.q,std,xOf,PXb,PXi,X7 hf hN hl hs,Gm,MD hN (show m17.length≤1048576 by omega)];subst hres;simp only [Nl,Af];cases hv:CY (⟨⟨m0,m1,m2,m3,m4,m5,m6,m7,m8,m9,m10,m11,m12,m13⟩,m14,m15,m16,m17,m18,m19,m20,m21,m22⟩:Mat)
 case false=>rfl
 cases h0:(m17.length:Int)==0
 case true=>rfl
 simp only [PXb,PXm,Mb,UM h0 hl,Lt,Lw,Gm,MD hN (show m17.length≤1048576 by omega)];generalize inn m17 (lnx m17)=x;unfold Zf;cases x.ending==5<;>cases m3==0<;>try rfl
 all_goals (cases x.ending==0<;>try rfl)
 all_goals (cases (m17.length:Int)==IntKind.i64.wrap (2 * m2)<;>cases iLe x.target x.runs<;>cases x.runs==IntKind.i64.wrap (x.target - 1)<;>try rfl)
 all_goals (cases (m17.length:Int)==3<;>try rfl)
 all_goals (simp only [PXb];cases iLt (BD (⟨⟨m0,m1,m2,m3,m4,m5,m6,m7,m8,m9,m10,m11,m12,m13⟩,m14,m15,m16,m17,m18,m19,m20,m21,m22⟩:Mat) x.side) (BD (⟨⟨m0,m1,m2,m3,m4,m5,m6,m7,m8,m9,m10,m11,m12,m13⟩,m14,m15,m16,m17,m18,m19,m20,m21,m22⟩:Mat) (BZ x.side))<;>rfl)
theorem vm:∀ (n k:Nat) (f:Nat→Nat),(∀ i,i<k→1≤f i∧f i≤n)→(∀ i j,i<j→j<k→f i≠f j)→k≤n
 | 0,k,f,h,_=>by
  rcases Nat.eq_zero_or_pos k with e | e
  ·omega
  ·have:=h 0 e;omega
 | n+1,0,f,_,_=>by omega
 | n+1,k+1,f,h,hi=>by
  by_cases he:∃ j,j<k+1∧f j=n+1
  ·obtain ⟨j,hj,hfj⟩:=he;have:=vm n k (fun i=>if i=j then f k else f i) (fun i hik=>by
    show 1≤(if i=j then f k else f i)∧(if i=j then f k else f i)≤n
    by_cases e:i=j
    ·rw [if_pos e];have h1:=h k (by omega);have:f k≠f j:=fun e2=>hi j k (by omega) (by omega) e2.symm
     omega
    ·rw [if_neg e];have h1:=h i (by omega);have:f i≠f j:=by
      rcases Nat.lt_or_gt_of_ne e with e2 | e2
      ·exact hi i j e2 hj
      ·exact fun e3=>hi j i e2 (by omega) e3.symm
     omega) (fun a b hab hb=>by
    show (if a=j then f k else f a)≠(if b=j then f k else f b)
    by_cases e1:a=j
    ·have e2:b≠j:=by omega
     rw [if_pos e1,if_neg e2];exact fun e3=>hi b k hb (by omega) e3.symm
    ·rw [if_neg e1]
     by_cases e2:b=j
     ·rw [if_pos e2];exact hi a k (by omega) (by omega)
     ·rw [if_neg e2];exact hi a b hab (by omega))
   omega
  ·have:=vm n (k+1) f (fun i hik=>by
    have h1:=h i hik;have:f i≠n+1:=fun e=>he ⟨i,hik,e⟩
    omega) hi
   omega
theorem uA {L:Rows} {n:Int} (h:GT L n=true) (hn:0≤n):(L.length:Int)≤n:=by
 unfold GT at h;rw [Bool.not_eq_true',LV] at h;have hb:∀ i,i<L.length→1≤atI L i 0∧atI L i 0≤n:=fun i hi=>by
  have:=h i (by omega) (by omega);unfold Le at this;rw [Bool.or_eq_false_iff,Bool.not_eq_false',Yy] at this;exact this.1
 have:=vm n.toNat L.length (fun i=>(atI L i 0).toNat) (fun i hi=>by have:=hb i hi;show 1≤(atI L i 0).toNat∧(atI L i 0).toNat≤n.toNat;omega) (fun i j hij hj=>by
  show (atI L i 0).toNat≠(atI L j 0).toNat;have h1:=hb i (by omega);have h2:=hb j hj;have h3:=h j (by omega) (by omega);unfold Le at h3;rw [Bool.or_eq_false_iff] at h3;have h4:=LV.1 h3.2 i (by omega) (by omega);rw [beq_eq_false_iff_ne] at h4;omega)
 omega
theorem Oe {r:Rul} {s:Inn} (h:EZ r s=true):s.bowlers.length≤11∧s.before.length≤11∧s.Fit:=by
 have ok:=Nw.1 h;have hs:=ACV ok;have h1:=uA ok.dw (by omega);have h2:=uA ok.df (by omega);have h3:=ok.lb;have h4:=ok.ld;have h5:=ok.lz;exact ⟨by omega,by omega,by omega,by omega,by omega,by omega,by omega⟩
end Go.Px
end
section
namespace Go.Px
set_option maxRecDepth 100000
def XE (m:Mat) (e:Ev):Mat×Int :=
  let sd:=CT m (m.inns.length:Int)
  let b:=Bh m.rules sd (FG m sd) (cond (sd==2) m.pen2 m.pen1)
  let t:=Aw m.rules b.1 e
  cond (!(b.2==0)) (m,1) (cond (!(t.2==0)) (m,t.2)
    ({ m with stage:=3,inns:=m.inns++[t.1],pen1:=cond (sd==1) 0 m.pen1,pen2:=cond (sd==2) 0 m.pen2 },0))
def NE (xs:List Inn) (sd:Int):Nat→Option Nat
 | 0=>none
 | k+1=>cond ((inn xs k).side==sd) (some k) (NE xs sd k)
def HI (m:Mat) (sd:Int):Mat:=match NE m.inns sd m.inns.length with
 | some k=>{ m with inns:=m.inns.set k (Jo (inn m.inns k)) }
 | none=>{ m with pen1:=cond (sd==1) (IntKind.i64.wrap (m.pen1+5)) m.pen1,pen2:=cond (sd==2) (IntKind.i64.wrap (m.pen2+5)) m.pen2 }
def E1 (m:Mat) (e:Ev):Mat×Int :=
 let t:=Aw m.rules (Af m) e
 cond (!(t.2==0)) (m,t.2) (cond (e.kind==13 && !(e.side==t.1.side)) (HI { m with inns:=m.inns.set (lnx m.inns) t.1 } e.side) { m with inns:=m.inns.set (lnx m.inns) t.1 },0)
def gt (m:Mat):Mat:={ m with inns:=cond (m.stage==3) (m.inns.set (lnx m.inns) { Af m with ending:=5 }) m.inns,stage:=5,win:=Zf m.rules,wside:=0,margin:=0 }
def Gp (m:Mat) (e:Ev):Mat×Int :=
  cond (e.kind==1) (cond (!(m.stage==1)) (m,1) ({ m with first:=cond e.yes e.side (BZ e.side),stage:=2 },0))
    (cond (e.kind==2) (cond (!(m.stage==2)) (m,1) (XE m e))
      (cond (e.kind==12) (cond (!(m.stage==4)) (m,1) (cond (!(e.side==m.first)) (m,2) ({ m with follow:=e.yes,stage:=2 },0)))
        (cond (e.kind==16) (gt m,0) (cond (!(m.stage==3)) (m,1) (E1 m e)))))
def Ny (m:Mat):Mat :=
  let n:Int:=m.inns.length
  let sd:=(Af m).side
  let o:=Nl { m with stage:=5 }
  cond (n==IntKind.i64.wrap (2 * m.rules.innings)||(n==3&&iLt (BD m sd) (BD m (BZ sd)))) { m with stage:=5,win:=o.1,wside:=o.2.1,margin:=o.2.2 }
    (cond (n==2&&iLt 0 m.rules.followon&&iLe m.rules.followon (IntKind.i64.wrap (BD m m.first - BD m (BZ m.first)))) { m with stage:=4 } { m with stage:=2 })
def CA (m:Mat):Mat:=cond (m.stage==3 && !((Af m).ending==0)) (Ny m) m
def CP (m:Mat) (e:Ev):Mat×Int :=
 cond (!CY m || !(evS e==0)) (m,1) (cond (m.stage==5) (m,26) (cond (!((Gp m e).2==0)) (m,(Gp m e).2) (CA (Gp m e).1,0)))
theorem bind_ok {X:Option (List PV)} {r:List PV} {k:List PV→Option (List PV)} {g:Option (List PV)} (h:X=some r) (hk:k r=g):X.bind k=g:=by rw [h];exact hk
structure MatOk (m:Mat):Prop where
 code:A2 m.rules=0
 len:m.inns.length≤4
 innv:∀ i,i<m.inns.length→EZ m.rules (inn m.inns i)=true∧(inn m.inns i).side=CT m (i:Int)
 begun:(m.stage==3)=true→((m.inns.length:Int)==0)=false
 toss:(m.stage==2)=true→m.first=1∨m.first=2
 room:(m.stage==2)=true→(m.inns.length:Int)<2 * m.rules.innings
 most:IntKind.i64.wrap (2 * m.rules.innings)=2 * m.rules.innings∧(m.inns.length:Int)≤2 * m.rules.innings
theorem Vc {m:Mat} (h:CY m=true):MatOk m:=by
 unfold CY nB at h;simp only [Bool.and_eq_true,Bool.not_eq_true'] at h;obtain ⟨⟨h1,h2,h3,h4,h5,h6,h7,h8,h9,h10⟩,h11,h12⟩:=h;have hc:=beq_iff_eq.1 h1;have rk:=(DY hc).innings;have e2:IntKind.i64.wrap (2 * m.rules.innings)=2 * m.rules.innings:=B3 (by omega) (by omega);rw [e2] at h5 h8;rw [Bool.or_eq_false_iff,Bool.or_eq_false_iff] at h5;have hn:=h5.2;have hf1:=h5.1.1;have hf2:=h5.1.2;simp only [iLt,decide_eq_false_iff_not] at hn hf1 hf2;refine ⟨hc,by omega,fun i hi=>?_,fun hs=>?_,fun hs=>?_,fun hs=>?_,e2,by omega⟩
 ·have:=LV.1 h11 i (by omega) (by omega);unfold Kh at this;rw [Bool.or_eq_false_iff,Bool.not_eq_false',Bool.not_eq_false',beq_iff_eq] at this;exact this
 ·unfold YL at h12;rw [hs,Bool.and_eq_true] at h12;have:=h12.2;simp only [iLt,Bool.not_true,Bool.false_or,decide_eq_true_eq] at this;exact beq_false_of_ne (by omega)
 ·rw [beq_iff_eq.1 hs] at h6;cases h0:m.first==0 with
  | true=>rw [h0] at h6;simp at h6
  | false =>
   rw [beq_eq_false_iff_ne] at h0;omega
 ·rw [hs,Bool.true_and,beq_eq_false_iff_ne] at h8;omega
theorem se {m:Mat} (h:m.first=1∨m.first=2) (i:Int):CT m i=1∨CT m i=2:=by
 unfold CT;cases cond (m.follow&&iLe 2 i) (i==2) (i.tmod 2==1) with
 | false=>exact h
 | true=>rcases h with h | h<;>rw [h]<;>decide
theorem qK {m:Mat} (h:MatOk m):Dw m.inns:=fun i hi=>(Oe (h.innv i hi).1).2.2
theorem aY {F : (List Ae → Option (List PV)) → List PV → Option (List PV)} {len : Nat} (enc : Nat → List Ae) (ans : Nat → Option (List PV))
    (h0:∀ self,F self ((enc len).map Leaf.pv)=some [.int 1]) (h1:∀ i self,i<len→F self ((enc i).map Leaf.pv)=match ans i with | some r=>some (.int 0::r) | none=>self (enc (i+1))) :
    ∀ (k i n:Nat),i+k=len→k<n→Ds F n ((enc i).map Leaf.pv)=some (Tp (CS ans k i))
  | 0,i,n,hk,hn=>by
    obtain ⟨n,rfl⟩:∃ m,n=m+1:=⟨n - 1,by omega⟩;obtain rfl:i=len:=by omega
    exact h0 _
  | k+1,i,n,hk,hn=>by
    obtain ⟨n,rfl⟩:∃ m,n=m+1:=⟨n - 1,by omega⟩;show F _ _=_;rw [h1 i _ (by omega)];simp only [CS];cases ans i with
    | some r=>rfl
    | none=>exact aY enc ans h0 h1 k (i+1) n (by omega) (by omega)
theorem oP (ys:List Inn) (sd:Int) (g:Nat→List PV) (n:Nat):∀ k,k≤n→CS (fun j=>cond ((inn ys (n - 1 - j)).side==sd) (some (g (n - 1 - j))) none) k (n - k)=(NE ys sd k).map g
 | 0,_=>rfl
 | k+1,h=>by
  have ih:=oP ys sd g n k (by omega);have e:n - 1 - (n - (k+1))=k:=by omega
  have e2:n - (k+1)+1=n - k:=by omega
  simp only [CS,NE,e,e2,ih];cases (inn ys k).side==sd<;>rfl
theorem gb (xs:List Inn) (k:Nat) (s:Inn) (i:Nat) (hi:i<xs.length):inn (xs.set k s) i=(if k=i then s else inn xs i):=by
 rw [PL,PL,List.getElem?_set]
 by_cases h:k=i
 ·subst h;rw [if_pos rfl,if_pos rfl,if_pos hi]
 ·rw [if_neg h,if_neg h]
theorem Qv {xs:List Inn} {s:Inn} (k:Nat) (h:Dw xs) (hs:s.Fit):Dw (xs.set k s):=fun i hi=>by
 rw [List.length_set] at hi;rw [gb xs k s i hi]
 by_cases e:k=i
 ·rw [if_pos e];exact hs
 ·rw [if_neg e];exact h i hi
theorem qt {e:Ev} (h:(evS e==0)=true) (hk:(e.kind==13)=true):e.side=1∨e.side=2:=by
 have h0:=gd h;rw [beq_iff_eq] at hk;unfold evS at h;rw [h0] at h;cases h1:pN e with
 | true=>rw [h1] at h;cases h
 | false =>
  cases h2:gQ e with
  | true=>rw [h1,h2] at h;cases h
  | false =>
   unfold gQ at h2;rw [Bool.or_eq_false_iff] at h2;have h3:=h2.1;rw [hk,show uS 13=true from rfl,Bool.and_true] at h3;simp only [btw,iLe,Bool.not_eq_false',Bool.and_eq_true,decide_eq_true_eq] at h3;omega
theorem ACb (xs:List Inn) (s:Inn) (i:Nat) (hi:i<xs.length+1):inn (xs++[s]) i=(if i<xs.length then inn xs i else s):=by
 rw [PL,PL]
 by_cases h:i<xs.length
 ·rw [if_pos h,List.getElem?_append_left h]
 ·have:i=xs.length:=by omega
  subst this;rw [if_neg h,List.getElem?_append_right (Nat.le_refl _),Nat.sub_self];rfl
theorem ABc {xs:List Inn} {s:Inn} (h:Dw xs) (hs:s.Fit):Dw (xs++[s]):=fun i hi=>by
 rw [List.length_append] at hi;rw [ACb xs s i hi]
 by_cases e:i<xs.length
 ·rw [if_pos e];exact h i e
 ·rw [if_neg e];exact hs
theorem oW (r:Rul) (a b c:Int) (e:Ev):(Aw r (Bh r a b c).1 e).1.Fit:=by
 obtain ⟨f,h1,h2⟩:=IP r a b c;exact Kf (SX r _ e) f (by rw [h1,h2];exact Nat.zero_le _)
structure ActOk (m:Mat) (x:Mat×Int):Prop where
 rules:x.1.rules=m.rules
 fit:Dw x.1.inns
 len:x.1.inns.length≤5
 some':(x.2==0)=true→(x.1.stage==3)=true→((x.1.inns.length:Int)==0)=false
theorem A_c {m:Mat} (b:Bool) (x y:Mat×Int) (hx:ActOk m x) (hy:ActOk m y):ActOk m (cond b x y):=by cases b<;>assumption
theorem tT {m:Mat} (sd:Int) (hf:Dw m.inns):(HI m sd).rules=m.rules∧Dw (HI m sd).inns∧(HI m sd).inns.length=m.inns.length∧(HI m sd).stage=m.stage:=by
 unfold HI;cases h:NE m.inns sd m.inns.length with
 | none=>exact ⟨rfl,hf,rfl,rfl⟩
 | some k =>
  have hk:k<m.inns.length:=by
   have:∀ n,NE m.inns sd n=some k→k<n:=by
    intro n
    induction n with
    | zero=>intro h;cases h
    | succ n ih =>
     intro h;unfold NE at h;cases hq:(inn m.inns n).side==sd with
     | true=>rw [hq] at h;cases h;omega
     | false=>rw [hq] at h;have:=ih h;omega
   exact this _ h
  exact ⟨rfl,Qv k hf (ACF (hf k hk)),List.length_set,rfl⟩
theorem vG {m:Mat} (ok:MatOk m) (e:Ev):ActOk m (Gp m e):=by
 have hf:=qK ok;have hl:=ok.len;have self:∀ n:Int,(n==0)=false→ActOk m (m,n):=fun n hn=>⟨rfl,hf,by show m.inns.length≤5;omega,fun h=>by rw [hn] at h;cases h⟩
 unfold Gp;refine A_c _ _ _ (A_c _ _ _ (self 1 rfl) ⟨rfl,hf,by show m.inns.length≤5;omega,fun _ h=>by cases h⟩) (A_c _ _ _ ?_ (A_c _ _ _ ?_ (A_c _ _ _ ?_ ?_)))
 ·refine A_c _ _ _ (self 1 rfl) ?_;unfold XE;refine A_c _ _ _ (self 1 rfl) ?_;cases hq:(Aw m.rules (Bh m.rules (CT m (m.inns.length:Int)) (FG m (CT m (m.inns.length:Int))) (cond (CT m (m.inns.length:Int)==2) m.pen2 m.pen1)).1 e).2==0 with
  | false =>
   simp only [Bool.not_false,cond_true];exact self _ hq
  | true =>
   simp only [Bool.not_true,cond_false];exact ⟨rfl,ABc hf (oW _ _ _ _ e),by simp;omega,fun _ _=>by
    show ((((m.inns++[_]).length:Nat):Int)==0)=false;rw [List.length_append];exact beq_false_of_ne (by simp;omega)⟩
 ·exact A_c _ _ _ (self 1 rfl) (A_c _ _ _ (self 2 rfl) ⟨rfl,hf,by show m.inns.length≤5;omega,fun _ h=>by cases h⟩)
 ·unfold gt;cases h3:m.stage==3 with
  | false=>exact ⟨rfl,hf,by show m.inns.length≤5;omega,fun _ h=>by cases h⟩
  | true =>
   have h0:=ok.begun h3;have fl:=hf (lnx m.inns) (Yv h0 (by omega));exact ⟨rfl,Qv _ hf ⟨fl.bt,fl.bw,fl.bf,fl.bd,fl.sb⟩,by show (m.inns.set _ _).length≤5;rw [List.length_set];omega,fun _ h=>by cases h⟩
 ·cases h3:m.stage==3 with
  | false=>exact self 1 rfl
  | true =>
   have h0:=ok.begun h3;have lv:=Oe (ok.innv (lnx m.inns) (Yv h0 (by omega))).1;have h1:=lv.1;have h2:=lv.2.1;have ft:=Kf (SX m.rules (Af m) e) lv.2.2 (show (inn m.inns (lnx m.inns)).before.length+(inn m.inns (lnx m.inns)).bowlers.length≤1048575 by omega);simp only [Bool.not_true,cond_false,E1];cases hq:(Aw m.rules (Af m) e).2==0 with
   | false =>
    simp only [Bool.not_false,Bool.not_true,cond_true,cond_false];exact self _ hq
   | true =>
    have fs:=Qv (lnx m.inns) hf ft;have ln:(m.inns.set (lnx m.inns) (Aw m.rules (Af m) e).1).length=m.inns.length:=List.length_set;simp only [Bool.not_true,cond_false];cases (e.kind==13 && !(e.side==(Aw m.rules (Af m) e).1.side)) with
    | false =>
     exact ⟨rfl,fs,by show (m.inns.set _ _).length≤5;omega,fun _ _=>by
      show ((((m.inns.set _ _).length:Nat):Int)==0)=false;rw [ln];exact h0⟩
    | true =>
     obtain ⟨a1,a2,a3,a4⟩:=tT (m:={ m with inns:=m.inns.set (lnx m.inns) (Aw m.rules (Af m) e).1 }) e.side fs;exact ⟨a1,a2,by show (HI _ _).inns.length≤5;rw [a3];show (m.inns.set _ _).length≤5;omega,fun _ _=>by
      show ((((HI _ _).inns.length:Nat):Int)==0)=false;rw [a3];show ((((m.inns.set _ _).length:Nat):Int)==0)=false;rw [ln];exact h0⟩
end Go.Px
end
section
namespace Go.Px
set_option maxRecDepth 100000
set_option maxHeartbeats 8000000 in
theorem tB {N:Nat} {m8 m16:Bool} {m0:ByteArray} {m13:Rows} {m17:List Inn} {e4 e12 e17:Bool} (hN:2097152<N) (hf:Dw m17) (hl:m17.length≤1000000) (hs:m0.size≤1048576) (h13:m13.length≤1048576):OW N [.str m0,.int m1,.int m2,.int m3,.int m4,.int m5,.int m6,.int m7,.bool m8,.int m9,.int m10,.int m11,.int m12,.rows m13,.int m14,.int m15,.bool m16,.rows (AX m17),.int m18,.int m19,.int m20,.int m21,.int m22,.int e0,.int e1,.int e2,.int e3,.bool e4,.int e5,.int e6,.int e7,.int e8,.int e9,.int e10,.int e11,.bool e12,.int e13,.int e14,.int e15,.int e16,.bool e17,.int e18]=some (G6 (CP (⟨⟨m0,m1,m2,m3,m4,m5,m6,m7,m8,m9,m10,m11,m12,m13⟩,m14,m15,m16,m17,m18,m19,m20,m21,m22⟩:Mat) (⟨e0,e1,e2,e3,e4,e5,e6,⟨e7,e8,e9,e10,e11,e12,e13,e14,e15,e16,e17,e18⟩⟩:Ev))):=by
 show Pp (std (BH N) N) (xOf _)=_;generalize hres:(some (G6 (CP (⟨⟨m0,m1,m2,m3,m4,m5,m6,m7,m8,m9,m10,m11,m12,m13⟩,m14,m15,m16,m17,m18,m19,m20,m21,m22⟩:Mat) (⟨e0,e1,e2,e3,e4,e5,e6,⟨e7,e8,e9,e10,e11,e12,e13,e14,e15,e16,e17,e18⟩⟩:Ev))):Option (List PV))=RR;simp only [Pp,U3,Uz,Uh,FQ,Fg,KO,JP,EW,Ez,DG,De,Hl,Alg.q,std,xOf,PXb,cD hf hN hl hs,dA hN,sJ hf hN hl h13];subst hres;simp only [CP];cases hv:CY (⟨⟨m0,m1,m2,m3,m4,m5,m6,m7,m8,m9,m10,m11,m12,m13⟩,m14,m15,m16,m17,m18,m19,m20,m21,m22⟩:Mat)
 case false=>rfl
 cases he:evS (⟨e0,e1,e2,e3,e4,e5,e6,⟨e7,e8,e9,e10,e11,e12,e13,e14,e15,e16,e17,e18⟩⟩:Ev)==0
 case false=>simp only [PXb,he];rfl
 simp only [PXb,he];cases h5:m14==5
 case true=>rfl
 simp only [PXb];have ok:=Vc hv;refine bind_ok (r:=.int (Gp (⟨⟨m0,m1,m2,m3,m4,m5,m6,m7,m8,m9,m10,m11,m12,m13⟩,m14,m15,m16,m17,m18,m19,m20,m21,m22⟩:Mat) (⟨e0,e1,e2,e3,e4,e5,e6,⟨e7,e8,e9,e10,e11,e12,e13,e14,e15,e16,e17,e18⟩⟩:Ev)).2::(Gp (⟨⟨m0,m1,m2,m3,m4,m5,m6,m7,m8,m9,m10,m11,m12,m13⟩,m14,m15,m16,m17,m18,m19,m20,m21,m22⟩:Mat) (⟨e0,e1,e2,e3,e4,e5,e6,⟨e7,e8,e9,e10,e11,e12,e13,e14,e15,e16,e17,e18⟩⟩:Ev)).1.ls) ?_ ?_
 ·unfold Gp;cases hk1:e0==1
  case true =>
   simp only [PXb,Fg,I5];cases m14==1<;>cases e4<;>rfl
  cases hk2:e0==2
  case true =>
   simp only [PXb];cases hs2:m14==2
   case false=>rfl
   have hl2:m17.length≤1048576:=by omega
   have h304:iSm ((m17.length+1:Nat):Int) 304=true:=DP (by omega) (by omega);have fb:=fun a b c=>(IP (⟨⟨m0,m1,m2,m3,m4,m5,m6,m7,m8,m9,m10,m11,m12,m13⟩,m14,m15,m16,m17,m18,m19,m20,m21,m22⟩:Mat).rules a b c).1
   have wb:∀ a b c,(Bh (⟨⟨m0,m1,m2,m3,m4,m5,m6,m7,m8,m9,m10,m11,m12,m13⟩,m14,m15,m16,m17,m18,m19,m20,m21,m22⟩:Mat).rules a b c).1.before.length+(Bh (⟨⟨m0,m1,m2,m3,m4,m5,m6,m7,m8,m9,m10,m11,m12,m13⟩,m14,m15,m16,m17,m18,m19,m20,m21,m22⟩:Mat).rules a b c).1.bowlers.length≤1000000:=fun a b c=>by
    rw [(IP (⟨⟨m0,m1,m2,m3,m4,m5,m6,m7,m8,m9,m10,m11,m12,m13⟩,m14,m15,m16,m17,m18,m19,m20,m21,m22⟩:Mat).rules a b c).2.1,(IP (⟨⟨m0,m1,m2,m3,m4,m5,m6,m7,m8,m9,m10,m11,m12,m13⟩,m14,m15,m16,m17,m18,m19,m20,m21,m22⟩:Mat).rules a b c).2.2];exact Nat.zero_le _
   rcases se (m:=(⟨⟨m0,m1,m2,m3,m4,m5,m6,m7,m8,m9,m10,m11,m12,m13⟩,m14,m15,m16,m17,m18,m19,m20,m21,m22⟩:Mat)) (ok.toss hs2) (m17.length:Int) with ho | ho
   ·simp only [PXb,PXc,Co,VI,Nat.reduceAdd,Int.reduceBEq,PXi,PXr,Inn.eta,Ah,List.length_append,List.length_cons,List.length_nil,h304,XE,FQ,Ez,EW,DG,Si,Zg hN hl2,XC hN hs,RA (fb _ _ _) (wb _ _ _) hN hs h13,ho,wr1,wr2,Xt,Xx];cases (Bh (⟨⟨m0,m1,m2,m3,m4,m5,m6,m7,m8,m9,m10,m11,m12,m13⟩,m14,m15,m16,m17,m18,m19,m20,m21,m22⟩:Mat).rules 1 (FG (⟨⟨m0,m1,m2,m3,m4,m5,m6,m7,m8,m9,m10,m11,m12,m13⟩,m14,m15,m16,m17,m18,m19,m20,m21,m22⟩:Mat) 1) m18).2==0<;>try rfl
    cases (Aw (⟨⟨m0,m1,m2,m3,m4,m5,m6,m7,m8,m9,m10,m11,m12,m13⟩,m14,m15,m16,m17,m18,m19,m20,m21,m22⟩:Mat).rules (Bh (⟨⟨m0,m1,m2,m3,m4,m5,m6,m7,m8,m9,m10,m11,m12,m13⟩,m14,m15,m16,m17,m18,m19,m20,m21,m22⟩:Mat).rules 1 (FG (⟨⟨m0,m1,m2,m3,m4,m5,m6,m7,m8,m9,m10,m11,m12,m13⟩,m14,m15,m16,m17,m18,m19,m20,m21,m22⟩:Mat) 1) m18).1 (⟨e0,e1,e2,e3,e4,e5,e6,⟨e7,e8,e9,e10,e11,e12,e13,e14,e15,e16,e17,e18⟩⟩:Ev)).2==0<;>rfl
   ·simp only [PXb,PXc,Co,VI,Nat.reduceAdd,Int.reduceBEq,PXi,PXr,Inn.eta,Ah,List.length_append,List.length_cons,List.length_nil,h304,XE,FQ,Ez,EW,DG,Si,Zg hN hl2,XC hN hs,RA (fb _ _ _) (wb _ _ _) hN hs h13,ho,wr1,wr2,Xt,Xx];cases (Bh (⟨⟨m0,m1,m2,m3,m4,m5,m6,m7,m8,m9,m10,m11,m12,m13⟩,m14,m15,m16,m17,m18,m19,m20,m21,m22⟩:Mat).rules 2 (FG (⟨⟨m0,m1,m2,m3,m4,m5,m6,m7,m8,m9,m10,m11,m12,m13⟩,m14,m15,m16,m17,m18,m19,m20,m21,m22⟩:Mat) 2) m19).2==0<;>try rfl
    cases (Aw (⟨⟨m0,m1,m2,m3,m4,m5,m6,m7,m8,m9,m10,m11,m12,m13⟩,m14,m15,m16,m17,m18,m19,m20,m21,m22⟩:Mat).rules (Bh (⟨⟨m0,m1,m2,m3,m4,m5,m6,m7,m8,m9,m10,m11,m12,m13⟩,m14,m15,m16,m17,m18,m19,m20,m21,m22⟩:Mat).rules 2 (FG (⟨⟨m0,m1,m2,m3,m4,m5,m6,m7,m8,m9,m10,m11,m12,m13⟩,m14,m15,m16,m17,m18,m19,m20,m21,m22⟩:Mat) 2) m19).1 (⟨e0,e1,e2,e3,e4,e5,e6,⟨e7,e8,e9,e10,e11,e12,e13,e14,e15,e16,e17,e18⟩⟩:Ev)).2==0<;>rfl
  cases hk3:e0==12
  case true =>
   simp only [PXb];cases m14==4<;>cases e1==m15<;>rfl
  cases hk4:e0==16
  case true =>
   simp only [PXb,gt];cases h3:m14==3
   case false=>simp only [PXb,PXc,PXi,PXr,Co,Nat.reduceAdd,De,KG];rfl
   simp only [PXb,PXc,PXi,PXr,Co,Nat.reduceAdd,OG (ok.begun h3) hl,De,KG];rfl
  simp only [PXb];cases h3:m14==3
  case false=>rfl
  have h0:=ok.begun h3;have lv:=Oe (ok.innv (lnx m17) (Yv h0 hl)).1;have fl:(inn m17 (IntKind.i64.wrap ((m17.length:Int) - 1)).toNat).Fit:=lv.2.2;have wl:(inn m17 (IntKind.i64.wrap ((m17.length:Int) - 1)).toNat).before.length+(inn m17 (IntKind.i64.wrap ((m17.length:Int) - 1)).toNat).bowlers.length≤1000000:=by
   have h1:=lv.1;have h2:=lv.2.1;change (inn m17 (IntKind.i64.wrap ((m17.length:Int) - 1)).toNat).bowlers.length≤11 at h1;change (inn m17 (IntKind.i64.wrap ((m17.length:Int) - 1)).toNat).before.length≤11 at h2;omega
  have f1:=Kf (SX (⟨⟨m0,m1,m2,m3,m4,m5,m6,m7,m8,m9,m10,m11,m12,m13⟩,m14,m15,m16,m17,m18,m19,m20,m21,m22⟩:Mat).rules (inn m17 (IntKind.i64.wrap ((m17.length:Int) - 1)).toNat) (⟨e0,e1,e2,e3,e4,e5,e6,⟨e7,e8,e9,e10,e11,e12,e13,e14,e15,e16,e17,e18⟩⟩:Ev)) fl (by omega);simp only [PXb,PXc,PXi,PXr,Ah,Inn.eta,Co,Nat.reduceAdd,List.length_set,OG h0 hl,DG,RA fl wl hN hs h13,E1,Af,lnx];generalize hX:Aw (⟨⟨m0,m1,m2,m3,m4,m5,m6,m7,m8,m9,m10,m11,m12,m13⟩,m14,m15,m16,m17,m18,m19,m20,m21,m22⟩:Mat).rules (inn m17 (IntKind.i64.wrap ((m17.length:Int) - 1)).toNat) (⟨e0,e1,e2,e3,e4,e5,e6,⟨e7,e8,e9,e10,e11,e12,e13,e14,e15,e16,e17,e18⟩⟩:Ev)=X at f1;have fy:=Qv (IntKind.i64.wrap ((m17.length:Int) - 1)).toNat hf f1;generalize hy:m17.set (IntKind.i64.wrap ((m17.length:Int) - 1)).toNat X.1=ys at fy;have ly:ys.length=m17.length:=by rw [← hy,List.length_set]
  cases X.2==0<;>try rfl
  cases h13k:e0==13
  case false=>rfl
  cases hsd:e1==X.1.side
  case true=>rfl
  simp only [PXb,Option.bind_assoc];have e0w:IntKind.i64.wrap ((m17.length:Int) - 1)=(m17.length:Int) - 1 - ((0:Nat):Int):=by
   rw [beq_eq_false_iff_ne] at h0;rw [B3 (by omega) (by omega)];omega
  rw [e0w];have hside:=qt (e:=(⟨e0,e1,e2,e3,e4,e5,e6,⟨e7,e8,e9,e10,e11,e12,e13,e14,e15,e16,e17,e18⟩⟩:Ev)) he h13k;simp only at hside;refine AM (aY (len:=m17.length) (fun j=>[.int ((m17.length:Int) - 1 - (j:Int))]) (fun j=>cond ((inn ys (m17.length - 1 - j)).side==e1) (some [PV.str m0,PV.int m1,PV.int m2,PV.int m3,PV.int m4,PV.int m5,PV.int m6,PV.int m7,PV.bool m8,PV.int m9,PV.int m10,PV.int m11,PV.int m12,PV.rows m13,PV.int m14,PV.int m15,PV.bool m16,PV.rows (AX (ys.set (m17.length - 1 - j) (Jo (inn ys (m17.length - 1 - j))))),PV.int m18,PV.int m19,PV.int m20,PV.int m21,PV.int m22]) none) ?_ ?_ m17.length 0 N (by omega) (by omega)) ?_
  ·intro self;have q1:iLe 0 ((m17.length:Int) - 1 - (m17.length:Int))=false:=by simp only [iLe,decide_eq_false_iff_not];omega
   simp only [PXb,q1]
  ·intro i self hi;have q1:iLe 0 ((m17.length:Int) - 1 - (i:Int))=true:=by simp only [iLe,decide_eq_true_eq];omega
   have q2:iIn ((m17.length:Int) - 1 - (i:Int)) (m17.length:Int)=true:=by simp only [iIn,decide_eq_true_eq];omega
   have q3:((m17.length:Int) - 1 - (i:Int)).toNat=m17.length - 1 - i:=by omega
   have q4:IntKind.i64.wrap ((m17.length:Int) - 1 - (i:Int) - 1)=(m17.length:Int) - 1 - ((i+1:Nat):Int):=by rw [B3 (by omega) (by omega)];omega
   have q5:=fy (m17.length - 1 - i) (by omega);simp only [PXb,PXc,q1,q2,q3,q4,Hl,TC q5,PXm];cases (inn ys (m17.length - 1 - i)).side==e1<;>rfl
  ·have hfa:=oP ys e1 (fun k=>[PV.str m0,PV.int m1,PV.int m2,PV.int m3,PV.int m4,PV.int m5,PV.int m6,PV.int m7,PV.bool m8,PV.int m9,PV.int m10,PV.int m11,PV.int m12,PV.rows m13,PV.int m14,PV.int m15,PV.bool m16,PV.rows (AX (ys.set k (Jo (inn ys k)))),PV.int m18,PV.int m19,PV.int m20,PV.int m21,PV.int m22]) m17.length m17.length (Nat.le_refl _);rw [Nat.sub_self] at hfa;rw [hfa];unfold HI;simp only [ly];cases NE ys e1 m17.length with
   | some k=>rfl
   | none =>
    rcases hside with h | h<;>subst h
    ·simp only [Option.map_none,Tp,PXb,PXc,Co,Int.reduceBEq,wr1,Xt];rfl
    ·simp only [Option.map_none,Tp,PXb,PXc,Co,Int.reduceBEq,wr2,Xx];rfl
 ·have ak:=vG ok (⟨e0,e1,e2,e3,e4,e5,e6,⟨e7,e8,e9,e10,e11,e12,e13,e14,e15,e16,e17,e18⟩⟩:Ev);generalize Gp (⟨⟨m0,m1,m2,m3,m4,m5,m6,m7,m8,m9,m10,m11,m12,m13⟩,m14,m15,m16,m17,m18,m19,m20,m21,m22⟩:Mat) (⟨e0,e1,e2,e3,e4,e5,e6,⟨e7,e8,e9,e10,e11,e12,e13,e14,e15,e16,e17,e18⟩⟩:Ev)=A at ak;obtain ⟨⟨⟨a0,a1,a2,a3,a4,a5,a6,a7,a8,a9,a10,a11,a12,a13⟩,a14,a15,a16,a17,a18,a19,a20,a21,a22⟩,l⟩:=A;obtain ⟨k1,k2,k3,k4⟩:=ak;simp only at k1 k2 k3 k4;have hl5:a17.length≤1048576:=by omega
  have hs5:a0.size≤1048576:=by
   have:=congrArg Rul.name k1;simp only at this;rw [this];exact hs
  simp only [PXb,PXc,PXk,PXi,Co,Nat.reduceAdd];cases hl0:l==0
  case false=>rfl
  simp only [PXb,CA];cases h3:a14==3
  case false=>rfl
  have h0:=k4 hl0 h3;have li:=OG h0 (show a17.length≤1000000 by omega);simp only [PXb,PXc,PXi,li];cases he2:(inn a17 (IntKind.i64.wrap ((a17.length:Int) - 1)).toNat).ending==0
  case true=>simp only [PXb,Af,lnx,he2]
  simp only [PXb,PXc,PXi,Af,lnx,he2,KO,Fg,JP,Sh hN hl5,I5,nn k2 hN (show a17.length≤1000000 by omega) hs5];unfold Ny;simp only [Af,lnx];simp only [BD,Af,lnx];cases hq1:((a17.length:Int)==IntKind.i64.wrap (2 * a2))
  case true=>rfl
  cases hq2:((a17.length:Int)==3)
  case true =>
   simp only [PXb];cases iLt (Gr a17 (inn a17 (IntKind.i64.wrap ((a17.length:Int) - 1)).toNat).side a17.length) (Gr a17 (BZ (inn a17 (IntKind.i64.wrap ((a17.length:Int) - 1)).toNat).side) a17.length)
   case true=>rfl
   simp only [PXb];cases ((a17.length:Int)==2)&&iLt 0 a10&&iLe a10 (IntKind.i64.wrap (Gr a17 a15 a17.length - Gr a17 (BZ a15) a17.length))<;>rfl
  simp only [PXb];cases ((a17.length:Int)==2)&&iLt 0 a10&&iLe a10 (IntKind.i64.wrap (Gr a17 a15 a17.length - Gr a17 (BZ a15) a17.length))<;>rfl
end Go.Px
end
section
namespace Go.Px
set_option maxRecDepth 100000
def VY (m:Mat):Int:=cond (!CY m) 0 (cond (m.stage==3) (Af m).side (cond (m.stage==2) (CT m (m.inns.length:Int)) 0))
theorem rH {N:Nat} {m8 m16:Bool} {m0:ByteArray} {m13:Rows} {m17:List Inn} (hf:Dw m17) (hN:2097152<N) (hl:m17.length≤1000000) (hs:m0.size≤1048576):I3 N [.str m0,.int m1,.int m2,.int m3,.int m4,.int m5,.int m6,.int m7,.bool m8,.int m9,.int m10,.int m11,.int m12,.rows m13,.int m14,.int m15,.bool m16,.rows (AX m17),.int m18,.int m19,.int m20,.int m21,.int m22]=some [.int (VY (⟨⟨m0,m1,m2,m3,m4,m5,m6,m7,m8,m9,m10,m11,m12,m13⟩,m14,m15,m16,m17,m18,m19,m20,m21,m22⟩:Mat))]:=by
 show JG (std (Cw N) N) (xOf _)=_;generalize hres:(some [.int (VY (⟨⟨m0,m1,m2,m3,m4,m5,m6,m7,m8,m9,m10,m11,m12,m13⟩,m14,m15,m16,m17,m18,m19,m20,m21,m22⟩:Mat))]:Option (List PV))=RR;simp only [JG,WE,Me,KL,Alg.q,std,xOf,PXb,X7 hf hN hl hs];subst hres;simp only [VY];cases hv:CY (⟨⟨m0,m1,m2,m3,m4,m5,m6,m7,m8,m9,m10,m11,m12,m13⟩,m14,m15,m16,m17,m18,m19,m20,m21,m22⟩:Mat)
 case false=>rfl
 have ok:=Vc hv;simp only [PXb];cases h3:m14==3
 case true=>simp only [PXb,PXi,Me,UM (ok.begun h3) hl,Af,PXm]
 cases h2:m14==2
 case false=>rfl
 have hr:=ok.room h2;have rk:=(DY ok.code).innings;simp only at hr rk;have hi3:0≤(m17.length:Int)∧(m17.length:Int)≤3:=by omega
 simp only [PXb,PXi,KL,f7 hi3]
theorem AAU {m:Mat} (ok:MatOk m) (h2:(m.stage==2)=true) (sd:Int):FG m sd=cond (IntKind.i64.wrap ((m.inns.length:Int)+1)==IntKind.i64.wrap (2 * m.rules.innings)) (IntKind.i64.wrap (IntKind.i64.wrap (BD m (BZ sd) - BD m sd)+1)) 0:=by
 have hr:=ok.room h2;have hm:=ok.most.1;have hl:=ok.len;unfold FG;rw [hm,B3 (by omega) (by omega)];cases hq:((m.inns.length:Int)+1==2 * m.rules.innings) with
 | true =>
  rw [beq_iff_eq] at hq;rw [show iLt ((m.inns.length:Int)+1) (2 * m.rules.innings)=false by simp only [iLt,decide_eq_false_iff_not];omega];rfl
 | false =>
  rw [beq_eq_false_iff_ne] at hq;rw [show iLt ((m.inns.length:Int)+1) (2 * m.rules.innings)=true by simp only [iLt,decide_eq_true_eq];omega];rfl
set_option maxHeartbeats 4000000 in
theorem yk {N:Nat} {m8 m16:Bool} {m0:ByteArray} {m13:Rows} {m17:List Inn} {e4 e12 e17:Bool} (hN:2097152<N) (hf:Dw m17) (hl:m17.length≤1000000) (hs:m0.size≤1048576) (h13:m13.length≤1048576) (ok:MatOk (⟨⟨m0,m1,m2,m3,m4,m5,m6,m7,m8,m9,m10,m11,m12,m13⟩,m14,m15,m16,m17,m18,m19,m20,m21,m22⟩:Mat)) (hv:CY (⟨⟨m0,m1,m2,m3,m4,m5,m6,m7,m8,m9,m10,m11,m12,m13⟩,m14,m15,m16,m17,m18,m19,m20,m21,m22⟩:Mat)=true) (hs2:(m14==2)=true):PB N [.str m0,.int m1,.int m2,.int m3,.int m4,.int m5,.int m6,.int m7,.bool m8,.int m9,.int m10,.int m11,.int m12,.rows m13,.int m14,.int m15,.bool m16,.rows (AX m17),.int m18,.int m19,.int m20,.int m21,.int m22,.int e0,.int e1,.int e2,.int e3,.bool e4,.int e5,.int e6,.int e7,.int e8,.int e9,.int e10,.int e11,.bool e12,.int e13,.int e14,.int e15,.int e16,.bool e17,.int e18]=some (G6 (XE (⟨⟨m0,m1,m2,m3,m4,m5,m6,m7,m8,m9,m10,m11,m12,m13⟩,m14,m15,m16,m17,m18,m19,m20,m21,m22⟩:Mat) (⟨e0,e1,e2,e3,e4,e5,e6,⟨e7,e8,e9,e10,e11,e12,e13,e14,e15,e16,e17,e18⟩⟩:Ev))):=by
 show PT (std (C2 N) N) (xOf _)=_;have hl2:m17.length≤1048576:=by omega
 have h304:iSm ((m17.length+1:Nat):Int) 304=true:=DP (by omega) (by omega);have fb:=fun a b c=>(IP (⟨⟨m0,m1,m2,m3,m4,m5,m6,m7,m8,m9,m10,m11,m12,m13⟩,m14,m15,m16,m17,m18,m19,m20,m21,m22⟩:Mat).rules a b c).1
 have wb:∀ a b c,(Bh (⟨⟨m0,m1,m2,m3,m4,m5,m6,m7,m8,m9,m10,m11,m12,m13⟩,m14,m15,m16,m17,m18,m19,m20,m21,m22⟩:Mat).rules a b c).1.before.length+(Bh (⟨⟨m0,m1,m2,m3,m4,m5,m6,m7,m8,m9,m10,m11,m12,m13⟩,m14,m15,m16,m17,m18,m19,m20,m21,m22⟩:Mat).rules a b c).1.bowlers.length≤1000000:=fun a b c=>by
  rw [(IP (⟨⟨m0,m1,m2,m3,m4,m5,m6,m7,m8,m9,m10,m11,m12,m13⟩,m14,m15,m16,m17,m18,m19,m20,m21,m22⟩:Mat).rules a b c).2.1,(IP (⟨⟨m0,m1,m2,m3,m4,m5,m6,m7,m8,m9,m10,m11,m12,m13⟩,m14,m15,m16,m17,m18,m19,m20,m21,m22⟩:Mat).rules a b c).2.2];exact Nat.zero_le _
 have hb:VY (⟨⟨m0,m1,m2,m3,m4,m5,m6,m7,m8,m9,m10,m11,m12,m13⟩,m14,m15,m16,m17,m18,m19,m20,m21,m22⟩:Mat)=CT (⟨⟨m0,m1,m2,m3,m4,m5,m6,m7,m8,m9,m10,m11,m12,m13⟩,m14,m15,m16,m17,m18,m19,m20,m21,m22⟩:Mat) (m17.length:Int):=by
  unfold VY;rw [hv];have h3:(m14==3)=false:=by
   rw [beq_iff_eq] at hs2;rw [hs2];rfl
  simp only [PXb,h3,hs2]
 have ht:=fun sd=>AAU ok hs2 sd
 simp only at ht;simp only [PT,Il,Ie,Xp,Ih,Jd,Alg.q,std,xOf,PXb,rH hf hN hl hs,hb]
 rcases se (m:=(⟨⟨m0,m1,m2,m3,m4,m5,m6,m7,m8,m9,m10,m11,m12,m13⟩,m14,m15,m16,m17,m18,m19,m20,m21,m22⟩:Mat)) (ok.toss hs2) (m17.length:Int) with ho | ho
 ·simp only [PXb,PXc,ho,wr1,wr2,Xt,Xx,Co,VI,Nat.reduceAdd,Int.reduceBEq,XE,ht,PXi,Il,Ie,Gm,MD hN hl2];generalize hT:cond (IntKind.i64.wrap ((m17.length:Int)+1)==IntKind.i64.wrap (2 * m2)) (IntKind.i64.wrap (IntKind.i64.wrap (BD (⟨⟨m0,m1,m2,m3,m4,m5,m6,m7,m8,m9,m10,m11,m12,m13⟩,m14,m15,m16,m17,m18,m19,m20,m21,m22⟩:Mat) (BZ 1) - BD (⟨⟨m0,m1,m2,m3,m4,m5,m6,m7,m8,m9,m10,m11,m12,m13⟩,m14,m15,m16,m17,m18,m19,m20,m21,m22⟩:Mat) 1)+1)) 0=T;refine bind_ok (r:=[.int T]) (by subst hT;cases IntKind.i64.wrap ((m17.length:Int)+1)==IntKind.i64.wrap (2 * m2)<;>rfl) ?_;simp only [PXb,PXc,PXi,PXr,Inn.eta,Ah,List.length_append,List.length_cons,List.length_nil,h304,Co,VI,Nat.reduceAdd,Int.reduceBEq,Ih,Jd,jh hN hs,aA (fb _ _ _) (wb _ _ _) hN hs h13];cases (Bh (⟨⟨m0,m1,m2,m3,m4,m5,m6,m7,m8,m9,m10,m11,m12,m13⟩,m14,m15,m16,m17,m18,m19,m20,m21,m22⟩:Mat).rules 1 T m18).2==0<;>try rfl
  cases (Aw (⟨⟨m0,m1,m2,m3,m4,m5,m6,m7,m8,m9,m10,m11,m12,m13⟩,m14,m15,m16,m17,m18,m19,m20,m21,m22⟩:Mat).rules (Bh (⟨⟨m0,m1,m2,m3,m4,m5,m6,m7,m8,m9,m10,m11,m12,m13⟩,m14,m15,m16,m17,m18,m19,m20,m21,m22⟩:Mat).rules 1 T m18).1 (⟨e0,e1,e2,e3,e4,e5,e6,⟨e7,e8,e9,e10,e11,e12,e13,e14,e15,e16,e17,e18⟩⟩:Ev)).2==0<;>rfl
 ·simp only [PXb,PXc,ho,wr1,wr2,Xt,Xx,Co,VI,Nat.reduceAdd,Int.reduceBEq,XE,ht,PXi,Il,Ie,Gm,MD hN hl2];generalize hT:cond (IntKind.i64.wrap ((m17.length:Int)+1)==IntKind.i64.wrap (2 * m2)) (IntKind.i64.wrap (IntKind.i64.wrap (BD (⟨⟨m0,m1,m2,m3,m4,m5,m6,m7,m8,m9,m10,m11,m12,m13⟩,m14,m15,m16,m17,m18,m19,m20,m21,m22⟩:Mat) (BZ 2) - BD (⟨⟨m0,m1,m2,m3,m4,m5,m6,m7,m8,m9,m10,m11,m12,m13⟩,m14,m15,m16,m17,m18,m19,m20,m21,m22⟩:Mat) 2)+1)) 0=T;refine bind_ok (r:=[.int T]) (by subst hT;cases IntKind.i64.wrap ((m17.length:Int)+1)==IntKind.i64.wrap (2 * m2)<;>rfl) ?_;simp only [PXb,PXc,PXi,PXr,Inn.eta,Ah,List.length_append,List.length_cons,List.length_nil,h304,Co,VI,Nat.reduceAdd,Int.reduceBEq,Ih,Jd,jh hN hs,aA (fb _ _ _) (wb _ _ _) hN hs h13];cases (Bh (⟨⟨m0,m1,m2,m3,m4,m5,m6,m7,m8,m9,m10,m11,m12,m13⟩,m14,m15,m16,m17,m18,m19,m20,m21,m22⟩:Mat).rules 2 T m19).2==0<;>try rfl
  cases (Aw (⟨⟨m0,m1,m2,m3,m4,m5,m6,m7,m8,m9,m10,m11,m12,m13⟩,m14,m15,m16,m17,m18,m19,m20,m21,m22⟩:Mat).rules (Bh (⟨⟨m0,m1,m2,m3,m4,m5,m6,m7,m8,m9,m10,m11,m12,m13⟩,m14,m15,m16,m17,m18,m19,m20,m21,m22⟩:Mat).rules 2 T m19).1 (⟨e0,e1,e2,e3,e4,e5,e6,⟨e7,e8,e9,e10,e11,e12,e13,e14,e15,e16,e17,e18⟩⟩:Ev)).2==0<;>rfl
end Go.Px
end
section
namespace Go.Px
set_option maxRecDepth 100000
set_option maxHeartbeats 8000000 in
theorem zX {N:Nat} {m8 m16:Bool} {m0:ByteArray} {m13:Rows} {m17:List Inn} {e4 e12 e17:Bool} (hN:2097152<N) (hf:Dw m17) (hl:m17.length≤1000000) (hs:m0.size≤1048576) (h13:m13.length≤1048576) (ok:MatOk (⟨⟨m0,m1,m2,m3,m4,m5,m6,m7,m8,m9,m10,m11,m12,m13⟩,m14,m15,m16,m17,m18,m19,m20,m21,m22⟩:Mat)) (he:(evS (⟨e0,e1,e2,e3,e4,e5,e6,⟨e7,e8,e9,e10,e11,e12,e13,e14,e15,e16,e17,e18⟩⟩:Ev)==0)=true) (h3:(m14==3)=true):O9 N [.str m0,.int m1,.int m2,.int m3,.int m4,.int m5,.int m6,.int m7,.bool m8,.int m9,.int m10,.int m11,.int m12,.rows m13,.int m14,.int m15,.bool m16,.rows (AX m17),.int m18,.int m19,.int m20,.int m21,.int m22,.int e0,.int e1,.int e2,.int e3,.bool e4,.int e5,.int e6,.int e7,.int e8,.int e9,.int e10,.int e11,.bool e12,.int e13,.int e14,.int e15,.int e16,.bool e17,.int e18]=some (G6 (E1 (⟨⟨m0,m1,m2,m3,m4,m5,m6,m7,m8,m9,m10,m11,m12,m13⟩,m14,m15,m16,m17,m18,m19,m20,m21,m22⟩:Mat) (⟨e0,e1,e2,e3,e4,e5,e6,⟨e7,e8,e9,e10,e11,e12,e13,e14,e15,e16,e17,e18⟩⟩:Ev))):=by
 show PE (std (Fa N) N) (xOf _)=_;simp only [PE,QU,Md,Alg.q,std,xOf,PXb];have h0:=ok.begun h3;have lv:=Oe (ok.innv (lnx m17) (Yv h0 hl)).1;have fl:(inn m17 (IntKind.i64.wrap ((m17.length:Int) - 1)).toNat).Fit:=lv.2.2;have wl:(inn m17 (IntKind.i64.wrap ((m17.length:Int) - 1)).toNat).before.length+(inn m17 (IntKind.i64.wrap ((m17.length:Int) - 1)).toNat).bowlers.length≤1000000:=by
  have h1:=lv.1;have h2:=lv.2.1;change (inn m17 (IntKind.i64.wrap ((m17.length:Int) - 1)).toNat).bowlers.length≤11 at h1;change (inn m17 (IntKind.i64.wrap ((m17.length:Int) - 1)).toNat).before.length≤11 at h2;omega
 have f1:=Kf (SX (⟨⟨m0,m1,m2,m3,m4,m5,m6,m7,m8,m9,m10,m11,m12,m13⟩,m14,m15,m16,m17,m18,m19,m20,m21,m22⟩:Mat).rules (inn m17 (IntKind.i64.wrap ((m17.length:Int) - 1)).toNat) (⟨e0,e1,e2,e3,e4,e5,e6,⟨e7,e8,e9,e10,e11,e12,e13,e14,e15,e16,e17,e18⟩⟩:Ev)) fl (by omega);simp only [PXb,PXc,PXi,PXr,Ah,Inn.eta,Co,Nat.reduceAdd,List.length_set,OG h0 hl,QU,aA fl wl hN hs h13,E1,Af,lnx];generalize hX:Aw (⟨⟨m0,m1,m2,m3,m4,m5,m6,m7,m8,m9,m10,m11,m12,m13⟩,m14,m15,m16,m17,m18,m19,m20,m21,m22⟩:Mat).rules (inn m17 (IntKind.i64.wrap ((m17.length:Int) - 1)).toNat) (⟨e0,e1,e2,e3,e4,e5,e6,⟨e7,e8,e9,e10,e11,e12,e13,e14,e15,e16,e17,e18⟩⟩:Ev)=X at f1;have fy:=Qv (IntKind.i64.wrap ((m17.length:Int) - 1)).toNat hf f1;generalize hy:m17.set (IntKind.i64.wrap ((m17.length:Int) - 1)).toNat X.1=ys at fy;have ly:ys.length=m17.length:=by rw [← hy,List.length_set]
 cases X.2==0<;>try rfl
 cases h13k:e0==13
 case false=>rfl
 cases hsd:e1==X.1.side
 case true=>rfl
 simp only [PXb,Option.bind_assoc];have e0w:IntKind.i64.wrap ((m17.length:Int) - 1)=(m17.length:Int) - 1 - ((0:Nat):Int):=by
  rw [beq_eq_false_iff_ne] at h0;rw [B3 (by omega) (by omega)];omega
 rw [e0w];have hside:=qt (e:=(⟨e0,e1,e2,e3,e4,e5,e6,⟨e7,e8,e9,e10,e11,e12,e13,e14,e15,e16,e17,e18⟩⟩:Ev)) he h13k;simp only at hside;refine AM (aY (len:=m17.length) (fun j=>[.int ((m17.length:Int) - 1 - (j:Int))]) (fun j=>cond ((inn ys (m17.length - 1 - j)).side==e1) (some [PV.int 0,PV.str m0,PV.int m1,PV.int m2,PV.int m3,PV.int m4,PV.int m5,PV.int m6,PV.int m7,PV.bool m8,PV.int m9,PV.int m10,PV.int m11,PV.int m12,PV.rows m13,PV.int m14,PV.int m15,PV.bool m16,PV.rows (AX (ys.set (m17.length - 1 - j) (Jo (inn ys (m17.length - 1 - j))))),PV.int m18,PV.int m19,PV.int m20,PV.int m21,PV.int m22]) none) ?_ ?_ m17.length 0 N (by omega) (by omega)) ?_
 ·intro self;have q1:iLe 0 ((m17.length:Int) - 1 - (m17.length:Int))=false:=by simp only [iLe,decide_eq_false_iff_not];omega
  simp only [PXb,q1]
 ·intro i self hi;have q1:iLe 0 ((m17.length:Int) - 1 - (i:Int))=true:=by simp only [iLe,decide_eq_true_eq];omega
  have q2:iIn ((m17.length:Int) - 1 - (i:Int)) (m17.length:Int)=true:=by simp only [iIn,decide_eq_true_eq];omega
  have q3:((m17.length:Int) - 1 - (i:Int)).toNat=m17.length - 1 - i:=by omega
  have q4:IntKind.i64.wrap ((m17.length:Int) - 1 - (i:Int) - 1)=(m17.length:Int) - 1 - ((i+1:Nat):Int):=by rw [B3 (by omega) (by omega)];omega
  have q5:=fy (m17.length - 1 - i) (by omega);simp only [PXb,PXc,q1,q2,q3,q4,Md,cn q5,PXm];cases (inn ys (m17.length - 1 - i)).side==e1<;>rfl
 ·have hfa:=oP ys e1 (fun k=>[PV.int 0,PV.str m0,PV.int m1,PV.int m2,PV.int m3,PV.int m4,PV.int m5,PV.int m6,PV.int m7,PV.bool m8,PV.int m9,PV.int m10,PV.int m11,PV.int m12,PV.rows m13,PV.int m14,PV.int m15,PV.bool m16,PV.rows (AX (ys.set k (Jo (inn ys k)))),PV.int m18,PV.int m19,PV.int m20,PV.int m21,PV.int m22]) m17.length m17.length (Nat.le_refl _);rw [Nat.sub_self] at hfa;rw [hfa];unfold HI;simp only [ly];cases NE ys e1 m17.length with
  | some k=>rfl
  | none =>
   rcases hside with h | h<;>subst h
   ·simp only [Option.map_none,Tp,PXb,PXc,Co,Int.reduceBEq,wr1,Xt];rfl
   ·simp only [Option.map_none,Tp,PXb,PXc,Co,Int.reduceBEq,wr2,Xx];rfl
set_option maxHeartbeats 4000000 in
theorem AAc {N:Nat} {m8 m16:Bool} {m0:ByteArray} {m13:Rows} {m17:List Inn} {e4 e12 e17:Bool} (hN:2097152<N) (hf:Dw m17) (hl:m17.length≤1000000) (hs:m0.size≤1048576) (h13:m13.length≤1048576) (ok:MatOk (⟨⟨m0,m1,m2,m3,m4,m5,m6,m7,m8,m9,m10,m11,m12,m13⟩,m14,m15,m16,m17,m18,m19,m20,m21,m22⟩:Mat)) (hv:CY (⟨⟨m0,m1,m2,m3,m4,m5,m6,m7,m8,m9,m10,m11,m12,m13⟩,m14,m15,m16,m17,m18,m19,m20,m21,m22⟩:Mat)=true) (he:(evS (⟨e0,e1,e2,e3,e4,e5,e6,⟨e7,e8,e9,e10,e11,e12,e13,e14,e15,e16,e17,e18⟩⟩:Ev)==0)=true):SD N [.str m0,.int m1,.int m2,.int m3,.int m4,.int m5,.int m6,.int m7,.bool m8,.int m9,.int m10,.int m11,.int m12,.rows m13,.int m14,.int m15,.bool m16,.rows (AX m17),.int m18,.int m19,.int m20,.int m21,.int m22,.int e0,.int e1,.int e2,.int e3,.bool e4,.int e5,.int e6,.int e7,.int e8,.int e9,.int e10,.int e11,.bool e12,.int e13,.int e14,.int e15,.int e16,.bool e17,.int e18]=some (G6 (Gp (⟨⟨m0,m1,m2,m3,m4,m5,m6,m7,m8,m9,m10,m11,m12,m13⟩,m14,m15,m16,m17,m18,m19,m20,m21,m22⟩:Mat) (⟨e0,e1,e2,e3,e4,e5,e6,⟨e7,e8,e9,e10,e11,e12,e13,e14,e15,e16,e17,e18⟩⟩:Ev))):=by
 show SB (std (E9 N) N) (xOf _)=_;simp only [SB,QZ,SP,SR,Alg.q,std,xOf,PXb];unfold Gp;cases hk1:e0==1
 case true =>
  simp only [PXb,QZ,Gm];cases m14==1<;>cases e4<;>rfl
 cases hk2:e0==2
 case true =>
  simp only [PXb];cases hs2:m14==2
  case false=>rfl
  simp only [PXb,SP,yk hN hf hl hs h13 ok hv hs2];rfl
 cases hk3:e0==12
 case true =>
  simp only [PXb];cases m14==4<;>cases e1==m15<;>rfl
 cases hk4:e0==16
 case true =>
  simp only [PXb,gt,Zf];cases h3:m14==3
  case false =>
   simp only [PXb,PXc,PXi,PXr,Co,Nat.reduceAdd];cases m3==0<;>rfl
  simp only [PXb,PXc,PXi,PXr,Co,Nat.reduceAdd,OG (ok.begun h3) hl];cases m3==0<;>rfl
 simp only [PXb];cases h3:m14==3
 case false=>rfl
 simp only [PXb,SR,zX hN hf hl hs h13 ok he h3];rfl
theorem tf {N:Nat} {m8 m16:Bool} {m0:ByteArray} {m13:Rows} {m17:List Inn} (hf:Dw m17) (hN:2097152<N) (hl:m17.length≤1000000) (hs:m0.size≤1048576) (h0:((m17.length:Int)==0)=false):Kd N [.str m0,.int m1,.int m2,.int m3,.int m4,.int m5,.int m6,.int m7,.bool m8,.int m9,.int m10,.int m11,.int m12,.rows m13,.int m14,.int m15,.bool m16,.rows (AX m17),.int m18,.int m19,.int m20,.int m21,.int m22]=some (Ny (⟨⟨m0,m1,m2,m3,m4,m5,m6,m7,m8,m9,m10,m11,m12,m13⟩,m14,m15,m16,m17,m18,m19,m20,m21,m22⟩:Mat)).ls:=by
 show KN (std (Ch N) N) (xOf _)=_;have hl5:m17.length≤1048576:=by omega
 simp only [KN,Y4,YB,XS,Vq,Alg.q,std,xOf,PXb,UM h0 hl,Gm,MD hN hl5,q9 hf hN hl hs,PXi];unfold Ny;simp only [BD,Af,lnx,PXm];cases hq1:((m17.length:Int)==IntKind.i64.wrap (2 * m2))
 case true=>rfl
 cases hq2:((m17.length:Int)==3)
 case true =>
  simp only [PXb];cases iLt (Gr m17 (inn m17 (IntKind.i64.wrap ((m17.length:Int) - 1)).toNat).side m17.length) (Gr m17 (BZ (inn m17 (IntKind.i64.wrap ((m17.length:Int) - 1)).toNat).side) m17.length)
  case true=>rfl
  simp only [PXb];cases ((m17.length:Int)==2)<;>cases iLt 0 m10<;>try rfl
  simp only [PXb];cases iLe m10 (IntKind.i64.wrap (Gr m17 m15 m17.length - Gr m17 (BZ m15) m17.length))<;>rfl
 simp only [PXb];cases ((m17.length:Int)==2)<;>cases iLt 0 m10<;>try rfl
 simp only [PXb];cases iLe m10 (IntKind.i64.wrap (Gr m17 m15 m17.length - Gr m17 (BZ m15) m17.length))<;>rfl
set_option maxHeartbeats 4000000 in
theorem lV {N:Nat} {m8 m16:Bool} {m0:ByteArray} {m13:Rows} {m17:List Inn} {e4 e12 e17:Bool} (hN:2097152<N) (hf:Dw m17) (hl:m17.length≤1000000) (hs:m0.size≤1048576) (h13:m13.length≤1048576):IR N [.str m0,.int m1,.int m2,.int m3,.int m4,.int m5,.int m6,.int m7,.bool m8,.int m9,.int m10,.int m11,.int m12,.rows m13,.int m14,.int m15,.bool m16,.rows (AX m17),.int m18,.int m19,.int m20,.int m21,.int m22,.int e0,.int e1,.int e2,.int e3,.bool e4,.int e5,.int e6,.int e7,.int e8,.int e9,.int e10,.int e11,.bool e12,.int e13,.int e14,.int e15,.int e16,.bool e17,.int e18]=some (G6 (CP (⟨⟨m0,m1,m2,m3,m4,m5,m6,m7,m8,m9,m10,m11,m12,m13⟩,m14,m15,m16,m17,m18,m19,m20,m21,m22⟩:Mat) (⟨e0,e1,e2,e3,e4,e5,e6,⟨e7,e8,e9,e10,e11,e12,e13,e14,e15,e16,e17,e18⟩⟩:Ev))):=by
 show Pd (std (Cf N) N) (xOf _)=_;generalize hres:(some (G6 (CP (⟨⟨m0,m1,m2,m3,m4,m5,m6,m7,m8,m9,m10,m11,m12,m13⟩,m14,m15,m16,m17,m18,m19,m20,m21,m22⟩:Mat) (⟨e0,e1,e2,e3,e4,e5,e6,⟨e7,e8,e9,e10,e11,e12,e13,e14,e15,e16,e17,e18⟩⟩:Ev))):Option (List PV))=RR;simp only [Pd,PW,bT,Zw,SE,QR,N5,Alg.q,std,xOf,PXb,X7 hf hN hl hs,jC,jR hf hN hl h13];subst hres;simp only [CP];cases hv:CY (⟨⟨m0,m1,m2,m3,m4,m5,m6,m7,m8,m9,m10,m11,m12,m13⟩,m14,m15,m16,m17,m18,m19,m20,m21,m22⟩:Mat)
 case false=>rfl
 cases he:evS (⟨e0,e1,e2,e3,e4,e5,e6,⟨e7,e8,e9,e10,e11,e12,e13,e14,e15,e16,e17,e18⟩⟩:Ev)==0
 case false=>simp only [PXb,he];rfl
 simp only [PXb,he];cases h5:m14==5
 case true=>rfl
 have ok:=Vc hv;simp only [PXb,PXc,Co,Nat.reduceAdd,PW,jR hf hN hl h13,SE,AAc hN hf hl hs h13 ok hv he];have ak:=vG ok (⟨e0,e1,e2,e3,e4,e5,e6,⟨e7,e8,e9,e10,e11,e12,e13,e14,e15,e16,e17,e18⟩⟩:Ev);generalize Gp (⟨⟨m0,m1,m2,m3,m4,m5,m6,m7,m8,m9,m10,m11,m12,m13⟩,m14,m15,m16,m17,m18,m19,m20,m21,m22⟩:Mat) (⟨e0,e1,e2,e3,e4,e5,e6,⟨e7,e8,e9,e10,e11,e12,e13,e14,e15,e16,e17,e18⟩⟩:Ev)=A at ak;obtain ⟨⟨⟨a0,a1,a2,a3,a4,a5,a6,a7,a8,a9,a10,a11,a12,a13⟩,a14,a15,a16,a17,a18,a19,a20,a21,a22⟩,l⟩:=A;obtain ⟨k1,k2,k3,k4⟩:=ak;simp only at k1 k2 k3 k4;have hl5:a17.length≤1000000:=by omega
 have hs5:a0.size≤1048576:=by
  have:=congrArg Rul.name k1;simp only at this;rw [this];exact hs
 simp only [PXb,PXc,PXk,PXi,Co,Nat.reduceAdd];cases hl0:l==0
 case false=>rfl
 simp only [PXb,CA];cases h3:a14==3
 case false=>rfl
 have h0:=k4 hl0 h3;simp only [PXb,PXc,PXi,QR,UM h0 hl5,Af,N5,tf k2 hN hl5 hs5 h0,PXm];cases (inn a17 (lnx a17)).ending==0<;>rfl
end Go.Px
end
section
namespace Go.Px
set_option maxRecDepth 100000
theorem xE (m:Mat):(Ny m).rules=m.rules∧(Ny m).inns=m.inns:=by
 unfold Ny
 dsimp only
 cases ((m.inns.length:Int)==IntKind.i64.wrap (2 * m.rules.innings)||((m.inns.length:Int)==3&&iLt (BD m (Af m).side) (BD m (BZ (Af m).side)))) with
 | true=>exact ⟨rfl,rfl⟩
 | false =>
  cases ((m.inns.length:Int)==2&&iLt 0 m.rules.followon&&iLe m.rules.followon (IntKind.i64.wrap (BD m m.first - BD m (BZ m.first))))<;>exact ⟨rfl,rfl⟩
theorem lu (m:Mat):(CA m).rules=m.rules∧(CA m).inns=m.inns:=by
 unfold CA;cases (m.stage==3 && !((Af m).ending==0)) with
 | true=>exact xE m
 | false=>exact ⟨rfl,rfl⟩
structure StepOk (r:Rul) (m:Mat):Prop where
 rules:m.rules=r
 fit:Dw m.inns
 len:m.inns.length≤5
theorem zL {r:Rul} {m:Mat} (h:StepOk r m) (e:Ev):StepOk r (CP m e).1:=by
 unfold CP;cases hv:CY m with
 | false=>exact h
 | true =>
  cases he:evS e==0 with
  | false=>exact h
  | true =>
   cases h5:m.stage==5 with
   | true=>exact h
   | false =>
    have a:=vG (Vc hv) e;cases hx:(Gp m e).2==0 with
    | false=>exact h
    | true =>
     have k:=lu (Gp m e).1;exact ⟨k.1.trans (a.rules.trans h.rules),by show Dw (CA _).inns;rw [k.2];exact a.fit,by show (CA _).inns.length≤5;rw [k.2];exact a.len⟩
theorem gf (r:Rul) (h:((Aa r).2==0)=true):StepOk r (Aa r).1:=by
 unfold Aa at h ⊢;cases hc:A2 r==0 with
 | false=>rw [hc] at h;exact absurd (show (A2 r==0)=true from h) (by rw [hc];decide)
 | true=>exact ⟨rfl,fun i hi=>absurd hi (Nat.not_lt_zero i),Nat.zero_le _⟩
theorem kc {m:Mat} {e:Ev} (h:((CP m e).2==0)=true):CY m=true∧(evS e==0)=true∧(m.stage==5)=false∧((Gp m e).2==0)=true∧(CP m e).1=CA (Gp m e).1:=by
 unfold CP at h ⊢;cases hv:CY m with
 | false=>rw [hv] at h;exact absurd (show ((1:Int)==0)=true from h) (by decide)
 | true =>
  cases he:evS e==0 with
  | false=>rw [hv,he] at h;exact absurd (show ((1:Int)==0)=true from h) (by decide)
  | true =>
   cases h5:m.stage==5 with
   | true=>rw [hv,he,h5] at h;exact absurd (show ((26:Int)==0)=true from h) (by decide)
   | false =>
    cases hx:(Gp m e).2==0 with
    | false=>rw [hv,he,h5,hx] at h;exact absurd (show ((Gp m e).2==0)=true from h) (by rw [hx];decide)
    | true=>exact ⟨rfl,rfl,rfl,rfl,rfl⟩
theorem aI {m:Mat} {e:Ev} (h:((CP m e).2==0)=true) (hk:(e.kind==4)=true):(m.stage==3)=true∧((m.inns.length:Int)==0)=false∧((Aw m.rules (Af m) e).2==0)=true∧(CP m e).1.inns=m.inns.set (lnx m.inns) (Aw m.rules (Af m) e).1:=by
 obtain ⟨hv,he,h5,ha,hs⟩:=kc h;have hk4:=beq_iff_eq.1 hk;rw [hs,(lu _).2];unfold Gp at ha ⊢;simp only [hk4,Int.reduceBEq,cond_false] at ha ⊢;cases h3:m.stage==3 with
 | false=>rw [h3] at ha;exact absurd (show ((1:Int)==0)=true from ha) (by decide)
 | true =>
  rw [h3] at ha;simp only [Bool.not_true,cond_false] at ha ⊢;unfold E1 at ha ⊢;cases hq:(Aw m.rules (Af m) e).2==0 with
  | false=>simp only [hq,Bool.not_false,cond_true] at ha;exact absurd ha Bool.false_ne_true
  | true =>
   simp only [hk4,Int.reduceBEq,Bool.false_and,hq,Bool.not_true,cond_false];exact ⟨trivial,(Vc hv).begun h3,trivial,trivial⟩
end Go.Px
end
section
namespace Go.Px
set_option maxRecDepth 100000
def evR (L:Rows) (i:Nat):Ev:=⟨atI L i 0,atI L i 1,atI L i 2,atI L i 3,atB L i 4,atI L i 5,atI L i 6,⟨atI L i 7,atI L i 8,atI L i 9,atI L i 10,atI L i 11,atB L i 12,atI L i 13,atI L i 14,atI L i 15,atI L i 16,atB L i 17,atI L i 18⟩⟩
theorem yl (L:Rows) (i:Nat):(⟨atI L i 0,atI L i 1,atI L i 2,atI L i 3,atB L i 4,atI L i 5,atI L i 6,⟨atI L i 7,atI L i 8,atI L i 9,atI L i 10,atI L i 11,atB L i 12,atI L i 13,atI L i 14,atI L i 15,atI L i 16,atB L i 17,atI L i 18⟩⟩:Ev)=evR L i:=rfl
def As (i:Int) (m:Mat) (e:Ev):Mat×Int:=cond (iLe 4000 i) (m,26) (CP m e)
def Cu (L:Rows):Nat→Nat→Mat→Mat×Int×Int
 | 0,_,m=>(m,-1,0)
 | k+1,i,m=>cond (!((As i m (evR L i)).2==0)) (m,(i:Int),(As i m (evR L i)).2) (Cu L k (i+1) (As i m (evR L i)).1)
def H3 (i:Int) (m t:Mat) (d:Del):List PV :=
 [.int i,.int (IntKind.i64.wrap ((m.inns.length:Int) - 1)),.int (Af m).complete,.int (Af m).inover,.int (Af m).bowler,.int (Af m).striker,.int (Af m).other,.bool (Af m).freehit,
  .int d.type,.int d.source,.int d.runs,.int d.short,.int d.boundary,.bool d.crossed,.int d.how,.int d.victim,.int d.fielder,.int d.second,.bool d.sub,.int d.sector,
  .int (AG m.rules d).batter,.int (AG m.rules d).wides,.int (AG m.rules d).noballs,.int (AG m.rules d).byes,.int (AG m.rules d).legbyes,.int (AG m.rules d).bowler,.bool (AG m.rules d).counts,.bool (AG m.rules d).faced,.bool (AG m.rules d).wicket,.bool (AG m.rules d).swap,
  .int (inn t.inns (lnx m.inns)).runs,.int (inn t.inns (lnx m.inns)).wickets]
def LT (L:Rows):Nat→Nat→Mat→Rows→Rows
 | 0,_,_,out=>out
 | k+1,i,m,out=>cond (!((As i m (evR L i)).2==0)) out (LT L k (i+1) (As i m (evR L i)).1 (cond ((evR L i).kind==4) (out++[H3 i m (As i m (evR L i)).1 (evR L i).ball]) out))
def Tg (f:Mat×Int×Int):List PV:=[.str f.1.rules.name,.int f.1.rules.side,.int f.1.rules.innings,.int f.1.rules.overs,.int f.1.rules.balls,.int f.1.rules.quota,.int f.1.rules.wide,.int f.1.rules.noball,.bool f.1.rules.freehit,.int f.1.rules.newball,.int f.1.rules.followon,.int f.1.rules.reviews,.int f.1.rules.outside,.rows f.1.rules.power,.int f.1.stage,.int f.1.first,.bool f.1.follow,.rows (AX f.1.inns),.int f.1.pen1,.int f.1.pen2,.int f.1.win,.int f.1.wside,.int f.1.margin,.int f.2.1,.int f.2.2]
def BG (r:Rul) (L:Rows):Mat×Int×Int:=cond (!((Aa r).2==0)) (yp,0,1) (Cu L L.length 0 (Aa r).1)
def Bp (r:Rul) (L:Rows):Rows:=cond (!((Aa r).2==0)) [] (LT L L.length 0 (Aa r).1 [])
theorem kJ (L:Rows):∀ k i m,((Cu L k i m).2.1 == -1)=true→(Cu L k i m).2.2=0
 | 0,_,_,_=>rfl
 | k+1,i,m,h=>by
  unfold Cu at h ⊢;cases hq:(As i m (evR L i)).2==0 with
  | false =>
   rw [hq] at h;have:=beq_iff_eq.1 (show ((i:Int) == -1)=true from h);omega
  | true=>rw [hq] at h;exact kJ L k (i+1) _ h
theorem tP (L:Rows):∀ k i m out,(LT L k i m out).length≤out.length+k
 | 0,_,_,out=>Nat.le_refl _
 | k+1,i,m,out=>by
  unfold LT;cases (As i m (evR L i)).2==0 with
  | false=>show out.length≤_;omega
  | true =>
   have:=tP L k (i+1) (As i m (evR L i)).1 (cond ((evR L i).kind==4) (out++[H3 i m (As i m (evR L i)).1 (evR L i).ball]) out);refine Nat.le_trans this ?_;cases (evR L i).kind==4 with
   | false=>show out.length+k≤_;omega
   | true=>show (out++[_]).length+k≤_;rw [List.length_append];simp;omega
theorem Zv {r:Rul} {m:Mat} (h:StepOk r m) (i:Int) (e:Ev):StepOk r (As i m e).1:=by
 unfold As;cases iLe 4000 i with
 | true=>exact h
 | false=>exact zL h e
theorem Yn {m:Mat} {i:Int} {e:Ev} (h:((As i m e).2==0)=true):As i m e=CP m e∧iLe 4000 i=false:=by
 unfold As at h ⊢;cases h4:iLe 4000 i with
 | true=>rw [h4] at h;exact absurd (show ((26:Int)==0)=true from h) (by decide)
 | false=>exact ⟨rfl,rfl⟩
theorem zV {N:Nat} {m8 m16:Bool} {m0:ByteArray} {m13:Rows} {m17:List Inn} {i:Int} {e4 e12 e17:Bool} (hN:2097152<N) (hf:Dw m17) (hl:m17.length≤1000000) (hs:m0.size≤1048576) (h13:m13.length≤1048576):PA N [.str m0,.int m1,.int m2,.int m3,.int m4,.int m5,.int m6,.int m7,.bool m8,.int m9,.int m10,.int m11,.int m12,.rows m13,.int m14,.int m15,.bool m16,.rows (AX m17),.int m18,.int m19,.int m20,.int m21,.int m22,.int i,.int e0,.int e1,.int e2,.int e3,.bool e4,.int e5,.int e6,.int e7,.int e8,.int e9,.int e10,.int e11,.bool e12,.int e13,.int e14,.int e15,.int e16,.bool e17,.int e18]=some (G6 (As i (⟨⟨m0,m1,m2,m3,m4,m5,m6,m7,m8,m9,m10,m11,m12,m13⟩,m14,m15,m16,m17,m18,m19,m20,m21,m22⟩:Mat) (⟨e0,e1,e2,e3,e4,e5,e6,⟨e7,e8,e9,e10,e11,e12,e13,e14,e15,e16,e17,e18⟩⟩:Ev))):=by
 show O0 (std (H5 N) N) (xOf _)=_;generalize hres:(some (G6 (As i (⟨⟨m0,m1,m2,m3,m4,m5,m6,m7,m8,m9,m10,m11,m12,m13⟩,m14,m15,m16,m17,m18,m19,m20,m21,m22⟩:Mat) (⟨e0,e1,e2,e3,e4,e5,e6,⟨e7,e8,e9,e10,e11,e12,e13,e14,e15,e16,e17,e18⟩⟩:Ev))):Option (List PV))=RR;simp only [O0,Yw,Alg.q,std,xOf,PXb,tB hN hf hl hs h13];subst hres;simp only [As];cases iLe 4000 i<;>rfl
theorem ny {N:Nat} {i:Int} {m8 m16:Bool} {m0:ByteArray} {m13:Rows} {m17:List Inn} {t1 t2 t3 t4 t5 t6 t7 t9 t10 t11 t12 t14 t15 t18 t19 t20 t21 t22:Int} {t8 t16:Bool} {t0:ByteArray} {t13:Rows} {t17:List Inn} {d0 d1 d2 d3 d4 d6 d7 d8 d9 d11:Int} {d5 d10:Bool} (h1:iIn (IntKind.i64.wrap ((m17.length:Int) - 1)) (m17.length:Int)=true) (h2:iIn (IntKind.i64.wrap ((m17.length:Int) - 1)) (t17.length:Int)=true):Js N [.int i,.str m0,.int m1,.int m2,.int m3,.int m4,.int m5,.int m6,.int m7,.bool m8,.int m9,.int m10,.int m11,.int m12,.rows m13,.int m14,.int m15,.bool m16,.rows (AX m17),.int m18,.int m19,.int m20,.int m21,.int m22,.str t0,.int t1,.int t2,.int t3,.int t4,.int t5,.int t6,.int t7,.bool t8,.int t9,.int t10,.int t11,.int t12,.rows t13,.int t14,.int t15,.bool t16,.rows (AX t17),.int t18,.int t19,.int t20,.int t21,.int t22,.int d0,.int d1,.int d2,.int d3,.int d4,.bool d5,.int d6,.int d7,.int d8,.int d9,.bool d10,.int d11]=some (H3 i (⟨⟨m0,m1,m2,m3,m4,m5,m6,m7,m8,m9,m10,m11,m12,m13⟩,m14,m15,m16,m17,m18,m19,m20,m21,m22⟩:Mat) (⟨⟨t0,t1,t2,t3,t4,t5,t6,t7,t8,t9,t10,t11,t12,t13⟩,t14,t15,t16,t17,t18,t19,t20,t21,t22⟩:Mat) (⟨d0,d1,d2,d3,d4,d5,d6,d7,d8,d9,d10,d11⟩:Del)):=by
 show J0 (std (L7 N) N) (xOf _)=_;simp only [J0,OJ,Alg.q,std,xOf,PXb,PXi,h1,h2,TU];rfl
def Vm (L:Rows) (i:Nat) (m:Mat):List PV ⊕ Mat:=cond (!((As i m (evR L i)).2==0)) (.inl (.int 0::.int i::.int (As i m (evR L i)).2::m.ls)) (.inr (As i m (evR L i)).1)
def yt (f:Mat×Int×Int):List PV:=cond (f.2.1 == -1) (.int 1::f.1.ls) (.int 0::.int f.2.1::.int f.2.2::f.1.ls)
theorem pz (L:Rows):∀ k i m,Wa (Vm L) (fun m=>.int 1::m.ls) k i m=yt (Cu L k i m)
 | 0,_,_=>rfl
 | k+1,i,m=>by
  simp only [Wa,Vm,Cu];cases (As i m (evR L i)).2==0 with
  | false =>
   simp only [Bool.not_false,cond_true,yt];rw [show ((i:Int) == -1)=false from beq_false_of_ne (show (i:Int) ≠ -1 by omega)];rfl
  | true=>exact pz L k (i+1) _
set_option maxHeartbeats 4000000 in
theorem yB {N:Nat} {m8 m16:Bool} {m0:ByteArray} {m13:Rows} {m17:List Inn} {L:Rows} (hN:2097152<N) (hf:Dw m17) (hl:m17.length≤5) (hs:m0.size≤1048576) (h13:m13.length≤1048576) (hL:L.length≤1048576):Og N [.str m0,.int m1,.int m2,.int m3,.int m4,.int m5,.int m6,.int m7,.bool m8,.int m9,.int m10,.int m11,.int m12,.rows m13,.int m14,.int m15,.bool m16,.rows (AX m17),.int m18,.int m19,.int m20,.int m21,.int m22,.rows L]=some (Tg (Cu L L.length 0 (⟨⟨m0,m1,m2,m3,m4,m5,m6,m7,m8,m9,m10,m11,m12,m13⟩,m14,m15,m16,m17,m18,m19,m20,m21,m22⟩:Mat))):=by
  show PF (std (Hb N) N) (xOf _)=_;generalize hres:(some (Tg (Cu L L.length 0 (⟨⟨m0,m1,m2,m3,m4,m5,m6,m7,m8,m9,m10,m11,m12,m13⟩,m14,m15,m16,m17,m18,m19,m20,m21,m22⟩:Mat))):Option (List PV))=RR;simp only [PF,QV,Alg.q,std,xOf,PXb];subst hres;refine AM (Wn (St:=Mat) (len:=L.length) (enc:=fun i m=>[.int (i:Int),.str m.rules.name,.int m.rules.side,.int m.rules.innings,.int m.rules.overs,.int m.rules.balls,.int m.rules.quota,.int m.rules.wide,.int m.rules.noball,.bool m.rules.freehit,.int m.rules.newball,.int m.rules.followon,.int m.rules.reviews,.int m.rules.outside,.rows m.rules.power,.int m.stage,.int m.first,.bool m.follow,.rows (AX m.inns),.int m.pen1,.int m.pen2,.int m.win,.int m.wside,.int m.margin])
    (body:=Vm L) (fin:=fun m=>.int 1::m.ls) (fun _ m=>StepOk (⟨m0,m1,m2,m3,m4,m5,m6,m7,m8,m9,m10,m11,m12,m13⟩:Rul) m) ?_ ?_ L.length 0 (⟨⟨m0,m1,m2,m3,m4,m5,m6,m7,m8,m9,m10,m11,m12,m13⟩,m14,m15,m16,m17,m18,m19,m20,m21,m22⟩:Mat) N (by omega) (by omega) ⟨rfl,hf,hl⟩) ?_
  · intro m self _;simp only [PXb,PXc,PXn,AD,Ao];rfl
  · intro i m self hi ok;obtain ⟨⟨a0,a1,a2,a3,a4,a5,a6,a7,a8,a9,a10,a11,a12,a13⟩,a14,a15,a16,a17,a18,a19,a20,a21,a22⟩:=m;have o1:=ok.rules;have o2:=ok.fit;have o3:=ok.len;simp only at o1 o2 o3;cases o1;have kp:=Zv ok (i:Int) (evR L i);refine ⟨?_,?_⟩
    · simp only [PXb,PXc,PXn,AD,Ag (show i≤1099511627776 by omega),Ad hi,AN hi,QV,lV hN o2 (show a17.length≤1000000 by omega) hs h13,BS,oq,Nat.reduceAdd,PXk,PXc,yl];unfold Vm As;cases iLe 4000 (i:Int)
      case true=>rfl
      simp only [cond_false];cases (CP (⟨⟨m0,m1,m2,m3,m4,m5,m6,m7,m8,m9,m10,m11,m12,m13⟩,a14,a15,a16,a17,a18,a19,a20,a21,a22⟩:Mat) (evR L i)).2==0<;>rfl
    · intro s' h;unfold Vm at h;cases hq:(As (i:Int) (⟨⟨m0,m1,m2,m3,m4,m5,m6,m7,m8,m9,m10,m11,m12,m13⟩,a14,a15,a16,a17,a18,a19,a20,a21,a22⟩:Mat) (evR L i)).2==0 with
      | false=>rw [hq] at h;cases h
      | true=>rw [hq] at h;cases h;exact kp
  · rw [pz];have he:=kJ L L.length 0 (⟨⟨m0,m1,m2,m3,m4,m5,m6,m7,m8,m9,m10,m11,m12,m13⟩,m14,m15,m16,m17,m18,m19,m20,m21,m22⟩:Mat);generalize Cu L L.length 0 (⟨⟨m0,m1,m2,m3,m4,m5,m6,m7,m8,m9,m10,m11,m12,m13⟩,m14,m15,m16,m17,m18,m19,m20,m21,m22⟩:Mat)=f at he;obtain ⟨⟨⟨a0,a1,a2,a3,a4,a5,a6,a7,a8,a9,a10,a11,a12,a13⟩,a14,a15,a16,a17,a18,a19,a20,a21,a22⟩,b,l⟩:=f;simp only at he;unfold yt;cases hb:b == -1 with
    | false=>rfl
    | true =>
      rw [he hb,beq_iff_eq.1 hb];rfl
end Go.Px
end
section
namespace Go.Px
set_option maxRecDepth 100000
def Vg (L:Rows) (i:Nat) (s:Rows×Mat):List PV ⊕ Rows×Mat:=cond (!((As i s.2 (evR L i)).2==0)) (.inl (.int 0::.rows s.1::.int i::.int (As i s.2 (evR L i)).2::s.2.ls)) (.inr (cond ((evR L i).kind==4) (s.1++[H3 i s.2 (As i s.2 (evR L i)).1 (evR L i).ball]) s.1,(As i s.2 (evR L i)).1))
def xz (out:Rows) (f:Mat×Int×Int):List PV:=cond (f.2.1 == -1) (.int 1::.rows out::f.1.ls) (.int 0::.rows out::.int f.2.1::.int f.2.2::f.1.ls)
theorem qN (L:Rows):∀ k i s,Wa (Vg L) (fun s=>.int 1::.rows s.1::s.2.ls) k i s=xz (LT L k i s.2 s.1) (Cu L k i s.2)
 | 0,_,_=>rfl
 | k+1,i,s=>by
  simp only [Wa,Vg,Cu,LT];cases (As i s.2 (evR L i)).2==0 with
  | false =>
   simp only [Bool.not_false,cond_true,xz];rw [show ((i:Int) == -1)=false from beq_false_of_ne (show (i:Int) ≠ -1 by omega)];rfl
  | true=>exact qN L k (i+1) _
def ZD (out:Rows) (f:Mat×Int×Int):List PV:=[.rows out,.str f.1.rules.name,.int f.1.rules.side,.int f.1.rules.innings,.int f.1.rules.overs,.int f.1.rules.balls,.int f.1.rules.quota,.int f.1.rules.wide,.int f.1.rules.noball,.bool f.1.rules.freehit,.int f.1.rules.newball,.int f.1.rules.followon,.int f.1.rules.reviews,.int f.1.rules.outside,.rows f.1.rules.power,.int f.1.stage,.int f.1.first,.bool f.1.follow,.rows (AX f.1.inns),.int f.1.pen1,.int f.1.pen2,.int f.1.win,.int f.1.wside,.int f.1.margin,.int f.2.1,.int f.2.2]
theorem zm {m t:Mat} {e:Ev} (hl:m.inns.length≤5) (h:((CP m e).2==0)=true) (hk:(e.kind==4)=true) (ht:(CP m e).1=t):iIn (IntKind.i64.wrap ((m.inns.length:Int) - 1)) (m.inns.length:Int)=true∧iIn (IntKind.i64.wrap ((m.inns.length:Int) - 1)) (t.inns.length:Int)=true:=by
 obtain ⟨_,h2,_,h4⟩:=aI h hk;have:=OG h2 (show m.inns.length≤1000000 by omega);rw [← ht,h4,List.length_set];exact ⟨this,this⟩
set_option maxHeartbeats 8000000 in
theorem lZ {N:Nat} {r8:Bool} {r0:ByteArray} {r13:Rows} {L:Rows} (hN:2097152<N) (hs:r0.size≤1048576) (h13:r13.length≤1048576) (hL:L.length≤1048576):Ib N [.str r0,.int r1,.int r2,.int r3,.int r4,.int r5,.int r6,.int r7,.bool r8,.int r9,.int r10,.int r11,.int r12,.rows r13,.rows L]=some (ZD (Bp (⟨r0,r1,r2,r3,r4,r5,r6,r7,r8,r9,r10,r11,r12,r13⟩:Rul) L) (BG (⟨r0,r1,r2,r3,r4,r5,r6,r7,r8,r9,r10,r11,r12,r13⟩:Rul) L)):=by
  show OZ (std (D5 N) N) (xOf _)=_;generalize hres:(some (ZD (Bp (⟨r0,r1,r2,r3,r4,r5,r6,r7,r8,r9,r10,r11,r12,r13⟩:Rul) L) (BG (⟨r0,r1,r2,r3,r4,r5,r6,r7,r8,r9,r10,r11,r12,r13⟩:Rul) L)):Option (List PV))=RR;simp only [OZ,ah,QW,KW,Alg.q,std,xOf,PXb,wT hN hs h13];subst hres;simp only [Bp,BG];have nk:=gf (⟨r0,r1,r2,r3,r4,r5,r6,r7,r8,r9,r10,r11,r12,r13⟩:Rul);generalize Aa (⟨r0,r1,r2,r3,r4,r5,r6,r7,r8,r9,r10,r11,r12,r13⟩:Rul)=X at nk;obtain ⟨⟨⟨m0,m1,m2,m3,m4,m5,m6,m7,m8,m9,m10,m11,m12,m13⟩,m14,m15,m16,m17,m18,m19,m20,m21,m22⟩,l⟩:=X;simp only at nk;simp only [PXb,PXc,PXk,Nat.reduceAdd];cases hl:l==0
  case false=>rfl
  have ok:=nk hl;simp only [PXb];refine AM (Wn (St:=Rows×Mat) (len:=L.length) (enc:=fun i s=>[.rows s.1,.int (i:Int),.str s.2.rules.name,.int s.2.rules.side,.int s.2.rules.innings,.int s.2.rules.overs,.int s.2.rules.balls,.int s.2.rules.quota,.int s.2.rules.wide,.int s.2.rules.noball,.bool s.2.rules.freehit,.int s.2.rules.newball,.int s.2.rules.followon,.int s.2.rules.reviews,.int s.2.rules.outside,.rows s.2.rules.power,.int s.2.stage,.int s.2.first,.bool s.2.follow,.rows (AX s.2.inns),.int s.2.pen1,.int s.2.pen2,.int s.2.win,.int s.2.wside,.int s.2.margin])
    (body:=Vg L) (fin:=fun s=>.int 1::.rows s.1::s.2.ls) (fun i s=>StepOk (⟨r0,r1,r2,r3,r4,r5,r6,r7,r8,r9,r10,r11,r12,r13⟩:Rul) s.2∧s.1.length≤i) ?_ ?_ L.length 0 ([],(⟨⟨m0,m1,m2,m3,m4,m5,m6,m7,m8,m9,m10,m11,m12,m13⟩,m14,m15,m16,m17,m18,m19,m20,m21,m22⟩:Mat)) N (by omega) (by omega) ⟨ok,Nat.zero_le _⟩) ?_
  · intro m self _;simp only [PXb,PXc,PXn,AD,Ao];rfl
  · intro i s self hi ok;obtain ⟨out,⟨⟨a0,a1,a2,a3,a4,a5,a6,a7,a8,a9,a10,a11,a12,a13⟩,a14,a15,a16,a17,a18,a19,a20,a21,a22⟩⟩:=s;obtain ⟨ok,hout⟩:=ok;have o1:=ok.rules;have o2:=ok.fit;have o3:=ok.len;simp only at o1 o2 o3 hout;cases o1;have kp:=Zv ok (i:Int) (evR L i);have acc:=Yn (m:=(⟨⟨r0,r1,r2,r3,r4,r5,r6,r7,r8,r9,r10,r11,r12,r13⟩,a14,a15,a16,a17,a18,a19,a20,a21,a22⟩:Mat)) (i:=(i:Int)) (e:=evR L i);refine ⟨?_,?_⟩
    · simp only [PXb,PXc,PXn,AD,Ag (show i≤1099511627776 by omega),Ad hi,AN hi,QW,zV hN o2 (show a17.length≤1000000 by omega) hs h13,BS,oq,Nat.reduceAdd,PXk,PXc,yl,List.length_append,List.length_cons,List.length_nil,KW];unfold Vg;simp only;generalize hT:As (i:Int) (⟨⟨r0,r1,r2,r3,r4,r5,r6,r7,r8,r9,r10,r11,r12,r13⟩,a14,a15,a16,a17,a18,a19,a20,a21,a22⟩:Mat) (evR L i)=T at acc;obtain ⟨⟨⟨b0,b1,b2,b3,b4,b5,b6,b7,b8,b9,b10,b11,b12,b13⟩,b14,b15,b16,b17,b18,b19,b20,b21,b22⟩,l2⟩:=T;simp only at acc;simp only;cases hl2:l2==0
      case false=>rfl
      have hk0:(evR L i).kind=atI L i 0:=rfl;rw [hk0];simp only [PXb];cases hk:atI L i 0==4
      case false=>rfl
      have ha:=(acc hl2).1;have hd:=zm (m:=(⟨⟨r0,r1,r2,r3,r4,r5,r6,r7,r8,r9,r10,r11,r12,r13⟩,a14,a15,a16,a17,a18,a19,a20,a21,a22⟩:Mat)) (e:=evR L i) o3 (by rw [← ha];exact hl2) hk (congrArg Prod.fst ha).symm;simp only at hd;have h216:iSm ((out.length+1:Nat):Int) 216=true:=DP (by omega) (by omega);simp only [PXb,PXc,ny hd.1 hd.2,h216];rfl
    · intro s' h;unfold Vg at h;simp only at h;cases hq:(As (i:Int) (⟨⟨r0,r1,r2,r3,r4,r5,r6,r7,r8,r9,r10,r11,r12,r13⟩,a14,a15,a16,a17,a18,a19,a20,a21,a22⟩:Mat) (evR L i)).2==0 with
      | false=>rw [hq] at h;cases h
      | true =>
        rw [hq] at h;cases h;refine ⟨kp,?_⟩;cases (evR L i).kind==4 with
        | false=>show out.length≤_;omega
        | true=>show (out++[_]).length≤_;rw [List.length_append];simp;omega
  · rw [qN];have he:=kJ L L.length 0 (⟨⟨m0,m1,m2,m3,m4,m5,m6,m7,m8,m9,m10,m11,m12,m13⟩,m14,m15,m16,m17,m18,m19,m20,m21,m22⟩:Mat);simp only;generalize LT L L.length 0 (⟨⟨m0,m1,m2,m3,m4,m5,m6,m7,m8,m9,m10,m11,m12,m13⟩,m14,m15,m16,m17,m18,m19,m20,m21,m22⟩:Mat) []=out;generalize Cu L L.length 0 (⟨⟨m0,m1,m2,m3,m4,m5,m6,m7,m8,m9,m10,m11,m12,m13⟩,m14,m15,m16,m17,m18,m19,m20,m21,m22⟩:Mat)=f at he;obtain ⟨⟨⟨a0,a1,a2,a3,a4,a5,a6,a7,a8,a9,a10,a11,a12,a13⟩,a14,a15,a16,a17,a18,a19,a20,a21,a22⟩,b,l⟩:=f;simp only at he;unfold xz;cases hb:b == -1 with
    | false=>rfl
    | true =>
      rw [he hb,beq_iff_eq.1 hb];rfl
end Go.Px
end
section
namespace Go.Px
set_option maxRecDepth 100000
theorem vJ {N:Nat} {r8:Bool} {r0:ByteArray} {r13:Rows} {L:Rows} (hN:2097152<N) (hs:r0.size≤1048576) (h13:r13.length≤1048576) (hL:L.length≤1048576):K8 N [.str r0,.int r1,.int r2,.int r3,.int r4,.int r5,.int r6,.int r7,.bool r8,.int r9,.int r10,.int r11,.int r12,.rows r13,.rows L]=some (Tg (BG (⟨r0,r1,r2,r3,r4,r5,r6,r7,r8,r9,r10,r11,r12,r13⟩:Rul) L)):=by
 show KK (std (FF N) N) (xOf _)=_;generalize hres:(some (Tg (BG (⟨r0,r1,r2,r3,r4,r5,r6,r7,r8,r9,r10,r11,r12,r13⟩:Rul) L)):Option (List PV))=RR;simp only [KK,Yk,Alg.q,std,xOf,PXb,lZ hN hs h13 hL];subst hres;rfl
theorem eX {N:Nat} {r8:Bool} {r0:ByteArray} {r13:Rows} {L:Rows} (hN:2097152<N) (hs:r0.size≤1048576) (h13:r13.length≤1048576) (hL:L.length≤1048576):FP N [.str r0,.int r1,.int r2,.int r3,.int r4,.int r5,.int r6,.int r7,.bool r8,.int r9,.int r10,.int r11,.int r12,.rows r13,.rows L]=some (Tg (BG (⟨r0,r1,r2,r3,r4,r5,r6,r7,r8,r9,r10,r11,r12,r13⟩:Rul) L)):=by
 show Kl (std (Dv N) N) (xOf _)=_;generalize hres:(some (Tg (BG (⟨r0,r1,r2,r3,r4,r5,r6,r7,r8,r9,r10,r11,r12,r13⟩:Rul) L)):Option (List PV))=RR;simp only [Kl,Zt,N1,Alg.q,std,xOf,PXb,qu hN hs h13];subst hres;simp only [BG];have nk:=gf (⟨r0,r1,r2,r3,r4,r5,r6,r7,r8,r9,r10,r11,r12,r13⟩:Rul);generalize Aa (⟨r0,r1,r2,r3,r4,r5,r6,r7,r8,r9,r10,r11,r12,r13⟩:Rul)=X at nk;obtain ⟨⟨⟨m0,m1,m2,m3,m4,m5,m6,m7,m8,m9,m10,m11,m12,m13⟩,m14,m15,m16,m17,m18,m19,m20,m21,m22⟩,l⟩:=X;simp only at nk;simp only [PXb,PXc,PXk,Nat.reduceAdd];cases hl:l==0
 case false=>rfl
 have ok:=nk hl;have o1:=ok.rules;have o2:=ok.fit;have o3:=ok.len;simp only at o1 o2 o3;cases o1;simp only [PXb,N1,yB hN o2 o3 hs h13 hL];rfl
theorem sv (L:Rows):∀ k i m,iLe 0 (Cu L k i m).2.1 = !((Cu L k i m).2.2==0)∧((Cu L k i m).2.1 == -1)=((Cu L k i m).2.2==0)
 | 0,_,_=>⟨rfl,rfl⟩
 | k+1,i,m=>by
  unfold Cu;cases hq:(As i m (evR L i)).2==0 with
  | false =>
   simp only [Bool.not_false,cond_true,hq];exact ⟨by simp only [iLe,decide_eq_true_eq];omega,beq_false_of_ne (by omega)⟩
  | true=>exact sv L k (i+1) _
theorem zb (r:Rul) (L:Rows):iLe 0 (BG r L).2.1 = !((BG r L).2.2==0)∧((BG r L).2.1 == -1)=((BG r L).2.2==0):=by
 unfold BG;cases (Aa r).2==0 with
 | false=>exact ⟨rfl,rfl⟩
 | true=>exact sv L L.length 0 _
def Cl (r:Rul) (L:Rows):Int:=cond (!(A2 r==0)) (A2 r) (cond (iLt 4000 (L.length:Int)) 9 (cond (!((BG r L).2.2==0)) 10 0))
theorem xD {N:Nat} {r8:Bool} {r0:ByteArray} {r13:Rows} {L:Rows} (hN:2097152<N) (hs:r0.size≤1048576) (h13:r13.length≤1048576) (hL:L.length≤1048576):MB N [.str r0,.int r1,.int r2,.int r3,.int r4,.int r5,.int r6,.int r7,.bool r8,.int r9,.int r10,.int r11,.int r12,.rows r13,.rows L]=some [.int (Cl (⟨r0,r1,r2,r3,r4,r5,r6,r7,r8,r9,r10,r11,r12,r13⟩:Rul) L)]:=by
 show MK (std (EX N) N) (xOf _)=_;generalize hres:(some [.int (Cl (⟨r0,r1,r2,r3,r4,r5,r6,r7,r8,r9,r10,r11,r12,r13⟩:Rul) L)]:Option (List PV))=RR;simp only [MK,Vz,Xl,Alg.q,std,xOf,PXb,Da hN hs,vJ hN hs h13 hL,PXm];subst hres;simp only [Cl];rfl
theorem wa {N:Nat} {r8:Bool} {r0:ByteArray} {r13:Rows} {L:Rows} (hN:2097152<N) (hs:r0.size≤1048576) (h13:r13.length≤1048576) (hL:L.length≤1048576):MM N [.str r0,.int r1,.int r2,.int r3,.int r4,.int r5,.int r6,.int r7,.bool r8,.int r9,.int r10,.int r11,.int r12,.rows r13,.rows L]=some [.int (Cl (⟨r0,r1,r2,r3,r4,r5,r6,r7,r8,r9,r10,r11,r12,r13⟩:Rul) L)]:=by
 show Mf (std (ET N) N) (xOf _)=_;generalize hres:(some [.int (Cl (⟨r0,r1,r2,r3,r4,r5,r6,r7,r8,r9,r10,r11,r12,r13⟩:Rul) L)]:Option (List PV))=RR;simp only [Mf,ZY,YE,Alg.q,std,xOf,PXb,FB hN hs,eX hN hs h13 hL,PXm,Tg,PXc,(zb (⟨r0,r1,r2,r3,r4,r5,r6,r7,r8,r9,r10,r11,r12,r13⟩:Rul) L).1];subst hres;simp only [Cl]
def Y0 (L:Rows) (n:Int):Rows:=(L.take n.toNat).drop (0:Int).toNat
structure LogOk (m:Mat):Prop where
 fit:Dw m.inns
 len:m.inns.length≤5
 name:m.rules.name.size≤1048576
 power:m.rules.power.length≤1048576
end Go.Px
end
section
namespace Go.Px
set_option maxRecDepth 100000
def acc (L:Rows):Nat→Nat→Mat→Prop
 | 0,_,_=>True
 | k+1,i,m=>((As i m (evR L i)).2==0)=true∧acc L k (i+1) (As i m (evR L i)).1
def stM (L:Rows):Nat→Nat→Mat→Mat
 | 0,_,m=>m
 | k+1,i,m=>stM L k (i+1) (As i m (evR L i)).1
def LG (L:Rows):Nat→Nat→Mat→Rows→Rows
 | 0,_,_,out=>out
 | k+1,i,m,out=>LG L k (i+1) (As i m (evR L i)).1 (cond ((evR L i).kind==4) (out++[H3 i m (As i m (evR L i)).1 (evR L i).ball]) out)
theorem VN (L : Rows) : ∀ K i m, ∃ k, k ≤ K ∧ acc L k i m ∧ (∀ out, LT L K i m out = LG L k i m out) ∧
    ((k=K∧Cu L K i m=(stM L k i m,-1,0))∨(k<K∧((As ((i+k:Nat):Int) (stM L k i m) (evR L (i+k))).2==0)=false∧Cu L K i m=(stM L k i m,((i+k:Nat):Int),(As ((i+k:Nat):Int) (stM L k i m) (evR L (i+k))).2)))
  | 0,i,m=>⟨0,Nat.le_refl _,trivial,fun _=>rfl,Or.inl ⟨rfl,rfl⟩⟩
  | K+1,i,m=>by
    cases hq:(As i m (evR L i)).2==0 with
    | false =>
      refine ⟨0,Nat.zero_le _,trivial,fun out=>?_,Or.inr ⟨Nat.succ_pos _,hq,?_⟩⟩
      · simp only [LT,hq,Bool.not_false,cond_true];rfl
      · simp only [Cu,hq,Bool.not_false,cond_true];rfl
    | true =>
      obtain ⟨k,h1,h2,h3,h4⟩:=VN L K (i+1) (As i m (evR L i)).1;refine ⟨k+1,Nat.succ_le_succ h1,⟨hq,h2⟩,fun out=>?_,?_⟩
      · simp only [LT,hq,Bool.not_true,cond_false];exact h3 _
      · have e:Cu L (K+1) i m=Cu L K (i+1) (As i m (evR L i)).1:=by simp only [Cu,hq,Bool.not_true,cond_false]
        rw [e,show i+(k+1)=i+1+k by omega]
        rcases h4 with ⟨h5,h6⟩ | ⟨h5,h6⟩
        · exact Or.inl ⟨by omega,h6⟩
        · exact Or.inr ⟨by omega,h6⟩
theorem ABg {L:Rows} {n:Int} {i:Nat} (h:(i:Int)<n):evR (Y0 L n) i=evR L i:=by
 have e:∀ j,AK (Y0 L n) i j=AK L i j:=fun j=>by
  unfold AK AB Y0;rw [List.getD_eq_getElem?_getD,List.getD_eq_getElem?_getD,List.getElem?_drop,List.getElem?_take,if_pos (by omega)];simp
 unfold evR atI atB;simp only [e]
theorem yY {L:Rows} {n:Nat} (h:n≤L.length):(Y0 L (n:Int)).length=n:=by
 unfold Y0;rw [List.length_drop,List.length_take];omega
theorem AA3 (r:Rul):((Aa r).2==0)=(A2 r==0):=by
 unfold Aa;cases h:A2 r==0 with
 | false=>exact h
 | true=>rfl
theorem ACB {r:Rul} {L:Rows}:∀ k i m,StepOk r m→StepOk r (stM L k i m)
 | 0,_,_,h=>h
 | k+1,i,m,h=>ACB k (i+1) _ (Zv h _ _)
theorem bG {L:Rows}:∀ k i m,stM L (k+1) i m=(As ((i+k:Nat):Int) (stM L k i m) (evR L (i+k))).1
 | 0,i,m=>rfl
 | k+1,i,m=>by
  show stM L (k+1) (i+1) _=_;rw [bG k (i+1),show i+1+k=i+(k+1) by omega];rfl
end Go.Px
end
section
namespace Go.Px
set_option maxRecDepth 100000
theorem VB {L:Rows}:∀ k i m,acc L k i m→∀ j,j<k→((As ((i+j:Nat):Int) (stM L j i m) (evR L (i+j))).2==0)=true
 | 0,_,_,_,j,h=>absurd h (Nat.not_lt_zero j)
 | k+1,i,m,ha,0,_=>ha.1
 | k+1,i,m,ha,j+1,h=>by
  have:=VB k (i+1) _ ha.2 j (by omega);rw [show i+1+j=i+(j+1) by omega] at this;exact this
def sN (L:Rows):Nat→Nat→Mat→Rows→Rows
 | 0,_,_,out=>out
 | k+1,i,m,out=>sN L k (i+1) (CP m (evR L i)).1 (cond ((evR L i).kind==4) (out++[H3 i m (CP m (evR L i)).1 (evR L i).ball]) out)
theorem vX {L X:Rows}:∀ k i m out,acc L k i m→(∀ j,j<i+k→evR X j=evR L j)→sN X k i m out=LG L k i m out
 | 0,_,_,_,_,_=>rfl
 | k+1,i,m,out,ha,he=>by
  have e:=(Yn ha.1).1;have ih:=vX k (i+1) (As i m (evR L i)).1 (cond ((evR L i).kind==4) (out++[H3 i m (As i m (evR L i)).1 (evR L i).ball]) out) ha.2 (fun j h=>he j (by omega));unfold sN LG;rw [he i (by omega),← e];exact ih
def sP (X:Rows) (i:Nat) (s:Rows×Mat):List PV ⊕ Rows×Mat:=.inr (cond ((evR X i).kind==4) (s.1++[H3 i s.2 (CP s.2 (evR X i)).1 (evR X i).ball]) s.1,(CP s.2 (evR X i)).1)
theorem l7 (X:Rows):∀ k i s,Wa (sP X) (fun s=>[.rows s.1]) k i s=[.rows (sN X k i s.2 s.1)]
 | 0,_,_=>rfl
 | k+1,i,s=>l7 X k (i+1) _
def Ou (r:Rul) (L:Rows):Rows:=cond (iLe 0 (BG r L).2.1) (Y0 L (BG r L).2.1) L
theorem ACq {r:Rul} {L:Rows} (hc:((Aa r).2==0)=true):(Ou r L).length≤L.length∧acc L (Ou r L).length 0 (Aa r).1∧(∀ j,j<(Ou r L).length→evR (Ou r L) j=evR L j)∧Bp r L=LG L (Ou r L).length 0 (Aa r).1 []∧(iLe 0 (BG r L).2.1=true→iRg 0 (BG r L).2.1 (L.length:Int)=true):=by
 obtain ⟨k,h1,h2,h3,h4⟩:=VN L L.length 0 (Aa r).1;have hr:BG r L=Cu L L.length 0 (Aa r).1:=by unfold BG;rw [hc];rfl
 have hp:Bp r L=LT L L.length 0 (Aa r).1 []:=by unfold Bp;rw [hc];rfl
 unfold Ou;rw [hr,hp]
 rcases h4 with ⟨h5,h6⟩ | ⟨h5,h6,h7⟩
 ·rw [h6];subst h5;exact ⟨Nat.le_refl _,h2,fun _ _=>rfl,h3 [],fun h=>absurd (show iLe (0:Int) (-1)=true from h) (by decide)⟩
 ·rw [h7];have hk:iLe 0 ((0+k:Nat):Int)=true:=by simp only [iLe,decide_eq_true_eq];omega
  simp only [hk,cond_true];rw [Nat.zero_add,yY h1];exact ⟨h1,h2,fun j hj=>ABg (by omega),h3 [],fun _=>by simp only [iRg,decide_eq_true_eq];omega⟩
set_option maxHeartbeats 8000000 in
theorem yq {N:Nat} {r8:Bool} {r0:ByteArray} {r13:Rows} {L:Rows} (hN:2097152<N) (hs:r0.size≤1048576) (h13:r13.length≤1048576) (hL:L.length≤1048576):Pk N [.str r0,.int r1,.int r2,.int r3,.int r4,.int r5,.int r6,.int r7,.bool r8,.int r9,.int r10,.int r11,.int r12,.rows r13,.rows L]=some (ZD (Bp (⟨r0,r1,r2,r3,r4,r5,r6,r7,r8,r9,r10,r11,r12,r13⟩:Rul) L) (BG (⟨r0,r1,r2,r3,r4,r5,r6,r7,r8,r9,r10,r11,r12,r13⟩:Rul) L)):=by
  show P4 (std (DV N) N) (xOf _)=_;generalize hres:(some (ZD (Bp (⟨r0,r1,r2,r3,r4,r5,r6,r7,r8,r9,r10,r11,r12,r13⟩:Rul) L) (BG (⟨r0,r1,r2,r3,r4,r5,r6,r7,r8,r9,r10,r11,r12,r13⟩:Rul) L)):Option (List PV))=RR;simp only [P4,Ye,eW,QT,Nv,Alg.q,std,xOf,PXb,eX hN hs h13 hL,qu hN hs h13];subst hres;cases hc:(Aa (⟨r0,r1,r2,r3,r4,r5,r6,r7,r8,r9,r10,r11,r12,r13⟩:Rul)).2==0
  case false =>
    have e1:BG (⟨r0,r1,r2,r3,r4,r5,r6,r7,r8,r9,r10,r11,r12,r13⟩:Rul) L=(yp,0,1):=by unfold BG;rw [hc];rfl
    have e2:Bp (⟨r0,r1,r2,r3,r4,r5,r6,r7,r8,r9,r10,r11,r12,r13⟩:Rul) L=[]:=by unfold Bp;rw [hc];rfl
    have hr:iRg 0 0 (L.length:Int)=true:=by simp only [iRg,decide_eq_true_eq];omega
    rw [e1,e2];simp only [G6,Tg,PXb,PXc,hc,hr,show iLe (0:Int) 0=true from rfl];rfl
  obtain ⟨p1,p2,p3,p4,p5⟩:=ACq (L:=L) hc;have q1:(Ou (⟨r0,r1,r2,r3,r4,r5,r6,r7,r8,r9,r10,r11,r12,r13⟩:Rul) L).length≤1048576:=by omega
  refine bind_ok (r:=[.rows (Ou (⟨r0,r1,r2,r3,r4,r5,r6,r7,r8,r9,r10,r11,r12,r13⟩:Rul) L)]) ?_ ?_
  · unfold Ou;simp only [Tg,PXb,PXc];cases hp:iLe 0 (BG (⟨r0,r1,r2,r3,r4,r5,r6,r7,r8,r9,r10,r11,r12,r13⟩:Rul) L).2.1 with
    | false=>rfl
    | true=>rw [p5 hp];rfl
  have okm:=gf (⟨r0,r1,r2,r3,r4,r5,r6,r7,r8,r9,r10,r11,r12,r13⟩:Rul) hc;have on:=fun i=>ACB (L:=L) i 0 _ okm
  have aat:=VB _ 0 _ p2;rw [p4];have d1:=vX (X:=Ou (⟨r0,r1,r2,r3,r4,r5,r6,r7,r8,r9,r10,r11,r12,r13⟩:Rul) L) _ 0 _ [] p2 (fun j hj=>p3 j (by omega));rw [← d1];generalize hX:Ou (⟨r0,r1,r2,r3,r4,r5,r6,r7,r8,r9,r10,r11,r12,r13⟩:Rul) L=X at *
  clear hX d1 p4 p5;simp only [G6,PXb,PXc,hc,Nat.reduceAdd];refine AM (Wn (St:=Rows×Mat) (len:=X.length) (enc:=fun i s=>[.rows s.1,.int (i:Int),.str s.2.rules.name,.int s.2.rules.side,.int s.2.rules.innings,.int s.2.rules.overs,.int s.2.rules.balls,.int s.2.rules.quota,.int s.2.rules.wide,.int s.2.rules.noball,.bool s.2.rules.freehit,.int s.2.rules.newball,.int s.2.rules.followon,.int s.2.rules.reviews,.int s.2.rules.outside,.rows s.2.rules.power,.int s.2.stage,.int s.2.first,.bool s.2.follow,.rows (AX s.2.inns),.int s.2.pen1,.int s.2.pen2,.int s.2.win,.int s.2.wside,.int s.2.margin])
    (body:=sP X) (fin:=fun s=>[.rows s.1]) (fun i s=>s.2=stM L i 0 (Aa (⟨r0,r1,r2,r3,r4,r5,r6,r7,r8,r9,r10,r11,r12,r13⟩:Rul)).1∧s.1.length≤i) ?_ ?_ X.length 0 ([],(Aa (⟨r0,r1,r2,r3,r4,r5,r6,r7,r8,r9,r10,r11,r12,r13⟩:Rul)).1) N (by omega) (by omega) ⟨rfl,Nat.zero_le _⟩) ?_
  · intro m self _;simp only [PXb,PXc,PXn,AD,Ao]
  · intro i s self hi ok;obtain ⟨out,m⟩:=s;obtain ⟨ok,hout⟩:=ok;simp only at ok hout;have oi:=on i;have ai:=aat i hi;have si:=bG (L:=L) i 0 (Aa (⟨r0,r1,r2,r3,r4,r5,r6,r7,r8,r9,r10,r11,r12,r13⟩:Rul)).1;rw [Nat.zero_add] at ai si;rw [← ok] at oi ai si;rw [← p3 i hi] at ai si;have st:=(Yn ai).1;rw [st] at ai si;clear ok st aat on;obtain ⟨⟨a0,a1,a2,a3,a4,a5,a6,a7,a8,a9,a10,a11,a12,a13⟩,a14,a15,a16,a17,a18,a19,a20,a21,a22⟩:=m;have o1:=oi.rules;have o2:=oi.fit;have o3:=oi.len;simp only at o1 o2 o3;cases o1;refine ⟨?_,?_⟩
    · simp only [PXb,PXc,PXn,AD,Ag (show i≤1099511627776 by omega),Ad hi,AN hi,QT,lV hN o2 (show a17.length≤1000000 by omega) hs h13,BS,oq,Nat.reduceAdd,PXk,PXc,yl,List.length_append,List.length_cons,List.length_nil,PXi];unfold sP;simp only;have hk0:(evR X i).kind=atI X i 0:=rfl;rw [hk0];cases hk:atI X i 0==4
      case false=>rfl
      have hd:=zm (m:=(⟨⟨r0,r1,r2,r3,r4,r5,r6,r7,r8,r9,r10,r11,r12,r13⟩,a14,a15,a16,a17,a18,a19,a20,a21,a22⟩:Mat)) (e:=evR X i) o3 ai hk rfl;simp only at hd;have h216:iSm ((out.length+1:Nat):Int) 216=true:=DP (by omega) (by omega);simp only [PXb,PXc,hd.1,hd.2,h216,Nv,fm,Cre.ls];simp only [atI,atB,PXi];rfl
    · intro s' h;unfold sP at h;cases h;refine ⟨si.symm,?_⟩;show (cond ((evR X i).kind==4) (out++[_]) out).length≤i+1;cases (evR X i).kind==4 with
      | false=>show out.length≤_;omega
      | true=>show (out++[_]).length≤_;rw [List.length_append];simp;omega
  · rw [l7];rfl
theorem mg (r:Rul) (L:Rows):(Bp r L).length≤L.length:=by
 unfold Bp;cases (Aa r).2==0 with
 | false=>exact Nat.zero_le _
 | true =>
  have:=tP L L.length 0 (Aa r).1 [];rw [List.length_nil,Nat.zero_add] at this;exact this
end Go.Px
end
