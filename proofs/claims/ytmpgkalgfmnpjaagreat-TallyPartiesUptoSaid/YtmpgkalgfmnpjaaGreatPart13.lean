/- Part 13. -/
import Derived.Test.YtmpgkalgfmnpjaaGreatPart12
set_option linter.unusedVariables false
set_option linter.unusedSimpArgs false
section
namespace Go.Px
set_option maxRecDepth 100000
def lnx (xs:List Inn):Nat:=(IntKind.i64.wrap ((xs.length:Int) - 1)).toNat
def Ar (m:Mat):Inn:=inn m.inns (lnx m.inns)
theorem Nn {n:Nat} (h:((n:Int)==0)=false) (hl:n≤1000000):iIn (IntKind.i64.wrap ((n:Int) - 1)) (n:Int)=true:=by
 rw [beq_eq_false_iff_ne] at h
 rw [Ct (by omega) (by omega)]
 simp only [iIn,decide_eq_true_eq];omega
theorem Ym {xs:List Inn} (h:((xs.length:Int)==0)=false) (hl:xs.length≤1000000):lnx xs<xs.length:=by
 rw [beq_eq_false_iff_ne] at h
 unfold lnx
 rw [Ct (by omega) (by omega)]
 omega
def YM (r:Rul):Int:=cond (r.overs==0) 5 6
theorem Ku {N:Nat} {r1 r2 r3 r4 r5 r6 r7 r9 r10 r11 r12:Int} {r8:Bool} {r0:ByteArray} {r13:Rows}  : Bv N [.str r0,.int r1,.int r2,.int r3,.int r4,.int r5,.int r6,.int r7,.bool r8,.int r9,.int r10,.int r11,.int r12,.rows r13]=some [.int (YM (⟨r0,r1,r2,r3,r4,r5,r6,r7,r8,r9,r10,r11,r12,r13⟩:Rul))]:=by
 show GE (std (PB N) N) (xOf _)=_
 simp only [GE,std,xOf,PXb,PXc,PXn,PXm,Nat.reduceAdd,Int.reduceBEq,YM]
theorem Ts {N:Nat} {m1 m2 m3 m4 m5 m6 m7 m9 m10 m11 m12 m14 m15 m18 m19 m20 m21 m22:Int} {m8 m16:Bool} {m0:ByteArray} {m13:Rows} {m17:List Inn} (h:((m17.length:Int)==0)=false) (hl:m17.length≤1000000):DP N [.str m0,.int m1,.int m2,.int m3,.int m4,.int m5,.int m6,.int m7,.bool m8,.int m9,.int m10,.int m11,.int m12,.rows m13,.int m14,.int m15,.bool m16,.rows (AU m17),.int m18,.int m19,.int m20,.int m21,.int m22]=some (inn m17 (lnx m17)).ls:=by
 show Og (std (KV N) N) (xOf _)=_
 simp only [Og,std,xOf,PXb,PXc,PXn,PXm,Nat.reduceAdd,Int.reduceBEq,PXi,Nn h hl,lnx]
def pG (x:Int×Int×Int):List PV:=[.int x.1,.int x.2.1,.int x.2.2]
def NI (m:Mat):Int×Int×Int :=
  let n:Int:=m.inns.length
  let most:=IntKind.i64.wrap (2 * m.rules.innings)
  let x:=Ar m
  cond (!CQ m||n==0) (0,0,0) (cond (x.ending==5) (YM m.rules,0,0) (cond (x.ending==0) (0,0,0)
    (cond (n==most&&iLe x.target x.runs) (2,x.side,IntKind.i64.wrap (IntKind.i64.wrap (m.rules.side - 1) - x.wickets)) (cond (n==most&&x.runs==IntKind.i64.wrap (x.target - 1)) (4,0,0)
      (cond (n==most) (1,BC x.side,IntKind.i64.wrap (IntKind.i64.wrap (x.target - 1) - x.runs))
        (cond (n==3&&iLt (BB m x.side) (BB m (BC x.side))) (3,BC x.side,IntKind.i64.wrap (BB m (BC x.side) - BB m x.side)) (0,0,0)))))))
set_option maxHeartbeats 4000000 in
theorem ki {N:Nat} {m1 m2 m3 m4 m5 m6 m7 m9 m10 m11 m12 m14 m15 m18 m19 m20 m21 m22:Int} {m8 m16:Bool} {m0:ByteArray} {m13:Rows} {m17:List Inn} (hf:Dl m17) (hN:2097152<N) (hl:m17.length≤1000000) (hs:m0.size≤1048576):GR N [.str m0,.int m1,.int m2,.int m3,.int m4,.int m5,.int m6,.int m7,.bool m8,.int m9,.int m10,.int m11,.int m12,.rows m13,.int m14,.int m15,.bool m16,.rows (AU m17),.int m18,.int m19,.int m20,.int m21,.int m22]=some (pG (NI (⟨⟨m0,m1,m2,m3,m4,m5,m6,m7,m8,m9,m10,m11,m12,m13⟩,m14,m15,m16,m17,m18,m19,m20,m21,m22⟩:Mat))):=by
 show Je (std (DU N) N) (xOf _)=_
 generalize hres:(some (pG (NI (⟨⟨m0,m1,m2,m3,m4,m5,m6,m7,m8,m9,m10,m11,m12,m13⟩,m14,m15,m16,m17,m18,m19,m20,m21,m22⟩:Mat))):Option (List PV))=RR
 simp only [Je,Ry,SH,Rn,NR,std,xOf,PXb,PXi,ai hf hN hl hs,Iz,Ku,SY hN (show m17.length≤1048576 by omega)]
 subst hres;simp only [NI,Ar,lnx]
 cases hv:CQ (⟨⟨m0,m1,m2,m3,m4,m5,m6,m7,m8,m9,m10,m11,m12,m13⟩,m14,m15,m16,m17,m18,m19,m20,m21,m22⟩:Mat)
 case false=>rfl
 cases h0:(m17.length:Int)==0
 case true=>rfl
 simp only [PXb,Nn h0 hl]
 generalize inn m17 (IntKind.i64.wrap ((m17.length:Int) - 1)).toNat=x
 cases x.ending==5
 case true=>rfl
 cases x.ending==0
 case true=>rfl
 cases (m17.length:Int)==IntKind.i64.wrap (2 * m2)<;>cases iLe x.target x.runs<;>cases x.runs==IntKind.i64.wrap (x.target - 1)<;>try rfl
 all_goals (cases (m17.length:Int)==3<;>try rfl)
 all_goals (simp only [PXb];cases iLt (BB (⟨⟨m0,m1,m2,m3,m4,m5,m6,m7,m8,m9,m10,m11,m12,m13⟩,m14,m15,m16,m17,m18,m19,m20,m21,m22⟩:Mat) x.side) (BB (⟨⟨m0,m1,m2,m3,m4,m5,m6,m7,m8,m9,m10,m11,m12,m13⟩,m14,m15,m16,m17,m18,m19,m20,m21,m22⟩:Mat) (BC x.side))<;>rfl)
set_option maxHeartbeats 4000000 in
theorem oJ {N:Nat} {m1 m2 m3 m4 m5 m6 m7 m9 m10 m11 m12 m14 m15 m18 m19 m20 m21 m22:Int} {m8 m16:Bool} {m0:ByteArray} {m13:Rows} {m17:List Inn} (hf:Dl m17) (hN:2097152<N) (hl:m17.length≤1000000) (hs:m0.size≤1048576):Im N [.str m0,.int m1,.int m2,.int m3,.int m4,.int m5,.int m6,.int m7,.bool m8,.int m9,.int m10,.int m11,.int m12,.rows m13,.int m14,.int m15,.bool m16,.rows (AU m17),.int m18,.int m19,.int m20,.int m21,.int m22]=some (pG (NI (⟨⟨m0,m1,m2,m3,m4,m5,m6,m7,m8,m9,m10,m11,m12,m13⟩,m14,m15,m16,m17,m18,m19,m20,m21,m22⟩:Mat))):=by
 show I2 (std (CN N) N) (xOf _)=_
 generalize hres:(some (pG (NI (⟨⟨m0,m1,m2,m3,m4,m5,m6,m7,m8,m9,m10,m11,m12,m13⟩,m14,m15,m16,m17,m18,m19,m20,m21,m22⟩:Mat))):Option (List PV))=RR
 simp only [I2,VX,Lw,Ld,Le,std,xOf,PXb,PXi,Wq hf hN hl hs,Gn,Lq hN (show m17.length≤1048576 by omega)]
 subst hres;simp only [NI,Ar]
 cases hv:CQ (⟨⟨m0,m1,m2,m3,m4,m5,m6,m7,m8,m9,m10,m11,m12,m13⟩,m14,m15,m16,m17,m18,m19,m20,m21,m22⟩:Mat)
 case false=>rfl
 cases h0:(m17.length:Int)==0
 case true=>rfl
 simp only [PXb,PXm,Lw,Ts h0 hl,Ld,Le,Gn,Lq hN (show m17.length≤1048576 by omega)]
 generalize inn m17 (lnx m17)=x
 unfold YM
 cases x.ending==5<;>cases m3==0<;>try rfl
 all_goals (cases x.ending==0<;>try rfl)
 all_goals (cases (m17.length:Int)==IntKind.i64.wrap (2 * m2)<;>cases iLe x.target x.runs<;>cases x.runs==IntKind.i64.wrap (x.target - 1)<;>try rfl)
 all_goals (cases (m17.length:Int)==3<;>try rfl)
 all_goals (simp only [PXb];cases iLt (BB (⟨⟨m0,m1,m2,m3,m4,m5,m6,m7,m8,m9,m10,m11,m12,m13⟩,m14,m15,m16,m17,m18,m19,m20,m21,m22⟩:Mat) x.side) (BB (⟨⟨m0,m1,m2,m3,m4,m5,m6,m7,m8,m9,m10,m11,m12,m13⟩,m14,m15,m16,m17,m18,m19,m20,m21,m22⟩:Mat) (BC x.side))<;>rfl)
theorem qA:∀ (n k:Nat) (f:Nat→Nat),(∀ i,i<k→1≤f i∧f i≤n)→(∀ i j,i<j→j<k→f i≠f j)→k≤n
 | 0,k,f,h,_=>by
  rcases Nat.eq_zero_or_pos k with e | e
  ·omega
  ·have:=h 0 e;omega
 | n+1,0,f,_,_=>by omega
 | n+1,k+1,f,h,hi=>by
  by_cases he:∃ j,j<k+1∧f j=n+1
  ·obtain ⟨j,hj,hfj⟩:=he
   have:=qA n k (fun i=>if i=j then f k else f i) (fun i hik=>by
    show 1≤(if i=j then f k else f i)∧(if i=j then f k else f i)≤n
    by_cases e:i=j
    ·rw [if_pos e]
     have h1:=h k (by omega)
     have:f k≠f j:=fun e2=>hi j k (by omega) (by omega) e2.symm
     omega
    ·rw [if_neg e]
     have h1:=h i (by omega)
     have:f i≠f j:=by
      rcases Nat.lt_or_gt_of_ne e with e2 | e2
      ·exact hi i j e2 hj
      ·exact fun e3=>hi j i e2 (by omega) e3.symm
     omega) (fun a b hab hb=>by
    show (if a=j then f k else f a)≠(if b=j then f k else f b)
    by_cases e1:a=j
    ·have e2:b≠j:=by omega
     rw [if_pos e1,if_neg e2]
     exact fun e3=>hi b k hb (by omega) e3.symm
    ·rw [if_neg e1]
     by_cases e2:b=j
     ·rw [if_pos e2];exact hi a k (by omega) (by omega)
     ·rw [if_neg e2];exact hi a b hab (by omega))
   omega
  ·have:=qA n (k+1) f (fun i hik=>by
    have h1:=h i hik
    have:f i≠n+1:=fun e=>he ⟨i,hik,e⟩
    omega) hi
   omega
theorem pb {L:Rows} {n:Int} (h:GK L n=true) (hn:0≤n):(L.length:Int)≤n:=by
 unfold GK at h
 rw [Bool.not_eq_true',LX] at h
 have hb:∀ i,i<L.length→1≤atI L i 0∧atI L i 0≤n:=fun i hi=>by
  have:=h i (by omega) (by omega)
  unfold LF at this
  rw [Bool.or_eq_false_iff,Bool.not_eq_false',Xy] at this
  exact this.1
 have:=qA n.toNat L.length (fun i=>(atI L i 0).toNat) (fun i hi=>by have:=hb i hi;show 1≤(atI L i 0).toNat∧(atI L i 0).toNat≤n.toNat;omega) (fun i j hij hj=>by
  show (atI L i 0).toNat≠(atI L j 0).toNat
  have h1:=hb i (by omega)
  have h2:=hb j hj
  have h3:=h j (by omega) (by omega)
  unfold LF at h3
  rw [Bool.or_eq_false_iff] at h3
  have h4:=LX.1 h3.2 i (by omega) (by omega)
  rw [beq_eq_false_iff_ne] at h4
  omega)
 omega
theorem Pp {r:Rul} {s:Inn} (h:Ee r s=true):s.bowlers.length≤11∧s.before.length≤11∧s.Fit:=by
 have ok:=Rv.1 h
 have hs:=AAS ok
 have h1:=pb ok.dw (by omega)
 have h2:=pb ok.df (by omega)
 have h3:=ok.lb
 have h4:=ok.ld
 have h5:=ok.lz
 exact ⟨by omega,by omega,by omega,by omega,by omega,by omega,by omega⟩
end Go.Px
end
section
namespace Go.Px
set_option maxRecDepth 100000
def WK (m:Mat) (e:Ev):Mat×Int :=
  let sd:=CM m (m.inns.length:Int)
  let b:=Ba m.rules sd (FA m sd) (cond (sd==2) m.pen2 m.pen1)
  let t:=Aq m.rules b.1 e
  cond (!(b.2==0)) (m,1) (cond (!(t.2==0)) (m,t.2)
    ({ m with stage:=3,inns:=m.inns++[t.1],pen1:=cond (sd==1) 0 m.pen1,pen2:=cond (sd==2) 0 m.pen2 },0))
def MW (xs:List Inn) (sd:Int):Nat→Option Nat
 | 0=>none
 | k+1=>cond ((inn xs k).side==sd) (some k) (MW xs sd k)
def Hn (m:Mat) (sd:Int):Mat:=match MW m.inns sd m.inns.length with
 | some k=>{ m with inns:=m.inns.set k (JQ (inn m.inns k)) }
 | none=>{ m with pen1:=cond (sd==1) (IntKind.i64.wrap (m.pen1+5)) m.pen1,pen2:=cond (sd==2) (IntKind.i64.wrap (m.pen2+5)) m.pen2 }
def Er (m:Mat) (e:Ev):Mat×Int :=
 let t:=Aq m.rules (Ar m) e
 cond (!(t.2==0)) (m,t.2) (cond (e.kind==13 && !(e.side==t.1.side)) (Hn { m with inns:=m.inns.set (lnx m.inns) t.1 } e.side) { m with inns:=m.inns.set (lnx m.inns) t.1 },0)
def ek (m:Mat):Mat:={ m with inns:=cond (m.stage==3) (m.inns.set (lnx m.inns) { Ar m with ending:=5 }) m.inns,stage:=5,win:=YM m.rules,wside:=0,margin:=0 }
def Gh (m:Mat) (e:Ev):Mat×Int :=
  cond (e.kind==1) (cond (!(m.stage==1)) (m,1) ({ m with first:=cond e.yes e.side (BC e.side),stage:=2 },0))
    (cond (e.kind==2) (cond (!(m.stage==2)) (m,1) (WK m e))
      (cond (e.kind==12) (cond (!(m.stage==4)) (m,1) (cond (!(e.side==m.first)) (m,2) ({ m with follow:=e.yes,stage:=2 },0)))
        (cond (e.kind==16) (ek m,0) (cond (!(m.stage==3)) (m,1) (Er m e)))))
def Nc (m:Mat):Mat :=
  let n:Int:=m.inns.length
  let sd:=(Ar m).side
  let o:=NI { m with stage:=5 }
  cond (n==IntKind.i64.wrap (2 * m.rules.innings)||(n==3&&iLt (BB m sd) (BB m (BC sd)))) { m with stage:=5,win:=o.1,wside:=o.2.1,margin:=o.2.2 }
    (cond (n==2&&iLt 0 m.rules.followon&&iLe m.rules.followon (IntKind.i64.wrap (BB m m.first - BB m (BC m.first)))) { m with stage:=4 } { m with stage:=2 })
def B5 (m:Mat):Mat:=cond (m.stage==3 && !((Ar m).ending==0)) (Nc m) m
def C5 (m:Mat) (e:Ev):Mat×Int :=
 cond (!CQ m || !(evS e==0)) (m,1) (cond (m.stage==5) (m,26) (cond (!((Gh m e).2==0)) (m,(Gh m e).2) (B5 (Gh m e).1,0)))
theorem bind_ok {X:Option (List PV)} {r:List PV} {k:List PV→Option (List PV)} {g:Option (List PV)} (h:X=some r) (hk:k r=g):X.bind k=g:=by rw [h];exact hk
structure MatOk (m:Mat):Prop where
 code:A1 m.rules=0
 len:m.inns.length≤4
 innv:∀ i,i<m.inns.length→Ee m.rules (inn m.inns i)=true∧(inn m.inns i).side=CM m (i:Int)
 begun:(m.stage==3)=true→((m.inns.length:Int)==0)=false
 toss:(m.stage==2)=true→m.first=1∨m.first=2
 room:(m.stage==2)=true→(m.inns.length:Int)<2 * m.rules.innings
 most:IntKind.i64.wrap (2 * m.rules.innings)=2 * m.rules.innings∧(m.inns.length:Int)≤2 * m.rules.innings
theorem UT {m:Mat} (h:CQ m=true):MatOk m:=by
 unfold CQ kF at h
 simp only [Bool.and_eq_true,Bool.not_eq_true'] at h
 obtain ⟨⟨h1,h2,h3,h4,h5,h6,h7,h8,h9,h10⟩,h11,h12⟩:=h
 have hc:=beq_iff_eq.1 h1
 have rk:=(Dq hc).innings
 have e2:IntKind.i64.wrap (2 * m.rules.innings)=2 * m.rules.innings:=Ct (by omega) (by omega)
 rw [e2] at h5 h8
 rw [Bool.or_eq_false_iff,Bool.or_eq_false_iff] at h5
 have hn:=h5.2
 have hf1:=h5.1.1
 have hf2:=h5.1.2
 simp only [iLt,decide_eq_false_iff_not] at hn hf1 hf2
 refine ⟨hc,by omega,fun i hi=>?_,fun hs=>?_,fun hs=>?_,fun hs=>?_,e2,by omega⟩
 ·have:=LX.1 h11 i (by omega) (by omega)
  unfold KM at this
  rw [Bool.or_eq_false_iff,Bool.not_eq_false',Bool.not_eq_false',beq_iff_eq] at this
  exact this
 ·unfold YU at h12
  rw [hs,Bool.and_eq_true] at h12
  have:=h12.2
  simp only [iLt,Bool.not_true,Bool.false_or,decide_eq_true_eq] at this
  exact beq_false_of_ne (by omega)
 ·rw [beq_iff_eq.1 hs] at h6
  cases h0:m.first==0 with
  | true=>rw [h0] at h6;simp at h6
  | false =>
   rw [beq_eq_false_iff_ne] at h0
   omega
 ·rw [hs,Bool.true_and,beq_eq_false_iff_ne] at h8
  omega
theorem rA {m:Mat} (h:m.first=1∨m.first=2) (i:Int):CM m i=1∨CM m i=2:=by
 unfold CM
 cases cond (m.follow&&iLe 2 i) (i==2) (i.tmod 2==1) with
 | false=>exact h
 | true=>rcases h with h | h<;>rw [h]<;>decide
theorem nT {m:Mat} (h:MatOk m):Dl m.inns:=fun i hi=>(Pp (h.innv i hi).1).2.2
theorem Tw {F : (List AY → Option (List PV)) → List PV → Option (List PV)} {len : Nat} (enc : Nat → List AY) (ans : Nat → Option (List PV))
    (h0:∀ self,F self ((enc len).map Leaf.pv)=some [.int 1]) (h1:∀ i self,i<len→F self ((enc i).map Leaf.pv)=match ans i with | some r=>some (.int 0::r) | none=>self (enc (i+1))) :
    ∀ (k i n:Nat),i+k=len→k<n→DL F n ((enc i).map Leaf.pv)=some (NA (BI ans k i))
  | 0,i,n,hk,hn=>by
    obtain ⟨n,rfl⟩:∃ m,n=m+1:=⟨n - 1,by omega⟩
    obtain rfl:i=len:=by omega
    exact h0 _
  | k+1,i,n,hk,hn=>by
    obtain ⟨n,rfl⟩:∃ m,n=m+1:=⟨n - 1,by omega⟩
    show F _ _=_
    rw [h1 i _ (by omega)]
    simp only [BI]
    cases ans i with
    | some r=>rfl
    | none=>exact Tw enc ans h0 h1 k (i+1) n (by omega) (by omega)
theorem mY (ys:List Inn) (sd:Int) (g:Nat→List PV) (n:Nat):∀ k,k≤n→BI (fun j=>cond ((inn ys (n - 1 - j)).side==sd) (some (g (n - 1 - j))) none) k (n - k)=(MW ys sd k).map g
 | 0,_=>rfl
 | k+1,h=>by
  have ih:=mY ys sd g n k (by omega)
  have e:n - 1 - (n - (k+1))=k:=by omega
  have e2:n - (k+1)+1=n - k:=by omega
  simp only [BI,MW,e,e2,ih]
  cases (inn ys k).side==sd<;>rfl
theorem ew (xs:List Inn) (k:Nat) (s:Inn) (i:Nat) (hi:i<xs.length):inn (xs.set k s) i=(if k=i then s else inn xs i):=by
 rw [PX,PX,List.getElem?_set]
 by_cases h:k=i
 ·subst h
  rw [if_pos rfl,if_pos rfl,if_pos hi]
 ·rw [if_neg h,if_neg h]
theorem Qp {xs:List Inn} {s:Inn} (k:Nat) (h:Dl xs) (hs:s.Fit):Dl (xs.set k s):=fun i hi=>by
 rw [List.length_set] at hi
 rw [ew xs k s i hi]
 by_cases e:k=i
 ·rw [if_pos e];exact hs
 ·rw [if_neg e];exact h i hi
theorem nY {e:Ev} (h:(evS e==0)=true) (hk:(e.kind==13)=true):e.side=1∨e.side=2:=by
 have h0:=fC h
 rw [beq_iff_eq] at hk
 unfold evS at h
 rw [h0] at h
 cases h1:lc e with
 | true=>rw [h1] at h;cases h
 | false =>
  cases h2:eH e with
  | true=>rw [h1,h2] at h;cases h
  | false =>
   unfold eH at h2
   rw [Bool.or_eq_false_iff] at h2
   have h3:=h2.1
   rw [hk,show uS 13=true from rfl,Bool.and_true] at h3
   simp only [btw,iLe,Bool.not_eq_false',Bool.and_eq_true,decide_eq_true_eq] at h3
   omega
theorem AAR (xs:List Inn) (s:Inn) (i:Nat) (hi:i<xs.length+1):inn (xs++[s]) i=(if i<xs.length then inn xs i else s):=by
 rw [PX,PX]
 by_cases h:i<xs.length
 ·rw [if_pos h,List.getElem?_append_left h]
 ·have:i=xs.length:=by omega
  subst this
  rw [if_neg h,List.getElem?_append_right (Nat.le_refl _),Nat.sub_self]
  rfl
theorem yX {xs:List Inn} {s:Inn} (h:Dl xs) (hs:s.Fit):Dl (xs++[s]):=fun i hi=>by
 rw [List.length_append] at hi
 rw [AAR xs s i hi]
 by_cases e:i<xs.length
 ·rw [if_pos e];exact h i e
 ·rw [if_neg e];exact hs
theorem lw (r:Rul) (a b c:Int) (e:Ev):(Aq r (Ba r a b c).1 e).1.Fit:=by
 obtain ⟨f,h1,h2⟩:=IW r a b c
 exact KE (SO r _ e) f (by rw [h1,h2];exact Nat.zero_le _)
structure ActOk (m:Mat) (x:Mat×Int):Prop where
 rules:x.1.rules=m.rules
 fit:Dl x.1.inns
 len:x.1.inns.length≤5
 some':(x.2==0)=true→(x.1.stage==3)=true→((x.1.inns.length:Int)==0)=false
theorem A_c {m:Mat} (b:Bool) (x y:Mat×Int) (hx:ActOk m x) (hy:ActOk m y):ActOk m (cond b x y):=by cases b<;>assumption
theorem qF {m:Mat} (sd:Int) (hf:Dl m.inns):(Hn m sd).rules=m.rules∧Dl (Hn m sd).inns∧(Hn m sd).inns.length=m.inns.length∧(Hn m sd).stage=m.stage:=by
 unfold Hn
 cases h:MW m.inns sd m.inns.length with
 | none=>exact ⟨rfl,hf,rfl,rfl⟩
 | some k =>
  have hk:k<m.inns.length:=by
   have:∀ n,MW m.inns sd n=some k→k<n:=by
    intro n
    induction n with
    | zero=>intro h;cases h
    | succ n ih =>
     intro h
     unfold MW at h
     cases hq:(inn m.inns n).side==sd with
     | true=>rw [hq] at h;cases h;omega
     | false=>rw [hq] at h;have:=ih h;omega
   exact this _ h
  exact ⟨rfl,Qp k hf (AAI (hf k hk)),List.length_set,rfl⟩
theorem pT {m:Mat} (ok:MatOk m) (e:Ev):ActOk m (Gh m e):=by
 have hf:=nT ok
 have hl:=ok.len
 have self:∀ n:Int,(n==0)=false→ActOk m (m,n):=fun n hn=>⟨rfl,hf,by show m.inns.length≤5;omega,fun h=>by rw [hn] at h;cases h⟩
 unfold Gh
 refine A_c _ _ _ (A_c _ _ _ (self 1 rfl) ⟨rfl,hf,by show m.inns.length≤5;omega,fun _ h=>by cases h⟩) (A_c _ _ _ ?_ (A_c _ _ _ ?_ (A_c _ _ _ ?_ ?_)))
 ·refine A_c _ _ _ (self 1 rfl) ?_
  unfold WK
  refine A_c _ _ _ (self 1 rfl) ?_
  cases hq:(Aq m.rules (Ba m.rules (CM m (m.inns.length:Int)) (FA m (CM m (m.inns.length:Int))) (cond (CM m (m.inns.length:Int)==2) m.pen2 m.pen1)).1 e).2==0 with
  | false =>
   simp only [Bool.not_false,cond_true]
   exact self _ hq
  | true =>
   simp only [Bool.not_true,cond_false]
   exact ⟨rfl,yX hf (lw _ _ _ _ e),by simp;omega,fun _ _=>by
    show ((((m.inns++[_]).length:Nat):Int)==0)=false
    rw [List.length_append]
    exact beq_false_of_ne (by simp;omega)⟩
 ·exact A_c _ _ _ (self 1 rfl) (A_c _ _ _ (self 2 rfl) ⟨rfl,hf,by show m.inns.length≤5;omega,fun _ h=>by cases h⟩)
 ·unfold ek
  cases h3:m.stage==3 with
  | false=>exact ⟨rfl,hf,by show m.inns.length≤5;omega,fun _ h=>by cases h⟩
  | true =>
   have h0:=ok.begun h3
   have fl:=hf (lnx m.inns) (Ym h0 (by omega))
   exact ⟨rfl,Qp _ hf ⟨fl.bt,fl.bw,fl.bf,fl.bd,fl.sb⟩,by show (m.inns.set _ _).length≤5;rw [List.length_set];omega,fun _ h=>by cases h⟩
 ·cases h3:m.stage==3 with
  | false=>exact self 1 rfl
  | true =>
   have h0:=ok.begun h3
   have lv:=Pp (ok.innv (lnx m.inns) (Ym h0 (by omega))).1
   have h1:=lv.1
   have h2:=lv.2.1
   have ft:=KE (SO m.rules (Ar m) e) lv.2.2 (show (inn m.inns (lnx m.inns)).before.length+(inn m.inns (lnx m.inns)).bowlers.length≤1048575 by omega)
   simp only [Bool.not_true,cond_false,Er]
   cases hq:(Aq m.rules (Ar m) e).2==0 with
   | false =>
    simp only [Bool.not_false,Bool.not_true,cond_true,cond_false]
    exact self _ hq
   | true =>
    have fs:=Qp (lnx m.inns) hf ft
    have ln:(m.inns.set (lnx m.inns) (Aq m.rules (Ar m) e).1).length=m.inns.length:=List.length_set
    simp only [Bool.not_true,cond_false]
    cases (e.kind==13 && !(e.side==(Aq m.rules (Ar m) e).1.side)) with
    | false =>
     exact ⟨rfl,fs,by show (m.inns.set _ _).length≤5;omega,fun _ _=>by
      show ((((m.inns.set _ _).length:Nat):Int)==0)=false
      rw [ln];exact h0⟩
    | true =>
     obtain ⟨a1,a2,a3,a4⟩:=qF (m:={ m with inns:=m.inns.set (lnx m.inns) (Aq m.rules (Ar m) e).1 }) e.side fs
     exact ⟨a1,a2,by show (Hn _ _).inns.length≤5;rw [a3];show (m.inns.set _ _).length≤5;omega,fun _ _=>by
      show ((((Hn _ _).inns.length:Nat):Int)==0)=false
      rw [a3]
      show ((((m.inns.set _ _).length:Nat):Int)==0)=false
      rw [ln];exact h0⟩
end Go.Px
end
section
namespace Go.Px
set_option maxRecDepth 100000
set_option maxHeartbeats 8000000 in
theorem rZ {N:Nat} {m1 m2 m3 m4 m5 m6 m7 m9 m10 m11 m12 m14 m15 m18 m19 m20 m21 m22:Int} {m8 m16:Bool} {m0:ByteArray} {m13:Rows} {m17:List Inn} {e0 e1 e2 e3 e5 e6 e7 e8 e9 e10 e11 e13 e14 e15 e16 e18:Int} {e4 e12 e17:Bool} (hN:2097152<N) (hf:Dl m17) (hl:m17.length≤1000000) (hs:m0.size≤1048576) (h13:m13.length≤1048576):PG N [.str m0,.int m1,.int m2,.int m3,.int m4,.int m5,.int m6,.int m7,.bool m8,.int m9,.int m10,.int m11,.int m12,.rows m13,.int m14,.int m15,.bool m16,.rows (AU m17),.int m18,.int m19,.int m20,.int m21,.int m22,.int e0,.int e1,.int e2,.int e3,.bool e4,.int e5,.int e6,.int e7,.int e8,.int e9,.int e10,.int e11,.bool e12,.int e13,.int e14,.int e15,.int e16,.bool e17,.int e18]=some (Jm (C5 (⟨⟨m0,m1,m2,m3,m4,m5,m6,m7,m8,m9,m10,m11,m12,m13⟩,m14,m15,m16,m17,m18,m19,m20,m21,m22⟩:Mat) (⟨e0,e1,e2,e3,e4,e5,e6,⟨e7,e8,e9,e10,e11,e12,e13,e14,e15,e16,e17,e18⟩⟩:Ev))):=by
 show O7 (std (BH N) N) (xOf _)=_
 generalize hres:(some (Jm (C5 (⟨⟨m0,m1,m2,m3,m4,m5,m6,m7,m8,m9,m10,m11,m12,m13⟩,m14,m15,m16,m17,m18,m19,m20,m21,m22⟩:Mat) (⟨e0,e1,e2,e3,e4,e5,e6,⟨e7,e8,e9,e10,e11,e12,e13,e14,e15,e16,e17,e18⟩⟩:Ev))):Option (List PV))=RR
 simp only [O7,U0,Ur,UX,Fa,FT,KJ,Ix,ER,Es,DC,Dc,Hl,std,xOf,PXb,ai hf hN hl hs,aF hN,oE hf hN hl h13]
 subst hres;simp only [C5]
 cases hv:CQ (⟨⟨m0,m1,m2,m3,m4,m5,m6,m7,m8,m9,m10,m11,m12,m13⟩,m14,m15,m16,m17,m18,m19,m20,m21,m22⟩:Mat)
 case false=>rfl
 cases he:evS (⟨e0,e1,e2,e3,e4,e5,e6,⟨e7,e8,e9,e10,e11,e12,e13,e14,e15,e16,e17,e18⟩⟩:Ev)==0
 case false=>simp only [PXb,he];rfl
 simp only [PXb,he]
 cases h5:m14==5
 case true=>rfl
 simp only [PXb]
 have ok:=UT hv
 refine bind_ok (r:=.int (Gh (⟨⟨m0,m1,m2,m3,m4,m5,m6,m7,m8,m9,m10,m11,m12,m13⟩,m14,m15,m16,m17,m18,m19,m20,m21,m22⟩:Mat) (⟨e0,e1,e2,e3,e4,e5,e6,⟨e7,e8,e9,e10,e11,e12,e13,e14,e15,e16,e17,e18⟩⟩:Ev)).2::(Gh (⟨⟨m0,m1,m2,m3,m4,m5,m6,m7,m8,m9,m10,m11,m12,m13⟩,m14,m15,m16,m17,m18,m19,m20,m21,m22⟩:Mat) (⟨e0,e1,e2,e3,e4,e5,e6,⟨e7,e8,e9,e10,e11,e12,e13,e14,e15,e16,e17,e18⟩⟩:Ev)).1.ls) ?_ ?_
 ·unfold Gh
  cases hk1:e0==1
  case true =>
   simp only [PXb,FT,Iz]
   cases m14==1<;>cases e4<;>rfl
  cases hk2:e0==2
  case true =>
   simp only [PXb]
   cases hs2:m14==2
   case false=>rfl
   have hl2:m17.length≤1048576:=by omega
   have h304:iSm ((m17.length+1:Nat):Int) 304=true:=Dt (by omega) (by omega)
   have fb:=fun a b c=>(IW (⟨⟨m0,m1,m2,m3,m4,m5,m6,m7,m8,m9,m10,m11,m12,m13⟩,m14,m15,m16,m17,m18,m19,m20,m21,m22⟩:Mat).rules a b c).1
   have wb:∀ a b c,(Ba (⟨⟨m0,m1,m2,m3,m4,m5,m6,m7,m8,m9,m10,m11,m12,m13⟩,m14,m15,m16,m17,m18,m19,m20,m21,m22⟩:Mat).rules a b c).1.before.length+(Ba (⟨⟨m0,m1,m2,m3,m4,m5,m6,m7,m8,m9,m10,m11,m12,m13⟩,m14,m15,m16,m17,m18,m19,m20,m21,m22⟩:Mat).rules a b c).1.bowlers.length≤1000000:=fun a b c=>by
    rw [(IW (⟨⟨m0,m1,m2,m3,m4,m5,m6,m7,m8,m9,m10,m11,m12,m13⟩,m14,m15,m16,m17,m18,m19,m20,m21,m22⟩:Mat).rules a b c).2.1,(IW (⟨⟨m0,m1,m2,m3,m4,m5,m6,m7,m8,m9,m10,m11,m12,m13⟩,m14,m15,m16,m17,m18,m19,m20,m21,m22⟩:Mat).rules a b c).2.2]
    exact Nat.zero_le _
   rcases rA (m:=(⟨⟨m0,m1,m2,m3,m4,m5,m6,m7,m8,m9,m10,m11,m12,m13⟩,m14,m15,m16,m17,m18,m19,m20,m21,m22⟩:Mat)) (ok.toss hs2) (m17.length:Int) with ho | ho
   ·simp only [PXb,PXc,Cf,VA,Nat.reduceAdd,Int.reduceBEq,PXi,PXr,Inn.eta,Aa,List.length_append,List.length_cons,List.length_nil,h304,WK,Fa,Es,ER,DC,Se,YY hN hl2,WI hN hs,QP (fb _ _ _) (wb _ _ _) hN hs h13,ho,wr1,wr2,W9,XZ]
    cases (Ba (⟨⟨m0,m1,m2,m3,m4,m5,m6,m7,m8,m9,m10,m11,m12,m13⟩,m14,m15,m16,m17,m18,m19,m20,m21,m22⟩:Mat).rules 1 (FA (⟨⟨m0,m1,m2,m3,m4,m5,m6,m7,m8,m9,m10,m11,m12,m13⟩,m14,m15,m16,m17,m18,m19,m20,m21,m22⟩:Mat) 1) m18).2==0<;>try rfl
    cases (Aq (⟨⟨m0,m1,m2,m3,m4,m5,m6,m7,m8,m9,m10,m11,m12,m13⟩,m14,m15,m16,m17,m18,m19,m20,m21,m22⟩:Mat).rules (Ba (⟨⟨m0,m1,m2,m3,m4,m5,m6,m7,m8,m9,m10,m11,m12,m13⟩,m14,m15,m16,m17,m18,m19,m20,m21,m22⟩:Mat).rules 1 (FA (⟨⟨m0,m1,m2,m3,m4,m5,m6,m7,m8,m9,m10,m11,m12,m13⟩,m14,m15,m16,m17,m18,m19,m20,m21,m22⟩:Mat) 1) m18).1 (⟨e0,e1,e2,e3,e4,e5,e6,⟨e7,e8,e9,e10,e11,e12,e13,e14,e15,e16,e17,e18⟩⟩:Ev)).2==0<;>rfl
   ·simp only [PXb,PXc,Cf,VA,Nat.reduceAdd,Int.reduceBEq,PXi,PXr,Inn.eta,Aa,List.length_append,List.length_cons,List.length_nil,h304,WK,Fa,Es,ER,DC,Se,YY hN hl2,WI hN hs,QP (fb _ _ _) (wb _ _ _) hN hs h13,ho,wr1,wr2,W9,XZ]
    cases (Ba (⟨⟨m0,m1,m2,m3,m4,m5,m6,m7,m8,m9,m10,m11,m12,m13⟩,m14,m15,m16,m17,m18,m19,m20,m21,m22⟩:Mat).rules 2 (FA (⟨⟨m0,m1,m2,m3,m4,m5,m6,m7,m8,m9,m10,m11,m12,m13⟩,m14,m15,m16,m17,m18,m19,m20,m21,m22⟩:Mat) 2) m19).2==0<;>try rfl
    cases (Aq (⟨⟨m0,m1,m2,m3,m4,m5,m6,m7,m8,m9,m10,m11,m12,m13⟩,m14,m15,m16,m17,m18,m19,m20,m21,m22⟩:Mat).rules (Ba (⟨⟨m0,m1,m2,m3,m4,m5,m6,m7,m8,m9,m10,m11,m12,m13⟩,m14,m15,m16,m17,m18,m19,m20,m21,m22⟩:Mat).rules 2 (FA (⟨⟨m0,m1,m2,m3,m4,m5,m6,m7,m8,m9,m10,m11,m12,m13⟩,m14,m15,m16,m17,m18,m19,m20,m21,m22⟩:Mat) 2) m19).1 (⟨e0,e1,e2,e3,e4,e5,e6,⟨e7,e8,e9,e10,e11,e12,e13,e14,e15,e16,e17,e18⟩⟩:Ev)).2==0<;>rfl
  cases hk3:e0==12
  case true =>
   simp only [PXb]
   cases m14==4<;>cases e1==m15<;>rfl
  cases hk4:e0==16
  case true =>
   simp only [PXb,ek]
   cases h3:m14==3
   case false=>simp only [PXb,PXc,PXi,PXr,Cf,Nat.reduceAdd,Dc,Ku];rfl
   simp only [PXb,PXc,PXi,PXr,Cf,Nat.reduceAdd,Nn (ok.begun h3) hl,Dc,Ku]
   rfl
  simp only [PXb]
  cases h3:m14==3
  case false=>rfl
  have h0:=ok.begun h3
  have lv:=Pp (ok.innv (lnx m17) (Ym h0 hl)).1
  have fl:(inn m17 (IntKind.i64.wrap ((m17.length:Int) - 1)).toNat).Fit:=lv.2.2
  have wl:(inn m17 (IntKind.i64.wrap ((m17.length:Int) - 1)).toNat).before.length+(inn m17 (IntKind.i64.wrap ((m17.length:Int) - 1)).toNat).bowlers.length≤1000000:=by
   have h1:=lv.1
   have h2:=lv.2.1
   change (inn m17 (IntKind.i64.wrap ((m17.length:Int) - 1)).toNat).bowlers.length≤11 at h1
   change (inn m17 (IntKind.i64.wrap ((m17.length:Int) - 1)).toNat).before.length≤11 at h2
   omega
  have f1:=KE (SO (⟨⟨m0,m1,m2,m3,m4,m5,m6,m7,m8,m9,m10,m11,m12,m13⟩,m14,m15,m16,m17,m18,m19,m20,m21,m22⟩:Mat).rules (inn m17 (IntKind.i64.wrap ((m17.length:Int) - 1)).toNat) (⟨e0,e1,e2,e3,e4,e5,e6,⟨e7,e8,e9,e10,e11,e12,e13,e14,e15,e16,e17,e18⟩⟩:Ev)) fl (by omega)
  simp only [PXb,PXc,PXi,PXr,Aa,Inn.eta,Cf,Nat.reduceAdd,List.length_set,Nn h0 hl,DC,QP fl wl hN hs h13,Er,Ar,lnx]
  generalize hX:Aq (⟨⟨m0,m1,m2,m3,m4,m5,m6,m7,m8,m9,m10,m11,m12,m13⟩,m14,m15,m16,m17,m18,m19,m20,m21,m22⟩:Mat).rules (inn m17 (IntKind.i64.wrap ((m17.length:Int) - 1)).toNat) (⟨e0,e1,e2,e3,e4,e5,e6,⟨e7,e8,e9,e10,e11,e12,e13,e14,e15,e16,e17,e18⟩⟩:Ev)=X at f1
  have fy:=Qp (IntKind.i64.wrap ((m17.length:Int) - 1)).toNat hf f1
  generalize hy:m17.set (IntKind.i64.wrap ((m17.length:Int) - 1)).toNat X.1=ys at fy
  have ly:ys.length=m17.length:=by rw [← hy,List.length_set]
  cases X.2==0<;>try rfl
  cases h13k:e0==13
  case false=>rfl
  cases hsd:e1==X.1.side
  case true=>rfl
  simp only [PXb,Option.bind_assoc]
  have e0w:IntKind.i64.wrap ((m17.length:Int) - 1)=(m17.length:Int) - 1 - ((0:Nat):Int):=by
   rw [beq_eq_false_iff_ne] at h0
   rw [Ct (by omega) (by omega)];omega
  rw [e0w]
  have hside:=nY (e:=(⟨e0,e1,e2,e3,e4,e5,e6,⟨e7,e8,e9,e10,e11,e12,e13,e14,e15,e16,e17,e18⟩⟩:Ev)) he h13k
  simp only at hside
  refine AM (Tw (len:=m17.length) (fun j=>[.int ((m17.length:Int) - 1 - (j:Int))]) (fun j=>cond ((inn ys (m17.length - 1 - j)).side==e1) (some [PV.str m0,PV.int m1,PV.int m2,PV.int m3,PV.int m4,PV.int m5,PV.int m6,PV.int m7,PV.bool m8,PV.int m9,PV.int m10,PV.int m11,PV.int m12,PV.rows m13,PV.int m14,PV.int m15,PV.bool m16,PV.rows (AU (ys.set (m17.length - 1 - j) (JQ (inn ys (m17.length - 1 - j))))),PV.int m18,PV.int m19,PV.int m20,PV.int m21,PV.int m22]) none) ?_ ?_ m17.length 0 N (by omega) (by omega)) ?_
  ·intro self
   have q1:iLe 0 ((m17.length:Int) - 1 - (m17.length:Int))=false:=by simp only [iLe,decide_eq_false_iff_not];omega
   simp only [PXb,q1]
  ·intro i self hi
   have q1:iLe 0 ((m17.length:Int) - 1 - (i:Int))=true:=by simp only [iLe,decide_eq_true_eq];omega
   have q2:iIn ((m17.length:Int) - 1 - (i:Int)) (m17.length:Int)=true:=by simp only [iIn,decide_eq_true_eq];omega
   have q3:((m17.length:Int) - 1 - (i:Int)).toNat=m17.length - 1 - i:=by omega
   have q4:IntKind.i64.wrap ((m17.length:Int) - 1 - (i:Int) - 1)=(m17.length:Int) - 1 - ((i+1:Nat):Int):=by rw [Ct (by omega) (by omega)];omega
   have q5:=fy (m17.length - 1 - i) (by omega)
   simp only [PXb,PXc,q1,q2,q3,q4,Hl,S1 q5,PXm]
   cases (inn ys (m17.length - 1 - i)).side==e1<;>rfl
  ·have hfa:=mY ys e1 (fun k=>[PV.str m0,PV.int m1,PV.int m2,PV.int m3,PV.int m4,PV.int m5,PV.int m6,PV.int m7,PV.bool m8,PV.int m9,PV.int m10,PV.int m11,PV.int m12,PV.rows m13,PV.int m14,PV.int m15,PV.bool m16,PV.rows (AU (ys.set k (JQ (inn ys k)))),PV.int m18,PV.int m19,PV.int m20,PV.int m21,PV.int m22]) m17.length m17.length (Nat.le_refl _)
   rw [Nat.sub_self] at hfa
   rw [hfa]
   unfold Hn
   simp only [ly]
   cases MW ys e1 m17.length with
   | some k=>rfl
   | none =>
    rcases hside with h | h<;>subst h
    ·simp only [Option.map_none,NA,PXb,PXc,Cf,Int.reduceBEq,wr1,W9]
     rfl
    ·simp only [Option.map_none,NA,PXb,PXc,Cf,Int.reduceBEq,wr2,XZ]
     rfl
 ·have ak:=pT ok (⟨e0,e1,e2,e3,e4,e5,e6,⟨e7,e8,e9,e10,e11,e12,e13,e14,e15,e16,e17,e18⟩⟩:Ev)
  generalize Gh (⟨⟨m0,m1,m2,m3,m4,m5,m6,m7,m8,m9,m10,m11,m12,m13⟩,m14,m15,m16,m17,m18,m19,m20,m21,m22⟩:Mat) (⟨e0,e1,e2,e3,e4,e5,e6,⟨e7,e8,e9,e10,e11,e12,e13,e14,e15,e16,e17,e18⟩⟩:Ev)=A at ak
  obtain ⟨⟨⟨a0,a1,a2,a3,a4,a5,a6,a7,a8,a9,a10,a11,a12,a13⟩,a14,a15,a16,a17,a18,a19,a20,a21,a22⟩,l⟩:=A
  obtain ⟨k1,k2,k3,k4⟩:=ak
  simp only at k1 k2 k3 k4
  have hl5:a17.length≤1048576:=by omega
  have hs5:a0.size≤1048576:=by
   have:=congrArg Rul.name k1
   simp only at this
   rw [this];exact hs
  simp only [PXb,PXc,PXk,PXi,Cf,Nat.reduceAdd]
  cases hl0:l==0
  case false=>rfl
  simp only [PXb,B5]
  cases h3:a14==3
  case false=>rfl
  have h0:=k4 hl0 h3
  have li:=Nn h0 (show a17.length≤1000000 by omega)
  simp only [PXb,PXc,PXi,li]
  cases he2:(inn a17 (IntKind.i64.wrap ((a17.length:Int) - 1)).toNat).ending==0
  case true=>simp only [PXb,Ar,lnx,he2]
  simp only [PXb,PXc,PXi,Ar,lnx,he2,KJ,FT,Ix,SY hN hl5,Iz,ki k2 hN (show a17.length≤1000000 by omega) hs5]
  unfold Nc
  simp only [Ar,lnx]
  simp only [BB,Ar,lnx]
  cases hq1:((a17.length:Int)==IntKind.i64.wrap (2 * a2))
  case true=>rfl
  cases hq2:((a17.length:Int)==3)
  case true =>
   simp only [PXb]
   cases iLt (Gp a17 (inn a17 (IntKind.i64.wrap ((a17.length:Int) - 1)).toNat).side a17.length) (Gp a17 (BC (inn a17 (IntKind.i64.wrap ((a17.length:Int) - 1)).toNat).side) a17.length)
   case true=>rfl
   simp only [PXb]
   cases ((a17.length:Int)==2)&&iLt 0 a10&&iLe a10 (IntKind.i64.wrap (Gp a17 a15 a17.length - Gp a17 (BC a15) a17.length))<;>rfl
  simp only [PXb]
  cases ((a17.length:Int)==2)&&iLt 0 a10&&iLe a10 (IntKind.i64.wrap (Gp a17 a15 a17.length - Gp a17 (BC a15) a17.length))<;>rfl
end Go.Px
end
section
namespace Go.Px
set_option maxRecDepth 100000
def UJ (m:Mat):Int:=cond (!CQ m) 0 (cond (m.stage==3) (Ar m).side (cond (m.stage==2) (CM m (m.inns.length:Int)) 0))
theorem pB {N:Nat} {m1 m2 m3 m4 m5 m6 m7 m9 m10 m11 m12 m14 m15 m18 m19 m20 m21 m22:Int} {m8 m16:Bool} {m0:ByteArray} {m13:Rows} {m17:List Inn} (hf:Dl m17) (hN:2097152<N) (hl:m17.length≤1000000) (hs:m0.size≤1048576):JD N [.str m0,.int m1,.int m2,.int m3,.int m4,.int m5,.int m6,.int m7,.bool m8,.int m9,.int m10,.int m11,.int m12,.rows m13,.int m14,.int m15,.bool m16,.rows (AU m17),.int m18,.int m19,.int m20,.int m21,.int m22]=some [.int (UJ (⟨⟨m0,m1,m2,m3,m4,m5,m6,m7,m8,m9,m10,m11,m12,m13⟩,m14,m15,m16,m17,m18,m19,m20,m21,m22⟩:Mat))]:=by
 show I8 (std (Cl N) N) (xOf _)=_
 generalize hres:(some [.int (UJ (⟨⟨m0,m1,m2,m3,m4,m5,m6,m7,m8,m9,m10,m11,m12,m13⟩,m14,m15,m16,m17,m18,m19,m20,m21,m22⟩:Mat))]:Option (List PV))=RR
 simp only [I8,Vh,MS,KU,std,xOf,PXb,Wq hf hN hl hs]
 subst hres;simp only [UJ]
 cases hv:CQ (⟨⟨m0,m1,m2,m3,m4,m5,m6,m7,m8,m9,m10,m11,m12,m13⟩,m14,m15,m16,m17,m18,m19,m20,m21,m22⟩:Mat)
 case false=>rfl
 have ok:=UT hv
 simp only [PXb]
 cases h3:m14==3
 case true=>simp only [PXb,PXi,MS,Ts (ok.begun h3) hl,Ar,PXm]
 cases h2:m14==2
 case false=>rfl
 have hr:=ok.room h2
 have rk:=(Dq ok.code).innings
 simp only at hr rk
 have hi3:0≤(m17.length:Int)∧(m17.length:Int)≤3:=by omega
 simp only [PXb,PXi,KU,dj hi3]
theorem xZ {m:Mat} (ok:MatOk m) (h2:(m.stage==2)=true) (sd:Int):FA m sd=cond (IntKind.i64.wrap ((m.inns.length:Int)+1)==IntKind.i64.wrap (2 * m.rules.innings)) (IntKind.i64.wrap (IntKind.i64.wrap (BB m (BC sd) - BB m sd)+1)) 0:=by
 have hr:=ok.room h2
 have hm:=ok.most.1
 have hl:=ok.len
 unfold FA
 rw [hm,Ct (by omega) (by omega)]
 cases hq:((m.inns.length:Int)+1==2 * m.rules.innings) with
 | true =>
  rw [beq_iff_eq] at hq
  rw [show iLt ((m.inns.length:Int)+1) (2 * m.rules.innings)=false by simp only [iLt,decide_eq_false_iff_not];omega]
  rfl
 | false =>
  rw [beq_eq_false_iff_ne] at hq
  rw [show iLt ((m.inns.length:Int)+1) (2 * m.rules.innings)=true by simp only [iLt,decide_eq_true_eq];omega]
  rfl
set_option maxHeartbeats 4000000 in
theorem vZ {N:Nat} {m1 m2 m3 m4 m5 m6 m7 m9 m10 m11 m12 m14 m15 m18 m19 m20 m21 m22:Int} {m8 m16:Bool} {m0:ByteArray} {m13:Rows} {m17:List Inn} {e0 e1 e2 e3 e5 e6 e7 e8 e9 e10 e11 e13 e14 e15 e16 e18:Int} {e4 e12 e17:Bool} (hN:2097152<N) (hf:Dl m17) (hl:m17.length≤1000000) (hs:m0.size≤1048576) (h13:m13.length≤1048576) (ok:MatOk (⟨⟨m0,m1,m2,m3,m4,m5,m6,m7,m8,m9,m10,m11,m12,m13⟩,m14,m15,m16,m17,m18,m19,m20,m21,m22⟩:Mat)) (hv:CQ (⟨⟨m0,m1,m2,m3,m4,m5,m6,m7,m8,m9,m10,m11,m12,m13⟩,m14,m15,m16,m17,m18,m19,m20,m21,m22⟩:Mat)=true) (hs2:(m14==2)=true):Pg N [.str m0,.int m1,.int m2,.int m3,.int m4,.int m5,.int m6,.int m7,.bool m8,.int m9,.int m10,.int m11,.int m12,.rows m13,.int m14,.int m15,.bool m16,.rows (AU m17),.int m18,.int m19,.int m20,.int m21,.int m22,.int e0,.int e1,.int e2,.int e3,.bool e4,.int e5,.int e6,.int e7,.int e8,.int e9,.int e10,.int e11,.bool e12,.int e13,.int e14,.int e15,.int e16,.bool e17,.int e18]=some (Jm (WK (⟨⟨m0,m1,m2,m3,m4,m5,m6,m7,m8,m9,m10,m11,m12,m13⟩,m14,m15,m16,m17,m18,m19,m20,m21,m22⟩:Mat) (⟨e0,e1,e2,e3,e4,e5,e6,⟨e7,e8,e9,e10,e11,e12,e13,e14,e15,e16,e17,e18⟩⟩:Ev))):=by
 show OP (std (Cv N) N) (xOf _)=_
 have hl2:m17.length≤1048576:=by omega
 have h304:iSm ((m17.length+1:Nat):Int) 304=true:=Dt (by omega) (by omega)
 have fb:=fun a b c=>(IW (⟨⟨m0,m1,m2,m3,m4,m5,m6,m7,m8,m9,m10,m11,m12,m13⟩,m14,m15,m16,m17,m18,m19,m20,m21,m22⟩:Mat).rules a b c).1
 have wb:∀ a b c,(Ba (⟨⟨m0,m1,m2,m3,m4,m5,m6,m7,m8,m9,m10,m11,m12,m13⟩,m14,m15,m16,m17,m18,m19,m20,m21,m22⟩:Mat).rules a b c).1.before.length+(Ba (⟨⟨m0,m1,m2,m3,m4,m5,m6,m7,m8,m9,m10,m11,m12,m13⟩,m14,m15,m16,m17,m18,m19,m20,m21,m22⟩:Mat).rules a b c).1.bowlers.length≤1000000:=fun a b c=>by
  rw [(IW (⟨⟨m0,m1,m2,m3,m4,m5,m6,m7,m8,m9,m10,m11,m12,m13⟩,m14,m15,m16,m17,m18,m19,m20,m21,m22⟩:Mat).rules a b c).2.1,(IW (⟨⟨m0,m1,m2,m3,m4,m5,m6,m7,m8,m9,m10,m11,m12,m13⟩,m14,m15,m16,m17,m18,m19,m20,m21,m22⟩:Mat).rules a b c).2.2]
  exact Nat.zero_le _
 have hb:UJ (⟨⟨m0,m1,m2,m3,m4,m5,m6,m7,m8,m9,m10,m11,m12,m13⟩,m14,m15,m16,m17,m18,m19,m20,m21,m22⟩:Mat)=CM (⟨⟨m0,m1,m2,m3,m4,m5,m6,m7,m8,m9,m10,m11,m12,m13⟩,m14,m15,m16,m17,m18,m19,m20,m21,m22⟩:Mat) (m17.length:Int):=by
  unfold UJ
  rw [hv]
  have h3:(m14==3)=false:=by
   rw [beq_iff_eq] at hs2
   rw [hs2];rfl
  simp only [PXb,h3,hs2]
 have ht:=fun sd=>xZ ok hs2 sd
 simp only at ht
 simp only [OP,IR,IU,Ww,IG,JV,std,xOf,PXb,pB hf hN hl hs,hb]
 rcases rA (m:=(⟨⟨m0,m1,m2,m3,m4,m5,m6,m7,m8,m9,m10,m11,m12,m13⟩,m14,m15,m16,m17,m18,m19,m20,m21,m22⟩:Mat)) (ok.toss hs2) (m17.length:Int) with ho | ho
 ·simp only [PXb,PXc,ho,wr1,wr2,W9,XZ,Cf,VA,Nat.reduceAdd,Int.reduceBEq,WK,ht,PXi,IR,IU,Gn,Lq hN hl2]
  generalize hT:cond (IntKind.i64.wrap ((m17.length:Int)+1)==IntKind.i64.wrap (2 * m2)) (IntKind.i64.wrap (IntKind.i64.wrap (BB (⟨⟨m0,m1,m2,m3,m4,m5,m6,m7,m8,m9,m10,m11,m12,m13⟩,m14,m15,m16,m17,m18,m19,m20,m21,m22⟩:Mat) (BC 1) - BB (⟨⟨m0,m1,m2,m3,m4,m5,m6,m7,m8,m9,m10,m11,m12,m13⟩,m14,m15,m16,m17,m18,m19,m20,m21,m22⟩:Mat) 1)+1)) 0=T
  refine bind_ok (r:=[.int T]) (by subst hT;cases IntKind.i64.wrap ((m17.length:Int)+1)==IntKind.i64.wrap (2 * m2)<;>rfl) ?_
  simp only [PXb,PXc,PXi,PXr,Inn.eta,Aa,List.length_append,List.length_cons,List.length_nil,h304,Cf,VA,Nat.reduceAdd,Int.reduceBEq,IG,JV,gM hN hs,Zo (fb _ _ _) (wb _ _ _) hN hs h13]
  cases (Ba (⟨⟨m0,m1,m2,m3,m4,m5,m6,m7,m8,m9,m10,m11,m12,m13⟩,m14,m15,m16,m17,m18,m19,m20,m21,m22⟩:Mat).rules 1 T m18).2==0<;>try rfl
  cases (Aq (⟨⟨m0,m1,m2,m3,m4,m5,m6,m7,m8,m9,m10,m11,m12,m13⟩,m14,m15,m16,m17,m18,m19,m20,m21,m22⟩:Mat).rules (Ba (⟨⟨m0,m1,m2,m3,m4,m5,m6,m7,m8,m9,m10,m11,m12,m13⟩,m14,m15,m16,m17,m18,m19,m20,m21,m22⟩:Mat).rules 1 T m18).1 (⟨e0,e1,e2,e3,e4,e5,e6,⟨e7,e8,e9,e10,e11,e12,e13,e14,e15,e16,e17,e18⟩⟩:Ev)).2==0<;>rfl
 ·simp only [PXb,PXc,ho,wr1,wr2,W9,XZ,Cf,VA,Nat.reduceAdd,Int.reduceBEq,WK,ht,PXi,IR,IU,Gn,Lq hN hl2]
  generalize hT:cond (IntKind.i64.wrap ((m17.length:Int)+1)==IntKind.i64.wrap (2 * m2)) (IntKind.i64.wrap (IntKind.i64.wrap (BB (⟨⟨m0,m1,m2,m3,m4,m5,m6,m7,m8,m9,m10,m11,m12,m13⟩,m14,m15,m16,m17,m18,m19,m20,m21,m22⟩:Mat) (BC 2) - BB (⟨⟨m0,m1,m2,m3,m4,m5,m6,m7,m8,m9,m10,m11,m12,m13⟩,m14,m15,m16,m17,m18,m19,m20,m21,m22⟩:Mat) 2)+1)) 0=T
  refine bind_ok (r:=[.int T]) (by subst hT;cases IntKind.i64.wrap ((m17.length:Int)+1)==IntKind.i64.wrap (2 * m2)<;>rfl) ?_
  simp only [PXb,PXc,PXi,PXr,Inn.eta,Aa,List.length_append,List.length_cons,List.length_nil,h304,Cf,VA,Nat.reduceAdd,Int.reduceBEq,IG,JV,gM hN hs,Zo (fb _ _ _) (wb _ _ _) hN hs h13]
  cases (Ba (⟨⟨m0,m1,m2,m3,m4,m5,m6,m7,m8,m9,m10,m11,m12,m13⟩,m14,m15,m16,m17,m18,m19,m20,m21,m22⟩:Mat).rules 2 T m19).2==0<;>try rfl
  cases (Aq (⟨⟨m0,m1,m2,m3,m4,m5,m6,m7,m8,m9,m10,m11,m12,m13⟩,m14,m15,m16,m17,m18,m19,m20,m21,m22⟩:Mat).rules (Ba (⟨⟨m0,m1,m2,m3,m4,m5,m6,m7,m8,m9,m10,m11,m12,m13⟩,m14,m15,m16,m17,m18,m19,m20,m21,m22⟩:Mat).rules 2 T m19).1 (⟨e0,e1,e2,e3,e4,e5,e6,⟨e7,e8,e9,e10,e11,e12,e13,e14,e15,e16,e17,e18⟩⟩:Ev)).2==0<;>rfl
end Go.Px
end
section
namespace Go.Px
set_option maxRecDepth 100000
set_option maxHeartbeats 8000000 in
theorem vn {N:Nat} {m1 m2 m3 m4 m5 m6 m7 m9 m10 m11 m12 m14 m15 m18 m19 m20 m21 m22:Int} {m8 m16:Bool} {m0:ByteArray} {m13:Rows} {m17:List Inn} {e0 e1 e2 e3 e5 e6 e7 e8 e9 e10 e11 e13 e14 e15 e16 e18:Int} {e4 e12 e17:Bool} (hN:2097152<N) (hf:Dl m17) (hl:m17.length≤1000000) (hs:m0.size≤1048576) (h13:m13.length≤1048576) (ok:MatOk (⟨⟨m0,m1,m2,m3,m4,m5,m6,m7,m8,m9,m10,m11,m12,m13⟩,m14,m15,m16,m17,m18,m19,m20,m21,m22⟩:Mat)) (he:(evS (⟨e0,e1,e2,e3,e4,e5,e6,⟨e7,e8,e9,e10,e11,e12,e13,e14,e15,e16,e17,e18⟩⟩:Ev)==0)=true) (h3:(m14==3)=true):OQ N [.str m0,.int m1,.int m2,.int m3,.int m4,.int m5,.int m6,.int m7,.bool m8,.int m9,.int m10,.int m11,.int m12,.rows m13,.int m14,.int m15,.bool m16,.rows (AU m17),.int m18,.int m19,.int m20,.int m21,.int m22,.int e0,.int e1,.int e2,.int e3,.bool e4,.int e5,.int e6,.int e7,.int e8,.int e9,.int e10,.int e11,.bool e12,.int e13,.int e14,.int e15,.int e16,.bool e17,.int e18]=some (Jm (Er (⟨⟨m0,m1,m2,m3,m4,m5,m6,m7,m8,m9,m10,m11,m12,m13⟩,m14,m15,m16,m17,m18,m19,m20,m21,m22⟩:Mat) (⟨e0,e1,e2,e3,e4,e5,e6,⟨e7,e8,e9,e10,e11,e12,e13,e14,e15,e16,e17,e18⟩⟩:Ev))):=by
 show Pq (std (FJ N) N) (xOf _)=_
 simp only [Pq,QG,L2,std,xOf,PXb]
 have h0:=ok.begun h3
 have lv:=Pp (ok.innv (lnx m17) (Ym h0 hl)).1
 have fl:(inn m17 (IntKind.i64.wrap ((m17.length:Int) - 1)).toNat).Fit:=lv.2.2
 have wl:(inn m17 (IntKind.i64.wrap ((m17.length:Int) - 1)).toNat).before.length+(inn m17 (IntKind.i64.wrap ((m17.length:Int) - 1)).toNat).bowlers.length≤1000000:=by
  have h1:=lv.1
  have h2:=lv.2.1
  change (inn m17 (IntKind.i64.wrap ((m17.length:Int) - 1)).toNat).bowlers.length≤11 at h1
  change (inn m17 (IntKind.i64.wrap ((m17.length:Int) - 1)).toNat).before.length≤11 at h2
  omega
 have f1:=KE (SO (⟨⟨m0,m1,m2,m3,m4,m5,m6,m7,m8,m9,m10,m11,m12,m13⟩,m14,m15,m16,m17,m18,m19,m20,m21,m22⟩:Mat).rules (inn m17 (IntKind.i64.wrap ((m17.length:Int) - 1)).toNat) (⟨e0,e1,e2,e3,e4,e5,e6,⟨e7,e8,e9,e10,e11,e12,e13,e14,e15,e16,e17,e18⟩⟩:Ev)) fl (by omega)
 simp only [PXb,PXc,PXi,PXr,Aa,Inn.eta,Cf,Nat.reduceAdd,List.length_set,Nn h0 hl,QG,Zo fl wl hN hs h13,Er,Ar,lnx]
 generalize hX:Aq (⟨⟨m0,m1,m2,m3,m4,m5,m6,m7,m8,m9,m10,m11,m12,m13⟩,m14,m15,m16,m17,m18,m19,m20,m21,m22⟩:Mat).rules (inn m17 (IntKind.i64.wrap ((m17.length:Int) - 1)).toNat) (⟨e0,e1,e2,e3,e4,e5,e6,⟨e7,e8,e9,e10,e11,e12,e13,e14,e15,e16,e17,e18⟩⟩:Ev)=X at f1
 have fy:=Qp (IntKind.i64.wrap ((m17.length:Int) - 1)).toNat hf f1
 generalize hy:m17.set (IntKind.i64.wrap ((m17.length:Int) - 1)).toNat X.1=ys at fy
 have ly:ys.length=m17.length:=by rw [← hy,List.length_set]
 cases X.2==0<;>try rfl
 cases h13k:e0==13
 case false=>rfl
 cases hsd:e1==X.1.side
 case true=>rfl
 simp only [PXb,Option.bind_assoc]
 have e0w:IntKind.i64.wrap ((m17.length:Int) - 1)=(m17.length:Int) - 1 - ((0:Nat):Int):=by
  rw [beq_eq_false_iff_ne] at h0
  rw [Ct (by omega) (by omega)];omega
 rw [e0w]
 have hside:=nY (e:=(⟨e0,e1,e2,e3,e4,e5,e6,⟨e7,e8,e9,e10,e11,e12,e13,e14,e15,e16,e17,e18⟩⟩:Ev)) he h13k
 simp only at hside
 refine AM (Tw (len:=m17.length) (fun j=>[.int ((m17.length:Int) - 1 - (j:Int))]) (fun j=>cond ((inn ys (m17.length - 1 - j)).side==e1) (some [PV.int 0,PV.str m0,PV.int m1,PV.int m2,PV.int m3,PV.int m4,PV.int m5,PV.int m6,PV.int m7,PV.bool m8,PV.int m9,PV.int m10,PV.int m11,PV.int m12,PV.rows m13,PV.int m14,PV.int m15,PV.bool m16,PV.rows (AU (ys.set (m17.length - 1 - j) (JQ (inn ys (m17.length - 1 - j))))),PV.int m18,PV.int m19,PV.int m20,PV.int m21,PV.int m22]) none) ?_ ?_ m17.length 0 N (by omega) (by omega)) ?_
 ·intro self
  have q1:iLe 0 ((m17.length:Int) - 1 - (m17.length:Int))=false:=by simp only [iLe,decide_eq_false_iff_not];omega
  simp only [PXb,q1]
 ·intro i self hi
  have q1:iLe 0 ((m17.length:Int) - 1 - (i:Int))=true:=by simp only [iLe,decide_eq_true_eq];omega
  have q2:iIn ((m17.length:Int) - 1 - (i:Int)) (m17.length:Int)=true:=by simp only [iIn,decide_eq_true_eq];omega
  have q3:((m17.length:Int) - 1 - (i:Int)).toNat=m17.length - 1 - i:=by omega
  have q4:IntKind.i64.wrap ((m17.length:Int) - 1 - (i:Int) - 1)=(m17.length:Int) - 1 - ((i+1:Nat):Int):=by rw [Ct (by omega) (by omega)];omega
  have q5:=fy (m17.length - 1 - i) (by omega)
  simp only [PXb,PXc,q1,q2,q3,q4,L2,aU q5,PXm]
  cases (inn ys (m17.length - 1 - i)).side==e1<;>rfl
 ·have hfa:=mY ys e1 (fun k=>[PV.int 0,PV.str m0,PV.int m1,PV.int m2,PV.int m3,PV.int m4,PV.int m5,PV.int m6,PV.int m7,PV.bool m8,PV.int m9,PV.int m10,PV.int m11,PV.int m12,PV.rows m13,PV.int m14,PV.int m15,PV.bool m16,PV.rows (AU (ys.set k (JQ (inn ys k)))),PV.int m18,PV.int m19,PV.int m20,PV.int m21,PV.int m22]) m17.length m17.length (Nat.le_refl _)
  rw [Nat.sub_self] at hfa
  rw [hfa]
  unfold Hn
  simp only [ly]
  cases MW ys e1 m17.length with
  | some k=>rfl
  | none =>
   rcases hside with h | h<;>subst h
   ·simp only [Option.map_none,NA,PXb,PXc,Cf,Int.reduceBEq,wr1,W9]
    rfl
   ·simp only [Option.map_none,NA,PXb,PXc,Cf,Int.reduceBEq,wr2,XZ]
    rfl
set_option maxHeartbeats 4000000 in
theorem xo {N:Nat} {m1 m2 m3 m4 m5 m6 m7 m9 m10 m11 m12 m14 m15 m18 m19 m20 m21 m22:Int} {m8 m16:Bool} {m0:ByteArray} {m13:Rows} {m17:List Inn} {e0 e1 e2 e3 e5 e6 e7 e8 e9 e10 e11 e13 e14 e15 e16 e18:Int} {e4 e12 e17:Bool} (hN:2097152<N) (hf:Dl m17) (hl:m17.length≤1000000) (hs:m0.size≤1048576) (h13:m13.length≤1048576) (ok:MatOk (⟨⟨m0,m1,m2,m3,m4,m5,m6,m7,m8,m9,m10,m11,m12,m13⟩,m14,m15,m16,m17,m18,m19,m20,m21,m22⟩:Mat)) (hv:CQ (⟨⟨m0,m1,m2,m3,m4,m5,m6,m7,m8,m9,m10,m11,m12,m13⟩,m14,m15,m16,m17,m18,m19,m20,m21,m22⟩:Mat)=true) (he:(evS (⟨e0,e1,e2,e3,e4,e5,e6,⟨e7,e8,e9,e10,e11,e12,e13,e14,e15,e16,e17,e18⟩⟩:Ev)==0)=true):Rz N [.str m0,.int m1,.int m2,.int m3,.int m4,.int m5,.int m6,.int m7,.bool m8,.int m9,.int m10,.int m11,.int m12,.rows m13,.int m14,.int m15,.bool m16,.rows (AU m17),.int m18,.int m19,.int m20,.int m21,.int m22,.int e0,.int e1,.int e2,.int e3,.bool e4,.int e5,.int e6,.int e7,.int e8,.int e9,.int e10,.int e11,.bool e12,.int e13,.int e14,.int e15,.int e16,.bool e17,.int e18]=some (Jm (Gh (⟨⟨m0,m1,m2,m3,m4,m5,m6,m7,m8,m9,m10,m11,m12,m13⟩,m14,m15,m16,m17,m18,m19,m20,m21,m22⟩:Mat) (⟨e0,e1,e2,e3,e4,e5,e6,⟨e7,e8,e9,e10,e11,e12,e13,e14,e15,e16,e17,e18⟩⟩:Ev))):=by
 show R9 (std (E2 N) N) (xOf _)=_
 simp only [R9,QE,SE,Rw,std,xOf,PXb]
 unfold Gh
 cases hk1:e0==1
 case true =>
  simp only [PXb,QE,Gn]
  cases m14==1<;>cases e4<;>rfl
 cases hk2:e0==2
 case true =>
  simp only [PXb]
  cases hs2:m14==2
  case false=>rfl
  simp only [PXb,SE,vZ hN hf hl hs h13 ok hv hs2]
  rfl
 cases hk3:e0==12
 case true =>
  simp only [PXb]
  cases m14==4<;>cases e1==m15<;>rfl
 cases hk4:e0==16
 case true =>
  simp only [PXb,ek,YM]
  cases h3:m14==3
  case false =>
   simp only [PXb,PXc,PXi,PXr,Cf,Nat.reduceAdd]
   cases m3==0<;>rfl
  simp only [PXb,PXc,PXi,PXr,Cf,Nat.reduceAdd,Nn (ok.begun h3) hl]
  cases m3==0<;>rfl
 simp only [PXb]
 cases h3:m14==3
 case false=>rfl
 simp only [PXb,Rw,vn hN hf hl hs h13 ok he h3]
 rfl
theorem qw {N:Nat} {m1 m2 m3 m4 m5 m6 m7 m9 m10 m11 m12 m14 m15 m18 m19 m20 m21 m22:Int} {m8 m16:Bool} {m0:ByteArray} {m13:Rows} {m17:List Inn} (hf:Dl m17) (hN:2097152<N) (hl:m17.length≤1000000) (hs:m0.size≤1048576) (h0:((m17.length:Int)==0)=false):Kn N [.str m0,.int m1,.int m2,.int m3,.int m4,.int m5,.int m6,.int m7,.bool m8,.int m9,.int m10,.int m11,.int m12,.rows m13,.int m14,.int m15,.bool m16,.rows (AU m17),.int m18,.int m19,.int m20,.int m21,.int m22]=some (Nc (⟨⟨m0,m1,m2,m3,m4,m5,m6,m7,m8,m9,m10,m11,m12,m13⟩,m14,m15,m16,m17,m18,m19,m20,m21,m22⟩:Mat)).ls:=by
 show KY (std (Cc N) N) (xOf _)=_
 have hl5:m17.length≤1048576:=by omega
 simp only [KY,Yd,XW,Xc,VC,std,xOf,PXb,Ts h0 hl,Gn,Lq hN hl5,oJ hf hN hl hs,PXi]
 unfold Nc
 simp only [BB,Ar,lnx,PXm]
 cases hq1:((m17.length:Int)==IntKind.i64.wrap (2 * m2))
 case true=>rfl
 cases hq2:((m17.length:Int)==3)
 case true =>
  simp only [PXb]
  cases iLt (Gp m17 (inn m17 (IntKind.i64.wrap ((m17.length:Int) - 1)).toNat).side m17.length) (Gp m17 (BC (inn m17 (IntKind.i64.wrap ((m17.length:Int) - 1)).toNat).side) m17.length)
  case true=>rfl
  simp only [PXb]
  cases ((m17.length:Int)==2)<;>cases iLt 0 m10<;>try rfl
  simp only [PXb]
  cases iLe m10 (IntKind.i64.wrap (Gp m17 m15 m17.length - Gp m17 (BC m15) m17.length))<;>rfl
 simp only [PXb]
 cases ((m17.length:Int)==2)<;>cases iLt 0 m10<;>try rfl
 simp only [PXb]
 cases iLe m10 (IntKind.i64.wrap (Gp m17 m15 m17.length - Gp m17 (BC m15) m17.length))<;>rfl
set_option maxHeartbeats 4000000 in
theorem wM {N:Nat} {m1 m2 m3 m4 m5 m6 m7 m9 m10 m11 m12 m14 m15 m18 m19 m20 m21 m22:Int} {m8 m16:Bool} {m0:ByteArray} {m13:Rows} {m17:List Inn} {e0 e1 e2 e3 e5 e6 e7 e8 e9 e10 e11 e13 e14 e15 e16 e18:Int} {e4 e12 e17:Bool} (hN:2097152<N) (hf:Dl m17) (hl:m17.length≤1000000) (hs:m0.size≤1048576) (h13:m13.length≤1048576):OS N [.str m0,.int m1,.int m2,.int m3,.int m4,.int m5,.int m6,.int m7,.bool m8,.int m9,.int m10,.int m11,.int m12,.rows m13,.int m14,.int m15,.bool m16,.rows (AU m17),.int m18,.int m19,.int m20,.int m21,.int m22,.int e0,.int e1,.int e2,.int e3,.bool e4,.int e5,.int e6,.int e7,.int e8,.int e9,.int e10,.int e11,.bool e12,.int e13,.int e14,.int e15,.int e16,.bool e17,.int e18]=some (Jm (C5 (⟨⟨m0,m1,m2,m3,m4,m5,m6,m7,m8,m9,m10,m11,m12,m13⟩,m14,m15,m16,m17,m18,m19,m20,m21,m22⟩:Mat) (⟨e0,e1,e2,e3,e4,e5,e6,⟨e7,e8,e9,e10,e11,e12,e13,e14,e15,e16,e17,e18⟩⟩:Ev))):=by
 show OE (std (CZ N) N) (xOf _)=_
 generalize hres:(some (Jm (C5 (⟨⟨m0,m1,m2,m3,m4,m5,m6,m7,m8,m9,m10,m11,m12,m13⟩,m14,m15,m16,m17,m18,m19,m20,m21,m22⟩:Mat) (⟨e0,e1,e2,e3,e4,e5,e6,⟨e7,e8,e9,e10,e11,e12,e13,e14,e15,e16,e17,e18⟩⟩:Ev))):Option (List PV))=RR
 simp only [OE,Ov,ZI,Z1,Rr,P7,Nw,std,xOf,PXb,Wq hf hN hl hs,hC,gk hf hN hl h13]
 subst hres;simp only [C5]
 cases hv:CQ (⟨⟨m0,m1,m2,m3,m4,m5,m6,m7,m8,m9,m10,m11,m12,m13⟩,m14,m15,m16,m17,m18,m19,m20,m21,m22⟩:Mat)
 case false=>rfl
 cases he:evS (⟨e0,e1,e2,e3,e4,e5,e6,⟨e7,e8,e9,e10,e11,e12,e13,e14,e15,e16,e17,e18⟩⟩:Ev)==0
 case false=>simp only [PXb,he];rfl
 simp only [PXb,he]
 cases h5:m14==5
 case true=>rfl
 have ok:=UT hv
 simp only [PXb,PXc,Cf,Nat.reduceAdd,Ov,gk hf hN hl h13,Rr,xo hN hf hl hs h13 ok hv he]
 have ak:=pT ok (⟨e0,e1,e2,e3,e4,e5,e6,⟨e7,e8,e9,e10,e11,e12,e13,e14,e15,e16,e17,e18⟩⟩:Ev)
 generalize Gh (⟨⟨m0,m1,m2,m3,m4,m5,m6,m7,m8,m9,m10,m11,m12,m13⟩,m14,m15,m16,m17,m18,m19,m20,m21,m22⟩:Mat) (⟨e0,e1,e2,e3,e4,e5,e6,⟨e7,e8,e9,e10,e11,e12,e13,e14,e15,e16,e17,e18⟩⟩:Ev)=A at ak
 obtain ⟨⟨⟨a0,a1,a2,a3,a4,a5,a6,a7,a8,a9,a10,a11,a12,a13⟩,a14,a15,a16,a17,a18,a19,a20,a21,a22⟩,l⟩:=A
 obtain ⟨k1,k2,k3,k4⟩:=ak
 simp only at k1 k2 k3 k4
 have hl5:a17.length≤1000000:=by omega
 have hs5:a0.size≤1048576:=by
  have:=congrArg Rul.name k1
  simp only at this
  rw [this];exact hs
 simp only [PXb,PXc,PXk,PXi,Cf,Nat.reduceAdd]
 cases hl0:l==0
 case false=>rfl
 simp only [PXb,B5]
 cases h3:a14==3
 case false=>rfl
 have h0:=k4 hl0 h3
 simp only [PXb,PXc,PXi,P7,Ts h0 hl5,Ar,Nw,qw k2 hN hl5 hs5 h0,PXm]
 cases (inn a17 (lnx a17)).ending==0<;>rfl
end Go.Px
end
section
namespace Go.Px
set_option maxRecDepth 100000
theorem tK (m:Mat):(Nc m).rules=m.rules∧(Nc m).inns=m.inns:=by
 unfold Nc
 dsimp only
 cases ((m.inns.length:Int)==IntKind.i64.wrap (2 * m.rules.innings)||((m.inns.length:Int)==3&&iLt (BB m (Ar m).side) (BB m (BC (Ar m).side)))) with
 | true=>exact ⟨rfl,rfl⟩
 | false =>
  cases ((m.inns.length:Int)==2&&iLt 0 m.rules.followon&&iLe m.rules.followon (IntKind.i64.wrap (BB m m.first - BB m (BC m.first))))<;>exact ⟨rfl,rfl⟩
theorem jw (m:Mat):(B5 m).rules=m.rules∧(B5 m).inns=m.inns:=by
 unfold B5
 cases (m.stage==3 && !((Ar m).ending==0)) with
 | true=>exact tK m
 | false=>exact ⟨rfl,rfl⟩
structure StepOk (r:Rul) (m:Mat):Prop where
 rules:m.rules=r
 fit:Dl m.inns
 len:m.inns.length≤5
theorem u3 {r:Rul} {m:Mat} (h:StepOk r m) (e:Ev):StepOk r (C5 m e).1:=by
 unfold C5
 cases hv:CQ m with
 | false=>exact h
 | true =>
  cases he:evS e==0 with
  | false=>exact h
  | true =>
   cases h5:m.stage==5 with
   | true=>exact h
   | false =>
    have a:=pT (UT hv) e
    cases hx:(Gh m e).2==0 with
    | false=>exact h
    | true =>
     have k:=jw (Gh m e).1
     exact ⟨k.1.trans (a.rules.trans h.rules),by show Dl (B5 _).inns;rw [k.2];exact a.fit,by show (B5 _).inns.length≤5;rw [k.2];exact a.len⟩
theorem mS (r:Rul) (h:((Cd r).2==0)=true):StepOk r (Cd r).1:=by
 unfold Cd at h ⊢
 cases hc:A1 r==0 with
 | false=>rw [hc] at h;exact absurd (show (A1 r==0)=true from h) (by rw [hc];decide)
 | true=>exact ⟨rfl,fun i hi=>absurd hi (Nat.not_lt_zero i),Nat.zero_le _⟩
theorem jR {m:Mat} {e:Ev} (h:((C5 m e).2==0)=true):CQ m=true∧(evS e==0)=true∧(m.stage==5)=false∧((Gh m e).2==0)=true∧(C5 m e).1=B5 (Gh m e).1:=by
 unfold C5 at h ⊢
 cases hv:CQ m with
 | false=>rw [hv] at h;exact absurd (show ((1:Int)==0)=true from h) (by decide)
 | true =>
  cases he:evS e==0 with
  | false=>rw [hv,he] at h;exact absurd (show ((1:Int)==0)=true from h) (by decide)
  | true =>
   cases h5:m.stage==5 with
   | true=>rw [hv,he,h5] at h;exact absurd (show ((26:Int)==0)=true from h) (by decide)
   | false =>
    cases hx:(Gh m e).2==0 with
    | false=>rw [hv,he,h5,hx] at h;exact absurd (show ((Gh m e).2==0)=true from h) (by rw [hx];decide)
    | true=>exact ⟨rfl,rfl,rfl,rfl,rfl⟩
theorem vC {m:Mat} {e:Ev} (h:((C5 m e).2==0)=true) (hk:(e.kind==4)=true):(m.stage==3)=true∧((m.inns.length:Int)==0)=false∧((Aq m.rules (Ar m) e).2==0)=true∧(C5 m e).1.inns=m.inns.set (lnx m.inns) (Aq m.rules (Ar m) e).1:=by
 obtain ⟨hv,he,h5,ha,hs⟩:=jR h
 have hk4:=beq_iff_eq.1 hk
 rw [hs,(jw _).2]
 unfold Gh at ha ⊢
 simp only [hk4,Int.reduceBEq,cond_false] at ha ⊢
 cases h3:m.stage==3 with
 | false=>rw [h3] at ha;exact absurd (show ((1:Int)==0)=true from ha) (by decide)
 | true =>
  rw [h3] at ha
  simp only [Bool.not_true,cond_false] at ha ⊢
  unfold Er at ha ⊢
  cases hq:(Aq m.rules (Ar m) e).2==0 with
  | false=>simp only [hq,Bool.not_false,cond_true] at ha;exact absurd ha Bool.false_ne_true
  | true =>
   simp only [hk4,Int.reduceBEq,Bool.false_and,hq,Bool.not_true,cond_false]
   exact ⟨trivial,(UT hv).begun h3,trivial,trivial⟩
end Go.Px
end
section
namespace Go.Px
set_option maxRecDepth 100000
def evR (L:Rows) (i:Nat):Ev:=⟨atI L i 0,atI L i 1,atI L i 2,atI L i 3,atB L i 4,atI L i 5,atI L i 6,⟨atI L i 7,atI L i 8,atI L i 9,atI L i 10,atI L i 11,atB L i 12,atI L i 13,atI L i 14,atI L i 15,atI L i 16,atB L i 17,atI L i 18⟩⟩
theorem zJ (L:Rows) (i:Nat):(⟨atI L i 0,atI L i 1,atI L i 2,atI L i 3,atB L i 4,atI L i 5,atI L i 6,⟨atI L i 7,atI L i 8,atI L i 9,atI L i 10,atI L i 11,atB L i 12,atI L i 13,atI L i 14,atI L i 15,atI L i 16,atB L i 17,atI L i 18⟩⟩:Ev)=evR L i:=rfl
def A6 (i:Int) (m:Mat) (e:Ev):Mat×Int:=cond (iLe 4000 i) (m,26) (C5 m e)
def C2 (L:Rows):Nat→Nat→Mat→Mat×Int×Int
 | 0,_,m=>(m,-1,0)
 | k+1,i,m=>cond (!((A6 i m (evR L i)).2==0)) (m,(i:Int),(A6 i m (evR L i)).2) (C2 L k (i+1) (A6 i m (evR L i)).1)
def lS (i:Int) (m t:Mat) (d:Del):List PV :=
 [.int i,.int (IntKind.i64.wrap ((m.inns.length:Int) - 1)),.int (Ar m).complete,.int (Ar m).inover,.int (Ar m).bowler,.int (Ar m).striker,.int (Ar m).other,.bool (Ar m).freehit,
  .int d.type,.int d.source,.int d.runs,.int d.short,.int d.boundary,.bool d.crossed,.int d.how,.int d.victim,.int d.fielder,.int d.second,.bool d.sub,.int d.sector,
  .int (AD m.rules d).batter,.int (AD m.rules d).wides,.int (AD m.rules d).noballs,.int (AD m.rules d).byes,.int (AD m.rules d).legbyes,.int (AD m.rules d).bowler,.bool (AD m.rules d).counts,.bool (AD m.rules d).faced,.bool (AD m.rules d).wicket,.bool (AD m.rules d).swap,
  .int (inn t.inns (lnx m.inns)).runs,.int (inn t.inns (lnx m.inns)).wickets]
def Wc (L:Rows):Nat→Nat→Mat→Rows→Rows
 | 0,_,_,out=>out
 | k+1,i,m,out=>cond (!((A6 i m (evR L i)).2==0)) out (Wc L k (i+1) (A6 i m (evR L i)).1 (cond ((evR L i).kind==4) (out++[lS i m (A6 i m (evR L i)).1 (evR L i).ball]) out))
def ZZ (f:Mat×Int×Int):List PV:=[.str f.1.rules.name,.int f.1.rules.side,.int f.1.rules.innings,.int f.1.rules.overs,.int f.1.rules.balls,.int f.1.rules.quota,.int f.1.rules.wide,.int f.1.rules.noball,.bool f.1.rules.freehit,.int f.1.rules.newball,.int f.1.rules.followon,.int f.1.rules.reviews,.int f.1.rules.outside,.rows f.1.rules.power,.int f.1.stage,.int f.1.first,.bool f.1.follow,.rows (AU f.1.inns),.int f.1.pen1,.int f.1.pen2,.int f.1.win,.int f.1.wside,.int f.1.margin,.int f.2.1,.int f.2.2]
def Cr (r:Rul) (L:Rows):Mat×Int×Int:=cond (!((Cd r).2==0)) (zO,0,1) (C2 L L.length 0 (Cd r).1)
def mI (r:Rul) (L:Rows):Rows:=cond (!((Cd r).2==0)) [] (Wc L L.length 0 (Cd r).1 [])
theorem iM (L:Rows):∀ k i m,((C2 L k i m).2.1 == -1)=true→(C2 L k i m).2.2=0
 | 0,_,_,_=>rfl
 | k+1,i,m,h=>by
  unfold C2 at h ⊢
  cases hq:(A6 i m (evR L i)).2==0 with
  | false =>
   rw [hq] at h
   have:=beq_iff_eq.1 (show ((i:Int) == -1)=true from h)
   omega
  | true=>rw [hq] at h;exact iM L k (i+1) _ h
theorem jH {r:Rul} {m:Mat} (h:StepOk r m) (i:Int) (e:Ev):StepOk r (A6 i m e).1:=by
 unfold A6
 cases iLe 4000 i with
 | true=>exact h
 | false=>exact u3 h e
theorem xB {m:Mat} {i:Int} {e:Ev} (h:((A6 i m e).2==0)=true):A6 i m e=C5 m e∧iLe 4000 i=false:=by
 unfold A6 at h ⊢
 cases h4:iLe 4000 i with
 | true=>rw [h4] at h;exact absurd (show ((26:Int)==0)=true from h) (by decide)
 | false=>exact ⟨rfl,rfl⟩
theorem un {N:Nat} {m1 m2 m3 m4 m5 m6 m7 m9 m10 m11 m12 m14 m15 m18 m19 m20 m21 m22:Int} {m8 m16:Bool} {m0:ByteArray} {m13:Rows} {m17:List Inn} {i:Int} {e0 e1 e2 e3 e5 e6 e7 e8 e9 e10 e11 e13 e14 e15 e16 e18:Int} {e4 e12 e17:Bool} (hN:2097152<N) (hf:Dl m17) (hl:m17.length≤1000000) (hs:m0.size≤1048576) (h13:m13.length≤1048576):O2 N [.str m0,.int m1,.int m2,.int m3,.int m4,.int m5,.int m6,.int m7,.bool m8,.int m9,.int m10,.int m11,.int m12,.rows m13,.int m14,.int m15,.bool m16,.rows (AU m17),.int m18,.int m19,.int m20,.int m21,.int m22,.int i,.int e0,.int e1,.int e2,.int e3,.bool e4,.int e5,.int e6,.int e7,.int e8,.int e9,.int e10,.int e11,.bool e12,.int e13,.int e14,.int e15,.int e16,.bool e17,.int e18]=some (Jm (A6 i (⟨⟨m0,m1,m2,m3,m4,m5,m6,m7,m8,m9,m10,m11,m12,m13⟩,m14,m15,m16,m17,m18,m19,m20,m21,m22⟩:Mat) (⟨e0,e1,e2,e3,e4,e5,e6,⟨e7,e8,e9,e10,e11,e12,e13,e14,e15,e16,e17,e18⟩⟩:Ev))):=by
 show Ps (std (Hd N) N) (xOf _)=_
 generalize hres:(some (Jm (A6 i (⟨⟨m0,m1,m2,m3,m4,m5,m6,m7,m8,m9,m10,m11,m12,m13⟩,m14,m15,m16,m17,m18,m19,m20,m21,m22⟩:Mat) (⟨e0,e1,e2,e3,e4,e5,e6,⟨e7,e8,e9,e10,e11,e12,e13,e14,e15,e16,e17,e18⟩⟩:Ev))):Option (List PV))=RR
 simp only [Ps,YA,std,xOf,PXb,rZ hN hf hl hs h13]
 subst hres;simp only [A6]
 cases iLe 4000 i<;>rfl
theorem jV {N:Nat} {i:Int} {m1 m2 m3 m4 m5 m6 m7 m9 m10 m11 m12 m14 m15 m18 m19 m20 m21 m22:Int} {m8 m16:Bool} {m0:ByteArray} {m13:Rows} {m17:List Inn} {t1 t2 t3 t4 t5 t6 t7 t9 t10 t11 t12 t14 t15 t18 t19 t20 t21 t22:Int} {t8 t16:Bool} {t0:ByteArray} {t13:Rows} {t17:List Inn} {d0 d1 d2 d3 d4 d6 d7 d8 d9 d11:Int} {d5 d10:Bool} (h1:iIn (IntKind.i64.wrap ((m17.length:Int) - 1)) (m17.length:Int)=true) (h2:iIn (IntKind.i64.wrap ((m17.length:Int) - 1)) (t17.length:Int)=true):Jn N [.int i,.str m0,.int m1,.int m2,.int m3,.int m4,.int m5,.int m6,.int m7,.bool m8,.int m9,.int m10,.int m11,.int m12,.rows m13,.int m14,.int m15,.bool m16,.rows (AU m17),.int m18,.int m19,.int m20,.int m21,.int m22,.str t0,.int t1,.int t2,.int t3,.int t4,.int t5,.int t6,.int t7,.bool t8,.int t9,.int t10,.int t11,.int t12,.rows t13,.int t14,.int t15,.bool t16,.rows (AU t17),.int t18,.int t19,.int t20,.int t21,.int t22,.int d0,.int d1,.int d2,.int d3,.int d4,.bool d5,.int d6,.int d7,.int d8,.int d9,.bool d10,.int d11]=some (lS i (⟨⟨m0,m1,m2,m3,m4,m5,m6,m7,m8,m9,m10,m11,m12,m13⟩,m14,m15,m16,m17,m18,m19,m20,m21,m22⟩:Mat) (⟨⟨t0,t1,t2,t3,t4,t5,t6,t7,t8,t9,t10,t11,t12,t13⟩,t14,t15,t16,t17,t18,t19,t20,t21,t22⟩:Mat) (⟨d0,d1,d2,d3,d4,d5,d6,d7,d8,d9,d10,d11⟩:Del)):=by
 show Jd (std (Lp N) N) (xOf _)=_
 simp only [Jd,N7,std,xOf,PXb,PXi,h1,h2,G6]
 rfl
def UQ (L:Rows) (i:Nat) (m:Mat):List PV ⊕ Mat:=cond (!((A6 i m (evR L i)).2==0)) (.inl (.int 0::.int i::.int (A6 i m (evR L i)).2::m.ls)) (.inr (A6 i m (evR L i)).1)
def vS (f:Mat×Int×Int):List PV:=cond (f.2.1 == -1) (.int 1::f.1.ls) (.int 0::.int f.2.1::.int f.2.2::f.1.ls)
theorem mu (L:Rows):∀ k i m,Yx (UQ L) (fun m=>.int 1::m.ls) k i m=vS (C2 L k i m)
 | 0,_,_=>rfl
 | k+1,i,m=>by
  simp only [Yx,UQ,C2]
  cases (A6 i m (evR L i)).2==0 with
  | false =>
   simp only [Bool.not_false,cond_true,vS]
   rw [show ((i:Int) == -1)=false from beq_false_of_ne (show (i:Int) ≠ -1 by omega)]
   rfl
  | true=>exact mu L k (i+1) _
set_option maxHeartbeats 4000000 in
theorem ur {N:Nat} {m1 m2 m3 m4 m5 m6 m7 m9 m10 m11 m12 m14 m15 m18 m19 m20 m21 m22:Int} {m8 m16:Bool} {m0:ByteArray} {m13:Rows} {m17:List Inn} {L:Rows} (hN:2097152<N) (hf:Dl m17) (hl:m17.length≤5) (hs:m0.size≤1048576) (h13:m13.length≤1048576) (hL:L.length≤1048576):PR N [.str m0,.int m1,.int m2,.int m3,.int m4,.int m5,.int m6,.int m7,.bool m8,.int m9,.int m10,.int m11,.int m12,.rows m13,.int m14,.int m15,.bool m16,.rows (AU m17),.int m18,.int m19,.int m20,.int m21,.int m22,.rows L]=some (ZZ (C2 L L.length 0 (⟨⟨m0,m1,m2,m3,m4,m5,m6,m7,m8,m9,m10,m11,m12,m13⟩,m14,m15,m16,m17,m18,m19,m20,m21,m22⟩:Mat))):=by
  show Oj (std (HP N) N) (xOf _)=_
  generalize hres:(some (ZZ (C2 L L.length 0 (⟨⟨m0,m1,m2,m3,m4,m5,m6,m7,m8,m9,m10,m11,m12,m13⟩,m14,m15,m16,m17,m18,m19,m20,m21,m22⟩:Mat))):Option (List PV))=RR
  simp only [Oj,P6,std,xOf,PXb]
  subst hres
  refine AM (cp (St:=Mat) (len:=L.length) (enc:=fun i m=>[.int (i:Int),.str m.rules.name,.int m.rules.side,.int m.rules.innings,.int m.rules.overs,.int m.rules.balls,.int m.rules.quota,.int m.rules.wide,.int m.rules.noball,.bool m.rules.freehit,.int m.rules.newball,.int m.rules.followon,.int m.rules.reviews,.int m.rules.outside,.rows m.rules.power,.int m.stage,.int m.first,.bool m.follow,.rows (AU m.inns),.int m.pen1,.int m.pen2,.int m.win,.int m.wside,.int m.margin])
    (body:=UQ L) (fin:=fun m=>.int 1::m.ls) (fun _ m=>StepOk (⟨m0,m1,m2,m3,m4,m5,m6,m7,m8,m9,m10,m11,m12,m13⟩:Rul) m) ?_ ?_ L.length 0 (⟨⟨m0,m1,m2,m3,m4,m5,m6,m7,m8,m9,m10,m11,m12,m13⟩,m14,m15,m16,m17,m18,m19,m20,m21,m22⟩:Mat) N (by omega) (by omega) ⟨rfl,hf,hl⟩) ?_
  · intro m self _
    simp only [PXb,PXc,PXn,AA,Ao]
    rfl
  · intro i m self hi ok
    obtain ⟨⟨a0,a1,a2,a3,a4,a5,a6,a7,a8,a9,a10,a11,a12,a13⟩,a14,a15,a16,a17,a18,a19,a20,a21,a22⟩:=m
    have o1:=ok.rules
    have o2:=ok.fit
    have o3:=ok.len
    simp only at o1 o2 o3
    cases o1
    have kp:=jH ok (i:Int) (evR L i)
    refine ⟨?_,?_⟩
    · simp only [PXb,PXc,PXn,AA,AS (show i≤1099511627776 by omega),Ah hi,AP hi,P6,wM hN o2 (show a17.length≤1000000 by omega) hs h13,BD,fB,Nat.reduceAdd,PXk,PXc,zJ]
      unfold UQ A6
      cases iLe 4000 (i:Int)
      case true=>rfl
      simp only [cond_false]
      cases (C5 (⟨⟨m0,m1,m2,m3,m4,m5,m6,m7,m8,m9,m10,m11,m12,m13⟩,a14,a15,a16,a17,a18,a19,a20,a21,a22⟩:Mat) (evR L i)).2==0<;>rfl
    · intro s' h
      unfold UQ at h
      cases hq:(A6 (i:Int) (⟨⟨m0,m1,m2,m3,m4,m5,m6,m7,m8,m9,m10,m11,m12,m13⟩,a14,a15,a16,a17,a18,a19,a20,a21,a22⟩:Mat) (evR L i)).2==0 with
      | false=>rw [hq] at h;cases h
      | true=>rw [hq] at h;cases h;exact kp
  · rw [mu]
    have he:=iM L L.length 0 (⟨⟨m0,m1,m2,m3,m4,m5,m6,m7,m8,m9,m10,m11,m12,m13⟩,m14,m15,m16,m17,m18,m19,m20,m21,m22⟩:Mat)
    generalize C2 L L.length 0 (⟨⟨m0,m1,m2,m3,m4,m5,m6,m7,m8,m9,m10,m11,m12,m13⟩,m14,m15,m16,m17,m18,m19,m20,m21,m22⟩:Mat)=f at he
    obtain ⟨⟨⟨a0,a1,a2,a3,a4,a5,a6,a7,a8,a9,a10,a11,a12,a13⟩,a14,a15,a16,a17,a18,a19,a20,a21,a22⟩,b,l⟩:=f
    simp only at he
    unfold vS
    cases hb:b == -1 with
    | false=>rfl
    | true =>
      rw [he hb,beq_iff_eq.1 hb]
      rfl
end Go.Px
end
section
namespace Go.Px
set_option maxRecDepth 100000
def Uy (L:Rows) (i:Nat) (s:Rows×Mat):List PV ⊕ Rows×Mat:=cond (!((A6 i s.2 (evR L i)).2==0)) (.inl (.int 0::.rows s.1::.int i::.int (A6 i s.2 (evR L i)).2::s.2.ls)) (.inr (cond ((evR L i).kind==4) (s.1++[lS i s.2 (A6 i s.2 (evR L i)).1 (evR L i).ball]) s.1,(A6 i s.2 (evR L i)).1))
def ve (out:Rows) (f:Mat×Int×Int):List PV:=cond (f.2.1 == -1) (.int 1::.rows out::f.1.ls) (.int 0::.rows out::.int f.2.1::.int f.2.2::f.1.ls)
theorem nK (L:Rows):∀ k i s,Yx (Uy L) (fun s=>.int 1::.rows s.1::s.2.ls) k i s=ve (Wc L k i s.2 s.1) (C2 L k i s.2)
 | 0,_,_=>rfl
 | k+1,i,s=>by
  simp only [Yx,Uy,C2,Wc]
  cases (A6 i s.2 (evR L i)).2==0 with
  | false =>
   simp only [Bool.not_false,cond_true,ve]
   rw [show ((i:Int) == -1)=false from beq_false_of_ne (show (i:Int) ≠ -1 by omega)]
   rfl
  | true=>exact nK L k (i+1) _
def xI (out:Rows) (f:Mat×Int×Int):List PV:=[.rows out,.str f.1.rules.name,.int f.1.rules.side,.int f.1.rules.innings,.int f.1.rules.overs,.int f.1.rules.balls,.int f.1.rules.quota,.int f.1.rules.wide,.int f.1.rules.noball,.bool f.1.rules.freehit,.int f.1.rules.newball,.int f.1.rules.followon,.int f.1.rules.reviews,.int f.1.rules.outside,.rows f.1.rules.power,.int f.1.stage,.int f.1.first,.bool f.1.follow,.rows (AU f.1.inns),.int f.1.pen1,.int f.1.pen2,.int f.1.win,.int f.1.wside,.int f.1.margin,.int f.2.1,.int f.2.2]
theorem AA0 {m t:Mat} {e:Ev} (hl:m.inns.length≤5) (h:((C5 m e).2==0)=true) (hk:(e.kind==4)=true) (ht:(C5 m e).1=t):iIn (IntKind.i64.wrap ((m.inns.length:Int) - 1)) (m.inns.length:Int)=true∧iIn (IntKind.i64.wrap ((m.inns.length:Int) - 1)) (t.inns.length:Int)=true:=by
 obtain ⟨_,h2,_,h4⟩:=vC h hk
 have:=Nn h2 (show m.inns.length≤1000000 by omega)
 rw [← ht,h4,List.length_set]
 exact ⟨this,this⟩
set_option maxHeartbeats 8000000 in
theorem vo {N:Nat} {r1 r2 r3 r4 r5 r6 r7 r9 r10 r11 r12:Int} {r8:Bool} {r0:ByteArray} {r13:Rows} {L:Rows} (hN:2097152<N) (hs:r0.size≤1048576) (h13:r13.length≤1048576) (hL:L.length≤1048576):OG N [.str r0,.int r1,.int r2,.int r3,.int r4,.int r5,.int r6,.int r7,.bool r8,.int r9,.int r10,.int r11,.int r12,.rows r13,.rows L]=some (xI (mI (⟨r0,r1,r2,r3,r4,r5,r6,r7,r8,r9,r10,r11,r12,r13⟩:Rul) L) (Cr (⟨r0,r1,r2,r3,r4,r5,r6,r7,r8,r9,r10,r11,r12,r13⟩:Rul) L)):=by
  show O3 (std (D6 N) N) (xOf _)=_
  generalize hres:(some (xI (mI (⟨r0,r1,r2,r3,r4,r5,r6,r7,r8,r9,r10,r11,r12,r13⟩:Rul) L) (Cr (⟨r0,r1,r2,r3,r4,r5,r6,r7,r8,r9,r10,r11,r12,r13⟩:Rul) L)):Option (List PV))=RR
  simp only [O3,Zm,QA,Kj,std,xOf,PXb,tx hN hs h13]
  subst hres;simp only [mI,Cr]
  have nk:=mS (⟨r0,r1,r2,r3,r4,r5,r6,r7,r8,r9,r10,r11,r12,r13⟩:Rul)
  generalize Cd (⟨r0,r1,r2,r3,r4,r5,r6,r7,r8,r9,r10,r11,r12,r13⟩:Rul)=X at nk
  obtain ⟨⟨⟨m0,m1,m2,m3,m4,m5,m6,m7,m8,m9,m10,m11,m12,m13⟩,m14,m15,m16,m17,m18,m19,m20,m21,m22⟩,l⟩:=X
  simp only at nk
  simp only [PXb,PXc,PXk,Nat.reduceAdd]
  cases hl:l==0
  case false=>rfl
  have ok:=nk hl
  simp only [PXb]
  refine AM (cp (St:=Rows×Mat) (len:=L.length) (enc:=fun i s=>[.rows s.1,.int (i:Int),.str s.2.rules.name,.int s.2.rules.side,.int s.2.rules.innings,.int s.2.rules.overs,.int s.2.rules.balls,.int s.2.rules.quota,.int s.2.rules.wide,.int s.2.rules.noball,.bool s.2.rules.freehit,.int s.2.rules.newball,.int s.2.rules.followon,.int s.2.rules.reviews,.int s.2.rules.outside,.rows s.2.rules.power,.int s.2.stage,.int s.2.first,.bool s.2.follow,.rows (AU s.2.inns),.int s.2.pen1,.int s.2.pen2,.int s.2.win,.int s.2.wside,.int s.2.margin])
    (body:=Uy L) (fin:=fun s=>.int 1::.rows s.1::s.2.ls) (fun i s=>StepOk (⟨r0,r1,r2,r3,r4,r5,r6,r7,r8,r9,r10,r11,r12,r13⟩:Rul) s.2∧s.1.length≤i) ?_ ?_ L.length 0 ([],(⟨⟨m0,m1,m2,m3,m4,m5,m6,m7,m8,m9,m10,m11,m12,m13⟩,m14,m15,m16,m17,m18,m19,m20,m21,m22⟩:Mat)) N (by omega) (by omega) ⟨ok,Nat.zero_le _⟩) ?_
  · intro m self _
    simp only [PXb,PXc,PXn,AA,Ao]
    rfl
  · intro i s self hi ok
    obtain ⟨out,⟨⟨a0,a1,a2,a3,a4,a5,a6,a7,a8,a9,a10,a11,a12,a13⟩,a14,a15,a16,a17,a18,a19,a20,a21,a22⟩⟩:=s
    obtain ⟨ok,hout⟩:=ok
    have o1:=ok.rules
    have o2:=ok.fit
    have o3:=ok.len
    simp only at o1 o2 o3 hout
    cases o1
    have kp:=jH ok (i:Int) (evR L i)
    have acc:=xB (m:=(⟨⟨r0,r1,r2,r3,r4,r5,r6,r7,r8,r9,r10,r11,r12,r13⟩,a14,a15,a16,a17,a18,a19,a20,a21,a22⟩:Mat)) (i:=(i:Int)) (e:=evR L i)
    refine ⟨?_,?_⟩
    · simp only [PXb,PXc,PXn,AA,AS (show i≤1099511627776 by omega),Ah hi,AP hi,QA,un hN o2 (show a17.length≤1000000 by omega) hs h13,BD,fB,Nat.reduceAdd,PXk,PXc,zJ,List.length_append,List.length_cons,List.length_nil,Kj]
      unfold Uy
      simp only
      generalize hT:A6 (i:Int) (⟨⟨r0,r1,r2,r3,r4,r5,r6,r7,r8,r9,r10,r11,r12,r13⟩,a14,a15,a16,a17,a18,a19,a20,a21,a22⟩:Mat) (evR L i)=T at acc
      obtain ⟨⟨⟨b0,b1,b2,b3,b4,b5,b6,b7,b8,b9,b10,b11,b12,b13⟩,b14,b15,b16,b17,b18,b19,b20,b21,b22⟩,l2⟩:=T
      simp only at acc
      simp only
      cases hl2:l2==0
      case false=>rfl
      have hk0:(evR L i).kind=atI L i 0:=rfl
      rw [hk0]
      simp only [PXb]
      cases hk:atI L i 0==4
      case false=>rfl
      have ha:=(acc hl2).1
      have hd:=AA0 (m:=(⟨⟨r0,r1,r2,r3,r4,r5,r6,r7,r8,r9,r10,r11,r12,r13⟩,a14,a15,a16,a17,a18,a19,a20,a21,a22⟩:Mat)) (e:=evR L i) o3 (by rw [← ha];exact hl2) hk (congrArg Prod.fst ha).symm
      simp only at hd
      have h216:iSm ((out.length+1:Nat):Int) 216=true:=Dt (by omega) (by omega)
      simp only [PXb,PXc,jV hd.1 hd.2,h216]
      rfl
    · intro s' h
      unfold Uy at h
      simp only at h
      cases hq:(A6 (i:Int) (⟨⟨r0,r1,r2,r3,r4,r5,r6,r7,r8,r9,r10,r11,r12,r13⟩,a14,a15,a16,a17,a18,a19,a20,a21,a22⟩:Mat) (evR L i)).2==0 with
      | false=>rw [hq] at h;cases h
      | true =>
        rw [hq] at h;cases h
        refine ⟨kp,?_⟩
        cases (evR L i).kind==4 with
        | false=>show out.length≤_;omega
        | true=>show (out++[_]).length≤_;rw [List.length_append];simp;omega
  · rw [nK]
    have he:=iM L L.length 0 (⟨⟨m0,m1,m2,m3,m4,m5,m6,m7,m8,m9,m10,m11,m12,m13⟩,m14,m15,m16,m17,m18,m19,m20,m21,m22⟩:Mat)
    simp only
    generalize Wc L L.length 0 (⟨⟨m0,m1,m2,m3,m4,m5,m6,m7,m8,m9,m10,m11,m12,m13⟩,m14,m15,m16,m17,m18,m19,m20,m21,m22⟩:Mat) []=out
    generalize C2 L L.length 0 (⟨⟨m0,m1,m2,m3,m4,m5,m6,m7,m8,m9,m10,m11,m12,m13⟩,m14,m15,m16,m17,m18,m19,m20,m21,m22⟩:Mat)=f at he
    obtain ⟨⟨⟨a0,a1,a2,a3,a4,a5,a6,a7,a8,a9,a10,a11,a12,a13⟩,a14,a15,a16,a17,a18,a19,a20,a21,a22⟩,b,l⟩:=f
    simp only at he
    unfold ve
    cases hb:b == -1 with
    | false=>rfl
    | true =>
      rw [he hb,beq_iff_eq.1 hb]
      rfl
end Go.Px
end
section
namespace Go.Px
set_option maxRecDepth 100000
theorem rN {N:Nat} {r1 r2 r3 r4 r5 r6 r7 r9 r10 r11 r12:Int} {r8:Bool} {r0:ByteArray} {r13:Rows} {L:Rows} (hN:2097152<N) (hs:r0.size≤1048576) (h13:r13.length≤1048576) (hL:L.length≤1048576):Kw N [.str r0,.int r1,.int r2,.int r3,.int r4,.int r5,.int r6,.int r7,.bool r8,.int r9,.int r10,.int r11,.int r12,.rows r13,.rows L]=some (ZZ (Cr (⟨r0,r1,r2,r3,r4,r5,r6,r7,r8,r9,r10,r11,r12,r13⟩:Rul) L)):=by
 show KO (std (E9 N) N) (xOf _)=_
 generalize hres:(some (ZZ (Cr (⟨r0,r1,r2,r3,r4,r5,r6,r7,r8,r9,r10,r11,r12,r13⟩:Rul) L)):Option (List PV))=RR
 simp only [KO,Xq,std,xOf,PXb,vo hN hs h13 hL]
 subst hres
 rfl
theorem qE {N:Nat} {r1 r2 r3 r4 r5 r6 r7 r9 r10 r11 r12:Int} {r8:Bool} {r0:ByteArray} {r13:Rows} {L:Rows} (hN:2097152<N) (hs:r0.size≤1048576) (h13:r13.length≤1048576) (hL:L.length≤1048576):KL N [.str r0,.int r1,.int r2,.int r3,.int r4,.int r5,.int r6,.int r7,.bool r8,.int r9,.int r10,.int r11,.int r12,.rows r13,.rows L]=some (ZZ (Cr (⟨r0,r1,r2,r3,r4,r5,r6,r7,r8,r9,r10,r11,r12,r13⟩:Rul) L)):=by
 show Kb (std (Dp N) N) (xOf _)=_
 generalize hres:(some (ZZ (Cr (⟨r0,r1,r2,r3,r4,r5,r6,r7,r8,r9,r10,r11,r12,r13⟩:Rul) L)):Option (List PV))=RR
 simp only [Kb,Zz,Nl,std,xOf,PXb,xp hN hs h13]
 subst hres;simp only [Cr]
 have nk:=mS (⟨r0,r1,r2,r3,r4,r5,r6,r7,r8,r9,r10,r11,r12,r13⟩:Rul)
 generalize Cd (⟨r0,r1,r2,r3,r4,r5,r6,r7,r8,r9,r10,r11,r12,r13⟩:Rul)=X at nk
 obtain ⟨⟨⟨m0,m1,m2,m3,m4,m5,m6,m7,m8,m9,m10,m11,m12,m13⟩,m14,m15,m16,m17,m18,m19,m20,m21,m22⟩,l⟩:=X
 simp only at nk
 simp only [PXb,PXc,PXk,Nat.reduceAdd]
 cases hl:l==0
 case false=>rfl
 have ok:=nk hl
 have o1:=ok.rules
 have o2:=ok.fit
 have o3:=ok.len
 simp only at o1 o2 o3
 cases o1
 simp only [PXb,Nl,ur hN o2 o3 hs h13 hL]
 rfl
theorem sC (L:Rows):∀ k i m,iLe 0 (C2 L k i m).2.1 = !((C2 L k i m).2.2==0)∧((C2 L k i m).2.1 == -1)=((C2 L k i m).2.2==0)
 | 0,_,_=>⟨rfl,rfl⟩
 | k+1,i,m=>by
  unfold C2
  cases hq:(A6 i m (evR L i)).2==0 with
  | false =>
   simp only [Bool.not_false,cond_true,hq]
   exact ⟨by simp only [iLe,decide_eq_true_eq];omega,beq_false_of_ne (by omega)⟩
  | true=>exact sC L k (i+1) _
theorem vK (r:Rul) (L:Rows):iLe 0 (Cr r L).2.1 = !((Cr r L).2.2==0)∧((Cr r L).2.1 == -1)=((Cr r L).2.2==0):=by
 unfold Cr
 cases (Cd r).2==0 with
 | false=>exact ⟨rfl,rfl⟩
 | true=>exact sC L L.length 0 _
def Ce (r:Rul) (L:Rows):Int:=cond (!(A1 r==0)) (A1 r) (cond (iLt 4000 (L.length:Int)) 9 (cond (!((Cr r L).2.2==0)) 10 0))
theorem gR {N:Nat} {r1 r2 r3 r4 r5 r6 r7 r9 r10 r11 r12:Int} {r8:Bool} {r0:ByteArray} {r13:Rows} {L:Rows} (hN:2097152<N) (hs:r0.size≤1048576) (h13:r13.length≤1048576) (hL:L.length≤1048576):Dx N [.str r0,.int r1,.int r2,.int r3,.int r4,.int r5,.int r6,.int r7,.bool r8,.int r9,.int r10,.int r11,.int r12,.rows r13,.rows L]=some [.int (Ce (⟨r0,r1,r2,r3,r4,r5,r6,r7,r8,r9,r10,r11,r12,r13⟩:Rul) L)]:=by
 show L1 (std (ES N) N) (xOf _)=_
 generalize hres:(some [.int (Ce (⟨r0,r1,r2,r3,r4,r5,r6,r7,r8,r9,r10,r11,r12,r13⟩:Rul) L)]:Option (List PV))=RR
 simp only [L1,XT,Va,std,xOf,PXb,DW hN hs,rN hN hs h13 hL,PXm]
 subst hres;simp only [Ce]
 rfl
theorem sT {N:Nat} {r1 r2 r3 r4 r5 r6 r7 r9 r10 r11 r12:Int} {r8:Bool} {r0:ByteArray} {r13:Rows} {L:Rows} (hN:2097152<N) (hs:r0.size≤1048576) (h13:r13.length≤1048576) (hL:L.length≤1048576):JN N [.str r0,.int r1,.int r2,.int r3,.int r4,.int r5,.int r6,.int r7,.bool r8,.int r9,.int r10,.int r11,.int r12,.rows r13,.rows L]=some [.int (Ce (⟨r0,r1,r2,r3,r4,r5,r6,r7,r8,r9,r10,r11,r12,r13⟩:Rul) L)]:=by
 show MB (std (EW N) N) (xOf _)=_
 generalize hres:(some [.int (Ce (⟨r0,r1,r2,r3,r4,r5,r6,r7,r8,r9,r10,r11,r12,r13⟩:Rul) L)]:Option (List PV))=RR
 simp only [MB,YV,W6,std,xOf,PXb,E3 hN hs,qE hN hs h13 hL,PXm,ZZ,PXc,(vK (⟨r0,r1,r2,r3,r4,r5,r6,r7,r8,r9,r10,r11,r12,r13⟩:Rul) L).1]
 subst hres;simp only [Ce]
structure LogOk (m:Mat):Prop where
 fit:Dl m.inns
 len:m.inns.length≤5
 name:m.rules.name.size≤1048576
 power:m.rules.power.length≤1048576
end Go.Px
end
section
namespace Go.Px
set_option maxRecDepth 100000
def acc (L:Rows):Nat→Nat→Mat→Prop
 | 0,_,_=>True
 | k+1,i,m=>((A6 i m (evR L i)).2==0)=true∧acc L k (i+1) (A6 i m (evR L i)).1
def stM (L:Rows):Nat→Nat→Mat→Mat
 | 0,_,m=>m
 | k+1,i,m=>stM L k (i+1) (A6 i m (evR L i)).1
def zP (L:Rows):Nat→Nat→Mat→Rows→Rows
 | 0,_,_,out=>out
 | k+1,i,m,out=>zP L k (i+1) (A6 i m (evR L i)).1 (cond ((evR L i).kind==4) (out++[lS i m (A6 i m (evR L i)).1 (evR L i).ball]) out)
theorem rJ (L : Rows) : ∀ K i m, ∃ k, k ≤ K ∧ acc L k i m ∧ (∀ out, Wc L K i m out = zP L k i m out) ∧
    ((k=K∧C2 L K i m=(stM L k i m,-1,0))∨(k<K∧((A6 ((i+k:Nat):Int) (stM L k i m) (evR L (i+k))).2==0)=false∧C2 L K i m=(stM L k i m,((i+k:Nat):Int),(A6 ((i+k:Nat):Int) (stM L k i m) (evR L (i+k))).2)))
  | 0,i,m=>⟨0,Nat.le_refl _,trivial,fun _=>rfl,Or.inl ⟨rfl,rfl⟩⟩
  | K+1,i,m=>by
    cases hq:(A6 i m (evR L i)).2==0 with
    | false =>
      refine ⟨0,Nat.zero_le _,trivial,fun out=>?_,Or.inr ⟨Nat.succ_pos _,hq,?_⟩⟩
      · simp only [Wc,hq,Bool.not_false,cond_true];rfl
      · simp only [C2,hq,Bool.not_false,cond_true];rfl
    | true =>
      obtain ⟨k,h1,h2,h3,h4⟩:=rJ L K (i+1) (A6 i m (evR L i)).1
      refine ⟨k+1,Nat.succ_le_succ h1,⟨hq,h2⟩,fun out=>?_,?_⟩
      · simp only [Wc,hq,Bool.not_true,cond_false]
        exact h3 _
      · have e:C2 L (K+1) i m=C2 L K (i+1) (A6 i m (evR L i)).1:=by simp only [C2,hq,Bool.not_true,cond_false]
        rw [e,show i+(k+1)=i+1+k by omega]
        rcases h4 with ⟨h5,h6⟩ | ⟨h5,h6⟩
        · exact Or.inl ⟨by omega,h6⟩
        · exact Or.inr ⟨by omega,h6⟩
theorem y7 (r:Rul):((Cd r).2==0)=(A1 r==0):=by
 unfold Cd
 cases h:A1 r==0 with
 | false=>exact h
 | true=>rfl
theorem qB {L:Rows}:∀ k i m,stM L (k+1) i m=(A6 ((i+k:Nat):Int) (stM L k i m) (evR L (i+k))).1
 | 0,i,m=>rfl
 | k+1,i,m=>by
  show stM L (k+1) (i+1) _=_
  rw [qB k (i+1),show i+1+k=i+(k+1) by omega]
  rfl
end Go.Px
end
section
namespace Go.Px
set_option maxRecDepth 100000
theorem xx {L:Rows}:∀ k i m,acc L k i m→∀ j,j<k→((A6 ((i+j:Nat):Int) (stM L j i m) (evR L (i+j))).2==0)=true
 | 0,_,_,_,j,h=>absurd h (Nat.not_lt_zero j)
 | k+1,i,m,ha,0,_=>ha.1
 | k+1,i,m,ha,j+1,h=>by
  have:=xx k (i+1) _ ha.2 j (by omega)
  rw [show i+1+j=i+(j+1) by omega] at this
  exact this
end Go.Px
end
section
namespace Go.Px
set_option maxRecDepth 100000
abbrev wr (n:Int):Int:=IntKind.i64.wrap n
structure Nums (q:Int) (s t:Inn) (a b c:Int):Prop where
 runs:wr (t.runs - t.pens)=wr (s.runs - s.pens+a)
 rw:wr s.runs=s.runs→wr t.runs=t.runs
 balls:Ch q t.complete t.inover=wr (s.complete * q+s.inover+b)
 wk:wr t.wickets=wr (s.wickets+c)
theorem VD (q c i:Int):Ch q c i=wr (c * q+i):=by
 unfold Ch
 simp only [wr,QY]
 omega
theorem Nums.of {q:Int} {s t:Inn} (h1:t.runs=s.runs) (h2:t.pens=s.pens) (h3:t.complete=s.complete) (h4:t.inover=s.inover) (h5:t.wickets=s.wickets):Nums q s t 0 0 0 :=
 ⟨by rw [h1,h2,Int.add_zero],fun h=>by rw [h1];exact h,by rw [h3,h4,VD,Int.add_zero],by rw [h5,Int.add_zero]⟩
theorem Nums.out {q:Int} {s t:Inn} (h1:t.runs=s.runs) (h2:t.pens=s.pens) (h3:t.complete=s.complete) (h4:t.inover=s.inover) (h5:t.wickets=wr (s.wickets+1)):Nums q s t 0 0 1 :=
 ⟨by rw [h1,h2,Int.add_zero],fun h=>by rw [h1];exact h,by rw [h3,h4,VD,Int.add_zero],by rw [h5];exact H9 _⟩
theorem Nums.pen (q:Int) (s:Inn):Nums q s (JQ s) 0 0 0 :=
 ⟨by show wr (wr (s.runs+5) - wr (s.pens+5))=_;simp only [wr,QY];omega,fun _=>H9 _,by show Ch q s.complete s.inover=_;rw [VD,Int.add_zero],by show wr s.wickets=_;rw [Int.add_zero]⟩
def Du (e:Ev):Int:=cond ((e.kind==5&&e.yes)||(e.kind==6 && !e.yes)) 1 0
theorem Nums.fin {q:Int} {s t:Inn} {a b c:Int} (h:Nums q s t a b c) (r:Rul) (x:Bool):Nums q s (Bq r t x) a b c:=⟨h.runs,h.rw,h.balls,h.wk⟩
def Qt (e:Ev):Int:=cond (e.kind==4) (cond (e.ball.how==0) 0 1) (Du e)
structure SumInv (q:Int) (xs:List Inn) (R B:Nat→Int) (O:Int):Prop where
 runs:∀ i,i<xs.length→wr ((inn xs i).runs - (inn xs i).pens)=wr (R i)
 rw:∀ i,i<xs.length→wr (inn xs i).runs=(inn xs i).runs
 balls:∀ i,i<xs.length→Ch q (inn xs i).complete (inn xs i).inover=wr (B i)
 zero:∀ i,xs.length≤i→R i=0∧B i=0
 wk:wr (xs.map Inn.wickets).sum=wr O
theorem SumInv.congr {q:Int} {xs:List Inn} {R B R' B':Nat→Int} {O O':Int} (h:SumInv q xs R B O) (h1:∀ i,R i=R' i) (h2:∀ i,B i=B' i) (h3:O=O'):SumInv q xs R' B' O' :=
 ⟨fun i hi=>(h.runs i hi).trans (by rw [h1]),h.rw,fun i hi=>(h.balls i hi).trans (by rw [h2]),fun i hi=>by rw [← h1,← h2];exact h.zero i hi,h.wk.trans (by rw [h3])⟩
def rT (L:Rows) (j:Nat):Int:=DT ⟨atI L j 20,atI L j 21,atI L j 22,atI L j 23,atI L j 24,atI L j 25,atB L j 26,atB L j 27,atB L j 28,atB L j 29⟩
def rS (L:Rows) (i:Nat):Nat→Int
 | 0=>0
 | n+1=>rS L i n+cond (atI L n 1==(i:Int)) (rT L n) 0
def bS (L:Rows) (i:Nat):Nat→Int
 | 0=>0
 | n+1=>bS L i n+cond (atI L n 1==(i:Int)&&atB L n 26) 1 0
def hS (L:Rows):Nat→Int
 | 0=>0
 | n+1=>hS L n+cond (atI L n 14==0) 0 1
end Go.Px
end
