/- Part 13. -/
import Derived.Test.YteolngdncakekaaGreatPart12
set_option linter.unusedVariables false
set_option linter.unusedSimpArgs false
section
namespace Go.Px
set_option maxRecDepth 100000
def lnx (xs:List Inn):Nat:=(IntKind.i64.wrap ((xs.length:Int) - 1)).toNat
def As (m:Mat):Inn:=inn m.inns (lnx m.inns)
theorem KV {n:Nat} (h:((n:Int)==0)=false) (hl:n≤1000000):iIn (IntKind.i64.wrap ((n:Int) - 1)) (n:Int)=true:=by
 rw [beq_eq_false_iff_ne] at h
 rw [FJ (by omega) (by omega)]
 simp only [iIn,decide_eq_true_eq];omega
theorem je {xs:List Inn} (h:((xs.length:Int)==0)=false) (hl:xs.length≤1000000):lnx xs<xs.length:=by
 rw [beq_eq_false_iff_ne] at h
 unfold lnx
 rw [FJ (by omega) (by omega)]
 omega
def Xh (r:Rul):Int:=cond (r.overs==0) 5 6
theorem Jo {N:Nat} {r1 r2 r3 r4 r5 r6 r7 r9 r10 r11 r12:Int} {r8:Bool} {r0:ByteArray} {r13:Rows}  : Bw N [.str r0,.int r1,.int r2,.int r3,.int r4,.int r5,.int r6,.int r7,.bool r8,.int r9,.int r10,.int r11,.int r12,.rows r13]=some [.int (Xh (⟨r0,r1,r2,r3,r4,r5,r6,r7,r8,r9,r10,r11,r12,r13⟩:Rul))]:=by
 show GB (std (Ns N) N) (xOf _)=_
 simp only [GB,std,xOf,PXb,PXc,PXn,PXm,Nat.reduceAdd,Int.reduceBEq,Xh]
theorem TI {N:Nat} {m1 m2 m3 m4 m5 m6 m7 m9 m10 m11 m12 m14 m15 m18 m19 m20 m21 m22:Int} {m8 m16:Bool} {m0:ByteArray} {m13:Rows} {m17:List Inn} (h:((m17.length:Int)==0)=false) (hl:m17.length≤1000000):DQ N [.str m0,.int m1,.int m2,.int m3,.int m4,.int m5,.int m6,.int m7,.bool m8,.int m9,.int m10,.int m11,.int m12,.rows m13,.int m14,.int m15,.bool m16,.rows (AM m17),.int m18,.int m19,.int m20,.int m21,.int m22]=some (inn m17 (lnx m17)).ls:=by
 show OU (std (Jw N) N) (xOf _)=_
 simp only [OU,std,xOf,PXb,PXc,PXn,PXm,Nat.reduceAdd,Int.reduceBEq,PXi,KV h hl,lnx]
def nI (x:Int×Int×Int):List PV:=[.int x.1,.int x.2.1,.int x.2.2]
def Mw (m:Mat):Int×Int×Int :=
  let n:Int:=m.inns.length
  let most:=IntKind.i64.wrap (2 * m.rules.innings)
  let x:=As m
  cond (!BZ m||n==0) (0,0,0) (cond (x.ending==5) (Xh m.rules,0,0) (cond (x.ending==0) (0,0,0)
    (cond (n==most&&iLe x.target x.runs) (2,x.side,IntKind.i64.wrap (IntKind.i64.wrap (m.rules.side - 1) - x.wickets)) (cond (n==most&&x.runs==IntKind.i64.wrap (x.target - 1)) (4,0,0)
      (cond (n==most) (1,Bv x.side,IntKind.i64.wrap (IntKind.i64.wrap (x.target - 1) - x.runs))
        (cond (n==3&&iLt (BK m x.side) (BK m (Bv x.side))) (3,Bv x.side,IntKind.i64.wrap (BK m (Bv x.side) - BK m x.side)) (0,0,0)))))))
set_option maxHeartbeats 4000000 in
theorem jR {N:Nat} {m1 m2 m3 m4 m5 m6 m7 m9 m10 m11 m12 m14 m15 m18 m19 m20 m21 m22:Int} {m8 m16:Bool} {m0:ByteArray} {m13:Rows} {m17:List Inn} (hf:CX m17) (hN:2097152<N) (hl:m17.length≤1000000) (hs:m0.size≤1048576):F1 N [.str m0,.int m1,.int m2,.int m3,.int m4,.int m5,.int m6,.int m7,.bool m8,.int m9,.int m10,.int m11,.int m12,.rows m13,.int m14,.int m15,.bool m16,.rows (AM m17),.int m18,.int m19,.int m20,.int m21,.int m22]=some (nI (Mw (⟨⟨m0,m1,m2,m3,m4,m5,m6,m7,m8,m9,m10,m11,m12,m13⟩,m14,m15,m16,m17,m18,m19,m20,m21,m22⟩:Mat))):=by
 show Ja (std (DS N) N) (xOf _)=_
 generalize hres:(some (nI (Mw (⟨⟨m0,m1,m2,m3,m4,m5,m6,m7,m8,m9,m10,m11,m12,m13⟩,m14,m15,m16,m17,m18,m19,m20,m21,m22⟩:Mat))):Option (List PV))=RR
 simp only [Ja,Rn,RO,RL,Mo,std,xOf,PXb,PXi,Lp hf hN hl hs,Ig,Jo,Rw hN (show m17.length≤1048576 by omega)]
 subst hres;simp only [Mw,As,lnx]
 cases hv:BZ (⟨⟨m0,m1,m2,m3,m4,m5,m6,m7,m8,m9,m10,m11,m12,m13⟩,m14,m15,m16,m17,m18,m19,m20,m21,m22⟩:Mat)
 case false=>rfl
 cases h0:(m17.length:Int)==0
 case true=>rfl
 simp only [PXb,KV h0 hl]
 generalize inn m17 (IntKind.i64.wrap ((m17.length:Int) - 1)).toNat=x
 cases x.ending==5
 case true=>rfl
 cases x.ending==0
 case true=>rfl
 cases (m17.length:Int)==IntKind.i64.wrap (2 * m2)<;>cases iLe x.target x.runs<;>cases x.runs==IntKind.i64.wrap (x.target - 1)<;>try rfl
 all_goals (cases (m17.length:Int)==3<;>try rfl)
 all_goals (simp only [PXb];cases iLt (BK (⟨⟨m0,m1,m2,m3,m4,m5,m6,m7,m8,m9,m10,m11,m12,m13⟩,m14,m15,m16,m17,m18,m19,m20,m21,m22⟩:Mat) x.side) (BK (⟨⟨m0,m1,m2,m3,m4,m5,m6,m7,m8,m9,m10,m11,m12,m13⟩,m14,m15,m16,m17,m18,m19,m20,m21,m22⟩:Mat) (Bv x.side))<;>rfl)
set_option maxHeartbeats 4000000 in
theorem me {N:Nat} {m1 m2 m3 m4 m5 m6 m7 m9 m10 m11 m12 m14 m15 m18 m19 m20 m21 m22:Int} {m8 m16:Bool} {m0:ByteArray} {m13:Rows} {m17:List Inn} (hf:CX m17) (hN:2097152<N) (hl:m17.length≤1000000) (hs:m0.size≤1048576):Ib N [.str m0,.int m1,.int m2,.int m3,.int m4,.int m5,.int m6,.int m7,.bool m8,.int m9,.int m10,.int m11,.int m12,.rows m13,.int m14,.int m15,.bool m16,.rows (AM m17),.int m18,.int m19,.int m20,.int m21,.int m22]=some (nI (Mw (⟨⟨m0,m1,m2,m3,m4,m5,m6,m7,m8,m9,m10,m11,m12,m13⟩,m14,m15,m16,m17,m18,m19,m20,m21,m22⟩:Mat))):=by
 show IX (std (CP N) N) (xOf _)=_
 generalize hres:(some (nI (Mw (⟨⟨m0,m1,m2,m3,m4,m5,m6,m7,m8,m9,m10,m11,m12,m13⟩,m14,m15,m16,m17,m18,m19,m20,m21,m22⟩:Mat))):Option (List PV))=RR
 simp only [IX,Up,LE,K2,K1,std,xOf,PXb,PXi,WE hf hN hl hs,GZ,LC hN (show m17.length≤1048576 by omega)]
 subst hres;simp only [Mw,As]
 cases hv:BZ (⟨⟨m0,m1,m2,m3,m4,m5,m6,m7,m8,m9,m10,m11,m12,m13⟩,m14,m15,m16,m17,m18,m19,m20,m21,m22⟩:Mat)
 case false=>rfl
 cases h0:(m17.length:Int)==0
 case true=>rfl
 simp only [PXb,PXm,LE,TI h0 hl,K2,K1,GZ,LC hN (show m17.length≤1048576 by omega)]
 generalize inn m17 (lnx m17)=x
 unfold Xh
 cases x.ending==5<;>cases m3==0<;>try rfl
 all_goals (cases x.ending==0<;>try rfl)
 all_goals (cases (m17.length:Int)==IntKind.i64.wrap (2 * m2)<;>cases iLe x.target x.runs<;>cases x.runs==IntKind.i64.wrap (x.target - 1)<;>try rfl)
 all_goals (cases (m17.length:Int)==3<;>try rfl)
 all_goals (simp only [PXb];cases iLt (BK (⟨⟨m0,m1,m2,m3,m4,m5,m6,m7,m8,m9,m10,m11,m12,m13⟩,m14,m15,m16,m17,m18,m19,m20,m21,m22⟩:Mat) x.side) (BK (⟨⟨m0,m1,m2,m3,m4,m5,m6,m7,m8,m9,m10,m11,m12,m13⟩,m14,m15,m16,m17,m18,m19,m20,m21,m22⟩:Mat) (Bv x.side))<;>rfl)
theorem pL:∀ (n k:Nat) (f:Nat→Nat),(∀ i,i<k→1≤f i∧f i≤n)→(∀ i j,i<j→j<k→f i≠f j)→k≤n
 | 0,k,f,h,_=>by
  rcases Nat.eq_zero_or_pos k with e | e
  ·omega
  ·have:=h 0 e;omega
 | n+1,0,f,_,_=>by omega
 | n+1,k+1,f,h,hi=>by
  by_cases he:∃ j,j<k+1∧f j=n+1
  ·obtain ⟨j,hj,hfj⟩:=he
   have:=pL n k (fun i=>if i=j then f k else f i) (fun i hik=>by
    show 1≤(if i=j then f k else f i)∧(if i=j then f k else f i)≤n
    by_cases e:i=j
    ·rw [if_pos e]
     have h1:=h k (by omega)
     have:f k≠f j:=fun e2=>hi j k (by omega) (by omega) e2.symm
     omega
    ·rw [if_neg e]
     have h1:=h i (by omega)
     have:f i≠f j:=by
      rcases Nat.lt_or_gt_of_ne e with e2 | e2
      ·exact hi i j e2 hj
      ·exact fun e3=>hi j i e2 (by omega) e3.symm
     omega) (fun a b hab hb=>by
    show (if a=j then f k else f a)≠(if b=j then f k else f b)
    by_cases e1:a=j
    ·have e2:b≠j:=by omega
     rw [if_pos e1,if_neg e2]
     exact fun e3=>hi b k hb (by omega) e3.symm
    ·rw [if_neg e1]
     by_cases e2:b=j
     ·rw [if_pos e2];exact hi a k (by omega) (by omega)
     ·rw [if_neg e2];exact hi a b hab (by omega))
   omega
  ·have:=pL n (k+1) f (fun i hik=>by
    have h1:=h i hik
    have:f i≠n+1:=fun e=>he ⟨i,hik,e⟩
    omega) hi
   omega
theorem pm {L:Rows} {n:Int} (h:GK L n=true) (hn:0≤n):(L.length:Int)≤n:=by
 unfold GK at h
 rw [Bool.not_eq_true',Fu] at h
 have hb:∀ i,i<L.length→1≤atI L i 0∧atI L i 0≤n:=fun i hi=>by
  have:=h i (by omega) (by omega)
  unfold K0 at this
  rw [Bool.or_eq_false_iff,Bool.not_eq_false',dY] at this
  exact this.1
 have:=pL n.toNat L.length (fun i=>(atI L i 0).toNat) (fun i hi=>by have:=hb i hi;show 1≤(atI L i 0).toNat∧(atI L i 0).toNat≤n.toNat;omega) (fun i j hij hj=>by
  show (atI L i 0).toNat≠(atI L j 0).toNat
  have h1:=hb i (by omega)
  have h2:=hb j hj
  have h3:=h j (by omega) (by omega)
  unfold K0 at h3
  rw [Bool.or_eq_false_iff] at h3
  have h4:=Fu.1 h3.2 i (by omega) (by omega)
  rw [beq_eq_false_iff_ne] at h4
  omega)
 omega
theorem Sm {r:Rul} {s:Inn} (h:FO r s=true):s.bowlers.length≤11∧s.before.length≤11∧s.Fit:=by
 have ok:=vC.1 h
 have hs:=xF ok
 have h1:=pm ok.dw (by omega)
 have h2:=pm ok.df (by omega)
 have h3:=ok.lb
 have h4:=ok.ld
 have h5:=ok.lz
 exact ⟨by omega,by omega,by omega,by omega,by omega,by omega,by omega⟩
end Go.Px
end
section
namespace Go.Px
set_option maxRecDepth 100000
def YT (m:Mat) (e:Ev):Mat×Int :=
  let sd:=Dz m (m.inns.length:Int)
  let b:=B3 m.rules sd (G2 m sd) (cond (sd==2) m.pen2 m.pen1)
  let t:=B7 m.rules b.1 e
  cond (!(b.2==0)) (m,1) (cond (!(t.2==0)) (m,t.2)
    ({ m with stage:=3,inns:=m.inns++[t.1],pen1:=cond (sd==1) 0 m.pen1,pen2:=cond (sd==2) 0 m.pen2 },0))
def S6 (xs:List Inn) (sd:Int):Nat→Option Nat
 | 0=>none
 | k+1=>cond ((inn xs k).side==sd) (some k) (S6 xs sd k)
def Lm (m:Mat) (sd:Int):Mat:=match S6 m.inns sd m.inns.length with
 | some k=>{ m with inns:=m.inns.set k (Oq (inn m.inns k)) }
 | none=>{ m with pen1:=cond (sd==1) (IntKind.i64.wrap (m.pen1+5)) m.pen1,pen2:=cond (sd==2) (IntKind.i64.wrap (m.pen2+5)) m.pen2 }
def TL (m:Mat) (e:Ev):Mat×Int :=
 let t:=B7 m.rules (As m) e
 cond (!(t.2==0)) (m,t.2) (cond (e.kind==13 && !(e.side==t.1.side)) (Lm { m with inns:=m.inns.set (lnx m.inns) t.1 } e.side) { m with inns:=m.inns.set (lnx m.inns) t.1 },0)
def nJ (m:Mat):Mat:={ m with inns:=cond (m.stage==3) (m.inns.set (lnx m.inns) { As m with ending:=5 }) m.inns,stage:=5,win:=Xh m.rules,wside:=0,margin:=0 }
def Hw (m:Mat) (e:Ev):Mat×Int :=
  cond (e.kind==1) (cond (!(m.stage==1)) (m,1) ({ m with first:=cond e.yes e.side (Bv e.side),stage:=2 },0))
    (cond (e.kind==2) (cond (!(m.stage==2)) (m,1) (YT m e))
      (cond (e.kind==12) (cond (!(m.stage==4)) (m,1) (cond (!(e.side==m.first)) (m,2) ({ m with follow:=e.yes,stage:=2 },0)))
        (cond (e.kind==16) (nJ m,0) (cond (!(m.stage==3)) (m,1) (TL m e)))))
def Pk (m:Mat):Mat :=
  let n:Int:=m.inns.length
  let sd:=(As m).side
  let o:=Mw { m with stage:=5 }
  cond (n==IntKind.i64.wrap (2 * m.rules.innings)||(n==3&&iLt (BK m sd) (BK m (Bv sd)))) { m with stage:=5,win:=o.1,wside:=o.2.1,margin:=o.2.2 }
    (cond (n==2&&iLt 0 m.rules.followon&&iLe m.rules.followon (IntKind.i64.wrap (BK m m.first - BK m (Bv m.first)))) { m with stage:=4 } { m with stage:=2 })
def Ty (m:Mat):Mat:=cond (m.stage==3 && !((As m).ending==0)) (Pk m) m
def A7 (m:Mat) (e:Ev):Mat×Int :=
 cond (!BZ m || !(evS e==0)) (m,1) (cond (m.stage==5) (m,26) (cond (!((Hw m e).2==0)) (m,(Hw m e).2) (Ty (Hw m e).1,0)))
theorem bind_ok {X:Option (List PV)} {r:List PV} {k:List PV→Option (List PV)} {g:Option (List PV)} (h:X=some r) (hk:k r=g):X.bind k=g:=by rw [h];exact hk
structure MatOk (m:Mat):Prop where
 code:Bj m.rules=0
 len:m.inns.length≤4
 innv:∀ i,i<m.inns.length→FO m.rules (inn m.inns i)=true∧(inn m.inns i).side=Dz m (i:Int)
 begun:(m.stage==3)=true→((m.inns.length:Int)==0)=false
 toss:(m.stage==2)=true→m.first=1∨m.first=2
 room:(m.stage==2)=true→(m.inns.length:Int)<2 * m.rules.innings
 most:IntKind.i64.wrap (2 * m.rules.innings)=2 * m.rules.innings∧(m.inns.length:Int)≤2 * m.rules.innings
theorem i5 {m:Mat} (h:BZ m=true):MatOk m:=by
 unfold BZ nQ at h
 simp only [Bool.and_eq_true,Bool.not_eq_true'] at h
 obtain ⟨⟨h1,h2,h3,h4,h5,h6,h7,h8,h9,h10⟩,h11,h12⟩:=h
 have hc:=beq_iff_eq.1 h1
 have rk:=(Kv hc).innings
 have e2:IntKind.i64.wrap (2 * m.rules.innings)=2 * m.rules.innings:=FJ (by omega) (by omega)
 rw [e2] at h5 h8
 rw [Bool.or_eq_false_iff,Bool.or_eq_false_iff] at h5
 have hn:=h5.2
 have hf1:=h5.1.1
 have hf2:=h5.1.2
 simp only [iLt,decide_eq_false_iff_not] at hn hf1 hf2
 refine ⟨hc,by omega,fun i hi=>?_,fun hs=>?_,fun hs=>?_,fun hs=>?_,e2,by omega⟩
 ·have:=Fu.1 h11 i (by omega) (by omega)
  unfold J7 at this
  rw [Bool.or_eq_false_iff,Bool.not_eq_false',Bool.not_eq_false',beq_iff_eq] at this
  exact this
 ·unfold X1 at h12
  rw [hs,Bool.and_eq_true] at h12
  have:=h12.2
  simp only [iLt,Bool.not_true,Bool.false_or,decide_eq_true_eq] at this
  exact beq_false_of_ne (by omega)
 ·rw [beq_iff_eq.1 hs] at h6
  cases h0:m.first==0 with
  | true=>rw [h0] at h6;simp at h6
  | false =>
   rw [beq_eq_false_iff_ne] at h0
   omega
 ·rw [hs,Bool.true_and,beq_eq_false_iff_ne] at h8
  omega
theorem ni {m:Mat} (h:m.first=1∨m.first=2) (i:Int):Dz m i=1∨Dz m i=2:=by
 unfold Dz
 cases cond (m.follow&&iLe 2 i) (i==2) (i.tmod 2==1) with
 | false=>exact h
 | true=>rcases h with h | h<;>rw [h]<;>decide
theorem vN {m:Mat} (h:MatOk m):CX m.inns:=fun i hi=>(Sm (h.innv i hi).1).2.2
theorem YM {F : (List AU → Option (List PV)) → List PV → Option (List PV)} {len : Nat} (enc : Nat → List AU) (ans : Nat → Option (List PV))
    (h0:∀ self,F self ((enc len).map Leaf.pv)=some [.int 1]) (h1:∀ i self,i<len→F self ((enc i).map Leaf.pv)=match ans i with | some r=>some (.int 0::r) | none=>self (enc (i+1))) :
    ∀ (k i n:Nat),i+k=len→k<n→EM F n ((enc i).map Leaf.pv)=some (TB (CR ans k i))
  | 0,i,n,hk,hn=>by
    obtain ⟨n,rfl⟩:∃ m,n=m+1:=⟨n - 1,by omega⟩
    obtain rfl:i=len:=by omega
    exact h0 _
  | k+1,i,n,hk,hn=>by
    obtain ⟨n,rfl⟩:∃ m,n=m+1:=⟨n - 1,by omega⟩
    show F _ _=_
    rw [h1 i _ (by omega)]
    simp only [CR]
    cases ans i with
    | some r=>rfl
    | none=>exact YM enc ans h0 h1 k (i+1) n (by omega) (by omega)
theorem lH (ys:List Inn) (sd:Int) (g:Nat→List PV) (n:Nat):∀ k,k≤n→CR (fun j=>cond ((inn ys (n - 1 - j)).side==sd) (some (g (n - 1 - j))) none) k (n - k)=(S6 ys sd k).map g
 | 0,_=>rfl
 | k+1,h=>by
  have ih:=lH ys sd g n k (by omega)
  have e:n - 1 - (n - (k+1))=k:=by omega
  have e2:n - (k+1)+1=n - k:=by omega
  simp only [CR,S6,e,e2,ih]
  cases (inn ys k).side==sd<;>rfl
theorem xi (xs:List Inn) (k:Nat) (s:Inn) (i:Nat) (hi:i<xs.length):inn (xs.set k s) i=(if k=i then s else inn xs i):=by
 rw [LT,LT,List.getElem?_set]
 by_cases h:k=i
 ·subst h
  rw [if_pos rfl,if_pos rfl,if_pos hi]
 ·rw [if_neg h,if_neg h]
theorem Tw {xs:List Inn} {s:Inn} (k:Nat) (h:CX xs) (hs:s.Fit):CX (xs.set k s):=fun i hi=>by
 rw [List.length_set] at hi
 rw [xi xs k s i hi]
 by_cases e:k=i
 ·rw [if_pos e];exact hs
 ·rw [if_neg e];exact h i hi
theorem mH {e:Ev} (h:(evS e==0)=true) (hk:(e.kind==13)=true):e.side=1∨e.side=2:=by
 have h0:=dU h
 rw [beq_iff_eq] at hk
 unfold evS at h
 rw [h0] at h
 cases h1:Wl e with
 | true=>rw [h1] at h;cases h
 | false =>
  cases h2:R9 e with
  | true=>rw [h1,h2] at h;cases h
  | false =>
   unfold R9 at h2
   rw [Bool.or_eq_false_iff] at h2
   have h3:=h2.1
   rw [hk,show uS 13=true from rfl,Bool.and_true] at h3
   simp only [btw,iLe,Bool.not_eq_false',Bool.and_eq_true,decide_eq_true_eq] at h3
   omega
theorem xC (xs:List Inn) (s:Inn) (i:Nat) (hi:i<xs.length+1):inn (xs++[s]) i=(if i<xs.length then inn xs i else s):=by
 rw [LT,LT]
 by_cases h:i<xs.length
 ·rw [if_pos h,List.getElem?_append_left h]
 ·have:i=xs.length:=by omega
  subst this
  rw [if_neg h,List.getElem?_append_right (Nat.le_refl _),Nat.sub_self]
  rfl
theorem wB {xs:List Inn} {s:Inn} (h:CX xs) (hs:s.Fit):CX (xs++[s]):=fun i hi=>by
 rw [List.length_append] at hi
 rw [xC xs s i hi]
 by_cases e:i<xs.length
 ·rw [if_pos e];exact h i e
 ·rw [if_neg e];exact hs
theorem lA (r:Rul) (a b c:Int) (e:Ev):(B7 r (B3 r a b c).1 e).1.Fit:=by
 obtain ⟨f,h1,h2⟩:=H7 r a b c
 exact LN (Ve r _ e) f (by rw [h1,h2];exact Nat.zero_le _)
structure ActOk (m:Mat) (x:Mat×Int):Prop where
 rules:x.1.rules=m.rules
 fit:CX x.1.inns
 len:x.1.inns.length≤5
 some':(x.2==0)=true→(x.1.stage==3)=true→((x.1.inns.length:Int)==0)=false
theorem A_c {m:Mat} (b:Bool) (x y:Mat×Int) (hx:ActOk m x) (hy:ActOk m y):ActOk m (cond b x y):=by cases b<;>assumption
theorem wT {m:Mat} (sd:Int) (hf:CX m.inns):(Lm m sd).rules=m.rules∧CX (Lm m sd).inns∧(Lm m sd).inns.length=m.inns.length∧(Lm m sd).stage=m.stage:=by
 unfold Lm
 cases h:S6 m.inns sd m.inns.length with
 | none=>exact ⟨rfl,hf,rfl,rfl⟩
 | some k =>
  have hk:k<m.inns.length:=by
   have:∀ n,S6 m.inns sd n=some k→k<n:=by
    intro n
    induction n with
    | zero=>intro h;cases h
    | succ n ih =>
     intro h
     unfold S6 at h
     cases hq:(inn m.inns n).side==sd with
     | true=>rw [hq] at h;cases h;omega
     | false=>rw [hq] at h;have:=ih h;omega
   exact this _ h
  exact ⟨rfl,Tw k hf (xQ (hf k hk)),List.length_set,rfl⟩
theorem uD {m:Mat} (ok:MatOk m) (e:Ev):ActOk m (Hw m e):=by
 have hf:=vN ok
 have hl:=ok.len
 have self:∀ n:Int,(n==0)=false→ActOk m (m,n):=fun n hn=>⟨rfl,hf,by show m.inns.length≤5;omega,fun h=>by rw [hn] at h;cases h⟩
 unfold Hw
 refine A_c _ _ _ (A_c _ _ _ (self 1 rfl) ⟨rfl,hf,by show m.inns.length≤5;omega,fun _ h=>by cases h⟩) (A_c _ _ _ ?_ (A_c _ _ _ ?_ (A_c _ _ _ ?_ ?_)))
 ·refine A_c _ _ _ (self 1 rfl) ?_
  unfold YT
  refine A_c _ _ _ (self 1 rfl) ?_
  cases hq:(B7 m.rules (B3 m.rules (Dz m (m.inns.length:Int)) (G2 m (Dz m (m.inns.length:Int))) (cond (Dz m (m.inns.length:Int)==2) m.pen2 m.pen1)).1 e).2==0 with
  | false =>
   simp only [Bool.not_false,cond_true]
   exact self _ hq
  | true =>
   simp only [Bool.not_true,cond_false]
   exact ⟨rfl,wB hf (lA _ _ _ _ e),by simp;omega,fun _ _=>by
    show ((((m.inns++[_]).length:Nat):Int)==0)=false
    rw [List.length_append]
    exact beq_false_of_ne (by simp;omega)⟩
 ·exact A_c _ _ _ (self 1 rfl) (A_c _ _ _ (self 2 rfl) ⟨rfl,hf,by show m.inns.length≤5;omega,fun _ h=>by cases h⟩)
 ·unfold nJ
  cases h3:m.stage==3 with
  | false=>exact ⟨rfl,hf,by show m.inns.length≤5;omega,fun _ h=>by cases h⟩
  | true =>
   have h0:=ok.begun h3
   have fl:=hf (lnx m.inns) (je h0 (by omega))
   exact ⟨rfl,Tw _ hf ⟨fl.bt,fl.bw,fl.bf,fl.bd,fl.sb⟩,by show (m.inns.set _ _).length≤5;rw [List.length_set];omega,fun _ h=>by cases h⟩
 ·cases h3:m.stage==3 with
  | false=>exact self 1 rfl
  | true =>
   have h0:=ok.begun h3
   have lv:=Sm (ok.innv (lnx m.inns) (je h0 (by omega))).1
   have h1:=lv.1
   have h2:=lv.2.1
   have ft:=LN (Ve m.rules (As m) e) lv.2.2 (show (inn m.inns (lnx m.inns)).before.length+(inn m.inns (lnx m.inns)).bowlers.length≤1048575 by omega)
   simp only [Bool.not_true,cond_false,TL]
   cases hq:(B7 m.rules (As m) e).2==0 with
   | false =>
    simp only [Bool.not_false,Bool.not_true,cond_true,cond_false]
    exact self _ hq
   | true =>
    have fs:=Tw (lnx m.inns) hf ft
    have ln:(m.inns.set (lnx m.inns) (B7 m.rules (As m) e).1).length=m.inns.length:=List.length_set
    simp only [Bool.not_true,cond_false]
    cases (e.kind==13 && !(e.side==(B7 m.rules (As m) e).1.side)) with
    | false =>
     exact ⟨rfl,fs,by show (m.inns.set _ _).length≤5;omega,fun _ _=>by
      show ((((m.inns.set _ _).length:Nat):Int)==0)=false
      rw [ln];exact h0⟩
    | true =>
     obtain ⟨a1,a2,a3,a4⟩:=wT (m:={ m with inns:=m.inns.set (lnx m.inns) (B7 m.rules (As m) e).1 }) e.side fs
     exact ⟨a1,a2,by show (Lm _ _).inns.length≤5;rw [a3];show (m.inns.set _ _).length≤5;omega,fun _ _=>by
      show ((((Lm _ _).inns.length:Nat):Int)==0)=false
      rw [a3]
      show ((((m.inns.set _ _).length:Nat):Int)==0)=false
      rw [ln];exact h0⟩
end Go.Px
end
section
namespace Go.Px
set_option maxRecDepth 100000
set_option maxHeartbeats 8000000 in
theorem dE {N:Nat} {m1 m2 m3 m4 m5 m6 m7 m9 m10 m11 m12 m14 m15 m18 m19 m20 m21 m22:Int} {m8 m16:Bool} {m0:ByteArray} {m13:Rows} {m17:List Inn} {e0 e1 e2 e3 e5 e6 e7 e8 e9 e10 e11 e13 e14 e15 e16 e18:Int} {e4 e12 e17:Bool} (hN:2097152<N) (hf:CX m17) (hl:m17.length≤1000000) (hs:m0.size≤1048576) (h13:m13.length≤1048576):Cv N [.str m0,.int m1,.int m2,.int m3,.int m4,.int m5,.int m6,.int m7,.bool m8,.int m9,.int m10,.int m11,.int m12,.rows m13,.int m14,.int m15,.bool m16,.rows (AM m17),.int m18,.int m19,.int m20,.int m21,.int m22,.int e0,.int e1,.int e2,.int e3,.bool e4,.int e5,.int e6,.int e7,.int e8,.int e9,.int e10,.int e11,.bool e12,.int e13,.int e14,.int e15,.int e16,.bool e17,.int e18]=some (Ma (A7 (⟨⟨m0,m1,m2,m3,m4,m5,m6,m7,m8,m9,m10,m11,m12,m13⟩,m14,m15,m16,m17,m18,m19,m20,m21,m22⟩:Mat) (⟨e0,e1,e2,e3,e4,e5,e6,⟨e7,e8,e9,e10,e11,e12,e13,e14,e15,e16,e17,e18⟩⟩:Ev))):=by
 show Na (std (BB N) N) (xOf _)=_
 generalize hres:(some (Ma (A7 (⟨⟨m0,m1,m2,m3,m4,m5,m6,m7,m8,m9,m10,m11,m12,m13⟩,m14,m15,m16,m17,m18,m19,m20,m21,m22⟩:Mat) (⟨e0,e1,e2,e3,e4,e5,e6,⟨e7,e8,e9,e10,e11,e12,e13,e14,e15,e16,e17,e18⟩⟩:Ev))):Option (List PV))=RR
 simp only [Na,Tj,Ue,UL,FF,FG,Jx,Ij,EN,El,DC,DY,Gw,std,xOf,PXb,Lp hf hN hl hs,Zl hN,mn hf hN hl h13]
 subst hres;simp only [A7]
 cases hv:BZ (⟨⟨m0,m1,m2,m3,m4,m5,m6,m7,m8,m9,m10,m11,m12,m13⟩,m14,m15,m16,m17,m18,m19,m20,m21,m22⟩:Mat)
 case false=>rfl
 cases he:evS (⟨e0,e1,e2,e3,e4,e5,e6,⟨e7,e8,e9,e10,e11,e12,e13,e14,e15,e16,e17,e18⟩⟩:Ev)==0
 case false=>simp only [PXb,he];rfl
 simp only [PXb,he]
 cases h5:m14==5
 case true=>rfl
 simp only [PXb]
 have ok:=i5 hv
 refine bind_ok (r:=.int (Hw (⟨⟨m0,m1,m2,m3,m4,m5,m6,m7,m8,m9,m10,m11,m12,m13⟩,m14,m15,m16,m17,m18,m19,m20,m21,m22⟩:Mat) (⟨e0,e1,e2,e3,e4,e5,e6,⟨e7,e8,e9,e10,e11,e12,e13,e14,e15,e16,e17,e18⟩⟩:Ev)).2::(Hw (⟨⟨m0,m1,m2,m3,m4,m5,m6,m7,m8,m9,m10,m11,m12,m13⟩,m14,m15,m16,m17,m18,m19,m20,m21,m22⟩:Mat) (⟨e0,e1,e2,e3,e4,e5,e6,⟨e7,e8,e9,e10,e11,e12,e13,e14,e15,e16,e17,e18⟩⟩:Ev)).1.ls) ?_ ?_
 ·unfold Hw
  cases hk1:e0==1
  case true =>
   simp only [PXb,FG,Ig]
   cases m14==1<;>cases e4<;>rfl
  cases hk2:e0==2
  case true =>
   simp only [PXb]
   cases hs2:m14==2
   case false=>rfl
   have hl2:m17.length≤1048576:=by omega
   have h304:iSm ((m17.length+1:Nat):Int) 304=true:=DM (by omega) (by omega)
   have fb:=fun a b c=>(H7 (⟨⟨m0,m1,m2,m3,m4,m5,m6,m7,m8,m9,m10,m11,m12,m13⟩,m14,m15,m16,m17,m18,m19,m20,m21,m22⟩:Mat).rules a b c).1
   have wb:∀ a b c,(B3 (⟨⟨m0,m1,m2,m3,m4,m5,m6,m7,m8,m9,m10,m11,m12,m13⟩,m14,m15,m16,m17,m18,m19,m20,m21,m22⟩:Mat).rules a b c).1.before.length+(B3 (⟨⟨m0,m1,m2,m3,m4,m5,m6,m7,m8,m9,m10,m11,m12,m13⟩,m14,m15,m16,m17,m18,m19,m20,m21,m22⟩:Mat).rules a b c).1.bowlers.length≤1000000:=fun a b c=>by
    rw [(H7 (⟨⟨m0,m1,m2,m3,m4,m5,m6,m7,m8,m9,m10,m11,m12,m13⟩,m14,m15,m16,m17,m18,m19,m20,m21,m22⟩:Mat).rules a b c).2.1,(H7 (⟨⟨m0,m1,m2,m3,m4,m5,m6,m7,m8,m9,m10,m11,m12,m13⟩,m14,m15,m16,m17,m18,m19,m20,m21,m22⟩:Mat).rules a b c).2.2]
    exact Nat.zero_le _
   rcases ni (m:=(⟨⟨m0,m1,m2,m3,m4,m5,m6,m7,m8,m9,m10,m11,m12,m13⟩,m14,m15,m16,m17,m18,m19,m20,m21,m22⟩:Mat)) (ok.toss hs2) (m17.length:Int) with ho | ho
   ·simp only [PXb,PXc,Ch,UN,Nat.reduceAdd,Int.reduceBEq,PXi,PXr,Inn.eta,AY,List.length_append,List.length_cons,List.length_nil,h304,YT,FF,El,EN,DC,SM,XW hN hl2,Vy hN hs,Pw (fb _ _ _) (wb _ _ _) hN hs h13,ho,wr1,wr2,WV,WM]
    cases (B3 (⟨⟨m0,m1,m2,m3,m4,m5,m6,m7,m8,m9,m10,m11,m12,m13⟩,m14,m15,m16,m17,m18,m19,m20,m21,m22⟩:Mat).rules 1 (G2 (⟨⟨m0,m1,m2,m3,m4,m5,m6,m7,m8,m9,m10,m11,m12,m13⟩,m14,m15,m16,m17,m18,m19,m20,m21,m22⟩:Mat) 1) m18).2==0<;>try rfl
    cases (B7 (⟨⟨m0,m1,m2,m3,m4,m5,m6,m7,m8,m9,m10,m11,m12,m13⟩,m14,m15,m16,m17,m18,m19,m20,m21,m22⟩:Mat).rules (B3 (⟨⟨m0,m1,m2,m3,m4,m5,m6,m7,m8,m9,m10,m11,m12,m13⟩,m14,m15,m16,m17,m18,m19,m20,m21,m22⟩:Mat).rules 1 (G2 (⟨⟨m0,m1,m2,m3,m4,m5,m6,m7,m8,m9,m10,m11,m12,m13⟩,m14,m15,m16,m17,m18,m19,m20,m21,m22⟩:Mat) 1) m18).1 (⟨e0,e1,e2,e3,e4,e5,e6,⟨e7,e8,e9,e10,e11,e12,e13,e14,e15,e16,e17,e18⟩⟩:Ev)).2==0<;>rfl
   ·simp only [PXb,PXc,Ch,UN,Nat.reduceAdd,Int.reduceBEq,PXi,PXr,Inn.eta,AY,List.length_append,List.length_cons,List.length_nil,h304,YT,FF,El,EN,DC,SM,XW hN hl2,Vy hN hs,Pw (fb _ _ _) (wb _ _ _) hN hs h13,ho,wr1,wr2,WV,WM]
    cases (B3 (⟨⟨m0,m1,m2,m3,m4,m5,m6,m7,m8,m9,m10,m11,m12,m13⟩,m14,m15,m16,m17,m18,m19,m20,m21,m22⟩:Mat).rules 2 (G2 (⟨⟨m0,m1,m2,m3,m4,m5,m6,m7,m8,m9,m10,m11,m12,m13⟩,m14,m15,m16,m17,m18,m19,m20,m21,m22⟩:Mat) 2) m19).2==0<;>try rfl
    cases (B7 (⟨⟨m0,m1,m2,m3,m4,m5,m6,m7,m8,m9,m10,m11,m12,m13⟩,m14,m15,m16,m17,m18,m19,m20,m21,m22⟩:Mat).rules (B3 (⟨⟨m0,m1,m2,m3,m4,m5,m6,m7,m8,m9,m10,m11,m12,m13⟩,m14,m15,m16,m17,m18,m19,m20,m21,m22⟩:Mat).rules 2 (G2 (⟨⟨m0,m1,m2,m3,m4,m5,m6,m7,m8,m9,m10,m11,m12,m13⟩,m14,m15,m16,m17,m18,m19,m20,m21,m22⟩:Mat) 2) m19).1 (⟨e0,e1,e2,e3,e4,e5,e6,⟨e7,e8,e9,e10,e11,e12,e13,e14,e15,e16,e17,e18⟩⟩:Ev)).2==0<;>rfl
  cases hk3:e0==12
  case true =>
   simp only [PXb]
   cases m14==4<;>cases e1==m15<;>rfl
  cases hk4:e0==16
  case true =>
   simp only [PXb,nJ]
   cases h3:m14==3
   case false=>simp only [PXb,PXc,PXi,PXr,Ch,Nat.reduceAdd,DY,Jo];rfl
   simp only [PXb,PXc,PXi,PXr,Ch,Nat.reduceAdd,KV (ok.begun h3) hl,DY,Jo]
   rfl
  simp only [PXb]
  cases h3:m14==3
  case false=>rfl
  have h0:=ok.begun h3
  have lv:=Sm (ok.innv (lnx m17) (je h0 hl)).1
  have fl:(inn m17 (IntKind.i64.wrap ((m17.length:Int) - 1)).toNat).Fit:=lv.2.2
  have wl:(inn m17 (IntKind.i64.wrap ((m17.length:Int) - 1)).toNat).before.length+(inn m17 (IntKind.i64.wrap ((m17.length:Int) - 1)).toNat).bowlers.length≤1000000:=by
   have h1:=lv.1
   have h2:=lv.2.1
   change (inn m17 (IntKind.i64.wrap ((m17.length:Int) - 1)).toNat).bowlers.length≤11 at h1
   change (inn m17 (IntKind.i64.wrap ((m17.length:Int) - 1)).toNat).before.length≤11 at h2
   omega
  have f1:=LN (Ve (⟨⟨m0,m1,m2,m3,m4,m5,m6,m7,m8,m9,m10,m11,m12,m13⟩,m14,m15,m16,m17,m18,m19,m20,m21,m22⟩:Mat).rules (inn m17 (IntKind.i64.wrap ((m17.length:Int) - 1)).toNat) (⟨e0,e1,e2,e3,e4,e5,e6,⟨e7,e8,e9,e10,e11,e12,e13,e14,e15,e16,e17,e18⟩⟩:Ev)) fl (by omega)
  simp only [PXb,PXc,PXi,PXr,AY,Inn.eta,Ch,Nat.reduceAdd,List.length_set,KV h0 hl,DC,Pw fl wl hN hs h13,TL,As,lnx]
  generalize hX:B7 (⟨⟨m0,m1,m2,m3,m4,m5,m6,m7,m8,m9,m10,m11,m12,m13⟩,m14,m15,m16,m17,m18,m19,m20,m21,m22⟩:Mat).rules (inn m17 (IntKind.i64.wrap ((m17.length:Int) - 1)).toNat) (⟨e0,e1,e2,e3,e4,e5,e6,⟨e7,e8,e9,e10,e11,e12,e13,e14,e15,e16,e17,e18⟩⟩:Ev)=X at f1
  have fy:=Tw (IntKind.i64.wrap ((m17.length:Int) - 1)).toNat hf f1
  generalize hy:m17.set (IntKind.i64.wrap ((m17.length:Int) - 1)).toNat X.1=ys at fy
  have ly:ys.length=m17.length:=by rw [← hy,List.length_set]
  cases X.2==0<;>try rfl
  cases h13k:e0==13
  case false=>rfl
  cases hsd:e1==X.1.side
  case true=>rfl
  simp only [PXb,Option.bind_assoc]
  have e0w:IntKind.i64.wrap ((m17.length:Int) - 1)=(m17.length:Int) - 1 - ((0:Nat):Int):=by
   rw [beq_eq_false_iff_ne] at h0
   rw [FJ (by omega) (by omega)];omega
  rw [e0w]
  have hside:=mH (e:=(⟨e0,e1,e2,e3,e4,e5,e6,⟨e7,e8,e9,e10,e11,e12,e13,e14,e15,e16,e17,e18⟩⟩:Ev)) he h13k
  simp only at hside
  refine AH (YM (len:=m17.length) (fun j=>[.int ((m17.length:Int) - 1 - (j:Int))]) (fun j=>cond ((inn ys (m17.length - 1 - j)).side==e1) (some [PV.str m0,PV.int m1,PV.int m2,PV.int m3,PV.int m4,PV.int m5,PV.int m6,PV.int m7,PV.bool m8,PV.int m9,PV.int m10,PV.int m11,PV.int m12,PV.rows m13,PV.int m14,PV.int m15,PV.bool m16,PV.rows (AM (ys.set (m17.length - 1 - j) (Oq (inn ys (m17.length - 1 - j))))),PV.int m18,PV.int m19,PV.int m20,PV.int m21,PV.int m22]) none) ?_ ?_ m17.length 0 N (by omega) (by omega)) ?_
  ·intro self
   have q1:iLe 0 ((m17.length:Int) - 1 - (m17.length:Int))=false:=by simp only [iLe,decide_eq_false_iff_not];omega
   simp only [PXb,q1]
  ·intro i self hi
   have q1:iLe 0 ((m17.length:Int) - 1 - (i:Int))=true:=by simp only [iLe,decide_eq_true_eq];omega
   have q2:iIn ((m17.length:Int) - 1 - (i:Int)) (m17.length:Int)=true:=by simp only [iIn,decide_eq_true_eq];omega
   have q3:((m17.length:Int) - 1 - (i:Int)).toNat=m17.length - 1 - i:=by omega
   have q4:IntKind.i64.wrap ((m17.length:Int) - 1 - (i:Int) - 1)=(m17.length:Int) - 1 - ((i+1:Nat):Int):=by rw [FJ (by omega) (by omega)];omega
   have q5:=fy (m17.length - 1 - i) (by omega)
   simp only [PXb,PXc,q1,q2,q3,q4,Gw,SZ q5,PXm]
   cases (inn ys (m17.length - 1 - i)).side==e1<;>rfl
  ·have hfa:=lH ys e1 (fun k=>[PV.str m0,PV.int m1,PV.int m2,PV.int m3,PV.int m4,PV.int m5,PV.int m6,PV.int m7,PV.bool m8,PV.int m9,PV.int m10,PV.int m11,PV.int m12,PV.rows m13,PV.int m14,PV.int m15,PV.bool m16,PV.rows (AM (ys.set k (Oq (inn ys k)))),PV.int m18,PV.int m19,PV.int m20,PV.int m21,PV.int m22]) m17.length m17.length (Nat.le_refl _)
   rw [Nat.sub_self] at hfa
   rw [hfa]
   unfold Lm
   simp only [ly]
   cases S6 ys e1 m17.length with
   | some k=>rfl
   | none =>
    rcases hside with h | h<;>subst h
    ·simp only [Option.map_none,TB,PXb,PXc,Ch,Int.reduceBEq,wr1,WV]
     rfl
    ·simp only [Option.map_none,TB,PXb,PXc,Ch,Int.reduceBEq,wr2,WM]
     rfl
 ·have ak:=uD ok (⟨e0,e1,e2,e3,e4,e5,e6,⟨e7,e8,e9,e10,e11,e12,e13,e14,e15,e16,e17,e18⟩⟩:Ev)
  generalize Hw (⟨⟨m0,m1,m2,m3,m4,m5,m6,m7,m8,m9,m10,m11,m12,m13⟩,m14,m15,m16,m17,m18,m19,m20,m21,m22⟩:Mat) (⟨e0,e1,e2,e3,e4,e5,e6,⟨e7,e8,e9,e10,e11,e12,e13,e14,e15,e16,e17,e18⟩⟩:Ev)=A at ak
  obtain ⟨⟨⟨a0,a1,a2,a3,a4,a5,a6,a7,a8,a9,a10,a11,a12,a13⟩,a14,a15,a16,a17,a18,a19,a20,a21,a22⟩,l⟩:=A
  obtain ⟨k1,k2,k3,k4⟩:=ak
  simp only at k1 k2 k3 k4
  have hl5:a17.length≤1048576:=by omega
  have hs5:a0.size≤1048576:=by
   have:=congrArg Rul.name k1
   simp only at this
   rw [this];exact hs
  simp only [PXb,PXc,PXk,PXi,Ch,Nat.reduceAdd]
  cases hl0:l==0
  case false=>rfl
  simp only [PXb,Ty]
  cases h3:a14==3
  case false=>rfl
  have h0:=k4 hl0 h3
  have li:=KV h0 (show a17.length≤1000000 by omega)
  simp only [PXb,PXc,PXi,li]
  cases he2:(inn a17 (IntKind.i64.wrap ((a17.length:Int) - 1)).toNat).ending==0
  case true=>simp only [PXb,As,lnx,he2]
  simp only [PXb,PXc,PXi,As,lnx,he2,Jx,FG,Ij,Rw hN hl5,Ig,jR k2 hN (show a17.length≤1000000 by omega) hs5]
  unfold Pk
  simp only [As,lnx]
  simp only [BK,As,lnx]
  cases hq1:((a17.length:Int)==IntKind.i64.wrap (2 * a2))
  case true=>rfl
  cases hq2:((a17.length:Int)==3)
  case true =>
   simp only [PXb]
   cases iLt (Ga a17 (inn a17 (IntKind.i64.wrap ((a17.length:Int) - 1)).toNat).side a17.length) (Ga a17 (Bv (inn a17 (IntKind.i64.wrap ((a17.length:Int) - 1)).toNat).side) a17.length)
   case true=>rfl
   simp only [PXb]
   cases ((a17.length:Int)==2)&&iLt 0 a10&&iLe a10 (IntKind.i64.wrap (Ga a17 a15 a17.length - Ga a17 (Bv a15) a17.length))<;>rfl
  simp only [PXb]
  cases ((a17.length:Int)==2)&&iLt 0 a10&&iLe a10 (IntKind.i64.wrap (Ga a17 a15 a17.length - Ga a17 (Bv a15) a17.length))<;>rfl
end Go.Px
end
section
namespace Go.Px
set_option maxRecDepth 100000
def UW (m:Mat):Int:=cond (!BZ m) 0 (cond (m.stage==3) (As m).side (cond (m.stage==2) (Dz m (m.inns.length:Int)) 0))
theorem mh {N:Nat} {m1 m2 m3 m4 m5 m6 m7 m9 m10 m11 m12 m14 m15 m18 m19 m20 m21 m22:Int} {m8 m16:Bool} {m0:ByteArray} {m13:Rows} {m17:List Inn} (hf:CX m17) (hN:2097152<N) (hl:m17.length≤1000000) (hs:m0.size≤1048576):Is N [.str m0,.int m1,.int m2,.int m3,.int m4,.int m5,.int m6,.int m7,.bool m8,.int m9,.int m10,.int m11,.int m12,.rows m13,.int m14,.int m15,.bool m16,.rows (AM m17),.int m18,.int m19,.int m20,.int m21,.int m22]=some [.int (UW (⟨⟨m0,m1,m2,m3,m4,m5,m6,m7,m8,m9,m10,m11,m12,m13⟩,m14,m15,m16,m17,m18,m19,m20,m21,m22⟩:Mat))]:=by
 show Ir (std (Cl N) N) (xOf _)=_
 generalize hres:(some [.int (UW (⟨⟨m0,m1,m2,m3,m4,m5,m6,m7,m8,m9,m10,m11,m12,m13⟩,m14,m15,m16,m17,m18,m19,m20,m21,m22⟩:Mat))]:Option (List PV))=RR
 simp only [Ir,Uq,LP,Js,std,xOf,PXb,WE hf hN hl hs]
 subst hres;simp only [UW]
 cases hv:BZ (⟨⟨m0,m1,m2,m3,m4,m5,m6,m7,m8,m9,m10,m11,m12,m13⟩,m14,m15,m16,m17,m18,m19,m20,m21,m22⟩:Mat)
 case false=>rfl
 have ok:=i5 hv
 simp only [PXb]
 cases h3:m14==3
 case true=>simp only [PXb,PXi,LP,TI (ok.begun h3) hl,As,PXm]
 cases h2:m14==2
 case false=>rfl
 have hr:=ok.room h2
 have rk:=(Kv ok.code).innings
 simp only at hr rk
 have hi3:0≤(m17.length:Int)∧(m17.length:Int)≤3:=by omega
 simp only [PXb,PXi,Js,aX hi3]
theorem vP {m:Mat} (ok:MatOk m) (h2:(m.stage==2)=true) (sd:Int):G2 m sd=cond (IntKind.i64.wrap ((m.inns.length:Int)+1)==IntKind.i64.wrap (2 * m.rules.innings)) (IntKind.i64.wrap (IntKind.i64.wrap (BK m (Bv sd) - BK m sd)+1)) 0:=by
 have hr:=ok.room h2
 have hm:=ok.most.1
 have hl:=ok.len
 unfold G2
 rw [hm,FJ (by omega) (by omega)]
 cases hq:((m.inns.length:Int)+1==2 * m.rules.innings) with
 | true =>
  rw [beq_iff_eq] at hq
  rw [show iLt ((m.inns.length:Int)+1) (2 * m.rules.innings)=false by simp only [iLt,decide_eq_false_iff_not];omega]
  rfl
 | false =>
  rw [beq_eq_false_iff_ne] at hq
  rw [show iLt ((m.inns.length:Int)+1) (2 * m.rules.innings)=true by simp only [iLt,decide_eq_true_eq];omega]
  rfl
set_option maxHeartbeats 4000000 in
theorem sC {N:Nat} {m1 m2 m3 m4 m5 m6 m7 m9 m10 m11 m12 m14 m15 m18 m19 m20 m21 m22:Int} {m8 m16:Bool} {m0:ByteArray} {m13:Rows} {m17:List Inn} {e0 e1 e2 e3 e5 e6 e7 e8 e9 e10 e11 e13 e14 e15 e16 e18:Int} {e4 e12 e17:Bool} (hN:2097152<N) (hf:CX m17) (hl:m17.length≤1000000) (hs:m0.size≤1048576) (h13:m13.length≤1048576) (ok:MatOk (⟨⟨m0,m1,m2,m3,m4,m5,m6,m7,m8,m9,m10,m11,m12,m13⟩,m14,m15,m16,m17,m18,m19,m20,m21,m22⟩:Mat)) (hv:BZ (⟨⟨m0,m1,m2,m3,m4,m5,m6,m7,m8,m9,m10,m11,m12,m13⟩,m14,m15,m16,m17,m18,m19,m20,m21,m22⟩:Mat)=true) (hs2:(m14==2)=true):Ok N [.str m0,.int m1,.int m2,.int m3,.int m4,.int m5,.int m6,.int m7,.bool m8,.int m9,.int m10,.int m11,.int m12,.rows m13,.int m14,.int m15,.bool m16,.rows (AM m17),.int m18,.int m19,.int m20,.int m21,.int m22,.int e0,.int e1,.int e2,.int e3,.bool e4,.int e5,.int e6,.int e7,.int e8,.int e9,.int e10,.int e11,.bool e12,.int e13,.int e14,.int e15,.int e16,.bool e17,.int e18]=some (Ma (YT (⟨⟨m0,m1,m2,m3,m4,m5,m6,m7,m8,m9,m10,m11,m12,m13⟩,m14,m15,m16,m17,m18,m19,m20,m21,m22⟩:Mat) (⟨e0,e1,e2,e3,e4,e5,e6,⟨e7,e8,e9,e10,e11,e12,e13,e14,e15,e16,e17,e18⟩⟩:Ev))):=by
 show Np (std (C0 N) N) (xOf _)=_
 have hl2:m17.length≤1048576:=by omega
 have h304:iSm ((m17.length+1:Nat):Int) 304=true:=DM (by omega) (by omega)
 have fb:=fun a b c=>(H7 (⟨⟨m0,m1,m2,m3,m4,m5,m6,m7,m8,m9,m10,m11,m12,m13⟩,m14,m15,m16,m17,m18,m19,m20,m21,m22⟩:Mat).rules a b c).1
 have wb:∀ a b c,(B3 (⟨⟨m0,m1,m2,m3,m4,m5,m6,m7,m8,m9,m10,m11,m12,m13⟩,m14,m15,m16,m17,m18,m19,m20,m21,m22⟩:Mat).rules a b c).1.before.length+(B3 (⟨⟨m0,m1,m2,m3,m4,m5,m6,m7,m8,m9,m10,m11,m12,m13⟩,m14,m15,m16,m17,m18,m19,m20,m21,m22⟩:Mat).rules a b c).1.bowlers.length≤1000000:=fun a b c=>by
  rw [(H7 (⟨⟨m0,m1,m2,m3,m4,m5,m6,m7,m8,m9,m10,m11,m12,m13⟩,m14,m15,m16,m17,m18,m19,m20,m21,m22⟩:Mat).rules a b c).2.1,(H7 (⟨⟨m0,m1,m2,m3,m4,m5,m6,m7,m8,m9,m10,m11,m12,m13⟩,m14,m15,m16,m17,m18,m19,m20,m21,m22⟩:Mat).rules a b c).2.2]
  exact Nat.zero_le _
 have hb:UW (⟨⟨m0,m1,m2,m3,m4,m5,m6,m7,m8,m9,m10,m11,m12,m13⟩,m14,m15,m16,m17,m18,m19,m20,m21,m22⟩:Mat)=Dz (⟨⟨m0,m1,m2,m3,m4,m5,m6,m7,m8,m9,m10,m11,m12,m13⟩,m14,m15,m16,m17,m18,m19,m20,m21,m22⟩:Mat) (m17.length:Int):=by
  unfold UW
  rw [hv]
  have h3:(m14==3)=false:=by
   rw [beq_iff_eq] at hs2
   rw [hs2];rfl
  simp only [PXb,h3,hs2]
 have ht:=fun sd=>vP ok hs2 sd
 simp only at ht
 simp only [Np,H5,IL,WQ,H1,JC,std,xOf,PXb,mh hf hN hl hs,hb]
 rcases ni (m:=(⟨⟨m0,m1,m2,m3,m4,m5,m6,m7,m8,m9,m10,m11,m12,m13⟩,m14,m15,m16,m17,m18,m19,m20,m21,m22⟩:Mat)) (ok.toss hs2) (m17.length:Int) with ho | ho
 ·simp only [PXb,PXc,ho,wr1,wr2,WV,WM,Ch,UN,Nat.reduceAdd,Int.reduceBEq,YT,ht,PXi,H5,IL,GZ,LC hN hl2]
  generalize hT:cond (IntKind.i64.wrap ((m17.length:Int)+1)==IntKind.i64.wrap (2 * m2)) (IntKind.i64.wrap (IntKind.i64.wrap (BK (⟨⟨m0,m1,m2,m3,m4,m5,m6,m7,m8,m9,m10,m11,m12,m13⟩,m14,m15,m16,m17,m18,m19,m20,m21,m22⟩:Mat) (Bv 1) - BK (⟨⟨m0,m1,m2,m3,m4,m5,m6,m7,m8,m9,m10,m11,m12,m13⟩,m14,m15,m16,m17,m18,m19,m20,m21,m22⟩:Mat) 1)+1)) 0=T
  refine bind_ok (r:=[.int T]) (by subst hT;cases IntKind.i64.wrap ((m17.length:Int)+1)==IntKind.i64.wrap (2 * m2)<;>rfl) ?_
  simp only [PXb,PXc,PXi,PXr,Inn.eta,AY,List.length_append,List.length_cons,List.length_nil,h304,Ch,UN,Nat.reduceAdd,Int.reduceBEq,H1,JC,fc hN hs,Ym (fb _ _ _) (wb _ _ _) hN hs h13]
  cases (B3 (⟨⟨m0,m1,m2,m3,m4,m5,m6,m7,m8,m9,m10,m11,m12,m13⟩,m14,m15,m16,m17,m18,m19,m20,m21,m22⟩:Mat).rules 1 T m18).2==0<;>try rfl
  cases (B7 (⟨⟨m0,m1,m2,m3,m4,m5,m6,m7,m8,m9,m10,m11,m12,m13⟩,m14,m15,m16,m17,m18,m19,m20,m21,m22⟩:Mat).rules (B3 (⟨⟨m0,m1,m2,m3,m4,m5,m6,m7,m8,m9,m10,m11,m12,m13⟩,m14,m15,m16,m17,m18,m19,m20,m21,m22⟩:Mat).rules 1 T m18).1 (⟨e0,e1,e2,e3,e4,e5,e6,⟨e7,e8,e9,e10,e11,e12,e13,e14,e15,e16,e17,e18⟩⟩:Ev)).2==0<;>rfl
 ·simp only [PXb,PXc,ho,wr1,wr2,WV,WM,Ch,UN,Nat.reduceAdd,Int.reduceBEq,YT,ht,PXi,H5,IL,GZ,LC hN hl2]
  generalize hT:cond (IntKind.i64.wrap ((m17.length:Int)+1)==IntKind.i64.wrap (2 * m2)) (IntKind.i64.wrap (IntKind.i64.wrap (BK (⟨⟨m0,m1,m2,m3,m4,m5,m6,m7,m8,m9,m10,m11,m12,m13⟩,m14,m15,m16,m17,m18,m19,m20,m21,m22⟩:Mat) (Bv 2) - BK (⟨⟨m0,m1,m2,m3,m4,m5,m6,m7,m8,m9,m10,m11,m12,m13⟩,m14,m15,m16,m17,m18,m19,m20,m21,m22⟩:Mat) 2)+1)) 0=T
  refine bind_ok (r:=[.int T]) (by subst hT;cases IntKind.i64.wrap ((m17.length:Int)+1)==IntKind.i64.wrap (2 * m2)<;>rfl) ?_
  simp only [PXb,PXc,PXi,PXr,Inn.eta,AY,List.length_append,List.length_cons,List.length_nil,h304,Ch,UN,Nat.reduceAdd,Int.reduceBEq,H1,JC,fc hN hs,Ym (fb _ _ _) (wb _ _ _) hN hs h13]
  cases (B3 (⟨⟨m0,m1,m2,m3,m4,m5,m6,m7,m8,m9,m10,m11,m12,m13⟩,m14,m15,m16,m17,m18,m19,m20,m21,m22⟩:Mat).rules 2 T m19).2==0<;>try rfl
  cases (B7 (⟨⟨m0,m1,m2,m3,m4,m5,m6,m7,m8,m9,m10,m11,m12,m13⟩,m14,m15,m16,m17,m18,m19,m20,m21,m22⟩:Mat).rules (B3 (⟨⟨m0,m1,m2,m3,m4,m5,m6,m7,m8,m9,m10,m11,m12,m13⟩,m14,m15,m16,m17,m18,m19,m20,m21,m22⟩:Mat).rules 2 T m19).1 (⟨e0,e1,e2,e3,e4,e5,e6,⟨e7,e8,e9,e10,e11,e12,e13,e14,e15,e16,e17,e18⟩⟩:Ev)).2==0<;>rfl
end Go.Px
end
section
namespace Go.Px
set_option maxRecDepth 100000
set_option maxHeartbeats 8000000 in
theorem tB {N:Nat} {m1 m2 m3 m4 m5 m6 m7 m9 m10 m11 m12 m14 m15 m18 m19 m20 m21 m22:Int} {m8 m16:Bool} {m0:ByteArray} {m13:Rows} {m17:List Inn} {e0 e1 e2 e3 e5 e6 e7 e8 e9 e10 e11 e13 e14 e15 e16 e18:Int} {e4 e12 e17:Bool} (hN:2097152<N) (hf:CX m17) (hl:m17.length≤1000000) (hs:m0.size≤1048576) (h13:m13.length≤1048576) (ok:MatOk (⟨⟨m0,m1,m2,m3,m4,m5,m6,m7,m8,m9,m10,m11,m12,m13⟩,m14,m15,m16,m17,m18,m19,m20,m21,m22⟩:Mat)) (he:(evS (⟨e0,e1,e2,e3,e4,e5,e6,⟨e7,e8,e9,e10,e11,e12,e13,e14,e15,e16,e17,e18⟩⟩:Ev)==0)=true) (h3:(m14==3)=true):Ow N [.str m0,.int m1,.int m2,.int m3,.int m4,.int m5,.int m6,.int m7,.bool m8,.int m9,.int m10,.int m11,.int m12,.rows m13,.int m14,.int m15,.bool m16,.rows (AM m17),.int m18,.int m19,.int m20,.int m21,.int m22,.int e0,.int e1,.int e2,.int e3,.bool e4,.int e5,.int e6,.int e7,.int e8,.int e9,.int e10,.int e11,.bool e12,.int e13,.int e14,.int e15,.int e16,.bool e17,.int e18]=some (Ma (TL (⟨⟨m0,m1,m2,m3,m4,m5,m6,m7,m8,m9,m10,m11,m12,m13⟩,m14,m15,m16,m17,m18,m19,m20,m21,m22⟩:Mat) (⟨e0,e1,e2,e3,e4,e5,e6,⟨e7,e8,e9,e10,e11,e12,e13,e14,e15,e16,e17,e18⟩⟩:Ev))):=by
 show O8 (std (FK N) N) (xOf _)=_
 simp only [O8,PT,LW,std,xOf,PXb]
 have h0:=ok.begun h3
 have lv:=Sm (ok.innv (lnx m17) (je h0 hl)).1
 have fl:(inn m17 (IntKind.i64.wrap ((m17.length:Int) - 1)).toNat).Fit:=lv.2.2
 have wl:(inn m17 (IntKind.i64.wrap ((m17.length:Int) - 1)).toNat).before.length+(inn m17 (IntKind.i64.wrap ((m17.length:Int) - 1)).toNat).bowlers.length≤1000000:=by
  have h1:=lv.1
  have h2:=lv.2.1
  change (inn m17 (IntKind.i64.wrap ((m17.length:Int) - 1)).toNat).bowlers.length≤11 at h1
  change (inn m17 (IntKind.i64.wrap ((m17.length:Int) - 1)).toNat).before.length≤11 at h2
  omega
 have f1:=LN (Ve (⟨⟨m0,m1,m2,m3,m4,m5,m6,m7,m8,m9,m10,m11,m12,m13⟩,m14,m15,m16,m17,m18,m19,m20,m21,m22⟩:Mat).rules (inn m17 (IntKind.i64.wrap ((m17.length:Int) - 1)).toNat) (⟨e0,e1,e2,e3,e4,e5,e6,⟨e7,e8,e9,e10,e11,e12,e13,e14,e15,e16,e17,e18⟩⟩:Ev)) fl (by omega)
 simp only [PXb,PXc,PXi,PXr,AY,Inn.eta,Ch,Nat.reduceAdd,List.length_set,KV h0 hl,PT,Ym fl wl hN hs h13,TL,As,lnx]
 generalize hX:B7 (⟨⟨m0,m1,m2,m3,m4,m5,m6,m7,m8,m9,m10,m11,m12,m13⟩,m14,m15,m16,m17,m18,m19,m20,m21,m22⟩:Mat).rules (inn m17 (IntKind.i64.wrap ((m17.length:Int) - 1)).toNat) (⟨e0,e1,e2,e3,e4,e5,e6,⟨e7,e8,e9,e10,e11,e12,e13,e14,e15,e16,e17,e18⟩⟩:Ev)=X at f1
 have fy:=Tw (IntKind.i64.wrap ((m17.length:Int) - 1)).toNat hf f1
 generalize hy:m17.set (IntKind.i64.wrap ((m17.length:Int) - 1)).toNat X.1=ys at fy
 have ly:ys.length=m17.length:=by rw [← hy,List.length_set]
 cases X.2==0<;>try rfl
 cases h13k:e0==13
 case false=>rfl
 cases hsd:e1==X.1.side
 case true=>rfl
 simp only [PXb,Option.bind_assoc]
 have e0w:IntKind.i64.wrap ((m17.length:Int) - 1)=(m17.length:Int) - 1 - ((0:Nat):Int):=by
  rw [beq_eq_false_iff_ne] at h0
  rw [FJ (by omega) (by omega)];omega
 rw [e0w]
 have hside:=mH (e:=(⟨e0,e1,e2,e3,e4,e5,e6,⟨e7,e8,e9,e10,e11,e12,e13,e14,e15,e16,e17,e18⟩⟩:Ev)) he h13k
 simp only at hside
 refine AH (YM (len:=m17.length) (fun j=>[.int ((m17.length:Int) - 1 - (j:Int))]) (fun j=>cond ((inn ys (m17.length - 1 - j)).side==e1) (some [PV.int 0,PV.str m0,PV.int m1,PV.int m2,PV.int m3,PV.int m4,PV.int m5,PV.int m6,PV.int m7,PV.bool m8,PV.int m9,PV.int m10,PV.int m11,PV.int m12,PV.rows m13,PV.int m14,PV.int m15,PV.bool m16,PV.rows (AM (ys.set (m17.length - 1 - j) (Oq (inn ys (m17.length - 1 - j))))),PV.int m18,PV.int m19,PV.int m20,PV.int m21,PV.int m22]) none) ?_ ?_ m17.length 0 N (by omega) (by omega)) ?_
 ·intro self
  have q1:iLe 0 ((m17.length:Int) - 1 - (m17.length:Int))=false:=by simp only [iLe,decide_eq_false_iff_not];omega
  simp only [PXb,q1]
 ·intro i self hi
  have q1:iLe 0 ((m17.length:Int) - 1 - (i:Int))=true:=by simp only [iLe,decide_eq_true_eq];omega
  have q2:iIn ((m17.length:Int) - 1 - (i:Int)) (m17.length:Int)=true:=by simp only [iIn,decide_eq_true_eq];omega
  have q3:((m17.length:Int) - 1 - (i:Int)).toNat=m17.length - 1 - i:=by omega
  have q4:IntKind.i64.wrap ((m17.length:Int) - 1 - (i:Int) - 1)=(m17.length:Int) - 1 - ((i+1:Nat):Int):=by rw [FJ (by omega) (by omega)];omega
  have q5:=fy (m17.length - 1 - i) (by omega)
  simp only [PXb,PXc,q1,q2,q3,q4,LW,ZT q5,PXm]
  cases (inn ys (m17.length - 1 - i)).side==e1<;>rfl
 ·have hfa:=lH ys e1 (fun k=>[PV.int 0,PV.str m0,PV.int m1,PV.int m2,PV.int m3,PV.int m4,PV.int m5,PV.int m6,PV.int m7,PV.bool m8,PV.int m9,PV.int m10,PV.int m11,PV.int m12,PV.rows m13,PV.int m14,PV.int m15,PV.bool m16,PV.rows (AM (ys.set k (Oq (inn ys k)))),PV.int m18,PV.int m19,PV.int m20,PV.int m21,PV.int m22]) m17.length m17.length (Nat.le_refl _)
  rw [Nat.sub_self] at hfa
  rw [hfa]
  unfold Lm
  simp only [ly]
  cases S6 ys e1 m17.length with
  | some k=>rfl
  | none =>
   rcases hside with h | h<;>subst h
   ·simp only [Option.map_none,TB,PXb,PXc,Ch,Int.reduceBEq,wr1,WV]
    rfl
   ·simp only [Option.map_none,TB,PXb,PXc,Ch,Int.reduceBEq,wr2,WM]
    rfl
set_option maxHeartbeats 4000000 in
theorem uA {N:Nat} {m1 m2 m3 m4 m5 m6 m7 m9 m10 m11 m12 m14 m15 m18 m19 m20 m21 m22:Int} {m8 m16:Bool} {m0:ByteArray} {m13:Rows} {m17:List Inn} {e0 e1 e2 e3 e5 e6 e7 e8 e9 e10 e11 e13 e14 e15 e16 e18:Int} {e4 e12 e17:Bool} (hN:2097152<N) (hf:CX m17) (hl:m17.length≤1000000) (hs:m0.size≤1048576) (h13:m13.length≤1048576) (ok:MatOk (⟨⟨m0,m1,m2,m3,m4,m5,m6,m7,m8,m9,m10,m11,m12,m13⟩,m14,m15,m16,m17,m18,m19,m20,m21,m22⟩:Mat)) (hv:BZ (⟨⟨m0,m1,m2,m3,m4,m5,m6,m7,m8,m9,m10,m11,m12,m13⟩,m14,m15,m16,m17,m18,m19,m20,m21,m22⟩:Mat)=true) (he:(evS (⟨e0,e1,e2,e3,e4,e5,e6,⟨e7,e8,e9,e10,e11,e12,e13,e14,e15,e16,e17,e18⟩⟩:Ev)==0)=true):Q7 N [.str m0,.int m1,.int m2,.int m3,.int m4,.int m5,.int m6,.int m7,.bool m8,.int m9,.int m10,.int m11,.int m12,.rows m13,.int m14,.int m15,.bool m16,.rows (AM m17),.int m18,.int m19,.int m20,.int m21,.int m22,.int e0,.int e1,.int e2,.int e3,.bool e4,.int e5,.int e6,.int e7,.int e8,.int e9,.int e10,.int e11,.bool e12,.int e13,.int e14,.int e15,.int e16,.bool e17,.int e18]=some (Ma (Hw (⟨⟨m0,m1,m2,m3,m4,m5,m6,m7,m8,m9,m10,m11,m12,m13⟩,m14,m15,m16,m17,m18,m19,m20,m21,m22⟩:Mat) (⟨e0,e1,e2,e3,e4,e5,e6,⟨e7,e8,e9,e10,e11,e12,e13,e14,e15,e16,e17,e18⟩⟩:Ev))):=by
 show Re (std (Eo N) N) (xOf _)=_
 simp only [Re,PW,Rl,RZ,std,xOf,PXb]
 unfold Hw
 cases hk1:e0==1
 case true =>
  simp only [PXb,PW,GZ]
  cases m14==1<;>cases e4<;>rfl
 cases hk2:e0==2
 case true =>
  simp only [PXb]
  cases hs2:m14==2
  case false=>rfl
  simp only [PXb,Rl,sC hN hf hl hs h13 ok hv hs2]
  rfl
 cases hk3:e0==12
 case true =>
  simp only [PXb]
  cases m14==4<;>cases e1==m15<;>rfl
 cases hk4:e0==16
 case true =>
  simp only [PXb,nJ,Xh]
  cases h3:m14==3
  case false =>
   simp only [PXb,PXc,PXi,PXr,Ch,Nat.reduceAdd]
   cases m3==0<;>rfl
  simp only [PXb,PXc,PXi,PXr,Ch,Nat.reduceAdd,KV (ok.begun h3) hl]
  cases m3==0<;>rfl
 simp only [PXb]
 cases h3:m14==3
 case false=>rfl
 simp only [PXb,RZ,tB hN hf hl hs h13 ok he h3]
 rfl
theorem om {N:Nat} {m1 m2 m3 m4 m5 m6 m7 m9 m10 m11 m12 m14 m15 m18 m19 m20 m21 m22:Int} {m8 m16:Bool} {m0:ByteArray} {m13:Rows} {m17:List Inn} (hf:CX m17) (hN:2097152<N) (hl:m17.length≤1000000) (hs:m0.size≤1048576) (h0:((m17.length:Int)==0)=false):Ji N [.str m0,.int m1,.int m2,.int m3,.int m4,.int m5,.int m6,.int m7,.bool m8,.int m9,.int m10,.int m11,.int m12,.rows m13,.int m14,.int m15,.bool m16,.rows (AM m17),.int m18,.int m19,.int m20,.int m21,.int m22]=some (Pk (⟨⟨m0,m1,m2,m3,m4,m5,m6,m7,m8,m9,m10,m11,m12,m13⟩,m14,m15,m16,m17,m18,m19,m20,m21,m22⟩:Mat)).ls:=by
 show J8 (std (Cd N) N) (xOf _)=_
 have hl5:m17.length≤1048576:=by omega
 simp only [J8,W7,W2,Wz,UV,std,xOf,PXb,TI h0 hl,GZ,LC hN hl5,me hf hN hl hs,PXi]
 unfold Pk
 simp only [BK,As,lnx,PXm]
 cases hq1:((m17.length:Int)==IntKind.i64.wrap (2 * m2))
 case true=>rfl
 cases hq2:((m17.length:Int)==3)
 case true =>
  simp only [PXb]
  cases iLt (Ga m17 (inn m17 (IntKind.i64.wrap ((m17.length:Int) - 1)).toNat).side m17.length) (Ga m17 (Bv (inn m17 (IntKind.i64.wrap ((m17.length:Int) - 1)).toNat).side) m17.length)
  case true=>rfl
  simp only [PXb]
  cases ((m17.length:Int)==2)<;>cases iLt 0 m10<;>try rfl
  simp only [PXb]
  cases iLe m10 (IntKind.i64.wrap (Ga m17 m15 m17.length - Ga m17 (Bv m15) m17.length))<;>rfl
 simp only [PXb]
 cases ((m17.length:Int)==2)<;>cases iLt 0 m10<;>try rfl
 simp only [PXb]
 cases iLe m10 (IntKind.i64.wrap (Ga m17 m15 m17.length - Ga m17 (Bv m15) m17.length))<;>rfl
set_option maxHeartbeats 4000000 in
theorem sg {N:Nat} {m1 m2 m3 m4 m5 m6 m7 m9 m10 m11 m12 m14 m15 m18 m19 m20 m21 m22:Int} {m8 m16:Bool} {m0:ByteArray} {m13:Rows} {m17:List Inn} {e0 e1 e2 e3 e5 e6 e7 e8 e9 e10 e11 e13 e14 e15 e16 e18:Int} {e4 e12 e17:Bool} (hN:2097152<N) (hf:CX m17) (hl:m17.length≤1000000) (hs:m0.size≤1048576) (h13:m13.length≤1048576):OT N [.str m0,.int m1,.int m2,.int m3,.int m4,.int m5,.int m6,.int m7,.bool m8,.int m9,.int m10,.int m11,.int m12,.rows m13,.int m14,.int m15,.bool m16,.rows (AM m17),.int m18,.int m19,.int m20,.int m21,.int m22,.int e0,.int e1,.int e2,.int e3,.bool e4,.int e5,.int e6,.int e7,.int e8,.int e9,.int e10,.int e11,.bool e12,.int e13,.int e14,.int e15,.int e16,.bool e17,.int e18]=some (Ma (A7 (⟨⟨m0,m1,m2,m3,m4,m5,m6,m7,m8,m9,m10,m11,m12,m13⟩,m14,m15,m16,m17,m18,m19,m20,m21,m22⟩:Mat) (⟨e0,e1,e2,e3,e4,e5,e6,⟨e7,e8,e9,e10,e11,e12,e13,e14,e15,e16,e17,e18⟩⟩:Ev))):=by
 show O9 (std (CU N) N) (xOf _)=_
 generalize hres:(some (Ma (A7 (⟨⟨m0,m1,m2,m3,m4,m5,m6,m7,m8,m9,m10,m11,m12,m13⟩,m14,m15,m16,m17,m18,m19,m20,m21,m22⟩:Mat) (⟨e0,e1,e2,e3,e4,e5,e6,⟨e7,e8,e9,e10,e11,e12,e13,e14,e15,e16,e17,e18⟩⟩:Ev))):Option (List PV))=RR
 simp only [O9,OM,ZO,Yh,RX,PY,M2,std,xOf,PXb,WE hf hN hl hs,fR,fB hf hN hl h13]
 subst hres;simp only [A7]
 cases hv:BZ (⟨⟨m0,m1,m2,m3,m4,m5,m6,m7,m8,m9,m10,m11,m12,m13⟩,m14,m15,m16,m17,m18,m19,m20,m21,m22⟩:Mat)
 case false=>rfl
 cases he:evS (⟨e0,e1,e2,e3,e4,e5,e6,⟨e7,e8,e9,e10,e11,e12,e13,e14,e15,e16,e17,e18⟩⟩:Ev)==0
 case false=>simp only [PXb,he];rfl
 simp only [PXb,he]
 cases h5:m14==5
 case true=>rfl
 have ok:=i5 hv
 simp only [PXb,PXc,Ch,Nat.reduceAdd,OM,fB hf hN hl h13,RX,uA hN hf hl hs h13 ok hv he]
 have ak:=uD ok (⟨e0,e1,e2,e3,e4,e5,e6,⟨e7,e8,e9,e10,e11,e12,e13,e14,e15,e16,e17,e18⟩⟩:Ev)
 generalize Hw (⟨⟨m0,m1,m2,m3,m4,m5,m6,m7,m8,m9,m10,m11,m12,m13⟩,m14,m15,m16,m17,m18,m19,m20,m21,m22⟩:Mat) (⟨e0,e1,e2,e3,e4,e5,e6,⟨e7,e8,e9,e10,e11,e12,e13,e14,e15,e16,e17,e18⟩⟩:Ev)=A at ak
 obtain ⟨⟨⟨a0,a1,a2,a3,a4,a5,a6,a7,a8,a9,a10,a11,a12,a13⟩,a14,a15,a16,a17,a18,a19,a20,a21,a22⟩,l⟩:=A
 obtain ⟨k1,k2,k3,k4⟩:=ak
 simp only at k1 k2 k3 k4
 have hl5:a17.length≤1000000:=by omega
 have hs5:a0.size≤1048576:=by
  have:=congrArg Rul.name k1
  simp only at this
  rw [this];exact hs
 simp only [PXb,PXc,PXk,PXi,Ch,Nat.reduceAdd]
 cases hl0:l==0
 case false=>rfl
 simp only [PXb,Ty]
 cases h3:a14==3
 case false=>rfl
 have h0:=k4 hl0 h3
 simp only [PXb,PXc,PXi,PY,TI h0 hl5,As,M2,om k2 hN hl5 hs5 h0,PXm]
 cases (inn a17 (lnx a17)).ending==0<;>rfl
end Go.Px
end
section
namespace Go.Px
set_option maxRecDepth 100000
theorem qW (m:Mat):(Pk m).rules=m.rules∧(Pk m).inns=m.inns:=by
 unfold Pk
 dsimp only
 cases ((m.inns.length:Int)==IntKind.i64.wrap (2 * m.rules.innings)||((m.inns.length:Int)==3&&iLt (BK m (As m).side) (BK m (Bv (As m).side)))) with
 | true=>exact ⟨rfl,rfl⟩
 | false =>
  cases ((m.inns.length:Int)==2&&iLt 0 m.rules.followon&&iLe m.rules.followon (IntKind.i64.wrap (BK m m.first - BK m (Bv m.first))))<;>exact ⟨rfl,rfl⟩
theorem tW (m:Mat):(Ty m).rules=m.rules∧(Ty m).inns=m.inns:=by
 unfold Ty
 cases (m.stage==3 && !((As m).ending==0)) with
 | true=>exact qW m
 | false=>exact ⟨rfl,rfl⟩
structure StepOk (r:Rul) (m:Mat):Prop where
 rules:m.rules=r
 fit:CX m.inns
 len:m.inns.length≤5
theorem Yb {m:Mat} {e:Ev} (h:((A7 m e).2==0)=true):BZ m=true∧(evS e==0)=true∧(m.stage==5)=false∧((Hw m e).2==0)=true∧(A7 m e).1=Ty (Hw m e).1:=by
 unfold A7 at h ⊢
 cases hv:BZ m with
 | false=>rw [hv] at h;exact absurd (show ((1:Int)==0)=true from h) (by decide)
 | true =>
  cases he:evS e==0 with
  | false=>rw [hv,he] at h;exact absurd (show ((1:Int)==0)=true from h) (by decide)
  | true =>
   cases h5:m.stage==5 with
   | true=>rw [hv,he,h5] at h;exact absurd (show ((26:Int)==0)=true from h) (by decide)
   | false =>
    cases hx:(Hw m e).2==0 with
    | false=>rw [hv,he,h5,hx] at h;exact absurd (show ((Hw m e).2==0)=true from h) (by rw [hx];decide)
    | true=>exact ⟨rfl,rfl,rfl,rfl,rfl⟩
theorem tj {m:Mat} {e:Ev} (h:((A7 m e).2==0)=true) (hk:(e.kind==4)=true):(m.stage==3)=true∧((m.inns.length:Int)==0)=false∧((B7 m.rules (As m) e).2==0)=true∧(A7 m e).1.inns=m.inns.set (lnx m.inns) (B7 m.rules (As m) e).1:=by
 obtain ⟨hv,he,h5,ha,hs⟩:=Yb h
 have hk4:=beq_iff_eq.1 hk
 rw [hs,(tW _).2]
 unfold Hw at ha ⊢
 simp only [hk4,Int.reduceBEq,cond_false] at ha ⊢
 cases h3:m.stage==3 with
 | false=>rw [h3] at ha;exact absurd (show ((1:Int)==0)=true from ha) (by decide)
 | true =>
  rw [h3] at ha
  simp only [Bool.not_true,cond_false] at ha ⊢
  unfold TL at ha ⊢
  cases hq:(B7 m.rules (As m) e).2==0 with
  | false=>simp only [hq,Bool.not_false,cond_true] at ha;exact absurd ha Bool.false_ne_true
  | true =>
   simp only [hk4,Int.reduceBEq,Bool.false_and,hq,Bool.not_true,cond_false]
   exact ⟨trivial,(i5 hv).begun h3,trivial,trivial⟩
end Go.Px
end
section
namespace Go.Px
set_option maxRecDepth 100000
def so (m:Mat):Mat:={ m with rules:=Yp m.rules,inns:=(m.inns.take 5).map Yo }
theorem wY (xs:List Inn):((xs.take 5).map Yo).length≤5:=by rw [List.length_map,List.length_take];omega
theorem xY (xs:List Inn):∀ i,i<(xs.map Yo).length→inn (xs.map Yo) i=Yo (inn xs i):=fun i hi=>by
 rw [List.length_map] at hi
 rw [LT,LT,List.getElem?_map,List.getElem?_eq_getElem hi]
 rfl
theorem xM {m:Mat}:StepOk (Yp m.rules) (so m):=⟨rfl,fun i hi=>by
 show (inn ((m.inns.take 5).map Yo) i).Fit
 rw [xY _ i hi]
 exact xZ _,wY _⟩
theorem wQ {xs:List Inn} {i:Nat} (h:i<xs.length):xs.take (i+1)=xs.take i++[inn xs i]:=by
 rw [List.take_succ_eq_append_getElem h,LT,List.getElem?_eq_getElem h]
set_option maxHeartbeats 2000000 in
theorem uG {N:Nat} {m1 m2 m3 m4 m5 m6 m7 m9 m10 m11 m12 m14 m15 m18 m19 m20 m21 m22:Int} {m8 m16:Bool} {m0:ByteArray} {m13:Rows} {m17:List Inn} (hN:2097152<N):RD N [.str m0,.int m1,.int m2,.int m3,.int m4,.int m5,.int m6,.int m7,.bool m8,.int m9,.int m10,.int m11,.int m12,.rows m13,.int m14,.int m15,.bool m16,.rows (AM m17),.int m18,.int m19,.int m20,.int m21,.int m22]=some (so (⟨⟨m0,m1,m2,m3,m4,m5,m6,m7,m8,m9,m10,m11,m12,m13⟩,m14,m15,m16,m17,m18,m19,m20,m21,m22⟩:Mat)).ls:=by
 show RT (std (LD N) N) (xOf _)=_
 have e5:m17.take (min m17.length 5)=m17.take 5:=by
  by_cases h:m17.length≤5
  ·rw [Nat.min_eq_left h,List.take_length,List.take_of_length_le h]
  ·rw [Nat.min_eq_right (by omega)]
 simp only [RT,std,xOf,PXb,sQ (show (0:Int)≤20 by omega),sQ (show (0:Int)≤10 by omega),PXi]
 refine AH (Al (len:=min m17.length 5) (fun i=>[.rows (AM ((m17.take i).map Yo)),.int (i:Int)]) [.rows (AM ((m17.take 5).map Yo))] ?_ ?_ N (by omega)) rfl
 ·intro self
  have:(iLt ((min m17.length 5:Nat):Int) (m17.length:Int)&&iLt ((min m17.length 5:Nat):Int) 5)=false:=by
   rw [Bool.and_eq_false_iff]
   simp only [iLt,decide_eq_false_iff_not]
   omega
  simp only [PXb,PXc,PXn,AB,this,e5]
 ·intro i self hi
  have h1:i<m17.length:=by omega
  have h5:iLt (i:Int) 5=true:=by simp only [iLt,decide_eq_true_eq];omega
  have h304:iSm (((m17.take i).length+1:Nat):Int) 304=true:=DM (by rw [List.length_take];omega) (by omega)
  have c13:∀ n:Nat,iRg 0 (cond (iLt 13 (n:Int)) 13 (n:Int)) (n:Int)=true:=fun n=>sQ (show (0:Int)≤13 by omega)
  simp only [PXb,PXc,PXn,AB,Aa (show i≤1099511627776 by omega),Aj h1,AQ h1,h5,PXi,c13,List.length_append,List.length_cons,List.length_nil,List.length_map,Nat.zero_add,Nat.reduceAdd,h304,PXr,wQ h1,List.map_append]
  rfl
end Go.Px
end
section
namespace Go.Px
set_option maxRecDepth 100000
def fm (f:Int→Rows) (lo:Int):Nat→Rows
 | 0=>[]
 | n+1=>fm f lo n++f (lo+(n:Int))
theorem HG (f:Int→Rows) (lo:Int) (n:Nat):fm f lo (n+1)=fm f lo n++f (lo+(n:Int)):=rfl
theorem Iu {f g:Int→Rows} {lo:Int}:∀ n:Nat,(∀ i,lo≤i→i<lo+(n:Int)→f i=g i)→fm f lo n=fm g lo n
 | 0,_=>rfl
 | n+1,h=>by
  rw [HG,HG,Iu n (fun i h1 h2=>h i h1 (by omega)),h _ (by omega) (by omega)]
theorem CS {f:Int→Rows} {lo:Int}:∀ n:Nat,(∀ i,lo≤i→i<lo+(n:Int)→f i=[])→fm f lo n=[]
 | 0,_=>rfl
 | n+1,h=>by
  rw [HG,CS n (fun i h1 h2=>h i h1 (by omega)),h _ (by omega) (by omega)]
  rfl
theorem pF (f:Int→Rows) (lo:Int) (n:Nat):∀ m:Nat,fm f lo (n+m)=fm f lo n++fm f (lo+(n:Int)) m
 | 0=>(List.append_nil _).symm
 | m+1=>by
  rw [show n+(m+1)=(n+m)+1 by omega,HG,HG,pF f lo n m,List.append_assoc,show lo+((n+m:Nat):Int)=lo+(n:Int)+(m:Int) by omega]
theorem jl {f:Int→Rows} {lo a:Int} {N n:Nat} (h1:lo≤a) (h2:a+(n:Int)≤lo+(N:Int)) (hz:∀ i,i<a∨a+(n:Int)≤i→f i=[]):fm f lo N=fm f a n:=by
 obtain ⟨u,hu⟩:∃ u:Nat,lo+(u:Int)=a:=⟨(a - lo).toNat,by omega⟩
 obtain ⟨v,hv⟩:∃ v:Nat,N=u+(n+v):=⟨N - u - n,by omega⟩
 rw [hv,pF,pF,hu,CS u (fun i i1 i2=>hz i (by omega)),CS v (fun i i1 i2=>hz i (by omega)),List.nil_append,List.append_nil]
theorem nv {f:Int→Rows} {lo:Int} {c:Nat}:∀ n:Nat,(∀ i,(f i).length≤c)→(fm f lo n).length≤n * c
 | 0,_=>Nat.zero_le _
 | n+1,h=>by
  have ih:=nv (lo:=lo) n h
  have:=h (lo+(n:Int))
  rw [HG,List.length_append,Nat.succ_mul]
  omega
theorem LL {f:Int→Rows} {lo:Int} {x:List PV}:∀ n:Nat,x∈fm f lo n→∃ i,lo≤i∧i<lo+(n:Int)∧x∈f i
 | 0,h=>absurd h List.not_mem_nil
 | n+1,h=>by
  rw [HG] at h
  rcases List.mem_append.1 h with h | h
  ·obtain ⟨i,h1,h2,h3⟩:=LL n h
   exact ⟨i,h1,by omega,h3⟩
  ·exact ⟨_,by omega,by omega,h⟩
theorem w5 {f:Int→Rows} {lo:Int} {x:List PV} {i:Int} (hx:x∈f i):∀ n:Nat,lo≤i→i<lo+(n:Int)→x∈fm f lo n
 | 0,h1,h2=>by omega
 | n+1,h1,h2=>by
  rw [HG]
  by_cases e:i=lo+(n:Int)
  ·exact List.mem_append_right _ (e▸hx)
  ·exact List.mem_append_left _ (w5 hx n h1 (by omega))
def evK (k s p o:Int) (y:Bool) (n:Int):Ev:=⟨k,s,p,o,y,n,0,⟨0,0,0,0,0,false,0,0,0,0,false,0⟩⟩
def yF (b:Bool) (f:Bool→Rows):Rows:=f false++cond b (f true) []
def Pu (g:Int→Int→Int→Bool→Int→Rows) (b:Bool) (sl pl ol rl:Int) (sn pn on rn:Nat):Rows :=
 fm (fun s=>fm (fun p=>fm (fun o=>yF b fun y=>fm (fun n=>g s p o y n) rl rn) ol on) pl pn) sl sn
theorem Xx {b:Bool} {f:Bool→Rows} (h:∀ y,f y=[]):yF b f=[]:=by
 unfold yF
 rw [h,h]
 cases b<;>rfl
theorem uU {g : Int → Int → Int → Bool → Int → Rows} {b : Bool} {sl pl ol rl : Int} {sn pn on rn : Nat} (c : 0 ≤ sl ∧ sl + (sn : Int) ≤ 3 ∧ 0 ≤ pl ∧ pl + (pn : Int) ≤ 12 ∧ 0 ≤ ol ∧ ol + (on : Int) ≤ 12 ∧ 0 ≤ rl ∧ rl + (rn : Int) ≤ 100)
    (h:∀ s p o y n,¬ (sl≤s∧s<sl+(sn:Int)∧pl≤p∧p<pl+(pn:Int)∧ol≤o∧o<ol+(on:Int)∧(y=true→b=true)∧rl≤n∧n<rl+(rn:Int))→g s p o y n=[]):Pu g b sl pl ol rl sn pn on rn=Pu g true 0 0 0 0 3 12 12 100:=by
  unfold Pu
  refine Eq.trans ?_ (jl (a:=sl) (n:=sn) (by omega) (by omega) (fun s hs=>?_)).symm
  · refine Iu sn fun s s1 s2=>?_
    refine Eq.trans ?_ (jl (a:=pl) (n:=pn) (by omega) (by omega) (fun p hp=>?_)).symm
    · refine Iu pn fun p p1 p2=>?_
      refine Eq.trans ?_ (jl (a:=ol) (n:=on) (by omega) (by omega) (fun o ho=>?_)).symm
      · refine Iu on fun o o1 o2=>?_
        have e:∀ y,fm (fun n=>g s p o y n) 0 100=fm (fun n=>g s p o y n) rl rn:=fun y=>jl (by omega) (by omega) (fun n hn=>h s p o y n (by omega))
        show fm (fun n=>g s p o false n) rl rn++cond b (fm (fun n=>g s p o true n) rl rn) []=fm (fun n=>g s p o false n) 0 100++fm (fun n=>g s p o true n) 0 100
        rw [e,e]
        cases hb:b with
        | true=>rfl
        | false =>
          rw [CS (f:=fun n=>g s p o true n) rn (fun n _ _=>h s p o true n (fun hh=>by have:=hh.2.2.2.2.2.2.1 rfl;rw [hb] at this;cases this))]
          rfl
      · exact Xx fun y=>CS _ fun n _ _=>h s p o y n (by omega)
    · exact CS _ fun o _ _=>Xx fun y=>CS _ fun n _ _=>h s p o y n (by omega)
  · exact CS _ fun p _ _=>CS _ fun o _ _=>Xx fun y=>CS _ fun n _ _=>h s p o y n (by omega)
end Go.Px
end
section
namespace Go.Px
set_option maxRecDepth 100000
structure AccE (e:Ev):Prop where
 kind:1≤e.kind∧e.kind≤16
 side:cond (uS e.kind) (1≤e.side∧e.side≤2) (e.side=0)
 player:cond (uP e.kind) (1≤e.player∧e.player≤11) (e.player=0)
 other:cond (uO e.kind) (1≤e.other∧e.other≤11) (e.other=0)
 yes:e.yes=true→uY e.kind=true
 runs:cond (uR e.kind) (loS e.kind≤e.runs∧e.runs≤hiS e.kind) (e.runs=0)
 pen:e.kind=13→e.runs=5
 overs:uV e.kind=false→e.overs=0
 ball:uB e.kind=false→dT e.ball=true
theorem fld {x:Int} {u b:Bool} (h1:(!(x==0) && !u)=false) (h2:(!b&&u)=false) {P:Prop} (hb:b=true→P):cond u P (x=0):=by
 cases u with
 | true =>
  cases b with
  | true=>exact hb rfl
  | false=>cases h2
 | false =>
  cases h:x==0 with
  | true=>exact beq_iff_eq.1 h
  | false=>rw [h] at h1;cases h1
theorem ij {a b c:Int} (h:btw a b c=true):b≤a∧a≤c:=by
 simp only [btw,iLe,Bool.and_eq_true,decide_eq_true_eq] at h
 exact h
theorem y9 {m:Mat} {e:Ev} (h:((A7 m e).2==0)=true):AccE e:=by
 obtain ⟨h1,h2,h3,h4,h5⟩:=Yb h
 have he:=beq_iff_eq.1 h2
 unfold evS at he
 cases k:iLt e.kind 1||iLt 16 e.kind with
 | true=>rw [k] at he;cases he
 | false =>
  cases e1:Wl e with
  | true=>rw [k,e1] at he;cases he
  | false =>
   cases e2:R9 e with
   | true=>rw [k,e1,e2] at he;cases he
   | false =>
    unfold Wl at e1
    unfold R9 at e2
    simp only [Bool.or_eq_false_iff] at e1 e2
    obtain ⟨a1,a2,a3,a4,a5,a6,a7⟩:=e1
    obtain ⟨b1,b2,b3,b4,b5⟩:=e2
    have kb:1≤e.kind∧e.kind≤16:=by
     simp only [Bool.or_eq_false_iff,iLt,decide_eq_false_iff_not] at k
     omega
    refine ⟨kb,fld a1 b1 ij,fld a2 b2 ij,fld a3 b3 ij,?_,fld a5 b4 ij,?_,?_,?_⟩
    ·intro y
     rw [y] at a4
     cases u:uY e.kind with
     | true=>rfl
     | false=>rw [u] at a4;cases a4
    ·intro k13
     have ha:Hw m e=cond (!(m.stage==3)) (m,1) (TL m e):=by unfold Hw;rw [k13];rfl
     rw [ha] at h4
     cases s3:m.stage==3 with
     | false=>rw [s3] at h4;cases h4
     | true =>
      rw [s3] at h4
      change ((TL m e).2==0)=true at h4
      unfold TL at h4
      dsimp only at h4
      cases t0:(B7 m.rules (As m) e).2==0 with
      | false=>rw [t0] at h4;exact absurd (show ((B7 m.rules (As m) e).2==0)=true from h4) (by rw [t0];decide)
      | true =>
       obtain ⟨hv,he',hn,hw,hp,hs⟩:=ra t0
       have hpb:Bs m.rules (As m) e=H2 (As m) e.side e.runs:=by unfold Bs;rw [k13];rfl
       rw [hpb] at hp
       unfold H2 at hp
       cases r5:e.runs==5 with
       | true=>exact beq_iff_eq.1 r5
       | false=>rw [r5] at hp;cases hp
    ·intro u
     rw [u] at a6
     cases o:e.overs==0 with
     | true=>exact beq_iff_eq.1 o
     | false=>rw [o] at a6;cases a6
    ·intro u
     rw [u] at a7
     cases o:dT e.ball with
     | true=>rfl
     | false=>rw [o] at a7;cases a7
def zC (e:Ev):List PV:=[.int e.kind,.int e.side,.int e.player,.int e.other,.bool e.yes,.int e.runs,.int e.overs]++e.ball.ls
def A1 (m:Mat) (k s p o:Int) (y:Bool) (n:Int):Rows:=cond ((A7 m (evK k s p o y n)).2==0) [zC (evK k s p o y n)] []
def oG (m:Mat) (k:Int):Rows:=Pu (A1 m k) true 0 0 0 0 3 12 12 100
theorem rf {m:Mat} {k s p o:Int} {y:Bool} {n:Int} (h:¬ AccE (evK k s p o y n)):A1 m k s p o y n=[]:=by
 unfold A1
 cases hx:(A7 m (evK k s p o y n)).2==0 with
 | false=>rfl
 | true=>exact absurd (y9 hx) h
def ZJ (m:Mat) (k:Int):Rows:=Pu (A1 m k) (uY k) (cond (uS k) 1 0) (cond (uP k) 1 0) (cond (uO k) 1 0) (cond (k==13) 1 0) (cond (uS k) 2 1) (cond (uP k) 11 1) (cond (uO k) 11 1) (cond (k==7) 12 (cond (k==13) 99 1))
def kZ (m:Mat) (k:Int):Rows:=Pu (A1 m k) (uY k) 0 0 0 0 (cond (uS k) 3 1) (cond (uP k) 12 1) (cond (uO k) 12 1) (cond (uR k) 12 1)
theorem t8 (m:Mat) {k:Int} (h15:¬ k=15):ZJ m k=oG m k∧kZ m k=oG m k:=by
 refine ⟨uU ?_ fun s p o y n h=>rf fun a=>h ?_,uU ?_ fun s p o y n h=>rf fun a=>h ?_⟩
 ·cases uS k<;>cases uP k<;>cases uO k<;>cases k==13<;>cases k==7<;>simp only [cond_true,cond_false]<;>omega
 ·have a1:=a.side
  have a2:=a.player
  have a3:=a.other
  have a4:=a.yes
  have a5:=a.runs
  have a6:=a.pen
  change cond (uS k) (1≤s∧s≤2) (s=0) at a1
  change cond (uP k) (1≤p∧p≤11) (p=0) at a2
  change cond (uO k) (1≤o∧o≤11) (o=0) at a3
  change y=true→uY k=true at a4
  change cond (uR k) (loS k≤n∧n≤hiS k) (n=0) at a5
  change k=13→n=5 at a6
  have c1:(cond (uS k) 1 0:Int)≤s∧s<(cond (uS k) 1 0:Int)+((cond (uS k) 2 1:Nat):Int):=by
   cases h:uS k<;>rw [h] at a1<;>simp only [cond_true,cond_false] at a1 ⊢<;>omega
  have c2:(cond (uP k) 1 0:Int)≤p∧p<(cond (uP k) 1 0:Int)+((cond (uP k) 11 1:Nat):Int):=by
   cases h:uP k<;>rw [h] at a2<;>simp only [cond_true,cond_false] at a2 ⊢<;>omega
  have c3:(cond (uO k) 1 0:Int)≤o∧o<(cond (uO k) 1 0:Int)+((cond (uO k) 11 1:Nat):Int):=by
   cases h:uO k<;>rw [h] at a3<;>simp only [cond_true,cond_false] at a3 ⊢<;>omega
  have c4:(cond (k==13) 1 0:Int)≤n∧n<(cond (k==13) 1 0:Int)+((cond (k==7) 12 (cond (k==13) 99 1):Nat):Int):=by
   unfold uR loS hiS at a5
   cases h7:k==7 with
   | true =>
    rw [beq_iff_eq.1 h7] at a5 ⊢
    change 0≤n∧n≤11 at a5
    show (0:Int)≤n∧n<0+((12:Nat):Int)
    omega
   | false =>
    cases h13:k==13 with
    | true =>
     have:=a6 (beq_iff_eq.1 h13)
     show (1:Int)≤n∧n<1+((99:Nat):Int)
     omega
    | false =>
     rw [h7,h13,beq_false_of_ne h15] at a5
     change n=0 at a5
     show (0:Int)≤n∧n<0+((1:Nat):Int)
     omega
  exact ⟨c1.1,c1.2,c2.1,c2.2,c3.1,c3.2,a4,c4.1,c4.2⟩
 ·cases uS k<;>cases uP k<;>cases uO k<;>cases uR k<;>simp only [cond_true,cond_false]<;>omega
 ·have a1:=a.side
  have a2:=a.player
  have a3:=a.other
  have a4:=a.yes
  have a5:=a.runs
  have a6:=a.pen
  change cond (uS k) (1≤s∧s≤2) (s=0) at a1
  change cond (uP k) (1≤p∧p≤11) (p=0) at a2
  change cond (uO k) (1≤o∧o≤11) (o=0) at a3
  change y=true→uY k=true at a4
  change cond (uR k) (loS k≤n∧n≤hiS k) (n=0) at a5
  change k=13→n=5 at a6
  have c1:0≤s∧s<0+((cond (uS k) 3 1:Nat):Int):=by
   cases h:uS k<;>rw [h] at a1<;>simp only [cond_true,cond_false] at a1 ⊢<;>omega
  have c2:0≤p∧p<0+((cond (uP k) 12 1:Nat):Int):=by
   cases h:uP k<;>rw [h] at a2<;>simp only [cond_true,cond_false] at a2 ⊢<;>omega
  have c3:0≤o∧o<0+((cond (uO k) 12 1:Nat):Int):=by
   cases h:uO k<;>rw [h] at a3<;>simp only [cond_true,cond_false] at a3 ⊢<;>omega
  have c4:0≤n∧n<0+((cond (uR k) 12 1:Nat):Int):=by
   cases h:uR k with
   | false =>
    rw [h] at a5
    change n=0 at a5
    show (0:Int)≤n∧n<0+((1:Nat):Int)
    omega
   | true =>
    rw [h] at a5
    show (0:Int)≤n∧n<0+((12:Nat):Int)
    unfold uR at h
    simp only [Bool.or_eq_true,beq_iff_eq] at h
    rcases h with (h | h) | h
    ·rw [h] at a5
     change 0≤n∧n≤11 at a5
     omega
    ·have:=a6 h
     omega
    ·exact absurd h h15
  exact ⟨c1.1,c1.2,c2.1,c2.2,c3.1,c3.2,a4,c4.1,c4.2⟩
def ic (m:Mat):Rows:=fm (fun k=>cond (k==4||k==15) [] (oG m k)) 1 16
end Go.Px
end
section
namespace Go.Px
set_option maxRecDepth 100000
def upL (a:Int) (n:Nat):Rows:=fm (fun v=>[[PV.int v]]) a n
theorem Ew (a:Int):∀ n,(upL a n).length=n
 | 0=>rfl
 | n+1=>by
  show (upL a n++[[PV.int (a+(n:Int))]]).length=n+1
  rw [List.length_append,Ew a n]
  rfl
theorem rc (a:Int):∀ n i:Nat,i<n→Ai (upL a n) i=[PV.int (a+(i:Int))]
 | 0,i,h=>absurd h (Nat.not_lt_zero _)
 | n+1,i,h=>by
  show Ai (upL a n++[[PV.int (a+(n:Int))]]) i=_
  unfold Ai
  rw [List.getD_eq_getElem?_getD,List.getElem?_append,Ew]
  by_cases e:i<n
  ·rw [if_pos e]
   have:=rc a n i e
   unfold Ai at this
   rw [List.getD_eq_getElem?_getD] at this
   exact this
  ·rw [if_neg e]
   have:i=n:=by omega
   rw [this,Nat.sub_self]
   rfl
theorem cC {a:Int} {n i:Nat} (h:i<n):pvI (AE (upL a n) i 0)=a+(i:Int):=by
 unfold AE
 rw [rc a n i h]
 rfl
theorem rW {F : (List AU → Option (List PV)) → List PV → Option (List PV)} {len : Nat} (enc : Nat → List AU) (fin : List PV) {x : List PV} (hx : x = (enc 0).map Leaf.pv)
    (h0:∀ self,F self ((enc len).map Leaf.pv)=some fin) (h1:∀ i self,i<len→F self ((enc i).map Leaf.pv)=self (enc (i+1))) (n:Nat) (hn:len<n):EM F n x=some fin:=by
  rw [hx]
  exact Al enc fin h0 h1 n hn
set_option maxHeartbeats 1000000 in
theorem N2 {N:Nat} {a b:Int} {n:Nat} (hN:2097152<N) (ha:0≤a) (hb:b=a+(n:Int) - 1) (hc:a+(n:Int)≤1000):D0 N [.int a,.int b]=some [.rows (upL a n)]:=by
 show N8 (std (YC N) N) (xOf _)=_
 simp only [N8,std,xOf,PXb]
 refine AH (rW (len:=n) (fun i=>[.rows (upL a i),.int (a+(i:Int))]) [.rows (upL a n)] (by show [PV.rows [],PV.int a]=[PV.rows [],PV.int (a+((0:Nat):Int))];rw [show a+((0:Nat):Int)=a by omega]) ?_ ?_ N (by omega)) ?_
 ·intro self
  have:iLe (a+(n:Int)) b=false:=by simp only [iLe,decide_eq_false_iff_not];omega
  simp only [PXb,PXc,PXn,AB,this]
 ·intro i self hi
  have l:iLe (a+(i:Int)) b=true:=by simp only [iLe,decide_eq_true_eq];omega
  have w:IntKind.i64.wrap (a+(i:Int)+1)=a+((i+1:Nat):Int):=by rw [FJ (by omega) (by omega)];omega
  have sm:iSm ((i+1:Nat):Int) 8=true:=DM (by omega) (by omega)
  simp only [PXb,PXc,PXn,AB,l,w,List.length_append,Ew,List.length_cons,List.length_nil,Nat.zero_add,sm]
  rfl
 ·rfl
def okK (k:Int):Bool:=k==1||k==12||k==14||k==2||k==3||k==8||k==5||k==6||k==9||k==7||k==11||k==13||k==10||k==16
def tL (k:Int):Rows:=upL (cond (uS k) 1 0) (cond (uS k) 2 1)
def rt (k:Int):Rows:=upL (cond (uP k) 1 0) (cond (uP k) 11 1)
def wG (k:Int):Rows:=upL (cond (uO k) 1 0) (cond (uO k) 11 1)
def wc (k:Int):Rows:=upL (cond (k==13) 1 0) (cond (k==7) 12 (cond (k==13) 99 1))
set_option maxHeartbeats 4000000 in
theorem kp {N:Nat} {k:Int} (hN:2097152<N):HK N [.int k]=some [.rows (tL k),.rows (rt k),.rows (wG k),.rows (wc k),.bool (uY k),.bool (okK k)]:=by
 show HI (std (Di N) N) (xOf _)=_
 have u1:D0 N [.int 1,.int 2]=some [.rows (upL 1 2)]:=N2 (n:=2) hN (by omega) rfl (by omega)
 have u2:D0 N [.int 1,.int 11]=some [.rows (upL 1 11)]:=N2 (n:=11) hN (by omega) rfl (by omega)
 have u3:D0 N [.int 0,.int 11]=some [.rows (upL 0 12)]:=N2 (n:=12) hN (by omega) rfl (by omega)
 have u4:D0 N [.int 1,.int 99]=some [.rows (upL 1 99)]:=N2 (n:=99) hN (by omega) rfl (by omega)
 simp only [HI,Sh,std,xOf,PXb,u1,u2,u3,u4]
 cases hk:(iLt k 1||iLt 16 k) with
 | false=>rcases P1 hk with h | h | h | h | h | h | h | h | h | h | h | h | h | h | h | h<;>subst h<;>rfl
 | true =>
  have no:=fun n h1 h2=>pU hk n h1 h2
  have e:∀ n:Int,1≤n→n≤16→(k==n)=false:=no
  unfold tL rt wG wc uS uP uO uY okK
  simp only [PXb,e 1 (by omega) (by omega),e 2 (by omega) (by omega),e 3 (by omega) (by omega),e 5 (by omega) (by omega),e 6 (by omega) (by omega),e 7 (by omega) (by omega),e 8 (by omega) (by omega),e 9 (by omega) (by omega),e 10 (by omega) (by omega),e 11 (by omega) (by omega),e 12 (by omega) (by omega),e 13 (by omega) (by omega),e 14 (by omega) (by omega),e 16 (by omega) (by omega)]
  rfl
set_option maxHeartbeats 1000000 in
theorem Qp {N:Nat} {m1 m2 m3 m4 m5 m6 m7 m9 m10 m11 m12 m14 m15 m18 m19 m20 m21 m22:Int} {m8 m16:Bool} {m0:ByteArray} {m13:Rows} {m17:List Inn} {e0 e1 e2 e3 e5 e6 e7 e8 e9 e10 e11 e13 e14 e15 e16 e18:Int} {e4 e12 e17:Bool} (hN:2097152<N) (hf:CX m17) (hl:m17.length≤1000000) (hs:m0.size≤1048576) (h13:m13.length≤1048576):BX N [.str m0,.int m1,.int m2,.int m3,.int m4,.int m5,.int m6,.int m7,.bool m8,.int m9,.int m10,.int m11,.int m12,.rows m13,.int m14,.int m15,.bool m16,.rows (AM m17),.int m18,.int m19,.int m20,.int m21,.int m22,.int e0,.int e1,.int e2,.int e3,.bool e4,.int e5,.int e6,.int e7,.int e8,.int e9,.int e10,.int e11,.bool e12,.int e13,.int e14,.int e15,.int e16,.bool e17,.int e18]=some [.int (A7 (⟨⟨m0,m1,m2,m3,m4,m5,m6,m7,m8,m9,m10,m11,m12,m13⟩,m14,m15,m16,m17,m18,m19,m20,m21,m22⟩:Mat) (⟨e0,e1,e2,e3,e4,e5,e6,⟨e7,e8,e9,e10,e11,e12,e13,e14,e15,e16,e17,e18⟩⟩:Ev)).2]:=by
 show QT (std (R1 N) N) (xOf _)=_
 simp only [QT,WW,std,xOf,PXb,dE hN hf hl hs h13]
 rfl
theorem cU {N:Nat} {m1 m2 m3 m4 m5 m6 m7 m9 m10 m11 m12 m14 m15 m18 m19 m20 m21 m22:Int} {m8 m16:Bool} {m0:ByteArray} {m13:Rows} {m17:List Inn} {e0 e1 e2 e3 e5 e6 e7 e8 e9 e10 e11 e13 e14 e15 e16 e18:Int} {e4 e12 e17:Bool} (hN:2097152<N) (hf:CX m17) (hl:m17.length≤1000000) (hs:m0.size≤1048576) (h13:m13.length≤1048576):CL N [.str m0,.int m1,.int m2,.int m3,.int m4,.int m5,.int m6,.int m7,.bool m8,.int m9,.int m10,.int m11,.int m12,.rows m13,.int m14,.int m15,.bool m16,.rows (AM m17),.int m18,.int m19,.int m20,.int m21,.int m22,.int e0,.int e1,.int e2,.int e3,.bool e4,.int e5,.int e6,.int e7,.int e8,.int e9,.int e10,.int e11,.bool e12,.int e13,.int e14,.int e15,.int e16,.bool e17,.int e18]=some [.int (A7 (⟨⟨m0,m1,m2,m3,m4,m5,m6,m7,m8,m9,m10,m11,m12,m13⟩,m14,m15,m16,m17,m18,m19,m20,m21,m22⟩:Mat) (⟨e0,e1,e2,e3,e4,e5,e6,⟨e7,e8,e9,e10,e11,e12,e13,e14,e15,e16,e17,e18⟩⟩:Ev)).2]:=by
 show Rf (std (I3 N) N) (xOf _)=_
 simp only [Rf,bk,std,xOf,PXb,sg hN hf hl hs h13]
 rfl
end Go.Px
end
section
namespace Go.Px
set_option maxRecDepth 100000
theorem Bz {i:Nat} (h:i≤1099511627776):IntKind.i64.wrap ((i:Int)+1)=((i+1:Nat):Int):=Aa h
def fmo (out:Rows) (f:Int→Rows) (lo:Int):Nat→Rows
 | 0=>out
 | n+1=>fmo out f lo n++f (lo+(n:Int))
theorem BE (out:Rows) (f:Int→Rows) (lo:Int) (n:Nat):fmo out f lo (n+1)=fmo out f lo n++f (lo+(n:Int)):=rfl
theorem Cs (out:Rows) (f:Int→Rows) (lo:Int):∀ n,fmo out f lo n=out++fm f lo n
 | 0=>(List.append_nil _).symm
 | n+1=>by rw [BE,HG,Cs out f lo n,List.append_assoc]
theorem Pi (f:Int→Rows) (lo:Int) (n:Nat):fmo [] f lo n=fm f lo n:=Cs [] f lo n
theorem Bc {out:Rows} {f:Int→Rows} {lo:Int} {c k n:Nat} (h:∀ i,(f i).length≤c) (hk:n≤k):(fmo out f lo n).length≤out.length+k * c:=by
 have:=nv (f:=f) (lo:=lo) n h
 have:=Nat.mul_le_mul_right c hk
 rw [Cs,List.length_append]
 omega
theorem A8 {f:Int→Rows} {lo:Int} {c k n:Nat} (h:∀ i,(f i).length≤c) (hk:n≤k):(fm f lo n).length≤k * c :=
 Nat.le_trans (nv n h) (Nat.mul_le_mul_right c hk)
theorem kD {b:Bool} {f:Bool→Rows} {c:Nat} (h:∀ y,(f y).length≤c):(yF b f).length≤2 * c:=by
 unfold yF
 have h1:=h false
 have h2:=h true
 rw [List.length_append]
 cases b
 ·show (f false).length+0≤_
  omega
 ·show (f false).length+(f true).length≤_
  omega
theorem da (m:Mat) (k s p o:Int) (y:Bool) (n:Int):(A1 m k s p o y n).length≤1:=by
 unfold A1
 cases (A7 m (evK k s p o y n)).2==0
 ·exact Nat.zero_le _
 ·exact Nat.le_refl _
def yfo (b:Bool) (f:Bool→Rows) (out:Rows):Nat→Rows
 | 0=>out
 | 1=>out++f false
 | _=>out++f false++cond b (f true) []
theorem uz (b:Bool) (f:Bool→Rows) (out:Rows):yfo b f out 2=out++yF b f:=List.append_assoc _ _ _
theorem lt2 {i:Nat} (h:i<2):i=0∨i=1:=by omega
set_option maxHeartbeats 8000000 in
theorem iS {N:Nat} {m1 m2 m3 m4 m5 m6 m7 m9 m10 m11 m12 m14 m15 m18 m19 m20 m21 m22:Int} {m8 m16:Bool} {m0:ByteArray} {m13:Rows} {m17:List Inn} {k:Int} (hN:2097152<N) (hf:CX m17) (hl:m17.length≤1000000) (hs:m0.size≤1048576) (h13:m13.length≤1048576):Dl N [.str m0,.int m1,.int m2,.int m3,.int m4,.int m5,.int m6,.int m7,.bool m8,.int m9,.int m10,.int m11,.int m12,.rows m13,.int m14,.int m15,.bool m16,.rows (AM m17),.int m18,.int m19,.int m20,.int m21,.int m22,.int k]=some [.rows (cond (okK k&&BZ (⟨⟨m0,m1,m2,m3,m4,m5,m6,m7,m8,m9,m10,m11,m12,m13⟩,m14,m15,m16,m17,m18,m19,m20,m21,m22⟩:Mat)) (ZJ (⟨⟨m0,m1,m2,m3,m4,m5,m6,m7,m8,m9,m10,m11,m12,m13⟩,m14,m15,m16,m17,m18,m19,m20,m21,m22⟩:Mat) k) [])]:=by
  show Ou (std (D1 N) N) (xOf _)=_
  generalize hres:(some [.rows (cond (okK k&&BZ (⟨⟨m0,m1,m2,m3,m4,m5,m6,m7,m8,m9,m10,m11,m12,m13⟩,m14,m15,m16,m17,m18,m19,m20,m21,m22⟩:Mat)) (ZJ (⟨⟨m0,m1,m2,m3,m4,m5,m6,m7,m8,m9,m10,m11,m12,m13⟩,m14,m15,m16,m17,m18,m19,m20,m21,m22⟩:Mat) k) [])]:Option (List PV))=RR
  simp only [Ou,V8,ZD,Uk,std,xOf,PXb,kp hN,Lp hf hN hl hs]
  subst hres;simp only [ZJ]
  cases hk:okK k with
  | false=>rfl
  | true =>
    cases hv:BZ (⟨⟨m0,m1,m2,m3,m4,m5,m6,m7,m8,m9,m10,m11,m12,m13⟩,m14,m15,m16,m17,m18,m19,m20,m21,m22⟩:Mat) with
    | false=>rfl
    | true =>
      have c1:(cond (uS k) 2 1:Nat)≤2:=by cases uS k<;>decide
      have c2:(cond (uP k) 11 1:Nat)≤11:=by cases uP k<;>decide
      have c3:(cond (uO k) 11 1:Nat)≤11:=by cases uO k<;>decide
      have c4:(cond (k==7) 12 (cond (k==13) 99 1):Nat)≤99:=by cases k==7<;>cases k==13<;>decide
      unfold tL rt wG wc Pu
      generalize (cond (uS k) 2 1:Nat)=sn at *
      generalize (cond (uP k) 11 1:Nat)=pn at *
      generalize (cond (uO k) 11 1:Nat)=on at *
      generalize (cond (k==7) 12 (cond (k==13) 99 1):Nat)=rn at *
      generalize (cond (uS k) 1 0:Int)=sl at *
      generalize (cond (uP k) 1 0:Int)=pl at *
      generalize (cond (uO k) 1 0:Int)=ol at *
      generalize (cond (k==13) 1 0:Int)=rl at *
      generalize uY k=yb at *
      have WHY:∀ s p o:Int,∀ y:Bool,∀ n:Int,BX N [.str m0,.int m1,.int m2,.int m3,.int m4,.int m5,.int m6,.int m7,.bool m8,.int m9,.int m10,.int m11,.int m12,.rows m13,.int m14,.int m15,.bool m16,.rows (AM m17),.int m18,.int m19,.int m20,.int m21,.int m22,.int k,.int s,.int p,.int o,.bool y,.int n,.int 0,.int 0,.int 0,.int 0,.int 0,.int 0,.bool false,.int 0,.int 0,.int 0,.int 0,.bool false,.int 0]=some [.int (A7 (⟨⟨m0,m1,m2,m3,m4,m5,m6,m7,m8,m9,m10,m11,m12,m13⟩,m14,m15,m16,m17,m18,m19,m20,m21,m22⟩:Mat) (evK k s p o y n)).2]:=fun s p o y n=>Qp hN hf hl hs h13
      have ONE:∀ s p o:Int,∀ y:Bool,∀ n:Int,A1 (⟨⟨m0,m1,m2,m3,m4,m5,m6,m7,m8,m9,m10,m11,m12,m13⟩,m14,m15,m16,m17,m18,m19,m20,m21,m22⟩:Mat) k s p o y n=cond ((A7 (⟨⟨m0,m1,m2,m3,m4,m5,m6,m7,m8,m9,m10,m11,m12,m13⟩,m14,m15,m16,m17,m18,m19,m20,m21,m22⟩:Mat) (evK k s p o y n)).2==0) [[.int k,.int s,.int p,.int o,.bool y,.int n,.int 0,.int 0,.int 0,.int 0,.int 0,.int 0,.bool false,.int 0,.int 0,.int 0,.int 0,.bool false,.int 0]] []:=fun s p o y n=>rfl
      have l1:∀ s p o:Int,∀ y:Bool,∀ n:Int,(A1 (⟨⟨m0,m1,m2,m3,m4,m5,m6,m7,m8,m9,m10,m11,m12,m13⟩,m14,m15,m16,m17,m18,m19,m20,m21,m22⟩:Mat) k s p o y n).length≤1:=fun s p o y n=>da _ k s p o y n
      have l2:∀ s p o:Int,∀ y:Bool,(fm (fun n=>A1 (⟨⟨m0,m1,m2,m3,m4,m5,m6,m7,m8,m9,m10,m11,m12,m13⟩,m14,m15,m16,m17,m18,m19,m20,m21,m22⟩:Mat) k s p o y n) rl rn).length≤99 * 1:=fun s p o y=>A8 (l1 s p o y) c4
      have l3:∀ s p o:Int,(yF yb fun y=>fm (fun n=>A1 (⟨⟨m0,m1,m2,m3,m4,m5,m6,m7,m8,m9,m10,m11,m12,m13⟩,m14,m15,m16,m17,m18,m19,m20,m21,m22⟩:Mat) k s p o y n) rl rn).length≤2 * (99 * 1):=fun s p o=>kD (l2 s p o)
      have l4:∀ s p:Int,(fm (fun o=>yF yb fun y=>fm (fun n=>A1 (⟨⟨m0,m1,m2,m3,m4,m5,m6,m7,m8,m9,m10,m11,m12,m13⟩,m14,m15,m16,m17,m18,m19,m20,m21,m22⟩:Mat) k s p o y n) rl rn) ol on).length≤11 * (2 * (99 * 1)):=fun s p=>A8 (l3 s p) c3
      have l5:∀ s:Int,(fm (fun p=>fm (fun o=>yF yb fun y=>fm (fun n=>A1 (⟨⟨m0,m1,m2,m3,m4,m5,m6,m7,m8,m9,m10,m11,m12,m13⟩,m14,m15,m16,m17,m18,m19,m20,m21,m22⟩:Mat) k s p o y n) rl rn) ol on) pl pn).length≤11 * (11 * (2 * (99 * 1))):=fun s=>A8 (l4 s) c2
      simp only [PXb,Bool.not_true,Bool.and_true]
      refine AH (Al (len:=sn) (fun i=>[.int (i:Int),.str m0,.int m1,.int m2,.int m3,.int m4,.int m5,.int m6,.int m7,.bool m8,.int m9,.int m10,.int m11,.int m12,.rows m13,.int m14,.int m15,.bool m16,.rows (AM m17),.int m18,.int m19,.int m20,.int m21,.int m22,.rows (fmo [] (fun s=>fm (fun p=>fm (fun o=>yF yb fun y=>fm (fun n=>A1 (⟨⟨m0,m1,m2,m3,m4,m5,m6,m7,m8,m9,m10,m11,m12,m13⟩,m14,m15,m16,m17,m18,m19,m20,m21,m22⟩:Mat) k s p o y n) rl rn) ol on) pl pn) sl i)]) [.str m0,.int m1,.int m2,.int m3,.int m4,.int m5,.int m6,.int m7,.bool m8,.int m9,.int m10,.int m11,.int m12,.rows m13,.int m14,.int m15,.bool m16,.rows (AM m17),.int m18,.int m19,.int m20,.int m21,.int m22,.rows (fmo [] (fun s=>fm (fun p=>fm (fun o=>yF yb fun y=>fm (fun n=>A1 (⟨⟨m0,m1,m2,m3,m4,m5,m6,m7,m8,m9,m10,m11,m12,m13⟩,m14,m15,m16,m17,m18,m19,m20,m21,m22⟩:Mat) k s p o y n) rl rn) ol on) pl pn) sl sn)] ?_ ?_ N (by omega)) ?_
      · intro self
        simp only [PXb,PXc,PXn,AB,Ew,Au]
      · intro i self hi
        have b1:=Bc (out:=[]) (lo:=sl) (n:=i) l5 (k:=2) (by omega)
        rw [List.length_nil,Nat.zero_add] at b1
        rw [BE]
        generalize fmo [] (fun s=>fm (fun p=>fm (fun o=>yF yb fun y=>fm (fun n=>A1 (⟨⟨m0,m1,m2,m3,m4,m5,m6,m7,m8,m9,m10,m11,m12,m13⟩,m14,m15,m16,m17,m18,m19,m20,m21,m22⟩:Mat) k s p o y n) rl rn) ol on) pl pn) sl i=out1 at *
        rw [← Cs]
        simp only [PXb,PXc,PXn,AB,Ew,Aj hi,AQ hi,Int.toNat_natCast,cC hi]
        generalize sl+(i:Int)=s at *
        refine AH (Al (len:=pn) (fun j=>[.int (j:Int),.str m0,.int m1,.int m2,.int m3,.int m4,.int m5,.int m6,.int m7,.bool m8,.int m9,.int m10,.int m11,.int m12,.rows m13,.int m14,.int m15,.bool m16,.rows (AM m17),.int m18,.int m19,.int m20,.int m21,.int m22,.rows (fmo out1 (fun p=>fm (fun o=>yF yb fun y=>fm (fun n=>A1 (⟨⟨m0,m1,m2,m3,m4,m5,m6,m7,m8,m9,m10,m11,m12,m13⟩,m14,m15,m16,m17,m18,m19,m20,m21,m22⟩:Mat) k s p o y n) rl rn) ol on) pl j)]) [.int (pn:Int),.str m0,.int m1,.int m2,.int m3,.int m4,.int m5,.int m6,.int m7,.bool m8,.int m9,.int m10,.int m11,.int m12,.rows m13,.int m14,.int m15,.bool m16,.rows (AM m17),.int m18,.int m19,.int m20,.int m21,.int m22,.rows (fmo out1 (fun p=>fm (fun o=>yF yb fun y=>fm (fun n=>A1 (⟨⟨m0,m1,m2,m3,m4,m5,m6,m7,m8,m9,m10,m11,m12,m13⟩,m14,m15,m16,m17,m18,m19,m20,m21,m22⟩:Mat) k s p o y n) rl rn) ol on) pl pn)] ?_ ?_ N (by omega)) ?_
        · intro self
          simp only [PXb,PXc,PXn,AB,Ew,Au]
        · intro j self hj
          have b2:=Bc (out:=out1) (lo:=pl) (n:=j) (l4 s) (k:=11) (by omega)
          rw [BE]
          generalize fmo out1 (fun p=>fm (fun o=>yF yb fun y=>fm (fun n=>A1 (⟨⟨m0,m1,m2,m3,m4,m5,m6,m7,m8,m9,m10,m11,m12,m13⟩,m14,m15,m16,m17,m18,m19,m20,m21,m22⟩:Mat) k s p o y n) rl rn) ol on) pl j=out2 at *
          rw [← Cs]
          simp only [PXb,PXc,PXn,AB,Ew,Aj hj,AQ hj,Int.toNat_natCast,cC hj]
          generalize pl+(j:Int)=p at *
          refine AH (Al (len:=on) (fun q=>[.int (q:Int),.str m0,.int m1,.int m2,.int m3,.int m4,.int m5,.int m6,.int m7,.bool m8,.int m9,.int m10,.int m11,.int m12,.rows m13,.int m14,.int m15,.bool m16,.rows (AM m17),.int m18,.int m19,.int m20,.int m21,.int m22,.rows (fmo out2 (fun o=>yF yb fun y=>fm (fun n=>A1 (⟨⟨m0,m1,m2,m3,m4,m5,m6,m7,m8,m9,m10,m11,m12,m13⟩,m14,m15,m16,m17,m18,m19,m20,m21,m22⟩:Mat) k s p o y n) rl rn) ol q)]) [.int (on:Int),.str m0,.int m1,.int m2,.int m3,.int m4,.int m5,.int m6,.int m7,.bool m8,.int m9,.int m10,.int m11,.int m12,.rows m13,.int m14,.int m15,.bool m16,.rows (AM m17),.int m18,.int m19,.int m20,.int m21,.int m22,.rows (fmo out2 (fun o=>yF yb fun y=>fm (fun n=>A1 (⟨⟨m0,m1,m2,m3,m4,m5,m6,m7,m8,m9,m10,m11,m12,m13⟩,m14,m15,m16,m17,m18,m19,m20,m21,m22⟩:Mat) k s p o y n) rl rn) ol on)] ?_ ?_ N (by omega)) ?_
          · intro self
            simp only [PXb,PXc,PXn,AB,Ew,Au]
          · intro q self hq
            have b3:=Bc (out:=out2) (lo:=ol) (n:=q) (l3 s p) (k:=11) (by omega)
            rw [BE]
            generalize fmo out2 (fun o=>yF yb fun y=>fm (fun n=>A1 (⟨⟨m0,m1,m2,m3,m4,m5,m6,m7,m8,m9,m10,m11,m12,m13⟩,m14,m15,m16,m17,m18,m19,m20,m21,m22⟩:Mat) k s p o y n) rl rn) ol q=out3 at *
            rw [← uz]
            simp only [PXb,PXc,PXn,AB,Ew,Aj hq,AQ hq,Int.toNat_natCast,cC hq]
            generalize ol+(q:Int)=o at *
            refine AH (Al (len:=2) (fun u=>[.int (u:Int),.str m0,.int m1,.int m2,.int m3,.int m4,.int m5,.int m6,.int m7,.bool m8,.int m9,.int m10,.int m11,.int m12,.rows m13,.int m14,.int m15,.bool m16,.rows (AM m17),.int m18,.int m19,.int m20,.int m21,.int m22,.rows (yfo yb (fun y=>fm (fun n=>A1 (⟨⟨m0,m1,m2,m3,m4,m5,m6,m7,m8,m9,m10,m11,m12,m13⟩,m14,m15,m16,m17,m18,m19,m20,m21,m22⟩:Mat) k s p o y n) rl rn) out3 u)]) [.int 2,.str m0,.int m1,.int m2,.int m3,.int m4,.int m5,.int m6,.int m7,.bool m8,.int m9,.int m10,.int m11,.int m12,.rows m13,.int m14,.int m15,.bool m16,.rows (AM m17),.int m18,.int m19,.int m20,.int m21,.int m22,.rows (yfo yb (fun y=>fm (fun n=>A1 (⟨⟨m0,m1,m2,m3,m4,m5,m6,m7,m8,m9,m10,m11,m12,m13⟩,m14,m15,m16,m17,m18,m19,m20,m21,m22⟩:Mat) k s p o y n) rl rn) out3 2)] ?_ ?_ N (by omega)) ?_
            · intro self
              rfl
            · intro u self hu
              have INNER : ∀ (y : Bool) (out4 : Rows), out4.length ≤ 1000000 → ∀ (F : (List AU → Option (List PV)) → List PV → Option (List PV)), (∀ out self, F self [.int (rn : Int), .str m0, .int m1, .int m2, .int m3, .int m4, .int m5, .int m6, .int m7, .bool m8, .int m9, .int m10, .int m11, .int m12, .rows m13, .int m14, .int m15, .bool m16, .rows (AM m17), .int m18, .int m19, .int m20, .int m21, .int m22, .rows out] = some [.int (rn : Int), .str m0, .int m1, .int m2, .int m3, .int m4, .int m5, .int m6, .int m7, .bool m8, .int m9, .int m10, .int m11, .int m12, .rows m13, .int m14, .int m15, .bool m16, .rows (AM m17), .int m18, .int m19, .int m20, .int m21, .int m22, .rows out]) →
                  (∀ (v:Nat) out self,v<rn→out.length≤1000099→F self [.int (v:Int),.str m0,.int m1,.int m2,.int m3,.int m4,.int m5,.int m6,.int m7,.bool m8,.int m9,.int m10,.int m11,.int m12,.rows m13,.int m14,.int m15,.bool m16,.rows (AM m17),.int m18,.int m19,.int m20,.int m21,.int m22,.rows out]=self [.int ((v+1:Nat):Int),.str m0,.int m1,.int m2,.int m3,.int m4,.int m5,.int m6,.int m7,.bool m8,.int m9,.int m10,.int m11,.int m12,.rows m13,.int m14,.int m15,.bool m16,.rows (AM m17),.int m18,.int m19,.int m20,.int m21,.int m22,.rows (out++A1 (⟨⟨m0,m1,m2,m3,m4,m5,m6,m7,m8,m9,m10,m11,m12,m13⟩,m14,m15,m16,m17,m18,m19,m20,m21,m22⟩:Mat) k s p o y (rl+(v:Int)))]) →
                  EM F N [.int 0,.str m0,.int m1,.int m2,.int m3,.int m4,.int m5,.int m6,.int m7,.bool m8,.int m9,.int m10,.int m11,.int m12,.rows m13,.int m14,.int m15,.bool m16,.rows (AM m17),.int m18,.int m19,.int m20,.int m21,.int m22,.rows out4]=some [.int (rn:Int),.str m0,.int m1,.int m2,.int m3,.int m4,.int m5,.int m6,.int m7,.bool m8,.int m9,.int m10,.int m11,.int m12,.rows m13,.int m14,.int m15,.bool m16,.rows (AM m17),.int m18,.int m19,.int m20,.int m21,.int m22,.rows (out4++fm (fun n=>A1 (⟨⟨m0,m1,m2,m3,m4,m5,m6,m7,m8,m9,m10,m11,m12,m13⟩,m14,m15,m16,m17,m18,m19,m20,m21,m22⟩:Mat) k s p o y n) rl rn)]:=fun y out4 ho F h0 h1=>by
                have:=Al (F:=F) (len:=rn) (fun v=>[.int (v:Int),.str m0,.int m1,.int m2,.int m3,.int m4,.int m5,.int m6,.int m7,.bool m8,.int m9,.int m10,.int m11,.int m12,.rows m13,.int m14,.int m15,.bool m16,.rows (AM m17),.int m18,.int m19,.int m20,.int m21,.int m22,.rows (fmo out4 (fun n=>A1 (⟨⟨m0,m1,m2,m3,m4,m5,m6,m7,m8,m9,m10,m11,m12,m13⟩,m14,m15,m16,m17,m18,m19,m20,m21,m22⟩:Mat) k s p o y n) rl v)]) [.int (rn:Int),.str m0,.int m1,.int m2,.int m3,.int m4,.int m5,.int m6,.int m7,.bool m8,.int m9,.int m10,.int m11,.int m12,.rows m13,.int m14,.int m15,.bool m16,.rows (AM m17),.int m18,.int m19,.int m20,.int m21,.int m22,.rows (fmo out4 (fun n=>A1 (⟨⟨m0,m1,m2,m3,m4,m5,m6,m7,m8,m9,m10,m11,m12,m13⟩,m14,m15,m16,m17,m18,m19,m20,m21,m22⟩:Mat) k s p o y n) rl rn)] (fun self=>h0 _ self) (fun v self hv=>h1 v _ self hv (by
                  have:=Bc (out:=out4) (f:=fun n=>A1 (⟨⟨m0,m1,m2,m3,m4,m5,m6,m7,m8,m9,m10,m11,m12,m13⟩,m14,m15,m16,m17,m18,m19,m20,m21,m22⟩:Mat) k s p o y n) (lo:=rl) (n:=v) (l1 s p o y) (k:=99) (by omega)
                  omega)) N (by omega)
                rw [Cs out4 (fun n=>A1 (⟨⟨m0,m1,m2,m3,m4,m5,m6,m7,m8,m9,m10,m11,m12,m13⟩,m14,m15,m16,m17,m18,m19,m20,m21,m22⟩:Mat) k s p o y n) rl rn] at this
                exact this
              have STEP:∀ (y:Bool) (n:Int) (out:Rows),out.length≤1000099→(cond ((A7 (⟨⟨m0,m1,m2,m3,m4,m5,m6,m7,m8,m9,m10,m11,m12,m13⟩,m14,m15,m16,m17,m18,m19,m20,m21,m22⟩:Mat) (evK k s p o y n)).2==0) (cond (iSm ((out++[[PV.int k,.int s,.int p,.int o,.bool y,.int n,.int 0,.int 0,.int 0,.int 0,.int 0,.int 0,.bool false,.int 0,.int 0,.int 0,.int 0,.bool false,.int 0]]).length:Int) 136) (some [PV.rows (out++[[PV.int k,.int s,.int p,.int o,.bool y,.int n,.int 0,.int 0,.int 0,.int 0,.int 0,.int 0,.bool false,.int 0,.int 0,.int 0,.int 0,.bool false,.int 0]])]) none) (some [PV.rows out]))=some [PV.rows (out++A1 (⟨⟨m0,m1,m2,m3,m4,m5,m6,m7,m8,m9,m10,m11,m12,m13⟩,m14,m15,m16,m17,m18,m19,m20,m21,m22⟩:Mat) k s p o y n)]:=fun y n out ho=>by
                have sm:iSm ((out.length+1:Nat):Int) 136=true:=DM (by omega) (by omega)
                rw [ONE]
                cases (A7 (⟨⟨m0,m1,m2,m3,m4,m5,m6,m7,m8,m9,m10,m11,m12,m13⟩,m14,m15,m16,m17,m18,m19,m20,m21,m22⟩:Mat) (evK k s p o y n)).2==0 with
                | false=>rw [cond_false,cond_false,List.append_nil]
                | true=>rw [cond_true,cond_true,List.length_append,List.length_cons,List.length_nil,Nat.zero_add,sm,cond_true]
              rcases lt2 hu with e | e
              · subst e
                simp only [PXb,PXc,PXn,AB]
                refine AH (INNER false out3 (by omega) _ ?_ ?_) ?_
                · intro out self
                  simp only [PXb,PXc,PXn,AB,Ew,Au]
                · intro v out self hv ho
                  simp only [PXb,PXc,PXn,AB,Ew,Aj hv,AQ hv,Int.toNat_natCast,cC hv,WHY,Bz (show v≤1099511627776 by omega)]
                  refine bind_ok (STEP false (rl+(v:Int)) out ho) rfl
                · rfl
              · subst e
                cases hy:yb with
                | false =>
                  subst hy
                  have y21:yfo false (fun y=>fm (fun n=>A1 (⟨⟨m0,m1,m2,m3,m4,m5,m6,m7,m8,m9,m10,m11,m12,m13⟩,m14,m15,m16,m17,m18,m19,m20,m21,m22⟩:Mat) k s p o y n) rl rn) out3 (1+1)=yfo false (fun y=>fm (fun n=>A1 (⟨⟨m0,m1,m2,m3,m4,m5,m6,m7,m8,m9,m10,m11,m12,m13⟩,m14,m15,m16,m17,m18,m19,m20,m21,m22⟩:Mat) k s p o y n) rl rn) out3 1:=List.append_nil _
                  rw [y21]
                  rfl
                | true =>
                  subst hy
                  simp only [PXb,PXc,PXn,AB]
                  refine AH (INNER true _ ?_ _ ?_ ?_) ?_
                  · show (out3++fm (fun n=>A1 (⟨⟨m0,m1,m2,m3,m4,m5,m6,m7,m8,m9,m10,m11,m12,m13⟩,m14,m15,m16,m17,m18,m19,m20,m21,m22⟩:Mat) k s p o false n) rl rn).length≤1000000
                    have:=l2 s p o false
                    rw [List.length_append]
                    omega
                  · intro out self
                    simp only [PXb,PXc,PXn,AB,Ew,Au]
                  · intro v out self hv ho
                    simp only [PXb,PXc,PXn,AB,Ew,Aj hv,AQ hv,Int.toNat_natCast,cC hv,WHY,Bz (show v≤1099511627776 by omega)]
                    refine bind_ok (STEP true (rl+(v:Int)) out ho) rfl
                  · rfl
            · simp only [PXb,PXc,PXn,AB,Bz (show q≤1099511627776 by omega)]
          · simp only [PXb,PXc,PXn,AB,Bz (show j≤1099511627776 by omega)]
        · simp only [PXb,PXc,PXn,AB,Bz (show i≤1099511627776 by omega)]
      · rw [Pi]
        rfl
end Go.Px
end
