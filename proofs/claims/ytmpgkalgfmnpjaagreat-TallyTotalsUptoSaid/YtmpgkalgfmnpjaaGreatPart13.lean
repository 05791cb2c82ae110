/- Part 13. -/
import Derived.Test.YtmpgkalgfmnpjaaGreatPart12
set_option linter.unusedVariables false
set_option linter.unusedSimpArgs false
section
namespace Go.Px
set_option maxRecDepth 100000
def lnx (xs:List Inn):Nat:=(IntKind.i64.wrap ((xs.length:Int) - 1)).toNat
def As (m:Mat):Inn:=inn m.inns (lnx m.inns)
theorem N4 {n:Nat} (h:((n:Int)==0)=false) (hl:n≤1000000):iIn (IntKind.i64.wrap ((n:Int) - 1)) (n:Int)=true:=by
 rw [beq_eq_false_iff_ne] at h
 rw [C0 (by omega) (by omega)]
 simp only [iIn,decide_eq_true_eq];omega
theorem YY {xs:List Inn} (h:((xs.length:Int)==0)=false) (hl:xs.length≤1000000):lnx xs<xs.length:=by
 rw [beq_eq_false_iff_ne] at h
 unfold lnx
 rw [C0 (by omega) (by omega)]
 omega
def Ys (r:Rul):Int:=cond (r.overs==0) 5 6
theorem KW {N:Nat} {r1 r2 r3 r4 r5 r6 r7 r9 r10 r11 r12:Int} {r8:Bool} {r0:ByteArray} {r13:Rows}  : Bz N [.str r0,.int r1,.int r2,.int r3,.int r4,.int r5,.int r6,.int r7,.bool r8,.int r9,.int r10,.int r11,.int r12,.rows r13]=some [.int (Ys (⟨r0,r1,r2,r3,r4,r5,r6,r7,r8,r9,r10,r11,r12,r13⟩:Rul))]:=by
 show Gi (std (PI N) N) (xOf _)=_
 simp only [Gi,std,xOf,PXb,PXc,PXn,PXm,Nat.reduceAdd,Int.reduceBEq,Ys]
theorem Tl {N:Nat} {m1 m2 m3 m4 m5 m6 m7 m9 m10 m11 m12 m14 m15 m18 m19 m20 m21 m22:Int} {m8 m16:Bool} {m0:ByteArray} {m13:Rows} {m17:List Inn} (h:((m17.length:Int)==0)=false) (hl:m17.length≤1000000):DN N [.str m0,.int m1,.int m2,.int m3,.int m4,.int m5,.int m6,.int m7,.bool m8,.int m9,.int m10,.int m11,.int m12,.rows m13,.int m14,.int m15,.bool m16,.rows (AU m17),.int m18,.int m19,.int m20,.int m21,.int m22]=some (inn m17 (lnx m17)).ls:=by
 show QE (std (K5 N) N) (xOf _)=_
 simp only [QE,std,xOf,PXb,PXc,PXn,PXm,Nat.reduceAdd,Int.reduceBEq,PXi,N4 h hl,lnx]
def qT (x:Int×Int×Int):List PV:=[.int x.1,.int x.2.1,.int x.2.2]
def Nj (m:Mat):Int×Int×Int :=
  let n:Int:=m.inns.length
  let most:=IntKind.i64.wrap (2 * m.rules.innings)
  let x:=As m
  cond (!CU m||n==0) (0,0,0) (cond (x.ending==5) (Ys m.rules,0,0) (cond (x.ending==0) (0,0,0)
    (cond (n==most&&iLe x.target x.runs) (2,x.side,IntKind.i64.wrap (IntKind.i64.wrap (m.rules.side - 1) - x.wickets)) (cond (n==most&&x.runs==IntKind.i64.wrap (x.target - 1)) (4,0,0)
      (cond (n==most) (1,Ay x.side,IntKind.i64.wrap (IntKind.i64.wrap (x.target - 1) - x.runs))
        (cond (n==3&&iLt (BE m x.side) (BE m (Ay x.side))) (3,Ay x.side,IntKind.i64.wrap (BE m (Ay x.side) - BE m x.side)) (0,0,0)))))))
set_option maxHeartbeats 4000000 in
theorem lJ {N:Nat} {m1 m2 m3 m4 m5 m6 m7 m9 m10 m11 m12 m14 m15 m18 m19 m20 m21 m22:Int} {m8 m16:Bool} {m0:ByteArray} {m13:Rows} {m17:List Inn} (hf:Ds m17) (hN:2097152<N) (hl:m17.length≤1000000) (hs:m0.size≤1048576):Gk N [.str m0,.int m1,.int m2,.int m3,.int m4,.int m5,.int m6,.int m7,.bool m8,.int m9,.int m10,.int m11,.int m12,.rows m13,.int m14,.int m15,.bool m16,.rows (AU m17),.int m18,.int m19,.int m20,.int m21,.int m22]=some (qT (Nj (⟨⟨m0,m1,m2,m3,m4,m5,m6,m7,m8,m9,m10,m11,m12,m13⟩,m14,m15,m16,m17,m18,m19,m20,m21,m22⟩:Mat))):=by
 show Jt (std (DZ N) N) (xOf _)=_
 generalize hres:(some (qT (Nj (⟨⟨m0,m1,m2,m3,m4,m5,m6,m7,m8,m9,m10,m11,m12,m13⟩,m14,m15,m16,m17,m18,m19,m20,m21,m22⟩:Mat))):Option (List PV))=RR
 simp only [Jt,Sh,Sj,Sm,NY,std,xOf,PXb,PXi,bq hf hN hl hs,JE,KW,Ss hN (show m17.length≤1048576 by omega)]
 subst hres;simp only [Nj,As,lnx]
 cases hv:CU (⟨⟨m0,m1,m2,m3,m4,m5,m6,m7,m8,m9,m10,m11,m12,m13⟩,m14,m15,m16,m17,m18,m19,m20,m21,m22⟩:Mat)
 case false=>rfl
 cases h0:(m17.length:Int)==0
 case true=>rfl
 simp only [PXb,N4 h0 hl]
 generalize inn m17 (IntKind.i64.wrap ((m17.length:Int) - 1)).toNat=x
 cases x.ending==5
 case true=>rfl
 cases x.ending==0
 case true=>rfl
 cases (m17.length:Int)==IntKind.i64.wrap (2 * m2)<;>cases iLe x.target x.runs<;>cases x.runs==IntKind.i64.wrap (x.target - 1)<;>try rfl
 all_goals (cases (m17.length:Int)==3<;>try rfl)
 all_goals (simp only [PXb];cases iLt (BE (⟨⟨m0,m1,m2,m3,m4,m5,m6,m7,m8,m9,m10,m11,m12,m13⟩,m14,m15,m16,m17,m18,m19,m20,m21,m22⟩:Mat) x.side) (BE (⟨⟨m0,m1,m2,m3,m4,m5,m6,m7,m8,m9,m10,m11,m12,m13⟩,m14,m15,m16,m17,m18,m19,m20,m21,m22⟩:Mat) (Ay x.side))<;>rfl)
set_option maxHeartbeats 4000000 in
theorem pP {N:Nat} {m1 m2 m3 m4 m5 m6 m7 m9 m10 m11 m12 m14 m15 m18 m19 m20 m21 m22:Int} {m8 m16:Bool} {m0:ByteArray} {m13:Rows} {m17:List Inn} (hf:Ds m17) (hN:2097152<N) (hl:m17.length≤1000000) (hs:m0.size≤1048576):It N [.str m0,.int m1,.int m2,.int m3,.int m4,.int m5,.int m6,.int m7,.bool m8,.int m9,.int m10,.int m11,.int m12,.rows m13,.int m14,.int m15,.bool m16,.rows (AU m17),.int m18,.int m19,.int m20,.int m21,.int m22]=some (qT (Nj (⟨⟨m0,m1,m2,m3,m4,m5,m6,m7,m8,m9,m10,m11,m12,m13⟩,m14,m15,m16,m17,m18,m19,m20,m21,m22⟩:Mat))):=by
 show JH (std (CP N) N) (xOf _)=_
 generalize hres:(some (qT (Nj (⟨⟨m0,m1,m2,m3,m4,m5,m6,m7,m8,m9,m10,m11,m12,m13⟩,m14,m15,m16,m17,m18,m19,m20,m21,m22⟩:Mat))):Option (List PV))=RR
 simp only [JH,Vx,Me,Lt,Lu,std,xOf,PXb,PXi,XO hf hN hl hs,Gr,Mi hN (show m17.length≤1048576 by omega)]
 subst hres;simp only [Nj,As]
 cases hv:CU (⟨⟨m0,m1,m2,m3,m4,m5,m6,m7,m8,m9,m10,m11,m12,m13⟩,m14,m15,m16,m17,m18,m19,m20,m21,m22⟩:Mat)
 case false=>rfl
 cases h0:(m17.length:Int)==0
 case true=>rfl
 simp only [PXb,PXm,Me,Tl h0 hl,Lt,Lu,Gr,Mi hN (show m17.length≤1048576 by omega)]
 generalize inn m17 (lnx m17)=x
 unfold Ys
 cases x.ending==5<;>cases m3==0<;>try rfl
 all_goals (cases x.ending==0<;>try rfl)
 all_goals (cases (m17.length:Int)==IntKind.i64.wrap (2 * m2)<;>cases iLe x.target x.runs<;>cases x.runs==IntKind.i64.wrap (x.target - 1)<;>try rfl)
 all_goals (cases (m17.length:Int)==3<;>try rfl)
 all_goals (simp only [PXb];cases iLt (BE (⟨⟨m0,m1,m2,m3,m4,m5,m6,m7,m8,m9,m10,m11,m12,m13⟩,m14,m15,m16,m17,m18,m19,m20,m21,m22⟩:Mat) x.side) (BE (⟨⟨m0,m1,m2,m3,m4,m5,m6,m7,m8,m9,m10,m11,m12,m13⟩,m14,m15,m16,m17,m18,m19,m20,m21,m22⟩:Mat) (Ay x.side))<;>rfl)
theorem sw:∀ (n k:Nat) (f:Nat→Nat),(∀ i,i<k→1≤f i∧f i≤n)→(∀ i j,i<j→j<k→f i≠f j)→k≤n
 | 0,k,f,h,_=>by
  rcases Nat.eq_zero_or_pos k with e | e
  ·omega
  ·have:=h 0 e;omega
 | n+1,0,f,_,_=>by omega
 | n+1,k+1,f,h,hi=>by
  by_cases he:∃ j,j<k+1∧f j=n+1
  ·obtain ⟨j,hj,hfj⟩:=he
   have:=sw n k (fun i=>if i=j then f k else f i) (fun i hik=>by
    show 1≤(if i=j then f k else f i)∧(if i=j then f k else f i)≤n
    by_cases e:i=j
    ·rw [if_pos e]
     have h1:=h k (by omega)
     have:f k≠f j:=fun e2=>hi j k (by omega) (by omega) e2.symm
     omega
    ·rw [if_neg e]
     have h1:=h i (by omega)
     have:f i≠f j:=by
      rcases Nat.lt_or_gt_of_ne e with e2 | e2
      ·exact hi i j e2 hj
      ·exact fun e3=>hi j i e2 (by omega) e3.symm
     omega) (fun a b hab hb=>by
    show (if a=j then f k else f a)≠(if b=j then f k else f b)
    by_cases e1:a=j
    ·have e2:b≠j:=by omega
     rw [if_pos e1,if_neg e2]
     exact fun e3=>hi b k hb (by omega) e3.symm
    ·rw [if_neg e1]
     by_cases e2:b=j
     ·rw [if_pos e2];exact hi a k (by omega) (by omega)
     ·rw [if_neg e2];exact hi a b hab (by omega))
   omega
  ·have:=sw n (k+1) f (fun i hik=>by
    have h1:=h i hik
    have:f i≠n+1:=fun e=>he ⟨i,hik,e⟩
    omega) hi
   omega
theorem tY {L:Rows} {n:Int} (h:GP L n=true) (hn:0≤n):(L.length:Int)≤n:=by
 unfold GP at h
 rw [Bool.not_eq_true',Ld] at h
 have hb:∀ i,i<L.length→1≤atI L i 0∧atI L i 0≤n:=fun i hi=>by
  have:=h i (by omega) (by omega)
  unfold LG at this
  rw [Bool.or_eq_false_iff,Bool.not_eq_false',Y5] at this
  exact this.1
 have:=sw n.toNat L.length (fun i=>(atI L i 0).toNat) (fun i hi=>by have:=hb i hi;show 1≤(atI L i 0).toNat∧(atI L i 0).toNat≤n.toNat;omega) (fun i j hij hj=>by
  show (atI L i 0).toNat≠(atI L j 0).toNat
  have h1:=hb i (by omega)
  have h2:=hb j hj
  have h3:=h j (by omega) (by omega)
  unfold LG at h3
  rw [Bool.or_eq_false_iff] at h3
  have h4:=Ld.1 h3.2 i (by omega) (by omega)
  rw [beq_eq_false_iff_ne] at h4
  omega)
 omega
theorem PK {r:Rul} {s:Inn} (h:Ej r s=true):s.bowlers.length≤11∧s.before.length≤11∧s.Fit:=by
 have ok:=SO.1 h
 have hs:=ABF ok
 have h1:=tY ok.dw (by omega)
 have h2:=tY ok.df (by omega)
 have h3:=ok.lb
 have h4:=ok.ld
 have h5:=ok.lz
 exact ⟨by omega,by omega,by omega,by omega,by omega,by omega,by omega⟩
end Go.Px
end
section
namespace Go.Px
set_option maxRecDepth 100000
def Wz (m:Mat) (e:Ev):Mat×Int :=
  let sd:=CO m (m.inns.length:Int)
  let b:=Bb m.rules sd (FG m sd) (cond (sd==2) m.pen2 m.pen1)
  let t:=Au m.rules b.1 e
  cond (!(b.2==0)) (m,1) (cond (!(t.2==0)) (m,t.2)
    ({ m with stage:=3,inns:=m.inns++[t.1],pen1:=cond (sd==1) 0 m.pen1,pen2:=cond (sd==2) 0 m.pen2 },0))
def NB (xs:List Inn) (sd:Int):Nat→Option Nat
 | 0=>none
 | k+1=>cond ((inn xs k).side==sd) (some k) (NB xs sd k)
def He (m:Mat) (sd:Int):Mat:=match NB m.inns sd m.inns.length with
 | some k=>{ m with inns:=m.inns.set k (Jc (inn m.inns k)) }
 | none=>{ m with pen1:=cond (sd==1) (IntKind.i64.wrap (m.pen1+5)) m.pen1,pen2:=cond (sd==2) (IntKind.i64.wrap (m.pen2+5)) m.pen2 }
def E0 (m:Mat) (e:Ev):Mat×Int :=
 let t:=Au m.rules (As m) e
 cond (!(t.2==0)) (m,t.2) (cond (e.kind==13 && !(e.side==t.1.side)) (He { m with inns:=m.inns.set (lnx m.inns) t.1 } e.side) { m with inns:=m.inns.set (lnx m.inns) t.1 },0)
def fa (m:Mat):Mat:={ m with inns:=cond (m.stage==3) (m.inns.set (lnx m.inns) { As m with ending:=5 }) m.inns,stage:=5,win:=Ys m.rules,wside:=0,margin:=0 }
def Gz (m:Mat) (e:Ev):Mat×Int :=
  cond (e.kind==1) (cond (!(m.stage==1)) (m,1) ({ m with first:=cond e.yes e.side (Ay e.side),stage:=2 },0))
    (cond (e.kind==2) (cond (!(m.stage==2)) (m,1) (Wz m e))
      (cond (e.kind==12) (cond (!(m.stage==4)) (m,1) (cond (!(e.side==m.first)) (m,2) ({ m with follow:=e.yes,stage:=2 },0)))
        (cond (e.kind==16) (fa m,0) (cond (!(m.stage==3)) (m,1) (E0 m e)))))
def N2 (m:Mat):Mat :=
  let n:Int:=m.inns.length
  let sd:=(As m).side
  let o:=Nj { m with stage:=5 }
  cond (n==IntKind.i64.wrap (2 * m.rules.innings)||(n==3&&iLt (BE m sd) (BE m (Ay sd)))) { m with stage:=5,win:=o.1,wside:=o.2.1,margin:=o.2.2 }
    (cond (n==2&&iLt 0 m.rules.followon&&iLe m.rules.followon (IntKind.i64.wrap (BE m m.first - BE m (Ay m.first)))) { m with stage:=4 } { m with stage:=2 })
def B7 (m:Mat):Mat:=cond (m.stage==3 && !((As m).ending==0)) (N2 m) m
def C8 (m:Mat) (e:Ev):Mat×Int :=
 cond (!CU m || !(evS e==0)) (m,1) (cond (m.stage==5) (m,26) (cond (!((Gz m e).2==0)) (m,(Gz m e).2) (B7 (Gz m e).1,0)))
theorem bind_ok {X:Option (List PV)} {r:List PV} {k:List PV→Option (List PV)} {g:Option (List PV)} (h:X=some r) (hk:k r=g):X.bind k=g:=by rw [h];exact hk
structure MatOk (m:Mat):Prop where
 code:A2 m.rules=0
 len:m.inns.length≤4
 innv:∀ i,i<m.inns.length→Ej m.rules (inn m.inns i)=true∧(inn m.inns i).side=CO m (i:Int)
 begun:(m.stage==3)=true→((m.inns.length:Int)==0)=false
 toss:(m.stage==2)=true→m.first=1∨m.first=2
 room:(m.stage==2)=true→(m.inns.length:Int)<2 * m.rules.innings
 most:IntKind.i64.wrap (2 * m.rules.innings)=2 * m.rules.innings∧(m.inns.length:Int)≤2 * m.rules.innings
theorem Ur {m:Mat} (h:CU m=true):MatOk m:=by
 unfold CU kU at h
 simp only [Bool.and_eq_true,Bool.not_eq_true'] at h
 obtain ⟨⟨h1,h2,h3,h4,h5,h6,h7,h8,h9,h10⟩,h11,h12⟩:=h
 have hc:=beq_iff_eq.1 h1
 have rk:=(Dv hc).innings
 have e2:IntKind.i64.wrap (2 * m.rules.innings)=2 * m.rules.innings:=C0 (by omega) (by omega)
 rw [e2] at h5 h8
 rw [Bool.or_eq_false_iff,Bool.or_eq_false_iff] at h5
 have hn:=h5.2
 have hf1:=h5.1.1
 have hf2:=h5.1.2
 simp only [iLt,decide_eq_false_iff_not] at hn hf1 hf2
 refine ⟨hc,by omega,fun i hi=>?_,fun hs=>?_,fun hs=>?_,fun hs=>?_,e2,by omega⟩
 ·have:=Ld.1 h11 i (by omega) (by omega)
  unfold K0 at this
  rw [Bool.or_eq_false_iff,Bool.not_eq_false',Bool.not_eq_false',beq_iff_eq] at this
  exact this
 ·unfold Yd at h12
  rw [hs,Bool.and_eq_true] at h12
  have:=h12.2
  simp only [iLt,Bool.not_true,Bool.false_or,decide_eq_true_eq] at this
  exact beq_false_of_ne (by omega)
 ·rw [beq_iff_eq.1 hs] at h6
  cases h0:m.first==0 with
  | true=>rw [h0] at h6;simp at h6
  | false =>
   rw [beq_eq_false_iff_ne] at h0
   omega
 ·rw [hs,Bool.true_and,beq_eq_false_iff_ne] at h8
  omega
theorem sH {m:Mat} (h:m.first=1∨m.first=2) (i:Int):CO m i=1∨CO m i=2:=by
 unfold CO
 cases cond (m.follow&&iLe 2 i) (i==2) (i.tmod 2==1) with
 | false=>exact h
 | true=>rcases h with h | h<;>rw [h]<;>decide
theorem oY {m:Mat} (h:MatOk m):Ds m.inns:=fun i hi=>(PK (h.innv i hi).1).2.2
theorem Tt {F : (List AZ → Option (List PV)) → List PV → Option (List PV)} {len : Nat} (enc : Nat → List AZ) (ans : Nat → Option (List PV))
    (h0:∀ self,F self ((enc len).map Leaf.pv)=some [.int 1]) (h1:∀ i self,i<len→F self ((enc i).map Leaf.pv)=match ans i with | some r=>some (.int 0::r) | none=>self (enc (i+1))) :
    ∀ (k i n:Nat),i+k=len→k<n→DR F n ((enc i).map Leaf.pv)=some (NN (BJ ans k i))
  | 0,i,n,hk,hn=>by
    obtain ⟨n,rfl⟩:∃ m,n=m+1:=⟨n - 1,by omega⟩
    obtain rfl:i=len:=by omega
    exact h0 _
  | k+1,i,n,hk,hn=>by
    obtain ⟨n,rfl⟩:∃ m,n=m+1:=⟨n - 1,by omega⟩
    show F _ _=_
    rw [h1 i _ (by omega)]
    simp only [BJ]
    cases ans i with
    | some r=>rfl
    | none=>exact Tt enc ans h0 h1 k (i+1) n (by omega) (by omega)
theorem nl (ys:List Inn) (sd:Int) (g:Nat→List PV) (n:Nat):∀ k,k≤n→BJ (fun j=>cond ((inn ys (n - 1 - j)).side==sd) (some (g (n - 1 - j))) none) k (n - k)=(NB ys sd k).map g
 | 0,_=>rfl
 | k+1,h=>by
  have ih:=nl ys sd g n k (by omega)
  have e:n - 1 - (n - (k+1))=k:=by omega
  have e2:n - (k+1)+1=n - k:=by omega
  simp only [BJ,NB,e,e2,ih]
  cases (inn ys k).side==sd<;>rfl
theorem fp (xs:List Inn) (k:Nat) (s:Inn) (i:Nat) (hi:i<xs.length):inn (xs.set k s) i=(if k=i then s else inn xs i):=by
 rw [OZ,OZ,List.getElem?_set]
 by_cases h:k=i
 ·subst h
  rw [if_pos rfl,if_pos rfl,if_pos hi]
 ·rw [if_neg h,if_neg h]
theorem RB {xs:List Inn} {s:Inn} (k:Nat) (h:Ds xs) (hs:s.Fit):Ds (xs.set k s):=fun i hi=>by
 rw [List.length_set] at hi
 rw [fp xs k s i hi]
 by_cases e:k=i
 ·rw [if_pos e];exact hs
 ·rw [if_neg e];exact h i hi
theorem oV {e:Ev} (h:(evS e==0)=true) (hk:(e.kind==13)=true):e.side=1∨e.side=2:=by
 have h0:=fo h
 rw [beq_iff_eq] at hk
 unfold evS at h
 rw [h0] at h
 cases h1:mo e with
 | true=>rw [h1] at h;cases h
 | false =>
  cases h2:eg e with
  | true=>rw [h1,h2] at h;cases h
  | false =>
   unfold eg at h2
   rw [Bool.or_eq_false_iff] at h2
   have h3:=h2.1
   rw [hk,show uS 13=true from rfl,Bool.and_true] at h3
   simp only [btw,iLe,Bool.not_eq_false',Bool.and_eq_true,decide_eq_true_eq] at h3
   omega
theorem AA6 (xs:List Inn) (s:Inn) (i:Nat) (hi:i<xs.length+1):inn (xs++[s]) i=(if i<xs.length then inn xs i else s):=by
 rw [OZ,OZ]
 by_cases h:i<xs.length
 ·rw [if_pos h,List.getElem?_append_left h]
 ·have:i=xs.length:=by omega
  subst this
  rw [if_neg h,List.getElem?_append_right (Nat.le_refl _),Nat.sub_self]
  rfl
theorem AAQ {xs:List Inn} {s:Inn} (h:Ds xs) (hs:s.Fit):Ds (xs++[s]):=fun i hi=>by
 rw [List.length_append] at hi
 rw [AA6 xs s i hi]
 by_cases e:i<xs.length
 ·rw [if_pos e];exact h i e
 ·rw [if_neg e];exact hs
theorem nV (r:Rul) (a b c:Int) (e:Ev):(Au r (Bb r a b c).1 e).1.Fit:=by
 obtain ⟨f,h1,h2⟩:=Ia r a b c
 exact KO (Sb r _ e) f (by rw [h1,h2];exact Nat.zero_le _)
structure ActOk (m:Mat) (x:Mat×Int):Prop where
 rules:x.1.rules=m.rules
 fit:Ds x.1.inns
 len:x.1.inns.length≤5
 some':(x.2==0)=true→(x.1.stage==3)=true→((x.1.inns.length:Int)==0)=false
theorem A_c {m:Mat} (b:Bool) (x y:Mat×Int) (hx:ActOk m x) (hy:ActOk m y):ActOk m (cond b x y):=by cases b<;>assumption
theorem qr {m:Mat} (sd:Int) (hf:Ds m.inns):(He m sd).rules=m.rules∧Ds (He m sd).inns∧(He m sd).inns.length=m.inns.length∧(He m sd).stage=m.stage:=by
 unfold He
 cases h:NB m.inns sd m.inns.length with
 | none=>exact ⟨rfl,hf,rfl,rfl⟩
 | some k =>
  have hk:k<m.inns.length:=by
   have:∀ n,NB m.inns sd n=some k→k<n:=by
    intro n
    induction n with
    | zero=>intro h;cases h
    | succ n ih =>
     intro h
     unfold NB at h
     cases hq:(inn m.inns n).side==sd with
     | true=>rw [hq] at h;cases h;omega
     | false=>rw [hq] at h;have:=ih h;omega
   exact this _ h
  exact ⟨rfl,RB k hf (AA4 (hf k hk)),List.length_set,rfl⟩
theorem sC {m:Mat} (ok:MatOk m) (e:Ev):ActOk m (Gz m e):=by
 have hf:=oY ok
 have hl:=ok.len
 have self:∀ n:Int,(n==0)=false→ActOk m (m,n):=fun n hn=>⟨rfl,hf,by show m.inns.length≤5;omega,fun h=>by rw [hn] at h;cases h⟩
 unfold Gz
 refine A_c _ _ _ (A_c _ _ _ (self 1 rfl) ⟨rfl,hf,by show m.inns.length≤5;omega,fun _ h=>by cases h⟩) (A_c _ _ _ ?_ (A_c _ _ _ ?_ (A_c _ _ _ ?_ ?_)))
 ·refine A_c _ _ _ (self 1 rfl) ?_
  unfold Wz
  refine A_c _ _ _ (self 1 rfl) ?_
  cases hq:(Au m.rules (Bb m.rules (CO m (m.inns.length:Int)) (FG m (CO m (m.inns.length:Int))) (cond (CO m (m.inns.length:Int)==2) m.pen2 m.pen1)).1 e).2==0 with
  | false =>
   simp only [Bool.not_false,cond_true]
   exact self _ hq
  | true =>
   simp only [Bool.not_true,cond_false]
   exact ⟨rfl,AAQ hf (nV _ _ _ _ e),by simp;omega,fun _ _=>by
    show ((((m.inns++[_]).length:Nat):Int)==0)=false
    rw [List.length_append]
    exact beq_false_of_ne (by simp;omega)⟩
 ·exact A_c _ _ _ (self 1 rfl) (A_c _ _ _ (self 2 rfl) ⟨rfl,hf,by show m.inns.length≤5;omega,fun _ h=>by cases h⟩)
 ·unfold fa
  cases h3:m.stage==3 with
  | false=>exact ⟨rfl,hf,by show m.inns.length≤5;omega,fun _ h=>by cases h⟩
  | true =>
   have h0:=ok.begun h3
   have fl:=hf (lnx m.inns) (YY h0 (by omega))
   exact ⟨rfl,RB _ hf ⟨fl.bt,fl.bw,fl.bf,fl.bd,fl.sb⟩,by show (m.inns.set _ _).length≤5;rw [List.length_set];omega,fun _ h=>by cases h⟩
 ·cases h3:m.stage==3 with
  | false=>exact self 1 rfl
  | true =>
   have h0:=ok.begun h3
   have lv:=PK (ok.innv (lnx m.inns) (YY h0 (by omega))).1
   have h1:=lv.1
   have h2:=lv.2.1
   have ft:=KO (Sb m.rules (As m) e) lv.2.2 (show (inn m.inns (lnx m.inns)).before.length+(inn m.inns (lnx m.inns)).bowlers.length≤1048575 by omega)
   simp only [Bool.not_true,cond_false,E0]
   cases hq:(Au m.rules (As m) e).2==0 with
   | false =>
    simp only [Bool.not_false,Bool.not_true,cond_true,cond_false]
    exact self _ hq
   | true =>
    have fs:=RB (lnx m.inns) hf ft
    have ln:(m.inns.set (lnx m.inns) (Au m.rules (As m) e).1).length=m.inns.length:=List.length_set
    simp only [Bool.not_true,cond_false]
    cases (e.kind==13 && !(e.side==(Au m.rules (As m) e).1.side)) with
    | false =>
     exact ⟨rfl,fs,by show (m.inns.set _ _).length≤5;omega,fun _ _=>by
      show ((((m.inns.set _ _).length:Nat):Int)==0)=false
      rw [ln];exact h0⟩
    | true =>
     obtain ⟨a1,a2,a3,a4⟩:=qr (m:={ m with inns:=m.inns.set (lnx m.inns) (Au m.rules (As m) e).1 }) e.side fs
     exact ⟨a1,a2,by show (He _ _).inns.length≤5;rw [a3];show (m.inns.set _ _).length≤5;omega,fun _ _=>by
      show ((((He _ _).inns.length:Nat):Int)==0)=false
      rw [a3]
      show ((((m.inns.set _ _).length:Nat):Int)==0)=false
      rw [ln];exact h0⟩
end Go.Px
end
section
namespace Go.Px
set_option maxRecDepth 100000
set_option maxHeartbeats 8000000 in
theorem tW {N:Nat} {m1 m2 m3 m4 m5 m6 m7 m9 m10 m11 m12 m14 m15 m18 m19 m20 m21 m22:Int} {m8 m16:Bool} {m0:ByteArray} {m13:Rows} {m17:List Inn} {e0 e1 e2 e3 e5 e6 e7 e8 e9 e10 e11 e13 e14 e15 e16 e18:Int} {e4 e12 e17:Bool} (hN:2097152<N) (hf:Ds m17) (hl:m17.length≤1000000) (hs:m0.size≤1048576) (h13:m13.length≤1048576):PF N [.str m0,.int m1,.int m2,.int m3,.int m4,.int m5,.int m6,.int m7,.bool m8,.int m9,.int m10,.int m11,.int m12,.rows m13,.int m14,.int m15,.bool m16,.rows (AU m17),.int m18,.int m19,.int m20,.int m21,.int m22,.int e0,.int e1,.int e2,.int e3,.bool e4,.int e5,.int e6,.int e7,.int e8,.int e9,.int e10,.int e11,.bool e12,.int e13,.int e14,.int e15,.int e16,.bool e17,.int e18]=some (J5 (C8 (⟨⟨m0,m1,m2,m3,m4,m5,m6,m7,m8,m9,m10,m11,m12,m13⟩,m14,m15,m16,m17,m18,m19,m20,m21,m22⟩:Mat) (⟨e0,e1,e2,e3,e4,e5,e6,⟨e7,e8,e9,e10,e11,e12,e13,e14,e15,e16,e17,e18⟩⟩:Ev))):=by
 show Pr (std (BH N) N) (xOf _)=_
 generalize hres:(some (J5 (C8 (⟨⟨m0,m1,m2,m3,m4,m5,m6,m7,m8,m9,m10,m11,m12,m13⟩,m14,m15,m16,m17,m18,m19,m20,m21,m22⟩:Mat) (⟨e0,e1,e2,e3,e4,e5,e6,⟨e7,e8,e9,e10,e11,e12,e13,e14,e15,e16,e17,e18⟩⟩:Ev))):Option (List PV))=RR
 simp only [Pr,Uz,U2,Uk,Fj,FU,K2,Ix,EZ,E2,DI,Dg,HV,std,xOf,PXb,bq hf hN hl hs,az hN,px hf hN hl h13]
 subst hres;simp only [C8]
 cases hv:CU (⟨⟨m0,m1,m2,m3,m4,m5,m6,m7,m8,m9,m10,m11,m12,m13⟩,m14,m15,m16,m17,m18,m19,m20,m21,m22⟩:Mat)
 case false=>rfl
 cases he:evS (⟨e0,e1,e2,e3,e4,e5,e6,⟨e7,e8,e9,e10,e11,e12,e13,e14,e15,e16,e17,e18⟩⟩:Ev)==0
 case false=>simp only [PXb,he];rfl
 simp only [PXb,he]
 cases h5:m14==5
 case true=>rfl
 simp only [PXb]
 have ok:=Ur hv
 refine bind_ok (r:=.int (Gz (⟨⟨m0,m1,m2,m3,m4,m5,m6,m7,m8,m9,m10,m11,m12,m13⟩,m14,m15,m16,m17,m18,m19,m20,m21,m22⟩:Mat) (⟨e0,e1,e2,e3,e4,e5,e6,⟨e7,e8,e9,e10,e11,e12,e13,e14,e15,e16,e17,e18⟩⟩:Ev)).2::(Gz (⟨⟨m0,m1,m2,m3,m4,m5,m6,m7,m8,m9,m10,m11,m12,m13⟩,m14,m15,m16,m17,m18,m19,m20,m21,m22⟩:Mat) (⟨e0,e1,e2,e3,e4,e5,e6,⟨e7,e8,e9,e10,e11,e12,e13,e14,e15,e16,e17,e18⟩⟩:Ev)).1.ls) ?_ ?_
 ·unfold Gz
  cases hk1:e0==1
  case true =>
   simp only [PXb,FU,JE]
   cases m14==1<;>cases e4<;>rfl
  cases hk2:e0==2
  case true =>
   simp only [PXb]
   cases hs2:m14==2
   case false=>rfl
   have hl2:m17.length≤1048576:=by omega
   have h304:iSm ((m17.length+1:Nat):Int) 304=true:=DP (by omega) (by omega)
   have fb:=fun a b c=>(Ia (⟨⟨m0,m1,m2,m3,m4,m5,m6,m7,m8,m9,m10,m11,m12,m13⟩,m14,m15,m16,m17,m18,m19,m20,m21,m22⟩:Mat).rules a b c).1
   have wb:∀ a b c,(Bb (⟨⟨m0,m1,m2,m3,m4,m5,m6,m7,m8,m9,m10,m11,m12,m13⟩,m14,m15,m16,m17,m18,m19,m20,m21,m22⟩:Mat).rules a b c).1.before.length+(Bb (⟨⟨m0,m1,m2,m3,m4,m5,m6,m7,m8,m9,m10,m11,m12,m13⟩,m14,m15,m16,m17,m18,m19,m20,m21,m22⟩:Mat).rules a b c).1.bowlers.length≤1000000:=fun a b c=>by
    rw [(Ia (⟨⟨m0,m1,m2,m3,m4,m5,m6,m7,m8,m9,m10,m11,m12,m13⟩,m14,m15,m16,m17,m18,m19,m20,m21,m22⟩:Mat).rules a b c).2.1,(Ia (⟨⟨m0,m1,m2,m3,m4,m5,m6,m7,m8,m9,m10,m11,m12,m13⟩,m14,m15,m16,m17,m18,m19,m20,m21,m22⟩:Mat).rules a b c).2.2]
    exact Nat.zero_le _
   rcases sH (m:=(⟨⟨m0,m1,m2,m3,m4,m5,m6,m7,m8,m9,m10,m11,m12,m13⟩,m14,m15,m16,m17,m18,m19,m20,m21,m22⟩:Mat)) (ok.toss hs2) (m17.length:Int) with ho | ho
   ·simp only [PXb,PXc,Ck,VW,Nat.reduceAdd,Int.reduceBEq,PXi,PXr,Inn.eta,Ab,List.length_append,List.length_cons,List.length_nil,h304,Wz,Fj,E2,EZ,DI,TC,ZK hN hl2,Wg hN hs,Q4 (fb _ _ _) (wb _ _ _) hN hs h13,ho,wr1,wr2,XQ,X8]
    cases (Bb (⟨⟨m0,m1,m2,m3,m4,m5,m6,m7,m8,m9,m10,m11,m12,m13⟩,m14,m15,m16,m17,m18,m19,m20,m21,m22⟩:Mat).rules 1 (FG (⟨⟨m0,m1,m2,m3,m4,m5,m6,m7,m8,m9,m10,m11,m12,m13⟩,m14,m15,m16,m17,m18,m19,m20,m21,m22⟩:Mat) 1) m18).2==0<;>try rfl
    cases (Au (⟨⟨m0,m1,m2,m3,m4,m5,m6,m7,m8,m9,m10,m11,m12,m13⟩,m14,m15,m16,m17,m18,m19,m20,m21,m22⟩:Mat).rules (Bb (⟨⟨m0,m1,m2,m3,m4,m5,m6,m7,m8,m9,m10,m11,m12,m13⟩,m14,m15,m16,m17,m18,m19,m20,m21,m22⟩:Mat).rules 1 (FG (⟨⟨m0,m1,m2,m3,m4,m5,m6,m7,m8,m9,m10,m11,m12,m13⟩,m14,m15,m16,m17,m18,m19,m20,m21,m22⟩:Mat) 1) m18).1 (⟨e0,e1,e2,e3,e4,e5,e6,⟨e7,e8,e9,e10,e11,e12,e13,e14,e15,e16,e17,e18⟩⟩:Ev)).2==0<;>rfl
   ·simp only [PXb,PXc,Ck,VW,Nat.reduceAdd,Int.reduceBEq,PXi,PXr,Inn.eta,Ab,List.length_append,List.length_cons,List.length_nil,h304,Wz,Fj,E2,EZ,DI,TC,ZK hN hl2,Wg hN hs,Q4 (fb _ _ _) (wb _ _ _) hN hs h13,ho,wr1,wr2,XQ,X8]
    cases (Bb (⟨⟨m0,m1,m2,m3,m4,m5,m6,m7,m8,m9,m10,m11,m12,m13⟩,m14,m15,m16,m17,m18,m19,m20,m21,m22⟩:Mat).rules 2 (FG (⟨⟨m0,m1,m2,m3,m4,m5,m6,m7,m8,m9,m10,m11,m12,m13⟩,m14,m15,m16,m17,m18,m19,m20,m21,m22⟩:Mat) 2) m19).2==0<;>try rfl
    cases (Au (⟨⟨m0,m1,m2,m3,m4,m5,m6,m7,m8,m9,m10,m11,m12,m13⟩,m14,m15,m16,m17,m18,m19,m20,m21,m22⟩:Mat).rules (Bb (⟨⟨m0,m1,m2,m3,m4,m5,m6,m7,m8,m9,m10,m11,m12,m13⟩,m14,m15,m16,m17,m18,m19,m20,m21,m22⟩:Mat).rules 2 (FG (⟨⟨m0,m1,m2,m3,m4,m5,m6,m7,m8,m9,m10,m11,m12,m13⟩,m14,m15,m16,m17,m18,m19,m20,m21,m22⟩:Mat) 2) m19).1 (⟨e0,e1,e2,e3,e4,e5,e6,⟨e7,e8,e9,e10,e11,e12,e13,e14,e15,e16,e17,e18⟩⟩:Ev)).2==0<;>rfl
  cases hk3:e0==12
  case true =>
   simp only [PXb]
   cases m14==4<;>cases e1==m15<;>rfl
  cases hk4:e0==16
  case true =>
   simp only [PXb,fa]
   cases h3:m14==3
   case false=>simp only [PXb,PXc,PXi,PXr,Ck,Nat.reduceAdd,Dg,KW];rfl
   simp only [PXb,PXc,PXi,PXr,Ck,Nat.reduceAdd,N4 (ok.begun h3) hl,Dg,KW]
   rfl
  simp only [PXb]
  cases h3:m14==3
  case false=>rfl
  have h0:=ok.begun h3
  have lv:=PK (ok.innv (lnx m17) (YY h0 hl)).1
  have fl:(inn m17 (IntKind.i64.wrap ((m17.length:Int) - 1)).toNat).Fit:=lv.2.2
  have wl:(inn m17 (IntKind.i64.wrap ((m17.length:Int) - 1)).toNat).before.length+(inn m17 (IntKind.i64.wrap ((m17.length:Int) - 1)).toNat).bowlers.length≤1000000:=by
   have h1:=lv.1
   have h2:=lv.2.1
   change (inn m17 (IntKind.i64.wrap ((m17.length:Int) - 1)).toNat).bowlers.length≤11 at h1
   change (inn m17 (IntKind.i64.wrap ((m17.length:Int) - 1)).toNat).before.length≤11 at h2
   omega
  have f1:=KO (Sb (⟨⟨m0,m1,m2,m3,m4,m5,m6,m7,m8,m9,m10,m11,m12,m13⟩,m14,m15,m16,m17,m18,m19,m20,m21,m22⟩:Mat).rules (inn m17 (IntKind.i64.wrap ((m17.length:Int) - 1)).toNat) (⟨e0,e1,e2,e3,e4,e5,e6,⟨e7,e8,e9,e10,e11,e12,e13,e14,e15,e16,e17,e18⟩⟩:Ev)) fl (by omega)
  simp only [PXb,PXc,PXi,PXr,Ab,Inn.eta,Ck,Nat.reduceAdd,List.length_set,N4 h0 hl,DI,Q4 fl wl hN hs h13,E0,As,lnx]
  generalize hX:Au (⟨⟨m0,m1,m2,m3,m4,m5,m6,m7,m8,m9,m10,m11,m12,m13⟩,m14,m15,m16,m17,m18,m19,m20,m21,m22⟩:Mat).rules (inn m17 (IntKind.i64.wrap ((m17.length:Int) - 1)).toNat) (⟨e0,e1,e2,e3,e4,e5,e6,⟨e7,e8,e9,e10,e11,e12,e13,e14,e15,e16,e17,e18⟩⟩:Ev)=X at f1
  have fy:=RB (IntKind.i64.wrap ((m17.length:Int) - 1)).toNat hf f1
  generalize hy:m17.set (IntKind.i64.wrap ((m17.length:Int) - 1)).toNat X.1=ys at fy
  have ly:ys.length=m17.length:=by rw [← hy,List.length_set]
  cases X.2==0<;>try rfl
  cases h13k:e0==13
  case false=>rfl
  cases hsd:e1==X.1.side
  case true=>rfl
  simp only [PXb,Option.bind_assoc]
  have e0w:IntKind.i64.wrap ((m17.length:Int) - 1)=(m17.length:Int) - 1 - ((0:Nat):Int):=by
   rw [beq_eq_false_iff_ne] at h0
   rw [C0 (by omega) (by omega)];omega
  rw [e0w]
  have hside:=oV (e:=(⟨e0,e1,e2,e3,e4,e5,e6,⟨e7,e8,e9,e10,e11,e12,e13,e14,e15,e16,e17,e18⟩⟩:Ev)) he h13k
  simp only at hside
  refine AM (Tt (len:=m17.length) (fun j=>[.int ((m17.length:Int) - 1 - (j:Int))]) (fun j=>cond ((inn ys (m17.length - 1 - j)).side==e1) (some [PV.str m0,PV.int m1,PV.int m2,PV.int m3,PV.int m4,PV.int m5,PV.int m6,PV.int m7,PV.bool m8,PV.int m9,PV.int m10,PV.int m11,PV.int m12,PV.rows m13,PV.int m14,PV.int m15,PV.bool m16,PV.rows (AU (ys.set (m17.length - 1 - j) (Jc (inn ys (m17.length - 1 - j))))),PV.int m18,PV.int m19,PV.int m20,PV.int m21,PV.int m22]) none) ?_ ?_ m17.length 0 N (by omega) (by omega)) ?_
  ·intro self
   have q1:iLe 0 ((m17.length:Int) - 1 - (m17.length:Int))=false:=by simp only [iLe,decide_eq_false_iff_not];omega
   simp only [PXb,q1]
  ·intro i self hi
   have q1:iLe 0 ((m17.length:Int) - 1 - (i:Int))=true:=by simp only [iLe,decide_eq_true_eq];omega
   have q2:iIn ((m17.length:Int) - 1 - (i:Int)) (m17.length:Int)=true:=by simp only [iIn,decide_eq_true_eq];omega
   have q3:((m17.length:Int) - 1 - (i:Int)).toNat=m17.length - 1 - i:=by omega
   have q4:IntKind.i64.wrap ((m17.length:Int) - 1 - (i:Int) - 1)=(m17.length:Int) - 1 - ((i+1:Nat):Int):=by rw [C0 (by omega) (by omega)];omega
   have q5:=fy (m17.length - 1 - i) (by omega)
   simp only [PXb,PXc,q1,q2,q3,q4,HV,Tf q5,PXm]
   cases (inn ys (m17.length - 1 - i)).side==e1<;>rfl
  ·have hfa:=nl ys e1 (fun k=>[PV.str m0,PV.int m1,PV.int m2,PV.int m3,PV.int m4,PV.int m5,PV.int m6,PV.int m7,PV.bool m8,PV.int m9,PV.int m10,PV.int m11,PV.int m12,PV.rows m13,PV.int m14,PV.int m15,PV.bool m16,PV.rows (AU (ys.set k (Jc (inn ys k)))),PV.int m18,PV.int m19,PV.int m20,PV.int m21,PV.int m22]) m17.length m17.length (Nat.le_refl _)
   rw [Nat.sub_self] at hfa
   rw [hfa]
   unfold He
   simp only [ly]
   cases NB ys e1 m17.length with
   | some k=>rfl
   | none =>
    rcases hside with h | h<;>subst h
    ·simp only [Option.map_none,NN,PXb,PXc,Ck,Int.reduceBEq,wr1,XQ]
     rfl
    ·simp only [Option.map_none,NN,PXb,PXc,Ck,Int.reduceBEq,wr2,X8]
     rfl
 ·have ak:=sC ok (⟨e0,e1,e2,e3,e4,e5,e6,⟨e7,e8,e9,e10,e11,e12,e13,e14,e15,e16,e17,e18⟩⟩:Ev)
  generalize Gz (⟨⟨m0,m1,m2,m3,m4,m5,m6,m7,m8,m9,m10,m11,m12,m13⟩,m14,m15,m16,m17,m18,m19,m20,m21,m22⟩:Mat) (⟨e0,e1,e2,e3,e4,e5,e6,⟨e7,e8,e9,e10,e11,e12,e13,e14,e15,e16,e17,e18⟩⟩:Ev)=A at ak
  obtain ⟨⟨⟨a0,a1,a2,a3,a4,a5,a6,a7,a8,a9,a10,a11,a12,a13⟩,a14,a15,a16,a17,a18,a19,a20,a21,a22⟩,l⟩:=A
  obtain ⟨k1,k2,k3,k4⟩:=ak
  simp only at k1 k2 k3 k4
  have hl5:a17.length≤1048576:=by omega
  have hs5:a0.size≤1048576:=by
   have:=congrArg Rul.name k1
   simp only at this
   rw [this];exact hs
  simp only [PXb,PXc,PXk,PXi,Ck,Nat.reduceAdd]
  cases hl0:l==0
  case false=>rfl
  simp only [PXb,B7]
  cases h3:a14==3
  case false=>rfl
  have h0:=k4 hl0 h3
  have li:=N4 h0 (show a17.length≤1000000 by omega)
  simp only [PXb,PXc,PXi,li]
  cases he2:(inn a17 (IntKind.i64.wrap ((a17.length:Int) - 1)).toNat).ending==0
  case true=>simp only [PXb,As,lnx,he2]
  simp only [PXb,PXc,PXi,As,lnx,he2,K2,FU,Ix,Ss hN hl5,JE,lJ k2 hN (show a17.length≤1000000 by omega) hs5]
  unfold N2
  simp only [As,lnx]
  simp only [BE,As,lnx]
  cases hq1:((a17.length:Int)==IntKind.i64.wrap (2 * a2))
  case true=>rfl
  cases hq2:((a17.length:Int)==3)
  case true =>
   simp only [PXb]
   cases iLt (Gw a17 (inn a17 (IntKind.i64.wrap ((a17.length:Int) - 1)).toNat).side a17.length) (Gw a17 (Ay (inn a17 (IntKind.i64.wrap ((a17.length:Int) - 1)).toNat).side) a17.length)
   case true=>rfl
   simp only [PXb]
   cases ((a17.length:Int)==2)&&iLt 0 a10&&iLe a10 (IntKind.i64.wrap (Gw a17 a15 a17.length - Gw a17 (Ay a15) a17.length))<;>rfl
  simp only [PXb]
  cases ((a17.length:Int)==2)&&iLt 0 a10&&iLe a10 (IntKind.i64.wrap (Gw a17 a15 a17.length - Gw a17 (Ay a15) a17.length))<;>rfl
end Go.Px
end
section
namespace Go.Px
set_option maxRecDepth 100000
def U5 (m:Mat):Int:=cond (!CU m) 0 (cond (m.stage==3) (As m).side (cond (m.stage==2) (CO m (m.inns.length:Int)) 0))
theorem qH {N:Nat} {m1 m2 m3 m4 m5 m6 m7 m9 m10 m11 m12 m14 m15 m18 m19 m20 m21 m22:Int} {m8 m16:Bool} {m0:ByteArray} {m13:Rows} {m17:List Inn} (hf:Ds m17) (hN:2097152<N) (hl:m17.length≤1000000) (hs:m0.size≤1048576):I7 N [.str m0,.int m1,.int m2,.int m3,.int m4,.int m5,.int m6,.int m7,.bool m8,.int m9,.int m10,.int m11,.int m12,.rows m13,.int m14,.int m15,.bool m16,.rows (AU m17),.int m18,.int m19,.int m20,.int m21,.int m22]=some [.int (U5 (⟨⟨m0,m1,m2,m3,m4,m5,m6,m7,m8,m9,m10,m11,m12,m13⟩,m14,m15,m16,m17,m18,m19,m20,m21,m22⟩:Mat))]:=by
 show I2 (std (Cr N) N) (xOf _)=_
 generalize hres:(some [.int (U5 (⟨⟨m0,m1,m2,m3,m4,m5,m6,m7,m8,m9,m10,m11,m12,m13⟩,m14,m15,m16,m17,m18,m19,m20,m21,m22⟩:Mat))]:Option (List PV))=RR
 simp only [I2,Vw,L7,KQ,std,xOf,PXb,XO hf hN hl hs]
 subst hres;simp only [U5]
 cases hv:CU (⟨⟨m0,m1,m2,m3,m4,m5,m6,m7,m8,m9,m10,m11,m12,m13⟩,m14,m15,m16,m17,m18,m19,m20,m21,m22⟩:Mat)
 case false=>rfl
 have ok:=Ur hv
 simp only [PXb]
 cases h3:m14==3
 case true=>simp only [PXb,PXi,L7,Tl (ok.begun h3) hl,As,PXm]
 cases h2:m14==2
 case false=>rfl
 have hr:=ok.room h2
 have rk:=(Dv ok.code).innings
 simp only at hr rk
 have hi3:0≤(m17.length:Int)∧(m17.length:Int)≤3:=by omega
 simp only [PXb,PXi,KQ,eB hi3]
theorem yi {m:Mat} (ok:MatOk m) (h2:(m.stage==2)=true) (sd:Int):FG m sd=cond (IntKind.i64.wrap ((m.inns.length:Int)+1)==IntKind.i64.wrap (2 * m.rules.innings)) (IntKind.i64.wrap (IntKind.i64.wrap (BE m (Ay sd) - BE m sd)+1)) 0:=by
 have hr:=ok.room h2
 have hm:=ok.most.1
 have hl:=ok.len
 unfold FG
 rw [hm,C0 (by omega) (by omega)]
 cases hq:((m.inns.length:Int)+1==2 * m.rules.innings) with
 | true =>
  rw [beq_iff_eq] at hq
  rw [show iLt ((m.inns.length:Int)+1) (2 * m.rules.innings)=false by simp only [iLt,decide_eq_false_iff_not];omega]
  rfl
 | false =>
  rw [beq_eq_false_iff_ne] at hq
  rw [show iLt ((m.inns.length:Int)+1) (2 * m.rules.innings)=true by simp only [iLt,decide_eq_true_eq];omega]
  rfl
set_option maxHeartbeats 4000000 in
theorem xb {N:Nat} {m1 m2 m3 m4 m5 m6 m7 m9 m10 m11 m12 m14 m15 m18 m19 m20 m21 m22:Int} {m8 m16:Bool} {m0:ByteArray} {m13:Rows} {m17:List Inn} {e0 e1 e2 e3 e5 e6 e7 e8 e9 e10 e11 e13 e14 e15 e16 e18:Int} {e4 e12 e17:Bool} (hN:2097152<N) (hf:Ds m17) (hl:m17.length≤1000000) (hs:m0.size≤1048576) (h13:m13.length≤1048576) (ok:MatOk (⟨⟨m0,m1,m2,m3,m4,m5,m6,m7,m8,m9,m10,m11,m12,m13⟩,m14,m15,m16,m17,m18,m19,m20,m21,m22⟩:Mat)) (hv:CU (⟨⟨m0,m1,m2,m3,m4,m5,m6,m7,m8,m9,m10,m11,m12,m13⟩,m14,m15,m16,m17,m18,m19,m20,m21,m22⟩:Mat)=true) (hs2:(m14==2)=true):Ob N [.str m0,.int m1,.int m2,.int m3,.int m4,.int m5,.int m6,.int m7,.bool m8,.int m9,.int m10,.int m11,.int m12,.rows m13,.int m14,.int m15,.bool m16,.rows (AU m17),.int m18,.int m19,.int m20,.int m21,.int m22,.int e0,.int e1,.int e2,.int e3,.bool e4,.int e5,.int e6,.int e7,.int e8,.int e9,.int e10,.int e11,.bool e12,.int e13,.int e14,.int e15,.int e16,.bool e17,.int e18]=some (J5 (Wz (⟨⟨m0,m1,m2,m3,m4,m5,m6,m7,m8,m9,m10,m11,m12,m13⟩,m14,m15,m16,m17,m18,m19,m20,m21,m22⟩:Mat) (⟨e0,e1,e2,e3,e4,e5,e6,⟨e7,e8,e9,e10,e11,e12,e13,e14,e15,e16,e17,e18⟩⟩:Ev))):=by
 show QF (std (Cx N) N) (xOf _)=_
 have hl2:m17.length≤1048576:=by omega
 have h304:iSm ((m17.length+1:Nat):Int) 304=true:=DP (by omega) (by omega)
 have fb:=fun a b c=>(Ia (⟨⟨m0,m1,m2,m3,m4,m5,m6,m7,m8,m9,m10,m11,m12,m13⟩,m14,m15,m16,m17,m18,m19,m20,m21,m22⟩:Mat).rules a b c).1
 have wb:∀ a b c,(Bb (⟨⟨m0,m1,m2,m3,m4,m5,m6,m7,m8,m9,m10,m11,m12,m13⟩,m14,m15,m16,m17,m18,m19,m20,m21,m22⟩:Mat).rules a b c).1.before.length+(Bb (⟨⟨m0,m1,m2,m3,m4,m5,m6,m7,m8,m9,m10,m11,m12,m13⟩,m14,m15,m16,m17,m18,m19,m20,m21,m22⟩:Mat).rules a b c).1.bowlers.length≤1000000:=fun a b c=>by
  rw [(Ia (⟨⟨m0,m1,m2,m3,m4,m5,m6,m7,m8,m9,m10,m11,m12,m13⟩,m14,m15,m16,m17,m18,m19,m20,m21,m22⟩:Mat).rules a b c).2.1,(Ia (⟨⟨m0,m1,m2,m3,m4,m5,m6,m7,m8,m9,m10,m11,m12,m13⟩,m14,m15,m16,m17,m18,m19,m20,m21,m22⟩:Mat).rules a b c).2.2]
  exact Nat.zero_le _
 have hb:U5 (⟨⟨m0,m1,m2,m3,m4,m5,m6,m7,m8,m9,m10,m11,m12,m13⟩,m14,m15,m16,m17,m18,m19,m20,m21,m22⟩:Mat)=CO (⟨⟨m0,m1,m2,m3,m4,m5,m6,m7,m8,m9,m10,m11,m12,m13⟩,m14,m15,m16,m17,m18,m19,m20,m21,m22⟩:Mat) (m17.length:Int):=by
  unfold U5
  rw [hv]
  have h3:(m14==3)=false:=by
   rw [beq_iff_eq] at hs2
   rw [hs2];rfl
  simp only [PXb,h3,hs2]
 have ht:=fun sd=>yi ok hs2 sd
 simp only at ht
 simp only [QF,IY,Is,X5,IU,Jg,std,xOf,PXb,qH hf hN hl hs,hb]
 rcases sH (m:=(⟨⟨m0,m1,m2,m3,m4,m5,m6,m7,m8,m9,m10,m11,m12,m13⟩,m14,m15,m16,m17,m18,m19,m20,m21,m22⟩:Mat)) (ok.toss hs2) (m17.length:Int) with ho | ho
 ·simp only [PXb,PXc,ho,wr1,wr2,XQ,X8,Ck,VW,Nat.reduceAdd,Int.reduceBEq,Wz,ht,PXi,IY,Is,Gr,Mi hN hl2]
  generalize hT:cond (IntKind.i64.wrap ((m17.length:Int)+1)==IntKind.i64.wrap (2 * m2)) (IntKind.i64.wrap (IntKind.i64.wrap (BE (⟨⟨m0,m1,m2,m3,m4,m5,m6,m7,m8,m9,m10,m11,m12,m13⟩,m14,m15,m16,m17,m18,m19,m20,m21,m22⟩:Mat) (Ay 1) - BE (⟨⟨m0,m1,m2,m3,m4,m5,m6,m7,m8,m9,m10,m11,m12,m13⟩,m14,m15,m16,m17,m18,m19,m20,m21,m22⟩:Mat) 1)+1)) 0=T
  refine bind_ok (r:=[.int T]) (by subst hT;cases IntKind.i64.wrap ((m17.length:Int)+1)==IntKind.i64.wrap (2 * m2)<;>rfl) ?_
  simp only [PXb,PXc,PXi,PXr,Inn.eta,Ab,List.length_append,List.length_cons,List.length_nil,h304,Ck,VW,Nat.reduceAdd,Int.reduceBEq,IU,Jg,gz hN hs,aS (fb _ _ _) (wb _ _ _) hN hs h13]
  cases (Bb (⟨⟨m0,m1,m2,m3,m4,m5,m6,m7,m8,m9,m10,m11,m12,m13⟩,m14,m15,m16,m17,m18,m19,m20,m21,m22⟩:Mat).rules 1 T m18).2==0<;>try rfl
  cases (Au (⟨⟨m0,m1,m2,m3,m4,m5,m6,m7,m8,m9,m10,m11,m12,m13⟩,m14,m15,m16,m17,m18,m19,m20,m21,m22⟩:Mat).rules (Bb (⟨⟨m0,m1,m2,m3,m4,m5,m6,m7,m8,m9,m10,m11,m12,m13⟩,m14,m15,m16,m17,m18,m19,m20,m21,m22⟩:Mat).rules 1 T m18).1 (⟨e0,e1,e2,e3,e4,e5,e6,⟨e7,e8,e9,e10,e11,e12,e13,e14,e15,e16,e17,e18⟩⟩:Ev)).2==0<;>rfl
 ·simp only [PXb,PXc,ho,wr1,wr2,XQ,X8,Ck,VW,Nat.reduceAdd,Int.reduceBEq,Wz,ht,PXi,IY,Is,Gr,Mi hN hl2]
  generalize hT:cond (IntKind.i64.wrap ((m17.length:Int)+1)==IntKind.i64.wrap (2 * m2)) (IntKind.i64.wrap (IntKind.i64.wrap (BE (⟨⟨m0,m1,m2,m3,m4,m5,m6,m7,m8,m9,m10,m11,m12,m13⟩,m14,m15,m16,m17,m18,m19,m20,m21,m22⟩:Mat) (Ay 2) - BE (⟨⟨m0,m1,m2,m3,m4,m5,m6,m7,m8,m9,m10,m11,m12,m13⟩,m14,m15,m16,m17,m18,m19,m20,m21,m22⟩:Mat) 2)+1)) 0=T
  refine bind_ok (r:=[.int T]) (by subst hT;cases IntKind.i64.wrap ((m17.length:Int)+1)==IntKind.i64.wrap (2 * m2)<;>rfl) ?_
  simp only [PXb,PXc,PXi,PXr,Inn.eta,Ab,List.length_append,List.length_cons,List.length_nil,h304,Ck,VW,Nat.reduceAdd,Int.reduceBEq,IU,Jg,gz hN hs,aS (fb _ _ _) (wb _ _ _) hN hs h13]
  cases (Bb (⟨⟨m0,m1,m2,m3,m4,m5,m6,m7,m8,m9,m10,m11,m12,m13⟩,m14,m15,m16,m17,m18,m19,m20,m21,m22⟩:Mat).rules 2 T m19).2==0<;>try rfl
  cases (Au (⟨⟨m0,m1,m2,m3,m4,m5,m6,m7,m8,m9,m10,m11,m12,m13⟩,m14,m15,m16,m17,m18,m19,m20,m21,m22⟩:Mat).rules (Bb (⟨⟨m0,m1,m2,m3,m4,m5,m6,m7,m8,m9,m10,m11,m12,m13⟩,m14,m15,m16,m17,m18,m19,m20,m21,m22⟩:Mat).rules 2 T m19).1 (⟨e0,e1,e2,e3,e4,e5,e6,⟨e7,e8,e9,e10,e11,e12,e13,e14,e15,e16,e17,e18⟩⟩:Ev)).2==0<;>rfl
end Go.Px
end
section
namespace Go.Px
set_option maxRecDepth 100000
set_option maxHeartbeats 8000000 in
theorem wa {N:Nat} {m1 m2 m3 m4 m5 m6 m7 m9 m10 m11 m12 m14 m15 m18 m19 m20 m21 m22:Int} {m8 m16:Bool} {m0:ByteArray} {m13:Rows} {m17:List Inn} {e0 e1 e2 e3 e5 e6 e7 e8 e9 e10 e11 e13 e14 e15 e16 e18:Int} {e4 e12 e17:Bool} (hN:2097152<N) (hf:Ds m17) (hl:m17.length≤1000000) (hs:m0.size≤1048576) (h13:m13.length≤1048576) (ok:MatOk (⟨⟨m0,m1,m2,m3,m4,m5,m6,m7,m8,m9,m10,m11,m12,m13⟩,m14,m15,m16,m17,m18,m19,m20,m21,m22⟩:Mat)) (he:(evS (⟨e0,e1,e2,e3,e4,e5,e6,⟨e7,e8,e9,e10,e11,e12,e13,e14,e15,e16,e17,e18⟩⟩:Ev)==0)=true) (h3:(m14==3)=true):P4 N [.str m0,.int m1,.int m2,.int m3,.int m4,.int m5,.int m6,.int m7,.bool m8,.int m9,.int m10,.int m11,.int m12,.rows m13,.int m14,.int m15,.bool m16,.rows (AU m17),.int m18,.int m19,.int m20,.int m21,.int m22,.int e0,.int e1,.int e2,.int e3,.bool e4,.int e5,.int e6,.int e7,.int e8,.int e9,.int e10,.int e11,.bool e12,.int e13,.int e14,.int e15,.int e16,.bool e17,.int e18]=some (J5 (E0 (⟨⟨m0,m1,m2,m3,m4,m5,m6,m7,m8,m9,m10,m11,m12,m13⟩,m14,m15,m16,m17,m18,m19,m20,m21,m22⟩:Mat) (⟨e0,e1,e2,e3,e4,e5,e6,⟨e7,e8,e9,e10,e11,e12,e13,e14,e15,e16,e17,e18⟩⟩:Ev))):=by
 show Pw (std (Fa N) N) (xOf _)=_
 simp only [Pw,Qb,MI,std,xOf,PXb]
 have h0:=ok.begun h3
 have lv:=PK (ok.innv (lnx m17) (YY h0 hl)).1
 have fl:(inn m17 (IntKind.i64.wrap ((m17.length:Int) - 1)).toNat).Fit:=lv.2.2
 have wl:(inn m17 (IntKind.i64.wrap ((m17.length:Int) - 1)).toNat).before.length+(inn m17 (IntKind.i64.wrap ((m17.length:Int) - 1)).toNat).bowlers.length≤1000000:=by
  have h1:=lv.1
  have h2:=lv.2.1
  change (inn m17 (IntKind.i64.wrap ((m17.length:Int) - 1)).toNat).bowlers.length≤11 at h1
  change (inn m17 (IntKind.i64.wrap ((m17.length:Int) - 1)).toNat).before.length≤11 at h2
  omega
 have f1:=KO (Sb (⟨⟨m0,m1,m2,m3,m4,m5,m6,m7,m8,m9,m10,m11,m12,m13⟩,m14,m15,m16,m17,m18,m19,m20,m21,m22⟩:Mat).rules (inn m17 (IntKind.i64.wrap ((m17.length:Int) - 1)).toNat) (⟨e0,e1,e2,e3,e4,e5,e6,⟨e7,e8,e9,e10,e11,e12,e13,e14,e15,e16,e17,e18⟩⟩:Ev)) fl (by omega)
 simp only [PXb,PXc,PXi,PXr,Ab,Inn.eta,Ck,Nat.reduceAdd,List.length_set,N4 h0 hl,Qb,aS fl wl hN hs h13,E0,As,lnx]
 generalize hX:Au (⟨⟨m0,m1,m2,m3,m4,m5,m6,m7,m8,m9,m10,m11,m12,m13⟩,m14,m15,m16,m17,m18,m19,m20,m21,m22⟩:Mat).rules (inn m17 (IntKind.i64.wrap ((m17.length:Int) - 1)).toNat) (⟨e0,e1,e2,e3,e4,e5,e6,⟨e7,e8,e9,e10,e11,e12,e13,e14,e15,e16,e17,e18⟩⟩:Ev)=X at f1
 have fy:=RB (IntKind.i64.wrap ((m17.length:Int) - 1)).toNat hf f1
 generalize hy:m17.set (IntKind.i64.wrap ((m17.length:Int) - 1)).toNat X.1=ys at fy
 have ly:ys.length=m17.length:=by rw [← hy,List.length_set]
 cases X.2==0<;>try rfl
 cases h13k:e0==13
 case false=>rfl
 cases hsd:e1==X.1.side
 case true=>rfl
 simp only [PXb,Option.bind_assoc]
 have e0w:IntKind.i64.wrap ((m17.length:Int) - 1)=(m17.length:Int) - 1 - ((0:Nat):Int):=by
  rw [beq_eq_false_iff_ne] at h0
  rw [C0 (by omega) (by omega)];omega
 rw [e0w]
 have hside:=oV (e:=(⟨e0,e1,e2,e3,e4,e5,e6,⟨e7,e8,e9,e10,e11,e12,e13,e14,e15,e16,e17,e18⟩⟩:Ev)) he h13k
 simp only at hside
 refine AM (Tt (len:=m17.length) (fun j=>[.int ((m17.length:Int) - 1 - (j:Int))]) (fun j=>cond ((inn ys (m17.length - 1 - j)).side==e1) (some [PV.int 0,PV.str m0,PV.int m1,PV.int m2,PV.int m3,PV.int m4,PV.int m5,PV.int m6,PV.int m7,PV.bool m8,PV.int m9,PV.int m10,PV.int m11,PV.int m12,PV.rows m13,PV.int m14,PV.int m15,PV.bool m16,PV.rows (AU (ys.set (m17.length - 1 - j) (Jc (inn ys (m17.length - 1 - j))))),PV.int m18,PV.int m19,PV.int m20,PV.int m21,PV.int m22]) none) ?_ ?_ m17.length 0 N (by omega) (by omega)) ?_
 ·intro self
  have q1:iLe 0 ((m17.length:Int) - 1 - (m17.length:Int))=false:=by simp only [iLe,decide_eq_false_iff_not];omega
  simp only [PXb,q1]
 ·intro i self hi
  have q1:iLe 0 ((m17.length:Int) - 1 - (i:Int))=true:=by simp only [iLe,decide_eq_true_eq];omega
  have q2:iIn ((m17.length:Int) - 1 - (i:Int)) (m17.length:Int)=true:=by simp only [iIn,decide_eq_true_eq];omega
  have q3:((m17.length:Int) - 1 - (i:Int)).toNat=m17.length - 1 - i:=by omega
  have q4:IntKind.i64.wrap ((m17.length:Int) - 1 - (i:Int) - 1)=(m17.length:Int) - 1 - ((i+1:Nat):Int):=by rw [C0 (by omega) (by omega)];omega
  have q5:=fy (m17.length - 1 - i) (by omega)
  simp only [PXb,PXc,q1,q2,q3,q4,MI,bz q5,PXm]
  cases (inn ys (m17.length - 1 - i)).side==e1<;>rfl
 ·have hfa:=nl ys e1 (fun k=>[PV.int 0,PV.str m0,PV.int m1,PV.int m2,PV.int m3,PV.int m4,PV.int m5,PV.int m6,PV.int m7,PV.bool m8,PV.int m9,PV.int m10,PV.int m11,PV.int m12,PV.rows m13,PV.int m14,PV.int m15,PV.bool m16,PV.rows (AU (ys.set k (Jc (inn ys k)))),PV.int m18,PV.int m19,PV.int m20,PV.int m21,PV.int m22]) m17.length m17.length (Nat.le_refl _)
  rw [Nat.sub_self] at hfa
  rw [hfa]
  unfold He
  simp only [ly]
  cases NB ys e1 m17.length with
  | some k=>rfl
  | none =>
   rcases hside with h | h<;>subst h
   ·simp only [Option.map_none,NN,PXb,PXc,Ck,Int.reduceBEq,wr1,XQ]
    rfl
   ·simp only [Option.map_none,NN,PXb,PXc,Ck,Int.reduceBEq,wr2,X8]
    rfl
set_option maxHeartbeats 4000000 in
theorem y6 {N:Nat} {m1 m2 m3 m4 m5 m6 m7 m9 m10 m11 m12 m14 m15 m18 m19 m20 m21 m22:Int} {m8 m16:Bool} {m0:ByteArray} {m13:Rows} {m17:List Inn} {e0 e1 e2 e3 e5 e6 e7 e8 e9 e10 e11 e13 e14 e15 e16 e18:Int} {e4 e12 e17:Bool} (hN:2097152<N) (hf:Ds m17) (hl:m17.length≤1000000) (hs:m0.size≤1048576) (h13:m13.length≤1048576) (ok:MatOk (⟨⟨m0,m1,m2,m3,m4,m5,m6,m7,m8,m9,m10,m11,m12,m13⟩,m14,m15,m16,m17,m18,m19,m20,m21,m22⟩:Mat)) (hv:CU (⟨⟨m0,m1,m2,m3,m4,m5,m6,m7,m8,m9,m10,m11,m12,m13⟩,m14,m15,m16,m17,m18,m19,m20,m21,m22⟩:Mat)=true) (he:(evS (⟨e0,e1,e2,e3,e4,e5,e6,⟨e7,e8,e9,e10,e11,e12,e13,e14,e15,e16,e17,e18⟩⟩:Ev)==0)=true):SB N [.str m0,.int m1,.int m2,.int m3,.int m4,.int m5,.int m6,.int m7,.bool m8,.int m9,.int m10,.int m11,.int m12,.rows m13,.int m14,.int m15,.bool m16,.rows (AU m17),.int m18,.int m19,.int m20,.int m21,.int m22,.int e0,.int e1,.int e2,.int e3,.bool e4,.int e5,.int e6,.int e7,.int e8,.int e9,.int e10,.int e11,.bool e12,.int e13,.int e14,.int e15,.int e16,.bool e17,.int e18]=some (J5 (Gz (⟨⟨m0,m1,m2,m3,m4,m5,m6,m7,m8,m9,m10,m11,m12,m13⟩,m14,m15,m16,m17,m18,m19,m20,m21,m22⟩:Mat) (⟨e0,e1,e2,e3,e4,e5,e6,⟨e7,e8,e9,e10,e11,e12,e13,e14,e15,e16,e17,e18⟩⟩:Ev))):=by
 show SL (std (FB N) N) (xOf _)=_
 simp only [SL,Qc,Sq,SX,std,xOf,PXb]
 unfold Gz
 cases hk1:e0==1
 case true =>
  simp only [PXb,Qc,Gr]
  cases m14==1<;>cases e4<;>rfl
 cases hk2:e0==2
 case true =>
  simp only [PXb]
  cases hs2:m14==2
  case false=>rfl
  simp only [PXb,Sq,xb hN hf hl hs h13 ok hv hs2]
  rfl
 cases hk3:e0==12
 case true =>
  simp only [PXb]
  cases m14==4<;>cases e1==m15<;>rfl
 cases hk4:e0==16
 case true =>
  simp only [PXb,fa,Ys]
  cases h3:m14==3
  case false =>
   simp only [PXb,PXc,PXi,PXr,Ck,Nat.reduceAdd]
   cases m3==0<;>rfl
  simp only [PXb,PXc,PXi,PXr,Ck,Nat.reduceAdd,N4 (ok.begun h3) hl]
  cases m3==0<;>rfl
 simp only [PXb]
 cases h3:m14==3
 case false=>rfl
 simp only [PXb,SX,wa hN hf hl hs h13 ok he h3]
 rfl
theorem qm {N:Nat} {m1 m2 m3 m4 m5 m6 m7 m9 m10 m11 m12 m14 m15 m18 m19 m20 m21 m22:Int} {m8 m16:Bool} {m0:ByteArray} {m13:Rows} {m17:List Inn} (hf:Ds m17) (hN:2097152<N) (hl:m17.length≤1000000) (hs:m0.size≤1048576) (h0:((m17.length:Int)==0)=false):Ks N [.str m0,.int m1,.int m2,.int m3,.int m4,.int m5,.int m6,.int m7,.bool m8,.int m9,.int m10,.int m11,.int m12,.rows m13,.int m14,.int m15,.bool m16,.rows (AU m17),.int m18,.int m19,.int m20,.int m21,.int m22]=some (N2 (⟨⟨m0,m1,m2,m3,m4,m5,m6,m7,m8,m9,m10,m11,m12,m13⟩,m14,m15,m16,m17,m18,m19,m20,m21,m22⟩:Mat)).ls:=by
 show LC (std (Ce N) N) (xOf _)=_
 have hl5:m17.length≤1048576:=by omega
 simp only [LC,YI,Xj,Xq,Vc,std,xOf,PXb,Tl h0 hl,Gr,Mi hN hl5,pP hf hN hl hs,PXi]
 unfold N2
 simp only [BE,As,lnx,PXm]
 cases hq1:((m17.length:Int)==IntKind.i64.wrap (2 * m2))
 case true=>rfl
 cases hq2:((m17.length:Int)==3)
 case true =>
  simp only [PXb]
  cases iLt (Gw m17 (inn m17 (IntKind.i64.wrap ((m17.length:Int) - 1)).toNat).side m17.length) (Gw m17 (Ay (inn m17 (IntKind.i64.wrap ((m17.length:Int) - 1)).toNat).side) m17.length)
  case true=>rfl
  simp only [PXb]
  cases ((m17.length:Int)==2)<;>cases iLt 0 m10<;>try rfl
  simp only [PXb]
  cases iLe m10 (IntKind.i64.wrap (Gw m17 m15 m17.length - Gw m17 (Ay m15) m17.length))<;>rfl
 simp only [PXb]
 cases ((m17.length:Int)==2)<;>cases iLt 0 m10<;>try rfl
 simp only [PXb]
 cases iLe m10 (IntKind.i64.wrap (Gw m17 m15 m17.length - Gw m17 (Ay m15) m17.length))<;>rfl
set_option maxHeartbeats 4000000 in
theorem ww {N:Nat} {m1 m2 m3 m4 m5 m6 m7 m9 m10 m11 m12 m14 m15 m18 m19 m20 m21 m22:Int} {m8 m16:Bool} {m0:ByteArray} {m13:Rows} {m17:List Inn} {e0 e1 e2 e3 e5 e6 e7 e8 e9 e10 e11 e13 e14 e15 e16 e18:Int} {e4 e12 e17:Bool} (hN:2097152<N) (hf:Ds m17) (hl:m17.length≤1000000) (hs:m0.size≤1048576) (h13:m13.length≤1048576):PB N [.str m0,.int m1,.int m2,.int m3,.int m4,.int m5,.int m6,.int m7,.bool m8,.int m9,.int m10,.int m11,.int m12,.rows m13,.int m14,.int m15,.bool m16,.rows (AU m17),.int m18,.int m19,.int m20,.int m21,.int m22,.int e0,.int e1,.int e2,.int e3,.bool e4,.int e5,.int e6,.int e7,.int e8,.int e9,.int e10,.int e11,.bool e12,.int e13,.int e14,.int e15,.int e16,.bool e17,.int e18]=some (J5 (C8 (⟨⟨m0,m1,m2,m3,m4,m5,m6,m7,m8,m9,m10,m11,m12,m13⟩,m14,m15,m16,m17,m18,m19,m20,m21,m22⟩:Mat) (⟨e0,e1,e2,e3,e4,e5,e6,⟨e7,e8,e9,e10,e11,e12,e13,e14,e15,e16,e17,e18⟩⟩:Ev))):=by
 show Og (std (CW N) N) (xOf _)=_
 generalize hres:(some (J5 (C8 (⟨⟨m0,m1,m2,m3,m4,m5,m6,m7,m8,m9,m10,m11,m12,m13⟩,m14,m15,m16,m17,m18,m19,m20,m21,m22⟩:Mat) (⟨e0,e1,e2,e3,e4,e5,e6,⟨e7,e8,e9,e10,e11,e12,e13,e14,e15,e16,e17,e18⟩⟩:Ev))):Option (List PV))=RR
 simp only [Og,PT,Zt,aI,SG,QW,OH,std,xOf,PXb,XO hf hN hl hs,jE,iH hf hN hl h13]
 subst hres;simp only [C8]
 cases hv:CU (⟨⟨m0,m1,m2,m3,m4,m5,m6,m7,m8,m9,m10,m11,m12,m13⟩,m14,m15,m16,m17,m18,m19,m20,m21,m22⟩:Mat)
 case false=>rfl
 cases he:evS (⟨e0,e1,e2,e3,e4,e5,e6,⟨e7,e8,e9,e10,e11,e12,e13,e14,e15,e16,e17,e18⟩⟩:Ev)==0
 case false=>simp only [PXb,he];rfl
 simp only [PXb,he]
 cases h5:m14==5
 case true=>rfl
 have ok:=Ur hv
 simp only [PXb,PXc,Ck,Nat.reduceAdd,PT,iH hf hN hl h13,SG,y6 hN hf hl hs h13 ok hv he]
 have ak:=sC ok (⟨e0,e1,e2,e3,e4,e5,e6,⟨e7,e8,e9,e10,e11,e12,e13,e14,e15,e16,e17,e18⟩⟩:Ev)
 generalize Gz (⟨⟨m0,m1,m2,m3,m4,m5,m6,m7,m8,m9,m10,m11,m12,m13⟩,m14,m15,m16,m17,m18,m19,m20,m21,m22⟩:Mat) (⟨e0,e1,e2,e3,e4,e5,e6,⟨e7,e8,e9,e10,e11,e12,e13,e14,e15,e16,e17,e18⟩⟩:Ev)=A at ak
 obtain ⟨⟨⟨a0,a1,a2,a3,a4,a5,a6,a7,a8,a9,a10,a11,a12,a13⟩,a14,a15,a16,a17,a18,a19,a20,a21,a22⟩,l⟩:=A
 obtain ⟨k1,k2,k3,k4⟩:=ak
 simp only at k1 k2 k3 k4
 have hl5:a17.length≤1000000:=by omega
 have hs5:a0.size≤1048576:=by
  have:=congrArg Rul.name k1
  simp only at this
  rw [this];exact hs
 simp only [PXb,PXc,PXk,PXi,Ck,Nat.reduceAdd]
 cases hl0:l==0
 case false=>rfl
 simp only [PXb,B7]
 cases h3:a14==3
 case false=>rfl
 have h0:=k4 hl0 h3
 simp only [PXb,PXc,PXi,QW,Tl h0 hl5,As,OH,qm k2 hN hl5 hs5 h0,PXm]
 cases (inn a17 (lnx a17)).ending==0<;>rfl
end Go.Px
end
section
namespace Go.Px
set_option maxRecDepth 100000
theorem uQ (m:Mat):(N2 m).rules=m.rules∧(N2 m).inns=m.inns:=by
 unfold N2
 dsimp only
 cases ((m.inns.length:Int)==IntKind.i64.wrap (2 * m.rules.innings)||((m.inns.length:Int)==3&&iLt (BE m (As m).side) (BE m (Ay (As m).side)))) with
 | true=>exact ⟨rfl,rfl⟩
 | false =>
  cases ((m.inns.length:Int)==2&&iLt 0 m.rules.followon&&iLe m.rules.followon (IntKind.i64.wrap (BE m m.first - BE m (Ay m.first))))<;>exact ⟨rfl,rfl⟩
theorem mO (m:Mat):(B7 m).rules=m.rules∧(B7 m).inns=m.inns:=by
 unfold B7
 cases (m.stage==3 && !((As m).ending==0)) with
 | true=>exact uQ m
 | false=>exact ⟨rfl,rfl⟩
structure StepOk (r:Rul) (m:Mat):Prop where
 rules:m.rules=r
 fit:Ds m.inns
 len:m.inns.length≤5
theorem xY {r:Rul} {m:Mat} (h:StepOk r m) (e:Ev):StepOk r (C8 m e).1:=by
 unfold C8
 cases hv:CU m with
 | false=>exact h
 | true =>
  cases he:evS e==0 with
  | false=>exact h
  | true =>
   cases h5:m.stage==5 with
   | true=>exact h
   | false =>
    have a:=sC (Ur hv) e
    cases hx:(Gz m e).2==0 with
    | false=>exact h
    | true =>
     have k:=mO (Gz m e).1
     exact ⟨k.1.trans (a.rules.trans h.rules),by show Ds (B7 _).inns;rw [k.2];exact a.fit,by show (B7 _).inns.length≤5;rw [k.2];exact a.len⟩
theorem nD (r:Rul) (h:((Cf r).2==0)=true):StepOk r (Cf r).1:=by
 unfold Cf at h ⊢
 cases hc:A2 r==0 with
 | false=>rw [hc] at h;exact absurd (show (A2 r==0)=true from h) (by rw [hc];decide)
 | true=>exact ⟨rfl,fun i hi=>absurd hi (Nat.not_lt_zero i),Nat.zero_le _⟩
theorem j0 {m:Mat} {e:Ev} (h:((C8 m e).2==0)=true):CU m=true∧(evS e==0)=true∧(m.stage==5)=false∧((Gz m e).2==0)=true∧(C8 m e).1=B7 (Gz m e).1:=by
 unfold C8 at h ⊢
 cases hv:CU m with
 | false=>rw [hv] at h;exact absurd (show ((1:Int)==0)=true from h) (by decide)
 | true =>
  cases he:evS e==0 with
  | false=>rw [hv,he] at h;exact absurd (show ((1:Int)==0)=true from h) (by decide)
  | true =>
   cases h5:m.stage==5 with
   | true=>rw [hv,he,h5] at h;exact absurd (show ((26:Int)==0)=true from h) (by decide)
   | false =>
    cases hx:(Gz m e).2==0 with
    | false=>rw [hv,he,h5,hx] at h;exact absurd (show ((Gz m e).2==0)=true from h) (by rw [hx];decide)
    | true=>exact ⟨rfl,rfl,rfl,rfl,rfl⟩
theorem xX {m:Mat} {e:Ev} (h:((C8 m e).2==0)=true) (hk:(e.kind==4)=true):(m.stage==3)=true∧((m.inns.length:Int)==0)=false∧((Au m.rules (As m) e).2==0)=true∧(C8 m e).1.inns=m.inns.set (lnx m.inns) (Au m.rules (As m) e).1:=by
 obtain ⟨hv,he,h5,ha,hs⟩:=j0 h
 have hk4:=beq_iff_eq.1 hk
 rw [hs,(mO _).2]
 unfold Gz at ha ⊢
 simp only [hk4,Int.reduceBEq,cond_false] at ha ⊢
 cases h3:m.stage==3 with
 | false=>rw [h3] at ha;exact absurd (show ((1:Int)==0)=true from ha) (by decide)
 | true =>
  rw [h3] at ha
  simp only [Bool.not_true,cond_false] at ha ⊢
  unfold E0 at ha ⊢
  cases hq:(Au m.rules (As m) e).2==0 with
  | false=>simp only [hq,Bool.not_false,cond_true] at ha;exact absurd ha Bool.false_ne_true
  | true =>
   simp only [hk4,Int.reduceBEq,Bool.false_and,hq,Bool.not_true,cond_false]
   exact ⟨trivial,(Ur hv).begun h3,trivial,trivial⟩
end Go.Px
end
section
namespace Go.Px
set_option maxRecDepth 100000
def evR (L:Rows) (i:Nat):Ev:=⟨atI L i 0,atI L i 1,atI L i 2,atI L i 3,atB L i 4,atI L i 5,atI L i 6,⟨atI L i 7,atI L i 8,atI L i 9,atI L i 10,atI L i 11,atB L i 12,atI L i 13,atI L i 14,atI L i 15,atI L i 16,atB L i 17,atI L i 18⟩⟩
theorem AAf (L:Rows) (i:Nat):(⟨atI L i 0,atI L i 1,atI L i 2,atI L i 3,atB L i 4,atI L i 5,atI L i 6,⟨atI L i 7,atI L i 8,atI L i 9,atI L i 10,atI L i 11,atB L i 12,atI L i 13,atI L i 14,atI L i 15,atI L i 16,atB L i 17,atI L i 18⟩⟩:Ev)=evR L i:=rfl
def A4 (i:Int) (m:Mat) (e:Ev):Mat×Int:=cond (iLe 4000 i) (m,26) (C8 m e)
def C4 (L:Rows):Nat→Nat→Mat→Mat×Int×Int
 | 0,_,m=>(m,-1,0)
 | k+1,i,m=>cond (!((A4 i m (evR L i)).2==0)) (m,(i:Int),(A4 i m (evR L i)).2) (C4 L k (i+1) (A4 i m (evR L i)).1)
def lE (i:Int) (m t:Mat) (d:Del):List PV :=
 [.int i,.int (IntKind.i64.wrap ((m.inns.length:Int) - 1)),.int (As m).complete,.int (As m).inover,.int (As m).bowler,.int (As m).striker,.int (As m).other,.bool (As m).freehit,
  .int d.type,.int d.source,.int d.runs,.int d.short,.int d.boundary,.bool d.crossed,.int d.how,.int d.victim,.int d.fielder,.int d.second,.bool d.sub,.int d.sector,
  .int (AF m.rules d).batter,.int (AF m.rules d).wides,.int (AF m.rules d).noballs,.int (AF m.rules d).byes,.int (AF m.rules d).legbyes,.int (AF m.rules d).bowler,.bool (AF m.rules d).counts,.bool (AF m.rules d).faced,.bool (AF m.rules d).wicket,.bool (AF m.rules d).swap,
  .int (inn t.inns (lnx m.inns)).runs,.int (inn t.inns (lnx m.inns)).wickets]
def Wx (L:Rows):Nat→Nat→Mat→Rows→Rows
 | 0,_,_,out=>out
 | k+1,i,m,out=>cond (!((A4 i m (evR L i)).2==0)) out (Wx L k (i+1) (A4 i m (evR L i)).1 (cond ((evR L i).kind==4) (out++[lE i m (A4 i m (evR L i)).1 (evR L i).ball]) out))
def Za (f:Mat×Int×Int):List PV:=[.str f.1.rules.name,.int f.1.rules.side,.int f.1.rules.innings,.int f.1.rules.overs,.int f.1.rules.balls,.int f.1.rules.quota,.int f.1.rules.wide,.int f.1.rules.noball,.bool f.1.rules.freehit,.int f.1.rules.newball,.int f.1.rules.followon,.int f.1.rules.reviews,.int f.1.rules.outside,.rows f.1.rules.power,.int f.1.stage,.int f.1.first,.bool f.1.follow,.rows (AU f.1.inns),.int f.1.pen1,.int f.1.pen2,.int f.1.win,.int f.1.wside,.int f.1.margin,.int f.2.1,.int f.2.2]
def Ct (r:Rul) (L:Rows):Mat×Int×Int:=cond (!((Cf r).2==0)) (AAY,0,1) (C4 L L.length 0 (Cf r).1)
def nE (r:Rul) (L:Rows):Rows:=cond (!((Cf r).2==0)) [] (Wx L L.length 0 (Cf r).1 [])
theorem kF (L:Rows):∀ k i m,((C4 L k i m).2.1 == -1)=true→(C4 L k i m).2.2=0
 | 0,_,_,_=>rfl
 | k+1,i,m,h=>by
  unfold C4 at h ⊢
  cases hq:(A4 i m (evR L i)).2==0 with
  | false =>
   rw [hq] at h
   have:=beq_iff_eq.1 (show ((i:Int) == -1)=true from h)
   omega
  | true=>rw [hq] at h;exact kF L k (i+1) _ h
theorem jo {r:Rul} {m:Mat} (h:StepOk r m) (i:Int) (e:Ev):StepOk r (A4 i m e).1:=by
 unfold A4
 cases iLe 4000 i with
 | true=>exact h
 | false=>exact xY h e
theorem yE {m:Mat} {i:Int} {e:Ev} (h:((A4 i m e).2==0)=true):A4 i m e=C8 m e∧iLe 4000 i=false:=by
 unfold A4 at h ⊢
 cases h4:iLe 4000 i with
 | true=>rw [h4] at h;exact absurd (show ((26:Int)==0)=true from h) (by decide)
 | false=>exact ⟨rfl,rfl⟩
theorem wn {N:Nat} {m1 m2 m3 m4 m5 m6 m7 m9 m10 m11 m12 m14 m15 m18 m19 m20 m21 m22:Int} {m8 m16:Bool} {m0:ByteArray} {m13:Rows} {m17:List Inn} {i:Int} {e0 e1 e2 e3 e5 e6 e7 e8 e9 e10 e11 e13 e14 e15 e16 e18:Int} {e4 e12 e17:Bool} (hN:2097152<N) (hf:Ds m17) (hl:m17.length≤1000000) (hs:m0.size≤1048576) (h13:m13.length≤1048576):Ow N [.str m0,.int m1,.int m2,.int m3,.int m4,.int m5,.int m6,.int m7,.bool m8,.int m9,.int m10,.int m11,.int m12,.rows m13,.int m14,.int m15,.bool m16,.rows (AU m17),.int m18,.int m19,.int m20,.int m21,.int m22,.int i,.int e0,.int e1,.int e2,.int e3,.bool e4,.int e5,.int e6,.int e7,.int e8,.int e9,.int e10,.int e11,.bool e12,.int e13,.int e14,.int e15,.int e16,.bool e17,.int e18]=some (J5 (A4 i (⟨⟨m0,m1,m2,m3,m4,m5,m6,m7,m8,m9,m10,m11,m12,m13⟩,m14,m15,m16,m17,m18,m19,m20,m21,m22⟩:Mat) (⟨e0,e1,e2,e3,e4,e5,e6,⟨e7,e8,e9,e10,e11,e12,e13,e14,e15,e16,e17,e18⟩⟩:Ev))):=by
 show Oa (std (Hw N) N) (xOf _)=_
 generalize hres:(some (J5 (A4 i (⟨⟨m0,m1,m2,m3,m4,m5,m6,m7,m8,m9,m10,m11,m12,m13⟩,m14,m15,m16,m17,m18,m19,m20,m21,m22⟩:Mat) (⟨e0,e1,e2,e3,e4,e5,e6,⟨e7,e8,e9,e10,e11,e12,e13,e14,e15,e16,e17,e18⟩⟩:Ev))):Option (List PV))=RR
 simp only [Oa,Yv,std,xOf,PXb,tW hN hf hl hs h13]
 subst hres;simp only [A4]
 cases iLe 4000 i<;>rfl
theorem kX {N:Nat} {i:Int} {m1 m2 m3 m4 m5 m6 m7 m9 m10 m11 m12 m14 m15 m18 m19 m20 m21 m22:Int} {m8 m16:Bool} {m0:ByteArray} {m13:Rows} {m17:List Inn} {t1 t2 t3 t4 t5 t6 t7 t9 t10 t11 t12 t14 t15 t18 t19 t20 t21 t22:Int} {t8 t16:Bool} {t0:ByteArray} {t13:Rows} {t17:List Inn} {d0 d1 d2 d3 d4 d6 d7 d8 d9 d11:Int} {d5 d10:Bool} (h1:iIn (IntKind.i64.wrap ((m17.length:Int) - 1)) (m17.length:Int)=true) (h2:iIn (IntKind.i64.wrap ((m17.length:Int) - 1)) (t17.length:Int)=true):J9 N [.int i,.str m0,.int m1,.int m2,.int m3,.int m4,.int m5,.int m6,.int m7,.bool m8,.int m9,.int m10,.int m11,.int m12,.rows m13,.int m14,.int m15,.bool m16,.rows (AU m17),.int m18,.int m19,.int m20,.int m21,.int m22,.str t0,.int t1,.int t2,.int t3,.int t4,.int t5,.int t6,.int t7,.bool t8,.int t9,.int t10,.int t11,.int t12,.rows t13,.int t14,.int t15,.bool t16,.rows (AU t17),.int t18,.int t19,.int t20,.int t21,.int t22,.int d0,.int d1,.int d2,.int d3,.int d4,.bool d5,.int d6,.int d7,.int d8,.int d9,.bool d10,.int d11]=some (lE i (⟨⟨m0,m1,m2,m3,m4,m5,m6,m7,m8,m9,m10,m11,m12,m13⟩,m14,m15,m16,m17,m18,m19,m20,m21,m22⟩:Mat) (⟨⟨t0,t1,t2,t3,t4,t5,t6,t7,t8,t9,t10,t11,t12,t13⟩,t14,t15,t16,t17,t18,t19,t20,t21,t22⟩:Mat) (⟨d0,d1,d2,d3,d4,d5,d6,d7,d8,d9,d10,d11⟩:Del)):=by
 show KB (std (L3 N) N) (xOf _)=_
 simp only [KB,OS,std,xOf,PXb,PXi,h1,h2,HA]
 rfl
def Ve (L:Rows) (i:Nat) (m:Mat):List PV ⊕ Mat:=cond (!((A4 i m (evR L i)).2==0)) (.inl (.int 0::.int i::.int (A4 i m (evR L i)).2::m.ls)) (.inr (A4 i m (evR L i)).1)
def wU (f:Mat×Int×Int):List PV:=cond (f.2.1 == -1) (.int 1::f.1.ls) (.int 0::.int f.2.1::.int f.2.2::f.1.ls)
theorem oL (L:Rows):∀ k i m,aP (Ve L) (fun m=>.int 1::m.ls) k i m=wU (C4 L k i m)
 | 0,_,_=>rfl
 | k+1,i,m=>by
  simp only [aP,Ve,C4]
  cases (A4 i m (evR L i)).2==0 with
  | false =>
   simp only [Bool.not_false,cond_true,wU]
   rw [show ((i:Int) == -1)=false from beq_false_of_ne (show (i:Int) ≠ -1 by omega)]
   rfl
  | true=>exact oL L k (i+1) _
set_option maxHeartbeats 4000000 in
theorem wy {N:Nat} {m1 m2 m3 m4 m5 m6 m7 m9 m10 m11 m12 m14 m15 m18 m19 m20 m21 m22:Int} {m8 m16:Bool} {m0:ByteArray} {m13:Rows} {m17:List Inn} {L:Rows} (hN:2097152<N) (hf:Ds m17) (hl:m17.length≤5) (hs:m0.size≤1048576) (h13:m13.length≤1048576) (hL:L.length≤1048576):Ph N [.str m0,.int m1,.int m2,.int m3,.int m4,.int m5,.int m6,.int m7,.bool m8,.int m9,.int m10,.int m11,.int m12,.rows m13,.int m14,.int m15,.bool m16,.rows (AU m17),.int m18,.int m19,.int m20,.int m21,.int m22,.rows L]=some (Za (C4 L L.length 0 (⟨⟨m0,m1,m2,m3,m4,m5,m6,m7,m8,m9,m10,m11,m12,m13⟩,m14,m15,m16,m17,m18,m19,m20,m21,m22⟩:Mat))):=by
  show Pq (std (Hx N) N) (xOf _)=_
  generalize hres:(some (Za (C4 L L.length 0 (⟨⟨m0,m1,m2,m3,m4,m5,m6,m7,m8,m9,m10,m11,m12,m13⟩,m14,m15,m16,m17,m18,m19,m20,m21,m22⟩:Mat))):Option (List PV))=RR
  simp only [Pq,QR,std,xOf,PXb]
  subst hres
  refine AM (dE (St:=Mat) (len:=L.length) (enc:=fun i m=>[.int (i:Int),.str m.rules.name,.int m.rules.side,.int m.rules.innings,.int m.rules.overs,.int m.rules.balls,.int m.rules.quota,.int m.rules.wide,.int m.rules.noball,.bool m.rules.freehit,.int m.rules.newball,.int m.rules.followon,.int m.rules.reviews,.int m.rules.outside,.rows m.rules.power,.int m.stage,.int m.first,.bool m.follow,.rows (AU m.inns),.int m.pen1,.int m.pen2,.int m.win,.int m.wside,.int m.margin])
    (body:=Ve L) (fin:=fun m=>.int 1::m.ls) (fun _ m=>StepOk (⟨m0,m1,m2,m3,m4,m5,m6,m7,m8,m9,m10,m11,m12,m13⟩:Rul) m) ?_ ?_ L.length 0 (⟨⟨m0,m1,m2,m3,m4,m5,m6,m7,m8,m9,m10,m11,m12,m13⟩,m14,m15,m16,m17,m18,m19,m20,m21,m22⟩:Mat) N (by omega) (by omega) ⟨rfl,hf,hl⟩) ?_
  · intro m self _
    simp only [PXb,PXc,PXn,AA,Ac]
    rfl
  · intro i m self hi ok
    obtain ⟨⟨a0,a1,a2,a3,a4,a5,a6,a7,a8,a9,a10,a11,a12,a13⟩,a14,a15,a16,a17,a18,a19,a20,a21,a22⟩:=m
    have o1:=ok.rules
    have o2:=ok.fit
    have o3:=ok.len
    simp only at o1 o2 o3
    cases o1
    have kp:=jo ok (i:Int) (evR L i)
    refine ⟨?_,?_⟩
    · simp only [PXb,PXc,PXn,AA,AR (show i≤1099511627776 by omega),AX hi,AN hi,QR,ww hN o2 (show a17.length≤1000000 by omega) hs h13,A8,UX,Nat.reduceAdd,PXk,PXc,AAf]
      unfold Ve A4
      cases iLe 4000 (i:Int)
      case true=>rfl
      simp only [cond_false]
      cases (C8 (⟨⟨m0,m1,m2,m3,m4,m5,m6,m7,m8,m9,m10,m11,m12,m13⟩,a14,a15,a16,a17,a18,a19,a20,a21,a22⟩:Mat) (evR L i)).2==0<;>rfl
    · intro s' h
      unfold Ve at h
      cases hq:(A4 (i:Int) (⟨⟨m0,m1,m2,m3,m4,m5,m6,m7,m8,m9,m10,m11,m12,m13⟩,a14,a15,a16,a17,a18,a19,a20,a21,a22⟩:Mat) (evR L i)).2==0 with
      | false=>rw [hq] at h;cases h
      | true=>rw [hq] at h;cases h;exact kp
  · rw [oL]
    have he:=kF L L.length 0 (⟨⟨m0,m1,m2,m3,m4,m5,m6,m7,m8,m9,m10,m11,m12,m13⟩,m14,m15,m16,m17,m18,m19,m20,m21,m22⟩:Mat)
    generalize C4 L L.length 0 (⟨⟨m0,m1,m2,m3,m4,m5,m6,m7,m8,m9,m10,m11,m12,m13⟩,m14,m15,m16,m17,m18,m19,m20,m21,m22⟩:Mat)=f at he
    obtain ⟨⟨⟨a0,a1,a2,a3,a4,a5,a6,a7,a8,a9,a10,a11,a12,a13⟩,a14,a15,a16,a17,a18,a19,a20,a21,a22⟩,b,l⟩:=f
    simp only at he
    unfold wU
    cases hb:b == -1 with
    | false=>rfl
    | true =>
      rw [he hb,beq_iff_eq.1 hb]
      rfl
end Go.Px
end
section
namespace Go.Px
set_option maxRecDepth 100000
def Vq (L:Rows) (i:Nat) (s:Rows×Mat):List PV ⊕ Rows×Mat:=cond (!((A4 i s.2 (evR L i)).2==0)) (.inl (.int 0::.rows s.1::.int i::.int (A4 i s.2 (evR L i)).2::s.2.ls)) (.inr (cond ((evR L i).kind==4) (s.1++[lE i s.2 (A4 i s.2 (evR L i)).1 (evR L i).ball]) s.1,(A4 i s.2 (evR L i)).1))
def xQ (out:Rows) (f:Mat×Int×Int):List PV:=cond (f.2.1 == -1) (.int 1::.rows out::f.1.ls) (.int 0::.rows out::.int f.2.1::.int f.2.2::f.1.ls)
theorem oW (L:Rows):∀ k i s,aP (Vq L) (fun s=>.int 1::.rows s.1::s.2.ls) k i s=xQ (Wx L k i s.2 s.1) (C4 L k i s.2)
 | 0,_,_=>rfl
 | k+1,i,s=>by
  simp only [aP,Vq,C4,Wx]
  cases (A4 i s.2 (evR L i)).2==0 with
  | false =>
   simp only [Bool.not_false,cond_true,xQ]
   rw [show ((i:Int) == -1)=false from beq_false_of_ne (show (i:Int) ≠ -1 by omega)]
   rfl
  | true=>exact oW L k (i+1) _
def yl (out:Rows) (f:Mat×Int×Int):List PV:=[.rows out,.str f.1.rules.name,.int f.1.rules.side,.int f.1.rules.innings,.int f.1.rules.overs,.int f.1.rules.balls,.int f.1.rules.quota,.int f.1.rules.wide,.int f.1.rules.noball,.bool f.1.rules.freehit,.int f.1.rules.newball,.int f.1.rules.followon,.int f.1.rules.reviews,.int f.1.rules.outside,.rows f.1.rules.power,.int f.1.stage,.int f.1.first,.bool f.1.follow,.rows (AU f.1.inns),.int f.1.pen1,.int f.1.pen2,.int f.1.win,.int f.1.wside,.int f.1.margin,.int f.2.1,.int f.2.2]
theorem ABW {m t:Mat} {e:Ev} (hl:m.inns.length≤5) (h:((C8 m e).2==0)=true) (hk:(e.kind==4)=true) (ht:(C8 m e).1=t):iIn (IntKind.i64.wrap ((m.inns.length:Int) - 1)) (m.inns.length:Int)=true∧iIn (IntKind.i64.wrap ((m.inns.length:Int) - 1)) (t.inns.length:Int)=true:=by
 obtain ⟨_,h2,_,h4⟩:=xX h hk
 have:=N4 h2 (show m.inns.length≤1000000 by omega)
 rw [← ht,h4,List.length_set]
 exact ⟨this,this⟩
set_option maxHeartbeats 8000000 in
theorem wC {N:Nat} {r1 r2 r3 r4 r5 r6 r7 r9 r10 r11 r12:Int} {r8:Bool} {r0:ByteArray} {r13:Rows} {L:Rows} (hN:2097152<N) (hs:r0.size≤1048576) (h13:r13.length≤1048576) (hL:L.length≤1048576):Pa N [.str r0,.int r1,.int r2,.int r3,.int r4,.int r5,.int r6,.int r7,.bool r8,.int r9,.int r10,.int r11,.int r12,.rows r13,.rows L]=some (yl (nE (⟨r0,r1,r2,r3,r4,r5,r6,r7,r8,r9,r10,r11,r12,r13⟩:Rul) L) (Ct (⟨r0,r1,r2,r3,r4,r5,r6,r7,r8,r9,r10,r11,r12,r13⟩:Rul) L)):=by
  show PO (std (ED N) N) (xOf _)=_
  generalize hres:(some (yl (nE (⟨r0,r1,r2,r3,r4,r5,r6,r7,r8,r9,r10,r11,r12,r13⟩:Rul) L) (Ct (⟨r0,r1,r2,r3,r4,r5,r6,r7,r8,r9,r10,r11,r12,r13⟩:Rul) L)):Option (List PV))=RR
  simp only [PO,Ze,QS,K6,std,xOf,PXb,uv hN hs h13]
  subst hres;simp only [nE,Ct]
  have nk:=nD (⟨r0,r1,r2,r3,r4,r5,r6,r7,r8,r9,r10,r11,r12,r13⟩:Rul)
  generalize Cf (⟨r0,r1,r2,r3,r4,r5,r6,r7,r8,r9,r10,r11,r12,r13⟩:Rul)=X at nk
  obtain ⟨⟨⟨m0,m1,m2,m3,m4,m5,m6,m7,m8,m9,m10,m11,m12,m13⟩,m14,m15,m16,m17,m18,m19,m20,m21,m22⟩,l⟩:=X
  simp only at nk
  simp only [PXb,PXc,PXk,Nat.reduceAdd]
  cases hl:l==0
  case false=>rfl
  have ok:=nk hl
  simp only [PXb]
  refine AM (dE (St:=Rows×Mat) (len:=L.length) (enc:=fun i s=>[.rows s.1,.int (i:Int),.str s.2.rules.name,.int s.2.rules.side,.int s.2.rules.innings,.int s.2.rules.overs,.int s.2.rules.balls,.int s.2.rules.quota,.int s.2.rules.wide,.int s.2.rules.noball,.bool s.2.rules.freehit,.int s.2.rules.newball,.int s.2.rules.followon,.int s.2.rules.reviews,.int s.2.rules.outside,.rows s.2.rules.power,.int s.2.stage,.int s.2.first,.bool s.2.follow,.rows (AU s.2.inns),.int s.2.pen1,.int s.2.pen2,.int s.2.win,.int s.2.wside,.int s.2.margin])
    (body:=Vq L) (fin:=fun s=>.int 1::.rows s.1::s.2.ls) (fun i s=>StepOk (⟨r0,r1,r2,r3,r4,r5,r6,r7,r8,r9,r10,r11,r12,r13⟩:Rul) s.2∧s.1.length≤i) ?_ ?_ L.length 0 ([],(⟨⟨m0,m1,m2,m3,m4,m5,m6,m7,m8,m9,m10,m11,m12,m13⟩,m14,m15,m16,m17,m18,m19,m20,m21,m22⟩:Mat)) N (by omega) (by omega) ⟨ok,Nat.zero_le _⟩) ?_
  · intro m self _
    simp only [PXb,PXc,PXn,AA,Ac]
    rfl
  · intro i s self hi ok
    obtain ⟨out,⟨⟨a0,a1,a2,a3,a4,a5,a6,a7,a8,a9,a10,a11,a12,a13⟩,a14,a15,a16,a17,a18,a19,a20,a21,a22⟩⟩:=s
    obtain ⟨ok,hout⟩:=ok
    have o1:=ok.rules
    have o2:=ok.fit
    have o3:=ok.len
    simp only at o1 o2 o3 hout
    cases o1
    have kp:=jo ok (i:Int) (evR L i)
    have acc:=yE (m:=(⟨⟨r0,r1,r2,r3,r4,r5,r6,r7,r8,r9,r10,r11,r12,r13⟩,a14,a15,a16,a17,a18,a19,a20,a21,a22⟩:Mat)) (i:=(i:Int)) (e:=evR L i)
    refine ⟨?_,?_⟩
    · simp only [PXb,PXc,PXn,AA,AR (show i≤1099511627776 by omega),AX hi,AN hi,QS,wn hN o2 (show a17.length≤1000000 by omega) hs h13,A8,UX,Nat.reduceAdd,PXk,PXc,AAf,List.length_append,List.length_cons,List.length_nil,K6]
      unfold Vq
      simp only
      generalize hT:A4 (i:Int) (⟨⟨r0,r1,r2,r3,r4,r5,r6,r7,r8,r9,r10,r11,r12,r13⟩,a14,a15,a16,a17,a18,a19,a20,a21,a22⟩:Mat) (evR L i)=T at acc
      obtain ⟨⟨⟨b0,b1,b2,b3,b4,b5,b6,b7,b8,b9,b10,b11,b12,b13⟩,b14,b15,b16,b17,b18,b19,b20,b21,b22⟩,l2⟩:=T
      simp only at acc
      simp only
      cases hl2:l2==0
      case false=>rfl
      have hk0:(evR L i).kind=atI L i 0:=rfl
      rw [hk0]
      simp only [PXb]
      cases hk:atI L i 0==4
      case false=>rfl
      have ha:=(acc hl2).1
      have hd:=ABW (m:=(⟨⟨r0,r1,r2,r3,r4,r5,r6,r7,r8,r9,r10,r11,r12,r13⟩,a14,a15,a16,a17,a18,a19,a20,a21,a22⟩:Mat)) (e:=evR L i) o3 (by rw [← ha];exact hl2) hk (congrArg Prod.fst ha).symm
      simp only at hd
      have h216:iSm ((out.length+1:Nat):Int) 216=true:=DP (by omega) (by omega)
      simp only [PXb,PXc,kX hd.1 hd.2,h216]
      rfl
    · intro s' h
      unfold Vq at h
      simp only at h
      cases hq:(A4 (i:Int) (⟨⟨r0,r1,r2,r3,r4,r5,r6,r7,r8,r9,r10,r11,r12,r13⟩,a14,a15,a16,a17,a18,a19,a20,a21,a22⟩:Mat) (evR L i)).2==0 with
      | false=>rw [hq] at h;cases h
      | true =>
        rw [hq] at h;cases h
        refine ⟨kp,?_⟩
        cases (evR L i).kind==4 with
        | false=>show out.length≤_;omega
        | true=>show (out++[_]).length≤_;rw [List.length_append];simp;omega
  · rw [oW]
    have he:=kF L L.length 0 (⟨⟨m0,m1,m2,m3,m4,m5,m6,m7,m8,m9,m10,m11,m12,m13⟩,m14,m15,m16,m17,m18,m19,m20,m21,m22⟩:Mat)
    simp only
    generalize Wx L L.length 0 (⟨⟨m0,m1,m2,m3,m4,m5,m6,m7,m8,m9,m10,m11,m12,m13⟩,m14,m15,m16,m17,m18,m19,m20,m21,m22⟩:Mat) []=out
    generalize C4 L L.length 0 (⟨⟨m0,m1,m2,m3,m4,m5,m6,m7,m8,m9,m10,m11,m12,m13⟩,m14,m15,m16,m17,m18,m19,m20,m21,m22⟩:Mat)=f at he
    obtain ⟨⟨⟨a0,a1,a2,a3,a4,a5,a6,a7,a8,a9,a10,a11,a12,a13⟩,a14,a15,a16,a17,a18,a19,a20,a21,a22⟩,b,l⟩:=f
    simp only at he
    unfold xQ
    cases hb:b == -1 with
    | false=>rfl
    | true =>
      rw [he hb,beq_iff_eq.1 hb]
      rfl
end Go.Px
end
section
namespace Go.Px
set_option maxRecDepth 100000
theorem qv {N:Nat} {r1 r2 r3 r4 r5 r6 r7 r9 r10 r11 r12:Int} {r8:Bool} {r0:ByteArray} {r13:Rows} {L:Rows} (hN:2097152<N) (hs:r0.size≤1048576) (h13:r13.length≤1048576) (hL:L.length≤1048576):Kr N [.str r0,.int r1,.int r2,.int r3,.int r4,.int r5,.int r6,.int r7,.bool r8,.int r9,.int r10,.int r11,.int r12,.rows r13,.rows L]=some (Za (Ct (⟨r0,r1,r2,r3,r4,r5,r6,r7,r8,r9,r10,r11,r12,r13⟩:Rul) L)):=by
 show KK (std (FF N) N) (xOf _)=_
 generalize hres:(some (Za (Ct (⟨r0,r1,r2,r3,r4,r5,r6,r7,r8,r9,r10,r11,r12,r13⟩:Rul) L)):Option (List PV))=RR
 simp only [KK,Y7,std,xOf,PXb,wC hN hs h13 hL]
 subst hres
 rfl
theorem th {N:Nat} {r1 r2 r3 r4 r5 r6 r7 r9 r10 r11 r12:Int} {r8:Bool} {r0:ByteArray} {r13:Rows} {L:Rows} (hN:2097152<N) (hs:r0.size≤1048576) (h13:r13.length≤1048576) (hL:L.length≤1048576):KP N [.str r0,.int r1,.int r2,.int r3,.int r4,.int r5,.int r6,.int r7,.bool r8,.int r9,.int r10,.int r11,.int r12,.rows r13,.rows L]=some (Za (Ct (⟨r0,r1,r2,r3,r4,r5,r6,r7,r8,r9,r10,r11,r12,r13⟩:Rul) L)):=by
 show Kw (std (Dw N) N) (xOf _)=_
 generalize hres:(some (Za (Ct (⟨r0,r1,r2,r3,r4,r5,r6,r7,r8,r9,r10,r11,r12,r13⟩:Rul) L)):Option (List PV))=RR
 simp only [Kw,aM,Np,std,xOf,PXb,yt hN hs h13]
 subst hres;simp only [Ct]
 have nk:=nD (⟨r0,r1,r2,r3,r4,r5,r6,r7,r8,r9,r10,r11,r12,r13⟩:Rul)
 generalize Cf (⟨r0,r1,r2,r3,r4,r5,r6,r7,r8,r9,r10,r11,r12,r13⟩:Rul)=X at nk
 obtain ⟨⟨⟨m0,m1,m2,m3,m4,m5,m6,m7,m8,m9,m10,m11,m12,m13⟩,m14,m15,m16,m17,m18,m19,m20,m21,m22⟩,l⟩:=X
 simp only at nk
 simp only [PXb,PXc,PXk,Nat.reduceAdd]
 cases hl:l==0
 case false=>rfl
 have ok:=nk hl
 have o1:=ok.rules
 have o2:=ok.fit
 have o3:=ok.len
 simp only at o1 o2 o3
 cases o1
 simp only [PXb,Np,wy hN o2 o3 hs h13 hL]
 rfl
theorem qf (L:Rows):∀ k i m,iLe 0 (C4 L k i m).2.1 = !((C4 L k i m).2.2==0)∧((C4 L k i m).2.1 == -1)=((C4 L k i m).2.2==0)
 | 0,_,_=>⟨rfl,rfl⟩
 | k+1,i,m=>by
  unfold C4
  cases hq:(A4 i m (evR L i)).2==0 with
  | false =>
   simp only [Bool.not_false,cond_true,hq]
   exact ⟨by simp only [iLe,decide_eq_true_eq];omega,beq_false_of_ne (by omega)⟩
  | true=>exact qf L k (i+1) _
theorem wI (r:Rul) (L:Rows):iLe 0 (Ct r L).2.1 = !((Ct r L).2.2==0)∧((Ct r L).2.1 == -1)=((Ct r L).2.2==0):=by
 unfold Ct
 cases (Cf r).2==0 with
 | false=>exact ⟨rfl,rfl⟩
 | true=>exact qf L L.length 0 _
def Bn (r:Rul) (L:Rows):Int:=cond (!(A2 r==0)) (A2 r) (cond (iLt 4000 (L.length:Int)) 9 (cond (!((Ct r L).2.2==0)) 10 0))
theorem gy {N:Nat} {r1 r2 r3 r4 r5 r6 r7 r9 r10 r11 r12:Int} {r8:Bool} {r0:ByteArray} {r13:Rows} {L:Rows} (hN:2097152<N) (hs:r0.size≤1048576) (h13:r13.length≤1048576) (hL:L.length≤1048576):D4 N [.str r0,.int r1,.int r2,.int r3,.int r4,.int r5,.int r6,.int r7,.bool r8,.int r9,.int r10,.int r11,.int r12,.rows r13,.rows L]=some [.int (Bn (⟨r0,r1,r2,r3,r4,r5,r6,r7,r8,r9,r10,r11,r12,r13⟩:Rul) L)]:=by
 show MO (std (Ec N) N) (xOf _)=_
 generalize hres:(some [.int (Bn (⟨r0,r1,r2,r3,r4,r5,r6,r7,r8,r9,r10,r11,r12,r13⟩:Rul) L)]:Option (List PV))=RR
 simp only [MO,Xb,V5,std,xOf,PXb,De hN hs,qv hN hs h13 hL,PXm]
 subst hres;simp only [Bn]
 rfl
theorem uu {N:Nat} {r1 r2 r3 r4 r5 r6 r7 r9 r10 r11 r12:Int} {r8:Bool} {r0:ByteArray} {r13:Rows} {L:Rows} (hN:2097152<N) (hs:r0.size≤1048576) (h13:r13.length≤1048576) (hL:L.length≤1048576):JR N [.str r0,.int r1,.int r2,.int r3,.int r4,.int r5,.int r6,.int r7,.bool r8,.int r9,.int r10,.int r11,.int r12,.rows r13,.rows L]=some [.int (Bn (⟨r0,r1,r2,r3,r4,r5,r6,r7,r8,r9,r10,r11,r12,r13⟩:Rul) L)]:=by
 show MU (std (Eb N) N) (xOf _)=_
 generalize hres:(some [.int (Bn (⟨r0,r1,r2,r3,r4,r5,r6,r7,r8,r9,r10,r11,r12,r13⟩:Rul) L)]:Option (List PV))=RR
 simp only [MU,Yp,Xr,std,xOf,PXb,E8 hN hs,th hN hs h13 hL,PXm,Za,PXc,(wI (⟨r0,r1,r2,r3,r4,r5,r6,r7,r8,r9,r10,r11,r12,r13⟩:Rul) L).1]
 subst hres;simp only [Bn]
structure LogOk (m:Mat):Prop where
 fit:Ds m.inns
 len:m.inns.length≤5
 name:m.rules.name.size≤1048576
 power:m.rules.power.length≤1048576
end Go.Px
end
section
namespace Go.Px
set_option maxRecDepth 100000
def acc (L:Rows):Nat→Nat→Mat→Prop
 | 0,_,_=>True
 | k+1,i,m=>((A4 i m (evR L i)).2==0)=true∧acc L k (i+1) (A4 i m (evR L i)).1
def stM (L:Rows):Nat→Nat→Mat→Mat
 | 0,_,m=>m
 | k+1,i,m=>stM L k (i+1) (A4 i m (evR L i)).1
def AAU (L:Rows):Nat→Nat→Mat→Rows→Rows
 | 0,_,_,out=>out
 | k+1,i,m,out=>AAU L k (i+1) (A4 i m (evR L i)).1 (cond ((evR L i).kind==4) (out++[lE i m (A4 i m (evR L i)).1 (evR L i).ball]) out)
theorem tj (L : Rows) : ∀ K i m, ∃ k, k ≤ K ∧ acc L k i m ∧ (∀ out, Wx L K i m out = AAU L k i m out) ∧
    ((k=K∧C4 L K i m=(stM L k i m,-1,0))∨(k<K∧((A4 ((i+k:Nat):Int) (stM L k i m) (evR L (i+k))).2==0)=false∧C4 L K i m=(stM L k i m,((i+k:Nat):Int),(A4 ((i+k:Nat):Int) (stM L k i m) (evR L (i+k))).2)))
  | 0,i,m=>⟨0,Nat.le_refl _,trivial,fun _=>rfl,Or.inl ⟨rfl,rfl⟩⟩
  | K+1,i,m=>by
    cases hq:(A4 i m (evR L i)).2==0 with
    | false =>
      refine ⟨0,Nat.zero_le _,trivial,fun out=>?_,Or.inr ⟨Nat.succ_pos _,hq,?_⟩⟩
      · simp only [Wx,hq,Bool.not_false,cond_true];rfl
      · simp only [C4,hq,Bool.not_false,cond_true];rfl
    | true =>
      obtain ⟨k,h1,h2,h3,h4⟩:=tj L K (i+1) (A4 i m (evR L i)).1
      refine ⟨k+1,Nat.succ_le_succ h1,⟨hq,h2⟩,fun out=>?_,?_⟩
      · simp only [Wx,hq,Bool.not_true,cond_false]
        exact h3 _
      · have e:C4 L (K+1) i m=C4 L K (i+1) (A4 i m (evR L i)).1:=by simp only [C4,hq,Bool.not_true,cond_false]
        rw [e,show i+(k+1)=i+1+k by omega]
        rcases h4 with ⟨h5,h6⟩ | ⟨h5,h6⟩
        · exact Or.inl ⟨by omega,h6⟩
        · exact Or.inr ⟨by omega,h6⟩
theorem zo (r:Rul):((Cf r).2==0)=(A2 r==0):=by
 unfold Cf
 cases h:A2 r==0 with
 | false=>exact h
 | true=>rfl
theorem rJ {L:Rows}:∀ k i m,stM L (k+1) i m=(A4 ((i+k:Nat):Int) (stM L k i m) (evR L (i+k))).1
 | 0,i,m=>rfl
 | k+1,i,m=>by
  show stM L (k+1) (i+1) _=_
  rw [rJ k (i+1),show i+1+k=i+(k+1) by omega]
  rfl
end Go.Px
end
section
namespace Go.Px
set_option maxRecDepth 100000
theorem xi {L:Rows}:∀ k i m,acc L k i m→∀ j,j<k→((A4 ((i+j:Nat):Int) (stM L j i m) (evR L (i+j))).2==0)=true
 | 0,_,_,_,j,h=>absurd h (Nat.not_lt_zero j)
 | k+1,i,m,ha,0,_=>ha.1
 | k+1,i,m,ha,j+1,h=>by
  have:=xi k (i+1) _ ha.2 j (by omega)
  rw [show i+1+j=i+(j+1) by omega] at this
  exact this
end Go.Px
end
section
namespace Go.Px
set_option maxRecDepth 100000
abbrev wr (n:Int):Int:=IntKind.i64.wrap n
structure Nums (q:Int) (s t:Inn) (a b c:Int):Prop where
 runs:wr (t.runs - t.pens)=wr (s.runs - s.pens+a)
 rw:wr s.runs=s.runs→wr t.runs=t.runs
 balls:Cj q t.complete t.inover=wr (s.complete * q+s.inover+b)
 wk:wr t.wickets=wr (s.wickets+c)
theorem Uq (q c i:Int):Cj q c i=wr (c * q+i):=by
 unfold Cj
 simp only [wr,RG]
 omega
theorem Nums.of {q:Int} {s t:Inn} (h1:t.runs=s.runs) (h2:t.pens=s.pens) (h3:t.complete=s.complete) (h4:t.inover=s.inover) (h5:t.wickets=s.wickets):Nums q s t 0 0 0 :=
 ⟨by rw [h1,h2,Int.add_zero],fun h=>by rw [h1];exact h,by rw [h3,h4,Uq,Int.add_zero],by rw [h5,Int.add_zero]⟩
theorem Nums.out {q:Int} {s t:Inn} (h1:t.runs=s.runs) (h2:t.pens=s.pens) (h3:t.complete=s.complete) (h4:t.inover=s.inover) (h5:t.wickets=wr (s.wickets+1)):Nums q s t 0 0 1 :=
 ⟨by rw [h1,h2,Int.add_zero],fun h=>by rw [h1];exact h,by rw [h3,h4,Uq,Int.add_zero],by rw [h5];exact IG _⟩
theorem Nums.pen (q:Int) (s:Inn):Nums q s (Jc s) 0 0 0 :=
 ⟨by show wr (wr (s.runs+5) - wr (s.pens+5))=_;simp only [wr,RG];omega,fun _=>IG _,by show Cj q s.complete s.inover=_;rw [Uq,Int.add_zero],by show wr s.wickets=_;rw [Int.add_zero]⟩
def D2 (e:Ev):Int:=cond ((e.kind==5&&e.yes)||(e.kind==6 && !e.yes)) 1 0
theorem Nums.fin {q:Int} {s t:Inn} {a b c:Int} (h:Nums q s t a b c) (r:Rul) (x:Bool):Nums q s (Bt r t x) a b c:=⟨h.runs,h.rw,h.balls,h.wk⟩
def F1 (e:Ev):Int:=cond (e.kind==4) (cond (e.ball.how==0) 0 1) (D2 e)
structure SumInv (q:Int) (xs:List Inn) (R B:Nat→Int) (O:Int):Prop where
 runs:∀ i,i<xs.length→wr ((inn xs i).runs - (inn xs i).pens)=wr (R i)
 rw:∀ i,i<xs.length→wr (inn xs i).runs=(inn xs i).runs
 balls:∀ i,i<xs.length→Cj q (inn xs i).complete (inn xs i).inover=wr (B i)
 zero:∀ i,xs.length≤i→R i=0∧B i=0
 wk:wr (xs.map Inn.wickets).sum=wr O
theorem SumInv.congr {q:Int} {xs:List Inn} {R B R' B':Nat→Int} {O O':Int} (h:SumInv q xs R B O) (h1:∀ i,R i=R' i) (h2:∀ i,B i=B' i) (h3:O=O'):SumInv q xs R' B' O' :=
 ⟨fun i hi=>(h.runs i hi).trans (by rw [h1]),h.rw,fun i hi=>(h.balls i hi).trans (by rw [h2]),fun i hi=>by rw [← h1,← h2];exact h.zero i hi,h.wk.trans (by rw [h3])⟩
def rT (L:Rows) (j:Nat):Int:=DB ⟨atI L j 20,atI L j 21,atI L j 22,atI L j 23,atI L j 24,atI L j 25,atB L j 26,atB L j 27,atB L j 28,atB L j 29⟩
def rS (L:Rows) (i:Nat):Nat→Int
 | 0=>0
 | n+1=>rS L i n+cond (atI L n 1==(i:Int)) (rT L n) 0
def bS (L:Rows) (i:Nat):Nat→Int
 | 0=>0
 | n+1=>bS L i n+cond (atI L n 1==(i:Int)&&atB L n 26) 1 0
def hS (L:Rows):Nat→Int
 | 0=>0
 | n+1=>hS L n+cond (atI L n 14==0) 0 1
end Go.Px
end
