/- Part 13. -/
import Derived.Test.YteolngdncakekaaGreatPart12
set_option linter.unusedVariables false
set_option linter.unusedSimpArgs false
section
namespace Go.Px
set_option maxRecDepth 100000
def lnx (xs:List Inn):Nat:=(IntKind.i64.wrap ((xs.length:Int) - 1)).toNat
def BC (m:Mat):Inn:=inn m.inns (lnx m.inns)
theorem Mt {n:Nat} (h:((n:Int)==0)=false) (hl:n≤1000000):iIn (IntKind.i64.wrap ((n:Int) - 1)) (n:Int)=true:=by
 rw [beq_eq_false_iff_ne] at h
 rw [Dn (by omega) (by omega)]
 simp only [iIn,decide_eq_true_eq];omega
theorem gV {xs:List Inn} (h:((xs.length:Int)==0)=false) (hl:xs.length≤1000000):lnx xs<xs.length:=by
 rw [beq_eq_false_iff_ne] at h
 unfold lnx
 rw [Dn (by omega) (by omega)]
 omega
def XK (r:Rul):Int:=cond (r.overs==0) 5 6
theorem KB {N:Nat} {r1 r2 r3 r4 r5 r6 r7 r9 r10 r11 r12:Int} {r8:Bool} {r0:ByteArray} {r13:Rows}  : Bn N [.str r0,.int r1,.int r2,.int r3,.int r4,.int r5,.int r6,.int r7,.bool r8,.int r9,.int r10,.int r11,.int r12,.rows r13]=some [.int (XK (⟨r0,r1,r2,r3,r4,r5,r6,r7,r8,r9,r10,r11,r12,r13⟩:Rul))]:=by
 show F1 (std (OD N) N) (xOf _)=_
 simp only [F1,std,xOf,PXb,PXc,PXn,PXm,Nat.reduceAdd,Int.reduceBEq,XK]
theorem So {N:Nat} {m1 m2 m3 m4 m5 m6 m7 m9 m10 m11 m12 m14 m15 m18 m19 m20 m21 m22:Int} {m8 m16:Bool} {m0:ByteArray} {m13:Rows} {m17:List Inn} (h:((m17.length:Int)==0)=false) (hl:m17.length≤1000000):DD N [.str m0,.int m1,.int m2,.int m3,.int m4,.int m5,.int m6,.int m7,.bool m8,.int m9,.int m10,.int m11,.int m12,.rows m13,.int m14,.int m15,.bool m16,.rows (AL m17),.int m18,.int m19,.int m20,.int m21,.int m22]=some (inn m17 (lnx m17)).ls:=by
 show NV (std (Jw N) N) (xOf _)=_
 simp only [NV,std,xOf,PXb,PXc,PXn,PXm,Nat.reduceAdd,Int.reduceBEq,PXi,Mt h hl,lnx]
def lk (x:Int×Int×Int):List PV:=[.int x.1,.int x.2.1,.int x.2.2]
def Mi (m:Mat):Int×Int×Int :=
  let n:Int:=m.inns.length
  let most:=IntKind.i64.wrap (2 * m.rules.innings)
  let x:=BC m
  cond (!Bi m||n==0) (0,0,0) (cond (x.ending==5) (XK m.rules,0,0) (cond (x.ending==0) (0,0,0)
    (cond (n==most&&iLe x.target x.runs) (2,x.side,IntKind.i64.wrap (IntKind.i64.wrap (m.rules.side - 1) - x.wickets)) (cond (n==most&&x.runs==IntKind.i64.wrap (x.target - 1)) (4,0,0)
      (cond (n==most) (1,Bm x.side,IntKind.i64.wrap (IntKind.i64.wrap (x.target - 1) - x.runs))
        (cond (n==3&&iLt (BH m x.side) (BH m (Bm x.side))) (3,Bm x.side,IntKind.i64.wrap (BH m (Bm x.side) - BH m x.side)) (0,0,0)))))))
set_option maxHeartbeats 4000000 in
theorem iY {N:Nat} {m1 m2 m3 m4 m5 m6 m7 m9 m10 m11 m12 m14 m15 m18 m19 m20 m21 m22:Int} {m8 m16:Bool} {m0:ByteArray} {m13:Rows} {m17:List Inn} (hf:Cr m17) (hN:2097152<N) (hl:m17.length≤1000000) (hs:m0.size≤1048576):Fw N [.str m0,.int m1,.int m2,.int m3,.int m4,.int m5,.int m6,.int m7,.bool m8,.int m9,.int m10,.int m11,.int m12,.rows m13,.int m14,.int m15,.bool m16,.rows (AL m17),.int m18,.int m19,.int m20,.int m21,.int m22]=some (lk (Mi (⟨⟨m0,m1,m2,m3,m4,m5,m6,m7,m8,m9,m10,m11,m12,m13⟩,m14,m15,m16,m17,m18,m19,m20,m21,m22⟩:Mat))):=by
 show JF (std (DI N) N) (xOf _)=_
 generalize hres:(some (lk (Mi (⟨⟨m0,m1,m2,m3,m4,m5,m6,m7,m8,m9,m10,m11,m12,m13⟩,m14,m15,m16,m17,m18,m19,m20,m21,m22⟩:Mat))):Option (List PV))=RR
 simp only [JF,Qx,Q2,Qr,Ma,std,xOf,PXb,PXi,Lr hf hN hl hs,IU,KB,Rs hN (show m17.length≤1048576 by omega)]
 subst hres;simp only [Mi,BC,lnx]
 cases hv:Bi (⟨⟨m0,m1,m2,m3,m4,m5,m6,m7,m8,m9,m10,m11,m12,m13⟩,m14,m15,m16,m17,m18,m19,m20,m21,m22⟩:Mat)
 case false=>rfl
 cases h0:(m17.length:Int)==0
 case true=>rfl
 simp only [PXb,Mt h0 hl]
 generalize inn m17 (IntKind.i64.wrap ((m17.length:Int) - 1)).toNat=x
 cases x.ending==5
 case true=>rfl
 cases x.ending==0
 case true=>rfl
 cases (m17.length:Int)==IntKind.i64.wrap (2 * m2)<;>cases iLe x.target x.runs<;>cases x.runs==IntKind.i64.wrap (x.target - 1)<;>try rfl
 all_goals (cases (m17.length:Int)==3<;>try rfl)
 all_goals (simp only [PXb];cases iLt (BH (⟨⟨m0,m1,m2,m3,m4,m5,m6,m7,m8,m9,m10,m11,m12,m13⟩,m14,m15,m16,m17,m18,m19,m20,m21,m22⟩:Mat) x.side) (BH (⟨⟨m0,m1,m2,m3,m4,m5,m6,m7,m8,m9,m10,m11,m12,m13⟩,m14,m15,m16,m17,m18,m19,m20,m21,m22⟩:Mat) (Bm x.side))<;>rfl)
set_option maxHeartbeats 4000000 in
theorem lH {N:Nat} {m1 m2 m3 m4 m5 m6 m7 m9 m10 m11 m12 m14 m15 m18 m19 m20 m21 m22:Int} {m8 m16:Bool} {m0:ByteArray} {m13:Rows} {m17:List Inn} (hf:Cr m17) (hN:2097152<N) (hl:m17.length≤1000000) (hs:m0.size≤1048576):Ih N [.str m0,.int m1,.int m2,.int m3,.int m4,.int m5,.int m6,.int m7,.bool m8,.int m9,.int m10,.int m11,.int m12,.rows m13,.int m14,.int m15,.bool m16,.rows (AL m17),.int m18,.int m19,.int m20,.int m21,.int m22]=some (lk (Mi (⟨⟨m0,m1,m2,m3,m4,m5,m6,m7,m8,m9,m10,m11,m12,m13⟩,m14,m15,m16,m17,m18,m19,m20,m21,m22⟩:Mat))):=by
 show IW (std (CF N) N) (xOf _)=_
 generalize hres:(some (lk (Mi (⟨⟨m0,m1,m2,m3,m4,m5,m6,m7,m8,m9,m10,m11,m12,m13⟩,m14,m15,m16,m17,m18,m19,m20,m21,m22⟩:Mat))):Option (List PV))=RR
 simp only [IW,UG,LD,Kt,Ku,std,xOf,PXb,PXi,VY hf hN hl hs,GM,K9 hN (show m17.length≤1048576 by omega)]
 subst hres;simp only [Mi,BC]
 cases hv:Bi (⟨⟨m0,m1,m2,m3,m4,m5,m6,m7,m8,m9,m10,m11,m12,m13⟩,m14,m15,m16,m17,m18,m19,m20,m21,m22⟩:Mat)
 case false=>rfl
 cases h0:(m17.length:Int)==0
 case true=>rfl
 simp only [PXb,PXm,LD,So h0 hl,Kt,Ku,GM,K9 hN (show m17.length≤1048576 by omega)]
 generalize inn m17 (lnx m17)=x
 unfold XK
 cases x.ending==5<;>cases m3==0<;>try rfl
 all_goals (cases x.ending==0<;>try rfl)
 all_goals (cases (m17.length:Int)==IntKind.i64.wrap (2 * m2)<;>cases iLe x.target x.runs<;>cases x.runs==IntKind.i64.wrap (x.target - 1)<;>try rfl)
 all_goals (cases (m17.length:Int)==3<;>try rfl)
 all_goals (simp only [PXb];cases iLt (BH (⟨⟨m0,m1,m2,m3,m4,m5,m6,m7,m8,m9,m10,m11,m12,m13⟩,m14,m15,m16,m17,m18,m19,m20,m21,m22⟩:Mat) x.side) (BH (⟨⟨m0,m1,m2,m3,m4,m5,m6,m7,m8,m9,m10,m11,m12,m13⟩,m14,m15,m16,m17,m18,m19,m20,m21,m22⟩:Mat) (Bm x.side))<;>rfl)
theorem nc:∀ (n k:Nat) (f:Nat→Nat),(∀ i,i<k→1≤f i∧f i≤n)→(∀ i j,i<j→j<k→f i≠f j)→k≤n
 | 0,k,f,h,_=>by
  rcases Nat.eq_zero_or_pos k with e | e
  ·omega
  ·have:=h 0 e;omega
 | n+1,0,f,_,_=>by omega
 | n+1,k+1,f,h,hi=>by
  by_cases he:∃ j,j<k+1∧f j=n+1
  ·obtain ⟨j,hj,hfj⟩:=he
   have:=nc n k (fun i=>if i=j then f k else f i) (fun i hik=>by
    show 1≤(if i=j then f k else f i)∧(if i=j then f k else f i)≤n
    by_cases e:i=j
    ·rw [if_pos e]
     have h1:=h k (by omega)
     have:f k≠f j:=fun e2=>hi j k (by omega) (by omega) e2.symm
     omega
    ·rw [if_neg e]
     have h1:=h i (by omega)
     have:f i≠f j:=by
      rcases Nat.lt_or_gt_of_ne e with e2 | e2
      ·exact hi i j e2 hj
      ·exact fun e3=>hi j i e2 (by omega) e3.symm
     omega) (fun a b hab hb=>by
    show (if a=j then f k else f a)≠(if b=j then f k else f b)
    by_cases e1:a=j
    ·have e2:b≠j:=by omega
     rw [if_pos e1,if_neg e2]
     exact fun e3=>hi b k hb (by omega) e3.symm
    ·rw [if_neg e1]
     by_cases e2:b=j
     ·rw [if_pos e2];exact hi a k (by omega) (by omega)
     ·rw [if_neg e2];exact hi a b hab (by omega))
   omega
  ·have:=nc n (k+1) f (fun i hik=>by
    have h1:=h i hik
    have:f i≠n+1:=fun e=>he ⟨i,hik,e⟩
    omega) hi
   omega
theorem nC {L:Rows} {n:Int} (h:Fn L n=true) (hn:0≤n):(L.length:Int)≤n:=by
 unfold Fn at h
 rw [Bool.not_eq_true',KN] at h
 have hb:∀ i,i<L.length→1≤atI L i 0∧atI L i 0≤n:=fun i hi=>by
  have:=h i (by omega) (by omega)
  unfold KL at this
  rw [Bool.or_eq_false_iff,Bool.not_eq_false',cN] at this
  exact this.1
 have:=nc n.toNat L.length (fun i=>(atI L i 0).toNat) (fun i hi=>by have:=hb i hi;show 1≤(atI L i 0).toNat∧(atI L i 0).toNat≤n.toNat;omega) (fun i j hij hj=>by
  show (atI L i 0).toNat≠(atI L j 0).toNat
  have h1:=hb i (by omega)
  have h2:=hb j hj
  have h3:=h j (by omega) (by omega)
  unfold KL at h3
  rw [Bool.or_eq_false_iff] at h3
  have h4:=KN.1 h3.2 i (by omega) (by omega)
  rw [beq_eq_false_iff_ne] at h4
  omega)
 omega
theorem Sh {r:Rul} {s:Inn} (h:FD r s=true):s.bowlers.length≤11∧s.before.length≤11∧s.Fit:=by
 have ok:=sv.1 h
 have hs:=vp ok
 have h1:=nC ok.dw (by omega)
 have h2:=nC ok.df (by omega)
 have h3:=ok.lb
 have h4:=ok.ld
 have h5:=ok.lz
 exact ⟨by omega,by omega,by omega,by omega,by omega,by omega,by omega⟩
end Go.Px
end
section
namespace Go.Px
set_option maxRecDepth 100000
def Xt (m:Mat) (e:Ev):Mat×Int :=
  let sd:=Dx m (m.inns.length:Int)
  let b:=Bv m.rules sd (Gt m sd) (cond (sd==2) m.pen2 m.pen1)
  let t:=CL m.rules b.1 e
  cond (!(b.2==0)) (m,1) (cond (!(t.2==0)) (m,t.2)
    ({ m with stage:=3,inns:=m.inns++[t.1],pen1:=cond (sd==1) 0 m.pen1,pen2:=cond (sd==2) 0 m.pen2 },0))
def Sq (xs:List Inn) (sd:Int):Nat→Option Nat
 | 0=>none
 | k+1=>cond ((inn xs k).side==sd) (some k) (Sq xs sd k)
def K5 (m:Mat) (sd:Int):Mat:=match Sq m.inns sd m.inns.length with
 | some k=>{ m with inns:=m.inns.set k (OQ (inn m.inns k)) }
 | none=>{ m with pen1:=cond (sd==1) (IntKind.i64.wrap (m.pen1+5)) m.pen1,pen2:=cond (sd==2) (IntKind.i64.wrap (m.pen2+5)) m.pen2 }
def cP (m:Mat) (e:Ev):Mat×Int :=
 let t:=CL m.rules (BC m) e
 cond (!(t.2==0)) (m,t.2) (cond (e.kind==13 && !(e.side==t.1.side)) (K5 { m with inns:=m.inns.set (lnx m.inns) t.1 } e.side) { m with inns:=m.inns.set (lnx m.inns) t.1 },0)
def lw (m:Mat):Mat:={ m with inns:=cond (m.stage==3) (m.inns.set (lnx m.inns) { BC m with ending:=5 }) m.inns,stage:=5,win:=XK m.rules,wside:=0,margin:=0 }
def JY (m:Mat) (e:Ev):Mat×Int :=
  cond (e.kind==1) (cond (!(m.stage==1)) (m,1) ({ m with first:=cond e.yes e.side (Bm e.side),stage:=2 },0))
    (cond (e.kind==2) (cond (!(m.stage==2)) (m,1) (Xt m e))
      (cond (e.kind==12) (cond (!(m.stage==4)) (m,1) (cond (!(e.side==m.first)) (m,2) ({ m with follow:=e.yes,stage:=2 },0)))
        (cond (e.kind==16) (lw m,0) (cond (!(m.stage==3)) (m,1) (cP m e)))))
def PW (m:Mat):Mat :=
  let n:Int:=m.inns.length
  let sd:=(BC m).side
  let o:=Mi { m with stage:=5 }
  cond (n==IntKind.i64.wrap (2 * m.rules.innings)||(n==3&&iLt (BH m sd) (BH m (Bm sd)))) { m with stage:=5,win:=o.1,wside:=o.2.1,margin:=o.2.2 }
    (cond (n==2&&iLt 0 m.rules.followon&&iLe m.rules.followon (IntKind.i64.wrap (BH m m.first - BH m (Bm m.first)))) { m with stage:=4 } { m with stage:=2 })
def Td (m:Mat):Mat:=cond (m.stage==3 && !((BC m).ending==0)) (PW m) m
def CG (m:Mat) (e:Ev):Mat×Int :=
 cond (!Bi m || !(evS e==0)) (m,1) (cond (m.stage==5) (m,26) (cond (!((JY m e).2==0)) (m,(JY m e).2) (Td (JY m e).1,0)))
theorem bind_ok {X:Option (List PV)} {r:List PV} {k:List PV→Option (List PV)} {g:Option (List PV)} (h:X=some r) (hk:k r=g):X.bind k=g:=by rw [h];exact hk
structure MatOk (m:Mat):Prop where
 code:Bb m.rules=0
 len:m.inns.length≤4
 innv:∀ i,i<m.inns.length→FD m.rules (inn m.inns i)=true∧(inn m.inns i).side=Dx m (i:Int)
 begun:(m.stage==3)=true→((m.inns.length:Int)==0)=false
 toss:(m.stage==2)=true→m.first=1∨m.first=2
 room:(m.stage==2)=true→(m.inns.length:Int)<2 * m.rules.innings
 most:IntKind.i64.wrap (2 * m.rules.innings)=2 * m.rules.innings∧(m.inns.length:Int)≤2 * m.rules.innings
theorem gR {m:Mat} (h:Bi m=true):MatOk m:=by
 unfold Bi l6 at h
 simp only [Bool.and_eq_true,Bool.not_eq_true'] at h
 obtain ⟨⟨h1,h2,h3,h4,h5,h6,h7,h8,h9,h10⟩,h11,h12⟩:=h
 have hc:=beq_iff_eq.1 h1
 have rk:=(KO hc).innings
 have e2:IntKind.i64.wrap (2 * m.rules.innings)=2 * m.rules.innings:=Dn (by omega) (by omega)
 rw [e2] at h5 h8
 rw [Bool.or_eq_false_iff,Bool.or_eq_false_iff] at h5
 have hn:=h5.2
 have hf1:=h5.1.1
 have hf2:=h5.1.2
 simp only [iLt,decide_eq_false_iff_not] at hn hf1 hf2
 refine ⟨hc,by omega,fun i hi=>?_,fun hs=>?_,fun hs=>?_,fun hs=>?_,e2,by omega⟩
 ·have:=KN.1 h11 i (by omega) (by omega)
  unfold Jb at this
  rw [Bool.or_eq_false_iff,Bool.not_eq_false',Bool.not_eq_false',beq_iff_eq] at this
  exact this
 ·unfold Wl at h12
  rw [hs,Bool.and_eq_true] at h12
  have:=h12.2
  simp only [iLt,Bool.not_true,Bool.false_or,decide_eq_true_eq] at this
  exact beq_false_of_ne (by omega)
 ·rw [beq_iff_eq.1 hs] at h6
  cases h0:m.first==0 with
  | true=>rw [h0] at h6;simp at h6
  | false =>
   rw [beq_eq_false_iff_ne] at h0
   omega
 ·rw [hs,Bool.true_and,beq_eq_false_iff_ne] at h8
  omega
theorem mP {m:Mat} (h:m.first=1∨m.first=2) (i:Int):Dx m i=1∨Dx m i=2:=by
 unfold Dx
 cases cond (m.follow&&iLe 2 i) (i==2) (i.tmod 2==1) with
 | false=>exact h
 | true=>rcases h with h | h<;>rw [h]<;>decide
theorem sR {m:Mat} (h:MatOk m):Cr m.inns:=fun i hi=>(Sh (h.innv i hi).1).2.2
theorem Xn {F : (List AS → Option (List PV)) → List PV → Option (List PV)} {len : Nat} (enc : Nat → List AS) (ans : Nat → Option (List PV))
    (h0:∀ self,F self ((enc len).map Leaf.pv)=some [.int 1]) (h1:∀ i self,i<len→F self ((enc i).map Leaf.pv)=match ans i with | some r=>some (.int 0::r) | none=>self (enc (i+1))) :
    ∀ (k i n:Nat),i+k=len→k<n→EF F n ((enc i).map Leaf.pv)=some (Su (CH ans k i))
  | 0,i,n,hk,hn=>by
    obtain ⟨n,rfl⟩:∃ m,n=m+1:=⟨n - 1,by omega⟩
    obtain rfl:i=len:=by omega
    exact h0 _
  | k+1,i,n,hk,hn=>by
    obtain ⟨n,rfl⟩:∃ m,n=m+1:=⟨n - 1,by omega⟩
    show F _ _=_
    rw [h1 i _ (by omega)]
    simp only [CH]
    cases ans i with
    | some r=>rfl
    | none=>exact Xn enc ans h0 h1 k (i+1) n (by omega) (by omega)
theorem jo (ys:List Inn) (sd:Int) (g:Nat→List PV) (n:Nat):∀ k,k≤n→CH (fun j=>cond ((inn ys (n - 1 - j)).side==sd) (some (g (n - 1 - j))) none) k (n - k)=(Sq ys sd k).map g
 | 0,_=>rfl
 | k+1,h=>by
  have ih:=jo ys sd g n k (by omega)
  have e:n - 1 - (n - (k+1))=k:=by omega
  have e2:n - (k+1)+1=n - k:=by omega
  simp only [CH,Sq,e,e2,ih]
  cases (inn ys k).side==sd<;>rfl
theorem vr (xs:List Inn) (k:Nat) (s:Inn) (i:Nat) (hi:i<xs.length):inn (xs.set k s) i=(if k=i then s else inn xs i):=by
 rw [LL,LL,List.getElem?_set]
 by_cases h:k=i
 ·subst h
  rw [if_pos rfl,if_pos rfl,if_pos hi]
 ·rw [if_neg h,if_neg h]
theorem S5 {xs:List Inn} {s:Inn} (k:Nat) (h:Cr xs) (hs:s.Fit):Cr (xs.set k s):=fun i hi=>by
 rw [List.length_set] at hi
 rw [vr xs k s i hi]
 by_cases e:k=i
 ·rw [if_pos e];exact hs
 ·rw [if_neg e];exact h i hi
theorem kU {e:Ev} (h:(evS e==0)=true) (hk:(e.kind==13)=true):e.side=1∨e.side=2:=by
 have h0:=cH h
 rw [beq_iff_eq] at hk
 unfold evS at h
 rw [h0] at h
 cases h1:Zu e with
 | true=>rw [h1] at h;cases h
 | false =>
  cases h2:V3 e with
  | true=>rw [h1,h2] at h;cases h
  | false =>
   unfold V3 at h2
   rw [Bool.or_eq_false_iff] at h2
   have h3:=h2.1
   rw [hk,show uS 13=true from rfl,Bool.and_true] at h3
   simp only [btw,iLe,Bool.not_eq_false',Bool.and_eq_true,decide_eq_true_eq] at h3
   omega
theorem vi (xs:List Inn) (s:Inn) (i:Nat) (hi:i<xs.length+1):inn (xs++[s]) i=(if i<xs.length then inn xs i else s):=by
 rw [LL,LL]
 by_cases h:i<xs.length
 ·rw [if_pos h,List.getElem?_append_left h]
 ·have:i=xs.length:=by omega
  subst this
  rw [if_neg h,List.getElem?_append_right (Nat.le_refl _),Nat.sub_self]
  rfl
theorem vM {xs:List Inn} {s:Inn} (h:Cr xs) (hs:s.Fit):Cr (xs++[s]):=fun i hi=>by
 rw [List.length_append] at hi
 rw [vi xs s i hi]
 by_cases e:i<xs.length
 ·rw [if_pos e];exact h i e
 ·rw [if_neg e];exact hs
theorem jP (r:Rul) (a b c:Int) (e:Ev):(CL r (Bv r a b c).1 e).1.Fit:=by
 obtain ⟨f,h1,h2⟩:=H3 r a b c
 exact Lg (VD r _ e) f (by rw [h1,h2];exact Nat.zero_le _)
structure ActOk (m:Mat) (x:Mat×Int):Prop where
 rules:x.1.rules=m.rules
 fit:Cr x.1.inns
 len:x.1.inns.length≤5
 some':(x.2==0)=true→(x.1.stage==3)=true→((x.1.inns.length:Int)==0)=false
theorem A_c {m:Mat} (b:Bool) (x y:Mat×Int) (hx:ActOk m x) (hy:ActOk m y):ActOk m (cond b x y):=by cases b<;>assumption
theorem vL {m:Mat} (sd:Int) (hf:Cr m.inns):(K5 m sd).rules=m.rules∧Cr (K5 m sd).inns∧(K5 m sd).inns.length=m.inns.length∧(K5 m sd).stage=m.stage:=by
 unfold K5
 cases h:Sq m.inns sd m.inns.length with
 | none=>exact ⟨rfl,hf,rfl,rfl⟩
 | some k =>
  have hk:k<m.inns.length:=by
   have:∀ n,Sq m.inns sd n=some k→k<n:=by
    intro n
    induction n with
    | zero=>intro h;cases h
    | succ n ih =>
     intro h
     unfold Sq at h
     cases hq:(inn m.inns n).side==sd with
     | true=>rw [hq] at h;cases h;omega
     | false=>rw [hq] at h;have:=ih h;omega
   exact this _ h
  exact ⟨rfl,S5 k hf (wG (hf k hk)),List.length_set,rfl⟩
theorem sy {m:Mat} (ok:MatOk m) (e:Ev):ActOk m (JY m e):=by
 have hf:=sR ok
 have hl:=ok.len
 have self:∀ n:Int,(n==0)=false→ActOk m (m,n):=fun n hn=>⟨rfl,hf,by show m.inns.length≤5;omega,fun h=>by rw [hn] at h;cases h⟩
 unfold JY
 refine A_c _ _ _ (A_c _ _ _ (self 1 rfl) ⟨rfl,hf,by show m.inns.length≤5;omega,fun _ h=>by cases h⟩) (A_c _ _ _ ?_ (A_c _ _ _ ?_ (A_c _ _ _ ?_ ?_)))
 ·refine A_c _ _ _ (self 1 rfl) ?_
  unfold Xt
  refine A_c _ _ _ (self 1 rfl) ?_
  cases hq:(CL m.rules (Bv m.rules (Dx m (m.inns.length:Int)) (Gt m (Dx m (m.inns.length:Int))) (cond (Dx m (m.inns.length:Int)==2) m.pen2 m.pen1)).1 e).2==0 with
  | false =>
   simp only [Bool.not_false,cond_true]
   exact self _ hq
  | true =>
   simp only [Bool.not_true,cond_false]
   exact ⟨rfl,vM hf (jP _ _ _ _ e),by simp;omega,fun _ _=>by
    show ((((m.inns++[_]).length:Nat):Int)==0)=false
    rw [List.length_append]
    exact beq_false_of_ne (by simp;omega)⟩
 ·exact A_c _ _ _ (self 1 rfl) (A_c _ _ _ (self 2 rfl) ⟨rfl,hf,by show m.inns.length≤5;omega,fun _ h=>by cases h⟩)
 ·unfold lw
  cases h3:m.stage==3 with
  | false=>exact ⟨rfl,hf,by show m.inns.length≤5;omega,fun _ h=>by cases h⟩
  | true =>
   have h0:=ok.begun h3
   have fl:=hf (lnx m.inns) (gV h0 (by omega))
   exact ⟨rfl,S5 _ hf ⟨fl.bt,fl.bw,fl.bf,fl.bd,fl.sb⟩,by show (m.inns.set _ _).length≤5;rw [List.length_set];omega,fun _ h=>by cases h⟩
 ·cases h3:m.stage==3 with
  | false=>exact self 1 rfl
  | true =>
   have h0:=ok.begun h3
   have lv:=Sh (ok.innv (lnx m.inns) (gV h0 (by omega))).1
   have h1:=lv.1
   have h2:=lv.2.1
   have ft:=Lg (VD m.rules (BC m) e) lv.2.2 (show (inn m.inns (lnx m.inns)).before.length+(inn m.inns (lnx m.inns)).bowlers.length≤1048575 by omega)
   simp only [Bool.not_true,cond_false,cP]
   cases hq:(CL m.rules (BC m) e).2==0 with
   | false =>
    simp only [Bool.not_false,Bool.not_true,cond_true,cond_false]
    exact self _ hq
   | true =>
    have fs:=S5 (lnx m.inns) hf ft
    have ln:(m.inns.set (lnx m.inns) (CL m.rules (BC m) e).1).length=m.inns.length:=List.length_set
    simp only [Bool.not_true,cond_false]
    cases (e.kind==13 && !(e.side==(CL m.rules (BC m) e).1.side)) with
    | false =>
     exact ⟨rfl,fs,by show (m.inns.set _ _).length≤5;omega,fun _ _=>by
      show ((((m.inns.set _ _).length:Nat):Int)==0)=false
      rw [ln];exact h0⟩
    | true =>
     obtain ⟨a1,a2,a3,a4⟩:=vL (m:={ m with inns:=m.inns.set (lnx m.inns) (CL m.rules (BC m) e).1 }) e.side fs
     exact ⟨a1,a2,by show (K5 _ _).inns.length≤5;rw [a3];show (m.inns.set _ _).length≤5;omega,fun _ _=>by
      show ((((K5 _ _).inns.length:Nat):Int)==0)=false
      rw [a3]
      show ((((m.inns.set _ _).length:Nat):Int)==0)=false
      rw [ln];exact h0⟩
end Go.Px
end
section
namespace Go.Px
set_option maxRecDepth 100000
set_option maxHeartbeats 8000000 in
theorem bZ {N:Nat} {m1 m2 m3 m4 m5 m6 m7 m9 m10 m11 m12 m14 m15 m18 m19 m20 m21 m22:Int} {m8 m16:Bool} {m0:ByteArray} {m13:Rows} {m17:List Inn} {e0 e1 e2 e3 e5 e6 e7 e8 e9 e10 e11 e13 e14 e15 e16 e18:Int} {e4 e12 e17:Bool} (hN:2097152<N) (hf:Cr m17) (hl:m17.length≤1000000) (hs:m0.size≤1048576) (h13:m13.length≤1048576):Cp N [.str m0,.int m1,.int m2,.int m3,.int m4,.int m5,.int m6,.int m7,.bool m8,.int m9,.int m10,.int m11,.int m12,.rows m13,.int m14,.int m15,.bool m16,.rows (AL m17),.int m18,.int m19,.int m20,.int m21,.int m22,.int e0,.int e1,.int e2,.int e3,.bool e4,.int e5,.int e6,.int e7,.int e8,.int e9,.int e10,.int e11,.bool e12,.int e13,.int e14,.int e15,.int e16,.bool e17,.int e18]=some (Li (CG (⟨⟨m0,m1,m2,m3,m4,m5,m6,m7,m8,m9,m10,m11,m12,m13⟩,m14,m15,m16,m17,m18,m19,m20,m21,m22⟩:Mat) (⟨e0,e1,e2,e3,e4,e5,e6,⟨e7,e8,e9,e10,e11,e12,e13,e14,e15,e16,e17,e18⟩⟩:Ev))):=by
 show On (std (A6 N) N) (xOf _)=_
 generalize hres:(some (Li (CG (⟨⟨m0,m1,m2,m3,m4,m5,m6,m7,m8,m9,m10,m11,m12,m13⟩,m14,m15,m16,m17,m18,m19,m20,m21,m22⟩:Mat) (⟨e0,e1,e2,e3,e4,e5,e6,⟨e7,e8,e9,e10,e11,e12,e13,e14,e15,e16,e17,e18⟩⟩:Ev))):Option (List PV))=RR
 simp only [On,TL,Tx,TN,Et,E4,KF,Id,EG,Ed,C5,DR,HJ,std,xOf,PXb,Lr hf hN hl hs,ZQ hN,lM hf hN hl h13]
 subst hres;simp only [CG]
 cases hv:Bi (⟨⟨m0,m1,m2,m3,m4,m5,m6,m7,m8,m9,m10,m11,m12,m13⟩,m14,m15,m16,m17,m18,m19,m20,m21,m22⟩:Mat)
 case false=>rfl
 cases he:evS (⟨e0,e1,e2,e3,e4,e5,e6,⟨e7,e8,e9,e10,e11,e12,e13,e14,e15,e16,e17,e18⟩⟩:Ev)==0
 case false=>simp only [PXb,he];rfl
 simp only [PXb,he]
 cases h5:m14==5
 case true=>rfl
 simp only [PXb]
 have ok:=gR hv
 refine bind_ok (r:=.int (JY (⟨⟨m0,m1,m2,m3,m4,m5,m6,m7,m8,m9,m10,m11,m12,m13⟩,m14,m15,m16,m17,m18,m19,m20,m21,m22⟩:Mat) (⟨e0,e1,e2,e3,e4,e5,e6,⟨e7,e8,e9,e10,e11,e12,e13,e14,e15,e16,e17,e18⟩⟩:Ev)).2::(JY (⟨⟨m0,m1,m2,m3,m4,m5,m6,m7,m8,m9,m10,m11,m12,m13⟩,m14,m15,m16,m17,m18,m19,m20,m21,m22⟩:Mat) (⟨e0,e1,e2,e3,e4,e5,e6,⟨e7,e8,e9,e10,e11,e12,e13,e14,e15,e16,e17,e18⟩⟩:Ev)).1.ls) ?_ ?_
 ·unfold JY
  cases hk1:e0==1
  case true =>
   simp only [PXb,E4,IU]
   cases m14==1<;>cases e4<;>rfl
  cases hk2:e0==2
  case true =>
   simp only [PXb]
   cases hs2:m14==2
   case false=>rfl
   have hl2:m17.length≤1048576:=by omega
   have h304:iSm ((m17.length+1:Nat):Int) 304=true:=DV (by omega) (by omega)
   have fb:=fun a b c=>(H3 (⟨⟨m0,m1,m2,m3,m4,m5,m6,m7,m8,m9,m10,m11,m12,m13⟩,m14,m15,m16,m17,m18,m19,m20,m21,m22⟩:Mat).rules a b c).1
   have wb:∀ a b c,(Bv (⟨⟨m0,m1,m2,m3,m4,m5,m6,m7,m8,m9,m10,m11,m12,m13⟩,m14,m15,m16,m17,m18,m19,m20,m21,m22⟩:Mat).rules a b c).1.before.length+(Bv (⟨⟨m0,m1,m2,m3,m4,m5,m6,m7,m8,m9,m10,m11,m12,m13⟩,m14,m15,m16,m17,m18,m19,m20,m21,m22⟩:Mat).rules a b c).1.bowlers.length≤1000000:=fun a b c=>by
    rw [(H3 (⟨⟨m0,m1,m2,m3,m4,m5,m6,m7,m8,m9,m10,m11,m12,m13⟩,m14,m15,m16,m17,m18,m19,m20,m21,m22⟩:Mat).rules a b c).2.1,(H3 (⟨⟨m0,m1,m2,m3,m4,m5,m6,m7,m8,m9,m10,m11,m12,m13⟩,m14,m15,m16,m17,m18,m19,m20,m21,m22⟩:Mat).rules a b c).2.2]
    exact Nat.zero_le _
   rcases mP (m:=(⟨⟨m0,m1,m2,m3,m4,m5,m6,m7,m8,m9,m10,m11,m12,m13⟩,m14,m15,m16,m17,m18,m19,m20,m21,m22⟩:Mat)) (ok.toss hs2) (m17.length:Int) with ho | ho
   ·simp only [PXb,PXc,CX,TO,Nat.reduceAdd,Int.reduceBEq,PXi,PXr,Inn.eta,AY,List.length_append,List.length_cons,List.length_nil,h304,Xt,Et,Ed,EG,C5,Ro,XA hN hl2,Ur hN hs,Pm (fb _ _ _) (wb _ _ _) hN hs h13,ho,wr1,wr2,Vb,Vg]
    cases (Bv (⟨⟨m0,m1,m2,m3,m4,m5,m6,m7,m8,m9,m10,m11,m12,m13⟩,m14,m15,m16,m17,m18,m19,m20,m21,m22⟩:Mat).rules 1 (Gt (⟨⟨m0,m1,m2,m3,m4,m5,m6,m7,m8,m9,m10,m11,m12,m13⟩,m14,m15,m16,m17,m18,m19,m20,m21,m22⟩:Mat) 1) m18).2==0<;>try rfl
    cases (CL (⟨⟨m0,m1,m2,m3,m4,m5,m6,m7,m8,m9,m10,m11,m12,m13⟩,m14,m15,m16,m17,m18,m19,m20,m21,m22⟩:Mat).rules (Bv (⟨⟨m0,m1,m2,m3,m4,m5,m6,m7,m8,m9,m10,m11,m12,m13⟩,m14,m15,m16,m17,m18,m19,m20,m21,m22⟩:Mat).rules 1 (Gt (⟨⟨m0,m1,m2,m3,m4,m5,m6,m7,m8,m9,m10,m11,m12,m13⟩,m14,m15,m16,m17,m18,m19,m20,m21,m22⟩:Mat) 1) m18).1 (⟨e0,e1,e2,e3,e4,e5,e6,⟨e7,e8,e9,e10,e11,e12,e13,e14,e15,e16,e17,e18⟩⟩:Ev)).2==0<;>rfl
   ·simp only [PXb,PXc,CX,TO,Nat.reduceAdd,Int.reduceBEq,PXi,PXr,Inn.eta,AY,List.length_append,List.length_cons,List.length_nil,h304,Xt,Et,Ed,EG,C5,Ro,XA hN hl2,Ur hN hs,Pm (fb _ _ _) (wb _ _ _) hN hs h13,ho,wr1,wr2,Vb,Vg]
    cases (Bv (⟨⟨m0,m1,m2,m3,m4,m5,m6,m7,m8,m9,m10,m11,m12,m13⟩,m14,m15,m16,m17,m18,m19,m20,m21,m22⟩:Mat).rules 2 (Gt (⟨⟨m0,m1,m2,m3,m4,m5,m6,m7,m8,m9,m10,m11,m12,m13⟩,m14,m15,m16,m17,m18,m19,m20,m21,m22⟩:Mat) 2) m19).2==0<;>try rfl
    cases (CL (⟨⟨m0,m1,m2,m3,m4,m5,m6,m7,m8,m9,m10,m11,m12,m13⟩,m14,m15,m16,m17,m18,m19,m20,m21,m22⟩:Mat).rules (Bv (⟨⟨m0,m1,m2,m3,m4,m5,m6,m7,m8,m9,m10,m11,m12,m13⟩,m14,m15,m16,m17,m18,m19,m20,m21,m22⟩:Mat).rules 2 (Gt (⟨⟨m0,m1,m2,m3,m4,m5,m6,m7,m8,m9,m10,m11,m12,m13⟩,m14,m15,m16,m17,m18,m19,m20,m21,m22⟩:Mat) 2) m19).1 (⟨e0,e1,e2,e3,e4,e5,e6,⟨e7,e8,e9,e10,e11,e12,e13,e14,e15,e16,e17,e18⟩⟩:Ev)).2==0<;>rfl
  cases hk3:e0==12
  case true =>
   simp only [PXb]
   cases m14==4<;>cases e1==m15<;>rfl
  cases hk4:e0==16
  case true =>
   simp only [PXb,lw]
   cases h3:m14==3
   case false=>simp only [PXb,PXc,PXi,PXr,CX,Nat.reduceAdd,DR,KB];rfl
   simp only [PXb,PXc,PXi,PXr,CX,Nat.reduceAdd,Mt (ok.begun h3) hl,DR,KB]
   rfl
  simp only [PXb]
  cases h3:m14==3
  case false=>rfl
  have h0:=ok.begun h3
  have lv:=Sh (ok.innv (lnx m17) (gV h0 hl)).1
  have fl:(inn m17 (IntKind.i64.wrap ((m17.length:Int) - 1)).toNat).Fit:=lv.2.2
  have wl:(inn m17 (IntKind.i64.wrap ((m17.length:Int) - 1)).toNat).before.length+(inn m17 (IntKind.i64.wrap ((m17.length:Int) - 1)).toNat).bowlers.length≤1000000:=by
   have h1:=lv.1
   have h2:=lv.2.1
   change (inn m17 (IntKind.i64.wrap ((m17.length:Int) - 1)).toNat).bowlers.length≤11 at h1
   change (inn m17 (IntKind.i64.wrap ((m17.length:Int) - 1)).toNat).before.length≤11 at h2
   omega
  have f1:=Lg (VD (⟨⟨m0,m1,m2,m3,m4,m5,m6,m7,m8,m9,m10,m11,m12,m13⟩,m14,m15,m16,m17,m18,m19,m20,m21,m22⟩:Mat).rules (inn m17 (IntKind.i64.wrap ((m17.length:Int) - 1)).toNat) (⟨e0,e1,e2,e3,e4,e5,e6,⟨e7,e8,e9,e10,e11,e12,e13,e14,e15,e16,e17,e18⟩⟩:Ev)) fl (by omega)
  simp only [PXb,PXc,PXi,PXr,AY,Inn.eta,CX,Nat.reduceAdd,List.length_set,Mt h0 hl,C5,Pm fl wl hN hs h13,cP,BC,lnx]
  generalize hX:CL (⟨⟨m0,m1,m2,m3,m4,m5,m6,m7,m8,m9,m10,m11,m12,m13⟩,m14,m15,m16,m17,m18,m19,m20,m21,m22⟩:Mat).rules (inn m17 (IntKind.i64.wrap ((m17.length:Int) - 1)).toNat) (⟨e0,e1,e2,e3,e4,e5,e6,⟨e7,e8,e9,e10,e11,e12,e13,e14,e15,e16,e17,e18⟩⟩:Ev)=X at f1
  have fy:=S5 (IntKind.i64.wrap ((m17.length:Int) - 1)).toNat hf f1
  generalize hy:m17.set (IntKind.i64.wrap ((m17.length:Int) - 1)).toNat X.1=ys at fy
  have ly:ys.length=m17.length:=by rw [← hy,List.length_set]
  cases X.2==0<;>try rfl
  cases h13k:e0==13
  case false=>rfl
  cases hsd:e1==X.1.side
  case true=>rfl
  simp only [PXb,Option.bind_assoc]
  have e0w:IntKind.i64.wrap ((m17.length:Int) - 1)=(m17.length:Int) - 1 - ((0:Nat):Int):=by
   rw [beq_eq_false_iff_ne] at h0
   rw [Dn (by omega) (by omega)];omega
  rw [e0w]
  have hside:=kU (e:=(⟨e0,e1,e2,e3,e4,e5,e6,⟨e7,e8,e9,e10,e11,e12,e13,e14,e15,e16,e17,e18⟩⟩:Ev)) he h13k
  simp only at hside
  refine AJ (Xn (len:=m17.length) (fun j=>[.int ((m17.length:Int) - 1 - (j:Int))]) (fun j=>cond ((inn ys (m17.length - 1 - j)).side==e1) (some [PV.str m0,PV.int m1,PV.int m2,PV.int m3,PV.int m4,PV.int m5,PV.int m6,PV.int m7,PV.bool m8,PV.int m9,PV.int m10,PV.int m11,PV.int m12,PV.rows m13,PV.int m14,PV.int m15,PV.bool m16,PV.rows (AL (ys.set (m17.length - 1 - j) (OQ (inn ys (m17.length - 1 - j))))),PV.int m18,PV.int m19,PV.int m20,PV.int m21,PV.int m22]) none) ?_ ?_ m17.length 0 N (by omega) (by omega)) ?_
  ·intro self
   have q1:iLe 0 ((m17.length:Int) - 1 - (m17.length:Int))=false:=by simp only [iLe,decide_eq_false_iff_not];omega
   simp only [PXb,q1]
  ·intro i self hi
   have q1:iLe 0 ((m17.length:Int) - 1 - (i:Int))=true:=by simp only [iLe,decide_eq_true_eq];omega
   have q2:iIn ((m17.length:Int) - 1 - (i:Int)) (m17.length:Int)=true:=by simp only [iIn,decide_eq_true_eq];omega
   have q3:((m17.length:Int) - 1 - (i:Int)).toNat=m17.length - 1 - i:=by omega
   have q4:IntKind.i64.wrap ((m17.length:Int) - 1 - (i:Int) - 1)=(m17.length:Int) - 1 - ((i+1:Nat):Int):=by rw [Dn (by omega) (by omega)];omega
   have q5:=fy (m17.length - 1 - i) (by omega)
   simp only [PXb,PXc,q1,q2,q3,q4,HJ,Ry q5,PXm]
   cases (inn ys (m17.length - 1 - i)).side==e1<;>rfl
  ·have hfa:=jo ys e1 (fun k=>[PV.str m0,PV.int m1,PV.int m2,PV.int m3,PV.int m4,PV.int m5,PV.int m6,PV.int m7,PV.bool m8,PV.int m9,PV.int m10,PV.int m11,PV.int m12,PV.rows m13,PV.int m14,PV.int m15,PV.bool m16,PV.rows (AL (ys.set k (OQ (inn ys k)))),PV.int m18,PV.int m19,PV.int m20,PV.int m21,PV.int m22]) m17.length m17.length (Nat.le_refl _)
   rw [Nat.sub_self] at hfa
   rw [hfa]
   unfold K5
   simp only [ly]
   cases Sq ys e1 m17.length with
   | some k=>rfl
   | none =>
    rcases hside with h | h<;>subst h
    ·simp only [Option.map_none,Su,PXb,PXc,CX,Int.reduceBEq,wr1,Vb]
     rfl
    ·simp only [Option.map_none,Su,PXb,PXc,CX,Int.reduceBEq,wr2,Vg]
     rfl
 ·have ak:=sy ok (⟨e0,e1,e2,e3,e4,e5,e6,⟨e7,e8,e9,e10,e11,e12,e13,e14,e15,e16,e17,e18⟩⟩:Ev)
  generalize JY (⟨⟨m0,m1,m2,m3,m4,m5,m6,m7,m8,m9,m10,m11,m12,m13⟩,m14,m15,m16,m17,m18,m19,m20,m21,m22⟩:Mat) (⟨e0,e1,e2,e3,e4,e5,e6,⟨e7,e8,e9,e10,e11,e12,e13,e14,e15,e16,e17,e18⟩⟩:Ev)=A at ak
  obtain ⟨⟨⟨a0,a1,a2,a3,a4,a5,a6,a7,a8,a9,a10,a11,a12,a13⟩,a14,a15,a16,a17,a18,a19,a20,a21,a22⟩,l⟩:=A
  obtain ⟨k1,k2,k3,k4⟩:=ak
  simp only at k1 k2 k3 k4
  have hl5:a17.length≤1048576:=by omega
  have hs5:a0.size≤1048576:=by
   have:=congrArg Rul.name k1
   simp only at this
   rw [this];exact hs
  simp only [PXb,PXc,PXk,PXi,CX,Nat.reduceAdd]
  cases hl0:l==0
  case false=>rfl
  simp only [PXb,Td]
  cases h3:a14==3
  case false=>rfl
  have h0:=k4 hl0 h3
  have li:=Mt h0 (show a17.length≤1000000 by omega)
  simp only [PXb,PXc,PXi,li]
  cases he2:(inn a17 (IntKind.i64.wrap ((a17.length:Int) - 1)).toNat).ending==0
  case true=>simp only [PXb,BC,lnx,he2]
  simp only [PXb,PXc,PXi,BC,lnx,he2,KF,E4,Id,Rs hN hl5,IU,iY k2 hN (show a17.length≤1000000 by omega) hs5]
  unfold PW
  simp only [BC,lnx]
  simp only [BH,BC,lnx]
  cases hq1:((a17.length:Int)==IntKind.i64.wrap (2 * a2))
  case true=>rfl
  cases hq2:((a17.length:Int)==3)
  case true =>
   simp only [PXb]
   cases iLt (GO a17 (inn a17 (IntKind.i64.wrap ((a17.length:Int) - 1)).toNat).side a17.length) (GO a17 (Bm (inn a17 (IntKind.i64.wrap ((a17.length:Int) - 1)).toNat).side) a17.length)
   case true=>rfl
   simp only [PXb]
   cases ((a17.length:Int)==2)&&iLt 0 a10&&iLe a10 (IntKind.i64.wrap (GO a17 a15 a17.length - GO a17 (Bm a15) a17.length))<;>rfl
  simp only [PXb]
  cases ((a17.length:Int)==2)&&iLt 0 a10&&iLe a10 (IntKind.i64.wrap (GO a17 a15 a17.length - GO a17 (Bm a15) a17.length))<;>rfl
end Go.Px
end
section
namespace Go.Px
set_option maxRecDepth 100000
def TJ (m:Mat):Int:=cond (!Bi m) 0 (cond (m.stage==3) (BC m).side (cond (m.stage==2) (Dx m (m.inns.length:Int)) 0))
theorem kr {N:Nat} {m1 m2 m3 m4 m5 m6 m7 m9 m10 m11 m12 m14 m15 m18 m19 m20 m21 m22:Int} {m8 m16:Bool} {m0:ByteArray} {m13:Rows} {m17:List Inn} (hf:Cr m17) (hN:2097152<N) (hl:m17.length≤1000000) (hs:m0.size≤1048576):IR N [.str m0,.int m1,.int m2,.int m3,.int m4,.int m5,.int m6,.int m7,.bool m8,.int m9,.int m10,.int m11,.int m12,.rows m13,.int m14,.int m15,.bool m16,.rows (AL m17),.int m18,.int m19,.int m20,.int m21,.int m22]=some [.int (TJ (⟨⟨m0,m1,m2,m3,m4,m5,m6,m7,m8,m9,m10,m11,m12,m13⟩,m14,m15,m16,m17,m18,m19,m20,m21,m22⟩:Mat))]:=by
 show IK (std (Ch N) N) (xOf _)=_
 generalize hres:(some [.int (TJ (⟨⟨m0,m1,m2,m3,m4,m5,m6,m7,m8,m9,m10,m11,m12,m13⟩,m14,m15,m16,m17,m18,m19,m20,m21,m22⟩:Mat))]:Option (List PV))=RR
 simp only [IK,UD,Lb,Jd,std,xOf,PXb,VY hf hN hl hs]
 subst hres;simp only [TJ]
 cases hv:Bi (⟨⟨m0,m1,m2,m3,m4,m5,m6,m7,m8,m9,m10,m11,m12,m13⟩,m14,m15,m16,m17,m18,m19,m20,m21,m22⟩:Mat)
 case false=>rfl
 have ok:=gR hv
 simp only [PXb]
 cases h3:m14==3
 case true=>simp only [PXb,PXi,Lb,So (ok.begun h3) hl,BC,PXm]
 cases h2:m14==2
 case false=>rfl
 have hr:=ok.room h2
 have rk:=(KO ok.code).innings
 simp only at hr rk
 have hi3:0≤(m17.length:Int)∧(m17.length:Int)≤3:=by omega
 simp only [PXb,PXi,Jd,bn hi3]
theorem tQ {m:Mat} (ok:MatOk m) (h2:(m.stage==2)=true) (sd:Int):Gt m sd=cond (IntKind.i64.wrap ((m.inns.length:Int)+1)==IntKind.i64.wrap (2 * m.rules.innings)) (IntKind.i64.wrap (IntKind.i64.wrap (BH m (Bm sd) - BH m sd)+1)) 0:=by
 have hr:=ok.room h2
 have hm:=ok.most.1
 have hl:=ok.len
 unfold Gt
 rw [hm,Dn (by omega) (by omega)]
 cases hq:((m.inns.length:Int)+1==2 * m.rules.innings) with
 | true =>
  rw [beq_iff_eq] at hq
  rw [show iLt ((m.inns.length:Int)+1) (2 * m.rules.innings)=false by simp only [iLt,decide_eq_false_iff_not];omega]
  rfl
 | false =>
  rw [beq_eq_false_iff_ne] at hq
  rw [show iLt ((m.inns.length:Int)+1) (2 * m.rules.innings)=true by simp only [iLt,decide_eq_true_eq];omega]
  rfl
set_option maxHeartbeats 4000000 in
theorem qT {N:Nat} {m1 m2 m3 m4 m5 m6 m7 m9 m10 m11 m12 m14 m15 m18 m19 m20 m21 m22:Int} {m8 m16:Bool} {m0:ByteArray} {m13:Rows} {m17:List Inn} {e0 e1 e2 e3 e5 e6 e7 e8 e9 e10 e11 e13 e14 e15 e16 e18:Int} {e4 e12 e17:Bool} (hN:2097152<N) (hf:Cr m17) (hl:m17.length≤1000000) (hs:m0.size≤1048576) (h13:m13.length≤1048576) (ok:MatOk (⟨⟨m0,m1,m2,m3,m4,m5,m6,m7,m8,m9,m10,m11,m12,m13⟩,m14,m15,m16,m17,m18,m19,m20,m21,m22⟩:Mat)) (hv:Bi (⟨⟨m0,m1,m2,m3,m4,m5,m6,m7,m8,m9,m10,m11,m12,m13⟩,m14,m15,m16,m17,m18,m19,m20,m21,m22⟩:Mat)=true) (hs2:(m14==2)=true):Nx N [.str m0,.int m1,.int m2,.int m3,.int m4,.int m5,.int m6,.int m7,.bool m8,.int m9,.int m10,.int m11,.int m12,.rows m13,.int m14,.int m15,.bool m16,.rows (AL m17),.int m18,.int m19,.int m20,.int m21,.int m22,.int e0,.int e1,.int e2,.int e3,.bool e4,.int e5,.int e6,.int e7,.int e8,.int e9,.int e10,.int e11,.bool e12,.int e13,.int e14,.int e15,.int e16,.bool e17,.int e18]=some (Li (Xt (⟨⟨m0,m1,m2,m3,m4,m5,m6,m7,m8,m9,m10,m11,m12,m13⟩,m14,m15,m16,m17,m18,m19,m20,m21,m22⟩:Mat) (⟨e0,e1,e2,e3,e4,e5,e6,⟨e7,e8,e9,e10,e11,e12,e13,e14,e15,e16,e17,e18⟩⟩:Ev))):=by
 show Np (std (Ck N) N) (xOf _)=_
 have hl2:m17.length≤1048576:=by omega
 have h304:iSm ((m17.length+1:Nat):Int) 304=true:=DV (by omega) (by omega)
 have fb:=fun a b c=>(H3 (⟨⟨m0,m1,m2,m3,m4,m5,m6,m7,m8,m9,m10,m11,m12,m13⟩,m14,m15,m16,m17,m18,m19,m20,m21,m22⟩:Mat).rules a b c).1
 have wb:∀ a b c,(Bv (⟨⟨m0,m1,m2,m3,m4,m5,m6,m7,m8,m9,m10,m11,m12,m13⟩,m14,m15,m16,m17,m18,m19,m20,m21,m22⟩:Mat).rules a b c).1.before.length+(Bv (⟨⟨m0,m1,m2,m3,m4,m5,m6,m7,m8,m9,m10,m11,m12,m13⟩,m14,m15,m16,m17,m18,m19,m20,m21,m22⟩:Mat).rules a b c).1.bowlers.length≤1000000:=fun a b c=>by
  rw [(H3 (⟨⟨m0,m1,m2,m3,m4,m5,m6,m7,m8,m9,m10,m11,m12,m13⟩,m14,m15,m16,m17,m18,m19,m20,m21,m22⟩:Mat).rules a b c).2.1,(H3 (⟨⟨m0,m1,m2,m3,m4,m5,m6,m7,m8,m9,m10,m11,m12,m13⟩,m14,m15,m16,m17,m18,m19,m20,m21,m22⟩:Mat).rules a b c).2.2]
  exact Nat.zero_le _
 have hb:TJ (⟨⟨m0,m1,m2,m3,m4,m5,m6,m7,m8,m9,m10,m11,m12,m13⟩,m14,m15,m16,m17,m18,m19,m20,m21,m22⟩:Mat)=Dx (⟨⟨m0,m1,m2,m3,m4,m5,m6,m7,m8,m9,m10,m11,m12,m13⟩,m14,m15,m16,m17,m18,m19,m20,m21,m22⟩:Mat) (m17.length:Int):=by
  unfold TJ
  rw [hv]
  have h3:(m14==3)=false:=by
   rw [beq_iff_eq] at hs2
   rw [hs2];rfl
  simp only [PXb,h3,hs2]
 have ht:=fun sd=>tQ ok hs2 sd
 simp only at ht
 simp only [Np,Hs,Ht,WM,Hp,I1,std,xOf,PXb,kr hf hN hl hs,hb]
 rcases mP (m:=(⟨⟨m0,m1,m2,m3,m4,m5,m6,m7,m8,m9,m10,m11,m12,m13⟩,m14,m15,m16,m17,m18,m19,m20,m21,m22⟩:Mat)) (ok.toss hs2) (m17.length:Int) with ho | ho
 ·simp only [PXb,PXc,ho,wr1,wr2,Vb,Vg,CX,TO,Nat.reduceAdd,Int.reduceBEq,Xt,ht,PXi,Hs,Ht,GM,K9 hN hl2]
  generalize hT:cond (IntKind.i64.wrap ((m17.length:Int)+1)==IntKind.i64.wrap (2 * m2)) (IntKind.i64.wrap (IntKind.i64.wrap (BH (⟨⟨m0,m1,m2,m3,m4,m5,m6,m7,m8,m9,m10,m11,m12,m13⟩,m14,m15,m16,m17,m18,m19,m20,m21,m22⟩:Mat) (Bm 1) - BH (⟨⟨m0,m1,m2,m3,m4,m5,m6,m7,m8,m9,m10,m11,m12,m13⟩,m14,m15,m16,m17,m18,m19,m20,m21,m22⟩:Mat) 1)+1)) 0=T
  refine bind_ok (r:=[.int T]) (by subst hT;cases IntKind.i64.wrap ((m17.length:Int)+1)==IntKind.i64.wrap (2 * m2)<;>rfl) ?_
  simp only [PXb,PXc,PXi,PXr,Inn.eta,AY,List.length_append,List.length_cons,List.length_nil,h304,CX,TO,Nat.reduceAdd,Int.reduceBEq,Hp,I1,dS hN hs,YJ (fb _ _ _) (wb _ _ _) hN hs h13]
  cases (Bv (⟨⟨m0,m1,m2,m3,m4,m5,m6,m7,m8,m9,m10,m11,m12,m13⟩,m14,m15,m16,m17,m18,m19,m20,m21,m22⟩:Mat).rules 1 T m18).2==0<;>try rfl
  cases (CL (⟨⟨m0,m1,m2,m3,m4,m5,m6,m7,m8,m9,m10,m11,m12,m13⟩,m14,m15,m16,m17,m18,m19,m20,m21,m22⟩:Mat).rules (Bv (⟨⟨m0,m1,m2,m3,m4,m5,m6,m7,m8,m9,m10,m11,m12,m13⟩,m14,m15,m16,m17,m18,m19,m20,m21,m22⟩:Mat).rules 1 T m18).1 (⟨e0,e1,e2,e3,e4,e5,e6,⟨e7,e8,e9,e10,e11,e12,e13,e14,e15,e16,e17,e18⟩⟩:Ev)).2==0<;>rfl
 ·simp only [PXb,PXc,ho,wr1,wr2,Vb,Vg,CX,TO,Nat.reduceAdd,Int.reduceBEq,Xt,ht,PXi,Hs,Ht,GM,K9 hN hl2]
  generalize hT:cond (IntKind.i64.wrap ((m17.length:Int)+1)==IntKind.i64.wrap (2 * m2)) (IntKind.i64.wrap (IntKind.i64.wrap (BH (⟨⟨m0,m1,m2,m3,m4,m5,m6,m7,m8,m9,m10,m11,m12,m13⟩,m14,m15,m16,m17,m18,m19,m20,m21,m22⟩:Mat) (Bm 2) - BH (⟨⟨m0,m1,m2,m3,m4,m5,m6,m7,m8,m9,m10,m11,m12,m13⟩,m14,m15,m16,m17,m18,m19,m20,m21,m22⟩:Mat) 2)+1)) 0=T
  refine bind_ok (r:=[.int T]) (by subst hT;cases IntKind.i64.wrap ((m17.length:Int)+1)==IntKind.i64.wrap (2 * m2)<;>rfl) ?_
  simp only [PXb,PXc,PXi,PXr,Inn.eta,AY,List.length_append,List.length_cons,List.length_nil,h304,CX,TO,Nat.reduceAdd,Int.reduceBEq,Hp,I1,dS hN hs,YJ (fb _ _ _) (wb _ _ _) hN hs h13]
  cases (Bv (⟨⟨m0,m1,m2,m3,m4,m5,m6,m7,m8,m9,m10,m11,m12,m13⟩,m14,m15,m16,m17,m18,m19,m20,m21,m22⟩:Mat).rules 2 T m19).2==0<;>try rfl
  cases (CL (⟨⟨m0,m1,m2,m3,m4,m5,m6,m7,m8,m9,m10,m11,m12,m13⟩,m14,m15,m16,m17,m18,m19,m20,m21,m22⟩:Mat).rules (Bv (⟨⟨m0,m1,m2,m3,m4,m5,m6,m7,m8,m9,m10,m11,m12,m13⟩,m14,m15,m16,m17,m18,m19,m20,m21,m22⟩:Mat).rules 2 T m19).1 (⟨e0,e1,e2,e3,e4,e5,e6,⟨e7,e8,e9,e10,e11,e12,e13,e14,e15,e16,e17,e18⟩⟩:Ev)).2==0<;>rfl
end Go.Px
end
section
namespace Go.Px
set_option maxRecDepth 100000
set_option maxHeartbeats 8000000 in
theorem qi {N:Nat} {m1 m2 m3 m4 m5 m6 m7 m9 m10 m11 m12 m14 m15 m18 m19 m20 m21 m22:Int} {m8 m16:Bool} {m0:ByteArray} {m13:Rows} {m17:List Inn} {e0 e1 e2 e3 e5 e6 e7 e8 e9 e10 e11 e13 e14 e15 e16 e18:Int} {e4 e12 e17:Bool} (hN:2097152<N) (hf:Cr m17) (hl:m17.length≤1000000) (hs:m0.size≤1048576) (h13:m13.length≤1048576) (ok:MatOk (⟨⟨m0,m1,m2,m3,m4,m5,m6,m7,m8,m9,m10,m11,m12,m13⟩,m14,m15,m16,m17,m18,m19,m20,m21,m22⟩:Mat)) (he:(evS (⟨e0,e1,e2,e3,e4,e5,e6,⟨e7,e8,e9,e10,e11,e12,e13,e14,e15,e16,e17,e18⟩⟩:Ev)==0)=true) (h3:(m14==3)=true):OM N [.str m0,.int m1,.int m2,.int m3,.int m4,.int m5,.int m6,.int m7,.bool m8,.int m9,.int m10,.int m11,.int m12,.rows m13,.int m14,.int m15,.bool m16,.rows (AL m17),.int m18,.int m19,.int m20,.int m21,.int m22,.int e0,.int e1,.int e2,.int e3,.bool e4,.int e5,.int e6,.int e7,.int e8,.int e9,.int e10,.int e11,.bool e12,.int e13,.int e14,.int e15,.int e16,.bool e17,.int e18]=some (Li (cP (⟨⟨m0,m1,m2,m3,m4,m5,m6,m7,m8,m9,m10,m11,m12,m13⟩,m14,m15,m16,m17,m18,m19,m20,m21,m22⟩:Mat) (⟨e0,e1,e2,e3,e4,e5,e6,⟨e7,e8,e9,e10,e11,e12,e13,e14,e15,e16,e17,e18⟩⟩:Ev))):=by
 show OS (std (E9 N) N) (xOf _)=_
 simp only [OS,PH,LQ,std,xOf,PXb]
 have h0:=ok.begun h3
 have lv:=Sh (ok.innv (lnx m17) (gV h0 hl)).1
 have fl:(inn m17 (IntKind.i64.wrap ((m17.length:Int) - 1)).toNat).Fit:=lv.2.2
 have wl:(inn m17 (IntKind.i64.wrap ((m17.length:Int) - 1)).toNat).before.length+(inn m17 (IntKind.i64.wrap ((m17.length:Int) - 1)).toNat).bowlers.length≤1000000:=by
  have h1:=lv.1
  have h2:=lv.2.1
  change (inn m17 (IntKind.i64.wrap ((m17.length:Int) - 1)).toNat).bowlers.length≤11 at h1
  change (inn m17 (IntKind.i64.wrap ((m17.length:Int) - 1)).toNat).before.length≤11 at h2
  omega
 have f1:=Lg (VD (⟨⟨m0,m1,m2,m3,m4,m5,m6,m7,m8,m9,m10,m11,m12,m13⟩,m14,m15,m16,m17,m18,m19,m20,m21,m22⟩:Mat).rules (inn m17 (IntKind.i64.wrap ((m17.length:Int) - 1)).toNat) (⟨e0,e1,e2,e3,e4,e5,e6,⟨e7,e8,e9,e10,e11,e12,e13,e14,e15,e16,e17,e18⟩⟩:Ev)) fl (by omega)
 simp only [PXb,PXc,PXi,PXr,AY,Inn.eta,CX,Nat.reduceAdd,List.length_set,Mt h0 hl,PH,YJ fl wl hN hs h13,cP,BC,lnx]
 generalize hX:CL (⟨⟨m0,m1,m2,m3,m4,m5,m6,m7,m8,m9,m10,m11,m12,m13⟩,m14,m15,m16,m17,m18,m19,m20,m21,m22⟩:Mat).rules (inn m17 (IntKind.i64.wrap ((m17.length:Int) - 1)).toNat) (⟨e0,e1,e2,e3,e4,e5,e6,⟨e7,e8,e9,e10,e11,e12,e13,e14,e15,e16,e17,e18⟩⟩:Ev)=X at f1
 have fy:=S5 (IntKind.i64.wrap ((m17.length:Int) - 1)).toNat hf f1
 generalize hy:m17.set (IntKind.i64.wrap ((m17.length:Int) - 1)).toNat X.1=ys at fy
 have ly:ys.length=m17.length:=by rw [← hy,List.length_set]
 cases X.2==0<;>try rfl
 cases h13k:e0==13
 case false=>rfl
 cases hsd:e1==X.1.side
 case true=>rfl
 simp only [PXb,Option.bind_assoc]
 have e0w:IntKind.i64.wrap ((m17.length:Int) - 1)=(m17.length:Int) - 1 - ((0:Nat):Int):=by
  rw [beq_eq_false_iff_ne] at h0
  rw [Dn (by omega) (by omega)];omega
 rw [e0w]
 have hside:=kU (e:=(⟨e0,e1,e2,e3,e4,e5,e6,⟨e7,e8,e9,e10,e11,e12,e13,e14,e15,e16,e17,e18⟩⟩:Ev)) he h13k
 simp only at hside
 refine AJ (Xn (len:=m17.length) (fun j=>[.int ((m17.length:Int) - 1 - (j:Int))]) (fun j=>cond ((inn ys (m17.length - 1 - j)).side==e1) (some [PV.int 0,PV.str m0,PV.int m1,PV.int m2,PV.int m3,PV.int m4,PV.int m5,PV.int m6,PV.int m7,PV.bool m8,PV.int m9,PV.int m10,PV.int m11,PV.int m12,PV.rows m13,PV.int m14,PV.int m15,PV.bool m16,PV.rows (AL (ys.set (m17.length - 1 - j) (OQ (inn ys (m17.length - 1 - j))))),PV.int m18,PV.int m19,PV.int m20,PV.int m21,PV.int m22]) none) ?_ ?_ m17.length 0 N (by omega) (by omega)) ?_
 ·intro self
  have q1:iLe 0 ((m17.length:Int) - 1 - (m17.length:Int))=false:=by simp only [iLe,decide_eq_false_iff_not];omega
  simp only [PXb,q1]
 ·intro i self hi
  have q1:iLe 0 ((m17.length:Int) - 1 - (i:Int))=true:=by simp only [iLe,decide_eq_true_eq];omega
  have q2:iIn ((m17.length:Int) - 1 - (i:Int)) (m17.length:Int)=true:=by simp only [iIn,decide_eq_true_eq];omega
  have q3:((m17.length:Int) - 1 - (i:Int)).toNat=m17.length - 1 - i:=by omega
  have q4:IntKind.i64.wrap ((m17.length:Int) - 1 - (i:Int) - 1)=(m17.length:Int) - 1 - ((i+1:Nat):Int):=by rw [Dn (by omega) (by omega)];omega
  have q5:=fy (m17.length - 1 - i) (by omega)
  simp only [PXb,PXc,q1,q2,q3,q4,LQ,Yy q5,PXm]
  cases (inn ys (m17.length - 1 - i)).side==e1<;>rfl
 ·have hfa:=jo ys e1 (fun k=>[PV.int 0,PV.str m0,PV.int m1,PV.int m2,PV.int m3,PV.int m4,PV.int m5,PV.int m6,PV.int m7,PV.bool m8,PV.int m9,PV.int m10,PV.int m11,PV.int m12,PV.rows m13,PV.int m14,PV.int m15,PV.bool m16,PV.rows (AL (ys.set k (OQ (inn ys k)))),PV.int m18,PV.int m19,PV.int m20,PV.int m21,PV.int m22]) m17.length m17.length (Nat.le_refl _)
  rw [Nat.sub_self] at hfa
  rw [hfa]
  unfold K5
  simp only [ly]
  cases Sq ys e1 m17.length with
  | some k=>rfl
  | none =>
   rcases hside with h | h<;>subst h
   ·simp only [Option.map_none,Su,PXb,PXc,CX,Int.reduceBEq,wr1,Vb]
    rfl
   ·simp only [Option.map_none,Su,PXb,PXc,CX,Int.reduceBEq,wr2,Vg]
    rfl
set_option maxHeartbeats 4000000 in
theorem tY {N:Nat} {m1 m2 m3 m4 m5 m6 m7 m9 m10 m11 m12 m14 m15 m18 m19 m20 m21 m22:Int} {m8 m16:Bool} {m0:ByteArray} {m13:Rows} {m17:List Inn} {e0 e1 e2 e3 e5 e6 e7 e8 e9 e10 e11 e13 e14 e15 e16 e18:Int} {e4 e12 e17:Bool} (hN:2097152<N) (hf:Cr m17) (hl:m17.length≤1000000) (hs:m0.size≤1048576) (h13:m13.length≤1048576) (ok:MatOk (⟨⟨m0,m1,m2,m3,m4,m5,m6,m7,m8,m9,m10,m11,m12,m13⟩,m14,m15,m16,m17,m18,m19,m20,m21,m22⟩:Mat)) (hv:Bi (⟨⟨m0,m1,m2,m3,m4,m5,m6,m7,m8,m9,m10,m11,m12,m13⟩,m14,m15,m16,m17,m18,m19,m20,m21,m22⟩:Mat)=true) (he:(evS (⟨e0,e1,e2,e3,e4,e5,e6,⟨e7,e8,e9,e10,e11,e12,e13,e14,e15,e16,e17,e18⟩⟩:Ev)==0)=true):Qi N [.str m0,.int m1,.int m2,.int m3,.int m4,.int m5,.int m6,.int m7,.bool m8,.int m9,.int m10,.int m11,.int m12,.rows m13,.int m14,.int m15,.bool m16,.rows (AL m17),.int m18,.int m19,.int m20,.int m21,.int m22,.int e0,.int e1,.int e2,.int e3,.bool e4,.int e5,.int e6,.int e7,.int e8,.int e9,.int e10,.int e11,.bool e12,.int e13,.int e14,.int e15,.int e16,.bool e17,.int e18]=some (Li (JY (⟨⟨m0,m1,m2,m3,m4,m5,m6,m7,m8,m9,m10,m11,m12,m13⟩,m14,m15,m16,m17,m18,m19,m20,m21,m22⟩:Mat) (⟨e0,e1,e2,e3,e4,e5,e6,⟨e7,e8,e9,e10,e11,e12,e13,e14,e15,e16,e17,e18⟩⟩:Ev))):=by
 show Q3 (std (Ee N) N) (xOf _)=_
 simp only [Q3,PL,Q1,RH,std,xOf,PXb]
 unfold JY
 cases hk1:e0==1
 case true =>
  simp only [PXb,PL,GM]
  cases m14==1<;>cases e4<;>rfl
 cases hk2:e0==2
 case true =>
  simp only [PXb]
  cases hs2:m14==2
  case false=>rfl
  simp only [PXb,Q1,qT hN hf hl hs h13 ok hv hs2]
  rfl
 cases hk3:e0==12
 case true =>
  simp only [PXb]
  cases m14==4<;>cases e1==m15<;>rfl
 cases hk4:e0==16
 case true =>
  simp only [PXb,lw,XK]
  cases h3:m14==3
  case false =>
   simp only [PXb,PXc,PXi,PXr,CX,Nat.reduceAdd]
   cases m3==0<;>rfl
  simp only [PXb,PXc,PXi,PXr,CX,Nat.reduceAdd,Mt (ok.begun h3) hl]
  cases m3==0<;>rfl
 simp only [PXb]
 cases h3:m14==3
 case false=>rfl
 simp only [PXb,RH,qi hN hf hl hs h13 ok he h3]
 rfl
theorem oW {N:Nat} {m1 m2 m3 m4 m5 m6 m7 m9 m10 m11 m12 m14 m15 m18 m19 m20 m21 m22:Int} {m8 m16:Bool} {m0:ByteArray} {m13:Rows} {m17:List Inn} (hf:Cr m17) (hN:2097152<N) (hl:m17.length≤1000000) (hs:m0.size≤1048576) (h0:((m17.length:Int)==0)=false):Ji N [.str m0,.int m1,.int m2,.int m3,.int m4,.int m5,.int m6,.int m7,.bool m8,.int m9,.int m10,.int m11,.int m12,.rows m13,.int m14,.int m15,.bool m16,.rows (AL m17),.int m18,.int m19,.int m20,.int m21,.int m22]=some (PW (⟨⟨m0,m1,m2,m3,m4,m5,m6,m7,m8,m9,m10,m11,m12,m13⟩,m14,m15,m16,m17,m18,m19,m20,m21,m22⟩:Mat)).ls:=by
 show Jx (std (CV N) N) (xOf _)=_
 have hl5:m17.length≤1048576:=by omega
 simp only [Jx,Wt,VW,WN,Tg,std,xOf,PXb,So h0 hl,GM,K9 hN hl5,lH hf hN hl hs,PXi]
 unfold PW
 simp only [BH,BC,lnx,PXm]
 cases hq1:((m17.length:Int)==IntKind.i64.wrap (2 * m2))
 case true=>rfl
 cases hq2:((m17.length:Int)==3)
 case true =>
  simp only [PXb]
  cases iLt (GO m17 (inn m17 (IntKind.i64.wrap ((m17.length:Int) - 1)).toNat).side m17.length) (GO m17 (Bm (inn m17 (IntKind.i64.wrap ((m17.length:Int) - 1)).toNat).side) m17.length)
  case true=>rfl
  simp only [PXb]
  cases ((m17.length:Int)==2)<;>cases iLt 0 m10<;>try rfl
  simp only [PXb]
  cases iLe m10 (IntKind.i64.wrap (GO m17 m15 m17.length - GO m17 (Bm m15) m17.length))<;>rfl
 simp only [PXb]
 cases ((m17.length:Int)==2)<;>cases iLt 0 m10<;>try rfl
 simp only [PXb]
 cases iLe m10 (IntKind.i64.wrap (GO m17 m15 m17.length - GO m17 (Bm m15) m17.length))<;>rfl
set_option maxHeartbeats 4000000 in
theorem ri {N:Nat} {m1 m2 m3 m4 m5 m6 m7 m9 m10 m11 m12 m14 m15 m18 m19 m20 m21 m22:Int} {m8 m16:Bool} {m0:ByteArray} {m13:Rows} {m17:List Inn} {e0 e1 e2 e3 e5 e6 e7 e8 e9 e10 e11 e13 e14 e15 e16 e18:Int} {e4 e12 e17:Bool} (hN:2097152<N) (hf:Cr m17) (hl:m17.length≤1000000) (hs:m0.size≤1048576) (h13:m13.length≤1048576):Ns N [.str m0,.int m1,.int m2,.int m3,.int m4,.int m5,.int m6,.int m7,.bool m8,.int m9,.int m10,.int m11,.int m12,.rows m13,.int m14,.int m15,.bool m16,.rows (AL m17),.int m18,.int m19,.int m20,.int m21,.int m22,.int e0,.int e1,.int e2,.int e3,.bool e4,.int e5,.int e6,.int e7,.int e8,.int e9,.int e10,.int e11,.bool e12,.int e13,.int e14,.int e15,.int e16,.bool e17,.int e18]=some (Li (CG (⟨⟨m0,m1,m2,m3,m4,m5,m6,m7,m8,m9,m10,m11,m12,m13⟩,m14,m15,m16,m17,m18,m19,m20,m21,m22⟩:Mat) (⟨e0,e1,e2,e3,e4,e5,e6,⟨e7,e8,e9,e10,e11,e12,e13,e14,e15,e16,e17,e18⟩⟩:Ev))):=by
 show N3 (std (CR N) N) (xOf _)=_
 generalize hres:(some (Li (CG (⟨⟨m0,m1,m2,m3,m4,m5,m6,m7,m8,m9,m10,m11,m12,m13⟩,m14,m15,m16,m17,m18,m19,m20,m21,m22⟩:Mat) (⟨e0,e1,e2,e3,e4,e5,e6,⟨e7,e8,e9,e10,e11,e12,e13,e14,e15,e16,e17,e18⟩⟩:Ev))):Option (List PV))=RR
 simp only [N3,OE,YZ,X6,RC,PF,M5,std,xOf,PXb,VY hf hN hl hs,dh,dV hf hN hl h13]
 subst hres;simp only [CG]
 cases hv:Bi (⟨⟨m0,m1,m2,m3,m4,m5,m6,m7,m8,m9,m10,m11,m12,m13⟩,m14,m15,m16,m17,m18,m19,m20,m21,m22⟩:Mat)
 case false=>rfl
 cases he:evS (⟨e0,e1,e2,e3,e4,e5,e6,⟨e7,e8,e9,e10,e11,e12,e13,e14,e15,e16,e17,e18⟩⟩:Ev)==0
 case false=>simp only [PXb,he];rfl
 simp only [PXb,he]
 cases h5:m14==5
 case true=>rfl
 have ok:=gR hv
 simp only [PXb,PXc,CX,Nat.reduceAdd,OE,dV hf hN hl h13,RC,tY hN hf hl hs h13 ok hv he]
 have ak:=sy ok (⟨e0,e1,e2,e3,e4,e5,e6,⟨e7,e8,e9,e10,e11,e12,e13,e14,e15,e16,e17,e18⟩⟩:Ev)
 generalize JY (⟨⟨m0,m1,m2,m3,m4,m5,m6,m7,m8,m9,m10,m11,m12,m13⟩,m14,m15,m16,m17,m18,m19,m20,m21,m22⟩:Mat) (⟨e0,e1,e2,e3,e4,e5,e6,⟨e7,e8,e9,e10,e11,e12,e13,e14,e15,e16,e17,e18⟩⟩:Ev)=A at ak
 obtain ⟨⟨⟨a0,a1,a2,a3,a4,a5,a6,a7,a8,a9,a10,a11,a12,a13⟩,a14,a15,a16,a17,a18,a19,a20,a21,a22⟩,l⟩:=A
 obtain ⟨k1,k2,k3,k4⟩:=ak
 simp only at k1 k2 k3 k4
 have hl5:a17.length≤1000000:=by omega
 have hs5:a0.size≤1048576:=by
  have:=congrArg Rul.name k1
  simp only at this
  rw [this];exact hs
 simp only [PXb,PXc,PXk,PXi,CX,Nat.reduceAdd]
 cases hl0:l==0
 case false=>rfl
 simp only [PXb,Td]
 cases h3:a14==3
 case false=>rfl
 have h0:=k4 hl0 h3
 simp only [PXb,PXc,PXi,PF,So h0 hl5,BC,M5,oW k2 hN hl5 hs5 h0,PXm]
 cases (inn a17 (lnx a17)).ending==0<;>rfl
end Go.Px
end
section
namespace Go.Px
set_option maxRecDepth 100000
theorem od (m:Mat):(PW m).rules=m.rules∧(PW m).inns=m.inns:=by
 unfold PW
 dsimp only
 cases ((m.inns.length:Int)==IntKind.i64.wrap (2 * m.rules.innings)||((m.inns.length:Int)==3&&iLt (BH m (BC m).side) (BH m (Bm (BC m).side)))) with
 | true=>exact ⟨rfl,rfl⟩
 | false =>
  cases ((m.inns.length:Int)==2&&iLt 0 m.rules.followon&&iLe m.rules.followon (IntKind.i64.wrap (BH m m.first - BH m (Bm m.first))))<;>exact ⟨rfl,rfl⟩
theorem rA (m:Mat):(Td m).rules=m.rules∧(Td m).inns=m.inns:=by
 unfold Td
 cases (m.stage==3 && !((BC m).ending==0)) with
 | true=>exact od m
 | false=>exact ⟨rfl,rfl⟩
structure StepOk (r:Rul) (m:Mat):Prop where
 rules:m.rules=r
 fit:Cr m.inns
 len:m.inns.length≤5
theorem oB {m:Mat} {e:Ev} (h:((CG m e).2==0)=true):Bi m=true∧(evS e==0)=true∧(m.stage==5)=false∧((JY m e).2==0)=true∧(CG m e).1=Td (JY m e).1:=by
 unfold CG at h ⊢
 cases hv:Bi m with
 | false=>rw [hv] at h;exact absurd (show ((1:Int)==0)=true from h) (by decide)
 | true =>
  cases he:evS e==0 with
  | false=>rw [hv,he] at h;exact absurd (show ((1:Int)==0)=true from h) (by decide)
  | true =>
   cases h5:m.stage==5 with
   | true=>rw [hv,he,h5] at h;exact absurd (show ((26:Int)==0)=true from h) (by decide)
   | false =>
    cases hx:(JY m e).2==0 with
    | false=>rw [hv,he,h5,hx] at h;exact absurd (show ((JY m e).2==0)=true from h) (by rw [hx];decide)
    | true=>exact ⟨rfl,rfl,rfl,rfl,rfl⟩
theorem qf {m:Mat} {e:Ev} (h:((CG m e).2==0)=true) (hk:(e.kind==4)=true):(m.stage==3)=true∧((m.inns.length:Int)==0)=false∧((CL m.rules (BC m) e).2==0)=true∧(CG m e).1.inns=m.inns.set (lnx m.inns) (CL m.rules (BC m) e).1:=by
 obtain ⟨hv,he,h5,ha,hs⟩:=oB h
 have hk4:=beq_iff_eq.1 hk
 rw [hs,(rA _).2]
 unfold JY at ha ⊢
 simp only [hk4,Int.reduceBEq,cond_false] at ha ⊢
 cases h3:m.stage==3 with
 | false=>rw [h3] at ha;exact absurd (show ((1:Int)==0)=true from ha) (by decide)
 | true =>
  rw [h3] at ha
  simp only [Bool.not_true,cond_false] at ha ⊢
  unfold cP at ha ⊢
  cases hq:(CL m.rules (BC m) e).2==0 with
  | false=>simp only [hq,Bool.not_false,cond_true] at ha;exact absurd ha Bool.false_ne_true
  | true =>
   simp only [hk4,Int.reduceBEq,Bool.false_and,hq,Bool.not_true,cond_false]
   exact ⟨trivial,(gR hv).begun h3,trivial,trivial⟩
end Go.Px
end
section
namespace Go.Px
set_option maxRecDepth 100000
def jJ (m:Mat):Mat:={ m with rules:=X1 m.rules,inns:=(m.inns.take 5).map YI }
theorem uG (xs:List Inn):((xs.take 5).map YI).length≤5:=by rw [List.length_map,List.length_take];omega
theorem v3 (xs:List Inn):∀ i,i<(xs.map YI).length→inn (xs.map YI) i=YI (inn xs i):=fun i hi=>by
 rw [List.length_map] at hi
 rw [LL,LL,List.getElem?_map,List.getElem?_eq_getElem hi]
 rfl
theorem v9 {m:Mat}:StepOk (X1 m.rules) (jJ m):=⟨rfl,fun i hi=>by
 show (inn ((m.inns.take 5).map YI) i).Fit
 rw [v3 _ i hi]
 exact vu _,uG _⟩
theorem u5 {xs:List Inn} {i:Nat} (h:i<xs.length):xs.take (i+1)=xs.take i++[inn xs i]:=by
 rw [List.take_succ_eq_append_getElem h,LL,List.getElem?_eq_getElem h]
set_option maxHeartbeats 2000000 in
theorem tG {N:Nat} {m1 m2 m3 m4 m5 m6 m7 m9 m10 m11 m12 m14 m15 m18 m19 m20 m21 m22:Int} {m8 m16:Bool} {m0:ByteArray} {m13:Rows} {m17:List Inn} (hN:2097152<N):Q8 N [.str m0,.int m1,.int m2,.int m3,.int m4,.int m5,.int m6,.int m7,.bool m8,.int m9,.int m10,.int m11,.int m12,.rows m13,.int m14,.int m15,.bool m16,.rows (AL m17),.int m18,.int m19,.int m20,.int m21,.int m22]=some (jJ (⟨⟨m0,m1,m2,m3,m4,m5,m6,m7,m8,m9,m10,m11,m12,m13⟩,m14,m15,m16,m17,m18,m19,m20,m21,m22⟩:Mat)).ls:=by
 show RE (std (K7 N) N) (xOf _)=_
 have e5:m17.take (min m17.length 5)=m17.take 5:=by
  by_cases h:m17.length≤5
  ·rw [Nat.min_eq_left h,List.take_length,List.take_of_length_le h]
  ·rw [Nat.min_eq_right (by omega)]
 simp only [RE,std,xOf,PXb,rf (show (0:Int)≤20 by omega),rf (show (0:Int)≤10 by omega),PXi]
 refine AJ (Av (len:=min m17.length 5) (fun i=>[.rows (AL ((m17.take i).map YI)),.int (i:Int)]) [.rows (AL ((m17.take 5).map YI))] ?_ ?_ N (by omega)) rfl
 ·intro self
  have:(iLt ((min m17.length 5:Nat):Int) (m17.length:Int)&&iLt ((min m17.length 5:Nat):Int) 5)=false:=by
   rw [Bool.and_eq_false_iff]
   simp only [iLt,decide_eq_false_iff_not]
   omega
  simp only [PXb,PXc,PXn,AA,this,e5]
 ·intro i self hi
  have h1:i<m17.length:=by omega
  have h5:iLt (i:Int) 5=true:=by simp only [iLt,decide_eq_true_eq];omega
  have h304:iSm (((m17.take i).length+1:Nat):Int) 304=true:=DV (by rw [List.length_take];omega) (by omega)
  have c13:∀ n:Nat,iRg 0 (cond (iLt 13 (n:Int)) 13 (n:Int)) (n:Int)=true:=fun n=>rf (show (0:Int)≤13 by omega)
  simp only [PXb,PXc,PXn,AA,AW (show i≤1099511627776 by omega),Ah h1,AP h1,h5,PXi,c13,List.length_append,List.length_cons,List.length_nil,List.length_map,Nat.zero_add,Nat.reduceAdd,h304,PXr,u5 h1,List.map_append]
  rfl
end Go.Px
end
section
namespace Go.Px
set_option maxRecDepth 100000
def fm (f:Int→Rows) (lo:Int):Nat→Rows
 | 0=>[]
 | n+1=>fm f lo n++f (lo+(n:Int))
theorem M7 (f:Int→Rows) (lo:Int) (n:Nat):fm f lo (n+1)=fm f lo n++f (lo+(n:Int)):=rfl
theorem Th {f g:Int→Rows} {lo:Int}:∀ n:Nat,(∀ i,lo≤i→i<lo+(n:Int)→f i=g i)→fm f lo n=fm g lo n
 | 0,_=>rfl
 | n+1,h=>by
  rw [M7,M7,Th n (fun i h1 h2=>h i h1 (by omega)),h _ (by omega) (by omega)]
theorem Jk {f:Int→Rows} {lo:Int}:∀ n:Nat,(∀ i,lo≤i→i<lo+(n:Int)→f i=[])→fm f lo n=[]
 | 0,_=>rfl
 | n+1,h=>by
  rw [M7,Jk n (fun i h1 h2=>h i h1 (by omega)),h _ (by omega) (by omega)]
  rfl
theorem mH {f:Int→Rows} {lo:Int} {c:Nat}:∀ n:Nat,(∀ i,(f i).length≤c)→(fm f lo n).length≤n * c
 | 0,_=>Nat.zero_le _
 | n+1,h=>by
  have ih:=mH (lo:=lo) n h
  have:=h (lo+(n:Int))
  rw [M7,List.length_append,Nat.succ_mul]
  omega
theorem i3 {f:Int→Rows} {lo:Int} {x:List PV}:∀ n:Nat,x∈fm f lo n→∃ i,lo≤i∧i<lo+(n:Int)∧x∈f i
 | 0,h=>absurd h List.not_mem_nil
 | n+1,h=>by
  rw [M7] at h
  rcases List.mem_append.1 h with h | h
  ·obtain ⟨i,h1,h2,h3⟩:=i3 n h
   exact ⟨i,h1,by omega,h3⟩
  ·exact ⟨_,by omega,by omega,h⟩
def evK (k s p o:Int) (y:Bool) (n:Int):Ev:=⟨k,s,p,o,y,n,0,⟨0,0,0,0,0,false,0,0,0,0,false,0⟩⟩
def yF (b:Bool) (f:Bool→Rows):Rows:=f false++cond b (f true) []
def vG (g:Int→Int→Int→Bool→Int→Rows) (b:Bool) (sl pl ol rl:Int) (sn pn on rn:Nat):Rows :=
 fm (fun s=>fm (fun p=>fm (fun o=>yF b fun y=>fm (fun n=>g s p o y n) rl rn) ol on) pl pn) sl sn
theorem tN {b:Bool} {f:Bool→Rows} (h:∀ y,f y=[]):yF b f=[]:=by
 unfold yF
 rw [h,h]
 cases b<;>rfl
end Go.Px
end
section
namespace Go.Px
set_option maxRecDepth 100000
structure AccE (e:Ev):Prop where
 kind:1≤e.kind∧e.kind≤16
 side:cond (uS e.kind) (1≤e.side∧e.side≤2) (e.side=0)
 player:cond (uP e.kind) (1≤e.player∧e.player≤11) (e.player=0)
 other:cond (uO e.kind) (1≤e.other∧e.other≤11) (e.other=0)
 yes:e.yes=true→uY e.kind=true
 runs:cond (uR e.kind) (loS e.kind≤e.runs∧e.runs≤hiS e.kind) (e.runs=0)
 pen:e.kind=13→e.runs=5
 overs:uV e.kind=false→e.overs=0
 ball:uB e.kind=false→il e.ball=true
def xU (e:Ev):List PV:=[.int e.kind,.int e.side,.int e.player,.int e.other,.bool e.yes,.int e.runs,.int e.overs]++e.ball.ls
def C7 (m:Mat) (k s p o:Int) (y:Bool) (n:Int):Rows:=cond ((CG m (evK k s p o y n)).2==0) [xU (evK k s p o y n)] []
def bg (m:Mat) (k:Int):Rows:=vG (C7 m k) (uY k) (cond (uS k) 1 0) (cond (uP k) 1 0) (cond (uO k) 1 0) (cond (k==13) 1 0) (cond (uS k) 2 1) (cond (uP k) 11 1) (cond (uO k) 11 1) (cond (k==7) 12 (cond (k==13) 99 1))
end Go.Px
end
section
namespace Go.Px
set_option maxRecDepth 100000
def upL (a:Int) (n:Nat):Rows:=fm (fun v=>[[PV.int v]]) a n
theorem Em (a:Int):∀ n,(upL a n).length=n
 | 0=>rfl
 | n+1=>by
  show (upL a n++[[PV.int (a+(n:Int))]]).length=n+1
  rw [List.length_append,Em a n]
  rfl
theorem qA (a:Int):∀ n i:Nat,i<n→Aj (upL a n) i=[PV.int (a+(i:Int))]
 | 0,i,h=>absurd h (Nat.not_lt_zero _)
 | n+1,i,h=>by
  show Aj (upL a n++[[PV.int (a+(n:Int))]]) i=_
  unfold Aj
  rw [List.getD_eq_getElem?_getD,List.getElem?_append,Em]
  by_cases e:i<n
  ·rw [if_pos e]
   have:=qA a n i e
   unfold Aj at this
   rw [List.getD_eq_getElem?_getD] at this
   exact this
  ·rw [if_neg e]
   have:i=n:=by omega
   rw [this,Nat.sub_self]
   rfl
theorem bI {a:Int} {n i:Nat} (h:i<n):pvI (AD (upL a n) i 0)=a+(i:Int):=by
 unfold AD
 rw [qA a n i h]
 rfl
theorem pw {F : (List AS → Option (List PV)) → List PV → Option (List PV)} {len : Nat} (enc : Nat → List AS) (fin : List PV) {x : List PV} (hx : x = (enc 0).map Leaf.pv)
    (h0:∀ self,F self ((enc len).map Leaf.pv)=some fin) (h1:∀ i self,i<len→F self ((enc i).map Leaf.pv)=self (enc (i+1))) (n:Nat) (hn:len<n):EF F n x=some fin:=by
  rw [hx]
  exact Av enc fin h0 h1 n hn
set_option maxHeartbeats 1000000 in
theorem Oa {N:Nat} {a b:Int} {n:Nat} (hN:2097152<N) (ha:0≤a) (hb:b=a+(n:Int) - 1) (hc:a+(n:Int)≤1000):Dq N [.int a,.int b]=some [.rows (upL a n)]:=by
 show Ov (std (XY N) N) (xOf _)=_
 simp only [Ov,std,xOf,PXb]
 refine AJ (pw (len:=n) (fun i=>[.rows (upL a i),.int (a+(i:Int))]) [.rows (upL a n)] (by show [PV.rows [],PV.int a]=[PV.rows [],PV.int (a+((0:Nat):Int))];rw [show a+((0:Nat):Int)=a by omega]) ?_ ?_ N (by omega)) ?_
 ·intro self
  have:iLe (a+(n:Int)) b=false:=by simp only [iLe,decide_eq_false_iff_not];omega
  simp only [PXb,PXc,PXn,AA,this]
 ·intro i self hi
  have l:iLe (a+(i:Int)) b=true:=by simp only [iLe,decide_eq_true_eq];omega
  have w:IntKind.i64.wrap (a+(i:Int)+1)=a+((i+1:Nat):Int):=by rw [Dn (by omega) (by omega)];omega
  have sm:iSm ((i+1:Nat):Int) 8=true:=DV (by omega) (by omega)
  simp only [PXb,PXc,PXn,AA,l,w,List.length_append,Em,List.length_cons,List.length_nil,Nat.zero_add,sm]
  rfl
 ·rfl
def okK (k:Int):Bool:=k==1||k==12||k==14||k==2||k==3||k==8||k==5||k==6||k==9||k==7||k==11||k==13||k==10||k==16
def ry (k:Int):Rows:=upL (cond (uS k) 1 0) (cond (uS k) 2 1)
def rX (k:Int):Rows:=upL (cond (uP k) 1 0) (cond (uP k) 11 1)
def uW (k:Int):Rows:=upL (cond (uO k) 1 0) (cond (uO k) 11 1)
def uL (k:Int):Rows:=upL (cond (k==13) 1 0) (cond (k==7) 12 (cond (k==13) 99 1))
set_option maxHeartbeats 4000000 in
theorem jO {N:Nat} {k:Int} (hN:2097152<N):HB N [.int k]=some [.rows (ry k),.rows (rX k),.rows (uW k),.rows (uL k),.bool (uY k),.bool (okK k)]:=by
 show HH (std (Dc N) N) (xOf _)=_
 have u1:Dq N [.int 1,.int 2]=some [.rows (upL 1 2)]:=Oa (n:=2) hN (by omega) rfl (by omega)
 have u2:Dq N [.int 1,.int 11]=some [.rows (upL 1 11)]:=Oa (n:=11) hN (by omega) rfl (by omega)
 have u3:Dq N [.int 0,.int 11]=some [.rows (upL 0 12)]:=Oa (n:=12) hN (by omega) rfl (by omega)
 have u4:Dq N [.int 1,.int 99]=some [.rows (upL 1 99)]:=Oa (n:=99) hN (by omega) rfl (by omega)
 simp only [HH,SS,std,xOf,PXb,u1,u2,u3,u4]
 cases hk:(iLt k 1||iLt 16 k) with
 | false=>rcases Sy hk with h | h | h | h | h | h | h | h | h | h | h | h | h | h | h | h<;>subst h<;>rfl
 | true =>
  have no:=fun n h1 h2=>nr hk n h1 h2
  have e:∀ n:Int,1≤n→n≤16→(k==n)=false:=no
  unfold ry rX uW uL uS uP uO uY okK
  simp only [PXb,e 1 (by omega) (by omega),e 2 (by omega) (by omega),e 3 (by omega) (by omega),e 5 (by omega) (by omega),e 6 (by omega) (by omega),e 7 (by omega) (by omega),e 8 (by omega) (by omega),e 9 (by omega) (by omega),e 10 (by omega) (by omega),e 11 (by omega) (by omega),e 12 (by omega) (by omega),e 13 (by omega) (by omega),e 14 (by omega) (by omega),e 16 (by omega) (by omega)]
  rfl
set_option maxHeartbeats 1000000 in
theorem Vk {N:Nat} {m1 m2 m3 m4 m5 m6 m7 m9 m10 m11 m12 m14 m15 m18 m19 m20 m21 m22:Int} {m8 m16:Bool} {m0:ByteArray} {m13:Rows} {m17:List Inn} {e0 e1 e2 e3 e5 e6 e7 e8 e9 e10 e11 e13 e14 e15 e16 e18:Int} {e4 e12 e17:Bool} (hN:2097152<N) (hf:Cr m17) (hl:m17.length≤1000000) (hs:m0.size≤1048576) (h13:m13.length≤1048576):B6 N [.str m0,.int m1,.int m2,.int m3,.int m4,.int m5,.int m6,.int m7,.bool m8,.int m9,.int m10,.int m11,.int m12,.rows m13,.int m14,.int m15,.bool m16,.rows (AL m17),.int m18,.int m19,.int m20,.int m21,.int m22,.int e0,.int e1,.int e2,.int e3,.bool e4,.int e5,.int e6,.int e7,.int e8,.int e9,.int e10,.int e11,.bool e12,.int e13,.int e14,.int e15,.int e16,.bool e17,.int e18]=some [.int (CG (⟨⟨m0,m1,m2,m3,m4,m5,m6,m7,m8,m9,m10,m11,m12,m13⟩,m14,m15,m16,m17,m18,m19,m20,m21,m22⟩:Mat) (⟨e0,e1,e2,e3,e4,e5,e6,⟨e7,e8,e9,e10,e11,e12,e13,e14,e15,e16,e17,e18⟩⟩:Ev)).2]:=by
 show QC (std (RZ N) N) (xOf _)=_
 simp only [QC,VU,std,xOf,PXb,bZ hN hf hl hs h13]
 rfl
theorem sw {N:Nat} {m1 m2 m3 m4 m5 m6 m7 m9 m10 m11 m12 m14 m15 m18 m19 m20 m21 m22:Int} {m8 m16:Bool} {m0:ByteArray} {m13:Rows} {m17:List Inn} {e0 e1 e2 e3 e5 e6 e7 e8 e9 e10 e11 e13 e14 e15 e16 e18:Int} {e4 e12 e17:Bool} (hN:2097152<N) (hf:Cr m17) (hl:m17.length≤1000000) (hs:m0.size≤1048576) (h13:m13.length≤1048576):Hb N [.str m0,.int m1,.int m2,.int m3,.int m4,.int m5,.int m6,.int m7,.bool m8,.int m9,.int m10,.int m11,.int m12,.rows m13,.int m14,.int m15,.bool m16,.rows (AL m17),.int m18,.int m19,.int m20,.int m21,.int m22,.int e0,.int e1,.int e2,.int e3,.bool e4,.int e5,.int e6,.int e7,.int e8,.int e9,.int e10,.int e11,.bool e12,.int e13,.int e14,.int e15,.int e16,.bool e17,.int e18]=some [.int (CG (⟨⟨m0,m1,m2,m3,m4,m5,m6,m7,m8,m9,m10,m11,m12,m13⟩,m14,m15,m16,m17,m18,m19,m20,m21,m22⟩:Mat) (⟨e0,e1,e2,e3,e4,e5,e6,⟨e7,e8,e9,e10,e11,e12,e13,e14,e15,e16,e17,e18⟩⟩:Ev)).2]:=by
 show Q7 (std (Ik N) N) (xOf _)=_
 simp only [Q7,aX,std,xOf,PXb,ri hN hf hl hs h13]
 rfl
end Go.Px
end
section
namespace Go.Px
set_option maxRecDepth 100000
theorem DJ {i:Nat} (h:i≤1099511627776):IntKind.i64.wrap ((i:Int)+1)=((i+1:Nat):Int):=AW h
def fmo (out:Rows) (f:Int→Rows) (lo:Int):Nat→Rows
 | 0=>out
 | n+1=>fmo out f lo n++f (lo+(n:Int))
theorem Br (out:Rows) (f:Int→Rows) (lo:Int) (n:Nat):fmo out f lo (n+1)=fmo out f lo n++f (lo+(n:Int)):=rfl
theorem EW (out:Rows) (f:Int→Rows) (lo:Int):∀ n,fmo out f lo n=out++fm f lo n
 | 0=>(List.append_nil _).symm
 | n+1=>by rw [Br,M7,EW out f lo n,List.append_assoc]
theorem Sz (f:Int→Rows) (lo:Int) (n:Nat):fmo [] f lo n=fm f lo n:=EW [] f lo n
theorem CT {out:Rows} {f:Int→Rows} {lo:Int} {c k n:Nat} (h:∀ i,(f i).length≤c) (hk:n≤k):(fmo out f lo n).length≤out.length+k * c:=by
 have:=mH (f:=f) (lo:=lo) n h
 have:=Nat.mul_le_mul_right c hk
 rw [EW,List.length_append]
 omega
theorem Bp {f:Int→Rows} {lo:Int} {c k n:Nat} (h:∀ i,(f i).length≤c) (hk:n≤k):(fm f lo n).length≤k * c :=
 Nat.le_trans (mH n h) (Nat.mul_le_mul_right c hk)
theorem oV {b:Bool} {f:Bool→Rows} {c:Nat} (h:∀ y,(f y).length≤c):(yF b f).length≤2 * c:=by
 unfold yF
 have h1:=h false
 have h2:=h true
 rw [List.length_append]
 cases b
 ·show (f false).length+0≤_
  omega
 ·show (f false).length+(f true).length≤_
  omega
theorem pr (m:Mat) (k s p o:Int) (y:Bool) (n:Int):(C7 m k s p o y n).length≤1:=by
 unfold C7
 cases (CG m (evK k s p o y n)).2==0
 ·exact Nat.zero_le _
 ·exact Nat.le_refl _
def yfo (b:Bool) (f:Bool→Rows) (out:Rows):Nat→Rows
 | 0=>out
 | 1=>out++f false
 | _=>out++f false++cond b (f true) []
theorem sT (b:Bool) (f:Bool→Rows) (out:Rows):yfo b f out 2=out++yF b f:=List.append_assoc _ _ _
theorem lt2 {i:Nat} (h:i<2):i=0∨i=1:=by omega
set_option maxHeartbeats 8000000 in
theorem rW {N:Nat} {m1 m2 m3 m4 m5 m6 m7 m9 m10 m11 m12 m14 m15 m18 m19 m20 m21 m22:Int} {m8 m16:Bool} {m0:ByteArray} {m13:Rows} {m17:List Inn} {k:Int} (hN:2097152<N) (hf:Cr m17) (hl:m17.length≤1000000) (hs:m0.size≤1048576) (h13:m13.length≤1048576):IA N [.str m0,.int m1,.int m2,.int m3,.int m4,.int m5,.int m6,.int m7,.bool m8,.int m9,.int m10,.int m11,.int m12,.rows m13,.int m14,.int m15,.bool m16,.rows (AL m17),.int m18,.int m19,.int m20,.int m21,.int m22,.int k]=some [.rows (cond (okK k&&Bi (⟨⟨m0,m1,m2,m3,m4,m5,m6,m7,m8,m9,m10,m11,m12,m13⟩,m14,m15,m16,m17,m18,m19,m20,m21,m22⟩:Mat)) (bg (⟨⟨m0,m1,m2,m3,m4,m5,m6,m7,m8,m9,m10,m11,m12,m13⟩,m14,m15,m16,m17,m18,m19,m20,m21,m22⟩:Mat) k) [])]:=by
  show N8 (std (Ds N) N) (xOf _)=_
  generalize hres:(some [.rows (cond (okK k&&Bi (⟨⟨m0,m1,m2,m3,m4,m5,m6,m7,m8,m9,m10,m11,m12,m13⟩,m14,m15,m16,m17,m18,m19,m20,m21,m22⟩:Mat)) (bg (⟨⟨m0,m1,m2,m3,m4,m5,m6,m7,m8,m9,m10,m11,m12,m13⟩,m14,m15,m16,m17,m18,m19,m20,m21,m22⟩:Mat) k) [])]:Option (List PV))=RR
  simp only [N8,V4,Xx,UM,std,xOf,PXb,jO hN,Lr hf hN hl hs]
  subst hres;simp only [bg]
  cases hk:okK k with
  | false=>rfl
  | true =>
    cases hv:Bi (⟨⟨m0,m1,m2,m3,m4,m5,m6,m7,m8,m9,m10,m11,m12,m13⟩,m14,m15,m16,m17,m18,m19,m20,m21,m22⟩:Mat) with
    | false=>rfl
    | true =>
      have c1:(cond (uS k) 2 1:Nat)≤2:=by cases uS k<;>decide
      have c2:(cond (uP k) 11 1:Nat)≤11:=by cases uP k<;>decide
      have c3:(cond (uO k) 11 1:Nat)≤11:=by cases uO k<;>decide
      have c4:(cond (k==7) 12 (cond (k==13) 99 1):Nat)≤99:=by cases k==7<;>cases k==13<;>decide
      unfold ry rX uW uL vG
      generalize (cond (uS k) 2 1:Nat)=sn at *
      generalize (cond (uP k) 11 1:Nat)=pn at *
      generalize (cond (uO k) 11 1:Nat)=on at *
      generalize (cond (k==7) 12 (cond (k==13) 99 1):Nat)=rn at *
      generalize (cond (uS k) 1 0:Int)=sl at *
      generalize (cond (uP k) 1 0:Int)=pl at *
      generalize (cond (uO k) 1 0:Int)=ol at *
      generalize (cond (k==13) 1 0:Int)=rl at *
      generalize uY k=yb at *
      have WHY:∀ s p o:Int,∀ y:Bool,∀ n:Int,B6 N [.str m0,.int m1,.int m2,.int m3,.int m4,.int m5,.int m6,.int m7,.bool m8,.int m9,.int m10,.int m11,.int m12,.rows m13,.int m14,.int m15,.bool m16,.rows (AL m17),.int m18,.int m19,.int m20,.int m21,.int m22,.int k,.int s,.int p,.int o,.bool y,.int n,.int 0,.int 0,.int 0,.int 0,.int 0,.int 0,.bool false,.int 0,.int 0,.int 0,.int 0,.bool false,.int 0]=some [.int (CG (⟨⟨m0,m1,m2,m3,m4,m5,m6,m7,m8,m9,m10,m11,m12,m13⟩,m14,m15,m16,m17,m18,m19,m20,m21,m22⟩:Mat) (evK k s p o y n)).2]:=fun s p o y n=>Vk hN hf hl hs h13
      have ONE:∀ s p o:Int,∀ y:Bool,∀ n:Int,C7 (⟨⟨m0,m1,m2,m3,m4,m5,m6,m7,m8,m9,m10,m11,m12,m13⟩,m14,m15,m16,m17,m18,m19,m20,m21,m22⟩:Mat) k s p o y n=cond ((CG (⟨⟨m0,m1,m2,m3,m4,m5,m6,m7,m8,m9,m10,m11,m12,m13⟩,m14,m15,m16,m17,m18,m19,m20,m21,m22⟩:Mat) (evK k s p o y n)).2==0) [[.int k,.int s,.int p,.int o,.bool y,.int n,.int 0,.int 0,.int 0,.int 0,.int 0,.int 0,.bool false,.int 0,.int 0,.int 0,.int 0,.bool false,.int 0]] []:=fun s p o y n=>rfl
      have l1:∀ s p o:Int,∀ y:Bool,∀ n:Int,(C7 (⟨⟨m0,m1,m2,m3,m4,m5,m6,m7,m8,m9,m10,m11,m12,m13⟩,m14,m15,m16,m17,m18,m19,m20,m21,m22⟩:Mat) k s p o y n).length≤1:=fun s p o y n=>pr _ k s p o y n
      have l2:∀ s p o:Int,∀ y:Bool,(fm (fun n=>C7 (⟨⟨m0,m1,m2,m3,m4,m5,m6,m7,m8,m9,m10,m11,m12,m13⟩,m14,m15,m16,m17,m18,m19,m20,m21,m22⟩:Mat) k s p o y n) rl rn).length≤99 * 1:=fun s p o y=>Bp (l1 s p o y) c4
      have l3:∀ s p o:Int,(yF yb fun y=>fm (fun n=>C7 (⟨⟨m0,m1,m2,m3,m4,m5,m6,m7,m8,m9,m10,m11,m12,m13⟩,m14,m15,m16,m17,m18,m19,m20,m21,m22⟩:Mat) k s p o y n) rl rn).length≤2 * (99 * 1):=fun s p o=>oV (l2 s p o)
      have l4:∀ s p:Int,(fm (fun o=>yF yb fun y=>fm (fun n=>C7 (⟨⟨m0,m1,m2,m3,m4,m5,m6,m7,m8,m9,m10,m11,m12,m13⟩,m14,m15,m16,m17,m18,m19,m20,m21,m22⟩:Mat) k s p o y n) rl rn) ol on).length≤11 * (2 * (99 * 1)):=fun s p=>Bp (l3 s p) c3
      have l5:∀ s:Int,(fm (fun p=>fm (fun o=>yF yb fun y=>fm (fun n=>C7 (⟨⟨m0,m1,m2,m3,m4,m5,m6,m7,m8,m9,m10,m11,m12,m13⟩,m14,m15,m16,m17,m18,m19,m20,m21,m22⟩:Mat) k s p o y n) rl rn) ol on) pl pn).length≤11 * (11 * (2 * (99 * 1))):=fun s=>Bp (l4 s) c2
      simp only [PXb,Bool.not_true,Bool.and_true]
      refine AJ (Av (len:=sn) (fun i=>[.int (i:Int),.str m0,.int m1,.int m2,.int m3,.int m4,.int m5,.int m6,.int m7,.bool m8,.int m9,.int m10,.int m11,.int m12,.rows m13,.int m14,.int m15,.bool m16,.rows (AL m17),.int m18,.int m19,.int m20,.int m21,.int m22,.rows (fmo [] (fun s=>fm (fun p=>fm (fun o=>yF yb fun y=>fm (fun n=>C7 (⟨⟨m0,m1,m2,m3,m4,m5,m6,m7,m8,m9,m10,m11,m12,m13⟩,m14,m15,m16,m17,m18,m19,m20,m21,m22⟩:Mat) k s p o y n) rl rn) ol on) pl pn) sl i)]) [.str m0,.int m1,.int m2,.int m3,.int m4,.int m5,.int m6,.int m7,.bool m8,.int m9,.int m10,.int m11,.int m12,.rows m13,.int m14,.int m15,.bool m16,.rows (AL m17),.int m18,.int m19,.int m20,.int m21,.int m22,.rows (fmo [] (fun s=>fm (fun p=>fm (fun o=>yF yb fun y=>fm (fun n=>C7 (⟨⟨m0,m1,m2,m3,m4,m5,m6,m7,m8,m9,m10,m11,m12,m13⟩,m14,m15,m16,m17,m18,m19,m20,m21,m22⟩:Mat) k s p o y n) rl rn) ol on) pl pn) sl sn)] ?_ ?_ N (by omega)) ?_
      · intro self
        simp only [PXb,PXc,PXn,AA,Em,Ap]
      · intro i self hi
        have b1:=CT (out:=[]) (lo:=sl) (n:=i) l5 (k:=2) (by omega)
        rw [List.length_nil,Nat.zero_add] at b1
        rw [Br]
        generalize fmo [] (fun s=>fm (fun p=>fm (fun o=>yF yb fun y=>fm (fun n=>C7 (⟨⟨m0,m1,m2,m3,m4,m5,m6,m7,m8,m9,m10,m11,m12,m13⟩,m14,m15,m16,m17,m18,m19,m20,m21,m22⟩:Mat) k s p o y n) rl rn) ol on) pl pn) sl i=out1 at *
        rw [← EW]
        simp only [PXb,PXc,PXn,AA,Em,Ah hi,AP hi,Int.toNat_natCast,bI hi]
        generalize sl+(i:Int)=s at *
        refine AJ (Av (len:=pn) (fun j=>[.int (j:Int),.str m0,.int m1,.int m2,.int m3,.int m4,.int m5,.int m6,.int m7,.bool m8,.int m9,.int m10,.int m11,.int m12,.rows m13,.int m14,.int m15,.bool m16,.rows (AL m17),.int m18,.int m19,.int m20,.int m21,.int m22,.rows (fmo out1 (fun p=>fm (fun o=>yF yb fun y=>fm (fun n=>C7 (⟨⟨m0,m1,m2,m3,m4,m5,m6,m7,m8,m9,m10,m11,m12,m13⟩,m14,m15,m16,m17,m18,m19,m20,m21,m22⟩:Mat) k s p o y n) rl rn) ol on) pl j)]) [.int (pn:Int),.str m0,.int m1,.int m2,.int m3,.int m4,.int m5,.int m6,.int m7,.bool m8,.int m9,.int m10,.int m11,.int m12,.rows m13,.int m14,.int m15,.bool m16,.rows (AL m17),.int m18,.int m19,.int m20,.int m21,.int m22,.rows (fmo out1 (fun p=>fm (fun o=>yF yb fun y=>fm (fun n=>C7 (⟨⟨m0,m1,m2,m3,m4,m5,m6,m7,m8,m9,m10,m11,m12,m13⟩,m14,m15,m16,m17,m18,m19,m20,m21,m22⟩:Mat) k s p o y n) rl rn) ol on) pl pn)] ?_ ?_ N (by omega)) ?_
        · intro self
          simp only [PXb,PXc,PXn,AA,Em,Ap]
        · intro j self hj
          have b2:=CT (out:=out1) (lo:=pl) (n:=j) (l4 s) (k:=11) (by omega)
          rw [Br]
          generalize fmo out1 (fun p=>fm (fun o=>yF yb fun y=>fm (fun n=>C7 (⟨⟨m0,m1,m2,m3,m4,m5,m6,m7,m8,m9,m10,m11,m12,m13⟩,m14,m15,m16,m17,m18,m19,m20,m21,m22⟩:Mat) k s p o y n) rl rn) ol on) pl j=out2 at *
          rw [← EW]
          simp only [PXb,PXc,PXn,AA,Em,Ah hj,AP hj,Int.toNat_natCast,bI hj]
          generalize pl+(j:Int)=p at *
          refine AJ (Av (len:=on) (fun q=>[.int (q:Int),.str m0,.int m1,.int m2,.int m3,.int m4,.int m5,.int m6,.int m7,.bool m8,.int m9,.int m10,.int m11,.int m12,.rows m13,.int m14,.int m15,.bool m16,.rows (AL m17),.int m18,.int m19,.int m20,.int m21,.int m22,.rows (fmo out2 (fun o=>yF yb fun y=>fm (fun n=>C7 (⟨⟨m0,m1,m2,m3,m4,m5,m6,m7,m8,m9,m10,m11,m12,m13⟩,m14,m15,m16,m17,m18,m19,m20,m21,m22⟩:Mat) k s p o y n) rl rn) ol q)]) [.int (on:Int),.str m0,.int m1,.int m2,.int m3,.int m4,.int m5,.int m6,.int m7,.bool m8,.int m9,.int m10,.int m11,.int m12,.rows m13,.int m14,.int m15,.bool m16,.rows (AL m17),.int m18,.int m19,.int m20,.int m21,.int m22,.rows (fmo out2 (fun o=>yF yb fun y=>fm (fun n=>C7 (⟨⟨m0,m1,m2,m3,m4,m5,m6,m7,m8,m9,m10,m11,m12,m13⟩,m14,m15,m16,m17,m18,m19,m20,m21,m22⟩:Mat) k s p o y n) rl rn) ol on)] ?_ ?_ N (by omega)) ?_
          · intro self
            simp only [PXb,PXc,PXn,AA,Em,Ap]
          · intro q self hq
            have b3:=CT (out:=out2) (lo:=ol) (n:=q) (l3 s p) (k:=11) (by omega)
            rw [Br]
            generalize fmo out2 (fun o=>yF yb fun y=>fm (fun n=>C7 (⟨⟨m0,m1,m2,m3,m4,m5,m6,m7,m8,m9,m10,m11,m12,m13⟩,m14,m15,m16,m17,m18,m19,m20,m21,m22⟩:Mat) k s p o y n) rl rn) ol q=out3 at *
            rw [← sT]
            simp only [PXb,PXc,PXn,AA,Em,Ah hq,AP hq,Int.toNat_natCast,bI hq]
            generalize ol+(q:Int)=o at *
            refine AJ (Av (len:=2) (fun u=>[.int (u:Int),.str m0,.int m1,.int m2,.int m3,.int m4,.int m5,.int m6,.int m7,.bool m8,.int m9,.int m10,.int m11,.int m12,.rows m13,.int m14,.int m15,.bool m16,.rows (AL m17),.int m18,.int m19,.int m20,.int m21,.int m22,.rows (yfo yb (fun y=>fm (fun n=>C7 (⟨⟨m0,m1,m2,m3,m4,m5,m6,m7,m8,m9,m10,m11,m12,m13⟩,m14,m15,m16,m17,m18,m19,m20,m21,m22⟩:Mat) k s p o y n) rl rn) out3 u)]) [.int 2,.str m0,.int m1,.int m2,.int m3,.int m4,.int m5,.int m6,.int m7,.bool m8,.int m9,.int m10,.int m11,.int m12,.rows m13,.int m14,.int m15,.bool m16,.rows (AL m17),.int m18,.int m19,.int m20,.int m21,.int m22,.rows (yfo yb (fun y=>fm (fun n=>C7 (⟨⟨m0,m1,m2,m3,m4,m5,m6,m7,m8,m9,m10,m11,m12,m13⟩,m14,m15,m16,m17,m18,m19,m20,m21,m22⟩:Mat) k s p o y n) rl rn) out3 2)] ?_ ?_ N (by omega)) ?_
            · intro self
              rfl
            · intro u self hu
              have INNER : ∀ (y : Bool) (out4 : Rows), out4.length ≤ 1000000 → ∀ (F : (List AS → Option (List PV)) → List PV → Option (List PV)), (∀ out self, F self [.int (rn : Int), .str m0, .int m1, .int m2, .int m3, .int m4, .int m5, .int m6, .int m7, .bool m8, .int m9, .int m10, .int m11, .int m12, .rows m13, .int m14, .int m15, .bool m16, .rows (AL m17), .int m18, .int m19, .int m20, .int m21, .int m22, .rows out] = some [.int (rn : Int), .str m0, .int m1, .int m2, .int m3, .int m4, .int m5, .int m6, .int m7, .bool m8, .int m9, .int m10, .int m11, .int m12, .rows m13, .int m14, .int m15, .bool m16, .rows (AL m17), .int m18, .int m19, .int m20, .int m21, .int m22, .rows out]) →
                  (∀ (v:Nat) out self,v<rn→out.length≤1000099→F self [.int (v:Int),.str m0,.int m1,.int m2,.int m3,.int m4,.int m5,.int m6,.int m7,.bool m8,.int m9,.int m10,.int m11,.int m12,.rows m13,.int m14,.int m15,.bool m16,.rows (AL m17),.int m18,.int m19,.int m20,.int m21,.int m22,.rows out]=self [.int ((v+1:Nat):Int),.str m0,.int m1,.int m2,.int m3,.int m4,.int m5,.int m6,.int m7,.bool m8,.int m9,.int m10,.int m11,.int m12,.rows m13,.int m14,.int m15,.bool m16,.rows (AL m17),.int m18,.int m19,.int m20,.int m21,.int m22,.rows (out++C7 (⟨⟨m0,m1,m2,m3,m4,m5,m6,m7,m8,m9,m10,m11,m12,m13⟩,m14,m15,m16,m17,m18,m19,m20,m21,m22⟩:Mat) k s p o y (rl+(v:Int)))]) →
                  EF F N [.int 0,.str m0,.int m1,.int m2,.int m3,.int m4,.int m5,.int m6,.int m7,.bool m8,.int m9,.int m10,.int m11,.int m12,.rows m13,.int m14,.int m15,.bool m16,.rows (AL m17),.int m18,.int m19,.int m20,.int m21,.int m22,.rows out4]=some [.int (rn:Int),.str m0,.int m1,.int m2,.int m3,.int m4,.int m5,.int m6,.int m7,.bool m8,.int m9,.int m10,.int m11,.int m12,.rows m13,.int m14,.int m15,.bool m16,.rows (AL m17),.int m18,.int m19,.int m20,.int m21,.int m22,.rows (out4++fm (fun n=>C7 (⟨⟨m0,m1,m2,m3,m4,m5,m6,m7,m8,m9,m10,m11,m12,m13⟩,m14,m15,m16,m17,m18,m19,m20,m21,m22⟩:Mat) k s p o y n) rl rn)]:=fun y out4 ho F h0 h1=>by
                have:=Av (F:=F) (len:=rn) (fun v=>[.int (v:Int),.str m0,.int m1,.int m2,.int m3,.int m4,.int m5,.int m6,.int m7,.bool m8,.int m9,.int m10,.int m11,.int m12,.rows m13,.int m14,.int m15,.bool m16,.rows (AL m17),.int m18,.int m19,.int m20,.int m21,.int m22,.rows (fmo out4 (fun n=>C7 (⟨⟨m0,m1,m2,m3,m4,m5,m6,m7,m8,m9,m10,m11,m12,m13⟩,m14,m15,m16,m17,m18,m19,m20,m21,m22⟩:Mat) k s p o y n) rl v)]) [.int (rn:Int),.str m0,.int m1,.int m2,.int m3,.int m4,.int m5,.int m6,.int m7,.bool m8,.int m9,.int m10,.int m11,.int m12,.rows m13,.int m14,.int m15,.bool m16,.rows (AL m17),.int m18,.int m19,.int m20,.int m21,.int m22,.rows (fmo out4 (fun n=>C7 (⟨⟨m0,m1,m2,m3,m4,m5,m6,m7,m8,m9,m10,m11,m12,m13⟩,m14,m15,m16,m17,m18,m19,m20,m21,m22⟩:Mat) k s p o y n) rl rn)] (fun self=>h0 _ self) (fun v self hv=>h1 v _ self hv (by
                  have:=CT (out:=out4) (f:=fun n=>C7 (⟨⟨m0,m1,m2,m3,m4,m5,m6,m7,m8,m9,m10,m11,m12,m13⟩,m14,m15,m16,m17,m18,m19,m20,m21,m22⟩:Mat) k s p o y n) (lo:=rl) (n:=v) (l1 s p o y) (k:=99) (by omega)
                  omega)) N (by omega)
                rw [EW out4 (fun n=>C7 (⟨⟨m0,m1,m2,m3,m4,m5,m6,m7,m8,m9,m10,m11,m12,m13⟩,m14,m15,m16,m17,m18,m19,m20,m21,m22⟩:Mat) k s p o y n) rl rn] at this
                exact this
              have STEP:∀ (y:Bool) (n:Int) (out:Rows),out.length≤1000099→(cond ((CG (⟨⟨m0,m1,m2,m3,m4,m5,m6,m7,m8,m9,m10,m11,m12,m13⟩,m14,m15,m16,m17,m18,m19,m20,m21,m22⟩:Mat) (evK k s p o y n)).2==0) (cond (iSm ((out++[[PV.int k,.int s,.int p,.int o,.bool y,.int n,.int 0,.int 0,.int 0,.int 0,.int 0,.int 0,.bool false,.int 0,.int 0,.int 0,.int 0,.bool false,.int 0]]).length:Int) 136) (some [PV.rows (out++[[PV.int k,.int s,.int p,.int o,.bool y,.int n,.int 0,.int 0,.int 0,.int 0,.int 0,.int 0,.bool false,.int 0,.int 0,.int 0,.int 0,.bool false,.int 0]])]) none) (some [PV.rows out]))=some [PV.rows (out++C7 (⟨⟨m0,m1,m2,m3,m4,m5,m6,m7,m8,m9,m10,m11,m12,m13⟩,m14,m15,m16,m17,m18,m19,m20,m21,m22⟩:Mat) k s p o y n)]:=fun y n out ho=>by
                have sm:iSm ((out.length+1:Nat):Int) 136=true:=DV (by omega) (by omega)
                rw [ONE]
                cases (CG (⟨⟨m0,m1,m2,m3,m4,m5,m6,m7,m8,m9,m10,m11,m12,m13⟩,m14,m15,m16,m17,m18,m19,m20,m21,m22⟩:Mat) (evK k s p o y n)).2==0 with
                | false=>rw [cond_false,cond_false,List.append_nil]
                | true=>rw [cond_true,cond_true,List.length_append,List.length_cons,List.length_nil,Nat.zero_add,sm,cond_true]
              rcases lt2 hu with e | e
              · subst e
                simp only [PXb,PXc,PXn,AA]
                refine AJ (INNER false out3 (by omega) _ ?_ ?_) ?_
                · intro out self
                  simp only [PXb,PXc,PXn,AA,Em,Ap]
                · intro v out self hv ho
                  simp only [PXb,PXc,PXn,AA,Em,Ah hv,AP hv,Int.toNat_natCast,bI hv,WHY,DJ (show v≤1099511627776 by omega)]
                  refine bind_ok (STEP false (rl+(v:Int)) out ho) rfl
                · rfl
              · subst e
                cases hy:yb with
                | false =>
                  subst hy
                  have y21:yfo false (fun y=>fm (fun n=>C7 (⟨⟨m0,m1,m2,m3,m4,m5,m6,m7,m8,m9,m10,m11,m12,m13⟩,m14,m15,m16,m17,m18,m19,m20,m21,m22⟩:Mat) k s p o y n) rl rn) out3 (1+1)=yfo false (fun y=>fm (fun n=>C7 (⟨⟨m0,m1,m2,m3,m4,m5,m6,m7,m8,m9,m10,m11,m12,m13⟩,m14,m15,m16,m17,m18,m19,m20,m21,m22⟩:Mat) k s p o y n) rl rn) out3 1:=List.append_nil _
                  rw [y21]
                  rfl
                | true =>
                  subst hy
                  simp only [PXb,PXc,PXn,AA]
                  refine AJ (INNER true _ ?_ _ ?_ ?_) ?_
                  · show (out3++fm (fun n=>C7 (⟨⟨m0,m1,m2,m3,m4,m5,m6,m7,m8,m9,m10,m11,m12,m13⟩,m14,m15,m16,m17,m18,m19,m20,m21,m22⟩:Mat) k s p o false n) rl rn).length≤1000000
                    have:=l2 s p o false
                    rw [List.length_append]
                    omega
                  · intro out self
                    simp only [PXb,PXc,PXn,AA,Em,Ap]
                  · intro v out self hv ho
                    simp only [PXb,PXc,PXn,AA,Em,Ah hv,AP hv,Int.toNat_natCast,bI hv,WHY,DJ (show v≤1099511627776 by omega)]
                    refine bind_ok (STEP true (rl+(v:Int)) out ho) rfl
                  · rfl
            · simp only [PXb,PXc,PXn,AA,DJ (show q≤1099511627776 by omega)]
          · simp only [PXb,PXc,PXn,AA,DJ (show j≤1099511627776 by omega)]
        · simp only [PXb,PXc,PXn,AA,DJ (show i≤1099511627776 by omega)]
      · rw [Sz]
        rfl
end Go.Px
end
section
namespace Go.Px
set_option maxRecDepth 100000
theorem Ye {i:Int} (h0:0≤i) (h:i≤254):IntKind.u8.wrap (i+1)=i+1:=by
 show (i+1) % 256=i+1
 omega
theorem uo (m:Mat) (k:Int):(bg m k).length≤2 * (11 * (11 * (2 * (99 * 1)))):=by
 unfold bg vG
 exact Bp (fun s=>Bp (fun p=>Bp (fun o=>oV fun y=>Bp (fun n=>pr m k s p o y n) (by cases k==7<;>cases k==13<;>decide)) (by cases uO k<;>decide)) (by cases uP k<;>decide)) (by cases uS k<;>decide)
def QF (m:Mat) (k:Int):Rows:=cond (okK k&&Bi m) (bg m k) []
def cM (m:Mat):Rows:=fm (QF m) 1 16
theorem kA (m:Mat) (k:Int):(QF m k).length≤47916:=by
 unfold QF
 cases okK k&&Bi m
 ·exact Nat.zero_le _
 ·exact uo m k
set_option maxHeartbeats 4000000 in
theorem aY {N:Nat} {m1 m2 m3 m4 m5 m6 m7 m9 m10 m11 m12 m14 m15 m18 m19 m20 m21 m22:Int} {m8 m16:Bool} {m0:ByteArray} {m13:Rows} {m17:List Inn} (hN:2097152<N) (hf:Cr m17) (hl:m17.length≤1000000) (hs:m0.size≤1048576) (h13:m13.length≤1048576):DC N [.str m0,.int m1,.int m2,.int m3,.int m4,.int m5,.int m6,.int m7,.bool m8,.int m9,.int m10,.int m11,.int m12,.rows m13,.int m14,.int m15,.bool m16,.rows (AL m17),.int m18,.int m19,.int m20,.int m21,.int m22]=some [.rows (cM (⟨⟨m0,m1,m2,m3,m4,m5,m6,m7,m8,m9,m10,m11,m12,m13⟩,m14,m15,m16,m17,m18,m19,m20,m21,m22⟩:Mat))]:=by
 show Oy (std (Pc N) N) (xOf _)=_
 simp only [Oy,M6,std,xOf,PXb]
 have OF:∀ k:Int,IA N [.str m0,.int m1,.int m2,.int m3,.int m4,.int m5,.int m6,.int m7,.bool m8,.int m9,.int m10,.int m11,.int m12,.rows m13,.int m14,.int m15,.bool m16,.rows (AL m17),.int m18,.int m19,.int m20,.int m21,.int m22,.int k]=some [.rows (QF (⟨⟨m0,m1,m2,m3,m4,m5,m6,m7,m8,m9,m10,m11,m12,m13⟩,m14,m15,m16,m17,m18,m19,m20,m21,m22⟩:Mat) k)]:=fun k=>rW hN hf hl hs h13
 have b0:∀ i:Nat,i≤16→(fmo [] (QF (⟨⟨m0,m1,m2,m3,m4,m5,m6,m7,m8,m9,m10,m11,m12,m13⟩,m14,m15,m16,m17,m18,m19,m20,m21,m22⟩:Mat)) 1 i).length≤([]:Rows).length+16 * 47916:=fun i hi=>CT (kA (⟨⟨m0,m1,m2,m3,m4,m5,m6,m7,m8,m9,m10,m11,m12,m13⟩,m14,m15,m16,m17,m18,m19,m20,m21,m22⟩:Mat)) hi
 have e:=Sz (QF (⟨⟨m0,m1,m2,m3,m4,m5,m6,m7,m8,m9,m10,m11,m12,m13⟩,m14,m15,m16,m17,m18,m19,m20,m21,m22⟩:Mat)) 1 16
 unfold cM
 rw [← e]
 refine AJ (Av (len:=16) (fun i=>[.rows (fmo [] (QF (⟨⟨m0,m1,m2,m3,m4,m5,m6,m7,m8,m9,m10,m11,m12,m13⟩,m14,m15,m16,m17,m18,m19,m20,m21,m22⟩:Mat)) 1 i),.int (1+(i:Int))]) [.rows (fmo [] (QF (⟨⟨m0,m1,m2,m3,m4,m5,m6,m7,m8,m9,m10,m11,m12,m13⟩,m14,m15,m16,m17,m18,m19,m20,m21,m22⟩:Mat)) 1 16)] ?_ ?_ N (by omega)) ?_
 ·intro self
  rfl
 ·intro i self hi
  have l:iLe (1+(i:Int)) 16=true:=by simp only [iLe,decide_eq_true_eq];omega
  have w:IntKind.u8.wrap (1+(i:Int)+1)=1+((i+1:Nat):Int):=by rw [Ye (by omega) (by omega)];omega
  have b1:=b0 i (by omega)
  have b2:=kA (⟨⟨m0,m1,m2,m3,m4,m5,m6,m7,m8,m9,m10,m11,m12,m13⟩,m14,m15,m16,m17,m18,m19,m20,m21,m22⟩:Mat) (1+(i:Int))
  rw [Br]
  generalize fmo [] (QF (⟨⟨m0,m1,m2,m3,m4,m5,m6,m7,m8,m9,m10,m11,m12,m13⟩,m14,m15,m16,m17,m18,m19,m20,m21,m22⟩:Mat)) 1 i=out at *
  have sm:iSm ((out.length+(QF (⟨⟨m0,m1,m2,m3,m4,m5,m6,m7,m8,m9,m10,m11,m12,m13⟩,m14,m15,m16,m17,m18,m19,m20,m21,m22⟩:Mat) (1+(i:Int))).length:Nat):Int) 136=true:=DV (by simp only [List.length_nil] at b1;omega) (by omega)
  simp only [PXb,PXc,PXn,AA,l,w,M6,OF,List.length_append,sm]
 ·rfl
theorem yfm (b:Bool) (f:Bool→Rows):fm (fun y=>f (y==1)) 0 (cond b 2 1)=yF b f:=by
 cases b with
 | false =>
  show []++f (0+((0:Nat):Int)==1)=f false++[]
  rw [List.nil_append,List.append_nil]
  rfl
 | true =>
  show ([]++f (0+((0:Nat):Int)==1))++f (0+((1:Nat):Int)==1)=f false++f true
  rw [List.nil_append]
  rfl
theorem vY {i n:Nat} (h:i<n):iLe (i:Int) ((n:Int) - 1)=true:=by simp only [iLe,decide_eq_true_eq];omega
theorem tZ (n:Nat):iLe (n:Int) ((n:Int) - 1)=false:=by simp only [iLe,decide_eq_false_iff_not];omega
end Go.Px
end
