/- Part 13. -/
import Derived.Test.YtdpnocjfbplgjaaGreatPart12
set_option linter.unusedVariables false
set_option linter.unusedSimpArgs false
section
namespace Go.Px
set_option maxRecDepth 100000
def lnx (xs:List Inn):Nat:=(IntKind.i64.wrap ((xs.length:Int) - 1)).toNat
def AY (m:Mat):Inn:=inn m.inns (lnx m.inns)
theorem Ne {n:Nat} (h:((n:Int)==0)=false) (hl:n≤1000000):iIn (IntKind.i64.wrap ((n:Int) - 1)) (n:Int)=true:=by
 rw [beq_eq_false_iff_ne] at h
 rw [Bs (by omega) (by omega)]
 simp only [iIn,decide_eq_true_eq];omega
theorem YQ {xs:List Inn} (h:((xs.length:Int)==0)=false) (hl:xs.length≤1000000):lnx xs<xs.length:=by
 rw [beq_eq_false_iff_ne] at h
 unfold lnx
 rw [Bs (by omega) (by omega)]
 omega
def Yn (r:Rul):Int:=cond (r.overs==0) 5 6
theorem Ka {N:Nat} {r1 r2 r3 r4 r5 r6 r7 r9 r10 r11 r12:Int} {r8:Bool} {r0:ByteArray} {r13:Rows}  : Bx N [.str r0,.int r1,.int r2,.int r3,.int r4,.int r5,.int r6,.int r7,.bool r8,.int r9,.int r10,.int r11,.int r12,.rows r13]=some [.int (Yn (⟨r0,r1,r2,r3,r4,r5,r6,r7,r8,r9,r10,r11,r12,r13⟩:Rul))]:=by
 show F7 (std (Pd N) N) (xOf _)=_
 simp only [F7,std,xOf,PXb,PXc,PXn,PXm,Nat.reduceAdd,Int.reduceBEq,Yn]
theorem TU {N:Nat} {m1 m2 m3 m4 m5 m6 m7 m9 m10 m11 m12 m14 m15 m18 m19 m20 m21 m22:Int} {m8 m16:Bool} {m0:ByteArray} {m13:Rows} {m17:List Inn} (h:((m17.length:Int)==0)=false) (hl:m17.length≤1000000):DR N [.str m0,.int m1,.int m2,.int m3,.int m4,.int m5,.int m6,.int m7,.bool m8,.int m9,.int m10,.int m11,.int m12,.rows m13,.int m14,.int m15,.bool m16,.rows (AR m17),.int m18,.int m19,.int m20,.int m21,.int m22]=some (inn m17 (lnx m17)).ls:=by
 show PS (std (J8 N) N) (xOf _)=_
 simp only [PS,std,xOf,PXb,PXc,PXn,PXm,Nat.reduceAdd,Int.reduceBEq,PXi,Ne h hl,lnx]
def qH (x:Int×Int×Int):List PV:=[.int x.1,.int x.2.1,.int x.2.2]
def NF (m:Mat):Int×Int×Int :=
  let n:Int:=m.inns.length
  let most:=IntKind.i64.wrap (2 * m.rules.innings)
  let x:=AY m
  cond (!CW m||n==0) (0,0,0) (cond (x.ending==5) (Yn m.rules,0,0) (cond (x.ending==0) (0,0,0)
    (cond (n==most&&iLe x.target x.runs) (2,x.side,IntKind.i64.wrap (IntKind.i64.wrap (m.rules.side - 1) - x.wickets)) (cond (n==most&&x.runs==IntKind.i64.wrap (x.target - 1)) (4,0,0)
      (cond (n==most) (1,BR x.side,IntKind.i64.wrap (IntKind.i64.wrap (x.target - 1) - x.runs))
        (cond (n==3&&iLt (BB m x.side) (BB m (BR x.side))) (3,BR x.side,IntKind.i64.wrap (BB m (BR x.side) - BB m x.side)) (0,0,0)))))))
set_option maxHeartbeats 4000000 in
theorem ko {N:Nat} {m1 m2 m3 m4 m5 m6 m7 m9 m10 m11 m12 m14 m15 m18 m19 m20 m21 m22:Int} {m8 m16:Bool} {m0:ByteArray} {m13:Rows} {m17:List Inn} (hf:Dp m17) (hN:2097152<N) (hl:m17.length≤1000000) (hs:m0.size≤1048576):GV N [.str m0,.int m1,.int m2,.int m3,.int m4,.int m5,.int m6,.int m7,.bool m8,.int m9,.int m10,.int m11,.int m12,.rows m13,.int m14,.int m15,.bool m16,.rows (AR m17),.int m18,.int m19,.int m20,.int m21,.int m22]=some (qH (NF (⟨⟨m0,m1,m2,m3,m4,m5,m6,m7,m8,m9,m10,m11,m12,m13⟩,m14,m15,m16,m17,m18,m19,m20,m21,m22⟩:Mat))):=by
 show Jb (std (DU N) N) (xOf _)=_
 generalize hres:(some (qH (NF (⟨⟨m0,m1,m2,m3,m4,m5,m6,m7,m8,m9,m10,m11,m12,m13⟩,m14,m15,m16,m17,m18,m19,m20,m21,m22⟩:Mat))):Option (List PV))=RR
 simp only [Jb,RW,Rp,RZ,NK,std,xOf,PXb,PXi,bB hf hN hl hs,Ii,Ka,Sj hN (show m17.length≤1048576 by omega)]
 subst hres;simp only [NF,AY,lnx]
 cases hv:CW (⟨⟨m0,m1,m2,m3,m4,m5,m6,m7,m8,m9,m10,m11,m12,m13⟩,m14,m15,m16,m17,m18,m19,m20,m21,m22⟩:Mat)
 case false=>rfl
 cases h0:(m17.length:Int)==0
 case true=>rfl
 simp only [PXb,Ne h0 hl]
 generalize inn m17 (IntKind.i64.wrap ((m17.length:Int) - 1)).toNat=x
 cases x.ending==5
 case true=>rfl
 cases x.ending==0
 case true=>rfl
 cases (m17.length:Int)==IntKind.i64.wrap (2 * m2)<;>cases iLe x.target x.runs<;>cases x.runs==IntKind.i64.wrap (x.target - 1)<;>try rfl
 all_goals (cases (m17.length:Int)==3<;>try rfl)
 all_goals (simp only [PXb];cases iLt (BB (⟨⟨m0,m1,m2,m3,m4,m5,m6,m7,m8,m9,m10,m11,m12,m13⟩,m14,m15,m16,m17,m18,m19,m20,m21,m22⟩:Mat) x.side) (BB (⟨⟨m0,m1,m2,m3,m4,m5,m6,m7,m8,m9,m10,m11,m12,m13⟩,m14,m15,m16,m17,m18,m19,m20,m21,m22⟩:Mat) (BR x.side))<;>rfl)
set_option maxHeartbeats 4000000 in
theorem pY {N:Nat} {m1 m2 m3 m4 m5 m6 m7 m9 m10 m11 m12 m14 m15 m18 m19 m20 m21 m22:Int} {m8 m16:Bool} {m0:ByteArray} {m13:Rows} {m17:List Inn} (hf:Dp m17) (hN:2097152<N) (hl:m17.length≤1000000) (hs:m0.size≤1048576):I9 N [.str m0,.int m1,.int m2,.int m3,.int m4,.int m5,.int m6,.int m7,.bool m8,.int m9,.int m10,.int m11,.int m12,.rows m13,.int m14,.int m15,.bool m16,.rows (AR m17),.int m18,.int m19,.int m20,.int m21,.int m22]=some (qH (NF (⟨⟨m0,m1,m2,m3,m4,m5,m6,m7,m8,m9,m10,m11,m12,m13⟩,m14,m15,m16,m17,m18,m19,m20,m21,m22⟩:Mat))):=by
 show I0 (std (CN N) N) (xOf _)=_
 generalize hres:(some (qH (NF (⟨⟨m0,m1,m2,m3,m4,m5,m6,m7,m8,m9,m10,m11,m12,m13⟩,m14,m15,m16,m17,m18,m19,m20,m21,m22⟩:Mat))):Option (List PV))=RR
 simp only [I0,VZ,Li,LQ,LR,std,xOf,PXb,PXi,Xe hf hN hl hs,Gq,MB hN (show m17.length≤1048576 by omega)]
 subst hres;simp only [NF,AY]
 cases hv:CW (⟨⟨m0,m1,m2,m3,m4,m5,m6,m7,m8,m9,m10,m11,m12,m13⟩,m14,m15,m16,m17,m18,m19,m20,m21,m22⟩:Mat)
 case false=>rfl
 cases h0:(m17.length:Int)==0
 case true=>rfl
 simp only [PXb,PXm,Li,TU h0 hl,LQ,LR,Gq,MB hN (show m17.length≤1048576 by omega)]
 generalize inn m17 (lnx m17)=x
 unfold Yn
 cases x.ending==5<;>cases m3==0<;>try rfl
 all_goals (cases x.ending==0<;>try rfl)
 all_goals (cases (m17.length:Int)==IntKind.i64.wrap (2 * m2)<;>cases iLe x.target x.runs<;>cases x.runs==IntKind.i64.wrap (x.target - 1)<;>try rfl)
 all_goals (cases (m17.length:Int)==3<;>try rfl)
 all_goals (simp only [PXb];cases iLt (BB (⟨⟨m0,m1,m2,m3,m4,m5,m6,m7,m8,m9,m10,m11,m12,m13⟩,m14,m15,m16,m17,m18,m19,m20,m21,m22⟩:Mat) x.side) (BB (⟨⟨m0,m1,m2,m3,m4,m5,m6,m7,m8,m9,m10,m11,m12,m13⟩,m14,m15,m16,m17,m18,m19,m20,m21,m22⟩:Mat) (BR x.side))<;>rfl)
theorem sW:∀ (n k:Nat) (f:Nat→Nat),(∀ i,i<k→1≤f i∧f i≤n)→(∀ i j,i<j→j<k→f i≠f j)→k≤n
 | 0,k,f,h,_=>by
  rcases Nat.eq_zero_or_pos k with e | e
  ·omega
  ·have:=h 0 e;omega
 | n+1,0,f,_,_=>by omega
 | n+1,k+1,f,h,hi=>by
  by_cases he:∃ j,j<k+1∧f j=n+1
  ·obtain ⟨j,hj,hfj⟩:=he
   have:=sW n k (fun i=>if i=j then f k else f i) (fun i hik=>by
    show 1≤(if i=j then f k else f i)∧(if i=j then f k else f i)≤n
    by_cases e:i=j
    ·rw [if_pos e]
     have h1:=h k (by omega)
     have:f k≠f j:=fun e2=>hi j k (by omega) (by omega) e2.symm
     omega
    ·rw [if_neg e]
     have h1:=h i (by omega)
     have:f i≠f j:=by
      rcases Nat.lt_or_gt_of_ne e with e2 | e2
      ·exact hi i j e2 hj
      ·exact fun e3=>hi j i e2 (by omega) e3.symm
     omega) (fun a b hab hb=>by
    show (if a=j then f k else f a)≠(if b=j then f k else f b)
    by_cases e1:a=j
    ·have e2:b≠j:=by omega
     rw [if_pos e1,if_neg e2]
     exact fun e3=>hi b k hb (by omega) e3.symm
    ·rw [if_neg e1]
     by_cases e2:b=j
     ·rw [if_pos e2];exact hi a k (by omega) (by omega)
     ·rw [if_neg e2];exact hi a b hab (by omega))
   omega
  ·have:=sW n (k+1) f (fun i hik=>by
    have h1:=h i hik
    have:f i≠n+1:=fun e=>he ⟨i,hik,e⟩
    omega) hi
   omega
theorem rb {L:Rows} {n:Int} (h:Ge L n=true) (hn:0≤n):(L.length:Int)≤n:=by
 unfold Ge at h
 rw [Bool.not_eq_true',IR] at h
 have hb:∀ i,i<L.length→1≤atI L i 0∧atI L i 0≤n:=fun i hi=>by
  have:=h i (by omega) (by omega)
  unfold Kv at this
  rw [Bool.or_eq_false_iff,Bool.not_eq_false',YX] at this
  exact this.1
 have:=sW n.toNat L.length (fun i=>(atI L i 0).toNat) (fun i hi=>by have:=hb i hi;show 1≤(atI L i 0).toNat∧(atI L i 0).toNat≤n.toNat;omega) (fun i j hij hj=>by
  show (atI L i 0).toNat≠(atI L j 0).toNat
  have h1:=hb i (by omega)
  have h2:=hb j hj
  have h3:=h j (by omega) (by omega)
  unfold Kv at h3
  rw [Bool.or_eq_false_iff] at h3
  have h4:=IR.1 h3.2 i (by omega) (by omega)
  rw [beq_eq_false_iff_ne] at h4
  omega)
 omega
theorem OI {r:Rul} {s:Inn} (h:EX r s=true):s.bowlers.length≤11∧s.before.length≤11∧s.Fit:=by
 have ok:=NO.1 h
 have hs:=AAa ok
 have h1:=rb ok.dw (by omega)
 have h2:=rb ok.df (by omega)
 have h3:=ok.lb
 have h4:=ok.ld
 have h5:=ok.lz
 exact ⟨by omega,by omega,by omega,by omega,by omega,by omega,by omega⟩
end Go.Px
end
section
namespace Go.Px
set_option maxRecDepth 100000
def WY (m:Mat) (e:Ev):Mat×Int :=
  let sd:=CO m (m.inns.length:Int)
  let b:=BZ m.rules sd (E6 m sd) (cond (sd==2) m.pen2 m.pen1)
  let t:=Ar m.rules b.1 e
  cond (!(b.2==0)) (m,1) (cond (!(t.2==0)) (m,t.2)
    ({ m with stage:=3,inns:=m.inns++[t.1],pen1:=cond (sd==1) 0 m.pen1,pen2:=cond (sd==2) 0 m.pen2 },0))
def Mb (xs:List Inn) (sd:Int):Nat→Option Nat
 | 0=>none
 | k+1=>cond ((inn xs k).side==sd) (some k) (Mb xs sd k)
def HM (m:Mat) (sd:Int):Mat:=match Mb m.inns sd m.inns.length with
 | some k=>{ m with inns:=m.inns.set k (JW (inn m.inns k)) }
 | none=>{ m with pen1:=cond (sd==1) (IntKind.i64.wrap (m.pen1+5)) m.pen1,pen2:=cond (sd==2) (IntKind.i64.wrap (m.pen2+5)) m.pen2 }
def Em (m:Mat) (e:Ev):Mat×Int :=
 let t:=Ar m.rules (AY m) e
 cond (!(t.2==0)) (m,t.2) (cond (e.kind==13 && !(e.side==t.1.side)) (HM { m with inns:=m.inns.set (lnx m.inns) t.1 } e.side) { m with inns:=m.inns.set (lnx m.inns) t.1 },0)
def fK (m:Mat):Mat:={ m with inns:=cond (m.stage==3) (m.inns.set (lnx m.inns) { AY m with ending:=5 }) m.inns,stage:=5,win:=Yn m.rules,wside:=0,margin:=0 }
def Gl (m:Mat) (e:Ev):Mat×Int :=
  cond (e.kind==1) (cond (!(m.stage==1)) (m,1) ({ m with first:=cond e.yes e.side (BR e.side),stage:=2 },0))
    (cond (e.kind==2) (cond (!(m.stage==2)) (m,1) (WY m e))
      (cond (e.kind==12) (cond (!(m.stage==4)) (m,1) (cond (!(e.side==m.first)) (m,2) ({ m with follow:=e.yes,stage:=2 },0)))
        (cond (e.kind==16) (fK m,0) (cond (!(m.stage==3)) (m,1) (Em m e)))))
def Nd (m:Mat):Mat :=
  let n:Int:=m.inns.length
  let sd:=(AY m).side
  let o:=NF { m with stage:=5 }
  cond (n==IntKind.i64.wrap (2 * m.rules.innings)||(n==3&&iLt (BB m sd) (BB m (BR sd)))) { m with stage:=5,win:=o.1,wside:=o.2.1,margin:=o.2.2 }
    (cond (n==2&&iLt 0 m.rules.followon&&iLe m.rules.followon (IntKind.i64.wrap (BB m m.first - BB m (BR m.first)))) { m with stage:=4 } { m with stage:=2 })
def B4 (m:Mat):Mat:=cond (m.stage==3 && !((AY m).ending==0)) (Nd m) m
def CM (m:Mat) (e:Ev):Mat×Int :=
 cond (!CW m || !(evS e==0)) (m,1) (cond (m.stage==5) (m,26) (cond (!((Gl m e).2==0)) (m,(Gl m e).2) (B4 (Gl m e).1,0)))
theorem bind_ok {X:Option (List PV)} {r:List PV} {k:List PV→Option (List PV)} {g:Option (List PV)} (h:X=some r) (hk:k r=g):X.bind k=g:=by rw [h];exact hk
structure MatOk (m:Mat):Prop where
 code:A1 m.rules=0
 len:m.inns.length≤4
 innv:∀ i,i<m.inns.length→EX m.rules (inn m.inns i)=true∧(inn m.inns i).side=CO m (i:Int)
 begun:(m.stage==3)=true→((m.inns.length:Int)==0)=false
 toss:(m.stage==2)=true→m.first=1∨m.first=2
 room:(m.stage==2)=true→(m.inns.length:Int)<2 * m.rules.innings
 most:IntKind.i64.wrap (2 * m.rules.innings)=2 * m.rules.innings∧(m.inns.length:Int)≤2 * m.rules.innings
theorem U6 {m:Mat} (h:CW m=true):MatOk m:=by
 unfold CW j9 at h
 simp only [Bool.and_eq_true,Bool.not_eq_true'] at h
 obtain ⟨⟨h1,h2,h3,h4,h5,h6,h7,h8,h9,h10⟩,h11,h12⟩:=h
 have hc:=beq_iff_eq.1 h1
 have rk:=(Dn hc).innings
 have e2:IntKind.i64.wrap (2 * m.rules.innings)=2 * m.rules.innings:=Bs (by omega) (by omega)
 rw [e2] at h5 h8
 rw [Bool.or_eq_false_iff,Bool.or_eq_false_iff] at h5
 have hn:=h5.2
 have hf1:=h5.1.1
 have hf2:=h5.1.2
 simp only [iLt,decide_eq_false_iff_not] at hn hf1 hf2
 refine ⟨hc,by omega,fun i hi=>?_,fun hs=>?_,fun hs=>?_,fun hs=>?_,e2,by omega⟩
 ·have:=IR.1 h11 i (by omega) (by omega)
  unfold KJ at this
  rw [Bool.or_eq_false_iff,Bool.not_eq_false',Bool.not_eq_false',beq_iff_eq] at this
  exact this
 ·unfold Yj at h12
  rw [hs,Bool.and_eq_true] at h12
  have:=h12.2
  simp only [iLt,Bool.not_true,Bool.false_or,decide_eq_true_eq] at this
  exact beq_false_of_ne (by omega)
 ·rw [beq_iff_eq.1 hs] at h6
  cases h0:m.first==0 with
  | true=>rw [h0] at h6;simp at h6
  | false =>
   rw [beq_eq_false_iff_ne] at h0
   omega
 ·rw [hs,Bool.true_and,beq_eq_false_iff_ne] at h8
  omega
theorem sO {m:Mat} (h:m.first=1∨m.first=2) (i:Int):CO m i=1∨CO m i=2:=by
 unfold CO
 cases cond (m.follow&&iLe 2 i) (i==2) (i.tmod 2==1) with
 | false=>exact h
 | true=>rcases h with h | h<;>rw [h]<;>decide
theorem oT {m:Mat} (h:MatOk m):Dp m.inns:=fun i hi=>(OI (h.innv i hi).1).2.2
theorem aO {F : (List Ac → Option (List PV)) → List PV → Option (List PV)} {len : Nat} (enc : Nat → List Ac) (ans : Nat → Option (List PV))
    (h0:∀ self,F self ((enc len).map Leaf.pv)=some [.int 1]) (h1:∀ i self,i<len→F self ((enc i).map Leaf.pv)=match ans i with | some r=>some (.int 0::r) | none=>self (enc (i+1))) :
    ∀ (k i n:Nat),i+k=len→k<n→ES F n ((enc i).map Leaf.pv)=some (TJ (CL ans k i))
  | 0,i,n,hk,hn=>by
    obtain ⟨n,rfl⟩:∃ m,n=m+1:=⟨n - 1,by omega⟩
    obtain rfl:i=len:=by omega
    exact h0 _
  | k+1,i,n,hk,hn=>by
    obtain ⟨n,rfl⟩:∃ m,n=m+1:=⟨n - 1,by omega⟩
    show F _ _=_
    rw [h1 i _ (by omega)]
    simp only [CL]
    cases ans i with
    | some r=>rfl
    | none=>exact aO enc ans h0 h1 k (i+1) n (by omega) (by omega)
theorem nO (ys:List Inn) (sd:Int) (g:Nat→List PV) (n:Nat):∀ k,k≤n→CL (fun j=>cond ((inn ys (n - 1 - j)).side==sd) (some (g (n - 1 - j))) none) k (n - k)=(Mb ys sd k).map g
 | 0,_=>rfl
 | k+1,h=>by
  have ih:=nO ys sd g n k (by omega)
  have e:n - 1 - (n - (k+1))=k:=by omega
  have e2:n - (k+1)+1=n - k:=by omega
  simp only [CL,Mb,e,e2,ih]
  cases (inn ys k).side==sd<;>rfl
theorem fJ (xs:List Inn) (k:Nat) (s:Inn) (i:Nat) (hi:i<xs.length):inn (xs.set k s) i=(if k=i then s else inn xs i):=by
 rw [Pi,Pi,List.getElem?_set]
 by_cases h:k=i
 ·subst h
  rw [if_pos rfl,if_pos rfl,if_pos hi]
 ·rw [if_neg h,if_neg h]
theorem P7 {xs:List Inn} {s:Inn} (k:Nat) (h:Dp xs) (hs:s.Fit):Dp (xs.set k s):=fun i hi=>by
 rw [List.length_set] at hi
 rw [fJ xs k s i hi]
 by_cases e:k=i
 ·rw [if_pos e];exact hs
 ·rw [if_neg e];exact h i hi
theorem nr {e:Ev} (h:(evS e==0)=true) (hk:(e.kind==13)=true):e.side=1∨e.side=2:=by
 have h0:=fV h
 rw [beq_iff_eq] at hk
 unfold evS at h
 rw [h0] at h
 cases h1:mR e with
 | true=>rw [h1] at h;cases h
 | false =>
  cases h2:cg e with
  | true=>rw [h1,h2] at h;cases h
  | false =>
   unfold cg at h2
   rw [Bool.or_eq_false_iff] at h2
   have h3:=h2.1
   rw [hk,show uS 13=true from rfl,Bool.and_true] at h3
   simp only [btw,iLe,Bool.not_eq_false',Bool.and_eq_true,decide_eq_true_eq] at h3
   omega
theorem AAP (xs:List Inn) (s:Inn) (i:Nat) (hi:i<xs.length+1):inn (xs++[s]) i=(if i<xs.length then inn xs i else s):=by
 rw [Pi,Pi]
 by_cases h:i<xs.length
 ·rw [if_pos h,List.getElem?_append_left h]
 ·have:i=xs.length:=by omega
  subst this
  rw [if_neg h,List.getElem?_append_right (Nat.le_refl _),Nat.sub_self]
  rfl
theorem yh {xs:List Inn} {s:Inn} (h:Dp xs) (hs:s.Fit):Dp (xs++[s]):=fun i hi=>by
 rw [List.length_append] at hi
 rw [AAP xs s i hi]
 by_cases e:i<xs.length
 ·rw [if_pos e];exact h i e
 ·rw [if_neg e];exact hs
theorem mi (r:Rul) (a b c:Int) (e:Ev):(Ar r (BZ r a b c).1 e).1.Fit:=by
 obtain ⟨f,h1,h2⟩:=Ig r a b c
 exact Km (Rg r _ e) f (by rw [h1,h2];exact Nat.zero_le _)
structure ActOk (m:Mat) (x:Mat×Int):Prop where
 rules:x.1.rules=m.rules
 fit:Dp x.1.inns
 len:x.1.inns.length≤5
 some':(x.2==0)=true→(x.1.stage==3)=true→((x.1.inns.length:Int)==0)=false
theorem A_c {m:Mat} (b:Bool) (x y:Mat×Int) (hx:ActOk m x) (hy:ActOk m y):ActOk m (cond b x y):=by cases b<;>assumption
theorem sZ {m:Mat} (sd:Int) (hf:Dp m.inns):(HM m sd).rules=m.rules∧Dp (HM m sd).inns∧(HM m sd).inns.length=m.inns.length∧(HM m sd).stage=m.stage:=by
 unfold HM
 cases h:Mb m.inns sd m.inns.length with
 | none=>exact ⟨rfl,hf,rfl,rfl⟩
 | some k =>
  have hk:k<m.inns.length:=by
   have:∀ n,Mb m.inns sd n=some k→k<n:=by
    intro n
    induction n with
    | zero=>intro h;cases h
    | succ n ih =>
     intro h
     unfold Mb at h
     cases hq:(inn m.inns n).side==sd with
     | true=>rw [hq] at h;cases h;omega
     | false=>rw [hq] at h;have:=ih h;omega
   exact this _ h
  exact ⟨rfl,P7 k hf (AAH (hf k hk)),List.length_set,rfl⟩
theorem rK {m:Mat} (ok:MatOk m) (e:Ev):ActOk m (Gl m e):=by
 have hf:=oT ok
 have hl:=ok.len
 have self:∀ n:Int,(n==0)=false→ActOk m (m,n):=fun n hn=>⟨rfl,hf,by show m.inns.length≤5;omega,fun h=>by rw [hn] at h;cases h⟩
 unfold Gl
 refine A_c _ _ _ (A_c _ _ _ (self 1 rfl) ⟨rfl,hf,by show m.inns.length≤5;omega,fun _ h=>by cases h⟩) (A_c _ _ _ ?_ (A_c _ _ _ ?_ (A_c _ _ _ ?_ ?_)))
 ·refine A_c _ _ _ (self 1 rfl) ?_
  unfold WY
  refine A_c _ _ _ (self 1 rfl) ?_
  cases hq:(Ar m.rules (BZ m.rules (CO m (m.inns.length:Int)) (E6 m (CO m (m.inns.length:Int))) (cond (CO m (m.inns.length:Int)==2) m.pen2 m.pen1)).1 e).2==0 with
  | false =>
   simp only [Bool.not_false,cond_true]
   exact self _ hq
  | true =>
   simp only [Bool.not_true,cond_false]
   exact ⟨rfl,yh hf (mi _ _ _ _ e),by simp;omega,fun _ _=>by
    show ((((m.inns++[_]).length:Nat):Int)==0)=false
    rw [List.length_append]
    exact beq_false_of_ne (by simp;omega)⟩
 ·exact A_c _ _ _ (self 1 rfl) (A_c _ _ _ (self 2 rfl) ⟨rfl,hf,by show m.inns.length≤5;omega,fun _ h=>by cases h⟩)
 ·unfold fK
  cases h3:m.stage==3 with
  | false=>exact ⟨rfl,hf,by show m.inns.length≤5;omega,fun _ h=>by cases h⟩
  | true =>
   have h0:=ok.begun h3
   have fl:=hf (lnx m.inns) (YQ h0 (by omega))
   exact ⟨rfl,P7 _ hf ⟨fl.bt,fl.bw,fl.bf,fl.bd,fl.sb⟩,by show (m.inns.set _ _).length≤5;rw [List.length_set];omega,fun _ h=>by cases h⟩
 ·cases h3:m.stage==3 with
  | false=>exact self 1 rfl
  | true =>
   have h0:=ok.begun h3
   have lv:=OI (ok.innv (lnx m.inns) (YQ h0 (by omega))).1
   have h1:=lv.1
   have h2:=lv.2.1
   have ft:=Km (Rg m.rules (AY m) e) lv.2.2 (show (inn m.inns (lnx m.inns)).before.length+(inn m.inns (lnx m.inns)).bowlers.length≤1048575 by omega)
   simp only [Bool.not_true,cond_false,Em]
   cases hq:(Ar m.rules (AY m) e).2==0 with
   | false =>
    simp only [Bool.not_false,Bool.not_true,cond_true,cond_false]
    exact self _ hq
   | true =>
    have fs:=P7 (lnx m.inns) hf ft
    have ln:(m.inns.set (lnx m.inns) (Ar m.rules (AY m) e).1).length=m.inns.length:=List.length_set
    simp only [Bool.not_true,cond_false]
    cases (e.kind==13 && !(e.side==(Ar m.rules (AY m) e).1.side)) with
    | false =>
     exact ⟨rfl,fs,by show (m.inns.set _ _).length≤5;omega,fun _ _=>by
      show ((((m.inns.set _ _).length:Nat):Int)==0)=false
      rw [ln];exact h0⟩
    | true =>
     obtain ⟨a1,a2,a3,a4⟩:=sZ (m:={ m with inns:=m.inns.set (lnx m.inns) (Ar m.rules (AY m) e).1 }) e.side fs
     exact ⟨a1,a2,by show (HM _ _).inns.length≤5;rw [a3];show (m.inns.set _ _).length≤5;omega,fun _ _=>by
      show ((((HM _ _).inns.length:Nat):Int)==0)=false
      rw [a3]
      show ((((m.inns.set _ _).length:Nat):Int)==0)=false
      rw [ln];exact h0⟩
end Go.Px
end
section
namespace Go.Px
set_option maxRecDepth 100000
set_option maxHeartbeats 8000000 in
theorem su {N:Nat} {m1 m2 m3 m4 m5 m6 m7 m9 m10 m11 m12 m14 m15 m18 m19 m20 m21 m22:Int} {m8 m16:Bool} {m0:ByteArray} {m13:Rows} {m17:List Inn} {e0 e1 e2 e3 e5 e6 e7 e8 e9 e10 e11 e13 e14 e15 e16 e18:Int} {e4 e12 e17:Bool} (hN:2097152<N) (hf:Dp m17) (hl:m17.length≤1000000) (hs:m0.size≤1048576) (h13:m13.length≤1048576):PY N [.str m0,.int m1,.int m2,.int m3,.int m4,.int m5,.int m6,.int m7,.bool m8,.int m9,.int m10,.int m11,.int m12,.rows m13,.int m14,.int m15,.bool m16,.rows (AR m17),.int m18,.int m19,.int m20,.int m21,.int m22,.int e0,.int e1,.int e2,.int e3,.bool e4,.int e5,.int e6,.int e7,.int e8,.int e9,.int e10,.int e11,.bool e12,.int e13,.int e14,.int e15,.int e16,.bool e17,.int e18]=some (Gz (CM (⟨⟨m0,m1,m2,m3,m4,m5,m6,m7,m8,m9,m10,m11,m12,m13⟩,m14,m15,m16,m17,m18,m19,m20,m21,m22⟩:Mat) (⟨e0,e1,e2,e3,e4,e5,e6,⟨e7,e8,e9,e10,e11,e12,e13,e14,e15,e16,e17,e18⟩⟩:Ev))):=by
 show O0 (std (BE N) N) (xOf _)=_
 generalize hres:(some (Gz (CM (⟨⟨m0,m1,m2,m3,m4,m5,m6,m7,m8,m9,m10,m11,m12,m13⟩,m14,m15,m16,m17,m18,m19,m20,m21,m22⟩:Mat) (⟨e0,e1,e2,e3,e4,e5,e6,⟨e7,e8,e9,e10,e11,e12,e13,e14,e15,e16,e17,e18⟩⟩:Ev))):Option (List PV))=RR
 simp only [O0,UB,Uc,VM,FX,FR,Kb,Iw,ET,Ej,DD,Dc,HL,std,xOf,PXb,bB hf hN hl hs,bp hN,pC hf hN hl h13]
 subst hres;simp only [CM]
 cases hv:CW (⟨⟨m0,m1,m2,m3,m4,m5,m6,m7,m8,m9,m10,m11,m12,m13⟩,m14,m15,m16,m17,m18,m19,m20,m21,m22⟩:Mat)
 case false=>rfl
 cases he:evS (⟨e0,e1,e2,e3,e4,e5,e6,⟨e7,e8,e9,e10,e11,e12,e13,e14,e15,e16,e17,e18⟩⟩:Ev)==0
 case false=>simp only [PXb,he];rfl
 simp only [PXb,he]
 cases h5:m14==5
 case true=>rfl
 simp only [PXb]
 have ok:=U6 hv
 refine bind_ok (r:=.int (Gl (⟨⟨m0,m1,m2,m3,m4,m5,m6,m7,m8,m9,m10,m11,m12,m13⟩,m14,m15,m16,m17,m18,m19,m20,m21,m22⟩:Mat) (⟨e0,e1,e2,e3,e4,e5,e6,⟨e7,e8,e9,e10,e11,e12,e13,e14,e15,e16,e17,e18⟩⟩:Ev)).2::(Gl (⟨⟨m0,m1,m2,m3,m4,m5,m6,m7,m8,m9,m10,m11,m12,m13⟩,m14,m15,m16,m17,m18,m19,m20,m21,m22⟩:Mat) (⟨e0,e1,e2,e3,e4,e5,e6,⟨e7,e8,e9,e10,e11,e12,e13,e14,e15,e16,e17,e18⟩⟩:Ev)).1.ls) ?_ ?_
 ·unfold Gl
  cases hk1:e0==1
  case true =>
   simp only [PXb,FR,Ii]
   cases m14==1<;>cases e4<;>rfl
  cases hk2:e0==2
  case true =>
   simp only [PXb]
   cases hs2:m14==2
   case false=>rfl
   have hl2:m17.length≤1048576:=by omega
   have h304:iSm ((m17.length+1:Nat):Int) 304=true:=DF (by omega) (by omega)
   have fb:=fun a b c=>(Ig (⟨⟨m0,m1,m2,m3,m4,m5,m6,m7,m8,m9,m10,m11,m12,m13⟩,m14,m15,m16,m17,m18,m19,m20,m21,m22⟩:Mat).rules a b c).1
   have wb:∀ a b c,(BZ (⟨⟨m0,m1,m2,m3,m4,m5,m6,m7,m8,m9,m10,m11,m12,m13⟩,m14,m15,m16,m17,m18,m19,m20,m21,m22⟩:Mat).rules a b c).1.before.length+(BZ (⟨⟨m0,m1,m2,m3,m4,m5,m6,m7,m8,m9,m10,m11,m12,m13⟩,m14,m15,m16,m17,m18,m19,m20,m21,m22⟩:Mat).rules a b c).1.bowlers.length≤1000000:=fun a b c=>by
    rw [(Ig (⟨⟨m0,m1,m2,m3,m4,m5,m6,m7,m8,m9,m10,m11,m12,m13⟩,m14,m15,m16,m17,m18,m19,m20,m21,m22⟩:Mat).rules a b c).2.1,(Ig (⟨⟨m0,m1,m2,m3,m4,m5,m6,m7,m8,m9,m10,m11,m12,m13⟩,m14,m15,m16,m17,m18,m19,m20,m21,m22⟩:Mat).rules a b c).2.2]
    exact Nat.zero_le _
   rcases sO (m:=(⟨⟨m0,m1,m2,m3,m4,m5,m6,m7,m8,m9,m10,m11,m12,m13⟩,m14,m15,m16,m17,m18,m19,m20,m21,m22⟩:Mat)) (ok.toss hs2) (m17.length:Int) with ho | ho
   ·simp only [PXb,PXc,Cj,VR,Nat.reduceAdd,Int.reduceBEq,PXi,PXr,Inn.eta,AZ,List.length_append,List.length_cons,List.length_nil,h304,WY,FX,Ej,ET,DD,Se,YO hN hl2,V2 hN hs,P8 (fb _ _ _) (wb _ _ _) hN hs h13,ho,wr1,wr2,XG,W2]
    cases (BZ (⟨⟨m0,m1,m2,m3,m4,m5,m6,m7,m8,m9,m10,m11,m12,m13⟩,m14,m15,m16,m17,m18,m19,m20,m21,m22⟩:Mat).rules 1 (E6 (⟨⟨m0,m1,m2,m3,m4,m5,m6,m7,m8,m9,m10,m11,m12,m13⟩,m14,m15,m16,m17,m18,m19,m20,m21,m22⟩:Mat) 1) m18).2==0<;>try rfl
    cases (Ar (⟨⟨m0,m1,m2,m3,m4,m5,m6,m7,m8,m9,m10,m11,m12,m13⟩,m14,m15,m16,m17,m18,m19,m20,m21,m22⟩:Mat).rules (BZ (⟨⟨m0,m1,m2,m3,m4,m5,m6,m7,m8,m9,m10,m11,m12,m13⟩,m14,m15,m16,m17,m18,m19,m20,m21,m22⟩:Mat).rules 1 (E6 (⟨⟨m0,m1,m2,m3,m4,m5,m6,m7,m8,m9,m10,m11,m12,m13⟩,m14,m15,m16,m17,m18,m19,m20,m21,m22⟩:Mat) 1) m18).1 (⟨e0,e1,e2,e3,e4,e5,e6,⟨e7,e8,e9,e10,e11,e12,e13,e14,e15,e16,e17,e18⟩⟩:Ev)).2==0<;>rfl
   ·simp only [PXb,PXc,Cj,VR,Nat.reduceAdd,Int.reduceBEq,PXi,PXr,Inn.eta,AZ,List.length_append,List.length_cons,List.length_nil,h304,WY,FX,Ej,ET,DD,Se,YO hN hl2,V2 hN hs,P8 (fb _ _ _) (wb _ _ _) hN hs h13,ho,wr1,wr2,XG,W2]
    cases (BZ (⟨⟨m0,m1,m2,m3,m4,m5,m6,m7,m8,m9,m10,m11,m12,m13⟩,m14,m15,m16,m17,m18,m19,m20,m21,m22⟩:Mat).rules 2 (E6 (⟨⟨m0,m1,m2,m3,m4,m5,m6,m7,m8,m9,m10,m11,m12,m13⟩,m14,m15,m16,m17,m18,m19,m20,m21,m22⟩:Mat) 2) m19).2==0<;>try rfl
    cases (Ar (⟨⟨m0,m1,m2,m3,m4,m5,m6,m7,m8,m9,m10,m11,m12,m13⟩,m14,m15,m16,m17,m18,m19,m20,m21,m22⟩:Mat).rules (BZ (⟨⟨m0,m1,m2,m3,m4,m5,m6,m7,m8,m9,m10,m11,m12,m13⟩,m14,m15,m16,m17,m18,m19,m20,m21,m22⟩:Mat).rules 2 (E6 (⟨⟨m0,m1,m2,m3,m4,m5,m6,m7,m8,m9,m10,m11,m12,m13⟩,m14,m15,m16,m17,m18,m19,m20,m21,m22⟩:Mat) 2) m19).1 (⟨e0,e1,e2,e3,e4,e5,e6,⟨e7,e8,e9,e10,e11,e12,e13,e14,e15,e16,e17,e18⟩⟩:Ev)).2==0<;>rfl
  cases hk3:e0==12
  case true =>
   simp only [PXb]
   cases m14==4<;>cases e1==m15<;>rfl
  cases hk4:e0==16
  case true =>
   simp only [PXb,fK]
   cases h3:m14==3
   case false=>simp only [PXb,PXc,PXi,PXr,Cj,Nat.reduceAdd,Dc,Ka];rfl
   simp only [PXb,PXc,PXi,PXr,Cj,Nat.reduceAdd,Ne (ok.begun h3) hl,Dc,Ka]
   rfl
  simp only [PXb]
  cases h3:m14==3
  case false=>rfl
  have h0:=ok.begun h3
  have lv:=OI (ok.innv (lnx m17) (YQ h0 hl)).1
  have fl:(inn m17 (IntKind.i64.wrap ((m17.length:Int) - 1)).toNat).Fit:=lv.2.2
  have wl:(inn m17 (IntKind.i64.wrap ((m17.length:Int) - 1)).toNat).before.length+(inn m17 (IntKind.i64.wrap ((m17.length:Int) - 1)).toNat).bowlers.length≤1000000:=by
   have h1:=lv.1
   have h2:=lv.2.1
   change (inn m17 (IntKind.i64.wrap ((m17.length:Int) - 1)).toNat).bowlers.length≤11 at h1
   change (inn m17 (IntKind.i64.wrap ((m17.length:Int) - 1)).toNat).before.length≤11 at h2
   omega
  have f1:=Km (Rg (⟨⟨m0,m1,m2,m3,m4,m5,m6,m7,m8,m9,m10,m11,m12,m13⟩,m14,m15,m16,m17,m18,m19,m20,m21,m22⟩:Mat).rules (inn m17 (IntKind.i64.wrap ((m17.length:Int) - 1)).toNat) (⟨e0,e1,e2,e3,e4,e5,e6,⟨e7,e8,e9,e10,e11,e12,e13,e14,e15,e16,e17,e18⟩⟩:Ev)) fl (by omega)
  simp only [PXb,PXc,PXi,PXr,AZ,Inn.eta,Cj,Nat.reduceAdd,List.length_set,Ne h0 hl,DD,P8 fl wl hN hs h13,Em,AY,lnx]
  generalize hX:Ar (⟨⟨m0,m1,m2,m3,m4,m5,m6,m7,m8,m9,m10,m11,m12,m13⟩,m14,m15,m16,m17,m18,m19,m20,m21,m22⟩:Mat).rules (inn m17 (IntKind.i64.wrap ((m17.length:Int) - 1)).toNat) (⟨e0,e1,e2,e3,e4,e5,e6,⟨e7,e8,e9,e10,e11,e12,e13,e14,e15,e16,e17,e18⟩⟩:Ev)=X at f1
  have fy:=P7 (IntKind.i64.wrap ((m17.length:Int) - 1)).toNat hf f1
  generalize hy:m17.set (IntKind.i64.wrap ((m17.length:Int) - 1)).toNat X.1=ys at fy
  have ly:ys.length=m17.length:=by rw [← hy,List.length_set]
  cases X.2==0<;>try rfl
  cases h13k:e0==13
  case false=>rfl
  cases hsd:e1==X.1.side
  case true=>rfl
  simp only [PXb,Option.bind_assoc]
  have e0w:IntKind.i64.wrap ((m17.length:Int) - 1)=(m17.length:Int) - 1 - ((0:Nat):Int):=by
   rw [beq_eq_false_iff_ne] at h0
   rw [Bs (by omega) (by omega)];omega
  rw [e0w]
  have hside:=nr (e:=(⟨e0,e1,e2,e3,e4,e5,e6,⟨e7,e8,e9,e10,e11,e12,e13,e14,e15,e16,e17,e18⟩⟩:Ev)) he h13k
  simp only at hside
  refine AL (aO (len:=m17.length) (fun j=>[.int ((m17.length:Int) - 1 - (j:Int))]) (fun j=>cond ((inn ys (m17.length - 1 - j)).side==e1) (some [PV.str m0,PV.int m1,PV.int m2,PV.int m3,PV.int m4,PV.int m5,PV.int m6,PV.int m7,PV.bool m8,PV.int m9,PV.int m10,PV.int m11,PV.int m12,PV.rows m13,PV.int m14,PV.int m15,PV.bool m16,PV.rows (AR (ys.set (m17.length - 1 - j) (JW (inn ys (m17.length - 1 - j))))),PV.int m18,PV.int m19,PV.int m20,PV.int m21,PV.int m22]) none) ?_ ?_ m17.length 0 N (by omega) (by omega)) ?_
  ·intro self
   have q1:iLe 0 ((m17.length:Int) - 1 - (m17.length:Int))=false:=by simp only [iLe,decide_eq_false_iff_not];omega
   simp only [PXb,q1]
  ·intro i self hi
   have q1:iLe 0 ((m17.length:Int) - 1 - (i:Int))=true:=by simp only [iLe,decide_eq_true_eq];omega
   have q2:iIn ((m17.length:Int) - 1 - (i:Int)) (m17.length:Int)=true:=by simp only [iIn,decide_eq_true_eq];omega
   have q3:((m17.length:Int) - 1 - (i:Int)).toNat=m17.length - 1 - i:=by omega
   have q4:IntKind.i64.wrap ((m17.length:Int) - 1 - (i:Int) - 1)=(m17.length:Int) - 1 - ((i+1:Nat):Int):=by rw [Bs (by omega) (by omega)];omega
   have q5:=fy (m17.length - 1 - i) (by omega)
   simp only [PXb,PXc,q1,q2,q3,q4,HL,S0 q5,PXm]
   cases (inn ys (m17.length - 1 - i)).side==e1<;>rfl
  ·have hfa:=nO ys e1 (fun k=>[PV.str m0,PV.int m1,PV.int m2,PV.int m3,PV.int m4,PV.int m5,PV.int m6,PV.int m7,PV.bool m8,PV.int m9,PV.int m10,PV.int m11,PV.int m12,PV.rows m13,PV.int m14,PV.int m15,PV.bool m16,PV.rows (AR (ys.set k (JW (inn ys k)))),PV.int m18,PV.int m19,PV.int m20,PV.int m21,PV.int m22]) m17.length m17.length (Nat.le_refl _)
   rw [Nat.sub_self] at hfa
   rw [hfa]
   unfold HM
   simp only [ly]
   cases Mb ys e1 m17.length with
   | some k=>rfl
   | none =>
    rcases hside with h | h<;>subst h
    ·simp only [Option.map_none,TJ,PXb,PXc,Cj,Int.reduceBEq,wr1,XG]
     rfl
    ·simp only [Option.map_none,TJ,PXb,PXc,Cj,Int.reduceBEq,wr2,W2]
     rfl
 ·have ak:=rK ok (⟨e0,e1,e2,e3,e4,e5,e6,⟨e7,e8,e9,e10,e11,e12,e13,e14,e15,e16,e17,e18⟩⟩:Ev)
  generalize Gl (⟨⟨m0,m1,m2,m3,m4,m5,m6,m7,m8,m9,m10,m11,m12,m13⟩,m14,m15,m16,m17,m18,m19,m20,m21,m22⟩:Mat) (⟨e0,e1,e2,e3,e4,e5,e6,⟨e7,e8,e9,e10,e11,e12,e13,e14,e15,e16,e17,e18⟩⟩:Ev)=A at ak
  obtain ⟨⟨⟨a0,a1,a2,a3,a4,a5,a6,a7,a8,a9,a10,a11,a12,a13⟩,a14,a15,a16,a17,a18,a19,a20,a21,a22⟩,l⟩:=A
  obtain ⟨k1,k2,k3,k4⟩:=ak
  simp only at k1 k2 k3 k4
  have hl5:a17.length≤1048576:=by omega
  have hs5:a0.size≤1048576:=by
   have:=congrArg Rul.name k1
   simp only at this
   rw [this];exact hs
  simp only [PXb,PXc,PXk,PXi,Cj,Nat.reduceAdd]
  cases hl0:l==0
  case false=>rfl
  simp only [PXb,B4]
  cases h3:a14==3
  case false=>rfl
  have h0:=k4 hl0 h3
  have li:=Ne h0 (show a17.length≤1000000 by omega)
  simp only [PXb,PXc,PXi,li]
  cases he2:(inn a17 (IntKind.i64.wrap ((a17.length:Int) - 1)).toNat).ending==0
  case true=>simp only [PXb,AY,lnx,he2]
  simp only [PXb,PXc,PXi,AY,lnx,he2,Kb,FR,Iw,Sj hN hl5,Ii,ko k2 hN (show a17.length≤1000000 by omega) hs5]
  unfold Nd
  simp only [AY,lnx]
  simp only [BB,AY,lnx]
  cases hq1:((a17.length:Int)==IntKind.i64.wrap (2 * a2))
  case true=>rfl
  cases hq2:((a17.length:Int)==3)
  case true =>
   simp only [PXb]
   cases iLt (Gh a17 (inn a17 (IntKind.i64.wrap ((a17.length:Int) - 1)).toNat).side a17.length) (Gh a17 (BR (inn a17 (IntKind.i64.wrap ((a17.length:Int) - 1)).toNat).side) a17.length)
   case true=>rfl
   simp only [PXb]
   cases ((a17.length:Int)==2)&&iLt 0 a10&&iLe a10 (IntKind.i64.wrap (Gh a17 a15 a17.length - Gh a17 (BR a15) a17.length))<;>rfl
  simp only [PXb]
  cases ((a17.length:Int)==2)&&iLt 0 a10&&iLe a10 (IntKind.i64.wrap (Gh a17 a15 a17.length - Gh a17 (BR a15) a17.length))<;>rfl
end Go.Px
end
section
namespace Go.Px
set_option maxRecDepth 100000
def UK (m:Mat):Int:=cond (!CW m) 0 (cond (m.stage==3) (AY m).side (cond (m.stage==2) (CO m (m.inns.length:Int)) 0))
theorem pH {N:Nat} {m1 m2 m3 m4 m5 m6 m7 m9 m10 m11 m12 m14 m15 m18 m19 m20 m21 m22:Int} {m8 m16:Bool} {m0:ByteArray} {m13:Rows} {m17:List Inn} (hf:Dp m17) (hN:2097152<N) (hl:m17.length≤1000000) (hs:m0.size≤1048576):I1 N [.str m0,.int m1,.int m2,.int m3,.int m4,.int m5,.int m6,.int m7,.bool m8,.int m9,.int m10,.int m11,.int m12,.rows m13,.int m14,.int m15,.bool m16,.rows (AR m17),.int m18,.int m19,.int m20,.int m21,.int m22]=some [.int (UK (⟨⟨m0,m1,m2,m3,m4,m5,m6,m7,m8,m9,m10,m11,m12,m13⟩,m14,m15,m16,m17,m18,m19,m20,m21,m22⟩:Mat))]:=by
 show I4 (std (Cp N) N) (xOf _)=_
 generalize hres:(some [.int (UK (⟨⟨m0,m1,m2,m3,m4,m5,m6,m7,m8,m9,m10,m11,m12,m13⟩,m14,m15,m16,m17,m18,m19,m20,m21,m22⟩:Mat))]:Option (List PV))=RR
 simp only [I4,Vc,Ln,Ki,std,xOf,PXb,Xe hf hN hl hs]
 subst hres;simp only [UK]
 cases hv:CW (⟨⟨m0,m1,m2,m3,m4,m5,m6,m7,m8,m9,m10,m11,m12,m13⟩,m14,m15,m16,m17,m18,m19,m20,m21,m22⟩:Mat)
 case false=>rfl
 have ok:=U6 hv
 simp only [PXb]
 cases h3:m14==3
 case true=>simp only [PXb,PXi,Ln,TU (ok.begun h3) hl,AY,PXm]
 cases h2:m14==2
 case false=>rfl
 have hr:=ok.room h2
 have rk:=(Dn ok.code).innings
 simp only at hr rk
 have hi3:0≤(m17.length:Int)∧(m17.length:Int)≤3:=by omega
 simp only [PXb,PXi,Ki,cp hi3]
theorem yE {m:Mat} (ok:MatOk m) (h2:(m.stage==2)=true) (sd:Int):E6 m sd=cond (IntKind.i64.wrap ((m.inns.length:Int)+1)==IntKind.i64.wrap (2 * m.rules.innings)) (IntKind.i64.wrap (IntKind.i64.wrap (BB m (BR sd) - BB m sd)+1)) 0:=by
 have hr:=ok.room h2
 have hm:=ok.most.1
 have hl:=ok.len
 unfold E6
 rw [hm,Bs (by omega) (by omega)]
 cases hq:((m.inns.length:Int)+1==2 * m.rules.innings) with
 | true =>
  rw [beq_iff_eq] at hq
  rw [show iLt ((m.inns.length:Int)+1) (2 * m.rules.innings)=false by simp only [iLt,decide_eq_false_iff_not];omega]
  rfl
 | false =>
  rw [beq_eq_false_iff_ne] at hq
  rw [show iLt ((m.inns.length:Int)+1) (2 * m.rules.innings)=true by simp only [iLt,decide_eq_true_eq];omega]
  rfl
set_option maxHeartbeats 4000000 in
theorem wX {N:Nat} {m1 m2 m3 m4 m5 m6 m7 m9 m10 m11 m12 m14 m15 m18 m19 m20 m21 m22:Int} {m8 m16:Bool} {m0:ByteArray} {m13:Rows} {m17:List Inn} {e0 e1 e2 e3 e5 e6 e7 e8 e9 e10 e11 e13 e14 e15 e16 e18:Int} {e4 e12 e17:Bool} (hN:2097152<N) (hf:Dp m17) (hl:m17.length≤1000000) (hs:m0.size≤1048576) (h13:m13.length≤1048576) (ok:MatOk (⟨⟨m0,m1,m2,m3,m4,m5,m6,m7,m8,m9,m10,m11,m12,m13⟩,m14,m15,m16,m17,m18,m19,m20,m21,m22⟩:Mat)) (hv:CW (⟨⟨m0,m1,m2,m3,m4,m5,m6,m7,m8,m9,m10,m11,m12,m13⟩,m14,m15,m16,m17,m18,m19,m20,m21,m22⟩:Mat)=true) (hs2:(m14==2)=true):Ph N [.str m0,.int m1,.int m2,.int m3,.int m4,.int m5,.int m6,.int m7,.bool m8,.int m9,.int m10,.int m11,.int m12,.rows m13,.int m14,.int m15,.bool m16,.rows (AR m17),.int m18,.int m19,.int m20,.int m21,.int m22,.int e0,.int e1,.int e2,.int e3,.bool e4,.int e5,.int e6,.int e7,.int e8,.int e9,.int e10,.int e11,.bool e12,.int e13,.int e14,.int e15,.int e16,.bool e17,.int e18]=some (Gz (WY (⟨⟨m0,m1,m2,m3,m4,m5,m6,m7,m8,m9,m10,m11,m12,m13⟩,m14,m15,m16,m17,m18,m19,m20,m21,m22⟩:Mat) (⟨e0,e1,e2,e3,e4,e5,e6,⟨e7,e8,e9,e10,e11,e12,e13,e14,e15,e16,e17,e18⟩⟩:Ev))):=by
 show Ou (std (Cw N) N) (xOf _)=_
 have hl2:m17.length≤1048576:=by omega
 have h304:iSm ((m17.length+1:Nat):Int) 304=true:=DF (by omega) (by omega)
 have fb:=fun a b c=>(Ig (⟨⟨m0,m1,m2,m3,m4,m5,m6,m7,m8,m9,m10,m11,m12,m13⟩,m14,m15,m16,m17,m18,m19,m20,m21,m22⟩:Mat).rules a b c).1
 have wb:∀ a b c,(BZ (⟨⟨m0,m1,m2,m3,m4,m5,m6,m7,m8,m9,m10,m11,m12,m13⟩,m14,m15,m16,m17,m18,m19,m20,m21,m22⟩:Mat).rules a b c).1.before.length+(BZ (⟨⟨m0,m1,m2,m3,m4,m5,m6,m7,m8,m9,m10,m11,m12,m13⟩,m14,m15,m16,m17,m18,m19,m20,m21,m22⟩:Mat).rules a b c).1.bowlers.length≤1000000:=fun a b c=>by
  rw [(Ig (⟨⟨m0,m1,m2,m3,m4,m5,m6,m7,m8,m9,m10,m11,m12,m13⟩,m14,m15,m16,m17,m18,m19,m20,m21,m22⟩:Mat).rules a b c).2.1,(Ig (⟨⟨m0,m1,m2,m3,m4,m5,m6,m7,m8,m9,m10,m11,m12,m13⟩,m14,m15,m16,m17,m18,m19,m20,m21,m22⟩:Mat).rules a b c).2.2]
  exact Nat.zero_le _
 have hb:UK (⟨⟨m0,m1,m2,m3,m4,m5,m6,m7,m8,m9,m10,m11,m12,m13⟩,m14,m15,m16,m17,m18,m19,m20,m21,m22⟩:Mat)=CO (⟨⟨m0,m1,m2,m3,m4,m5,m6,m7,m8,m9,m10,m11,m12,m13⟩,m14,m15,m16,m17,m18,m19,m20,m21,m22⟩:Mat) (m17.length:Int):=by
  unfold UK
  rw [hv]
  have h3:(m14==3)=false:=by
   rw [beq_iff_eq] at hs2
   rw [hs2];rfl
  simp only [PXb,h3,hs2]
 have ht:=fun sd=>yE ok hs2 sd
 simp only at ht
 simp only [Ou,IM,IP,W1,IA,JQ,std,xOf,PXb,pH hf hN hl hs,hb]
 rcases sO (m:=(⟨⟨m0,m1,m2,m3,m4,m5,m6,m7,m8,m9,m10,m11,m12,m13⟩,m14,m15,m16,m17,m18,m19,m20,m21,m22⟩:Mat)) (ok.toss hs2) (m17.length:Int) with ho | ho
 ·simp only [PXb,PXc,ho,wr1,wr2,XG,W2,Cj,VR,Nat.reduceAdd,Int.reduceBEq,WY,ht,PXi,IM,IP,Gq,MB hN hl2]
  generalize hT:cond (IntKind.i64.wrap ((m17.length:Int)+1)==IntKind.i64.wrap (2 * m2)) (IntKind.i64.wrap (IntKind.i64.wrap (BB (⟨⟨m0,m1,m2,m3,m4,m5,m6,m7,m8,m9,m10,m11,m12,m13⟩,m14,m15,m16,m17,m18,m19,m20,m21,m22⟩:Mat) (BR 1) - BB (⟨⟨m0,m1,m2,m3,m4,m5,m6,m7,m8,m9,m10,m11,m12,m13⟩,m14,m15,m16,m17,m18,m19,m20,m21,m22⟩:Mat) 1)+1)) 0=T
  refine bind_ok (r:=[.int T]) (by subst hT;cases IntKind.i64.wrap ((m17.length:Int)+1)==IntKind.i64.wrap (2 * m2)<;>rfl) ?_
  simp only [PXb,PXc,PXi,PXr,Inn.eta,AZ,List.length_append,List.length_cons,List.length_nil,h304,Cj,VR,Nat.reduceAdd,Int.reduceBEq,IA,JQ,gQ hN hs,Zj (fb _ _ _) (wb _ _ _) hN hs h13]
  cases (BZ (⟨⟨m0,m1,m2,m3,m4,m5,m6,m7,m8,m9,m10,m11,m12,m13⟩,m14,m15,m16,m17,m18,m19,m20,m21,m22⟩:Mat).rules 1 T m18).2==0<;>try rfl
  cases (Ar (⟨⟨m0,m1,m2,m3,m4,m5,m6,m7,m8,m9,m10,m11,m12,m13⟩,m14,m15,m16,m17,m18,m19,m20,m21,m22⟩:Mat).rules (BZ (⟨⟨m0,m1,m2,m3,m4,m5,m6,m7,m8,m9,m10,m11,m12,m13⟩,m14,m15,m16,m17,m18,m19,m20,m21,m22⟩:Mat).rules 1 T m18).1 (⟨e0,e1,e2,e3,e4,e5,e6,⟨e7,e8,e9,e10,e11,e12,e13,e14,e15,e16,e17,e18⟩⟩:Ev)).2==0<;>rfl
 ·simp only [PXb,PXc,ho,wr1,wr2,XG,W2,Cj,VR,Nat.reduceAdd,Int.reduceBEq,WY,ht,PXi,IM,IP,Gq,MB hN hl2]
  generalize hT:cond (IntKind.i64.wrap ((m17.length:Int)+1)==IntKind.i64.wrap (2 * m2)) (IntKind.i64.wrap (IntKind.i64.wrap (BB (⟨⟨m0,m1,m2,m3,m4,m5,m6,m7,m8,m9,m10,m11,m12,m13⟩,m14,m15,m16,m17,m18,m19,m20,m21,m22⟩:Mat) (BR 2) - BB (⟨⟨m0,m1,m2,m3,m4,m5,m6,m7,m8,m9,m10,m11,m12,m13⟩,m14,m15,m16,m17,m18,m19,m20,m21,m22⟩:Mat) 2)+1)) 0=T
  refine bind_ok (r:=[.int T]) (by subst hT;cases IntKind.i64.wrap ((m17.length:Int)+1)==IntKind.i64.wrap (2 * m2)<;>rfl) ?_
  simp only [PXb,PXc,PXi,PXr,Inn.eta,AZ,List.length_append,List.length_cons,List.length_nil,h304,Cj,VR,Nat.reduceAdd,Int.reduceBEq,IA,JQ,gQ hN hs,Zj (fb _ _ _) (wb _ _ _) hN hs h13]
  cases (BZ (⟨⟨m0,m1,m2,m3,m4,m5,m6,m7,m8,m9,m10,m11,m12,m13⟩,m14,m15,m16,m17,m18,m19,m20,m21,m22⟩:Mat).rules 2 T m19).2==0<;>try rfl
  cases (Ar (⟨⟨m0,m1,m2,m3,m4,m5,m6,m7,m8,m9,m10,m11,m12,m13⟩,m14,m15,m16,m17,m18,m19,m20,m21,m22⟩:Mat).rules (BZ (⟨⟨m0,m1,m2,m3,m4,m5,m6,m7,m8,m9,m10,m11,m12,m13⟩,m14,m15,m16,m17,m18,m19,m20,m21,m22⟩:Mat).rules 2 T m19).1 (⟨e0,e1,e2,e3,e4,e5,e6,⟨e7,e8,e9,e10,e11,e12,e13,e14,e15,e16,e17,e18⟩⟩:Ev)).2==0<;>rfl
end Go.Px
end
section
namespace Go.Px
set_option maxRecDepth 100000
set_option maxHeartbeats 8000000 in
theorem we {N:Nat} {m1 m2 m3 m4 m5 m6 m7 m9 m10 m11 m12 m14 m15 m18 m19 m20 m21 m22:Int} {m8 m16:Bool} {m0:ByteArray} {m13:Rows} {m17:List Inn} {e0 e1 e2 e3 e5 e6 e7 e8 e9 e10 e11 e13 e14 e15 e16 e18:Int} {e4 e12 e17:Bool} (hN:2097152<N) (hf:Dp m17) (hl:m17.length≤1000000) (hs:m0.size≤1048576) (h13:m13.length≤1048576) (ok:MatOk (⟨⟨m0,m1,m2,m3,m4,m5,m6,m7,m8,m9,m10,m11,m12,m13⟩,m14,m15,m16,m17,m18,m19,m20,m21,m22⟩:Mat)) (he:(evS (⟨e0,e1,e2,e3,e4,e5,e6,⟨e7,e8,e9,e10,e11,e12,e13,e14,e15,e16,e17,e18⟩⟩:Ev)==0)=true) (h3:(m14==3)=true):OO N [.str m0,.int m1,.int m2,.int m3,.int m4,.int m5,.int m6,.int m7,.bool m8,.int m9,.int m10,.int m11,.int m12,.rows m13,.int m14,.int m15,.bool m16,.rows (AR m17),.int m18,.int m19,.int m20,.int m21,.int m22,.int e0,.int e1,.int e2,.int e3,.bool e4,.int e5,.int e6,.int e7,.int e8,.int e9,.int e10,.int e11,.bool e12,.int e13,.int e14,.int e15,.int e16,.bool e17,.int e18]=some (Gz (Em (⟨⟨m0,m1,m2,m3,m4,m5,m6,m7,m8,m9,m10,m11,m12,m13⟩,m14,m15,m16,m17,m18,m19,m20,m21,m22⟩:Mat) (⟨e0,e1,e2,e3,e4,e5,e6,⟨e7,e8,e9,e10,e11,e12,e13,e14,e15,e16,e17,e18⟩⟩:Ev))):=by
 show Ny (std (FP N) N) (xOf _)=_
 simp only [Ny,Pt,Ls,std,xOf,PXb]
 have h0:=ok.begun h3
 have lv:=OI (ok.innv (lnx m17) (YQ h0 hl)).1
 have fl:(inn m17 (IntKind.i64.wrap ((m17.length:Int) - 1)).toNat).Fit:=lv.2.2
 have wl:(inn m17 (IntKind.i64.wrap ((m17.length:Int) - 1)).toNat).before.length+(inn m17 (IntKind.i64.wrap ((m17.length:Int) - 1)).toNat).bowlers.length≤1000000:=by
  have h1:=lv.1
  have h2:=lv.2.1
  change (inn m17 (IntKind.i64.wrap ((m17.length:Int) - 1)).toNat).bowlers.length≤11 at h1
  change (inn m17 (IntKind.i64.wrap ((m17.length:Int) - 1)).toNat).before.length≤11 at h2
  omega
 have f1:=Km (Rg (⟨⟨m0,m1,m2,m3,m4,m5,m6,m7,m8,m9,m10,m11,m12,m13⟩,m14,m15,m16,m17,m18,m19,m20,m21,m22⟩:Mat).rules (inn m17 (IntKind.i64.wrap ((m17.length:Int) - 1)).toNat) (⟨e0,e1,e2,e3,e4,e5,e6,⟨e7,e8,e9,e10,e11,e12,e13,e14,e15,e16,e17,e18⟩⟩:Ev)) fl (by omega)
 simp only [PXb,PXc,PXi,PXr,AZ,Inn.eta,Cj,Nat.reduceAdd,List.length_set,Ne h0 hl,Pt,Zj fl wl hN hs h13,Em,AY,lnx]
 generalize hX:Ar (⟨⟨m0,m1,m2,m3,m4,m5,m6,m7,m8,m9,m10,m11,m12,m13⟩,m14,m15,m16,m17,m18,m19,m20,m21,m22⟩:Mat).rules (inn m17 (IntKind.i64.wrap ((m17.length:Int) - 1)).toNat) (⟨e0,e1,e2,e3,e4,e5,e6,⟨e7,e8,e9,e10,e11,e12,e13,e14,e15,e16,e17,e18⟩⟩:Ev)=X at f1
 have fy:=P7 (IntKind.i64.wrap ((m17.length:Int) - 1)).toNat hf f1
 generalize hy:m17.set (IntKind.i64.wrap ((m17.length:Int) - 1)).toNat X.1=ys at fy
 have ly:ys.length=m17.length:=by rw [← hy,List.length_set]
 cases X.2==0<;>try rfl
 cases h13k:e0==13
 case false=>rfl
 cases hsd:e1==X.1.side
 case true=>rfl
 simp only [PXb,Option.bind_assoc]
 have e0w:IntKind.i64.wrap ((m17.length:Int) - 1)=(m17.length:Int) - 1 - ((0:Nat):Int):=by
  rw [beq_eq_false_iff_ne] at h0
  rw [Bs (by omega) (by omega)];omega
 rw [e0w]
 have hside:=nr (e:=(⟨e0,e1,e2,e3,e4,e5,e6,⟨e7,e8,e9,e10,e11,e12,e13,e14,e15,e16,e17,e18⟩⟩:Ev)) he h13k
 simp only at hside
 refine AL (aO (len:=m17.length) (fun j=>[.int ((m17.length:Int) - 1 - (j:Int))]) (fun j=>cond ((inn ys (m17.length - 1 - j)).side==e1) (some [PV.int 0,PV.str m0,PV.int m1,PV.int m2,PV.int m3,PV.int m4,PV.int m5,PV.int m6,PV.int m7,PV.bool m8,PV.int m9,PV.int m10,PV.int m11,PV.int m12,PV.rows m13,PV.int m14,PV.int m15,PV.bool m16,PV.rows (AR (ys.set (m17.length - 1 - j) (JW (inn ys (m17.length - 1 - j))))),PV.int m18,PV.int m19,PV.int m20,PV.int m21,PV.int m22]) none) ?_ ?_ m17.length 0 N (by omega) (by omega)) ?_
 ·intro self
  have q1:iLe 0 ((m17.length:Int) - 1 - (m17.length:Int))=false:=by simp only [iLe,decide_eq_false_iff_not];omega
  simp only [PXb,q1]
 ·intro i self hi
  have q1:iLe 0 ((m17.length:Int) - 1 - (i:Int))=true:=by simp only [iLe,decide_eq_true_eq];omega
  have q2:iIn ((m17.length:Int) - 1 - (i:Int)) (m17.length:Int)=true:=by simp only [iIn,decide_eq_true_eq];omega
  have q3:((m17.length:Int) - 1 - (i:Int)).toNat=m17.length - 1 - i:=by omega
  have q4:IntKind.i64.wrap ((m17.length:Int) - 1 - (i:Int) - 1)=(m17.length:Int) - 1 - ((i+1:Nat):Int):=by rw [Bs (by omega) (by omega)];omega
  have q5:=fy (m17.length - 1 - i) (by omega)
  simp only [PXb,PXc,q1,q2,q3,q4,Ls,bN q5,PXm]
  cases (inn ys (m17.length - 1 - i)).side==e1<;>rfl
 ·have hfa:=nO ys e1 (fun k=>[PV.int 0,PV.str m0,PV.int m1,PV.int m2,PV.int m3,PV.int m4,PV.int m5,PV.int m6,PV.int m7,PV.bool m8,PV.int m9,PV.int m10,PV.int m11,PV.int m12,PV.rows m13,PV.int m14,PV.int m15,PV.bool m16,PV.rows (AR (ys.set k (JW (inn ys k)))),PV.int m18,PV.int m19,PV.int m20,PV.int m21,PV.int m22]) m17.length m17.length (Nat.le_refl _)
  rw [Nat.sub_self] at hfa
  rw [hfa]
  unfold HM
  simp only [ly]
  cases Mb ys e1 m17.length with
  | some k=>rfl
  | none =>
   rcases hside with h | h<;>subst h
   ·simp only [Option.map_none,TJ,PXb,PXc,Cj,Int.reduceBEq,wr1,XG]
    rfl
   ·simp only [Option.map_none,TJ,PXb,PXc,Cj,Int.reduceBEq,wr2,W2]
    rfl
set_option maxHeartbeats 4000000 in
theorem yW {N:Nat} {m1 m2 m3 m4 m5 m6 m7 m9 m10 m11 m12 m14 m15 m18 m19 m20 m21 m22:Int} {m8 m16:Bool} {m0:ByteArray} {m13:Rows} {m17:List Inn} {e0 e1 e2 e3 e5 e6 e7 e8 e9 e10 e11 e13 e14 e15 e16 e18:Int} {e4 e12 e17:Bool} (hN:2097152<N) (hf:Dp m17) (hl:m17.length≤1000000) (hs:m0.size≤1048576) (h13:m13.length≤1048576) (ok:MatOk (⟨⟨m0,m1,m2,m3,m4,m5,m6,m7,m8,m9,m10,m11,m12,m13⟩,m14,m15,m16,m17,m18,m19,m20,m21,m22⟩:Mat)) (hv:CW (⟨⟨m0,m1,m2,m3,m4,m5,m6,m7,m8,m9,m10,m11,m12,m13⟩,m14,m15,m16,m17,m18,m19,m20,m21,m22⟩:Mat)=true) (he:(evS (⟨e0,e1,e2,e3,e4,e5,e6,⟨e7,e8,e9,e10,e11,e12,e13,e14,e15,e16,e17,e18⟩⟩:Ev)==0)=true):R0 N [.str m0,.int m1,.int m2,.int m3,.int m4,.int m5,.int m6,.int m7,.bool m8,.int m9,.int m10,.int m11,.int m12,.rows m13,.int m14,.int m15,.bool m16,.rows (AR m17),.int m18,.int m19,.int m20,.int m21,.int m22,.int e0,.int e1,.int e2,.int e3,.bool e4,.int e5,.int e6,.int e7,.int e8,.int e9,.int e10,.int e11,.bool e12,.int e13,.int e14,.int e15,.int e16,.bool e17,.int e18]=some (Gz (Gl (⟨⟨m0,m1,m2,m3,m4,m5,m6,m7,m8,m9,m10,m11,m12,m13⟩,m14,m15,m16,m17,m18,m19,m20,m21,m22⟩:Mat) (⟨e0,e1,e2,e3,e4,e5,e6,⟨e7,e8,e9,e10,e11,e12,e13,e14,e15,e16,e17,e18⟩⟩:Ev))):=by
 show SA (std (Ey N) N) (xOf _)=_
 simp only [SA,P3,Rm,Rz,std,xOf,PXb]
 unfold Gl
 cases hk1:e0==1
 case true =>
  simp only [PXb,P3,Gq]
  cases m14==1<;>cases e4<;>rfl
 cases hk2:e0==2
 case true =>
  simp only [PXb]
  cases hs2:m14==2
  case false=>rfl
  simp only [PXb,Rm,wX hN hf hl hs h13 ok hv hs2]
  rfl
 cases hk3:e0==12
 case true =>
  simp only [PXb]
  cases m14==4<;>cases e1==m15<;>rfl
 cases hk4:e0==16
 case true =>
  simp only [PXb,fK,Yn]
  cases h3:m14==3
  case false =>
   simp only [PXb,PXc,PXi,PXr,Cj,Nat.reduceAdd]
   cases m3==0<;>rfl
  simp only [PXb,PXc,PXi,PXr,Cj,Nat.reduceAdd,Ne (ok.begun h3) hl]
  cases m3==0<;>rfl
 simp only [PXb]
 cases h3:m14==3
 case false=>rfl
 simp only [PXb,Rz,we hN hf hl hs h13 ok he h3]
 rfl
theorem sv {N:Nat} {m1 m2 m3 m4 m5 m6 m7 m9 m10 m11 m12 m14 m15 m18 m19 m20 m21 m22:Int} {m8 m16:Bool} {m0:ByteArray} {m13:Rows} {m17:List Inn} (hf:Dp m17) (hN:2097152<N) (hl:m17.length≤1000000) (hs:m0.size≤1048576) (h0:((m17.length:Int)==0)=false):KL N [.str m0,.int m1,.int m2,.int m3,.int m4,.int m5,.int m6,.int m7,.bool m8,.int m9,.int m10,.int m11,.int m12,.rows m13,.int m14,.int m15,.bool m16,.rows (AR m17),.int m18,.int m19,.int m20,.int m21,.int m22]=some (Nd (⟨⟨m0,m1,m2,m3,m4,m5,m6,m7,m8,m9,m10,m11,m12,m13⟩,m14,m15,m16,m17,m18,m19,m20,m21,m22⟩:Mat)).ls:=by
 show Kh (std (Cf N) N) (xOf _)=_
 have hl5:m17.length≤1048576:=by omega
 simp only [Kh,X5,XQ,XI,Ug,std,xOf,PXb,TU h0 hl,Gq,MB hN hl5,pY hf hN hl hs,PXi]
 unfold Nd
 simp only [BB,AY,lnx,PXm]
 cases hq1:((m17.length:Int)==IntKind.i64.wrap (2 * m2))
 case true=>rfl
 cases hq2:((m17.length:Int)==3)
 case true =>
  simp only [PXb]
  cases iLt (Gh m17 (inn m17 (IntKind.i64.wrap ((m17.length:Int) - 1)).toNat).side m17.length) (Gh m17 (BR (inn m17 (IntKind.i64.wrap ((m17.length:Int) - 1)).toNat).side) m17.length)
  case true=>rfl
  simp only [PXb]
  cases ((m17.length:Int)==2)<;>cases iLt 0 m10<;>try rfl
  simp only [PXb]
  cases iLe m10 (IntKind.i64.wrap (Gh m17 m15 m17.length - Gh m17 (BR m15) m17.length))<;>rfl
 simp only [PXb]
 cases ((m17.length:Int)==2)<;>cases iLt 0 m10<;>try rfl
 simp only [PXb]
 cases iLe m10 (IntKind.i64.wrap (Gh m17 m15 m17.length - Gh m17 (BR m15) m17.length))<;>rfl
set_option maxHeartbeats 4000000 in
theorem kb {N:Nat} {m1 m2 m3 m4 m5 m6 m7 m9 m10 m11 m12 m14 m15 m18 m19 m20 m21 m22:Int} {m8 m16:Bool} {m0:ByteArray} {m13:Rows} {m17:List Inn} {e0 e1 e2 e3 e5 e6 e7 e8 e9 e10 e11 e13 e14 e15 e16 e18:Int} {e4 e12 e17:Bool} (hN:2097152<N) (hf:Dp m17) (hl:m17.length≤1000000) (hs:m0.size≤1048576) (h13:m13.length≤1048576):IY N [.str m0,.int m1,.int m2,.int m3,.int m4,.int m5,.int m6,.int m7,.bool m8,.int m9,.int m10,.int m11,.int m12,.rows m13,.int m14,.int m15,.bool m16,.rows (AR m17),.int m18,.int m19,.int m20,.int m21,.int m22,.int e0,.int e1,.int e2,.int e3,.bool e4,.int e5,.int e6,.int e7,.int e8,.int e9,.int e10,.int e11,.bool e12,.int e13,.int e14,.int e15,.int e16,.bool e17,.int e18]=some (Gz (CM (⟨⟨m0,m1,m2,m3,m4,m5,m6,m7,m8,m9,m10,m11,m12,m13⟩,m14,m15,m16,m17,m18,m19,m20,m21,m22⟩:Mat) (⟨e0,e1,e2,e3,e4,e5,e6,⟨e7,e8,e9,e10,e11,e12,e13,e14,e15,e16,e17,e18⟩⟩:Ev))):=by
 show PL (std (Cd N) N) (xOf _)=_
 generalize hres:(some (Gz (CM (⟨⟨m0,m1,m2,m3,m4,m5,m6,m7,m8,m9,m10,m11,m12,m13⟩,m14,m15,m16,m17,m18,m19,m20,m21,m22⟩:Mat) (⟨e0,e1,e2,e3,e4,e5,e6,⟨e7,e8,e9,e10,e11,e12,e13,e14,e15,e16,e17,e18⟩⟩:Ev))):Option (List PV))=RR
 simp only [PL,Oa,Zn,aC,Rn,Py,NP,std,xOf,PXb,Xe hf hN hl hs,hP,gC hf hN hl h13]
 subst hres;simp only [CM]
 cases hv:CW (⟨⟨m0,m1,m2,m3,m4,m5,m6,m7,m8,m9,m10,m11,m12,m13⟩,m14,m15,m16,m17,m18,m19,m20,m21,m22⟩:Mat)
 case false=>rfl
 cases he:evS (⟨e0,e1,e2,e3,e4,e5,e6,⟨e7,e8,e9,e10,e11,e12,e13,e14,e15,e16,e17,e18⟩⟩:Ev)==0
 case false=>simp only [PXb,he];rfl
 simp only [PXb,he]
 cases h5:m14==5
 case true=>rfl
 have ok:=U6 hv
 simp only [PXb,PXc,Cj,Nat.reduceAdd,Oa,gC hf hN hl h13,Rn,yW hN hf hl hs h13 ok hv he]
 have ak:=rK ok (⟨e0,e1,e2,e3,e4,e5,e6,⟨e7,e8,e9,e10,e11,e12,e13,e14,e15,e16,e17,e18⟩⟩:Ev)
 generalize Gl (⟨⟨m0,m1,m2,m3,m4,m5,m6,m7,m8,m9,m10,m11,m12,m13⟩,m14,m15,m16,m17,m18,m19,m20,m21,m22⟩:Mat) (⟨e0,e1,e2,e3,e4,e5,e6,⟨e7,e8,e9,e10,e11,e12,e13,e14,e15,e16,e17,e18⟩⟩:Ev)=A at ak
 obtain ⟨⟨⟨a0,a1,a2,a3,a4,a5,a6,a7,a8,a9,a10,a11,a12,a13⟩,a14,a15,a16,a17,a18,a19,a20,a21,a22⟩,l⟩:=A
 obtain ⟨k1,k2,k3,k4⟩:=ak
 simp only at k1 k2 k3 k4
 have hl5:a17.length≤1000000:=by omega
 have hs5:a0.size≤1048576:=by
  have:=congrArg Rul.name k1
  simp only at this
  rw [this];exact hs
 simp only [PXb,PXc,PXk,PXi,Cj,Nat.reduceAdd]
 cases hl0:l==0
 case false=>rfl
 simp only [PXb,B4]
 cases h3:a14==3
 case false=>rfl
 have h0:=k4 hl0 h3
 simp only [PXb,PXc,PXi,Py,TU h0 hl5,AY,NP,sv k2 hN hl5 hs5 h0,PXm]
 cases (inn a17 (lnx a17)).ending==0<;>rfl
end Go.Px
end
section
namespace Go.Px
set_option maxRecDepth 100000
theorem um (m:Mat):(Nd m).rules=m.rules∧(Nd m).inns=m.inns:=by
 unfold Nd
 dsimp only
 cases ((m.inns.length:Int)==IntKind.i64.wrap (2 * m.rules.innings)||((m.inns.length:Int)==3&&iLt (BB m (AY m).side) (BB m (BR (AY m).side)))) with
 | true=>exact ⟨rfl,rfl⟩
 | false =>
  cases ((m.inns.length:Int)==2&&iLt 0 m.rules.followon&&iLe m.rules.followon (IntKind.i64.wrap (BB m m.first - BB m (BR m.first))))<;>exact ⟨rfl,rfl⟩
theorem ku (m:Mat):(B4 m).rules=m.rules∧(B4 m).inns=m.inns:=by
 unfold B4
 cases (m.stage==3 && !((AY m).ending==0)) with
 | true=>exact um m
 | false=>exact ⟨rfl,rfl⟩
structure StepOk (r:Rul) (m:Mat):Prop where
 rules:m.rules=r
 fit:Dp m.inns
 len:m.inns.length≤5
theorem xC {r:Rul} {m:Mat} (h:StepOk r m) (e:Ev):StepOk r (CM m e).1:=by
 unfold CM
 cases hv:CW m with
 | false=>exact h
 | true =>
  cases he:evS e==0 with
  | false=>exact h
  | true =>
   cases h5:m.stage==5 with
   | true=>exact h
   | false =>
    have a:=rK (U6 hv) e
    cases hx:(Gl m e).2==0 with
    | false=>exact h
    | true =>
     have k:=ku (Gl m e).1
     exact ⟨k.1.trans (a.rules.trans h.rules),by show Dp (B4 _).inns;rw [k.2];exact a.fit,by show (B4 _).inns.length≤5;rw [k.2];exact a.len⟩
theorem fY (r:Rul) (h:((AW r).2==0)=true):StepOk r (AW r).1:=by
 unfold AW at h ⊢
 cases hc:A1 r==0 with
 | false=>rw [hc] at h;exact absurd (show (A1 r==0)=true from h) (by rw [hc];decide)
 | true=>exact ⟨rfl,fun i hi=>absurd hi (Nat.not_lt_zero i),Nat.zero_le _⟩
theorem ic {m:Mat} {e:Ev} (h:((CM m e).2==0)=true):CW m=true∧(evS e==0)=true∧(m.stage==5)=false∧((Gl m e).2==0)=true∧(CM m e).1=B4 (Gl m e).1:=by
 unfold CM at h ⊢
 cases hv:CW m with
 | false=>rw [hv] at h;exact absurd (show ((1:Int)==0)=true from h) (by decide)
 | true =>
  cases he:evS e==0 with
  | false=>rw [hv,he] at h;exact absurd (show ((1:Int)==0)=true from h) (by decide)
  | true =>
   cases h5:m.stage==5 with
   | true=>rw [hv,he,h5] at h;exact absurd (show ((26:Int)==0)=true from h) (by decide)
   | false =>
    cases hx:(Gl m e).2==0 with
    | false=>rw [hv,he,h5,hx] at h;exact absurd (show ((Gl m e).2==0)=true from h) (by rw [hx];decide)
    | true=>exact ⟨rfl,rfl,rfl,rfl,rfl⟩
theorem Zg {m:Mat} {e:Ev} (h:((CM m e).2==0)=true) (hk:(e.kind==4)=true):(m.stage==3)=true∧((m.inns.length:Int)==0)=false∧((Ar m.rules (AY m) e).2==0)=true∧(CM m e).1.inns=m.inns.set (lnx m.inns) (Ar m.rules (AY m) e).1:=by
 obtain ⟨hv,he,h5,ha,hs⟩:=ic h
 have hk4:=beq_iff_eq.1 hk
 rw [hs,(ku _).2]
 unfold Gl at ha ⊢
 simp only [hk4,Int.reduceBEq,cond_false] at ha ⊢
 cases h3:m.stage==3 with
 | false=>rw [h3] at ha;exact absurd (show ((1:Int)==0)=true from ha) (by decide)
 | true =>
  rw [h3] at ha
  simp only [Bool.not_true,cond_false] at ha ⊢
  unfold Em at ha ⊢
  cases hq:(Ar m.rules (AY m) e).2==0 with
  | false=>simp only [hq,Bool.not_false,cond_true] at ha;exact absurd ha Bool.false_ne_true
  | true =>
   simp only [hk4,Int.reduceBEq,Bool.false_and,hq,Bool.not_true,cond_false]
   exact ⟨trivial,(U6 hv).begun h3,trivial,trivial⟩
end Go.Px
end
section
namespace Go.Px
set_option maxRecDepth 100000
def evR (L:Rows) (i:Nat):Ev:=⟨atI L i 0,atI L i 1,atI L i 2,atI L i 3,atB L i 4,atI L i 5,atI L i 6,⟨atI L i 7,atI L i 8,atI L i 9,atI L i 10,atI L i 11,atB L i 12,atI L i 13,atI L i 14,atI L i 15,atI L i 16,atB L i 17,atI L i 18⟩⟩
theorem wu (L:Rows) (i:Nat):(⟨atI L i 0,atI L i 1,atI L i 2,atI L i 3,atB L i 4,atI L i 5,atI L i 6,⟨atI L i 7,atI L i 8,atI L i 9,atI L i 10,atI L i 11,atB L i 12,atI L i 13,atI L i 14,atI L i 15,atI L i 16,atB L i 17,atI L i 18⟩⟩:Ev)=evR L i:=rfl
def Aq (i:Int) (m:Mat) (e:Ev):Mat×Int:=cond (iLe 4000 i) (m,26) (CM m e)
def Cq (L:Rows):Nat→Nat→Mat→Mat×Int×Int
 | 0,_,m=>(m,-1,0)
 | k+1,i,m=>cond (!((Aq i m (evR L i)).2==0)) (m,(i:Int),(Aq i m (evR L i)).2) (Cq L k (i+1) (Aq i m (evR L i)).1)
def I8 (i:Int) (m t:Mat) (d:Del):List PV :=
 [.int i,.int (IntKind.i64.wrap ((m.inns.length:Int) - 1)),.int (AY m).complete,.int (AY m).inover,.int (AY m).bowler,.int (AY m).striker,.int (AY m).other,.bool (AY m).freehit,
  .int d.type,.int d.source,.int d.runs,.int d.short,.int d.boundary,.bool d.crossed,.int d.how,.int d.victim,.int d.fielder,.int d.second,.bool d.sub,.int d.sector,
  .int (AE m.rules d).batter,.int (AE m.rules d).wides,.int (AE m.rules d).noballs,.int (AE m.rules d).byes,.int (AE m.rules d).legbyes,.int (AE m.rules d).bowler,.bool (AE m.rules d).counts,.bool (AE m.rules d).faced,.bool (AE m.rules d).wicket,.bool (AE m.rules d).swap,
  .int (inn t.inns (lnx m.inns)).runs,.int (inn t.inns (lnx m.inns)).wickets]
def Mg (L:Rows):Nat→Nat→Mat→Rows→Rows
 | 0,_,_,out=>out
 | k+1,i,m,out=>cond (!((Aq i m (evR L i)).2==0)) out (Mg L k (i+1) (Aq i m (evR L i)).1 (cond ((evR L i).kind==4) (out++[I8 i m (Aq i m (evR L i)).1 (evR L i).ball]) out))
def Tb (f:Mat×Int×Int):List PV:=[.str f.1.rules.name,.int f.1.rules.side,.int f.1.rules.innings,.int f.1.rules.overs,.int f.1.rules.balls,.int f.1.rules.quota,.int f.1.rules.wide,.int f.1.rules.noball,.bool f.1.rules.freehit,.int f.1.rules.newball,.int f.1.rules.followon,.int f.1.rules.reviews,.int f.1.rules.outside,.rows f.1.rules.power,.int f.1.stage,.int f.1.first,.bool f.1.follow,.rows (AR f.1.inns),.int f.1.pen1,.int f.1.pen2,.int f.1.win,.int f.1.wside,.int f.1.margin,.int f.2.1,.int f.2.2]
def BF (r:Rul) (L:Rows):Mat×Int×Int:=cond (!((AW r).2==0)) (wP,0,1) (Cq L L.length 0 (AW r).1)
def CB (r:Rul) (L:Rows):Rows:=cond (!((AW r).2==0)) [] (Mg L L.length 0 (AW r).1 [])
theorem iv (L:Rows):∀ k i m,((Cq L k i m).2.1 == -1)=true→(Cq L k i m).2.2=0
 | 0,_,_,_=>rfl
 | k+1,i,m,h=>by
  unfold Cq at h ⊢
  cases hq:(Aq i m (evR L i)).2==0 with
  | false =>
   rw [hq] at h
   have:=beq_iff_eq.1 (show ((i:Int) == -1)=true from h)
   omega
  | true=>rw [hq] at h;exact iv L k (i+1) _ h
theorem rW (L:Rows):∀ k i m out,(Mg L k i m out).length≤out.length+k
 | 0,_,_,out=>Nat.le_refl _
 | k+1,i,m,out=>by
  unfold Mg
  cases (Aq i m (evR L i)).2==0 with
  | false=>show out.length≤_;omega
  | true =>
   have:=rW L k (i+1) (Aq i m (evR L i)).1 (cond ((evR L i).kind==4) (out++[I8 i m (Aq i m (evR L i)).1 (evR L i).ball]) out)
   refine Nat.le_trans this ?_
   cases (evR L i).kind==4 with
   | false=>show out.length+k≤_;omega
   | true=>show (out++[_]).length+k≤_;rw [List.length_append];simp;omega
theorem Zf {r:Rul} {m:Mat} (h:StepOk r m) (i:Int) (e:Ev):StepOk r (Aq i m e).1:=by
 unfold Aq
 cases iLe 4000 i with
 | true=>exact h
 | false=>exact xC h e
theorem X6 {m:Mat} {i:Int} {e:Ev} (h:((Aq i m e).2==0)=true):Aq i m e=CM m e∧iLe 4000 i=false:=by
 unfold Aq at h ⊢
 cases h4:iLe 4000 i with
 | true=>rw [h4] at h;exact absurd (show ((26:Int)==0)=true from h) (by decide)
 | false=>exact ⟨rfl,rfl⟩
theorem wz {N:Nat} {m1 m2 m3 m4 m5 m6 m7 m9 m10 m11 m12 m14 m15 m18 m19 m20 m21 m22:Int} {m8 m16:Bool} {m0:ByteArray} {m13:Rows} {m17:List Inn} {i:Int} {e0 e1 e2 e3 e5 e6 e7 e8 e9 e10 e11 e13 e14 e15 e16 e18:Int} {e4 e12 e17:Bool} (hN:2097152<N) (hf:Dp m17) (hl:m17.length≤1000000) (hs:m0.size≤1048576) (h13:m13.length≤1048576):OQ N [.str m0,.int m1,.int m2,.int m3,.int m4,.int m5,.int m6,.int m7,.bool m8,.int m9,.int m10,.int m11,.int m12,.rows m13,.int m14,.int m15,.bool m16,.rows (AR m17),.int m18,.int m19,.int m20,.int m21,.int m22,.int i,.int e0,.int e1,.int e2,.int e3,.bool e4,.int e5,.int e6,.int e7,.int e8,.int e9,.int e10,.int e11,.bool e12,.int e13,.int e14,.int e15,.int e16,.bool e17,.int e18]=some (Gz (Aq i (⟨⟨m0,m1,m2,m3,m4,m5,m6,m7,m8,m9,m10,m11,m12,m13⟩,m14,m15,m16,m17,m18,m19,m20,m21,m22⟩:Mat) (⟨e0,e1,e2,e3,e4,e5,e6,⟨e7,e8,e9,e10,e11,e12,e13,e14,e15,e16,e17,e18⟩⟩:Ev))):=by
 show OK (std (Hl N) N) (xOf _)=_
 generalize hres:(some (Gz (Aq i (⟨⟨m0,m1,m2,m3,m4,m5,m6,m7,m8,m9,m10,m11,m12,m13⟩,m14,m15,m16,m17,m18,m19,m20,m21,m22⟩:Mat) (⟨e0,e1,e2,e3,e4,e5,e6,⟨e7,e8,e9,e10,e11,e12,e13,e14,e15,e16,e17,e18⟩⟩:Ev))):Option (List PV))=RR
 simp only [OK,Ym,std,xOf,PXb,su hN hf hl hs h13]
 subst hres;simp only [Aq]
 cases iLe 4000 i<;>rfl
theorem mD {N:Nat} {i:Int} {m1 m2 m3 m4 m5 m6 m7 m9 m10 m11 m12 m14 m15 m18 m19 m20 m21 m22:Int} {m8 m16:Bool} {m0:ByteArray} {m13:Rows} {m17:List Inn} {t1 t2 t3 t4 t5 t6 t7 t9 t10 t11 t12 t14 t15 t18 t19 t20 t21 t22:Int} {t8 t16:Bool} {t0:ByteArray} {t13:Rows} {t17:List Inn} {d0 d1 d2 d3 d4 d6 d7 d8 d9 d11:Int} {d5 d10:Bool} (h1:iIn (IntKind.i64.wrap ((m17.length:Int) - 1)) (m17.length:Int)=true) (h2:iIn (IntKind.i64.wrap ((m17.length:Int) - 1)) (t17.length:Int)=true):JY N [.int i,.str m0,.int m1,.int m2,.int m3,.int m4,.int m5,.int m6,.int m7,.bool m8,.int m9,.int m10,.int m11,.int m12,.rows m13,.int m14,.int m15,.bool m16,.rows (AR m17),.int m18,.int m19,.int m20,.int m21,.int m22,.str t0,.int t1,.int t2,.int t3,.int t4,.int t5,.int t6,.int t7,.bool t8,.int t9,.int t10,.int t11,.int t12,.rows t13,.int t14,.int t15,.bool t16,.rows (AR t17),.int t18,.int t19,.int t20,.int t21,.int t22,.int d0,.int d1,.int d2,.int d3,.int d4,.bool d5,.int d6,.int d7,.int d8,.int d9,.bool d10,.int d11]=some (I8 i (⟨⟨m0,m1,m2,m3,m4,m5,m6,m7,m8,m9,m10,m11,m12,m13⟩,m14,m15,m16,m17,m18,m19,m20,m21,m22⟩:Mat) (⟨⟨t0,t1,t2,t3,t4,t5,t6,t7,t8,t9,t10,t11,t12,t13⟩,t14,t15,t16,t17,t18,t19,t20,t21,t22⟩:Mat) (⟨d0,d1,d2,d3,d4,d5,d6,d7,d8,d9,d10,d11⟩:Del)):=by
 show Jl (std (LV N) N) (xOf _)=_
 simp only [Jl,Nn,std,xOf,PXb,PXi,h1,h2,S4]
 rfl
def Ul (L:Rows) (i:Nat) (m:Mat):List PV ⊕ Mat:=cond (!((Aq i m (evR L i)).2==0)) (.inl (.int 0::.int i::.int (Aq i m (evR L i)).2::m.ls)) (.inr (Aq i m (evR L i)).1)
def vu (f:Mat×Int×Int):List PV:=cond (f.2.1 == -1) (.int 1::f.1.ls) (.int 0::.int f.2.1::.int f.2.2::f.1.ls)
theorem oE (L:Rows):∀ k i m,WP (Ul L) (fun m=>.int 1::m.ls) k i m=vu (Cq L k i m)
 | 0,_,_=>rfl
 | k+1,i,m=>by
  simp only [WP,Ul,Cq]
  cases (Aq i m (evR L i)).2==0 with
  | false =>
   simp only [Bool.not_false,cond_true,vu]
   rw [show ((i:Int) == -1)=false from beq_false_of_ne (show (i:Int) ≠ -1 by omega)]
   rfl
  | true=>exact oE L k (i+1) _
set_option maxHeartbeats 4000000 in
theorem wI {N:Nat} {m1 m2 m3 m4 m5 m6 m7 m9 m10 m11 m12 m14 m15 m18 m19 m20 m21 m22:Int} {m8 m16:Bool} {m0:ByteArray} {m13:Rows} {m17:List Inn} {L:Rows} (hN:2097152<N) (hf:Dp m17) (hl:m17.length≤5) (hs:m0.size≤1048576) (h13:m13.length≤1048576) (hL:L.length≤1048576):OZ N [.str m0,.int m1,.int m2,.int m3,.int m4,.int m5,.int m6,.int m7,.bool m8,.int m9,.int m10,.int m11,.int m12,.rows m13,.int m14,.int m15,.bool m16,.rows (AR m17),.int m18,.int m19,.int m20,.int m21,.int m22,.rows L]=some (Tb (Cq L L.length 0 (⟨⟨m0,m1,m2,m3,m4,m5,m6,m7,m8,m9,m10,m11,m12,m13⟩,m14,m15,m16,m17,m18,m19,m20,m21,m22⟩:Mat))):=by
  show Oj (std (Hs N) N) (xOf _)=_
  generalize hres:(some (Tb (Cq L L.length 0 (⟨⟨m0,m1,m2,m3,m4,m5,m6,m7,m8,m9,m10,m11,m12,m13⟩,m14,m15,m16,m17,m18,m19,m20,m21,m22⟩:Mat))):Option (List PV))=RR
  simp only [Oj,P2,std,xOf,PXb]
  subst hres
  refine AL (Vw (St:=Mat) (len:=L.length) (enc:=fun i m=>[.int (i:Int),.str m.rules.name,.int m.rules.side,.int m.rules.innings,.int m.rules.overs,.int m.rules.balls,.int m.rules.quota,.int m.rules.wide,.int m.rules.noball,.bool m.rules.freehit,.int m.rules.newball,.int m.rules.followon,.int m.rules.reviews,.int m.rules.outside,.rows m.rules.power,.int m.stage,.int m.first,.bool m.follow,.rows (AR m.inns),.int m.pen1,.int m.pen2,.int m.win,.int m.wside,.int m.margin])
    (body:=Ul L) (fin:=fun m=>.int 1::m.ls) (fun _ m=>StepOk (⟨m0,m1,m2,m3,m4,m5,m6,m7,m8,m9,m10,m11,m12,m13⟩:Rul) m) ?_ ?_ L.length 0 (⟨⟨m0,m1,m2,m3,m4,m5,m6,m7,m8,m9,m10,m11,m12,m13⟩,m14,m15,m16,m17,m18,m19,m20,m21,m22⟩:Mat) N (by omega) (by omega) ⟨rfl,hf,hl⟩) ?_
  · intro m self _
    simp only [PXb,PXc,PXn,AB,Au]
    rfl
  · intro i m self hi ok
    obtain ⟨⟨a0,a1,a2,a3,a4,a5,a6,a7,a8,a9,a10,a11,a12,a13⟩,a14,a15,a16,a17,a18,a19,a20,a21,a22⟩:=m
    have o1:=ok.rules
    have o2:=ok.fit
    have o3:=ok.len
    simp only at o1 o2 o3
    cases o1
    have kp:=Zf ok (i:Int) (evR L i)
    refine ⟨?_,?_⟩
    · simp only [PXb,PXc,PXn,AB,AX (show i≤1099511627776 by omega),Ao hi,AP hi,P2,kb hN o2 (show a17.length≤1000000 by omega) hs h13,A6,mt,Nat.reduceAdd,PXk,PXc,wu]
      unfold Ul Aq
      cases iLe 4000 (i:Int)
      case true=>rfl
      simp only [cond_false]
      cases (CM (⟨⟨m0,m1,m2,m3,m4,m5,m6,m7,m8,m9,m10,m11,m12,m13⟩,a14,a15,a16,a17,a18,a19,a20,a21,a22⟩:Mat) (evR L i)).2==0<;>rfl
    · intro s' h
      unfold Ul at h
      cases hq:(Aq (i:Int) (⟨⟨m0,m1,m2,m3,m4,m5,m6,m7,m8,m9,m10,m11,m12,m13⟩,a14,a15,a16,a17,a18,a19,a20,a21,a22⟩:Mat) (evR L i)).2==0 with
      | false=>rw [hq] at h;cases h
      | true=>rw [hq] at h;cases h;exact kp
  · rw [oE]
    have he:=iv L L.length 0 (⟨⟨m0,m1,m2,m3,m4,m5,m6,m7,m8,m9,m10,m11,m12,m13⟩,m14,m15,m16,m17,m18,m19,m20,m21,m22⟩:Mat)
    generalize Cq L L.length 0 (⟨⟨m0,m1,m2,m3,m4,m5,m6,m7,m8,m9,m10,m11,m12,m13⟩,m14,m15,m16,m17,m18,m19,m20,m21,m22⟩:Mat)=f at he
    obtain ⟨⟨⟨a0,a1,a2,a3,a4,a5,a6,a7,a8,a9,a10,a11,a12,a13⟩,a14,a15,a16,a17,a18,a19,a20,a21,a22⟩,b,l⟩:=f
    simp only at he
    unfold vu
    cases hb:b == -1 with
    | false=>rfl
    | true =>
      rw [he hb,beq_iff_eq.1 hb]
      rfl
end Go.Px
end
section
namespace Go.Px
set_option maxRecDepth 100000
def Ue (L:Rows) (i:Nat) (s:Rows×Mat):List PV ⊕ Rows×Mat:=cond (!((Aq i s.2 (evR L i)).2==0)) (.inl (.int 0::.rows s.1::.int i::.int (Aq i s.2 (evR L i)).2::s.2.ls)) (.inr (cond ((evR L i).kind==4) (s.1++[I8 i s.2 (Aq i s.2 (evR L i)).1 (evR L i).ball]) s.1,(Aq i s.2 (evR L i)).1))
def wN (out:Rows) (f:Mat×Int×Int):List PV:=cond (f.2.1 == -1) (.int 1::.rows out::f.1.ls) (.int 0::.rows out::.int f.2.1::.int f.2.2::f.1.ls)
theorem oq (L:Rows):∀ k i s,WP (Ue L) (fun s=>.int 1::.rows s.1::s.2.ls) k i s=wN (Mg L k i s.2 s.1) (Cq L k i s.2)
 | 0,_,_=>rfl
 | k+1,i,s=>by
  simp only [WP,Ue,Cq,Mg]
  cases (Aq i s.2 (evR L i)).2==0 with
  | false =>
   simp only [Bool.not_false,cond_true,wN]
   rw [show ((i:Int) == -1)=false from beq_false_of_ne (show (i:Int) ≠ -1 by omega)]
   rfl
  | true=>exact oq L k (i+1) _
def Yc (out:Rows) (f:Mat×Int×Int):List PV:=[.rows out,.str f.1.rules.name,.int f.1.rules.side,.int f.1.rules.innings,.int f.1.rules.overs,.int f.1.rules.balls,.int f.1.rules.quota,.int f.1.rules.wide,.int f.1.rules.noball,.bool f.1.rules.freehit,.int f.1.rules.newball,.int f.1.rules.followon,.int f.1.rules.reviews,.int f.1.rules.outside,.rows f.1.rules.power,.int f.1.stage,.int f.1.first,.bool f.1.follow,.rows (AR f.1.inns),.int f.1.pen1,.int f.1.pen2,.int f.1.win,.int f.1.wside,.int f.1.margin,.int f.2.1,.int f.2.2]
theorem yS {m t:Mat} {e:Ev} (hl:m.inns.length≤5) (h:((CM m e).2==0)=true) (hk:(e.kind==4)=true) (ht:(CM m e).1=t):iIn (IntKind.i64.wrap ((m.inns.length:Int) - 1)) (m.inns.length:Int)=true∧iIn (IntKind.i64.wrap ((m.inns.length:Int) - 1)) (t.inns.length:Int)=true:=by
 obtain ⟨_,h2,_,h4⟩:=Zg h hk
 have:=Ne h2 (show m.inns.length≤1000000 by omega)
 rw [← ht,h4,List.length_set]
 exact ⟨this,this⟩
set_option maxHeartbeats 8000000 in
theorem kj {N:Nat} {r1 r2 r3 r4 r5 r6 r7 r9 r10 r11 r12:Int} {r8:Bool} {r0:ByteArray} {r13:Rows} {L:Rows} (hN:2097152<N) (hs:r0.size≤1048576) (h13:r13.length≤1048576) (hL:L.length≤1048576):IK N [.str r0,.int r1,.int r2,.int r3,.int r4,.int r5,.int r6,.int r7,.bool r8,.int r9,.int r10,.int r11,.int r12,.rows r13,.rows L]=some (Yc (CB (⟨r0,r1,r2,r3,r4,r5,r6,r7,r8,r9,r10,r11,r12,r13⟩:Rul) L) (BF (⟨r0,r1,r2,r3,r4,r5,r6,r7,r8,r9,r10,r11,r12,r13⟩:Rul) L)):=by
  show Oz (std (D2 N) N) (xOf _)=_
  generalize hres:(some (Yc (CB (⟨r0,r1,r2,r3,r4,r5,r6,r7,r8,r9,r10,r11,r12,r13⟩:Rul) L) (BF (⟨r0,r1,r2,r3,r4,r5,r6,r7,r8,r9,r10,r11,r12,r13⟩:Rul) L)):Option (List PV))=RR
  simp only [Oz,Zq,Pu,KZ,std,xOf,PXb,uC hN hs h13]
  subst hres;simp only [CB,BF]
  have nk:=fY (⟨r0,r1,r2,r3,r4,r5,r6,r7,r8,r9,r10,r11,r12,r13⟩:Rul)
  generalize AW (⟨r0,r1,r2,r3,r4,r5,r6,r7,r8,r9,r10,r11,r12,r13⟩:Rul)=X at nk
  obtain ⟨⟨⟨m0,m1,m2,m3,m4,m5,m6,m7,m8,m9,m10,m11,m12,m13⟩,m14,m15,m16,m17,m18,m19,m20,m21,m22⟩,l⟩:=X
  simp only at nk
  simp only [PXb,PXc,PXk,Nat.reduceAdd]
  cases hl:l==0
  case false=>rfl
  have ok:=nk hl
  simp only [PXb]
  refine AL (Vw (St:=Rows×Mat) (len:=L.length) (enc:=fun i s=>[.rows s.1,.int (i:Int),.str s.2.rules.name,.int s.2.rules.side,.int s.2.rules.innings,.int s.2.rules.overs,.int s.2.rules.balls,.int s.2.rules.quota,.int s.2.rules.wide,.int s.2.rules.noball,.bool s.2.rules.freehit,.int s.2.rules.newball,.int s.2.rules.followon,.int s.2.rules.reviews,.int s.2.rules.outside,.rows s.2.rules.power,.int s.2.stage,.int s.2.first,.bool s.2.follow,.rows (AR s.2.inns),.int s.2.pen1,.int s.2.pen2,.int s.2.win,.int s.2.wside,.int s.2.margin])
    (body:=Ue L) (fin:=fun s=>.int 1::.rows s.1::s.2.ls) (fun i s=>StepOk (⟨r0,r1,r2,r3,r4,r5,r6,r7,r8,r9,r10,r11,r12,r13⟩:Rul) s.2∧s.1.length≤i) ?_ ?_ L.length 0 ([],(⟨⟨m0,m1,m2,m3,m4,m5,m6,m7,m8,m9,m10,m11,m12,m13⟩,m14,m15,m16,m17,m18,m19,m20,m21,m22⟩:Mat)) N (by omega) (by omega) ⟨ok,Nat.zero_le _⟩) ?_
  · intro m self _
    simp only [PXb,PXc,PXn,AB,Au]
    rfl
  · intro i s self hi ok
    obtain ⟨out,⟨⟨a0,a1,a2,a3,a4,a5,a6,a7,a8,a9,a10,a11,a12,a13⟩,a14,a15,a16,a17,a18,a19,a20,a21,a22⟩⟩:=s
    obtain ⟨ok,hout⟩:=ok
    have o1:=ok.rules
    have o2:=ok.fit
    have o3:=ok.len
    simp only at o1 o2 o3 hout
    cases o1
    have kp:=Zf ok (i:Int) (evR L i)
    have acc:=X6 (m:=(⟨⟨r0,r1,r2,r3,r4,r5,r6,r7,r8,r9,r10,r11,r12,r13⟩,a14,a15,a16,a17,a18,a19,a20,a21,a22⟩:Mat)) (i:=(i:Int)) (e:=evR L i)
    refine ⟨?_,?_⟩
    · simp only [PXb,PXc,PXn,AB,AX (show i≤1099511627776 by omega),Ao hi,AP hi,Pu,wz hN o2 (show a17.length≤1000000 by omega) hs h13,A6,mt,Nat.reduceAdd,PXk,PXc,wu,List.length_append,List.length_cons,List.length_nil,KZ]
      unfold Ue
      simp only
      generalize hT:Aq (i:Int) (⟨⟨r0,r1,r2,r3,r4,r5,r6,r7,r8,r9,r10,r11,r12,r13⟩,a14,a15,a16,a17,a18,a19,a20,a21,a22⟩:Mat) (evR L i)=T at acc
      obtain ⟨⟨⟨b0,b1,b2,b3,b4,b5,b6,b7,b8,b9,b10,b11,b12,b13⟩,b14,b15,b16,b17,b18,b19,b20,b21,b22⟩,l2⟩:=T
      simp only at acc
      simp only
      cases hl2:l2==0
      case false=>rfl
      have hk0:(evR L i).kind=atI L i 0:=rfl
      rw [hk0]
      simp only [PXb]
      cases hk:atI L i 0==4
      case false=>rfl
      have ha:=(acc hl2).1
      have hd:=yS (m:=(⟨⟨r0,r1,r2,r3,r4,r5,r6,r7,r8,r9,r10,r11,r12,r13⟩,a14,a15,a16,a17,a18,a19,a20,a21,a22⟩:Mat)) (e:=evR L i) o3 (by rw [← ha];exact hl2) hk (congrArg Prod.fst ha).symm
      simp only at hd
      have h216:iSm ((out.length+1:Nat):Int) 216=true:=DF (by omega) (by omega)
      simp only [PXb,PXc,mD hd.1 hd.2,h216]
      rfl
    · intro s' h
      unfold Ue at h
      simp only at h
      cases hq:(Aq (i:Int) (⟨⟨r0,r1,r2,r3,r4,r5,r6,r7,r8,r9,r10,r11,r12,r13⟩,a14,a15,a16,a17,a18,a19,a20,a21,a22⟩:Mat) (evR L i)).2==0 with
      | false=>rw [hq] at h;cases h
      | true =>
        rw [hq] at h;cases h
        refine ⟨kp,?_⟩
        cases (evR L i).kind==4 with
        | false=>show out.length≤_;omega
        | true=>show (out++[_]).length≤_;rw [List.length_append];simp;omega
  · rw [oq]
    have he:=iv L L.length 0 (⟨⟨m0,m1,m2,m3,m4,m5,m6,m7,m8,m9,m10,m11,m12,m13⟩,m14,m15,m16,m17,m18,m19,m20,m21,m22⟩:Mat)
    simp only
    generalize Mg L L.length 0 (⟨⟨m0,m1,m2,m3,m4,m5,m6,m7,m8,m9,m10,m11,m12,m13⟩,m14,m15,m16,m17,m18,m19,m20,m21,m22⟩:Mat) []=out
    generalize Cq L L.length 0 (⟨⟨m0,m1,m2,m3,m4,m5,m6,m7,m8,m9,m10,m11,m12,m13⟩,m14,m15,m16,m17,m18,m19,m20,m21,m22⟩:Mat)=f at he
    obtain ⟨⟨⟨a0,a1,a2,a3,a4,a5,a6,a7,a8,a9,a10,a11,a12,a13⟩,a14,a15,a16,a17,a18,a19,a20,a21,a22⟩,b,l⟩:=f
    simp only at he
    unfold wN
    cases hb:b == -1 with
    | false=>rfl
    | true =>
      rw [he hb,beq_iff_eq.1 hb]
      rfl
end Go.Px
end
section
namespace Go.Px
set_option maxRecDepth 100000
theorem tH {N:Nat} {r1 r2 r3 r4 r5 r6 r7 r9 r10 r11 r12:Int} {r8:Bool} {r0:ByteArray} {r13:Rows} {L:Rows} (hN:2097152<N) (hs:r0.size≤1048576) (h13:r13.length≤1048576) (hL:L.length≤1048576):Jz N [.str r0,.int r1,.int r2,.int r3,.int r4,.int r5,.int r6,.int r7,.bool r8,.int r9,.int r10,.int r11,.int r12,.rows r13,.rows L]=some (Tb (BF (⟨r0,r1,r2,r3,r4,r5,r6,r7,r8,r9,r10,r11,r12,r13⟩:Rul) L)):=by
 show Jx (std (E5 N) N) (xOf _)=_
 generalize hres:(some (Tb (BF (⟨r0,r1,r2,r3,r4,r5,r6,r7,r8,r9,r10,r11,r12,r13⟩:Rul) L)):Option (List PV))=RR
 simp only [Jx,Yt,std,xOf,PXb,kj hN hs h13 hL]
 subst hres
 rfl
theorem fB {N:Nat} {r1 r2 r3 r4 r5 r6 r7 r9 r10 r11 r12:Int} {r8:Bool} {r0:ByteArray} {r13:Rows} {L:Rows} (hN:2097152<N) (hs:r0.size≤1048576) (h13:r13.length≤1048576) (hL:L.length≤1048576):FK N [.str r0,.int r1,.int r2,.int r3,.int r4,.int r5,.int r6,.int r7,.bool r8,.int r9,.int r10,.int r11,.int r12,.rows r13,.rows L]=some (Tb (BF (⟨r0,r1,r2,r3,r4,r5,r6,r7,r8,r9,r10,r11,r12,r13⟩:Rul) L)):=by
 show Kf (std (Dk N) N) (xOf _)=_
 generalize hres:(some (Tb (BF (⟨r0,r1,r2,r3,r4,r5,r6,r7,r8,r9,r10,r11,r12,r13⟩:Rul) L)):Option (List PV))=RR
 simp only [Kf,Z8,Nb,std,xOf,PXb,ob hN hs h13]
 subst hres;simp only [BF]
 have nk:=fY (⟨r0,r1,r2,r3,r4,r5,r6,r7,r8,r9,r10,r11,r12,r13⟩:Rul)
 generalize AW (⟨r0,r1,r2,r3,r4,r5,r6,r7,r8,r9,r10,r11,r12,r13⟩:Rul)=X at nk
 obtain ⟨⟨⟨m0,m1,m2,m3,m4,m5,m6,m7,m8,m9,m10,m11,m12,m13⟩,m14,m15,m16,m17,m18,m19,m20,m21,m22⟩,l⟩:=X
 simp only at nk
 simp only [PXb,PXc,PXk,Nat.reduceAdd]
 cases hl:l==0
 case false=>rfl
 have ok:=nk hl
 have o1:=ok.rules
 have o2:=ok.fit
 have o3:=ok.len
 simp only at o1 o2 o3
 cases o1
 simp only [PXb,Nb,wI hN o2 o3 hs h13 hL]
 rfl
theorem ru (L:Rows):∀ k i m,iLe 0 (Cq L k i m).2.1 = !((Cq L k i m).2.2==0)∧((Cq L k i m).2.1 == -1)=((Cq L k i m).2.2==0)
 | 0,_,_=>⟨rfl,rfl⟩
 | k+1,i,m=>by
  unfold Cq
  cases hq:(Aq i m (evR L i)).2==0 with
  | false =>
   simp only [Bool.not_false,cond_true,hq]
   exact ⟨by simp only [iLe,decide_eq_true_eq];omega,beq_false_of_ne (by omega)⟩
  | true=>exact ru L k (i+1) _
theorem w9 (r:Rul) (L:Rows):iLe 0 (BF r L).2.1 = !((BF r L).2.2==0)∧((BF r L).2.1 == -1)=((BF r L).2.2==0):=by
 unfold BF
 cases (AW r).2==0 with
 | false=>exact ⟨rfl,rfl⟩
 | true=>exact ru L L.length 0 _
def DC (r:Rul) (L:Rows):Int:=cond (!(A1 r==0)) (A1 r) (cond (iLt 4000 (L.length:Int)) 9 (cond (!((BF r L).2.2==0)) 10 0))
theorem tn {N:Nat} {r1 r2 r3 r4 r5 r6 r7 r9 r10 r11 r12:Int} {r8:Bool} {r0:ByteArray} {r13:Rows} {L:Rows} (hN:2097152<N) (hs:r0.size≤1048576) (h13:r13.length≤1048576) (hL:L.length≤1048576):L4 N [.str r0,.int r1,.int r2,.int r3,.int r4,.int r5,.int r6,.int r7,.bool r8,.int r9,.int r10,.int r11,.int r12,.rows r13,.rows L]=some [.int (DC (⟨r0,r1,r2,r3,r4,r5,r6,r7,r8,r9,r10,r11,r12,r13⟩:Rul) L)]:=by
 show Le (std (EU N) N) (xOf _)=_
 generalize hres:(some [.int (DC (⟨r0,r1,r2,r3,r4,r5,r6,r7,r8,r9,r10,r11,r12,r13⟩:Rul) L)]:Option (List PV))=RR
 simp only [Le,VY,Xc,std,xOf,PXb,DX hN hs,tH hN hs h13 hL,PXm]
 subst hres;simp only [DC]
 rfl
theorem uf {N:Nat} {r1 r2 r3 r4 r5 r6 r7 r9 r10 r11 r12:Int} {r8:Bool} {r0:ByteArray} {r13:Rows} {L:Rows} (hN:2097152<N) (hs:r0.size≤1048576) (h13:r13.length≤1048576) (hL:L.length≤1048576):MG N [.str r0,.int r1,.int r2,.int r3,.int r4,.int r5,.int r6,.int r7,.bool r8,.int r9,.int r10,.int r11,.int r12,.rows r13,.rows L]=some [.int (DC (⟨r0,r1,r2,r3,r4,r5,r6,r7,r8,r9,r10,r11,r12,r13⟩:Rul) L)]:=by
 show Lj (std (EO N) N) (xOf _)=_
 generalize hres:(some [.int (DC (⟨r0,r1,r2,r3,r4,r5,r6,r7,r8,r9,r10,r11,r12,r13⟩:Rul) L)]:Option (List PV))=RR
 simp only [Lj,Xt,XV,std,xOf,PXb,Ew hN hs,fB hN hs h13 hL,PXm,Tb,PXc,(w9 (⟨r0,r1,r2,r3,r4,r5,r6,r7,r8,r9,r10,r11,r12,r13⟩:Rul) L).1]
 subst hres;simp only [DC]
def YH (L:Rows) (n:Int):Rows:=(L.take n.toNat).drop (0:Int).toNat
structure LogOk (m:Mat):Prop where
 fit:Dp m.inns
 len:m.inns.length≤5
 name:m.rules.name.size≤1048576
 power:m.rules.power.length≤1048576
end Go.Px
end
section
namespace Go.Px
set_option maxRecDepth 100000
def acc (L:Rows):Nat→Nat→Mat→Prop
 | 0,_,_=>True
 | k+1,i,m=>((Aq i m (evR L i)).2==0)=true∧acc L k (i+1) (Aq i m (evR L i)).1
def stM (L:Rows):Nat→Nat→Mat→Mat
 | 0,_,m=>m
 | k+1,i,m=>stM L k (i+1) (Aq i m (evR L i)).1
def RP (L:Rows):Nat→Nat→Mat→Rows→Rows
 | 0,_,_,out=>out
 | k+1,i,m,out=>RP L k (i+1) (Aq i m (evR L i)).1 (cond ((evR L i).kind==4) (out++[I8 i m (Aq i m (evR L i)).1 (evR L i).ball]) out)
theorem ZH (L : Rows) : ∀ K i m, ∃ k, k ≤ K ∧ acc L k i m ∧ (∀ out, Mg L K i m out = RP L k i m out) ∧
    ((k=K∧Cq L K i m=(stM L k i m,-1,0))∨(k<K∧((Aq ((i+k:Nat):Int) (stM L k i m) (evR L (i+k))).2==0)=false∧Cq L K i m=(stM L k i m,((i+k:Nat):Int),(Aq ((i+k:Nat):Int) (stM L k i m) (evR L (i+k))).2)))
  | 0,i,m=>⟨0,Nat.le_refl _,trivial,fun _=>rfl,Or.inl ⟨rfl,rfl⟩⟩
  | K+1,i,m=>by
    cases hq:(Aq i m (evR L i)).2==0 with
    | false =>
      refine ⟨0,Nat.zero_le _,trivial,fun out=>?_,Or.inr ⟨Nat.succ_pos _,hq,?_⟩⟩
      · simp only [Mg,hq,Bool.not_false,cond_true];rfl
      · simp only [Cq,hq,Bool.not_false,cond_true];rfl
    | true =>
      obtain ⟨k,h1,h2,h3,h4⟩:=ZH L K (i+1) (Aq i m (evR L i)).1
      refine ⟨k+1,Nat.succ_le_succ h1,⟨hq,h2⟩,fun out=>?_,?_⟩
      · simp only [Mg,hq,Bool.not_true,cond_false]
        exact h3 _
      · have e:Cq L (K+1) i m=Cq L K (i+1) (Aq i m (evR L i)).1:=by simp only [Cq,hq,Bool.not_true,cond_false]
        rw [e,show i+(k+1)=i+1+k by omega]
        rcases h4 with ⟨h5,h6⟩ | ⟨h5,h6⟩
        · exact Or.inl ⟨by omega,h6⟩
        · exact Or.inr ⟨by omega,h6⟩
theorem y5 {L:Rows} {n:Int} {i:Nat} (h:(i:Int)<n):evR (YH L n) i=evR L i:=by
 have e:∀ j,AK (YH L n) i j=AK L i j:=fun j=>by
  unfold AK Ad YH
  rw [List.getD_eq_getElem?_getD,List.getD_eq_getElem?_getD,List.getElem?_drop,List.getElem?_take,if_pos (by omega)]
  simp
 unfold evR atI atB
 simp only [e]
theorem vj {L:Rows} {n:Nat} (h:n≤L.length):(YH L (n:Int)).length=n:=by
 unfold YH
 rw [List.length_drop,List.length_take]
 omega
theorem yv (r:Rul):((AW r).2==0)=(A1 r==0):=by
 unfold AW
 cases h:A1 r==0 with
 | false=>exact h
 | true=>rfl
theorem zw {r:Rul} {L:Rows}:∀ k i m,StepOk r m→StepOk r (stM L k i m)
 | 0,_,_,h=>h
 | k+1,i,m,h=>zw k (i+1) _ (Zf h _ _)
theorem ZC {L:Rows}:∀ k i m,stM L (k+1) i m=(Aq ((i+k:Nat):Int) (stM L k i m) (evR L (i+k))).1
 | 0,i,m=>rfl
 | k+1,i,m=>by
  show stM L (k+1) (i+1) _=_
  rw [ZC k (i+1),show i+1+k=i+(k+1) by omega]
  rfl
end Go.Px
end
section
namespace Go.Px
set_option maxRecDepth 100000
theorem YS {L:Rows}:∀ k i m,acc L k i m→∀ j,j<k→((Aq ((i+j:Nat):Int) (stM L j i m) (evR L (i+j))).2==0)=true
 | 0,_,_,_,j,h=>absurd h (Nat.not_lt_zero j)
 | k+1,i,m,ha,0,_=>ha.1
 | k+1,i,m,ha,j+1,h=>by
  have:=YS k (i+1) _ ha.2 j (by omega)
  rw [show i+1+j=i+(j+1) by omega] at this
  exact this
def pz (L:Rows):Nat→Nat→Mat→Rows→Rows
 | 0,_,_,out=>out
 | k+1,i,m,out=>pz L k (i+1) (CM m (evR L i)).1 (cond ((evR L i).kind==4) (out++[I8 i m (CM m (evR L i)).1 (evR L i).ball]) out)
theorem sM {L X:Rows}:∀ k i m out,acc L k i m→(∀ j,j<i+k→evR X j=evR L j)→pz X k i m out=RP L k i m out
 | 0,_,_,_,_,_=>rfl
 | k+1,i,m,out,ha,he=>by
  have e:=(X6 ha.1).1
  have ih:=sM k (i+1) (Aq i m (evR L i)).1 (cond ((evR L i).kind==4) (out++[I8 i m (Aq i m (evR L i)).1 (evR L i).ball]) out) ha.2 (fun j h=>he j (by omega))
  unfold pz RP
  rw [he i (by omega),← e]
  exact ih
def qE (X:Rows) (i:Nat) (s:Rows×Mat):List PV ⊕ Rows×Mat:=.inr (cond ((evR X i).kind==4) (s.1++[I8 i s.2 (CM s.2 (evR X i)).1 (evR X i).ball]) s.1,(CM s.2 (evR X i)).1)
theorem kh (X:Rows):∀ k i s,WP (qE X) (fun s=>[.rows s.1]) k i s=[.rows (pz X k i s.2 s.1)]
 | 0,_,_=>rfl
 | k+1,i,s=>kh X k (i+1) _
def N7 (r:Rul) (L:Rows):Rows:=cond (iLe 0 (BF r L).2.1) (YH L (BF r L).2.1) L
theorem AAA {r:Rul} {L:Rows} (hc:((AW r).2==0)=true):(N7 r L).length≤L.length∧acc L (N7 r L).length 0 (AW r).1∧(∀ j,j<(N7 r L).length→evR (N7 r L) j=evR L j)∧CB r L=RP L (N7 r L).length 0 (AW r).1 []∧(iLe 0 (BF r L).2.1=true→iRg 0 (BF r L).2.1 (L.length:Int)=true):=by
 obtain ⟨k,h1,h2,h3,h4⟩:=ZH L L.length 0 (AW r).1
 have hr:BF r L=Cq L L.length 0 (AW r).1:=by unfold BF;rw [hc];rfl
 have hp:CB r L=Mg L L.length 0 (AW r).1 []:=by unfold CB;rw [hc];rfl
 unfold N7
 rw [hr,hp]
 rcases h4 with ⟨h5,h6⟩ | ⟨h5,h6,h7⟩
 ·rw [h6]
  subst h5
  exact ⟨Nat.le_refl _,h2,fun _ _=>rfl,h3 [],fun h=>absurd (show iLe (0:Int) (-1)=true from h) (by decide)⟩
 ·rw [h7]
  have hk:iLe 0 ((0+k:Nat):Int)=true:=by simp only [iLe,decide_eq_true_eq];omega
  simp only [hk,cond_true]
  rw [Nat.zero_add,vj h1]
  exact ⟨h1,h2,fun j hj=>y5 (by omega),h3 [],fun _=>by simp only [iRg,decide_eq_true_eq];omega⟩
set_option maxHeartbeats 8000000 in
theorem vd {N:Nat} {r1 r2 r3 r4 r5 r6 r7 r9 r10 r11 r12:Int} {r8:Bool} {r0:ByteArray} {r13:Rows} {L:Rows} (hN:2097152<N) (hs:r0.size≤1048576) (h13:r13.length≤1048576) (hL:L.length≤1048576):Pe N [.str r0,.int r1,.int r2,.int r3,.int r4,.int r5,.int r6,.int r7,.bool r8,.int r9,.int r10,.int r11,.int r12,.rows r13,.rows L]=some (Yc (CB (⟨r0,r1,r2,r3,r4,r5,r6,r7,r8,r9,r10,r11,r12,r13⟩:Rul) L) (BF (⟨r0,r1,r2,r3,r4,r5,r6,r7,r8,r9,r10,r11,r12,r13⟩:Rul) L)):=by
  show Pb (std (DT N) N) (xOf _)=_
  generalize hres:(some (Yc (CB (⟨r0,r1,r2,r3,r4,r5,r6,r7,r8,r9,r10,r11,r12,r13⟩:Rul) L) (BF (⟨r0,r1,r2,r3,r4,r5,r6,r7,r8,r9,r10,r11,r12,r13⟩:Rul) L)):Option (List PV))=RR
  simp only [Pb,YC,dJ,P0,Nl,std,xOf,PXb,fB hN hs h13 hL,ob hN hs h13]
  subst hres
  cases hc:(AW (⟨r0,r1,r2,r3,r4,r5,r6,r7,r8,r9,r10,r11,r12,r13⟩:Rul)).2==0
  case false =>
    have e1:BF (⟨r0,r1,r2,r3,r4,r5,r6,r7,r8,r9,r10,r11,r12,r13⟩:Rul) L=(wP,0,1):=by unfold BF;rw [hc];rfl
    have e2:CB (⟨r0,r1,r2,r3,r4,r5,r6,r7,r8,r9,r10,r11,r12,r13⟩:Rul) L=[]:=by unfold CB;rw [hc];rfl
    have hr:iRg 0 0 (L.length:Int)=true:=by simp only [iRg,decide_eq_true_eq];omega
    rw [e1,e2]
    simp only [Gz,Tb,PXb,PXc,hc,hr,show iLe (0:Int) 0=true from rfl]
    rfl
  obtain ⟨p1,p2,p3,p4,p5⟩:=AAA (L:=L) hc
  have q1:(N7 (⟨r0,r1,r2,r3,r4,r5,r6,r7,r8,r9,r10,r11,r12,r13⟩:Rul) L).length≤1048576:=by omega
  refine bind_ok (r:=[.rows (N7 (⟨r0,r1,r2,r3,r4,r5,r6,r7,r8,r9,r10,r11,r12,r13⟩:Rul) L)]) ?_ ?_
  · unfold N7
    simp only [Tb,PXb,PXc]
    cases hp:iLe 0 (BF (⟨r0,r1,r2,r3,r4,r5,r6,r7,r8,r9,r10,r11,r12,r13⟩:Rul) L).2.1 with
    | false=>rfl
    | true=>rw [p5 hp];rfl
  have okm:=fY (⟨r0,r1,r2,r3,r4,r5,r6,r7,r8,r9,r10,r11,r12,r13⟩:Rul) hc
  have on:=fun i=>zw (L:=L) i 0 _ okm
  have aat:=YS _ 0 _ p2
  rw [p4]
  have d1:=sM (X:=N7 (⟨r0,r1,r2,r3,r4,r5,r6,r7,r8,r9,r10,r11,r12,r13⟩:Rul) L) _ 0 _ [] p2 (fun j hj=>p3 j (by omega))
  rw [← d1]
  generalize hX:N7 (⟨r0,r1,r2,r3,r4,r5,r6,r7,r8,r9,r10,r11,r12,r13⟩:Rul) L=X at *
  clear hX d1 p4 p5
  simp only [Gz,PXb,PXc,hc,Nat.reduceAdd]
  refine AL (Vw (St:=Rows×Mat) (len:=X.length) (enc:=fun i s=>[.rows s.1,.int (i:Int),.str s.2.rules.name,.int s.2.rules.side,.int s.2.rules.innings,.int s.2.rules.overs,.int s.2.rules.balls,.int s.2.rules.quota,.int s.2.rules.wide,.int s.2.rules.noball,.bool s.2.rules.freehit,.int s.2.rules.newball,.int s.2.rules.followon,.int s.2.rules.reviews,.int s.2.rules.outside,.rows s.2.rules.power,.int s.2.stage,.int s.2.first,.bool s.2.follow,.rows (AR s.2.inns),.int s.2.pen1,.int s.2.pen2,.int s.2.win,.int s.2.wside,.int s.2.margin])
    (body:=qE X) (fin:=fun s=>[.rows s.1]) (fun i s=>s.2=stM L i 0 (AW (⟨r0,r1,r2,r3,r4,r5,r6,r7,r8,r9,r10,r11,r12,r13⟩:Rul)).1∧s.1.length≤i) ?_ ?_ X.length 0 ([],(AW (⟨r0,r1,r2,r3,r4,r5,r6,r7,r8,r9,r10,r11,r12,r13⟩:Rul)).1) N (by omega) (by omega) ⟨rfl,Nat.zero_le _⟩) ?_
  · intro m self _
    simp only [PXb,PXc,PXn,AB,Au]
  · intro i s self hi ok
    obtain ⟨out,m⟩:=s
    obtain ⟨ok,hout⟩:=ok
    simp only at ok hout
    have oi:=on i
    have ai:=aat i hi
    have si:=ZC (L:=L) i 0 (AW (⟨r0,r1,r2,r3,r4,r5,r6,r7,r8,r9,r10,r11,r12,r13⟩:Rul)).1
    rw [Nat.zero_add] at ai si
    rw [← ok] at oi ai si
    rw [← p3 i hi] at ai si
    have st:=(X6 ai).1
    rw [st] at ai si
    clear ok st aat on
    obtain ⟨⟨a0,a1,a2,a3,a4,a5,a6,a7,a8,a9,a10,a11,a12,a13⟩,a14,a15,a16,a17,a18,a19,a20,a21,a22⟩:=m
    have o1:=oi.rules
    have o2:=oi.fit
    have o3:=oi.len
    simp only at o1 o2 o3
    cases o1
    refine ⟨?_,?_⟩
    · simp only [PXb,PXc,PXn,AB,AX (show i≤1099511627776 by omega),Ao hi,AP hi,P0,kb hN o2 (show a17.length≤1000000 by omega) hs h13,A6,mt,Nat.reduceAdd,PXk,PXc,wu,List.length_append,List.length_cons,List.length_nil,PXi]
      unfold qE
      simp only
      have hk0:(evR X i).kind=atI X i 0:=rfl
      rw [hk0]
      cases hk:atI X i 0==4
      case false=>rfl
      have hd:=yS (m:=(⟨⟨r0,r1,r2,r3,r4,r5,r6,r7,r8,r9,r10,r11,r12,r13⟩,a14,a15,a16,a17,a18,a19,a20,a21,a22⟩:Mat)) (e:=evR X i) o3 ai hk rfl
      simp only at hd
      have h216:iSm ((out.length+1:Nat):Int) 216=true:=DF (by omega) (by omega)
      simp only [PXb,PXc,hd.1,hd.2,h216,Nl,cW,Cre.ls]
      simp only [atI,atB,PXi]
      rfl
    · intro s' h
      unfold qE at h
      cases h
      refine ⟨si.symm,?_⟩
      show (cond ((evR X i).kind==4) (out++[_]) out).length≤i+1
      cases (evR X i).kind==4 with
      | false=>show out.length≤_;omega
      | true=>show (out++[_]).length≤_;rw [List.length_append];simp;omega
  · rw [kh]
    rfl
theorem mF (r:Rul) (L:Rows):(CB r L).length≤L.length:=by
 unfold CB
 cases (AW r).2==0 with
 | false=>exact Nat.zero_le _
 | true =>
  have:=rW L L.length 0 (AW r).1 []
  rw [List.length_nil,Nat.zero_add] at this
  exact this
end Go.Px
end
