/- Part 14. -/
import Derived.Test.YtokmalmdcihogabGreatPart13
set_option linter.unusedVariables false
set_option linter.unusedSimpArgs false
variable {r1 r2 r3 r4 r5 r6 r7 r9 r10 r11 r12:Int}
variable {m1 m2 m3 m4 m5 m6 m7 m9 m10 m11 m12 m14 m15 m18 m19 m20 m21 m22:Int}
section
namespace Go.Px
set_option maxRecDepth 100000
def J7 (xs:List Inn):Prop:=∀ i,i<xs.length→(inn xs i).Fit
theorem Vf {N:Nat} {r8:Bool} {r0:ByteArray} {r13:Rows} (hl:r13.length≤1048576):DA N [.str r0,.int r1,.int r2,.int r3,.int r4,.int r5,.int r6,.int r7,.bool r8,.int r9,.int r10,.int r11,.int r12,.rows r13]=some [.str r0,.int r1,.int r2,.int r3,.int r4,.int r5,.int r6,.int r7,.bool r8,.int r9,.int r10,.int r11,.int r12,.rows r13]:=by
 show Ko (std (L6 N) N) (xOf _)=_;simp only [Ko,K0,lq9,std,xOf,PXb,PXc,PXn,PXm,Nat.reduceAdd,Int.reduceBEq,Cz,BZ hl (show 24≤4096 by omega)]
theorem Vj {xs:List Inn} {i:Nat} (h:i<xs.length):xs.take i++[inn xs i]=xs.take (i+1):=by
 rw [List.take_add_one,KR,zzo h];rfl
theorem f7 {N:Nat} {m8 m16:Bool} {m0:ByteArray} {m13:Rows} {m17:List Inn} (hf:J7 m17) (hN:2097152<N) (hl:m17.length≤1000000) (h13:m13.length≤1048576):Hr N [.str m0,.int m1,.int m2,.int m3,.int m4,.int m5,.int m6,.int m7,.bool m8,.int m9,.int m10,.int m11,.int m12,.rows m13,.int m14,.int m15,.bool m16,.rows (AZ m17),.int m18,.int m19,.int m20,.int m21,.int m22]=some [.str m0,.int m1,.int m2,.int m3,.int m4,.int m5,.int m6,.int m7,.bool m8,.int m9,.int m10,.int m11,.int m12,.rows m13,.int m14,.int m15,.bool m16,.rows (AZ m17),.int m18,.int m19,.int m20,.int m21,.int m22]:=by
 show Ke (std (IQ N) N) (xOf _)=_;simp only [Ke,QI,G5,lq9,std,xOf,PXb,Vf h13,PXi];refine Ad (DQ (len:=m17.length) (fun i=>[.rows (AZ (m17.take i)),.int (i:Int)]) [.rows (AZ m17)] ?_ ?_ N (by omega)) rfl
 ·intro self;simp only [PXb,PXc,PXn,AG,Bh,List.take_length]
 ·intro i self hi;have h2:(m17.take (i+1)).length≤1048576:=by rw [List.length_take];omega
  have h3:iSm ((m17.take (i+1)).length:Int) 304=true:=ID (by omega) (by omega);simp only [PXb,PXc,AG,BC (show i≤1099511627776 by omega),BR hi,Ax hi,PXi,G5,B8 (hf i hi),PXr,Inn.eta,h3,Vj hi,Nat.reduceAdd];rfl
def ut:Rul:=⟨⟨#[]⟩,0,0,0,0,0,0,0,false,0,0,0,0,[]⟩
def md:Mat:=⟨ut,0,0,false,[],0,0,0,0,0⟩
def BD (r:Rul):Mat×Int:=cond (!(BE r==0)) (md,BE r) (⟨r,1,0,false,[],0,0,0,0,0⟩,0)
theorem lB {N:Nat} {r8:Bool} {r0:ByteArray} {r13:Rows} (hN:2097152<N) (hs:r0.size≤1048576) (h13:r13.length≤1048576):OE N [.str r0,.int r1,.int r2,.int r3,.int r4,.int r5,.int r6,.int r7,.bool r8,.int r9,.int r10,.int r11,.int r12,.rows r13]=some (Ua (BD (⟨r0,r1,r2,r3,r4,r5,r6,r7,r8,r9,r10,r11,r12,r13⟩:Rul))):=by
 show OM (std (Kv N) N) (xOf _)=_;generalize hres:(some (Ua (BD (⟨r0,r1,r2,r3,r4,r5,r6,r7,r8,r9,r10,r11,r12,r13⟩:Rul))):Option (List PV))=RR;simp only [OM,Rs,Rt,lq9,std,xOf,PXb,PXc,PXn,PXm,Nat.reduceAdd,Int.reduceBEq,Cl hN hs,Vf h13];subst hres;simp only [BD];cases BE (⟨r0,r1,r2,r3,r4,r5,r6,r7,r8,r9,r10,r11,r12,r13⟩:Rul)==0<;>rfl
def Z5 (m:Mat):Bool:=(iLt m.pen1 0||iLt 1000000 m.pen1)||(iLt m.pen2 0||iLt 1000000 m.pen2)
def W4 (m:Mat) (i:Nat):Bool := !Gf m.rules (inn m.inns i) || !((inn m.inns i).side==C4 m (i:Int))
def gU (m:Mat):Bool :=
  let n:Int:=m.inns.length
  let most:=IntKind.i64.wrap (2 * m.rules.innings)
  BE m.rules==0&&(!(iLt m.stage 1)&&(!(iLt 5 m.stage)&&(!Z5 m&&(!(iLt m.first 0||iLt 2 m.first||iLt most n)&&(!(m.first==0&&(iLt 0 n||(!(m.stage==1) && !(m.stage==5)))) &&
    (!(m.stage==1 && !(m.first==0))&&(!(m.stage==2&&n==most)&&(!(m.stage==4&&(!(m.rules.innings==2) || !(n==2))) && !(m.follow&&(!(m.rules.innings==2)||iLt n 2))))))))))
def Ec (m:Mat):Bool:=gU m&&(!Bd (W4 m) m.inns.length 0&&Xa m)
set_option maxHeartbeats 4000000 in
theorem Vn {N:Nat} {m8 m16:Bool} {m0:ByteArray} {m13:Rows} {m17:List Inn} (hf:J7 m17) (hN:2097152<N) (hl:m17.length≤1000000) (hs:m0.size≤1048576):C7 N [.str m0,.int m1,.int m2,.int m3,.int m4,.int m5,.int m6,.int m7,.bool m8,.int m9,.int m10,.int m11,.int m12,.rows m13,.int m14,.int m15,.bool m16,.rows (AZ m17),.int m18,.int m19,.int m20,.int m21,.int m22]=some [.bool (Ec (⟨⟨m0,m1,m2,m3,m4,m5,m6,m7,m8,m9,m10,m11,m12,m13⟩,m14,m15,m16,m17,m18,m19,m20,m21,m22⟩:Mat))]:=by
 show Kr (std (Dp N) N) (xOf _)=_;generalize hres:(some [.bool (Ec (⟨⟨m0,m1,m2,m3,m4,m5,m6,m7,m8,m9,m10,m11,m12,m13⟩,m14,m15,m16,m17,m18,m19,m20,m21,m22⟩:Mat))]:Option (List PV))=RR;simp only [Kr,QS,HA,IC,H9,lq9,std,xOf,PXb,Cl hN hs,PXi];subst hres;simp only [Ec,gU];cases hc:BE (⟨⟨m0,m1,m2,m3,m4,m5,m6,m7,m8,m9,m10,m11,m12,m13⟩,m14,m15,m16,m17,m18,m19,m20,m21,m22⟩:Mat).rules==0<;>(try rfl);cases h1:iLt m14 1<;>(try rfl);cases h5:iLt 5 m14<;>(try rfl);simp only [PXb];refine Ad (LD (len:=2) (fun i=>iLt (cond ((i:Int)==1) m19 m18) 0||iLt 1000000 (cond ((i:Int)==1) m19 m18)) [.bool false] ?_ ?_ N (by omega)) ?_
 ·intro self;rfl
 ·intro i self hi;simp only [PXb,BC (show i≤1099511627776 by omega),show iLt (i:Int) 2=true from BR (len:=2) hi,show iIn (i:Int) 2=true from Ax (len:=2) hi]
 ·have hp:Bd (fun i=>iLt (cond ((i:Int)==1) m19 m18) 0||iLt 1000000 (cond ((i:Int)==1) m19 m18)) 2 0=Z5 (⟨⟨m0,m1,m2,m3,m4,m5,m6,m7,m8,m9,m10,m11,m12,m13⟩,m14,m15,m16,m17,m18,m19,m20,m21,m22⟩:Mat):=by
   simp only [B5,JI,Bool.or_false];rfl
  rw [hp];cases Z5 (⟨⟨m0,m1,m2,m3,m4,m5,m6,m7,m8,m9,m10,m11,m12,m13⟩,m14,m15,m16,m17,m18,m19,m20,m21,m22⟩:Mat)
  case true=>rfl
  simp only [PXb,KC,Int.reduceBEq];cases iLt m15 0<;>try rfl
  cases iLt 2 m15<;>try rfl
  cases iLt (IntKind.i64.wrap (2 * m2)) (m17.length:Int)<;>try rfl
  cases (m15==0&&(iLt 0 (m17.length:Int)||(!(m14==1) && !(m14==5))))<;>try rfl
  cases (m14==1 && !(m15==0))<;>try rfl
  cases (m14==2&&(m17.length:Int)==IntKind.i64.wrap (2 * m2))<;>try rfl
  cases (m14==4&&(!(m2==2) || !((m17.length:Int)==2)))<;>try rfl
  cases (m16&&(!(m2==2)||iLt (m17.length:Int) 2))<;>try rfl
  simp only [PXb];refine Ad (LD (len:=m17.length) (W4 (⟨⟨m0,m1,m2,m3,m4,m5,m6,m7,m8,m9,m10,m11,m12,m13⟩,m14,m15,m16,m17,m18,m19,m20,m21,m22⟩:Mat)) [.bool false] ?_ ?_ N (by omega)) ?_
  ·intro self;simp only [PXb,PXc,PXn,AG,Bh]
  ·intro i self hi;simp only [PXb,PXc,PXn,PXm,Nat.reduceAdd,Int.reduceBEq,BC (show i≤1099511627776 by omega),BR hi,Ax hi,PXi,HA,IC,SS (hf i hi) hN hs,O6,W4];cases Gf (⟨⟨m0,m1,m2,m3,m4,m5,m6,m7,m8,m9,m10,m11,m12,m13⟩,m14,m15,m16,m17,m18,m19,m20,m21,m22⟩:Mat).rules (inn m17 i)<;>first | rfl | simp only [PXb,PXc,PXn,PXm,Nat.reduceAdd,Int.reduceBEq]
  ·cases Bd (W4 (⟨⟨m0,m1,m2,m3,m4,m5,m6,m7,m8,m9,m10,m11,m12,m13⟩,m14,m15,m16,m17,m18,m19,m20,m21,m22⟩:Mat)) m17.length 0
   case true=>rfl
   simp only [PXb,PXc,PXn,PXm,Nat.reduceAdd,Int.reduceBEq,H9,gO hN (show m17.length≤1048576 by omega)]
def lnx (xs:List Inn):Nat:=(IntKind.i64.wrap ((xs.length:Int) - 1)).toNat
def Ak (m:Mat):Inn:=inn m.inns (lnx m.inns)
theorem Ty {n:Nat} (h:((n:Int)==0)=false) (hl:n≤1000000):iIn (IntKind.i64.wrap ((n:Int) - 1)) (n:Int)=true:=by
 rw [beq_eq_false_iff_ne] at h;rw [Bg (by omega) (by omega)];simp only [iIn,decide_eq_true_eq];omega
theorem Tv {xs:List Inn} (h:((xs.length:Int)==0)=false) (hl:xs.length≤1000000):lnx xs<xs.length:=by
 rw [beq_eq_false_iff_ne] at h;unfold lnx;rw [Bg (by omega) (by omega)];omega
def cA (r:Rul):Int:=cond (r.overs==0) 5 6
theorem Ii {N:Nat} {r8:Bool} {r0:ByteArray} {r13:Rows}  : Bk N [.str r0,.int r1,.int r2,.int r3,.int r4,.int r5,.int r6,.int r7,.bool r8,.int r9,.int r10,.int r11,.int r12,.rows r13]=some [.int (cA (⟨r0,r1,r2,r3,r4,r5,r6,r7,r8,r9,r10,r11,r12,r13⟩:Rul))]:=by
 show Fk (std (Mp N) N) (xOf _)=_;simp only [Fk,lq9,std,xOf,PXb,PXc,PXn,PXm,Nat.reduceAdd,Int.reduceBEq,cA]
def rX (x:Int×Int×Int):List PV:=[.int x.1,.int x.2.1,.int x.2.2]
def Nl (m:Mat):Int×Int×Int :=
  let n:Int:=m.inns.length
  let most:=IntKind.i64.wrap (2 * m.rules.innings)
  let x:=Ak m
  cond (!Ec m||n==0) (0,0,0) (cond (x.ending==5) (cA m.rules,0,0) (cond (x.ending==0) (0,0,0)
    (cond (n==most&&iLe x.target x.runs) (2,x.side,IntKind.i64.wrap (IntKind.i64.wrap (m.rules.side - 1) - x.wickets)) (cond (n==most&&x.runs==IntKind.i64.wrap (x.target - 1)) (4,0,0)
      (cond (n==most) (1,CH x.side,IntKind.i64.wrap (IntKind.i64.wrap (x.target - 1) - x.runs))
        (cond (n==3&&iLt (B7 m x.side) (B7 m (CH x.side))) (3,CH x.side,IntKind.i64.wrap (B7 m (CH x.side) - B7 m x.side)) (0,0,0)))))))
set_option maxHeartbeats 4000000 in
theorem bu {N:Nat} {m8 m16:Bool} {m0:ByteArray} {m13:Rows} {m17:List Inn} (hf:J7 m17) (hN:2097152<N) (hl:m17.length≤1000000) (hs:m0.size≤1048576):Fa N [.str m0,.int m1,.int m2,.int m3,.int m4,.int m5,.int m6,.int m7,.bool m8,.int m9,.int m10,.int m11,.int m12,.rows m13,.int m14,.int m15,.bool m16,.rows (AZ m17),.int m18,.int m19,.int m20,.int m21,.int m22]=some (rX (Nl (⟨⟨m0,m1,m2,m3,m4,m5,m6,m7,m8,m9,m10,m11,m12,m13⟩,m14,m15,m16,m17,m18,m19,m20,m21,m22⟩:Mat))):=by
 show IW (std (C5 N) N) (xOf _)=_;generalize hres:(some (rX (Nl (⟨⟨m0,m1,m2,m3,m4,m5,m6,m7,m8,m9,m10,m11,m12,m13⟩,m14,m15,m16,m17,m18,m19,m20,m21,m22⟩:Mat))):Option (List PV))=RR;simp only [IW,OY,OZ,OW,LB,lq9,std,xOf,PXb,PXi,Vn hf hN hl hs,Hq,Ii,PE hN (show m17.length≤1048576 by omega)];subst hres;simp only [Nl,Ak,lnx];cases hv:Ec (⟨⟨m0,m1,m2,m3,m4,m5,m6,m7,m8,m9,m10,m11,m12,m13⟩,m14,m15,m16,m17,m18,m19,m20,m21,m22⟩:Mat)
 case false=>rfl
 cases h0:(m17.length:Int)==0
 case true=>rfl
 simp only [PXb,Ty h0 hl];generalize inn m17 (IntKind.i64.wrap ((m17.length:Int) - 1)).toNat=x;cases x.ending==5
 case true=>rfl
 cases x.ending==0
 case true=>rfl
 cases (m17.length:Int)==IntKind.i64.wrap (2 * m2)<;>cases iLe x.target x.runs<;>cases x.runs==IntKind.i64.wrap (x.target - 1)<;>try rfl
 all_goals (cases (m17.length:Int)==3<;>try rfl)
 all_goals (simp only [PXb];cases iLt (B7 (⟨⟨m0,m1,m2,m3,m4,m5,m6,m7,m8,m9,m10,m11,m12,m13⟩,m14,m15,m16,m17,m18,m19,m20,m21,m22⟩:Mat) x.side) (B7 (⟨⟨m0,m1,m2,m3,m4,m5,m6,m7,m8,m9,m10,m11,m12,m13⟩,m14,m15,m16,m17,m18,m19,m20,m21,m22⟩:Mat) (CH x.side))<;>rfl)
theorem hG:∀ (n k:Nat) (f:Nat→Nat),(∀ i,i<k→1≤f i∧f i≤n)→(∀ i j,i<j→j<k→f i≠f j)→k≤n
 | 0,k,f,h,_=>by
  rcases Nat.eq_zero_or_pos k with e | e
  ·omega
  ·have:=h 0 e;omega
 | n+1,0,f,_,_=>by omega
 | n+1,k+1,f,h,hi=>by
  by_cases he:∃ j,j<k+1∧f j=n+1
  ·obtain ⟨j,hj,hfj⟩:=he;have:=hG n k (fun i=>if i=j then f k else f i) (fun i hik=>by
    show 1≤(if i=j then f k else f i)∧(if i=j then f k else f i)≤n
    by_cases e:i=j
    ·rw [if_pos e];have h1:=h k (by omega);have:f k≠f j:=fun e2=>hi j k (by omega) (by omega) e2.symm
     omega
    ·rw [if_neg e];have h1:=h i (by omega);have:f i≠f j:=by
      rcases Nat.lt_or_gt_of_ne e with e2 | e2
      ·exact hi i j e2 hj
      ·exact fun e3=>hi j i e2 (by omega) e3.symm
     omega) (fun a b hab hb=>by
    show (if a=j then f k else f a)≠(if b=j then f k else f b)
    by_cases e1:a=j
    ·have e2:b≠j:=by omega
     rw [if_pos e1,if_neg e2];exact fun e3=>hi b k hb (by omega) e3.symm
    ·rw [if_neg e1]
     by_cases e2:b=j
     ·rw [if_pos e2];exact hi a k (by omega) (by omega)
     ·rw [if_neg e2];exact hi a b hab (by omega))
   omega
  ·have:=hG n (k+1) f (fun i hik=>by
    have h1:=h i hik;have:f i≠n+1:=fun e=>he ⟨i,hik,e⟩
    omega) hi
   omega
theorem iU {L:Rows} {n:Int} (h:KG L n=true) (hn:0≤n):(L.length:Int)≤n:=by
 unfold KG at h;rw [Bool.not_eq_true',HC] at h;have hb:∀ i,i<L.length→1≤atI L i 0∧atI L i 0≤n:=fun i hi=>by
  have:=h i (by omega) (by omega);unfold Qe at this;rw [Bool.or_eq_false_iff,Bool.not_eq_false',UG] at this;exact this.1
 have:=hG n.toNat L.length (fun i=>(atI L i 0).toNat) (fun i hi=>by have:=hb i hi;show 1≤(atI L i 0).toNat∧(atI L i 0).toNat≤n.toNat;omega) (fun i j hij hj=>by
  show (atI L i 0).toNat≠(atI L j 0).toNat;have h1:=hb i (by omega);have h2:=hb j hj;have h3:=h j (by omega) (by omega);unfold Qe at h3;rw [Bool.or_eq_false_iff] at h3;have h4:=HC.1 h3.2 i (by omega) (by omega);rw [beq_eq_false_iff_ne] at h4;omega)
 omega
theorem QL {r:Rul} {s:Inn} (h:Gf r s=true):s.bowlers.length≤11∧s.before.length≤11∧s.Fit:=by
 have ok:=LQ.1 h;have hs:=su ok;have h1:=iU ok.dw (by omega);have h2:=iU ok.df (by omega);have h3:=ok.lb;have h4:=ok.ld;have h5:=ok.lz;exact ⟨by omega,by omega,by omega,by omega,by omega,by omega,by omega⟩
def Xr (m:Mat) (e:Ev):Mat×Int :=
  let sd:=C4 m (m.inns.length:Int)
  let b:=Ci m.rules sd (Gd m sd) (cond (sd==2) m.pen2 m.pen1)
  let t:=Ar m.rules b.1 e
  cond (!(b.2==0)) (m,1) (cond (!(t.2==0)) (m,t.2)
    ({ m with stage:=3,inns:=m.inns++[t.1],pen1:=cond (sd==1) 0 m.pen1,pen2:=cond (sd==2) 0 m.pen2 },0))
def Ly (xs:List Inn) (sd:Int):Nat→Option Nat
 | 0=>none
 | k+1=>cond ((inn xs k).side==sd) (some k) (Ly xs sd k)
def Gm (m:Mat) (sd:Int):Mat:=match Ly m.inns sd m.inns.length with
 | some k=>{ m with inns:=m.inns.set k (O2 (inn m.inns k)) }
 | none=>{ m with pen1:=cond (sd==1) (IntKind.i64.wrap (m.pen1+5)) m.pen1,pen2:=cond (sd==2) (IntKind.i64.wrap (m.pen2+5)) m.pen2 }
def E8 (m:Mat) (e:Ev):Mat×Int :=
 let t:=Ar m.rules (Ak m) e
 cond (!(t.2==0)) (m,t.2) (cond (e.kind==13 && !(e.side==t.1.side)) (Gm { m with inns:=m.inns.set (lnx m.inns) t.1 } e.side) { m with inns:=m.inns.set (lnx m.inns) t.1 },0)
def cW (m:Mat):Mat:={ m with inns:=cond (m.stage==3) (m.inns.set (lnx m.inns) { Ak m with ending:=5 }) m.inns,stage:=5,win:=cA m.rules,wside:=0,margin:=0 }
def F5 (m:Mat) (e:Ev):Mat×Int :=
  cond (e.kind==1) (cond (!(m.stage==1)) (m,1) ({ m with first:=cond e.yes e.side (CH e.side),stage:=2 },0))
    (cond (e.kind==2) (cond (!(m.stage==2)) (m,1) (Xr m e))
      (cond (e.kind==12) (cond (!(m.stage==4)) (m,1) (cond (!(e.side==m.first)) (m,2) ({ m with follow:=e.yes,stage:=2 },0)))
        (cond (e.kind==16) (cW m,0) (cond (!(m.stage==3)) (m,1) (E8 m e)))))
def Nk (m:Mat):Mat :=
  let n:Int:=m.inns.length
  let sd:=(Ak m).side
  let o:=Nl { m with stage:=5 }
  cond (n==IntKind.i64.wrap (2 * m.rules.innings)||(n==3&&iLt (B7 m sd) (B7 m (CH sd)))) { m with stage:=5,win:=o.1,wside:=o.2.1,margin:=o.2.2 }
    (cond (n==2&&iLt 0 m.rules.followon&&iLe m.rules.followon (IntKind.i64.wrap (B7 m m.first - B7 m (CH m.first)))) { m with stage:=4 } { m with stage:=2 })
def Bl (m:Mat):Mat:=cond (m.stage==3 && !((Ak m).ending==0)) (Nk m) m
def C3 (m:Mat) (e:Ev):Mat×Int :=
 cond (!Ec m || !(evS e==0)) (m,1) (cond (m.stage==5) (m,26) (cond (!((F5 m e).2==0)) (m,(F5 m e).2) (Bl (F5 m e).1,0)))
theorem sv {X:Option (List PV)} {r:List PV} {k:List PV→Option (List PV)} {g:Option (List PV)} (h:X=some r) (hk:k r=g):X.bind k=g:=by rw [h];exact hk
structure MatOk (m:Mat):Prop where
 code:BE m.rules=0
 len:m.inns.length≤4
 innv:∀ i,i<m.inns.length→Gf m.rules (inn m.inns i)=true∧(inn m.inns i).side=C4 m (i:Int)
 begun:(m.stage==3)=true→((m.inns.length:Int)==0)=false
 toss:(m.stage==2)=true→m.first=1∨m.first=2
 room:(m.stage==2)=true→(m.inns.length:Int)<2 * m.rules.innings
 most:IntKind.i64.wrap (2 * m.rules.innings)=2 * m.rules.innings∧(m.inns.length:Int)≤2 * m.rules.innings
theorem Th {m:Mat} (h:Ec m=true):MatOk m:=by
 unfold Ec gU at h;simp only [zzk,Bool.not_eq_true'] at h;obtain ⟨⟨h1,h2,h3,h4,h5,h6,h7,h8,h9,h10⟩,h11,h12⟩:=h;have hc:=beq_iff_eq.1 h1;have rk:=(EX hc).innings;have e2:IntKind.i64.wrap (2 * m.rules.innings)=2 * m.rules.innings:=Bg (by omega) (by omega);rw [e2] at h5 h8;rw [Bool.or_eq_false_iff,Bool.or_eq_false_iff] at h5;have hn:=h5.2;have hf1:=h5.1.1;have hf2:=h5.1.2;simp only [iLt,decide_eq_false_iff_not] at hn hf1 hf2;refine ⟨hc,by omega,fun i hi=>?_,fun hs=>?_,fun hs=>?_,fun hs=>?_,e2,by omega⟩
 ·have:=HC.1 h11 i (by omega) (by omega);unfold W4 at this;rw [Bool.or_eq_false_iff,Bool.not_eq_false',Bool.not_eq_false',beq_iff_eq] at this;exact this
 ·unfold Xa at h12;rw [hs,zzk] at h12;have:=h12.2;simp only [iLt,Bool.not_true,Bool.false_or,decide_eq_true_eq] at this;exact beq_false_of_ne (by omega)
 ·rw [beq_iff_eq.1 hs] at h6;cases h0:m.first==0 with
  | true=>rw [h0] at h6;simp at h6
  | false =>
   rw [beq_eq_false_iff_ne] at h0;omega
 ·rw [hs,Bool.true_and,beq_eq_false_iff_ne] at h8;omega
theorem rE {m:Mat} (h:m.first=1∨m.first=2) (i:Int):C4 m i=1∨C4 m i=2:=by
 unfold C4;cases cond (m.follow&&iLe 2 i) (i==2) (i.tmod 2==1) with
 | false=>exact h
 | true=>rcases h with h | h<;>rw [h]<;>decide
theorem fQ {m:Mat} (h:MatOk m):J7 m.inns:=fun i hi=>(QL (h.innv i hi).1).2.2
theorem Z9 {F : (List AU → Option (List PV)) → List PV → Option (List PV)} {len : Nat} (enc : Nat → List AU) (ans : Nat → Option (List PV))
    (h0:∀ self,F self ((enc len).map Leaf.pv)=some [.int 1]) (h1:∀ i self,i<len→F self ((enc i).map Leaf.pv)=match ans i with | some r=>some (.int 0::r) | none=>self (enc (i+1))) :
    ∀ (k i n:Nat),i+k=len→k<n→DD F n ((enc i).map Leaf.pv)=some (X5 (CC ans k i))
  | 0,i,n,hk,hn=>by
    obtain ⟨n,rfl⟩:∃ m,n=m+1:=⟨n - 1,by omega⟩;obtain rfl:i=len:=by omega
    exact h0 _
  | k+1,i,n,hk,hn=>by
    obtain ⟨n,rfl⟩:∃ m,n=m+1:=⟨n - 1,by omega⟩;show F _ _=_;rw [h1 i _ (by omega)];simp only [CC];cases ans i with
    | some r=>rfl
    | none=>exact Z9 enc ans h0 h1 k (i+1) n (by omega) (by omega)
theorem lP (ys:List Inn) (sd:Int) (g:Nat→List PV) (n:Nat):∀ k,k≤n→CC (fun j=>cond ((inn ys (n - 1 - j)).side==sd) (some (g (n - 1 - j))) none) k (n - k)=(Ly ys sd k).map g
 | 0,_=>rfl
 | k+1,h=>by
  have ih:=lP ys sd g n k (by omega);have e:n - 1 - (n - (k+1))=k:=by omega
  have e2:n - (k+1)+1=n - k:=by omega
  simp only [CC,Ly,e,e2,ih];cases (inn ys k).side==sd<;>rfl
theorem Xs (xs:List Inn) (k:Nat) (s:Inn) (i:Nat) (hi:i<xs.length):inn (xs.set k s) i=(if k=i then s else inn xs i):=by
 rw [KR,KR,List.getElem?_set]
 by_cases h:k=i
 ·subst h;rw [if_pos rfl,if_pos rfl,if_pos hi]
 ·rw [if_neg h,if_neg h]
theorem Q6 {xs:List Inn} {s:Inn} (k:Nat) (h:J7 xs) (hs:s.Fit):J7 (xs.set k s):=fun i hi=>by
 rw [List.length_set] at hi;rw [Xs xs k s i hi]
 by_cases e:k=i
 ·rw [if_pos e];exact hs
 ·rw [if_neg e];exact h i hi
theorem pT {e:Ev} (h:(evS e==0)=true) (hk:(e.kind==13)=true):e.side=1∨e.side=2:=by
 have h0:=dx h;rw [beq_iff_eq] at hk;unfold evS at h;rw [h0] at h;cases h1:gt e with
 | true=>rw [h1] at h;cases h
 | false =>
  cases h2:ZE e with
  | true=>rw [h1,h2] at h;cases h
  | false =>
   unfold ZE at h2;rw [Bool.or_eq_false_iff] at h2;have h3:=h2.1;rw [hk,show uS 13=true from rfl,Bool.and_true] at h3;simp only [btw,iLe,Bool.not_eq_false',zzk,decide_eq_true_eq] at h3;omega
theorem sX (xs:List Inn) (s:Inn) (i:Nat) (hi:i<xs.length+1):inn (xs++[s]) i=(if i<xs.length then inn xs i else s):=by
 rw [KR,KR]
 by_cases h:i<xs.length
 ·rw [if_pos h,List.getElem?_append_left h]
 ·have:i=xs.length:=by omega
  subst this;rw [if_neg h,List.getElem?_append_right (Nat.le_refl _),Nat.sub_self];rfl
theorem qh {xs:List Inn} {s:Inn} (h:J7 xs) (hs:s.Fit):J7 (xs++[s]):=fun i hi=>by
 rw [List.length_append] at hi;rw [sX xs s i hi]
 by_cases e:i<xs.length
 ·rw [if_pos e];exact h i e
 ·rw [if_neg e];exact hs
theorem dF (r:Rul) (a b c:Int) (e:Ev):(Ar r (Ci r a b c).1 e).1.Fit:=by
 obtain ⟨f,h1,h2⟩:=P3 r a b c;exact RP (Sf r _ e) f (by rw [h1,h2];exact Nat.zero_le _)
structure ActOk (m:Mat) (x:Mat×Int):Prop where
 rules:x.1.rules=m.rules
 fit:J7 x.1.inns
 len:x.1.inns.length≤5
 some':(x.2==0)=true→(x.1.stage==3)=true→((x.1.inns.length:Int)==0)=false
theorem A_c {m:Mat} (b:Bool) (x y:Mat×Int) (hx:ActOk m x) (hy:ActOk m y):ActOk m (cond b x y):=by cases b<;>assumption
theorem jd {m:Mat} (sd:Int) (hf:J7 m.inns):(Gm m sd).rules=m.rules∧J7 (Gm m sd).inns∧(Gm m sd).inns.length=m.inns.length∧(Gm m sd).stage=m.stage:=by
 unfold Gm;cases h:Ly m.inns sd m.inns.length with
 | none=>exact ⟨rfl,hf,rfl,rfl⟩
 | some k =>
  have hk:k<m.inns.length:=by
   have:∀ n,Ly m.inns sd n=some k→k<n:=by
    intro n
    induction n with
    | zero=>intro h;cases h
    | succ n ih =>
     intro h;unfold Ly at h;cases hq:(inn m.inns n).side==sd with
     | true=>rw [hq] at h;cases h;omega
     | false=>rw [hq] at h;have:=ih h;omega
   exact this _ h
  exact ⟨rfl,Q6 k hf (sU (hf k hk)),List.length_set,rfl⟩
theorem pH {m:Mat} (ok:MatOk m) (e:Ev):ActOk m (F5 m e):=by
 have hf:=fQ ok;have hl:=ok.len;have self:∀ n:Int,(n==0)=false→ActOk m (m,n):=fun n hn=>⟨rfl,hf,by show m.inns.length≤5;omega,fun h=>by rw [hn] at h;cases h⟩
 unfold F5;refine A_c _ _ _ (A_c _ _ _ (self 1 rfl) ⟨rfl,hf,by show m.inns.length≤5;omega,fun _ h=>by cases h⟩) (A_c _ _ _ ?_ (A_c _ _ _ ?_ (A_c _ _ _ ?_ ?_)))
 ·refine A_c _ _ _ (self 1 rfl) ?_;unfold Xr;refine A_c _ _ _ (self 1 rfl) ?_;cases hq:(Ar m.rules (Ci m.rules (C4 m (m.inns.length:Int)) (Gd m (C4 m (m.inns.length:Int))) (cond (C4 m (m.inns.length:Int)==2) m.pen2 m.pen1)).1 e).2==0 with
  | false =>
   simp only [Bool.not_false,cond_true];exact self _ hq
  | true =>
   simp only [Bool.not_true,cond_false];exact ⟨rfl,qh hf (dF _ _ _ _ e),by simp;omega,fun _ _=>by
    show ((((m.inns++[_]).length:Nat):Int)==0)=false;rw [List.length_append];exact beq_false_of_ne (by simp;omega)⟩
 ·exact A_c _ _ _ (self 1 rfl) (A_c _ _ _ (self 2 rfl) ⟨rfl,hf,by show m.inns.length≤5;omega,fun _ h=>by cases h⟩)
 ·unfold cW;cases h3:m.stage==3 with
  | false=>exact ⟨rfl,hf,by show m.inns.length≤5;omega,fun _ h=>by cases h⟩
  | true =>
   have h0:=ok.begun h3;have fl:=hf (lnx m.inns) (Tv h0 (by omega));exact ⟨rfl,Q6 _ hf ⟨fl.bt,fl.bw,fl.bf,fl.bd,fl.sb⟩,by show (m.inns.set _ _).length≤5;rw [List.length_set];omega,fun _ h=>by cases h⟩
 ·cases h3:m.stage==3 with
  | false=>exact self 1 rfl
  | true =>
   have h0:=ok.begun h3;have lv:=QL (ok.innv (lnx m.inns) (Tv h0 (by omega))).1;have h1:=lv.1;have h2:=lv.2.1;have ft:=RP (Sf m.rules (Ak m) e) lv.2.2 (show (inn m.inns (lnx m.inns)).before.length+(inn m.inns (lnx m.inns)).bowlers.length≤1048575 by omega);simp only [Bool.not_true,cond_false,E8];cases hq:(Ar m.rules (Ak m) e).2==0 with
   | false =>
    simp only [Bool.not_false,Bool.not_true,cond_true,cond_false];exact self _ hq
   | true =>
    have fs:=Q6 (lnx m.inns) hf ft;have ln:(m.inns.set (lnx m.inns) (Ar m.rules (Ak m) e).1).length=m.inns.length:=List.length_set;simp only [Bool.not_true,cond_false];cases (e.kind==13 && !(e.side==(Ar m.rules (Ak m) e).1.side)) with
    | false =>
     exact ⟨rfl,fs,by show (m.inns.set _ _).length≤5;omega,fun _ _=>by
      show ((((m.inns.set _ _).length:Nat):Int)==0)=false;rw [ln];exact h0⟩
    | true =>
     obtain ⟨a1,a2,a3,a4⟩:=jd (m:={ m with inns:=m.inns.set (lnx m.inns) (Ar m.rules (Ak m) e).1 }) e.side fs;exact ⟨a1,a2,by show (Gm _ _).inns.length≤5;rw [a3];show (m.inns.set _ _).length≤5;omega,fun _ _=>by
      show ((((Gm _ _).inns.length:Nat):Int)==0)=false;rw [a3];show ((((m.inns.set _ _).length:Nat):Int)==0)=false;rw [ln];exact h0⟩
set_option maxHeartbeats 8000000 in
theorem gr {N:Nat} {m8 m16:Bool} {m0:ByteArray} {m13:Rows} {m17:List Inn} {e0 e1 e2 e3 e5 e6 e7 e8 e9 e10 e11 e13 e14 e15 e16 e18:Int} {e4 e12 e17:Bool} (hN:2097152<N) (hf:J7 m17) (hl:m17.length≤1000000) (hs:m0.size≤1048576) (h13:m13.length≤1048576):Lw N [.str m0,.int m1,.int m2,.int m3,.int m4,.int m5,.int m6,.int m7,.bool m8,.int m9,.int m10,.int m11,.int m12,.rows m13,.int m14,.int m15,.bool m16,.rows (AZ m17),.int m18,.int m19,.int m20,.int m21,.int m22,.int e0,.int e1,.int e2,.int e3,.bool e4,.int e5,.int e6,.int e7,.int e8,.int e9,.int e10,.int e11,.bool e12,.int e13,.int e14,.int e15,.int e16,.bool e17,.int e18]=some (Ua (C3 (⟨⟨m0,m1,m2,m3,m4,m5,m6,m7,m8,m9,m10,m11,m12,m13⟩,m14,m15,m16,m17,m18,m19,m20,m21,m22⟩:Mat) (⟨e0,e1,e2,e3,e4,e5,e6,⟨e7,e8,e9,e10,e11,e12,e13,e14,e15,e16,e17,e18⟩⟩:Ev))):=by
 show L3 (std (BA N) N) (xOf _)=_;generalize hres:(some (Ua (C3 (⟨⟨m0,m1,m2,m3,m4,m5,m6,m7,m8,m9,m10,m11,m12,m13⟩,m14,m15,m16,m17,m18,m19,m20,m21,m22⟩:Mat) (⟨e0,e1,e2,e3,e4,e5,e6,⟨e7,e8,e9,e10,e11,e12,e13,e14,e15,e16,e17,e18⟩⟩:Ev))):Option (List PV))=RR;simp only [L3,Qq,Qx,Qu,Es,Eu,I6,Ht,D0,EJ,Cu,DE,G1,lq9,std,xOf,PXb,Vn hf hN hl hs,Vb hN,f7 hf hN hl h13];subst hres;simp only [C3];cases hv:Ec (⟨⟨m0,m1,m2,m3,m4,m5,m6,m7,m8,m9,m10,m11,m12,m13⟩,m14,m15,m16,m17,m18,m19,m20,m21,m22⟩:Mat)
 case false=>rfl
 cases he:evS (⟨e0,e1,e2,e3,e4,e5,e6,⟨e7,e8,e9,e10,e11,e12,e13,e14,e15,e16,e17,e18⟩⟩:Ev)==0
 case false=>simp only [PXb,he];rfl
 simp only [PXb,he];cases h5:m14==5
 case true=>rfl
 simp only [PXb];have ok:=Th hv;refine sv (r:=.int (F5 (⟨⟨m0,m1,m2,m3,m4,m5,m6,m7,m8,m9,m10,m11,m12,m13⟩,m14,m15,m16,m17,m18,m19,m20,m21,m22⟩:Mat) (⟨e0,e1,e2,e3,e4,e5,e6,⟨e7,e8,e9,e10,e11,e12,e13,e14,e15,e16,e17,e18⟩⟩:Ev)).2::(F5 (⟨⟨m0,m1,m2,m3,m4,m5,m6,m7,m8,m9,m10,m11,m12,m13⟩,m14,m15,m16,m17,m18,m19,m20,m21,m22⟩:Mat) (⟨e0,e1,e2,e3,e4,e5,e6,⟨e7,e8,e9,e10,e11,e12,e13,e14,e15,e16,e17,e18⟩⟩:Ev)).1.ls) ?_ ?_
 ·unfold F5;cases hk1:e0==1
  case true =>
   simp only [PXb,Eu,Hq];cases m14==1<;>cases e4<;>rfl
  cases hk2:e0==2
  case true =>
   simp only [PXb];cases hs2:m14==2
   case false=>rfl
   have hl2:m17.length≤1048576:=by omega
   have h304:iSm ((m17.length+1:Nat):Int) 304=true:=ID (by omega) (by omega);have fb:=fun a b c=>(P3 (⟨⟨m0,m1,m2,m3,m4,m5,m6,m7,m8,m9,m10,m11,m12,m13⟩,m14,m15,m16,m17,m18,m19,m20,m21,m22⟩:Mat).rules a b c).1
   have wb:∀ a b c,(Ci (⟨⟨m0,m1,m2,m3,m4,m5,m6,m7,m8,m9,m10,m11,m12,m13⟩,m14,m15,m16,m17,m18,m19,m20,m21,m22⟩:Mat).rules a b c).1.before.length+(Ci (⟨⟨m0,m1,m2,m3,m4,m5,m6,m7,m8,m9,m10,m11,m12,m13⟩,m14,m15,m16,m17,m18,m19,m20,m21,m22⟩:Mat).rules a b c).1.bowlers.length≤1000000:=fun a b c=>by
    rw [(P3 (⟨⟨m0,m1,m2,m3,m4,m5,m6,m7,m8,m9,m10,m11,m12,m13⟩,m14,m15,m16,m17,m18,m19,m20,m21,m22⟩:Mat).rules a b c).2.1,(P3 (⟨⟨m0,m1,m2,m3,m4,m5,m6,m7,m8,m9,m10,m11,m12,m13⟩,m14,m15,m16,m17,m18,m19,m20,m21,m22⟩:Mat).rules a b c).2.2];exact Nat.zero_le _
   rcases rE (m:=(⟨⟨m0,m1,m2,m3,m4,m5,m6,m7,m8,m9,m10,m11,m12,m13⟩,m14,m15,m16,m17,m18,m19,m20,m21,m22⟩:Mat)) (ok.toss hs2) (m17.length:Int) with ho | ho
   ·simp only [PXb,PXc,KC,jO,Nat.reduceAdd,Int.reduceBEq,PXi,PXr,Inn.eta,BG,List.length_append,List.length_cons,List.length_nil,h304,Xr,Es,EJ,D0,Cu,O6,Tm hN hl2,Sd hN hs,Nv (fb _ _ _) (wb _ _ _) hN hs h13,ho,wr1,wr2,jJ,jM];cases (Ci (⟨⟨m0,m1,m2,m3,m4,m5,m6,m7,m8,m9,m10,m11,m12,m13⟩,m14,m15,m16,m17,m18,m19,m20,m21,m22⟩:Mat).rules 1 (Gd (⟨⟨m0,m1,m2,m3,m4,m5,m6,m7,m8,m9,m10,m11,m12,m13⟩,m14,m15,m16,m17,m18,m19,m20,m21,m22⟩:Mat) 1) m18).2==0<;>try rfl
    cases (Ar (⟨⟨m0,m1,m2,m3,m4,m5,m6,m7,m8,m9,m10,m11,m12,m13⟩,m14,m15,m16,m17,m18,m19,m20,m21,m22⟩:Mat).rules (Ci (⟨⟨m0,m1,m2,m3,m4,m5,m6,m7,m8,m9,m10,m11,m12,m13⟩,m14,m15,m16,m17,m18,m19,m20,m21,m22⟩:Mat).rules 1 (Gd (⟨⟨m0,m1,m2,m3,m4,m5,m6,m7,m8,m9,m10,m11,m12,m13⟩,m14,m15,m16,m17,m18,m19,m20,m21,m22⟩:Mat) 1) m18).1 (⟨e0,e1,e2,e3,e4,e5,e6,⟨e7,e8,e9,e10,e11,e12,e13,e14,e15,e16,e17,e18⟩⟩:Ev)).2==0<;>rfl
   ·simp only [PXb,PXc,KC,jO,Nat.reduceAdd,Int.reduceBEq,PXi,PXr,Inn.eta,BG,List.length_append,List.length_cons,List.length_nil,h304,Xr,Es,EJ,D0,Cu,O6,Tm hN hl2,Sd hN hs,Nv (fb _ _ _) (wb _ _ _) hN hs h13,ho,wr1,wr2,jJ,jM];cases (Ci (⟨⟨m0,m1,m2,m3,m4,m5,m6,m7,m8,m9,m10,m11,m12,m13⟩,m14,m15,m16,m17,m18,m19,m20,m21,m22⟩:Mat).rules 2 (Gd (⟨⟨m0,m1,m2,m3,m4,m5,m6,m7,m8,m9,m10,m11,m12,m13⟩,m14,m15,m16,m17,m18,m19,m20,m21,m22⟩:Mat) 2) m19).2==0<;>try rfl
    cases (Ar (⟨⟨m0,m1,m2,m3,m4,m5,m6,m7,m8,m9,m10,m11,m12,m13⟩,m14,m15,m16,m17,m18,m19,m20,m21,m22⟩:Mat).rules (Ci (⟨⟨m0,m1,m2,m3,m4,m5,m6,m7,m8,m9,m10,m11,m12,m13⟩,m14,m15,m16,m17,m18,m19,m20,m21,m22⟩:Mat).rules 2 (Gd (⟨⟨m0,m1,m2,m3,m4,m5,m6,m7,m8,m9,m10,m11,m12,m13⟩,m14,m15,m16,m17,m18,m19,m20,m21,m22⟩:Mat) 2) m19).1 (⟨e0,e1,e2,e3,e4,e5,e6,⟨e7,e8,e9,e10,e11,e12,e13,e14,e15,e16,e17,e18⟩⟩:Ev)).2==0<;>rfl
  cases hk3:e0==12
  case true =>
   simp only [PXb];cases m14==4<;>cases e1==m15<;>rfl
  cases hk4:e0==16
  case true =>
   simp only [PXb,cW];cases h3:m14==3
   case false=>simp only [PXb,PXc,PXi,PXr,KC,Nat.reduceAdd,DE,Ii];rfl
   simp only [PXb,PXc,PXi,PXr,KC,Nat.reduceAdd,Ty (ok.begun h3) hl,DE,Ii];rfl
  simp only [PXb];cases h3:m14==3
  case false=>rfl
  have h0:=ok.begun h3;have lv:=QL (ok.innv (lnx m17) (Tv h0 hl)).1;have fl:(inn m17 (IntKind.i64.wrap ((m17.length:Int) - 1)).toNat).Fit:=lv.2.2;have wl:(inn m17 (IntKind.i64.wrap ((m17.length:Int) - 1)).toNat).before.length+(inn m17 (IntKind.i64.wrap ((m17.length:Int) - 1)).toNat).bowlers.length≤1000000:=by
   have h1:=lv.1;have h2:=lv.2.1;change (inn m17 (IntKind.i64.wrap ((m17.length:Int) - 1)).toNat).bowlers.length≤11 at h1;change (inn m17 (IntKind.i64.wrap ((m17.length:Int) - 1)).toNat).before.length≤11 at h2;omega
  have f1:=RP (Sf (⟨⟨m0,m1,m2,m3,m4,m5,m6,m7,m8,m9,m10,m11,m12,m13⟩,m14,m15,m16,m17,m18,m19,m20,m21,m22⟩:Mat).rules (inn m17 (IntKind.i64.wrap ((m17.length:Int) - 1)).toNat) (⟨e0,e1,e2,e3,e4,e5,e6,⟨e7,e8,e9,e10,e11,e12,e13,e14,e15,e16,e17,e18⟩⟩:Ev)) fl (by omega);simp only [PXb,PXc,PXi,PXr,BG,Inn.eta,KC,Nat.reduceAdd,List.length_set,Ty h0 hl,Cu,Nv fl wl hN hs h13,E8,Ak,lnx];generalize hX:Ar (⟨⟨m0,m1,m2,m3,m4,m5,m6,m7,m8,m9,m10,m11,m12,m13⟩,m14,m15,m16,m17,m18,m19,m20,m21,m22⟩:Mat).rules (inn m17 (IntKind.i64.wrap ((m17.length:Int) - 1)).toNat) (⟨e0,e1,e2,e3,e4,e5,e6,⟨e7,e8,e9,e10,e11,e12,e13,e14,e15,e16,e17,e18⟩⟩:Ev)=X at f1;have fy:=Q6 (IntKind.i64.wrap ((m17.length:Int) - 1)).toNat hf f1;generalize hy:m17.set (IntKind.i64.wrap ((m17.length:Int) - 1)).toNat X.1=ys at fy;have ly:ys.length=m17.length:=by rw [← hy,List.length_set]
  cases X.2==0<;>try rfl
  cases h13k:e0==13
  case false=>rfl
  cases hsd:e1==X.1.side
  case true=>rfl
  simp only [PXb,Option.bind_assoc];have e0w:IntKind.i64.wrap ((m17.length:Int) - 1)=(m17.length:Int) - 1 - ((0:Nat):Int):=by
   rw [beq_eq_false_iff_ne] at h0;rw [Bg (by omega) (by omega)];omega
  rw [e0w];have hside:=pT (e:=(⟨e0,e1,e2,e3,e4,e5,e6,⟨e7,e8,e9,e10,e11,e12,e13,e14,e15,e16,e17,e18⟩⟩:Ev)) he h13k;simp only at hside;refine Ad (Z9 (len:=m17.length) (fun j=>[.int ((m17.length:Int) - 1 - (j:Int))]) (fun j=>cond ((inn ys (m17.length - 1 - j)).side==e1) (some [PV.str m0,PV.int m1,PV.int m2,PV.int m3,PV.int m4,PV.int m5,PV.int m6,PV.int m7,PV.bool m8,PV.int m9,PV.int m10,PV.int m11,PV.int m12,PV.rows m13,PV.int m14,PV.int m15,PV.bool m16,PV.rows (AZ (ys.set (m17.length - 1 - j) (O2 (inn ys (m17.length - 1 - j))))),PV.int m18,PV.int m19,PV.int m20,PV.int m21,PV.int m22]) none) ?_ ?_ m17.length 0 N (by omega) (by omega)) ?_
  ·intro self;have q1:iLe 0 ((m17.length:Int) - 1 - (m17.length:Int))=false:=by simp only [iLe,decide_eq_false_iff_not];omega
   simp only [PXb,q1]
  ·intro i self hi;have q1:iLe 0 ((m17.length:Int) - 1 - (i:Int))=true:=by simp only [iLe,decide_eq_true_eq];omega
   have q2:iIn ((m17.length:Int) - 1 - (i:Int)) (m17.length:Int)=true:=by simp only [iIn,decide_eq_true_eq];omega
   have q3:((m17.length:Int) - 1 - (i:Int)).toNat=m17.length - 1 - i:=by omega
   have q4:IntKind.i64.wrap ((m17.length:Int) - 1 - (i:Int) - 1)=(m17.length:Int) - 1 - ((i+1:Nat):Int):=by rw [Bg (by omega) (by omega)];omega
   have q5:=fy (m17.length - 1 - i) (by omega);simp only [PXb,PXc,q1,q2,q3,q4,G1,Ps q5,PXm];cases (inn ys (m17.length - 1 - i)).side==e1<;>rfl
  ·have hfa:=lP ys e1 (fun k=>[PV.str m0,PV.int m1,PV.int m2,PV.int m3,PV.int m4,PV.int m5,PV.int m6,PV.int m7,PV.bool m8,PV.int m9,PV.int m10,PV.int m11,PV.int m12,PV.rows m13,PV.int m14,PV.int m15,PV.bool m16,PV.rows (AZ (ys.set k (O2 (inn ys k)))),PV.int m18,PV.int m19,PV.int m20,PV.int m21,PV.int m22]) m17.length m17.length (Nat.le_refl _);rw [Nat.sub_self] at hfa;rw [hfa];unfold Gm;simp only [ly];cases Ly ys e1 m17.length with
   | some k=>rfl
   | none =>
    rcases hside with h | h<;>subst h
    ·simp only [Option.map_none,X5,PXb,PXc,KC,Int.reduceBEq,wr1,jJ];rfl
    ·simp only [Option.map_none,X5,PXb,PXc,KC,Int.reduceBEq,wr2,jM];rfl
 ·have ak:=pH ok (⟨e0,e1,e2,e3,e4,e5,e6,⟨e7,e8,e9,e10,e11,e12,e13,e14,e15,e16,e17,e18⟩⟩:Ev);generalize F5 (⟨⟨m0,m1,m2,m3,m4,m5,m6,m7,m8,m9,m10,m11,m12,m13⟩,m14,m15,m16,m17,m18,m19,m20,m21,m22⟩:Mat) (⟨e0,e1,e2,e3,e4,e5,e6,⟨e7,e8,e9,e10,e11,e12,e13,e14,e15,e16,e17,e18⟩⟩:Ev)=A at ak;obtain ⟨⟨⟨a0,a1,a2,a3,a4,a5,a6,a7,a8,a9,a10,a11,a12,a13⟩,a14,a15,a16,a17,a18,a19,a20,a21,a22⟩,l⟩:=A;obtain ⟨k1,k2,k3,k4⟩:=ak;simp only at k1 k2 k3 k4;have hl5:a17.length≤1048576:=by omega
  have hs5:a0.size≤1048576:=by
   have:=congrArg Rul.name k1;simp only at this;rw [this];exact hs
  simp only [PXb,PXc,PXk,PXi,KC,Nat.reduceAdd];cases hl0:l==0
  case false=>rfl
  simp only [PXb,Bl];cases h3:a14==3
  case false=>rfl
  have h0:=k4 hl0 h3;have li:=Ty h0 (show a17.length≤1000000 by omega);simp only [PXb,PXc,PXi,li];cases he2:(inn a17 (IntKind.i64.wrap ((a17.length:Int) - 1)).toNat).ending==0
  case true=>simp only [PXb,Ak,lnx,he2]
  simp only [PXb,PXc,PXi,Ak,lnx,he2,I6,Eu,Ht,PE hN hl5,Hq,bu k2 hN (show a17.length≤1000000 by omega) hs5];unfold Nk;simp only [Ak,lnx];simp only [B7,Ak,lnx];cases hq1:((a17.length:Int)==IntKind.i64.wrap (2 * a2))
  case true=>rfl
  cases hq2:((a17.length:Int)==3)
  case true =>
   simp only [PXb];cases iLt (PM a17 (inn a17 (IntKind.i64.wrap ((a17.length:Int) - 1)).toNat).side a17.length) (PM a17 (CH (inn a17 (IntKind.i64.wrap ((a17.length:Int) - 1)).toNat).side) a17.length)
   case true=>rfl
   simp only [PXb];cases ((a17.length:Int)==2)&&iLt 0 a10&&iLe a10 (IntKind.i64.wrap (PM a17 a15 a17.length - PM a17 (CH a15) a17.length))<;>rfl
  simp only [PXb];cases ((a17.length:Int)==2)&&iLt 0 a10&&iLe a10 (IntKind.i64.wrap (PM a17 a15 a17.length - PM a17 (CH a15) a17.length))<;>rfl
theorem kd (m:Mat):(Nk m).rules=m.rules∧(Nk m).inns=m.inns:=by
 unfold Nk
 dsimp only
 cases ((m.inns.length:Int)==IntKind.i64.wrap (2 * m.rules.innings)||((m.inns.length:Int)==3&&iLt (B7 m (Ak m).side) (B7 m (CH (Ak m).side)))) with
 | true=>exact ⟨rfl,rfl⟩
 | false =>
  cases ((m.inns.length:Int)==2&&iLt 0 m.rules.followon&&iLe m.rules.followon (IntKind.i64.wrap (B7 m m.first - B7 m (CH m.first))))<;>exact ⟨rfl,rfl⟩
theorem Z6 (m:Mat):(Bl m).rules=m.rules∧(Bl m).inns=m.inns:=by
 unfold Bl;cases (m.stage==3 && !((Ak m).ending==0)) with
 | true=>exact kd m
 | false=>exact ⟨rfl,rfl⟩
structure StepOk (r:Rul) (m:Mat):Prop where
 rules:m.rules=r
 fit:J7 m.inns
 len:m.inns.length≤5
theorem nY {r:Rul} {m:Mat} (h:StepOk r m) (e:Ev):StepOk r (C3 m e).1:=by
 unfold C3;cases hv:Ec m with
 | false=>exact h
 | true =>
  cases he:evS e==0 with
  | false=>exact h
  | true =>
   cases h5:m.stage==5 with
   | true=>exact h
   | false =>
    have a:=pH (Th hv) e;cases hx:(F5 m e).2==0 with
    | false=>exact h
    | true =>
     have k:=Z6 (F5 m e).1;exact ⟨k.1.trans (a.rules.trans h.rules),by show J7 (Bl _).inns;rw [k.2];exact a.fit,by show (Bl _).inns.length≤5;rw [k.2];exact a.len⟩
theorem eT (r:Rul) (h:((BD r).2==0)=true):StepOk r (BD r).1:=by
 unfold BD at h ⊢;cases hc:BE r==0 with
 | false=>rw [hc] at h;exact absurd (show (BE r==0)=true from h) (by rw [hc];decide)
 | true=>exact ⟨rfl,fun i hi=>absurd hi (Nat.not_lt_zero i),Nat.zero_le _⟩
theorem Zp {m:Mat} {e:Ev} (h:((C3 m e).2==0)=true):Ec m=true∧(evS e==0)=true∧(m.stage==5)=false∧((F5 m e).2==0)=true∧(C3 m e).1=Bl (F5 m e).1:=by
 unfold C3 at h ⊢;cases hv:Ec m with
 | false=>rw [hv] at h;exact absurd (show ((1:Int)==0)=true from h) (by decide)
 | true =>
  cases he:evS e==0 with
  | false=>rw [hv,he] at h;exact absurd (show ((1:Int)==0)=true from h) (by decide)
  | true =>
   cases h5:m.stage==5 with
   | true=>rw [hv,he,h5] at h;exact absurd (show ((26:Int)==0)=true from h) (by decide)
   | false =>
    cases hx:(F5 m e).2==0 with
    | false=>rw [hv,he,h5,hx] at h;exact absurd (show ((F5 m e).2==0)=true from h) (by rw [hx];decide)
    | true=>exact ⟨rfl,rfl,rfl,rfl,rfl⟩
theorem mL {m:Mat} {e:Ev} (h:((C3 m e).2==0)=true) (hk:(e.kind==4)=true):(m.stage==3)=true∧((m.inns.length:Int)==0)=false∧((Ar m.rules (Ak m) e).2==0)=true∧(C3 m e).1.inns=m.inns.set (lnx m.inns) (Ar m.rules (Ak m) e).1:=by
 obtain ⟨hv,he,h5,ha,hs⟩:=Zp h;have hk4:=beq_iff_eq.1 hk;rw [hs,(Z6 _).2];unfold F5 at ha ⊢;simp only [hk4,Int.reduceBEq,cond_false] at ha ⊢;cases h3:m.stage==3 with
 | false=>rw [h3] at ha;exact absurd (show ((1:Int)==0)=true from ha) (by decide)
 | true =>
  rw [h3] at ha;simp only [Bool.not_true,cond_false] at ha ⊢;unfold E8 at ha ⊢;cases hq:(Ar m.rules (Ak m) e).2==0 with
  | false=>simp only [hq,Bool.not_false,cond_true] at ha;exact absurd ha Bool.false_ne_true
  | true =>
   simp only [hk4,Int.reduceBEq,Bool.false_and,hq,Bool.not_true,cond_false];exact ⟨trivial,(Th hv).begun h3,trivial,trivial⟩
def evR (L:Rows) (i:Nat):Ev:=⟨atI L i 0,atI L i 1,atI L i 2,atI L i 3,atB L i 4,atI L i 5,atI L i 6,⟨atI L i 7,atI L i 8,atI L i 9,atI L i 10,atI L i 11,atB L i 12,atI L i 13,atI L i 14,atI L i 15,atI L i 16,atB L i 17,atI L i 18⟩⟩
theorem un (L:Rows) (i:Nat):(⟨atI L i 0,atI L i 1,atI L i 2,atI L i 3,atB L i 4,atI L i 5,atI L i 6,⟨atI L i 7,atI L i 8,atI L i 9,atI L i 10,atI L i 11,atB L i 12,atI L i 13,atI L i 14,atI L i 15,atI L i 16,atB L i 17,atI L i 18⟩⟩:Ev)=evR L i:=rfl
def A7 (i:Int) (m:Mat) (e:Ev):Mat×Int:=cond (iLe 4000 i) (m,26) (C3 m e)
def ES (L:Rows):Nat→Nat→Mat→Mat×Int×Int
 | 0,_,m=>(m,-1,0)
 | k+1,i,m=>cond (!((A7 i m (evR L i)).2==0)) (m,(i:Int),(A7 i m (evR L i)).2) (ES L k (i+1) (A7 i m (evR L i)).1)
def aH (i:Int) (m t:Mat) (d:Del):List PV :=
 [.int i,.int (IntKind.i64.wrap ((m.inns.length:Int) - 1)),.int (Ak m).complete,.int (Ak m).inover,.int (Ak m).bowler,.int (Ak m).striker,.int (Ak m).other,.bool (Ak m).freehit,
  .int d.type,.int d.source,.int d.runs,.int d.short,.int d.boundary,.bool d.crossed,.int d.how,.int d.victim,.int d.fielder,.int d.second,.bool d.sub,.int d.sector,
  .int (AE m.rules d).batter,.int (AE m.rules d).wides,.int (AE m.rules d).noballs,.int (AE m.rules d).byes,.int (AE m.rules d).legbyes,.int (AE m.rules d).bowler,.bool (AE m.rules d).counts,.bool (AE m.rules d).faced,.bool (AE m.rules d).wicket,.bool (AE m.rules d).swap,
  .int (inn t.inns (lnx m.inns)).runs,.int (inn t.inns (lnx m.inns)).wickets]
def Se (L:Rows):Nat→Nat→Mat→Rows→Rows
 | 0,_,_,out=>out
 | k+1,i,m,out=>cond (!((A7 i m (evR L i)).2==0)) out (Se L k (i+1) (A7 i m (evR L i)).1 (cond ((evR L i).kind==4) (out++[aH i m (A7 i m (evR L i)).1 (evR L i).ball]) out))
def mV (f:Mat×Int×Int):List PV:=[.str f.1.rules.name,.int f.1.rules.side,.int f.1.rules.innings,.int f.1.rules.overs,.int f.1.rules.balls,.int f.1.rules.quota,.int f.1.rules.wide,.int f.1.rules.noball,.bool f.1.rules.freehit,.int f.1.rules.newball,.int f.1.rules.followon,.int f.1.rules.reviews,.int f.1.rules.outside,.rows f.1.rules.power,.int f.1.stage,.int f.1.first,.bool f.1.follow,.rows (AZ f.1.inns),.int f.1.pen1,.int f.1.pen2,.int f.1.win,.int f.1.wside,.int f.1.margin,.int f.2.1,.int f.2.2]
def Aw (r:Rul) (L:Rows):Mat×Int×Int:=cond (!((BD r).2==0)) (md,0,1) (ES L L.length 0 (BD r).1)
def eE (r:Rul) (L:Rows):Rows:=cond (!((BD r).2==0)) [] (Se L L.length 0 (BD r).1 [])
theorem j5 (L:Rows):∀ k i m,((ES L k i m).2.1 == -1)=true→(ES L k i m).2.2=0
 | 0,_,_,_=>rfl
 | k+1,i,m,h=>by
  unfold ES at h ⊢;cases hq:(A7 i m (evR L i)).2==0 with
  | false =>
   rw [hq] at h;have:=beq_iff_eq.1 (show ((i:Int) == -1)=true from h);omega
  | true=>rw [hq] at h;exact j5 L k (i+1) _ h
theorem Zh {r:Rul} {m:Mat} (h:StepOk r m) (i:Int) (e:Ev):StepOk r (A7 i m e).1:=by
 unfold A7;cases iLe 4000 i with
 | true=>exact h
 | false=>exact nY h e
theorem iM {m:Mat} {i:Int} {e:Ev} (h:((A7 i m e).2==0)=true):A7 i m e=C3 m e∧iLe 4000 i=false:=by
 unfold A7 at h ⊢;cases h4:iLe 4000 i with
 | true=>rw [h4] at h;exact absurd (show ((26:Int)==0)=true from h) (by decide)
 | false=>exact ⟨rfl,rfl⟩
theorem mc {N:Nat} {m8 m16:Bool} {m0:ByteArray} {m13:Rows} {m17:List Inn} {i:Int} {e0 e1 e2 e3 e5 e6 e7 e8 e9 e10 e11 e13 e14 e15 e16 e18:Int} {e4 e12 e17:Bool} (hN:2097152<N) (hf:J7 m17) (hl:m17.length≤1000000) (hs:m0.size≤1048576) (h13:m13.length≤1048576):M2 N [.str m0,.int m1,.int m2,.int m3,.int m4,.int m5,.int m6,.int m7,.bool m8,.int m9,.int m10,.int m11,.int m12,.rows m13,.int m14,.int m15,.bool m16,.rows (AZ m17),.int m18,.int m19,.int m20,.int m21,.int m22,.int i,.int e0,.int e1,.int e2,.int e3,.bool e4,.int e5,.int e6,.int e7,.int e8,.int e9,.int e10,.int e11,.bool e12,.int e13,.int e14,.int e15,.int e16,.bool e17,.int e18]=some (Ua (A7 i (⟨⟨m0,m1,m2,m3,m4,m5,m6,m7,m8,m9,m10,m11,m12,m13⟩,m14,m15,m16,m17,m18,m19,m20,m21,m22⟩:Mat) (⟨e0,e1,e2,e3,e4,e5,e6,⟨e7,e8,e9,e10,e11,e12,e13,e14,e15,e16,e17,e18⟩⟩:Ev))):=by
 show MK (std (Gu N) N) (xOf _)=_;generalize hres:(some (Ua (A7 i (⟨⟨m0,m1,m2,m3,m4,m5,m6,m7,m8,m9,m10,m11,m12,m13⟩,m14,m15,m16,m17,m18,m19,m20,m21,m22⟩:Mat) (⟨e0,e1,e2,e3,e4,e5,e6,⟨e7,e8,e9,e10,e11,e12,e13,e14,e15,e16,e17,e18⟩⟩:Ev))):Option (List PV))=RR;simp only [MK,TX,lq9,std,xOf,PXb,gr hN hf hl hs h13];subst hres;simp only [A7];cases iLe 4000 i<;>rfl
theorem bp {N:Nat} {i:Int} {m8 m16:Bool} {m0:ByteArray} {m13:Rows} {m17:List Inn} {t1 t2 t3 t4 t5 t6 t7 t9 t10 t11 t12 t14 t15 t18 t19 t20 t21 t22:Int} {t8 t16:Bool} {t0:ByteArray} {t13:Rows} {t17:List Inn} {d0 d1 d2 d3 d4 d6 d7 d8 d9 d11:Int} {d5 d10:Bool} (h1:iIn (IntKind.i64.wrap ((m17.length:Int) - 1)) (m17.length:Int)=true) (h2:iIn (IntKind.i64.wrap ((m17.length:Int) - 1)) (t17.length:Int)=true):IL N [.int i,.str m0,.int m1,.int m2,.int m3,.int m4,.int m5,.int m6,.int m7,.bool m8,.int m9,.int m10,.int m11,.int m12,.rows m13,.int m14,.int m15,.bool m16,.rows (AZ m17),.int m18,.int m19,.int m20,.int m21,.int m22,.str t0,.int t1,.int t2,.int t3,.int t4,.int t5,.int t6,.int t7,.bool t8,.int t9,.int t10,.int t11,.int t12,.rows t13,.int t14,.int t15,.bool t16,.rows (AZ t17),.int t18,.int t19,.int t20,.int t21,.int t22,.int d0,.int d1,.int d2,.int d3,.int d4,.bool d5,.int d6,.int d7,.int d8,.int d9,.bool d10,.int d11]=some (aH i (⟨⟨m0,m1,m2,m3,m4,m5,m6,m7,m8,m9,m10,m11,m12,m13⟩,m14,m15,m16,m17,m18,m19,m20,m21,m22⟩:Mat) (⟨⟨t0,t1,t2,t3,t4,t5,t6,t7,t8,t9,t10,t11,t12,t13⟩,t14,t15,t16,t17,t18,t19,t20,t21,t22⟩:Mat) (⟨d0,d1,d2,d3,d4,d5,d6,d7,d8,d9,d10,d11⟩:Del)):=by
 show IP (std (J5 N) N) (xOf _)=_;simp only [IP,Ln,lq9,std,xOf,PXb,PXi,h1,h2,PY];rfl
def Q3 (L:Rows) (i:Nat) (s:Rows×Mat):List PV ⊕ Rows×Mat:=cond (!((A7 i s.2 (evR L i)).2==0)) (.inl (.int 0::.rows s.1::.int i::.int (A7 i s.2 (evR L i)).2::s.2.ls)) (.inr (cond ((evR L i).kind==4) (s.1++[aH i s.2 (A7 i s.2 (evR L i)).1 (evR L i).ball]) s.1,(A7 i s.2 (evR L i)).1))
def nD (out:Rows) (f:Mat×Int×Int):List PV:=cond (f.2.1 == -1) (.int 1::.rows out::f.1.ls) (.int 0::.rows out::.int f.2.1::.int f.2.2::f.1.ls)
theorem fF (L:Rows):∀ k i s,aB (Q3 L) (fun s=>.int 1::.rows s.1::s.2.ls) k i s=nD (Se L k i s.2 s.1) (ES L k i s.2)
 | 0,_,_=>rfl
 | k+1,i,s=>by
  simp only [aB,Q3,ES,Se];cases (A7 i s.2 (evR L i)).2==0 with
  | false =>
   simp only [Bool.not_false,cond_true,nD];rw [show ((i:Int) == -1)=false from beq_false_of_ne (show (i:Int) ≠ -1 by omega)];rfl
  | true=>exact fF L k (i+1) _
def og (out:Rows) (f:Mat×Int×Int):List PV:=[.rows out,.str f.1.rules.name,.int f.1.rules.side,.int f.1.rules.innings,.int f.1.rules.overs,.int f.1.rules.balls,.int f.1.rules.quota,.int f.1.rules.wide,.int f.1.rules.noball,.bool f.1.rules.freehit,.int f.1.rules.newball,.int f.1.rules.followon,.int f.1.rules.reviews,.int f.1.rules.outside,.rows f.1.rules.power,.int f.1.stage,.int f.1.first,.bool f.1.follow,.rows (AZ f.1.inns),.int f.1.pen1,.int f.1.pen2,.int f.1.win,.int f.1.wside,.int f.1.margin,.int f.2.1,.int f.2.2]
theorem tj {m t:Mat} {e:Ev} (hl:m.inns.length≤5) (h:((C3 m e).2==0)=true) (hk:(e.kind==4)=true) (ht:(C3 m e).1=t):iIn (IntKind.i64.wrap ((m.inns.length:Int) - 1)) (m.inns.length:Int)=true∧iIn (IntKind.i64.wrap ((m.inns.length:Int) - 1)) (t.inns.length:Int)=true:=by
 obtain ⟨_,h2,_,h4⟩:=mL h hk;have:=Ty h2 (show m.inns.length≤1000000 by omega);rw [← ht,h4,List.length_set];exact ⟨this,this⟩
set_option maxHeartbeats 8000000 in
theorem mI {N:Nat} {r8:Bool} {r0:ByteArray} {r13:Rows} {L:Rows} (hN:2097152<N) (hs:r0.size≤1048576) (h13:r13.length≤1048576) (hL:L.length≤1048576):Mw N [.str r0,.int r1,.int r2,.int r3,.int r4,.int r5,.int r6,.int r7,.bool r8,.int r9,.int r10,.int r11,.int r12,.rows r13,.rows L]=some (og (eE (⟨r0,r1,r2,r3,r4,r5,r6,r7,r8,r9,r10,r11,r12,r13⟩:Rul) L) (Aw (⟨r0,r1,r2,r3,r4,r5,r6,r7,r8,r9,r10,r11,r12,r13⟩:Rul) L)):=by
  show MS (std (DV N) N) (xOf _)=_;generalize hres:(some (og (eE (⟨r0,r1,r2,r3,r4,r5,r6,r7,r8,r9,r10,r11,r12,r13⟩:Rul) L) (Aw (⟨r0,r1,r2,r3,r4,r5,r6,r7,r8,r9,r10,r11,r12,r13⟩:Rul) L)):Option (List PV))=RR;simp only [MS,Uy,NP,I9,lq9,std,xOf,PXb,lB hN hs h13];subst hres;simp only [eE,Aw];have nk:=eT (⟨r0,r1,r2,r3,r4,r5,r6,r7,r8,r9,r10,r11,r12,r13⟩:Rul);generalize BD (⟨r0,r1,r2,r3,r4,r5,r6,r7,r8,r9,r10,r11,r12,r13⟩:Rul)=X at nk;obtain ⟨⟨⟨m0,m1,m2,m3,m4,m5,m6,m7,m8,m9,m10,m11,m12,m13⟩,m14,m15,m16,m17,m18,m19,m20,m21,m22⟩,l⟩:=X;simp only at nk;simp only [PXb,PXc,PXk,Nat.reduceAdd];cases hl:l==0
  case false=>rfl
  have ok:=nk hl;simp only [PXb];refine Ad (fK (St:=Rows×Mat) (len:=L.length) (enc:=fun i s=>[.rows s.1,.int (i:Int),.str s.2.rules.name,.int s.2.rules.side,.int s.2.rules.innings,.int s.2.rules.overs,.int s.2.rules.balls,.int s.2.rules.quota,.int s.2.rules.wide,.int s.2.rules.noball,.bool s.2.rules.freehit,.int s.2.rules.newball,.int s.2.rules.followon,.int s.2.rules.reviews,.int s.2.rules.outside,.rows s.2.rules.power,.int s.2.stage,.int s.2.first,.bool s.2.follow,.rows (AZ s.2.inns),.int s.2.pen1,.int s.2.pen2,.int s.2.win,.int s.2.wside,.int s.2.margin])
    (body:=Q3 L) (fin:=fun s=>.int 1::.rows s.1::s.2.ls) (fun i s=>StepOk (⟨r0,r1,r2,r3,r4,r5,r6,r7,r8,r9,r10,r11,r12,r13⟩:Rul) s.2∧s.1.length≤i) ?_ ?_ L.length 0 ([],(⟨⟨m0,m1,m2,m3,m4,m5,m6,m7,m8,m9,m10,m11,m12,m13⟩,m14,m15,m16,m17,m18,m19,m20,m21,m22⟩:Mat)) N (by omega) (by omega) ⟨ok,Nat.zero_le _⟩) ?_
  · intro m self _;simp only [PXb,PXc,PXn,AG,Bh];rfl
  · intro i s self hi ok;obtain ⟨out,⟨⟨a0,a1,a2,a3,a4,a5,a6,a7,a8,a9,a10,a11,a12,a13⟩,a14,a15,a16,a17,a18,a19,a20,a21,a22⟩⟩:=s;obtain ⟨ok,hout⟩:=ok;have o1:=ok.rules;have o2:=ok.fit;have o3:=ok.len;simp only at o1 o2 o3 hout;cases o1;have kp:=Zh ok (i:Int) (evR L i);have acc:=iM (m:=(⟨⟨r0,r1,r2,r3,r4,r5,r6,r7,r8,r9,r10,r11,r12,r13⟩,a14,a15,a16,a17,a18,a19,a20,a21,a22⟩:Mat)) (i:=(i:Int)) (e:=evR L i);refine ⟨?_,?_⟩
    · simp only [PXb,PXc,PXn,AG,BC (show i≤1099511627776 by omega),BR hi,Ax hi,NP,mc hN o2 (show a17.length≤1000000 by omega) hs h13,Dw,sN,Nat.reduceAdd,PXk,PXc,un,List.length_append,List.length_cons,List.length_nil,I9];unfold Q3;simp only;generalize hT:A7 (i:Int) (⟨⟨r0,r1,r2,r3,r4,r5,r6,r7,r8,r9,r10,r11,r12,r13⟩,a14,a15,a16,a17,a18,a19,a20,a21,a22⟩:Mat) (evR L i)=T at acc;obtain ⟨⟨⟨b0,b1,b2,b3,b4,b5,b6,b7,b8,b9,b10,b11,b12,b13⟩,b14,b15,b16,b17,b18,b19,b20,b21,b22⟩,l2⟩:=T;simp only at acc;simp only;cases hl2:l2==0
      case false=>rfl
      have hk0:(evR L i).kind=atI L i 0:=rfl;rw [hk0];simp only [PXb];cases hk:atI L i 0==4
      case false=>rfl
      have ha:=(acc hl2).1;have hd:=tj (m:=(⟨⟨r0,r1,r2,r3,r4,r5,r6,r7,r8,r9,r10,r11,r12,r13⟩,a14,a15,a16,a17,a18,a19,a20,a21,a22⟩:Mat)) (e:=evR L i) o3 (by rw [← ha];exact hl2) hk (congrArg Prod.fst ha).symm;simp only at hd;have h216:iSm ((out.length+1:Nat):Int) 216=true:=ID (by omega) (by omega);simp only [PXb,PXc,bp hd.1 hd.2,h216];rfl
    · intro s' h;unfold Q3 at h;simp only at h;cases hq:(A7 (i:Int) (⟨⟨r0,r1,r2,r3,r4,r5,r6,r7,r8,r9,r10,r11,r12,r13⟩,a14,a15,a16,a17,a18,a19,a20,a21,a22⟩:Mat) (evR L i)).2==0 with
      | false=>rw [hq] at h;cases h
      | true =>
        rw [hq] at h;cases h;refine ⟨kp,?_⟩;cases (evR L i).kind==4 with
        | false=>show out.length≤_;omega
        | true=>show (out++[_]).length≤_;rw [List.length_append];simp;omega
  · rw [fF];have he:=j5 L L.length 0 (⟨⟨m0,m1,m2,m3,m4,m5,m6,m7,m8,m9,m10,m11,m12,m13⟩,m14,m15,m16,m17,m18,m19,m20,m21,m22⟩:Mat);simp only;generalize Se L L.length 0 (⟨⟨m0,m1,m2,m3,m4,m5,m6,m7,m8,m9,m10,m11,m12,m13⟩,m14,m15,m16,m17,m18,m19,m20,m21,m22⟩:Mat) []=out;generalize ES L L.length 0 (⟨⟨m0,m1,m2,m3,m4,m5,m6,m7,m8,m9,m10,m11,m12,m13⟩,m14,m15,m16,m17,m18,m19,m20,m21,m22⟩:Mat)=f at he;obtain ⟨⟨⟨a0,a1,a2,a3,a4,a5,a6,a7,a8,a9,a10,a11,a12,a13⟩,a14,a15,a16,a17,a18,a19,a20,a21,a22⟩,b,l⟩:=f;simp only at he;unfold nD;cases hb:b == -1 with
    | false=>rfl
    | true =>
      rw [he hb,beq_iff_eq.1 hb];rfl
theorem jU {N:Nat} {r8:Bool} {r0:ByteArray} {r13:Rows} {L:Rows} (hN:2097152<N) (hs:r0.size≤1048576) (h13:r13.length≤1048576) (hL:L.length≤1048576):Iz N [.str r0,.int r1,.int r2,.int r3,.int r4,.int r5,.int r6,.int r7,.bool r8,.int r9,.int r10,.int r11,.int r12,.rows r13,.rows L]=some (mV (Aw (⟨r0,r1,r2,r3,r4,r5,r6,r7,r8,r9,r10,r11,r12,r13⟩:Rul) L)):=by
 show I1 (std (EZ N) N) (xOf _)=_;generalize hres:(some (mV (Aw (⟨r0,r1,r2,r3,r4,r5,r6,r7,r8,r9,r10,r11,r12,r13⟩:Rul) L)):Option (List PV))=RR;simp only [I1,Tj,lq9,std,xOf,PXb,mI hN hs h13 hL];subst hres;rfl
theorem f8 {N:Nat} {r8:Bool} {r0:ByteArray} {r13:Rows}  : Hk N [.str r0,.int r1,.int r2,.int r3,.int r4,.int r5,.int r6,.int r7,.bool r8,.int r9,.int r10,.int r11,.int r12,.rows r13]=some (UQ (⟨r0,r1,r2,r3,r4,r5,r6,r7,r8,r9,r10,r11,r12,r13⟩:Rul)).ls:=by
 show He (std (FR N) N) (xOf _)=_;simp only [He,lq9,std,xOf,PXb,PXc,PXn,PXm,Nat.reduceAdd,Int.reduceBEq,gb (show (0:Int)≤20 by omega),gb (show (0:Int)≤10 by omega)];rfl
theorem oc {N:Nat} {L:Rows}  : LR N [.rows L]=some [.rows (cut L 70)]:=by
 show Oi (std (KN N) N) (xOf _)=_;simp only [Oi,lq9,std,xOf,PXb,PXc,PXn,PXm,Nat.reduceAdd,Int.reduceBEq,gb (show (0:Int)≤70 by omega)];rfl
structure LogOk (m:Mat):Prop where
 fit:J7 m.inns
 len:m.inns.length≤5
 name:m.rules.name.size≤1048576
 power:m.rules.power.length≤1048576
theorem qu:LogOk md:=⟨fun i hi=>absurd hi (Nat.not_lt_zero i),Nat.zero_le _,Nat.zero_le _,Nat.zero_le _⟩
theorem lN {r:Rul} (L:Rows):∀ k i m,StepOk r m→StepOk r (ES L k i m).1
 | 0,_,_,h=>h
 | k+1,i,m,h=>by
  unfold ES;cases (A7 i m (evR L i)).2==0 with
  | false=>exact h
  | true=>exact lN L k (i+1) _ (Zh h _ _)
theorem pQ {r:Rul} (L:Rows) (hs:r.name.size≤1048576) (hp:r.power.length≤1048576):LogOk (Aw r L).1:=by
 unfold Aw;cases h:(BD r).2==0 with
 | false=>exact qu
 | true =>
  have:=lN L L.length 0 _ (eT r h);exact ⟨this.fit,this.len,by show (ES _ _ _ _).1.rules.name.size≤_;rw [this.rules];exact hs,by show (ES _ _ _ _).1.rules.power.length≤_;rw [this.rules];exact hp⟩
def acc (L:Rows):Nat→Nat→Mat→Prop
 | 0,_,_=>True
 | k+1,i,m=>((A7 i m (evR L i)).2==0)=true∧acc L k (i+1) (A7 i m (evR L i)).1
def stM (L:Rows):Nat→Nat→Mat→Mat
 | 0,_,m=>m
 | k+1,i,m=>stM L k (i+1) (A7 i m (evR L i)).1
def rY (L:Rows):Nat→Nat→Mat→Rows→Rows
 | 0,_,_,out=>out
 | k+1,i,m,out=>rY L k (i+1) (A7 i m (evR L i)).1 (cond ((evR L i).kind==4) (out++[aH i m (A7 i m (evR L i)).1 (evR L i).ball]) out)
theorem j7 (L : Rows) : ∀ K i m, ∃ k, k ≤ K ∧ acc L k i m ∧ (∀ out, Se L K i m out = rY L k i m out) ∧
    ((k=K∧ES L K i m=(stM L k i m,-1,0))∨(k<K∧((A7 ((i+k:Nat):Int) (stM L k i m) (evR L (i+k))).2==0)=false∧ES L K i m=(stM L k i m,((i+k:Nat):Int),(A7 ((i+k:Nat):Int) (stM L k i m) (evR L (i+k))).2)))
  | 0,i,m=>⟨0,Nat.le_refl _,trivial,fun _=>rfl,Or.inl ⟨rfl,rfl⟩⟩
  | K+1,i,m=>by
    cases hq:(A7 i m (evR L i)).2==0 with
    | false =>
      refine ⟨0,Nat.zero_le _,trivial,fun out=>?_,Or.inr ⟨Nat.succ_pos _,hq,?_⟩⟩
      · simp only [Se,hq,Bool.not_false,cond_true];rfl
      · simp only [ES,hq,Bool.not_false,cond_true];rfl
    | true =>
      obtain ⟨k,h1,h2,h3,h4⟩:=j7 L K (i+1) (A7 i m (evR L i)).1;refine ⟨k+1,Nat.succ_le_succ h1,⟨hq,h2⟩,fun out=>?_,?_⟩
      · simp only [Se,hq,Bool.not_true,cond_false];exact h3 _
      · have e:ES L (K+1) i m=ES L K (i+1) (A7 i m (evR L i)).1:=by simp only [ES,hq,Bool.not_true,cond_false]
        rw [e,show i+(k+1)=i+1+k by omega]
        rcases h4 with ⟨h5,h6⟩ | ⟨h5,h6⟩
        · exact Or.inl ⟨by omega,h6⟩
        · exact Or.inr ⟨by omega,h6⟩
theorem qw (r:Rul):((BD r).2==0)=(BE r==0):=by
 unfold BD;cases h:BE r==0 with
 | false=>exact h
 | true=>rfl
theorem ZQ {L:Rows}:∀ k i m,stM L (k+1) i m=(A7 ((i+k:Nat):Int) (stM L k i m) (evR L (i+k))).1
 | 0,i,m=>rfl
 | k+1,i,m=>by
  show stM L (k+1) (i+1) _=_;rw [ZQ k (i+1),show i+1+k=i+(k+1) by omega];rfl
theorem jx {L:Rows}:∀ k i m,acc L k i m→∀ j,j<k→((A7 ((i+j:Nat):Int) (stM L j i m) (evR L (i+j))).2==0)=true
 | 0,_,_,_,j,h=>absurd h (Nat.not_lt_zero j)
 | k+1,i,m,ha,0,_=>ha.1
 | k+1,i,m,ha,j+1,h=>by
  have:=jx k (i+1) _ ha.2 j (by omega);rw [show i+1+j=i+(j+1) by omega] at this;exact this
abbrev wr (n:Int):Int:=IntKind.i64.wrap n
structure Nums (q:Int) (s t:Inn) (a b c:Int):Prop where
 runs:wr (t.runs - t.pens)=wr (s.runs - s.pens+a)
 rw:wr s.runs=s.runs→wr t.runs=t.runs
 balls:Bv q t.complete t.inover=wr (s.complete * q+s.inover+b)
 wk:wr t.wickets=wr (s.wickets+c)
theorem RG (q c i:Int):Bv q c i=wr (c * q+i):=by
 unfold Bv;simp only [wr,Np];omega
theorem Nums.of {q:Int} {s t:Inn} (h1:t.runs=s.runs) (h2:t.pens=s.pens) (h3:t.complete=s.complete) (h4:t.inover=s.inover) (h5:t.wickets=s.wickets):Nums q s t 0 0 0 :=
 ⟨by rw [h1,h2,Int.add_zero],fun h=>by rw [h1];exact h,by rw [h3,h4,RG,Int.add_zero],by rw [h5,Int.add_zero]⟩
theorem Nums.out {q:Int} {s t:Inn} (h1:t.runs=s.runs) (h2:t.pens=s.pens) (h3:t.complete=s.complete) (h4:t.inover=s.inover) (h5:t.wickets=wr (s.wickets+1)):Nums q s t 0 0 1 :=
 ⟨by rw [h1,h2,Int.add_zero],fun h=>by rw [h1];exact h,by rw [h3,h4,RG,Int.add_zero],by rw [h5];exact G6 _⟩
theorem Nums.pen (q:Int) (s:Inn):Nums q s (O2 s) 0 0 0 :=
 ⟨by show wr (wr (s.runs+5) - wr (s.pens+5))=_;simp only [wr,Np];omega,fun _=>G6 _,by show Bv q s.complete s.inover=_;rw [RG,Int.add_zero],by show wr s.wickets=_;rw [Int.add_zero]⟩
def CW (e:Ev):Int:=cond ((e.kind==5&&e.yes)||(e.kind==6 && !e.yes)) 1 0
theorem Nums.fin {q:Int} {s t:Inn} {a b c:Int} (h:Nums q s t a b c) (r:Rul) (x:Bool):Nums q s (Bn r t x) a b c:=⟨h.runs,h.rw,h.balls,h.wk⟩
def Uv (e:Ev):Int:=cond (e.kind==4) (cond (e.ball.how==0) 0 1) (CW e)
structure SumInv (q:Int) (xs:List Inn) (R B:Nat→Int) (O:Int):Prop where
 runs:∀ i,i<xs.length→wr ((inn xs i).runs - (inn xs i).pens)=wr (R i)
 rw:∀ i,i<xs.length→wr (inn xs i).runs=(inn xs i).runs
 balls:∀ i,i<xs.length→Bv q (inn xs i).complete (inn xs i).inover=wr (B i)
 zero:∀ i,xs.length≤i→R i=0∧B i=0
 wk:wr (xs.map Inn.wickets).sum=wr O
theorem SumInv.congr {q:Int} {xs:List Inn} {R B R' B':Nat→Int} {O O':Int} (h:SumInv q xs R B O) (h1:∀ i,R i=R' i) (h2:∀ i,B i=B' i) (h3:O=O'):SumInv q xs R' B' O' :=
 ⟨fun i hi=>(h.runs i hi).trans (by rw [h1]),h.rw,fun i hi=>(h.balls i hi).trans (by rw [h2]),fun i hi=>by rw [← h1,← h2];exact h.zero i hi,h.wk.trans (by rw [h3])⟩
def rT (L:Rows) (j:Nat):Int:=En ⟨atI L j 20,atI L j 21,atI L j 22,atI L j 23,atI L j 24,atI L j 25,atB L j 26,atB L j 27,atB L j 28,atB L j 29⟩
def rS (L:Rows) (i:Nat):Nat→Int
 | 0=>0
 | n+1=>rS L i n+cond (atI L n 1==(i:Int)) (rT L n) 0
def bS (L:Rows) (i:Nat):Nat→Int
 | 0=>0
 | n+1=>bS L i n+cond (atI L n 1==(i:Int)&&atB L n 26) 1 0
def hS (L:Rows):Nat→Int
 | 0=>0
 | n+1=>hS L n+cond (atI L n 14==0) 0 1
structure SumSt (D:Rows) (n i:Nat) (s:List Int×List Int×Int):Prop where
 l1:s.1.length=n
 l2:s.2.1.length=n
 r:∀ k,k<n→s.1.getD k 0=wr (rS D k i)
 b:∀ k,k<n→s.2.1.getD k 0=wr (bS D k i)
 h:s.2.2=wr (hS D i)
end Go.Px
end
