/- Part 13. -/
import Derived.Test.YtlbbobdcfhkkfaaGreatDoorPart12
import Derived.Test.YtlbbobdcfhkkfaaGreatDoorPart11
set_option linter.unusedVariables false
set_option linter.unusedSimpArgs false
variable {r1 r2 r3 r4 r5 r6 r7 r9 r10 r11 r12:Int}
variable {m1 m2 m3 m4 m5 m6 m7 m9 m10 m11 m12 m14 m15 m18 m19 m20 m21 m22:Int}
section
namespace Go.Px
set_option maxRecDepth 100000
theorem AAU {r:Rul} {s:Inn} (h:InnOk r s):BatOk s.batters s.striker s.other s.wickets:=(zO (by rw [h.lb];exact h.st) (by rw [h.lb];exact h.ot)).1 h.bat
theorem rH {r:Rul} {s:Inn} (h:InnOk r s):2≤r.side∧r.side≤11:=(Dm h.code).side
theorem Pa {L:Rows} {p v:Int} (hs:Shp L) (hp:ix p<L.length):Fr (DX L p v)+cond (atI L (ix p) 0==2) 1 0=Fr L+cond (v==2) 1 0:=by
 have:=AB3 (w:=2) (v:=v) hs hp;unfold Fr;rw [FA];exact this
theorem AAG {s:Inn} {p:Int} (h:(F4 s p==0)=true):inR p s.batters.length=true∧GB s.batters s.striker s.other=true∧atI s.batters (ix p) 0≠1∧atI s.batters (ix p) 0≠2:=by
 unfold F4 at h;cases h1:inR p s.batters.length with
 | false=>rw [h1] at h;cases h
 | true =>
  cases h2:GB s.batters s.striker s.other with
  | false=>rw [h1,h2] at h;cases h
  | true =>
   cases h3:atI s.batters (ix p) 0==1 with
   | true=>rw [h1,h2,h3] at h;cases h
   | false =>
    cases h4:atI s.batters (ix p) 0==2 with
    | true=>rw [h1,h2,h3,h4] at h;cases h
    | false=>exact ⟨rfl,rfl,beq_eq_false_iff_ne.1 h3,beq_eq_false_iff_ne.1 h4⟩
theorem kS {s:Inn} {p:Int} {hurt:Bool} (h:((D2 s p hurt).2==0)=true):inR p s.batters.length=true∧s.striker≠0∧s.other≠0∧(p=s.striker∨p=s.other)∧(hurt&&((EY s.batters s.batters.length).length:Int)==0)=false:=by
 unfold D2 at h;cases h1:inR p s.batters.length with
 | false=>rw [h1] at h;cases h
 | true =>
  cases h2:s.striker==0 with
  | true=>rw [h1,h2] at h;cases h
  | false =>
   cases h3:s.other==0 with
   | true=>rw [h1,h2,h3] at h;cases h
   | false =>
    cases h4:(!(p==s.striker) && !(p==s.other)) with
    | true=>rw [h1,h2,h3,h4] at h;cases h
    | false =>
     cases h5:(hurt&&((EY s.batters s.batters.length).length:Int)==0) with
     | true=>rw [h1,h2,h3,h4,h5] at h;cases h
     | false =>
      refine ⟨rfl,beq_eq_false_iff_ne.1 h2,beq_eq_false_iff_ne.1 h3,?_,rfl⟩;rw [Bool.and_eq_false_iff,Bool.not_eq_false',Bool.not_eq_false',beq_iff_eq,beq_iff_eq] at h4;exact h4
structure Small (s:Inn):Prop where
 target:s.target≤999999900
 runs:s.runs≤999999900
 wides:s.wides≤999999900
 noballs:s.noballs≤999999900
 byes:s.byes≤999999900
 legbyes:s.legbyes≤999999900
 pens:s.pens≤999999900
 complete:s.complete≤999999900
 ballage:s.ballage≤999999900
 rev1:s.rev1≤999999900
 rev2:s.rev2≤999999900
 bowled:∀ j,j<s.bowled.length→atI s.bowled j 0≤999999900
def Bg (n:Int):Int:=IntKind.i64.wrap (3 - n)
theorem JY {N:Nat} {n:Int}  : Bl N [.int n]=some [.int (Bg n)]:=by
 show Mg (std (VA N) N) (xOf _)=_;simp only [Mg,lq9,std,xOf,PXb,PXc,PXn,PXm,Nat.reduceAdd,Int.reduceBEq,Bg]
def B8 (m:Mat) (i:Int):Int:=cond (cond (m.follow&&iLe 2 i) (i==2) (i.tmod 2==1)) (Bg m.first) m.first
theorem Ri {N:Nat} {m8 m16:Bool} {m0:ByteArray} {m13:Rows} {m17:List Inn} {i:Int}  : D8 N [.str m0,.int m1,.int m2,.int m3,.int m4,.int m5,.int m6,.int m7,.bool m8,.int m9,.int m10,.int m11,.int m12,.rows m13,.int m14,.int m15,.bool m16,.rows (Ar m17),.int m18,.int m19,.int m20,.int m21,.int m22,.int i]=some [.int (B8 (⟨⟨m0,m1,m2,m3,m4,m5,m6,m7,m8,m9,m10,m11,m12,m13⟩,m14,m15,m16,m17,m18,m19,m20,m21,m22⟩:Mat) i)]:=by
 show Mz (std (N5 N) N) (xOf _)=_;generalize hres:(some [.int (B8 (⟨⟨m0,m1,m2,m3,m4,m5,m6,m7,m8,m9,m10,m11,m12,m13⟩,m14,m15,m16,m17,m18,m19,m20,m21,m22⟩:Mat) i)]:Option (List PV))=RR;simp only [Mz,Sb,lq9,std,xOf,PXb,PXc,PXn,PXm,Nat.reduceAdd,Int.reduceBEq,JY];subst hres;simp only [B8]
def RO (xs:List Inn) (side:Int):Nat→Int
 | 0=>0
 | i+1=>cond ((inn xs i).side==side) (IntKind.i64.wrap (RO xs side i+(inn xs i).runs)) (RO xs side i)
def Cv (m:Mat) (side:Int):Int:=RO m.inns side m.inns.length
theorem RT {N:Nat} {m8 m16:Bool} {m0:ByteArray} {m13:Rows} {m17:List Inn} {n:Int} (hN:2097152<N) (hl:m17.length≤1048576):Cd N [.str m0,.int m1,.int m2,.int m3,.int m4,.int m5,.int m6,.int m7,.bool m8,.int m9,.int m10,.int m11,.int m12,.rows m13,.int m14,.int m15,.bool m16,.rows (Ar m17),.int m18,.int m19,.int m20,.int m21,.int m22,.int n]=some [.int (Cv (⟨⟨m0,m1,m2,m3,m4,m5,m6,m7,m8,m9,m10,m11,m12,m13⟩,m14,m15,m16,m17,m18,m19,m20,m21,m22⟩:Mat) n)]:=by
 show Mw (std (Ut N) N) (xOf _)=_;generalize hres:(some [.int (Cv (⟨⟨m0,m1,m2,m3,m4,m5,m6,m7,m8,m9,m10,m11,m12,m13⟩,m14,m15,m16,m17,m18,m19,m20,m21,m22⟩:Mat) n)]:Option (List PV))=RR;simp only [Mw,lq9,std,xOf,PXb,PXi];subst hres;simp only [Cv];refine AZ (CA (len:=m17.length) (fun i=>[.int (RO m17 n i),.int (i:Int)]) [.int (RO m17 n m17.length)] ?_ ?_ N (by omega)) rfl
 ·intro self;simp only [PXb,PXc,PXn,AG,A3]
 ·intro i self hi;simp only [PXb,PXc,AG,BO (show i≤1099511627776 by omega),Ay hi,AN hi,PXi,RO];cases (inn m17 i).side==n<;>rfl
def D0 (m:Mat) (side:Int):Int :=
 cond (iLt (IntKind.i64.wrap ((m.inns.length:Int)+1)) (IntKind.i64.wrap (2 * m.rules.innings))) 0 (IntKind.i64.wrap (IntKind.i64.wrap (Cv m (Bg side) - Cv m side)+1))
theorem W7 {N:Nat} {m8 m16:Bool} {m0:ByteArray} {m13:Rows} {m17:List Inn} {n:Int} (hN:2097152<N) (hl:m17.length≤1048576):IW N [.str m0,.int m1,.int m2,.int m3,.int m4,.int m5,.int m6,.int m7,.bool m8,.int m9,.int m10,.int m11,.int m12,.rows m13,.int m14,.int m15,.bool m16,.rows (Ar m17),.int m18,.int m19,.int m20,.int m21,.int m22,.int n]=some [.int (D0 (⟨⟨m0,m1,m2,m3,m4,m5,m6,m7,m8,m9,m10,m11,m12,m13⟩,m14,m15,m16,m17,m18,m19,m20,m21,m22⟩:Mat) n)]:=by
 show Lm (std (I1 N) N) (xOf _)=_;generalize hres:(some [.int (D0 (⟨⟨m0,m1,m2,m3,m4,m5,m6,m7,m8,m9,m10,m11,m12,m13⟩,m14,m15,m16,m17,m18,m19,m20,m21,m22⟩:Mat) n)]:Option (List PV))=RR;simp only [Lm,Rg,Rh,lq9,std,xOf,PXb,PXc,PXn,PXm,Nat.reduceAdd,Int.reduceBEq,PXi,JY,RT hN hl];subst hres;simp only [D0]
def gl (stage:Int) (xs:List Inn) (i:Nat):Bool := !(((inn xs i).ending==0)==(stage==3&&((i:Int)==IntKind.i64.wrap ((xs.length:Int) - 1))))
def aA (m:Mat):Bool := !CO (gl m.stage m.inns) m.inns.length 0&&(!(m.stage==3)||iLt 0 (m.inns.length:Int))
theorem l8 {N:Nat} {m8 m16:Bool} {m0:ByteArray} {m13:Rows} {m17:List Inn} (hN:2097152<N) (hl:m17.length≤1048576):Jf N [.str m0,.int m1,.int m2,.int m3,.int m4,.int m5,.int m6,.int m7,.bool m8,.int m9,.int m10,.int m11,.int m12,.rows m13,.int m14,.int m15,.bool m16,.rows (Ar m17),.int m18,.int m19,.int m20,.int m21,.int m22]=some [.bool (aA (⟨⟨m0,m1,m2,m3,m4,m5,m6,m7,m8,m9,m10,m11,m12,m13⟩,m14,m15,m16,m17,m18,m19,m20,m21,m22⟩:Mat))]:=by
 show M2 (std (VH N) N) (xOf _)=_;generalize hres:(some [.bool (aA (⟨⟨m0,m1,m2,m3,m4,m5,m6,m7,m8,m9,m10,m11,m12,m13⟩,m14,m15,m16,m17,m18,m19,m20,m21,m22⟩:Mat))]:Option (List PV))=RR;simp only [M2,lq9,std,xOf,PXb,PXi];subst hres;simp only [aA];refine AZ (M6 (len:=m17.length) (gl m14 m17) [.bool false] ?_ ?_ N (by omega)) ?_
 ·intro self;simp only [PXb,PXc,PXn,AG,A3]
 ·intro i self hi;simp only [PXb,PXc,AG,BO (show i≤1099511627776 by omega),Ay hi,AN hi,PXi,gl]
 ·cases CO (gl m14 m17) m17.length 0 with
  | true=>rfl
  | false=>simp only [PXb,PXc,PXn,PXm,Nat.reduceAdd,Int.reduceBEq]
def ME (xs:List Inn):Prop:=∀ i,i<xs.length→(inn xs i).Fit
theorem Yj {N:Nat} {r8:Bool} {r0:ByteArray} {r13:Rows} (hl:r13.length≤1048576):D3 N [.str r0,.int r1,.int r2,.int r3,.int r4,.int r5,.int r6,.int r7,.bool r8,.int r9,.int r10,.int r11,.int r12,.rows r13]=some [.str r0,.int r1,.int r2,.int r3,.int r4,.int r5,.int r6,.int r7,.bool r8,.int r9,.int r10,.int r11,.int r12,.rows r13]:=by
 show M1 (std (OC N) N) (xOf _)=_;simp only [M1,NQ,lq9,std,xOf,PXb,PXc,PXn,PXm,Nat.reduceAdd,Int.reduceBEq,Dw,CB hl (show 24≤4096 by omega)]
theorem lk {xs:List Inn} {i:Nat} (h:i<xs.length):xs.take i++[inn xs i]=xs.take (i+1):=by
 rw [List.take_add_one,Jg,zzn h];rfl
theorem lf {N:Nat} {m8 m16:Bool} {m0:ByteArray} {m13:Rows} {m17:List Inn} (hf:ME m17) (hN:2097152<N) (hl:m17.length≤1000000) (h13:m13.length≤1048576):Jk N [.str m0,.int m1,.int m2,.int m3,.int m4,.int m5,.int m6,.int m7,.bool m8,.int m9,.int m10,.int m11,.int m12,.rows m13,.int m14,.int m15,.bool m16,.rows (Ar m17),.int m18,.int m19,.int m20,.int m21,.int m22]=some [.str m0,.int m1,.int m2,.int m3,.int m4,.int m5,.int m6,.int m7,.bool m8,.int m9,.int m10,.int m11,.int m12,.rows m13,.int m14,.int m15,.bool m16,.rows (Ar m17),.int m18,.int m19,.int m20,.int m21,.int m22]:=by
 show Md (std (KU N) N) (xOf _)=_;simp only [Md,Sn,Ir,lq9,std,xOf,PXb,Yj h13,PXi];refine AZ (CA (len:=m17.length) (fun i=>[.rows (Ar (m17.take i)),.int (i:Int)]) [.rows (Ar m17)] ?_ ?_ N (by omega)) rfl
 ·intro self;simp only [PXb,PXc,PXn,AG,A3,List.take_length]
 ·intro i self hi;have h2:(m17.take (i+1)).length≤1048576:=by rw [List.length_take];omega
  have h3:iSm ((m17.take (i+1)).length:Int) 304=true:=Gu (by omega) (by omega);simp only [PXb,PXc,AG,BO (show i≤1099511627776 by omega),Ay hi,AN hi,PXi,Ir,Cy (hf i hi),PXr,Inn.eta,h3,lk hi,Nat.reduceAdd];rfl
def ABs:Rul:=⟨⟨#[]⟩,0,0,0,0,0,0,0,false,0,0,0,0,[]⟩
def mS:Mat:=⟨ABs,0,0,false,[],0,0,0,0,0⟩
def AK (r:Rul):Mat×Int:=cond (!(BJ r==0)) (mS,BJ r) (⟨r,1,0,false,[],0,0,0,0,0⟩,0)
theorem qe {N:Nat} {r8:Bool} {r0:ByteArray} {r13:Rows} (hN:2097152<N) (hs:r0.size≤1048576) (h13:r13.length≤1048576):QV N [.str r0,.int r1,.int r2,.int r3,.int r4,.int r5,.int r6,.int r7,.bool r8,.int r9,.int r10,.int r11,.int r12,.rows r13]=some (YO (AK (⟨r0,r1,r2,r3,r4,r5,r6,r7,r8,r9,r10,r11,r12,r13⟩:Rul))):=by
 show Qa (std (Mm N) N) (xOf _)=_;generalize hres:(some (YO (AK (⟨r0,r1,r2,r3,r4,r5,r6,r7,r8,r9,r10,r11,r12,r13⟩:Rul))):Option (List PV))=RR;simp only [Qa,Uj,Ue,lq9,std,xOf,PXb,PXc,PXn,PXm,Nat.reduceAdd,Int.reduceBEq,D4 hN hs,Yj h13];subst hres;simp only [AK];cases BJ (⟨r0,r1,r2,r3,r4,r5,r6,r7,r8,r9,r10,r11,r12,r13⟩:Rul)==0<;>rfl
def fD (m:Mat):Bool:=(iLt m.pen1 0||iLt 1000000 m.pen1)||(iLt m.pen2 0||iLt 1000000 m.pen2)
def aF (m:Mat) (i:Nat):Bool := !IK m.rules (inn m.inns i) || !((inn m.inns i).side==B8 m (i:Int))
def mQ (m:Mat):Bool :=
  let n:Int:=m.inns.length
  let most:=IntKind.i64.wrap (2 * m.rules.innings)
  BJ m.rules==0&&(!(iLt m.stage 1)&&(!(iLt 5 m.stage)&&(!fD m&&(!(iLt m.first 0||iLt 2 m.first||iLt most n)&&(!(m.first==0&&(iLt 0 n||(!(m.stage==1) && !(m.stage==5)))) &&
    (!(m.stage==1 && !(m.first==0))&&(!(m.stage==2&&n==most)&&(!(m.stage==4&&(!(m.rules.innings==2) || !(n==2))) && !(m.follow&&(!(m.rules.innings==2)||iLt n 2))))))))))
def G7 (m:Mat):Bool:=mQ m&&(!CO (aF m) m.inns.length 0&&aA m)
set_option maxHeartbeats 4000000 in
theorem Yp {N:Nat} {m8 m16:Bool} {m0:ByteArray} {m13:Rows} {m17:List Inn} (hf:ME m17) (hN:2097152<N) (hl:m17.length≤1000000) (hs:m0.size≤1048576):D5 N [.str m0,.int m1,.int m2,.int m3,.int m4,.int m5,.int m6,.int m7,.bool m8,.int m9,.int m10,.int m11,.int m12,.rows m13,.int m14,.int m15,.bool m16,.rows (Ar m17),.int m18,.int m19,.int m20,.int m21,.int m22]=some [.bool (G7 (⟨⟨m0,m1,m2,m3,m4,m5,m6,m7,m8,m9,m10,m11,m12,m13⟩,m14,m15,m16,m17,m18,m19,m20,m21,m22⟩:Mat))]:=by
 show Mx (std (Es N) N) (xOf _)=_;generalize hres:(some [.bool (G7 (⟨⟨m0,m1,m2,m3,m4,m5,m6,m7,m8,m9,m10,m11,m12,m13⟩,m14,m15,m16,m17,m18,m19,m20,m21,m22⟩:Mat))]:Option (List PV))=RR;simp only [Mx,SM,Ik,KR,J8,lq9,std,xOf,PXb,D4 hN hs,PXi];subst hres;simp only [G7,mQ];cases hc:BJ (⟨⟨m0,m1,m2,m3,m4,m5,m6,m7,m8,m9,m10,m11,m12,m13⟩,m14,m15,m16,m17,m18,m19,m20,m21,m22⟩:Mat).rules==0<;>(try rfl);cases h1:iLt m14 1<;>(try rfl);cases h5:iLt 5 m14<;>(try rfl);simp only [PXb];refine AZ (M6 (len:=2) (fun i=>iLt (cond ((i:Int)==1) m19 m18) 0||iLt 1000000 (cond ((i:Int)==1) m19 m18)) [.bool false] ?_ ?_ N (by omega)) ?_
 ·intro self;rfl
 ·intro i self hi;simp only [PXb,BO (show i≤1099511627776 by omega),show iLt (i:Int) 2=true from Ay (len:=2) hi,show iIn (i:Int) 2=true from AN (len:=2) hi]
 ·have hp:CO (fun i=>iLt (cond ((i:Int)==1) m19 m18) 0||iLt 1000000 (cond ((i:Int)==1) m19 m18)) 2 0=fD (⟨⟨m0,m1,m2,m3,m4,m5,m6,m7,m8,m9,m10,m11,m12,m13⟩,m14,m15,m16,m17,m18,m19,m20,m21,m22⟩:Mat):=by
   simp only [Cr,Ka,Bool.or_false];rfl
  rw [hp];cases fD (⟨⟨m0,m1,m2,m3,m4,m5,m6,m7,m8,m9,m10,m11,m12,m13⟩,m14,m15,m16,m17,m18,m19,m20,m21,m22⟩:Mat)
  case true=>rfl
  simp only [PXb,MW,Int.reduceBEq];cases iLt m15 0<;>try rfl
  cases iLt 2 m15<;>try rfl
  cases iLt (IntKind.i64.wrap (2 * m2)) (m17.length:Int)<;>try rfl
  cases (m15==0&&(iLt 0 (m17.length:Int)||(!(m14==1) && !(m14==5))))<;>try rfl
  cases (m14==1 && !(m15==0))<;>try rfl
  cases (m14==2&&(m17.length:Int)==IntKind.i64.wrap (2 * m2))<;>try rfl
  cases (m14==4&&(!(m2==2) || !((m17.length:Int)==2)))<;>try rfl
  cases (m16&&(!(m2==2)||iLt (m17.length:Int) 2))<;>try rfl
  simp only [PXb];refine AZ (M6 (len:=m17.length) (aF (⟨⟨m0,m1,m2,m3,m4,m5,m6,m7,m8,m9,m10,m11,m12,m13⟩,m14,m15,m16,m17,m18,m19,m20,m21,m22⟩:Mat)) [.bool false] ?_ ?_ N (by omega)) ?_
  ·intro self;simp only [PXb,PXc,PXn,AG,A3]
  ·intro i self hi;simp only [PXb,PXc,PXn,PXm,Nat.reduceAdd,Int.reduceBEq,BO (show i≤1099511627776 by omega),Ay hi,AN hi,PXi,Ik,KR,VE (hf i hi) hN hs,Ri,aF];cases IK (⟨⟨m0,m1,m2,m3,m4,m5,m6,m7,m8,m9,m10,m11,m12,m13⟩,m14,m15,m16,m17,m18,m19,m20,m21,m22⟩:Mat).rules (inn m17 i)<;>first | rfl | simp only [PXb,PXc,PXn,PXm,Nat.reduceAdd,Int.reduceBEq]
  ·cases CO (aF (⟨⟨m0,m1,m2,m3,m4,m5,m6,m7,m8,m9,m10,m11,m12,m13⟩,m14,m15,m16,m17,m18,m19,m20,m21,m22⟩:Mat)) m17.length 0
   case true=>rfl
   simp only [PXb,PXc,PXn,PXm,Nat.reduceAdd,Int.reduceBEq,J8,l8 hN (show m17.length≤1048576 by omega)]
def lnx (xs:List Inn):Nat:=(IntKind.i64.wrap ((xs.length:Int) - 1)).toNat
def AJ (m:Mat):Inn:=inn m.inns (lnx m.inns)
theorem W3 {n:Nat} (h:((n:Int)==0)=false) (hl:n≤1000000):iIn (IntKind.i64.wrap ((n:Int) - 1)) (n:Int)=true:=by
 rw [beq_eq_false_iff_ne] at h;rw [A9 (by omega) (by omega)];simp only [iIn,decide_eq_true_eq];omega
theorem Tf {xs:List Inn} (h:((xs.length:Int)==0)=false) (hl:xs.length≤1000000):lnx xs<xs.length:=by
 rw [beq_eq_false_iff_ne] at h;unfold lnx;rw [A9 (by omega) (by omega)];omega
def fk (r:Rul):Int:=cond (r.overs==0) 5 6
theorem LE {N:Nat} {r8:Bool} {r0:ByteArray} {r13:Rows}  : CU N [.str r0,.int r1,.int r2,.int r3,.int r4,.int r5,.int r6,.int r7,.bool r8,.int r9,.int r10,.int r11,.int r12,.rows r13]=some [.int (fk (⟨r0,r1,r2,r3,r4,r5,r6,r7,r8,r9,r10,r11,r12,r13⟩:Rul))]:=by
 show G3 (std (O3 N) N) (xOf _)=_;simp only [G3,lq9,std,xOf,PXb,PXc,PXn,PXm,Nat.reduceAdd,Int.reduceBEq,fk]
def ye (x:Int×Int×Int):List PV:=[.int x.1,.int x.2.1,.int x.2.2]
def XU (m:Mat):Int×Int×Int :=
  let n:Int:=m.inns.length
  let most:=IntKind.i64.wrap (2 * m.rules.innings)
  let x:=AJ m
  cond (!G7 m||n==0) (0,0,0) (cond (x.ending==5) (fk m.rules,0,0) (cond (x.ending==0) (0,0,0)
    (cond (n==most&&iLe x.target x.runs) (2,x.side,IntKind.i64.wrap (IntKind.i64.wrap (m.rules.side - 1) - x.wickets)) (cond (n==most&&x.runs==IntKind.i64.wrap (x.target - 1)) (4,0,0)
      (cond (n==most) (1,Bg x.side,IntKind.i64.wrap (IntKind.i64.wrap (x.target - 1) - x.runs))
        (cond (n==3&&iLt (Cv m x.side) (Cv m (Bg x.side))) (3,Bg x.side,IntKind.i64.wrap (Cv m (Bg x.side) - Cv m x.side)) (0,0,0)))))))
set_option maxHeartbeats 4000000 in
theorem gF {N:Nat} {m8 m16:Bool} {m0:ByteArray} {m13:Rows} {m17:List Inn} (hf:ME m17) (hN:2097152<N) (hl:m17.length≤1000000) (hs:m0.size≤1048576):Gq N [.str m0,.int m1,.int m2,.int m3,.int m4,.int m5,.int m6,.int m7,.bool m8,.int m9,.int m10,.int m11,.int m12,.rows m13,.int m14,.int m15,.bool m16,.rows (Ar m17),.int m18,.int m19,.int m20,.int m21,.int m22]=some (ye (XU (⟨⟨m0,m1,m2,m3,m4,m5,m6,m7,m8,m9,m10,m11,m12,m13⟩,m14,m15,m16,m17,m18,m19,m20,m21,m22⟩:Mat))):=by
 show KM (std (D1 N) N) (xOf _)=_;generalize hres:(some (ye (XU (⟨⟨m0,m1,m2,m3,m4,m5,m6,m7,m8,m9,m10,m11,m12,m13⟩,m14,m15,m16,m17,m18,m19,m20,m21,m22⟩:Mat))):Option (List PV))=RR;simp only [KM,Qx,Qw,Q6,ND,lq9,std,xOf,PXb,PXi,Yp hf hN hl hs,JY,LE,RT hN (show m17.length≤1048576 by omega)];subst hres;simp only [XU,AJ,lnx];cases hv:G7 (⟨⟨m0,m1,m2,m3,m4,m5,m6,m7,m8,m9,m10,m11,m12,m13⟩,m14,m15,m16,m17,m18,m19,m20,m21,m22⟩:Mat)
 case false=>rfl
 cases h0:(m17.length:Int)==0
 case true=>rfl
 simp only [PXb,W3 h0 hl];generalize inn m17 (IntKind.i64.wrap ((m17.length:Int) - 1)).toNat=x;cases x.ending==5
 case true=>rfl
 cases x.ending==0
 case true=>rfl
 cases (m17.length:Int)==IntKind.i64.wrap (2 * m2)<;>cases iLe x.target x.runs<;>cases x.runs==IntKind.i64.wrap (x.target - 1)<;>try rfl
 all_goals (cases (m17.length:Int)==3<;>try rfl)
 all_goals (simp only [PXb];cases iLt (Cv (⟨⟨m0,m1,m2,m3,m4,m5,m6,m7,m8,m9,m10,m11,m12,m13⟩,m14,m15,m16,m17,m18,m19,m20,m21,m22⟩:Mat) x.side) (Cv (⟨⟨m0,m1,m2,m3,m4,m5,m6,m7,m8,m9,m10,m11,m12,m13⟩,m14,m15,m16,m17,m18,m19,m20,m21,m22⟩:Mat) (Bg x.side))<;>rfl)
theorem pY:∀ (n k:Nat) (f:Nat→Nat),(∀ i,i<k→1≤f i∧f i≤n)→(∀ i j,i<j→j<k→f i≠f j)→k≤n
 | 0,k,f,h,_=>by
  rcases Nat.eq_zero_or_pos k with e | e
  ·omega
  ·have:=h 0 e;omega
 | n+1,0,f,_,_=>by omega
 | n+1,k+1,f,h,hi=>by
  by_cases he:∃ j,j<k+1∧f j=n+1
  ·obtain ⟨j,hj,hfj⟩:=he;have:=pY n k (fun i=>if i=j then f k else f i) (fun i hik=>by
    show 1≤(if i=j then f k else f i)∧(if i=j then f k else f i)≤n
    by_cases e:i=j
    ·rw [if_pos e];have h1:=h k (by omega);have:f k≠f j:=fun e2=>hi j k (by omega) (by omega) e2.symm
     omega
    ·rw [if_neg e];have h1:=h i (by omega);have:f i≠f j:=by
      rcases Nat.lt_or_gt_of_ne e with e2 | e2
      ·exact hi i j e2 hj
      ·exact fun e3=>hi j i e2 (by omega) e3.symm
     omega) (fun a b hab hb=>by
    show (if a=j then f k else f a)≠(if b=j then f k else f b)
    by_cases e1:a=j
    ·have e2:b≠j:=by omega
     rw [if_pos e1,if_neg e2];exact fun e3=>hi b k hb (by omega) e3.symm
    ·rw [if_neg e1]
     by_cases e2:b=j
     ·rw [if_pos e2];exact hi a k (by omega) (by omega)
     ·rw [if_neg e2];exact hi a b hab (by omega))
   omega
  ·have:=pY n (k+1) f (fun i hik=>by
    have h1:=h i hik;have:f i≠n+1:=fun e=>he ⟨i,hik,e⟩
    omega) hi
   omega
theorem nz {L:Rows} {n:Int} (h:MH L n=true) (hn:0≤n):(L.length:Int)≤n:=by
 unfold MH at h;rw [Bool.not_eq_true',Fa] at h;have hb:∀ i,i<L.length→1≤atI L i 0∧atI L i 0≤n:=fun i hi=>by
  have:=h i (by omega) (by omega);unfold Sx at this;rw [Bool.or_eq_false_iff,Bool.not_eq_false',Wq] at this;exact this.1
 have:=pY n.toNat L.length (fun i=>(atI L i 0).toNat) (fun i hi=>by have:=hb i hi;show 1≤(atI L i 0).toNat∧(atI L i 0).toNat≤n.toNat;omega) (fun i j hij hj=>by
  show (atI L i 0).toNat≠(atI L j 0).toNat;have h1:=hb i (by omega);have h2:=hb j hj;have h3:=h j (by omega) (by omega);unfold Sx at h3;rw [Bool.or_eq_false_iff] at h3;have h4:=Fa.1 h3.2 i (by omega) (by omega);rw [beq_eq_false_iff_ne] at h4;omega)
 omega
theorem SN {r:Rul} {s:Inn} (h:IK r s=true):s.bowlers.length≤11∧s.before.length≤11∧s.Fit:=by
 have ok:=Fe.1 h;have hs:=rH ok;have h1:=nz ok.dw (by omega);have h2:=nz ok.df (by omega);have h3:=ok.lb;have h4:=ok.ld;have h5:=ok.lz;exact ⟨by omega,by omega,by omega,by omega,by omega,by omega,by omega⟩
def SK (m:Mat) (e:Ev):Mat×Int :=
  let sd:=B8 m (m.inns.length:Int)
  let b:=B7 m.rules sd (D0 m sd) (cond (sd==2) m.pen2 m.pen1)
  let t:=Af m.rules b.1 e
  cond (!(b.2==0)) (m,1) (cond (!(t.2==0)) (m,t.2)
    ({ m with stage:=3,inns:=m.inns++[t.1],pen1:=cond (sd==1) 0 m.pen1,pen2:=cond (sd==2) 0 m.pen2 },0))
def KV (xs:List Inn) (sd:Int):Nat→Option Nat
 | 0=>none
 | k+1=>cond ((inn xs k).side==sd) (some k) (KV xs sd k)
def EF (m:Mat) (sd:Int):Mat:=match KV m.inns sd m.inns.length with
 | some k=>{ m with inns:=m.inns.set k (Ky (inn m.inns k)) }
 | none=>{ m with pen1:=cond (sd==1) (IntKind.i64.wrap (m.pen1+5)) m.pen1,pen2:=cond (sd==2) (IntKind.i64.wrap (m.pen2+5)) m.pen2 }
def EE (m:Mat) (e:Ev):Mat×Int :=
 let t:=Af m.rules (AJ m) e
 cond (!(t.2==0)) (m,t.2) (cond (e.kind==13 && !(e.side==t.1.side)) (EF { m with inns:=m.inns.set (lnx m.inns) t.1 } e.side) { m with inns:=m.inns.set (lnx m.inns) t.1 },0)
def VD (m:Mat):Mat:={ m with inns:=cond (m.stage==3) (m.inns.set (lnx m.inns) { AJ m with ending:=5 }) m.inns,stage:=5,win:=fk m.rules,wside:=0,margin:=0 }
def Ec (m:Mat) (e:Ev):Mat×Int :=
  cond (e.kind==1) (cond (!(m.stage==1)) (m,1) ({ m with first:=cond e.yes e.side (Bg e.side),stage:=2 },0))
    (cond (e.kind==2) (cond (!(m.stage==2)) (m,1) (SK m e))
      (cond (e.kind==12) (cond (!(m.stage==4)) (m,1) (cond (!(e.side==m.first)) (m,2) ({ m with follow:=e.yes,stage:=2 },0)))
        (cond (e.kind==16) (VD m,0) (cond (!(m.stage==3)) (m,1) (EE m e)))))
def P8 (m:Mat):Mat :=
  let n:Int:=m.inns.length
  let sd:=(AJ m).side
  let o:=XU { m with stage:=5 }
  cond (n==IntKind.i64.wrap (2 * m.rules.innings)||(n==3&&iLt (Cv m sd) (Cv m (Bg sd)))) { m with stage:=5,win:=o.1,wside:=o.2.1,margin:=o.2.2 }
    (cond (n==2&&iLt 0 m.rules.followon&&iLe m.rules.followon (IntKind.i64.wrap (Cv m m.first - Cv m (Bg m.first)))) { m with stage:=4 } { m with stage:=2 })
def CV (m:Mat):Mat:=cond (m.stage==3 && !((AJ m).ending==0)) (P8 m) m
def Bu (m:Mat) (e:Ev):Mat×Int :=
 cond (!G7 m || !(evS e==0)) (m,1) (cond (m.stage==5) (m,26) (cond (!((Ec m e).2==0)) (m,(Ec m e).2) (CV (Ec m e).1,0)))
theorem y6 {X:Option (List PV)} {r:List PV} {k:List PV→Option (List PV)} {g:Option (List PV)} (h:X=some r) (hk:k r=g):X.bind k=g:=by rw [h];exact hk
structure MatOk (m:Mat):Prop where
 code:BJ m.rules=0
 len:m.inns.length≤4
 innv:∀ i,i<m.inns.length→IK m.rules (inn m.inns i)=true∧(inn m.inns i).side=B8 m (i:Int)
 begun:(m.stage==3)=true→((m.inns.length:Int)==0)=false
 toss:(m.stage==2)=true→m.first=1∨m.first=2
 room:(m.stage==2)=true→(m.inns.length:Int)<2 * m.rules.innings
 most:IntKind.i64.wrap (2 * m.rules.innings)=2 * m.rules.innings∧(m.inns.length:Int)≤2 * m.rules.innings
theorem W4 {m:Mat} (h:G7 m=true):MatOk m:=by
 unfold G7 mQ at h;simp only [zzj,Bool.not_eq_true'] at h;obtain ⟨⟨h1,h2,h3,h4,h5,h6,h7,h8,h9,h10⟩,h11,h12⟩:=h;have hc:=beq_iff_eq.1 h1;have rk:=(Dm hc).innings;have e2:IntKind.i64.wrap (2 * m.rules.innings)=2 * m.rules.innings:=A9 (by omega) (by omega);rw [e2] at h5 h8;rw [Bool.or_eq_false_iff,Bool.or_eq_false_iff] at h5;have hn:=h5.2;have hf1:=h5.1.1;have hf2:=h5.1.2;simp only [iLt,decide_eq_false_iff_not] at hn hf1 hf2;refine ⟨hc,by omega,fun i hi=>?_,fun hs=>?_,fun hs=>?_,fun hs=>?_,e2,by omega⟩
 ·have:=Fa.1 h11 i (by omega) (by omega);unfold aF at this;rw [Bool.or_eq_false_iff,Bool.not_eq_false',Bool.not_eq_false',beq_iff_eq] at this;exact this
 ·unfold aA at h12;rw [hs,zzj] at h12;have:=h12.2;simp only [iLt,Bool.not_true,Bool.false_or,decide_eq_true_eq] at this;exact beq_false_of_ne (by omega)
 ·rw [beq_iff_eq.1 hs] at h6;cases h0:m.first==0 with
  | true=>rw [h0] at h6;simp at h6
  | false =>
   rw [beq_eq_false_iff_ne] at h0;omega
 ·rw [hs,Bool.true_and,beq_eq_false_iff_ne] at h8;omega
theorem xg {m:Mat} (h:m.first=1∨m.first=2) (i:Int):B8 m i=1∨B8 m i=2:=by
 unfold B8;cases cond (m.follow&&iLe 2 i) (i==2) (i.tmod 2==1) with
 | false=>exact h
 | true=>rcases h with h | h<;>rw [h]<;>decide
theorem lH {m:Mat} (h:MatOk m):ME m.inns:=fun i hi=>(SN (h.innv i hi).1).2.2
theorem YD {F : (List AU → Option (List PV)) → List PV → Option (List PV)} {len : Nat} (enc : Nat → List AU) (ans : Nat → Option (List PV))
    (h0:∀ self,F self ((enc len).map Leaf.pv)=some [.int 1]) (h1:∀ i self,i<len→F self ((enc i).map Leaf.pv)=match ans i with | some r=>some (.int 0::r) | none=>self (enc (i+1))) :
    ∀ (k i n:Nat),i+k=len→k<n→DB F n ((enc i).map Leaf.pv)=some (SY (Bd ans k i))
  | 0,i,n,hk,hn=>by
    obtain ⟨n,rfl⟩:∃ m,n=m+1:=⟨n - 1,by omega⟩;obtain rfl:i=len:=by omega
    exact h0 _
  | k+1,i,n,hk,hn=>by
    obtain ⟨n,rfl⟩:∃ m,n=m+1:=⟨n - 1,by omega⟩;show F _ _=_;rw [h1 i _ (by omega)];simp only [Bd];cases ans i with
    | some r=>rfl
    | none=>exact YD enc ans h0 h1 k (i+1) n (by omega) (by omega)
theorem rc (ys:List Inn) (sd:Int) (g:Nat→List PV) (n:Nat):∀ k,k≤n→Bd (fun j=>cond ((inn ys (n - 1 - j)).side==sd) (some (g (n - 1 - j))) none) k (n - k)=(KV ys sd k).map g
 | 0,_=>rfl
 | k+1,h=>by
  have ih:=rc ys sd g n k (by omega);have e:n - 1 - (n - (k+1))=k:=by omega
  have e2:n - (k+1)+1=n - k:=by omega
  simp only [Bd,KV,e,e2,ih];cases (inn ys k).side==sd<;>rfl
theorem Sz (xs:List Inn) (k:Nat) (s:Inn) (i:Nat) (hi:i<xs.length):inn (xs.set k s) i=(if k=i then s else inn xs i):=by
 rw [Jg,Jg,List.getElem?_set]
 by_cases h:k=i
 ·subst h;rw [if_pos rfl,if_pos rfl,if_pos hi]
 ·rw [if_neg h,if_neg h]
theorem TP {xs:List Inn} {s:Inn} (k:Nat) (h:ME xs) (hs:s.Fit):ME (xs.set k s):=fun i hi=>by
 rw [List.length_set] at hi;rw [Sz xs k s i hi]
 by_cases e:k=i
 ·rw [if_pos e];exact hs
 ·rw [if_neg e];exact h i hi
theorem uC {e:Ev} (h:(evS e==0)=true) (hk:(e.kind==13)=true):e.side=1∨e.side=2:=by
 have h0:=iW h;rw [beq_iff_eq] at hk;unfold evS at h;rw [h0] at h;cases h1:og e with
 | true=>rw [h1] at h;cases h
 | false =>
  cases h2:de e with
  | true=>rw [h1,h2] at h;cases h
  | false =>
   unfold de at h2;rw [Bool.or_eq_false_iff] at h2;have h3:=h2.1;rw [hk,show uS 13=true from rfl,Bool.and_true] at h3;simp only [btw,iLe,Bool.not_eq_false',zzj,decide_eq_true_eq] at h3;omega
theorem qv (xs:List Inn) (s:Inn) (i:Nat) (hi:i<xs.length+1):inn (xs++[s]) i=(if i<xs.length then inn xs i else s):=by
 rw [Jg,Jg]
 by_cases h:i<xs.length
 ·rw [if_pos h,List.getElem?_append_left h]
 ·have:i=xs.length:=by omega
  subst this;rw [if_neg h,List.getElem?_append_right (Nat.le_refl _),Nat.sub_self];rfl
theorem wT {xs:List Inn} {s:Inn} (h:ME xs) (hs:s.Fit):ME (xs++[s]):=fun i hi=>by
 rw [List.length_append] at hi;rw [qv xs s i hi]
 by_cases e:i<xs.length
 ·rw [if_pos e];exact h i e
 ·rw [if_neg e];exact hs
theorem jZ (r:Rul) (a b c:Int) (e:Ev):(Af r (B7 r a b c).1 e).1.Fit:=by
 obtain ⟨f,h1,h2⟩:=So r a b c;exact UJ (Nf r _ e) f (by rw [h1,h2];exact Nat.zero_le _)
structure ActOk (m:Mat) (x:Mat×Int):Prop where
 rules:x.1.rules=m.rules
 fit:ME x.1.inns
 len:x.1.inns.length≤5
 some':(x.2==0)=true→(x.1.stage==3)=true→((x.1.inns.length:Int)==0)=false
theorem A_c {m:Mat} (b:Bool) (x y:Mat×Int) (hx:ActOk m x) (hy:ActOk m y):ActOk m (cond b x y):=by cases b<;>assumption
theorem oB {m:Mat} (sd:Int) (hf:ME m.inns):(EF m sd).rules=m.rules∧ME (EF m sd).inns∧(EF m sd).inns.length=m.inns.length∧(EF m sd).stage=m.stage:=by
 unfold EF;cases h:KV m.inns sd m.inns.length with
 | none=>exact ⟨rfl,hf,rfl,rfl⟩
 | some k =>
  have hk:k<m.inns.length:=by
   have:∀ n,KV m.inns sd n=some k→k<n:=by
    intro n
    induction n with
    | zero=>intro h;cases h
    | succ n ih =>
     intro h;unfold KV at h;cases hq:(inn m.inns n).side==sd with
     | true=>rw [hq] at h;cases h;omega
     | false=>rw [hq] at h;have:=ih h;omega
   exact this _ h
  exact ⟨rfl,TP k hf (z7 (hf k hk)),List.length_set,rfl⟩
theorem wJ {m:Mat} (ok:MatOk m) (e:Ev):ActOk m (Ec m e):=by
 have hf:=lH ok;have hl:=ok.len;have self:∀ n:Int,(n==0)=false→ActOk m (m,n):=fun n hn=>⟨rfl,hf,by show m.inns.length≤5;omega,fun h=>by rw [hn] at h;cases h⟩
 unfold Ec;refine A_c _ _ _ (A_c _ _ _ (self 1 rfl) ⟨rfl,hf,by show m.inns.length≤5;omega,fun _ h=>by cases h⟩) (A_c _ _ _ ?_ (A_c _ _ _ ?_ (A_c _ _ _ ?_ ?_)))
 ·refine A_c _ _ _ (self 1 rfl) ?_;unfold SK;refine A_c _ _ _ (self 1 rfl) ?_;cases hq:(Af m.rules (B7 m.rules (B8 m (m.inns.length:Int)) (D0 m (B8 m (m.inns.length:Int))) (cond (B8 m (m.inns.length:Int)==2) m.pen2 m.pen1)).1 e).2==0 with
  | false =>
   simp only [Bool.not_false,cond_true];exact self _ hq
  | true =>
   simp only [Bool.not_true,cond_false];exact ⟨rfl,wT hf (jZ _ _ _ _ e),by simp;omega,fun _ _=>by
    show ((((m.inns++[_]).length:Nat):Int)==0)=false;rw [List.length_append];exact beq_false_of_ne (by simp;omega)⟩
 ·exact A_c _ _ _ (self 1 rfl) (A_c _ _ _ (self 2 rfl) ⟨rfl,hf,by show m.inns.length≤5;omega,fun _ h=>by cases h⟩)
 ·unfold VD;cases h3:m.stage==3 with
  | false=>exact ⟨rfl,hf,by show m.inns.length≤5;omega,fun _ h=>by cases h⟩
  | true =>
   have h0:=ok.begun h3;have fl:=hf (lnx m.inns) (Tf h0 (by omega));exact ⟨rfl,TP _ hf ⟨fl.bt,fl.bw,fl.bf,fl.bd,fl.sb⟩,by show (m.inns.set _ _).length≤5;rw [List.length_set];omega,fun _ h=>by cases h⟩
 ·cases h3:m.stage==3 with
  | false=>exact self 1 rfl
  | true =>
   have h0:=ok.begun h3;have lv:=SN (ok.innv (lnx m.inns) (Tf h0 (by omega))).1;have h1:=lv.1;have h2:=lv.2.1;have ft:=UJ (Nf m.rules (AJ m) e) lv.2.2 (show (inn m.inns (lnx m.inns)).before.length+(inn m.inns (lnx m.inns)).bowlers.length≤1048575 by omega);simp only [Bool.not_true,cond_false,EE];cases hq:(Af m.rules (AJ m) e).2==0 with
   | false =>
    simp only [Bool.not_false,Bool.not_true,cond_true,cond_false];exact self _ hq
   | true =>
    have fs:=TP (lnx m.inns) hf ft;have ln:(m.inns.set (lnx m.inns) (Af m.rules (AJ m) e).1).length=m.inns.length:=List.length_set;simp only [Bool.not_true,cond_false];cases (e.kind==13 && !(e.side==(Af m.rules (AJ m) e).1.side)) with
    | false =>
     exact ⟨rfl,fs,by show (m.inns.set _ _).length≤5;omega,fun _ _=>by
      show ((((m.inns.set _ _).length:Nat):Int)==0)=false;rw [ln];exact h0⟩
    | true =>
     obtain ⟨a1,a2,a3,a4⟩:=oB (m:={ m with inns:=m.inns.set (lnx m.inns) (Af m.rules (AJ m) e).1 }) e.side fs;exact ⟨a1,a2,by show (EF _ _).inns.length≤5;rw [a3];show (m.inns.set _ _).length≤5;omega,fun _ _=>by
      show ((((EF _ _).inns.length:Nat):Int)==0)=false;rw [a3];show ((((m.inns.set _ _).length:Nat):Int)==0)=false;rw [ln];exact h0⟩
set_option maxHeartbeats 8000000 in
theorem ox {N:Nat} {m8 m16:Bool} {m0:ByteArray} {m13:Rows} {m17:List Inn} {e0 e1 e2 e3 e5 e6 e7 e8 e9 e10 e11 e13 e14 e15 e16 e18:Int} {e4 e12 e17:Bool} (hN:2097152<N) (hf:ME m17) (hl:m17.length≤1000000) (hs:m0.size≤1048576) (h13:m13.length≤1048576):OI N [.str m0,.int m1,.int m2,.int m3,.int m4,.int m5,.int m6,.int m7,.bool m8,.int m9,.int m10,.int m11,.int m12,.rows m13,.int m14,.int m15,.bool m16,.rows (Ar m17),.int m18,.int m19,.int m20,.int m21,.int m22,.int e0,.int e1,.int e2,.int e3,.bool e4,.int e5,.int e6,.int e7,.int e8,.int e9,.int e10,.int e11,.bool e12,.int e13,.int e14,.int e15,.int e16,.bool e17,.int e18]=some (YO (Bu (⟨⟨m0,m1,m2,m3,m4,m5,m6,m7,m8,m9,m10,m11,m12,m13⟩,m14,m15,m16,m17,m18,m19,m20,m21,m22⟩:Mat) (⟨e0,e1,e2,e3,e4,e5,e6,⟨e7,e8,e9,e10,e11,e12,e13,e14,e15,e16,e17,e18⟩⟩:Ev))):=by
 show Oe (std (BX N) N) (xOf _)=_;generalize hres:(some (YO (Bu (⟨⟨m0,m1,m2,m3,m4,m5,m6,m7,m8,m9,m10,m11,m12,m13⟩,m14,m15,m16,m17,m18,m19,m20,m21,m22⟩:Mat) (⟨e0,e1,e2,e3,e4,e5,e6,⟨e7,e8,e9,e10,e11,e12,e13,e14,e15,e16,e17,e18⟩⟩:Ev))):Option (List PV))=RR;simp only [Oe,UA,Tg,To,GF,F5,Kx,JP,FC,FV,Dq,D9,IZ,lq9,std,xOf,PXb,Yp hf hN hl hs,Yg hN,lf hf hN hl h13];subst hres;simp only [Bu];cases hv:G7 (⟨⟨m0,m1,m2,m3,m4,m5,m6,m7,m8,m9,m10,m11,m12,m13⟩,m14,m15,m16,m17,m18,m19,m20,m21,m22⟩:Mat)
 case false=>rfl
 cases he:evS (⟨e0,e1,e2,e3,e4,e5,e6,⟨e7,e8,e9,e10,e11,e12,e13,e14,e15,e16,e17,e18⟩⟩:Ev)==0
 case false=>simp only [PXb,he];rfl
 simp only [PXb,he];cases h5:m14==5
 case true=>rfl
 simp only [PXb];have ok:=W4 hv;refine y6 (r:=.int (Ec (⟨⟨m0,m1,m2,m3,m4,m5,m6,m7,m8,m9,m10,m11,m12,m13⟩,m14,m15,m16,m17,m18,m19,m20,m21,m22⟩:Mat) (⟨e0,e1,e2,e3,e4,e5,e6,⟨e7,e8,e9,e10,e11,e12,e13,e14,e15,e16,e17,e18⟩⟩:Ev)).2::(Ec (⟨⟨m0,m1,m2,m3,m4,m5,m6,m7,m8,m9,m10,m11,m12,m13⟩,m14,m15,m16,m17,m18,m19,m20,m21,m22⟩:Mat) (⟨e0,e1,e2,e3,e4,e5,e6,⟨e7,e8,e9,e10,e11,e12,e13,e14,e15,e16,e17,e18⟩⟩:Ev)).1.ls) ?_ ?_
 ·unfold Ec;cases hk1:e0==1
  case true =>
   simp only [PXb,F5,JY];cases m14==1<;>cases e4<;>rfl
  cases hk2:e0==2
  case true =>
   simp only [PXb];cases hs2:m14==2
   case false=>rfl
   have hl2:m17.length≤1048576:=by omega
   have h304:iSm ((m17.length+1:Nat):Int) 304=true:=Gu (by omega) (by omega);have fb:=fun a b c=>(So (⟨⟨m0,m1,m2,m3,m4,m5,m6,m7,m8,m9,m10,m11,m12,m13⟩,m14,m15,m16,m17,m18,m19,m20,m21,m22⟩:Mat).rules a b c).1
   have wb:∀ a b c,(B7 (⟨⟨m0,m1,m2,m3,m4,m5,m6,m7,m8,m9,m10,m11,m12,m13⟩,m14,m15,m16,m17,m18,m19,m20,m21,m22⟩:Mat).rules a b c).1.before.length+(B7 (⟨⟨m0,m1,m2,m3,m4,m5,m6,m7,m8,m9,m10,m11,m12,m13⟩,m14,m15,m16,m17,m18,m19,m20,m21,m22⟩:Mat).rules a b c).1.bowlers.length≤1000000:=fun a b c=>by
    rw [(So (⟨⟨m0,m1,m2,m3,m4,m5,m6,m7,m8,m9,m10,m11,m12,m13⟩,m14,m15,m16,m17,m18,m19,m20,m21,m22⟩:Mat).rules a b c).2.1,(So (⟨⟨m0,m1,m2,m3,m4,m5,m6,m7,m8,m9,m10,m11,m12,m13⟩,m14,m15,m16,m17,m18,m19,m20,m21,m22⟩:Mat).rules a b c).2.2];exact Nat.zero_le _
   rcases xg (m:=(⟨⟨m0,m1,m2,m3,m4,m5,m6,m7,m8,m9,m10,m11,m12,m13⟩,m14,m15,m16,m17,m18,m19,m20,m21,m22⟩:Mat)) (ok.toss hs2) (m17.length:Int) with ho | ho
   ·simp only [PXb,PXc,MW,pI,Nat.reduceAdd,Int.reduceBEq,PXi,PXr,Inn.eta,Bk,List.length_append,List.length_cons,List.length_nil,h304,SK,GF,FV,FC,Dq,Ri,W7 hN hl2,Us hN hs,Pg (fb _ _ _) (wb _ _ _) hN hs h13,ho,wr1,wr2,nF,nS];cases (B7 (⟨⟨m0,m1,m2,m3,m4,m5,m6,m7,m8,m9,m10,m11,m12,m13⟩,m14,m15,m16,m17,m18,m19,m20,m21,m22⟩:Mat).rules 1 (D0 (⟨⟨m0,m1,m2,m3,m4,m5,m6,m7,m8,m9,m10,m11,m12,m13⟩,m14,m15,m16,m17,m18,m19,m20,m21,m22⟩:Mat) 1) m18).2==0<;>try rfl
    cases (Af (⟨⟨m0,m1,m2,m3,m4,m5,m6,m7,m8,m9,m10,m11,m12,m13⟩,m14,m15,m16,m17,m18,m19,m20,m21,m22⟩:Mat).rules (B7 (⟨⟨m0,m1,m2,m3,m4,m5,m6,m7,m8,m9,m10,m11,m12,m13⟩,m14,m15,m16,m17,m18,m19,m20,m21,m22⟩:Mat).rules 1 (D0 (⟨⟨m0,m1,m2,m3,m4,m5,m6,m7,m8,m9,m10,m11,m12,m13⟩,m14,m15,m16,m17,m18,m19,m20,m21,m22⟩:Mat) 1) m18).1 (⟨e0,e1,e2,e3,e4,e5,e6,⟨e7,e8,e9,e10,e11,e12,e13,e14,e15,e16,e17,e18⟩⟩:Ev)).2==0<;>rfl
   ·simp only [PXb,PXc,MW,pI,Nat.reduceAdd,Int.reduceBEq,PXi,PXr,Inn.eta,Bk,List.length_append,List.length_cons,List.length_nil,h304,SK,GF,FV,FC,Dq,Ri,W7 hN hl2,Us hN hs,Pg (fb _ _ _) (wb _ _ _) hN hs h13,ho,wr1,wr2,nF,nS];cases (B7 (⟨⟨m0,m1,m2,m3,m4,m5,m6,m7,m8,m9,m10,m11,m12,m13⟩,m14,m15,m16,m17,m18,m19,m20,m21,m22⟩:Mat).rules 2 (D0 (⟨⟨m0,m1,m2,m3,m4,m5,m6,m7,m8,m9,m10,m11,m12,m13⟩,m14,m15,m16,m17,m18,m19,m20,m21,m22⟩:Mat) 2) m19).2==0<;>try rfl
    cases (Af (⟨⟨m0,m1,m2,m3,m4,m5,m6,m7,m8,m9,m10,m11,m12,m13⟩,m14,m15,m16,m17,m18,m19,m20,m21,m22⟩:Mat).rules (B7 (⟨⟨m0,m1,m2,m3,m4,m5,m6,m7,m8,m9,m10,m11,m12,m13⟩,m14,m15,m16,m17,m18,m19,m20,m21,m22⟩:Mat).rules 2 (D0 (⟨⟨m0,m1,m2,m3,m4,m5,m6,m7,m8,m9,m10,m11,m12,m13⟩,m14,m15,m16,m17,m18,m19,m20,m21,m22⟩:Mat) 2) m19).1 (⟨e0,e1,e2,e3,e4,e5,e6,⟨e7,e8,e9,e10,e11,e12,e13,e14,e15,e16,e17,e18⟩⟩:Ev)).2==0<;>rfl
  cases hk3:e0==12
  case true =>
   simp only [PXb];cases m14==4<;>cases e1==m15<;>rfl
  cases hk4:e0==16
  case true =>
   simp only [PXb,VD];cases h3:m14==3
   case false=>simp only [PXb,PXc,PXi,PXr,MW,Nat.reduceAdd,D9,LE];rfl
   simp only [PXb,PXc,PXi,PXr,MW,Nat.reduceAdd,W3 (ok.begun h3) hl,D9,LE];rfl
  simp only [PXb];cases h3:m14==3
  case false=>rfl
  have h0:=ok.begun h3;have lv:=SN (ok.innv (lnx m17) (Tf h0 hl)).1;have fl:(inn m17 (IntKind.i64.wrap ((m17.length:Int) - 1)).toNat).Fit:=lv.2.2;have wl:(inn m17 (IntKind.i64.wrap ((m17.length:Int) - 1)).toNat).before.length+(inn m17 (IntKind.i64.wrap ((m17.length:Int) - 1)).toNat).bowlers.length≤1000000:=by
   have h1:=lv.1;have h2:=lv.2.1;change (inn m17 (IntKind.i64.wrap ((m17.length:Int) - 1)).toNat).bowlers.length≤11 at h1;change (inn m17 (IntKind.i64.wrap ((m17.length:Int) - 1)).toNat).before.length≤11 at h2;omega
  have f1:=UJ (Nf (⟨⟨m0,m1,m2,m3,m4,m5,m6,m7,m8,m9,m10,m11,m12,m13⟩,m14,m15,m16,m17,m18,m19,m20,m21,m22⟩:Mat).rules (inn m17 (IntKind.i64.wrap ((m17.length:Int) - 1)).toNat) (⟨e0,e1,e2,e3,e4,e5,e6,⟨e7,e8,e9,e10,e11,e12,e13,e14,e15,e16,e17,e18⟩⟩:Ev)) fl (by omega);simp only [PXb,PXc,PXi,PXr,Bk,Inn.eta,MW,Nat.reduceAdd,List.length_set,W3 h0 hl,Dq,Pg fl wl hN hs h13,EE,AJ,lnx];generalize hX:Af (⟨⟨m0,m1,m2,m3,m4,m5,m6,m7,m8,m9,m10,m11,m12,m13⟩,m14,m15,m16,m17,m18,m19,m20,m21,m22⟩:Mat).rules (inn m17 (IntKind.i64.wrap ((m17.length:Int) - 1)).toNat) (⟨e0,e1,e2,e3,e4,e5,e6,⟨e7,e8,e9,e10,e11,e12,e13,e14,e15,e16,e17,e18⟩⟩:Ev)=X at f1;have fy:=TP (IntKind.i64.wrap ((m17.length:Int) - 1)).toNat hf f1;generalize hy:m17.set (IntKind.i64.wrap ((m17.length:Int) - 1)).toNat X.1=ys at fy;have ly:ys.length=m17.length:=by rw [← hy,List.length_set]
  cases X.2==0<;>try rfl
  cases h13k:e0==13
  case false=>rfl
  cases hsd:e1==X.1.side
  case true=>rfl
  simp only [PXb,Option.bind_assoc];have e0w:IntKind.i64.wrap ((m17.length:Int) - 1)=(m17.length:Int) - 1 - ((0:Nat):Int):=by
   rw [beq_eq_false_iff_ne] at h0;rw [A9 (by omega) (by omega)];omega
  rw [e0w];have hside:=uC (e:=(⟨e0,e1,e2,e3,e4,e5,e6,⟨e7,e8,e9,e10,e11,e12,e13,e14,e15,e16,e17,e18⟩⟩:Ev)) he h13k;simp only at hside;refine AZ (YD (len:=m17.length) (fun j=>[.int ((m17.length:Int) - 1 - (j:Int))]) (fun j=>cond ((inn ys (m17.length - 1 - j)).side==e1) (some [PV.str m0,PV.int m1,PV.int m2,PV.int m3,PV.int m4,PV.int m5,PV.int m6,PV.int m7,PV.bool m8,PV.int m9,PV.int m10,PV.int m11,PV.int m12,PV.rows m13,PV.int m14,PV.int m15,PV.bool m16,PV.rows (Ar (ys.set (m17.length - 1 - j) (Ky (inn ys (m17.length - 1 - j))))),PV.int m18,PV.int m19,PV.int m20,PV.int m21,PV.int m22]) none) ?_ ?_ m17.length 0 N (by omega) (by omega)) ?_
  ·intro self;have q1:iLe 0 ((m17.length:Int) - 1 - (m17.length:Int))=false:=by simp only [iLe,decide_eq_false_iff_not];omega
   simp only [PXb,q1]
  ·intro i self hi;have q1:iLe 0 ((m17.length:Int) - 1 - (i:Int))=true:=by simp only [iLe,decide_eq_true_eq];omega
   have q2:iIn ((m17.length:Int) - 1 - (i:Int)) (m17.length:Int)=true:=by simp only [iIn,decide_eq_true_eq];omega
   have q3:((m17.length:Int) - 1 - (i:Int)).toNat=m17.length - 1 - i:=by omega
   have q4:IntKind.i64.wrap ((m17.length:Int) - 1 - (i:Int) - 1)=(m17.length:Int) - 1 - ((i+1:Nat):Int):=by rw [A9 (by omega) (by omega)];omega
   have q5:=fy (m17.length - 1 - i) (by omega);simp only [PXb,PXc,q1,q2,q3,q4,IZ,R3 q5,PXm];cases (inn ys (m17.length - 1 - i)).side==e1<;>rfl
  ·have hfa:=rc ys e1 (fun k=>[PV.str m0,PV.int m1,PV.int m2,PV.int m3,PV.int m4,PV.int m5,PV.int m6,PV.int m7,PV.bool m8,PV.int m9,PV.int m10,PV.int m11,PV.int m12,PV.rows m13,PV.int m14,PV.int m15,PV.bool m16,PV.rows (Ar (ys.set k (Ky (inn ys k)))),PV.int m18,PV.int m19,PV.int m20,PV.int m21,PV.int m22]) m17.length m17.length (Nat.le_refl _);rw [Nat.sub_self] at hfa;rw [hfa];unfold EF;simp only [ly];cases KV ys e1 m17.length with
   | some k=>rfl
   | none =>
    rcases hside with h | h<;>subst h
    ·simp only [Option.map_none,SY,PXb,PXc,MW,Int.reduceBEq,wr1,nF];rfl
    ·simp only [Option.map_none,SY,PXb,PXc,MW,Int.reduceBEq,wr2,nS];rfl
 ·have ak:=wJ ok (⟨e0,e1,e2,e3,e4,e5,e6,⟨e7,e8,e9,e10,e11,e12,e13,e14,e15,e16,e17,e18⟩⟩:Ev);generalize Ec (⟨⟨m0,m1,m2,m3,m4,m5,m6,m7,m8,m9,m10,m11,m12,m13⟩,m14,m15,m16,m17,m18,m19,m20,m21,m22⟩:Mat) (⟨e0,e1,e2,e3,e4,e5,e6,⟨e7,e8,e9,e10,e11,e12,e13,e14,e15,e16,e17,e18⟩⟩:Ev)=A at ak;obtain ⟨⟨⟨a0,a1,a2,a3,a4,a5,a6,a7,a8,a9,a10,a11,a12,a13⟩,a14,a15,a16,a17,a18,a19,a20,a21,a22⟩,l⟩:=A;obtain ⟨k1,k2,k3,k4⟩:=ak;simp only at k1 k2 k3 k4;have hl5:a17.length≤1048576:=by omega
  have hs5:a0.size≤1048576:=by
   have:=congrArg Rul.name k1;simp only at this;rw [this];exact hs
  simp only [PXb,PXc,PXk,PXi,MW,Nat.reduceAdd];cases hl0:l==0
  case false=>rfl
  simp only [PXb,CV];cases h3:a14==3
  case false=>rfl
  have h0:=k4 hl0 h3;have li:=W3 h0 (show a17.length≤1000000 by omega);simp only [PXb,PXc,PXi,li];cases he2:(inn a17 (IntKind.i64.wrap ((a17.length:Int) - 1)).toNat).ending==0
  case true=>simp only [PXb,AJ,lnx,he2]
  simp only [PXb,PXc,PXi,AJ,lnx,he2,Kx,F5,JP,RT hN hl5,JY,gF k2 hN (show a17.length≤1000000 by omega) hs5];unfold P8;simp only [AJ,lnx];simp only [Cv,AJ,lnx];cases hq1:((a17.length:Int)==IntKind.i64.wrap (2 * a2))
  case true=>rfl
  cases hq2:((a17.length:Int)==3)
  case true =>
   simp only [PXb];cases iLt (RO a17 (inn a17 (IntKind.i64.wrap ((a17.length:Int) - 1)).toNat).side a17.length) (RO a17 (Bg (inn a17 (IntKind.i64.wrap ((a17.length:Int) - 1)).toNat).side) a17.length)
   case true=>rfl
   simp only [PXb];cases ((a17.length:Int)==2)&&iLt 0 a10&&iLe a10 (IntKind.i64.wrap (RO a17 a15 a17.length - RO a17 (Bg a15) a17.length))<;>rfl
  simp only [PXb];cases ((a17.length:Int)==2)&&iLt 0 a10&&iLe a10 (IntKind.i64.wrap (RO a17 a15 a17.length - RO a17 (Bg a15) a17.length))<;>rfl
theorem pk (m:Mat):(P8 m).rules=m.rules∧(P8 m).inns=m.inns:=by
 unfold P8
 dsimp only
 cases ((m.inns.length:Int)==IntKind.i64.wrap (2 * m.rules.innings)||((m.inns.length:Int)==3&&iLt (Cv m (AJ m).side) (Cv m (Bg (AJ m).side)))) with
 | true=>exact ⟨rfl,rfl⟩
 | false =>
  cases ((m.inns.length:Int)==2&&iLt 0 m.rules.followon&&iLe m.rules.followon (IntKind.i64.wrap (Cv m m.first - Cv m (Bg m.first))))<;>exact ⟨rfl,rfl⟩
theorem gG (m:Mat):(CV m).rules=m.rules∧(CV m).inns=m.inns:=by
 unfold CV;cases (m.stage==3 && !((AJ m).ending==0)) with
 | true=>exact pk m
 | false=>exact ⟨rfl,rfl⟩
structure StepOk (r:Rul) (m:Mat):Prop where
 rules:m.rules=r
 fit:ME m.inns
 len:m.inns.length≤5
theorem tp {r:Rul} {m:Mat} (h:StepOk r m) (e:Ev):StepOk r (Bu m e).1:=by
 unfold Bu;cases hv:G7 m with
 | false=>exact h
 | true =>
  cases he:evS e==0 with
  | false=>exact h
  | true =>
   cases h5:m.stage==5 with
   | true=>exact h
   | false =>
    have a:=wJ (W4 hv) e;cases hx:(Ec m e).2==0 with
    | false=>exact h
    | true =>
     have k:=gG (Ec m e).1;exact ⟨k.1.trans (a.rules.trans h.rules),by show ME (CV _).inns;rw [k.2];exact a.fit,by show (CV _).inns.length≤5;rw [k.2];exact a.len⟩
theorem jc (r:Rul) (h:((AK r).2==0)=true):StepOk r (AK r).1:=by
 unfold AK at h ⊢;cases hc:BJ r==0 with
 | false=>rw [hc] at h;exact absurd (show (BJ r==0)=true from h) (by rw [hc];decide)
 | true=>exact ⟨rfl,fun i hi=>absurd hi (Nat.not_lt_zero i),Nat.zero_le _⟩
theorem M9 {m:Mat} {e:Ev} (h:((Bu m e).2==0)=true):G7 m=true∧(evS e==0)=true∧(m.stage==5)=false∧((Ec m e).2==0)=true∧(Bu m e).1=CV (Ec m e).1:=by
 unfold Bu at h ⊢;cases hv:G7 m with
 | false=>rw [hv] at h;exact absurd (show ((1:Int)==0)=true from h) (by decide)
 | true =>
  cases he:evS e==0 with
  | false=>rw [hv,he] at h;exact absurd (show ((1:Int)==0)=true from h) (by decide)
  | true =>
   cases h5:m.stage==5 with
   | true=>rw [hv,he,h5] at h;exact absurd (show ((26:Int)==0)=true from h) (by decide)
   | false =>
    cases hx:(Ec m e).2==0 with
    | false=>rw [hv,he,h5,hx] at h;exact absurd (show ((Ec m e).2==0)=true from h) (by rw [hx];decide)
    | true=>exact ⟨rfl,rfl,rfl,rfl,rfl⟩
theorem Xu {m:Mat} {e:Ev} (h:((Bu m e).2==0)=true) (hk:(e.kind==4)=true):(m.stage==3)=true∧((m.inns.length:Int)==0)=false∧((Af m.rules (AJ m) e).2==0)=true∧(Bu m e).1.inns=m.inns.set (lnx m.inns) (Af m.rules (AJ m) e).1:=by
 obtain ⟨hv,he,h5,ha,hs⟩:=M9 h;have hk4:=beq_iff_eq.1 hk;rw [hs,(gG _).2];unfold Ec at ha ⊢;simp only [hk4,Int.reduceBEq,cond_false] at ha ⊢;cases h3:m.stage==3 with
 | false=>rw [h3] at ha;exact absurd (show ((1:Int)==0)=true from ha) (by decide)
 | true =>
  rw [h3] at ha;simp only [Bool.not_true,cond_false] at ha ⊢;unfold EE at ha ⊢;cases hq:(Af m.rules (AJ m) e).2==0 with
  | false=>simp only [hq,Bool.not_false,cond_true] at ha;exact absurd ha Bool.false_ne_true
  | true =>
   simp only [hk4,Int.reduceBEq,Bool.false_and,hq,Bool.not_true,cond_false];exact ⟨trivial,(W4 hv).begun h3,trivial,trivial⟩
def evR (L:Rows) (i:Nat):Ev:=⟨atI L i 0,atI L i 1,atI L i 2,atI L i 3,atB L i 4,atI L i 5,atI L i 6,⟨atI L i 7,atI L i 8,atI L i 9,atI L i 10,atI L i 11,atB L i 12,atI L i 13,atI L i 14,atI L i 15,atI L i 16,atB L i 17,atI L i 18⟩⟩
theorem ABm (L:Rows) (i:Nat):(⟨atI L i 0,atI L i 1,atI L i 2,atI L i 3,atB L i 4,atI L i 5,atI L i 6,⟨atI L i 7,atI L i 8,atI L i 9,atI L i 10,atI L i 11,atB L i 12,atI L i 13,atI L i 14,atI L i 15,atI L i 16,atB L i 17,atI L i 18⟩⟩:Ev)=evR L i:=rfl
def A7 (i:Int) (m:Mat) (e:Ev):Mat×Int:=cond (iLe 4000 i) (m,26) (Bu m e)
def Ew (L:Rows):Nat→Nat→Mat→Mat×Int×Int
 | 0,_,m=>(m,-1,0)
 | k+1,i,m=>cond (!((A7 i m (evR L i)).2==0)) (m,(i:Int),(A7 i m (evR L i)).2) (Ew L k (i+1) (A7 i m (evR L i)).1)
def Bh (i:Int) (m t:Mat) (d:Del):List PV :=
 [.int i,.int (IntKind.i64.wrap ((m.inns.length:Int) - 1)),.int (AJ m).complete,.int (AJ m).inover,.int (AJ m).bowler,.int (AJ m).striker,.int (AJ m).other,.bool (AJ m).freehit,
  .int d.type,.int d.source,.int d.runs,.int d.short,.int d.boundary,.bool d.crossed,.int d.how,.int d.victim,.int d.fielder,.int d.second,.bool d.sub,.int d.sector,
  .int (AD m.rules d).batter,.int (AD m.rules d).wides,.int (AD m.rules d).noballs,.int (AD m.rules d).byes,.int (AD m.rules d).legbyes,.int (AD m.rules d).bowler,.bool (AD m.rules d).counts,.bool (AD m.rules d).faced,.bool (AD m.rules d).wicket,.bool (AD m.rules d).swap,
  .int (inn t.inns (lnx m.inns)).runs,.int (inn t.inns (lnx m.inns)).wickets]
def Ls (L:Rows):Nat→Nat→Mat→Rows→Rows
 | 0,_,_,out=>out
 | k+1,i,m,out=>cond (!((A7 i m (evR L i)).2==0)) out (Ls L k (i+1) (A7 i m (evR L i)).1 (cond ((evR L i).kind==4) (out++[Bh i m (A7 i m (evR L i)).1 (evR L i).ball]) out))
def f7 (f:Mat×Int×Int):List PV:=[.str f.1.rules.name,.int f.1.rules.side,.int f.1.rules.innings,.int f.1.rules.overs,.int f.1.rules.balls,.int f.1.rules.quota,.int f.1.rules.wide,.int f.1.rules.noball,.bool f.1.rules.freehit,.int f.1.rules.newball,.int f.1.rules.followon,.int f.1.rules.reviews,.int f.1.rules.outside,.rows f.1.rules.power,.int f.1.stage,.int f.1.first,.bool f.1.follow,.rows (Ar f.1.inns),.int f.1.pen1,.int f.1.pen2,.int f.1.win,.int f.1.wside,.int f.1.margin,.int f.2.1,.int f.2.2]
def BD (r:Rul) (L:Rows):Mat×Int×Int:=cond (!((AK r).2==0)) (mS,0,1) (Ew L L.length 0 (AK r).1)
def Bi (r:Rul) (L:Rows):Rows:=cond (!((AK r).2==0)) [] (Ls L L.length 0 (AK r).1 [])
theorem oQ (L:Rows):∀ k i m,((Ew L k i m).2.1 == -1)=true→(Ew L k i m).2.2=0
 | 0,_,_,_=>rfl
 | k+1,i,m,h=>by
  unfold Ew at h ⊢;cases hq:(A7 i m (evR L i)).2==0 with
  | false =>
   rw [hq] at h;have:=beq_iff_eq.1 (show ((i:Int) == -1)=true from h);omega
  | true=>rw [hq] at h;exact oQ L k (i+1) _ h
theorem mW (L:Rows):∀ k i m out,(Ls L k i m out).length≤out.length+k
 | 0,_,_,out=>Nat.le_refl _
 | k+1,i,m,out=>by
  unfold Ls;cases (A7 i m (evR L i)).2==0 with
  | false=>show out.length≤_;omega
  | true =>
   have:=mW L k (i+1) (A7 i m (evR L i)).1 (cond ((evR L i).kind==4) (out++[Bh i m (A7 i m (evR L i)).1 (evR L i).ball]) out);refine Nat.le_trans this ?_;cases (evR L i).kind==4 with
   | false=>show out.length+k≤_;omega
   | true=>show (out++[_]).length+k≤_;rw [List.length_append];simp;omega
theorem eU {r:Rul} {m:Mat} (h:StepOk r m) (i:Int) (e:Ev):StepOk r (A7 i m e).1:=by
 unfold A7;cases iLe 4000 i with
 | true=>exact h
 | false=>exact tp h e
theorem Tu {m:Mat} {i:Int} {e:Ev} (h:((A7 i m e).2==0)=true):A7 i m e=Bu m e∧iLe 4000 i=false:=by
 unfold A7 at h ⊢;cases h4:iLe 4000 i with
 | true=>rw [h4] at h;exact absurd (show ((26:Int)==0)=true from h) (by decide)
 | false=>exact ⟨rfl,rfl⟩
theorem sW {N:Nat} {m8 m16:Bool} {m0:ByteArray} {m13:Rows} {m17:List Inn} {i:Int} {e0 e1 e2 e3 e5 e6 e7 e8 e9 e10 e11 e13 e14 e15 e16 e18:Int} {e4 e12 e17:Bool} (hN:2097152<N) (hf:ME m17) (hl:m17.length≤1000000) (hs:m0.size≤1048576) (h13:m13.length≤1048576):Oc N [.str m0,.int m1,.int m2,.int m3,.int m4,.int m5,.int m6,.int m7,.bool m8,.int m9,.int m10,.int m11,.int m12,.rows m13,.int m14,.int m15,.bool m16,.rows (Ar m17),.int m18,.int m19,.int m20,.int m21,.int m22,.int i,.int e0,.int e1,.int e2,.int e3,.bool e4,.int e5,.int e6,.int e7,.int e8,.int e9,.int e10,.int e11,.bool e12,.int e13,.int e14,.int e15,.int e16,.bool e17,.int e18]=some (YO (A7 i (⟨⟨m0,m1,m2,m3,m4,m5,m6,m7,m8,m9,m10,m11,m12,m13⟩,m14,m15,m16,m17,m18,m19,m20,m21,m22⟩:Mat) (⟨e0,e1,e2,e3,e4,e5,e6,⟨e7,e8,e9,e10,e11,e12,e13,e14,e15,e16,e17,e18⟩⟩:Ev))):=by
 show Ox (std (H8 N) N) (xOf _)=_;generalize hres:(some (YO (A7 i (⟨⟨m0,m1,m2,m3,m4,m5,m6,m7,m8,m9,m10,m11,m12,m13⟩,m14,m15,m16,m17,m18,m19,m20,m21,m22⟩:Mat) (⟨e0,e1,e2,e3,e4,e5,e6,⟨e7,e8,e9,e10,e11,e12,e13,e14,e15,e16,e17,e18⟩⟩:Ev))):Option (List PV))=RR;simp only [Ox,WH,lq9,std,xOf,PXb,ox hN hf hl hs h13];subst hres;simp only [A7];cases iLe 4000 i<;>rfl
theorem iI {N:Nat} {i:Int} {m8 m16:Bool} {m0:ByteArray} {m13:Rows} {m17:List Inn} {t1 t2 t3 t4 t5 t6 t7 t9 t10 t11 t12 t14 t15 t18 t19 t20 t21 t22:Int} {t8 t16:Bool} {t0:ByteArray} {t13:Rows} {t17:List Inn} {d0 d1 d2 d3 d4 d6 d7 d8 d9 d11:Int} {d5 d10:Bool} (h1:iIn (IntKind.i64.wrap ((m17.length:Int) - 1)) (m17.length:Int)=true) (h2:iIn (IntKind.i64.wrap ((m17.length:Int) - 1)) (t17.length:Int)=true):KP N [.int i,.str m0,.int m1,.int m2,.int m3,.int m4,.int m5,.int m6,.int m7,.bool m8,.int m9,.int m10,.int m11,.int m12,.rows m13,.int m14,.int m15,.bool m16,.rows (Ar m17),.int m18,.int m19,.int m20,.int m21,.int m22,.str t0,.int t1,.int t2,.int t3,.int t4,.int t5,.int t6,.int t7,.bool t8,.int t9,.int t10,.int t11,.int t12,.rows t13,.int t14,.int t15,.bool t16,.rows (Ar t17),.int t18,.int t19,.int t20,.int t21,.int t22,.int d0,.int d1,.int d2,.int d3,.int d4,.bool d5,.int d6,.int d7,.int d8,.int d9,.bool d10,.int d11]=some (Bh i (⟨⟨m0,m1,m2,m3,m4,m5,m6,m7,m8,m9,m10,m11,m12,m13⟩,m14,m15,m16,m17,m18,m19,m20,m21,m22⟩:Mat) (⟨⟨t0,t1,t2,t3,t4,t5,t6,t7,t8,t9,t10,t11,t12,t13⟩,t14,t15,t16,t17,t18,t19,t20,t21,t22⟩:Mat) (⟨d0,d1,d2,d3,d4,d5,d6,d7,d8,d9,d10,d11⟩:Del)):=by
 show KI (std (L8 N) N) (xOf _)=_;simp only [KI,Nv,lq9,std,xOf,PXb,PXi,h1,h2,L7];rfl
def UU (L:Rows) (i:Nat) (s:Rows×Mat):List PV ⊕ Rows×Mat:=cond (!((A7 i s.2 (evR L i)).2==0)) (.inl (.int 0::.rows s.1::.int i::.int (A7 i s.2 (evR L i)).2::s.2.ls)) (.inr (cond ((evR L i).kind==4) (s.1++[Bh i s.2 (A7 i s.2 (evR L i)).1 (evR L i).ball]) s.1,(A7 i s.2 (evR L i)).1))
def tY (out:Rows) (f:Mat×Int×Int):List PV:=cond (f.2.1 == -1) (.int 1::.rows out::f.1.ls) (.int 0::.rows out::.int f.2.1::.int f.2.2::f.1.ls)
theorem kd (L:Rows):∀ k i s,iB (UU L) (fun s=>.int 1::.rows s.1::s.2.ls) k i s=tY (Ls L k i s.2 s.1) (Ew L k i s.2)
 | 0,_,_=>rfl
 | k+1,i,s=>by
  simp only [iB,UU,Ew,Ls];cases (A7 i s.2 (evR L i)).2==0 with
  | false =>
   simp only [Bool.not_false,cond_true,tY];rw [show ((i:Int) == -1)=false from beq_false_of_ne (show (i:Int) ≠ -1 by omega)];rfl
  | true=>exact kd L k (i+1) _
def Wg (out:Rows) (f:Mat×Int×Int):List PV:=[.rows out,.str f.1.rules.name,.int f.1.rules.side,.int f.1.rules.innings,.int f.1.rules.overs,.int f.1.rules.balls,.int f.1.rules.quota,.int f.1.rules.wide,.int f.1.rules.noball,.bool f.1.rules.freehit,.int f.1.rules.newball,.int f.1.rules.followon,.int f.1.rules.reviews,.int f.1.rules.outside,.rows f.1.rules.power,.int f.1.stage,.int f.1.first,.bool f.1.follow,.rows (Ar f.1.inns),.int f.1.pen1,.int f.1.pen2,.int f.1.win,.int f.1.wside,.int f.1.margin,.int f.2.1,.int f.2.2]
theorem AAW {m t:Mat} {e:Ev} (hl:m.inns.length≤5) (h:((Bu m e).2==0)=true) (hk:(e.kind==4)=true) (ht:(Bu m e).1=t):iIn (IntKind.i64.wrap ((m.inns.length:Int) - 1)) (m.inns.length:Int)=true∧iIn (IntKind.i64.wrap ((m.inns.length:Int) - 1)) (t.inns.length:Int)=true:=by
 obtain ⟨_,h2,_,h4⟩:=Xu h hk;have:=W3 h2 (show m.inns.length≤1000000 by omega);rw [← ht,h4,List.length_set];exact ⟨this,this⟩
set_option maxHeartbeats 8000000 in
theorem SL {N:Nat} {r8:Bool} {r0:ByteArray} {r13:Rows} {L:Rows} (hN:2097152<N) (hs:r0.size≤1048576) (h13:r13.length≤1048576) (hL:L.length≤1048576):CY N [.str r0,.int r1,.int r2,.int r3,.int r4,.int r5,.int r6,.int r7,.bool r8,.int r9,.int r10,.int r11,.int r12,.rows r13,.rows L]=some (Wg (Bi (⟨r0,r1,r2,r3,r4,r5,r6,r7,r8,r9,r10,r11,r12,r13⟩:Rul) L) (BD (⟨r0,r1,r2,r3,r4,r5,r6,r7,r8,r9,r10,r11,r12,r13⟩:Rul) L)):=by
  show OL (std (Em N) N) (xOf _)=_;generalize hres:(some (Wg (Bi (⟨r0,r1,r2,r3,r4,r5,r6,r7,r8,r9,r10,r11,r12,r13⟩:Rul) L) (BD (⟨r0,r1,r2,r3,r4,r5,r6,r7,r8,r9,r10,r11,r12,r13⟩:Rul) L)):Option (List PV))=RR;simp only [OL,Xb,PS,KZ,lq9,std,xOf,PXb,qe hN hs h13];subst hres;simp only [Bi,BD];have nk:=jc (⟨r0,r1,r2,r3,r4,r5,r6,r7,r8,r9,r10,r11,r12,r13⟩:Rul);generalize AK (⟨r0,r1,r2,r3,r4,r5,r6,r7,r8,r9,r10,r11,r12,r13⟩:Rul)=X at nk;obtain ⟨⟨⟨m0,m1,m2,m3,m4,m5,m6,m7,m8,m9,m10,m11,m12,m13⟩,m14,m15,m16,m17,m18,m19,m20,m21,m22⟩,l⟩:=X;simp only at nk;simp only [PXb,PXc,PXk,Nat.reduceAdd];cases hl:l==0
  case false=>rfl
  have ok:=nk hl;simp only [PXb];refine AZ (kw (St:=Rows×Mat) (len:=L.length) (enc:=fun i s=>[.rows s.1,.int (i:Int),.str s.2.rules.name,.int s.2.rules.side,.int s.2.rules.innings,.int s.2.rules.overs,.int s.2.rules.balls,.int s.2.rules.quota,.int s.2.rules.wide,.int s.2.rules.noball,.bool s.2.rules.freehit,.int s.2.rules.newball,.int s.2.rules.followon,.int s.2.rules.reviews,.int s.2.rules.outside,.rows s.2.rules.power,.int s.2.stage,.int s.2.first,.bool s.2.follow,.rows (Ar s.2.inns),.int s.2.pen1,.int s.2.pen2,.int s.2.win,.int s.2.wside,.int s.2.margin])
    (body:=UU L) (fin:=fun s=>.int 1::.rows s.1::s.2.ls) (fun i s=>StepOk (⟨r0,r1,r2,r3,r4,r5,r6,r7,r8,r9,r10,r11,r12,r13⟩:Rul) s.2∧s.1.length≤i) ?_ ?_ L.length 0 ([],(⟨⟨m0,m1,m2,m3,m4,m5,m6,m7,m8,m9,m10,m11,m12,m13⟩,m14,m15,m16,m17,m18,m19,m20,m21,m22⟩:Mat)) N (by omega) (by omega) ⟨ok,Nat.zero_le _⟩) ?_
  · intro m self _;simp only [PXb,PXc,PXn,AG,A3];rfl
  · intro i s self hi ok;obtain ⟨out,⟨⟨a0,a1,a2,a3,a4,a5,a6,a7,a8,a9,a10,a11,a12,a13⟩,a14,a15,a16,a17,a18,a19,a20,a21,a22⟩⟩:=s;obtain ⟨ok,hout⟩:=ok;have o1:=ok.rules;have o2:=ok.fit;have o3:=ok.len;simp only at o1 o2 o3 hout;cases o1;have kp:=eU ok (i:Int) (evR L i);have acc:=Tu (m:=(⟨⟨r0,r1,r2,r3,r4,r5,r6,r7,r8,r9,r10,r11,r12,r13⟩,a14,a15,a16,a17,a18,a19,a20,a21,a22⟩:Mat)) (i:=(i:Int)) (e:=evR L i);refine ⟨?_,?_⟩
    · simp only [PXb,PXc,PXn,AG,BO (show i≤1099511627776 by omega),Ay hi,AN hi,PS,sW hN o2 (show a17.length≤1000000 by omega) hs h13,C9,jG,Nat.reduceAdd,PXk,PXc,ABm,List.length_append,List.length_cons,List.length_nil,KZ];unfold UU;simp only;generalize hT:A7 (i:Int) (⟨⟨r0,r1,r2,r3,r4,r5,r6,r7,r8,r9,r10,r11,r12,r13⟩,a14,a15,a16,a17,a18,a19,a20,a21,a22⟩:Mat) (evR L i)=T at acc;obtain ⟨⟨⟨b0,b1,b2,b3,b4,b5,b6,b7,b8,b9,b10,b11,b12,b13⟩,b14,b15,b16,b17,b18,b19,b20,b21,b22⟩,l2⟩:=T;simp only at acc;simp only;cases hl2:l2==0
      case false=>rfl
      have hk0:(evR L i).kind=atI L i 0:=rfl;rw [hk0];simp only [PXb];cases hk:atI L i 0==4
      case false=>rfl
      have ha:=(acc hl2).1;have hd:=AAW (m:=(⟨⟨r0,r1,r2,r3,r4,r5,r6,r7,r8,r9,r10,r11,r12,r13⟩,a14,a15,a16,a17,a18,a19,a20,a21,a22⟩:Mat)) (e:=evR L i) o3 (by rw [← ha];exact hl2) hk (congrArg Prod.fst ha).symm;simp only at hd;have h216:iSm ((out.length+1:Nat):Int) 216=true:=Gu (by omega) (by omega);simp only [PXb,PXc,iI hd.1 hd.2,h216];rfl
    · intro s' h;unfold UU at h;simp only at h;cases hq:(A7 (i:Int) (⟨⟨r0,r1,r2,r3,r4,r5,r6,r7,r8,r9,r10,r11,r12,r13⟩,a14,a15,a16,a17,a18,a19,a20,a21,a22⟩:Mat) (evR L i)).2==0 with
      | false=>rw [hq] at h;cases h
      | true =>
        rw [hq] at h;cases h;refine ⟨kp,?_⟩;cases (evR L i).kind==4 with
        | false=>show out.length≤_;omega
        | true=>show (out++[_]).length≤_;rw [List.length_append];simp;omega
  · rw [kd];have he:=oQ L L.length 0 (⟨⟨m0,m1,m2,m3,m4,m5,m6,m7,m8,m9,m10,m11,m12,m13⟩,m14,m15,m16,m17,m18,m19,m20,m21,m22⟩:Mat);simp only;generalize Ls L L.length 0 (⟨⟨m0,m1,m2,m3,m4,m5,m6,m7,m8,m9,m10,m11,m12,m13⟩,m14,m15,m16,m17,m18,m19,m20,m21,m22⟩:Mat) []=out;generalize Ew L L.length 0 (⟨⟨m0,m1,m2,m3,m4,m5,m6,m7,m8,m9,m10,m11,m12,m13⟩,m14,m15,m16,m17,m18,m19,m20,m21,m22⟩:Mat)=f at he;obtain ⟨⟨⟨a0,a1,a2,a3,a4,a5,a6,a7,a8,a9,a10,a11,a12,a13⟩,a14,a15,a16,a17,a18,a19,a20,a21,a22⟩,b,l⟩:=f;simp only at he;unfold tY;cases hb:b == -1 with
    | false=>rfl
    | true =>
      rw [he hb,beq_iff_eq.1 hb];rfl
theorem UW {N:Nat} {r8:Bool} {r0:ByteArray} {r13:Rows} {L:Rows} (hN:2097152<N) (hs:r0.size≤1048576) (h13:r13.length≤1048576) (hL:L.length≤1048576):DU N [.str r0,.int r1,.int r2,.int r3,.int r4,.int r5,.int r6,.int r7,.bool r8,.int r9,.int r10,.int r11,.int r12,.rows r13,.rows L]=some (f7 (BD (⟨r0,r1,r2,r3,r4,r5,r6,r7,r8,r9,r10,r11,r12,r13⟩:Rul) L)):=by
 show Kr (std (Fl N) N) (xOf _)=_;generalize hres:(some (f7 (BD (⟨r0,r1,r2,r3,r4,r5,r6,r7,r8,r9,r10,r11,r12,r13⟩:Rul) L)):Option (List PV))=RR;simp only [Kr,Wk,lq9,std,xOf,PXb,SL hN hs h13 hL];subst hres;rfl
def Ak (r:Rul) (L:Rows):Int:=cond (!(BJ r==0)) (BJ r) (cond (iLt 4000 (L.length:Int)) 9 (cond (!((BD r L).2.2==0)) 10 0))
theorem QY {N:Nat} {r8:Bool} {r0:ByteArray} {r13:Rows} {L:Rows} (hN:2097152<N) (hs:r0.size≤1048576) (h13:r13.length≤1048576) (hL:L.length≤1048576):Cm N [.str r0,.int r1,.int r2,.int r3,.int r4,.int r5,.int r6,.int r7,.bool r8,.int r9,.int r10,.int r11,.int r12,.rows r13,.rows L]=some [.int (Ak (⟨r0,r1,r2,r3,r4,r5,r6,r7,r8,r9,r10,r11,r12,r13⟩:Rul) L)]:=by
 show MN (std (E4 N) N) (xOf _)=_;generalize hres:(some [.int (Ak (⟨r0,r1,r2,r3,r4,r5,r6,r7,r8,r9,r10,r11,r12,r13⟩:Rul) L)]:Option (List PV))=RR;simp only [MN,WG,Ug,lq9,std,xOf,PXb,D4 hN hs,UW hN hs h13 hL,PXm];subst hres;simp only [Ak];rfl
structure LogOk (m:Mat):Prop where
 fit:ME m.inns
 len:m.inns.length≤5
 name:m.rules.name.size≤1048576
 power:m.rules.power.length≤1048576
theorem xW:LogOk mS:=⟨fun i hi=>absurd hi (Nat.not_lt_zero i),Nat.zero_le _,Nat.zero_le _,Nat.zero_le _⟩
theorem rq {r:Rul} (L:Rows):∀ k i m,StepOk r m→StepOk r (Ew L k i m).1
 | 0,_,_,h=>h
 | k+1,i,m,h=>by
  unfold Ew;cases (A7 i m (evR L i)).2==0 with
  | false=>exact h
  | true=>exact rq L k (i+1) _ (eU h _ _)
theorem vK {r:Rul} (L:Rows) (hs:r.name.size≤1048576) (hp:r.power.length≤1048576):LogOk (BD r L).1:=by
 unfold BD;cases h:(AK r).2==0 with
 | false=>exact xW
 | true =>
  have:=rq L L.length 0 _ (jc r h);exact ⟨this.fit,this.len,by show (Ew _ _ _ _).1.rules.name.size≤_;rw [this.rules];exact hs,by show (Ew _ _ _ _).1.rules.power.length≤_;rw [this.rules];exact hp⟩
def acc (L:Rows):Nat→Nat→Mat→Prop
 | 0,_,_=>True
 | k+1,i,m=>((A7 i m (evR L i)).2==0)=true∧acc L k (i+1) (A7 i m (evR L i)).1
def stM (L:Rows):Nat→Nat→Mat→Mat
 | 0,_,m=>m
 | k+1,i,m=>stM L k (i+1) (A7 i m (evR L i)).1
def M0 (L:Rows):Nat→Nat→Mat→Rows→Rows
 | 0,_,_,out=>out
 | k+1,i,m,out=>M0 L k (i+1) (A7 i m (evR L i)).1 (cond ((evR L i).kind==4) (out++[Bh i m (A7 i m (evR L i)).1 (evR L i).ball]) out)
theorem P9 (L : Rows) : ∀ K i m, ∃ k, k ≤ K ∧ acc L k i m ∧ (∀ out, Ls L K i m out = M0 L k i m out) ∧
    ((k=K∧Ew L K i m=(stM L k i m,-1,0))∨(k<K∧((A7 ((i+k:Nat):Int) (stM L k i m) (evR L (i+k))).2==0)=false∧Ew L K i m=(stM L k i m,((i+k:Nat):Int),(A7 ((i+k:Nat):Int) (stM L k i m) (evR L (i+k))).2)))
  | 0,i,m=>⟨0,Nat.le_refl _,trivial,fun _=>rfl,Or.inl ⟨rfl,rfl⟩⟩
  | K+1,i,m=>by
    cases hq:(A7 i m (evR L i)).2==0 with
    | false =>
      refine ⟨0,Nat.zero_le _,trivial,fun out=>?_,Or.inr ⟨Nat.succ_pos _,hq,?_⟩⟩
      · simp only [Ls,hq,Bool.not_false,cond_true];rfl
      · simp only [Ew,hq,Bool.not_false,cond_true];rfl
    | true =>
      obtain ⟨k,h1,h2,h3,h4⟩:=P9 L K (i+1) (A7 i m (evR L i)).1;refine ⟨k+1,Nat.succ_le_succ h1,⟨hq,h2⟩,fun out=>?_,?_⟩
      · simp only [Ls,hq,Bool.not_true,cond_false];exact h3 _
      · have e:Ew L (K+1) i m=Ew L K (i+1) (A7 i m (evR L i)).1:=by simp only [Ew,hq,Bool.not_true,cond_false]
        rw [e,show i+(k+1)=i+1+k by omega]
        rcases h4 with ⟨h5,h6⟩ | ⟨h5,h6⟩
        · exact Or.inl ⟨by omega,h6⟩
        · exact Or.inr ⟨by omega,h6⟩
theorem dq (r:Rul):((AK r).2==0)=(BJ r==0):=by
 unfold AK;cases h:BJ r==0 with
 | false=>exact h
 | true=>rfl
theorem ta {r:Rul} (L:Rows) (h:(BJ r==0)=false):BD r L=(mS,0,1):=by
 unfold BD;rw [dq,h];rfl
theorem UQ {L:Rows}:∀ k i m,stM L (k+1) i m=(A7 ((i+k:Nat):Int) (stM L k i m) (evR L (i+k))).1
 | 0,i,m=>rfl
 | k+1,i,m=>by
  show stM L (k+1) (i+1) _=_;rw [UQ k (i+1),show i+1+k=i+(k+1) by omega];rfl
end Go.Px
end
