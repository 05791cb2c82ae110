/- Part 12. -/
import Derived.Test.YtejjoflbpnjohaaGreatDoorPart11
import Derived.Test.YtejjoflbpnjohaaGreatDoorPart10
set_option linter.unusedVariables false
set_option linter.unusedSimpArgs false
variable {r1 r2 r3 r4 r5 r6 r7 r9 r10 r11 r12:Int}
variable {m1 m2 m3 m4 m5 m6 m7 m9 m10 m11 m12 m14 m15 m18 m19 m20 m21 m22:Int}
section
namespace Go.Px
set_option maxRecDepth 100000
structure Small (s:Inn):Prop where
 target:s.target≤999999900
 runs:s.runs≤999999900
 wides:s.wides≤999999900
 noballs:s.noballs≤999999900
 byes:s.byes≤999999900
 legbyes:s.legbyes≤999999900
 pens:s.pens≤999999900
 complete:s.complete≤999999900
 ballage:s.ballage≤999999900
 rev1:s.rev1≤999999900
 rev2:s.rev2≤999999900
 bowled:∀ j,j<s.bowled.length→atI s.bowled j 0≤999999900
def CQ (n:Int):Int:=IntKind.i64.wrap (3 - n)
theorem H6 {N:Nat} {n:Int}  : BN N [.int n]=some [.int (CQ n)]:=by
 show LQ (std (Sk N) N) (xOf _)=_;simp only [LQ,lq9,std,xOf,PXb,PXc,PXn,PXm,Nat.reduceAdd,Int.reduceBEq,CQ]
def C0 (m:Mat) (i:Int):Int:=cond (cond (m.follow&&iLe 2 i) (i==2) (i.tmod 2==1)) (CQ m.first) m.first
theorem Ps {N:Nat} {m8 m16:Bool} {m0:ByteArray} {m13:Rows} {m17:List Inn} {i:Int}  : DA N [.str m0,.int m1,.int m2,.int m3,.int m4,.int m5,.int m6,.int m7,.bool m8,.int m9,.int m10,.int m11,.int m12,.rows m13,.int m14,.int m15,.bool m16,.rows (Ai m17),.int m18,.int m19,.int m20,.int m21,.int m22,.int i]=some [.int (C0 (⟨⟨m0,m1,m2,m3,m4,m5,m6,m7,m8,m9,m10,m11,m12,m13⟩,m14,m15,m16,m17,m18,m19,m20,m21,m22⟩:Mat) i)]:=by
 show LV (std (ND N) N) (xOf _)=_;generalize hres:(some [.int (C0 (⟨⟨m0,m1,m2,m3,m4,m5,m6,m7,m8,m9,m10,m11,m12,m13⟩,m14,m15,m16,m17,m18,m19,m20,m21,m22⟩:Mat) i)]:Option (List PV))=RR;simp only [LV,Qp,lq9,std,xOf,PXb,PXc,PXn,PXm,Nat.reduceAdd,Int.reduceBEq,H6];subst hres;simp only [C0]
def Pc (xs:List Inn) (side:Int):Nat→Int
 | 0=>0
 | i+1=>cond ((inn xs i).side==side) (IntKind.i64.wrap (Pc xs side i+(inn xs i).runs)) (Pc xs side i)
def CC (m:Mat) (side:Int):Int:=Pc m.inns side m.inns.length
theorem Pf {N:Nat} {m8 m16:Bool} {m0:ByteArray} {m13:Rows} {m17:List Inn} {n:Int} (hN:2097152<N) (hl:m17.length≤1048576):Bw N [.str m0,.int m1,.int m2,.int m3,.int m4,.int m5,.int m6,.int m7,.bool m8,.int m9,.int m10,.int m11,.int m12,.rows m13,.int m14,.int m15,.bool m16,.rows (Ai m17),.int m18,.int m19,.int m20,.int m21,.int m22,.int n]=some [.int (CC (⟨⟨m0,m1,m2,m3,m4,m5,m6,m7,m8,m9,m10,m11,m12,m13⟩,m14,m15,m16,m17,m18,m19,m20,m21,m22⟩:Mat) n)]:=by
 show LP (std (TD N) N) (xOf _)=_;generalize hres:(some [.int (CC (⟨⟨m0,m1,m2,m3,m4,m5,m6,m7,m8,m9,m10,m11,m12,m13⟩,m14,m15,m16,m17,m18,m19,m20,m21,m22⟩:Mat) n)]:Option (List PV))=RR;simp only [LP,lq9,std,xOf,PXb,PXi];subst hres;simp only [CC];refine AU (ED (len:=m17.length) (fun i=>[.int (Pc m17 n i),.int (i:Int)]) [.int (Pc m17 n m17.length)] ?_ ?_ N (by omega)) rfl
 ·intro self;simp only [PXb,PXc,PXn,AG,A2]
 ·intro i self hi;simp only [PXb,PXc,AG,Ax (show i≤1099511627776 by omega),Av hi,AN hi,PXi,Pc];cases (inn m17 i).side==n<;>rfl
def G3 (m:Mat) (side:Int):Int :=
 cond (iLt (IntKind.i64.wrap ((m.inns.length:Int)+1)) (IntKind.i64.wrap (2 * m.rules.innings))) 0 (IntKind.i64.wrap (IntKind.i64.wrap (CC m (CQ side) - CC m side)+1))
theorem T8 {N:Nat} {m8 m16:Bool} {m0:ByteArray} {m13:Rows} {m17:List Inn} {n:Int} (hN:2097152<N) (hl:m17.length≤1048576):G9 N [.str m0,.int m1,.int m2,.int m3,.int m4,.int m5,.int m6,.int m7,.bool m8,.int m9,.int m10,.int m11,.int m12,.rows m13,.int m14,.int m15,.bool m16,.rows (Ai m17),.int m18,.int m19,.int m20,.int m21,.int m22,.int n]=some [.int (G3 (⟨⟨m0,m1,m2,m3,m4,m5,m6,m7,m8,m9,m10,m11,m12,m13⟩,m14,m15,m16,m17,m18,m19,m20,m21,m22⟩:Mat) n)]:=by
 show KB (std (Hc N) N) (xOf _)=_;generalize hres:(some [.int (G3 (⟨⟨m0,m1,m2,m3,m4,m5,m6,m7,m8,m9,m10,m11,m12,m13⟩,m14,m15,m16,m17,m18,m19,m20,m21,m22⟩:Mat) n)]:Option (List PV))=RR;simp only [KB,Po,Pn,lq9,std,xOf,PXb,PXc,PXn,PXm,Nat.reduceAdd,Int.reduceBEq,PXi,H6,Pf hN hl];subst hres;simp only [G3]
def dH (stage:Int) (xs:List Inn) (i:Nat):Bool := !(((inn xs i).ending==0)==(stage==3&&((i:Int)==IntKind.i64.wrap ((xs.length:Int) - 1))))
def Wc (m:Mat):Bool := !BI (dH m.stage m.inns) m.inns.length 0&&(!(m.stage==3)||iLt 0 (m.inns.length:Int))
theorem fp {N:Nat} {m8 m16:Bool} {m0:ByteArray} {m13:Rows} {m17:List Inn} (hN:2097152<N) (hl:m17.length≤1048576):IA N [.str m0,.int m1,.int m2,.int m3,.int m4,.int m5,.int m6,.int m7,.bool m8,.int m9,.int m10,.int m11,.int m12,.rows m13,.int m14,.int m15,.bool m16,.rows (Ai m17),.int m18,.int m19,.int m20,.int m21,.int m22]=some [.bool (Wc (⟨⟨m0,m1,m2,m3,m4,m5,m6,m7,m8,m9,m10,m11,m12,m13⟩,m14,m15,m16,m17,m18,m19,m20,m21,m22⟩:Mat))]:=by
 show LS (std (Sh N) N) (xOf _)=_;generalize hres:(some [.bool (Wc (⟨⟨m0,m1,m2,m3,m4,m5,m6,m7,m8,m9,m10,m11,m12,m13⟩,m14,m15,m16,m17,m18,m19,m20,m21,m22⟩:Mat))]:Option (List PV))=RR;simp only [LS,lq9,std,xOf,PXb,PXi];subst hres;simp only [Wc];refine AU (JR (len:=m17.length) (dH m14 m17) [.bool false] ?_ ?_ N (by omega)) ?_
 ·intro self;simp only [PXb,PXc,PXn,AG,A2]
 ·intro i self hi;simp only [PXb,PXc,AG,Ax (show i≤1099511627776 by omega),Av hi,AN hi,PXi,dH]
 ·cases BI (dH m14 m17) m17.length 0 with
  | true=>rfl
  | false=>simp only [PXb,PXc,PXn,PXm,Nat.reduceAdd,Int.reduceBEq]
def KN (xs:List Inn):Prop:=∀ i,i<xs.length→(inn xs i).Fit
theorem Vi {N:Nat} {r8:Bool} {r0:ByteArray} {r13:Rows} (hl:r13.length≤1048576):C8 N [.str r0,.int r1,.int r2,.int r3,.int r4,.int r5,.int r6,.int r7,.bool r8,.int r9,.int r10,.int r11,.int r12,.rows r13]=some [.str r0,.int r1,.int r2,.int r3,.int r4,.int r5,.int r6,.int r7,.bool r8,.int r9,.int r10,.int r11,.int r12,.rows r13]:=by
 show LM (std (NK N) N) (xOf _)=_;simp only [LM,Lo,lq9,std,xOf,PXb,PXc,PXn,PXm,Nat.reduceAdd,Int.reduceBEq,Cy,Bf hl (show 24≤4096 by omega)]
theorem f8 {xs:List Inn} {i:Nat} (h:i<xs.length):xs.take i++[inn xs i]=xs.take (i+1):=by
 rw [List.take_add_one,Me,zzn h];rfl
theorem gA {N:Nat} {m8 m16:Bool} {m0:ByteArray} {m13:Rows} {m17:List Inn} (hf:KN m17) (hN:2097152<N) (hl:m17.length≤1000000) (h13:m13.length≤1048576):H2 N [.str m0,.int m1,.int m2,.int m3,.int m4,.int m5,.int m6,.int m7,.bool m8,.int m9,.int m10,.int m11,.int m12,.rows m13,.int m14,.int m15,.bool m16,.rows (Ai m17),.int m18,.int m19,.int m20,.int m21,.int m22]=some [.str m0,.int m1,.int m2,.int m3,.int m4,.int m5,.int m6,.int m7,.bool m8,.int m9,.int m10,.int m11,.int m12,.rows m13,.int m14,.int m15,.bool m16,.rows (Ai m17),.int m18,.int m19,.int m20,.int m21,.int m22]:=by
 show K4 (std (Iq N) N) (xOf _)=_;simp only [K4,Qk,HP,lq9,std,xOf,PXb,Vi h13,PXi];refine AU (ED (len:=m17.length) (fun i=>[.rows (Ai (m17.take i)),.int (i:Int)]) [.rows (Ai m17)] ?_ ?_ N (by omega)) rfl
 ·intro self;simp only [PXb,PXc,PXn,AG,A2,List.take_length]
 ·intro i self hi;have h2:(m17.take (i+1)).length≤1048576:=by rw [List.length_take];omega
  have h3:iSm ((m17.take (i+1)).length:Int) 304=true:=DV (by omega) (by omega);simp only [PXb,PXc,AG,Ax (show i≤1099511627776 by omega),Av hi,AN hi,PXi,HP,B9 (hf i hi),PXr,Inn.eta,h3,f8 hi,Nat.reduceAdd];rfl
def vX:Rul:=⟨⟨#[]⟩,0,0,0,0,0,0,0,false,0,0,0,0,[]⟩
def sH:Mat:=⟨vX,0,0,false,[],0,0,0,0,0⟩
def Ab (r:Rul):Mat×Int:=cond (!(BK r==0)) (sH,BK r) (⟨r,1,0,false,[],0,0,0,0,0⟩,0)
theorem lR {N:Nat} {r8:Bool} {r0:ByteArray} {r13:Rows} (hN:2097152<N) (hs:r0.size≤1048576) (h13:r13.length≤1048576):Oj N [.str r0,.int r1,.int r2,.int r3,.int r4,.int r5,.int r6,.int r7,.bool r8,.int r9,.int r10,.int r11,.int r12,.rows r13]=some (Ul (Ab (⟨r0,r1,r2,r3,r4,r5,r6,r7,r8,r9,r10,r11,r12,r13⟩:Rul))):=by
 show Of (std (LN N) N) (xOf _)=_;generalize hres:(some (Ul (Ab (⟨r0,r1,r2,r3,r4,r5,r6,r7,r8,r9,r10,r11,r12,r13⟩:Rul))):Option (List PV))=RR;simp only [Of,SF,SI,lq9,std,xOf,PXb,PXc,PXn,PXm,Nat.reduceAdd,Int.reduceBEq,C9 hN hs,Vi h13];subst hres;simp only [Ab];cases BK (⟨r0,r1,r2,r3,r4,r5,r6,r7,r8,r9,r10,r11,r12,r13⟩:Rul)==0<;>rfl
def cw (m:Mat):Bool:=(iLt m.pen1 0||iLt 1000000 m.pen1)||(iLt m.pen2 0||iLt 1000000 m.pen2)
def Xe (m:Mat) (i:Nat):Bool := !Gr m.rules (inn m.inns i) || !((inn m.inns i).side==C0 m (i:Int))
def gS (m:Mat):Bool :=
  let n:Int:=m.inns.length
  let most:=IntKind.i64.wrap (2 * m.rules.innings)
  BK m.rules==0&&(!(iLt m.stage 1)&&(!(iLt 5 m.stage)&&(!cw m&&(!(iLt m.first 0||iLt 2 m.first||iLt most n)&&(!(m.first==0&&(iLt 0 n||(!(m.stage==1) && !(m.stage==5)))) &&
    (!(m.stage==1 && !(m.first==0))&&(!(m.stage==2&&n==most)&&(!(m.stage==4&&(!(m.rules.innings==2) || !(n==2))) && !(m.follow&&(!(m.rules.innings==2)||iLt n 2))))))))))
def GB (m:Mat):Bool:=gS m&&(!BI (Xe m) m.inns.length 0&&Wc m)
set_option maxHeartbeats 4000000 in
theorem Vg {N:Nat} {m8 m16:Bool} {m0:ByteArray} {m13:Rows} {m17:List Inn} (hf:KN m17) (hN:2097152<N) (hl:m17.length≤1000000) (hs:m0.size≤1048576):DC N [.str m0,.int m1,.int m2,.int m3,.int m4,.int m5,.int m6,.int m7,.bool m8,.int m9,.int m10,.int m11,.int m12,.rows m13,.int m14,.int m15,.bool m16,.rows (Ai m17),.int m18,.int m19,.int m20,.int m21,.int m22]=some [.bool (GB (⟨⟨m0,m1,m2,m3,m4,m5,m6,m7,m8,m9,m10,m11,m12,m13⟩,m14,m15,m16,m17,m18,m19,m20,m21,m22⟩:Mat))]:=by
 show K7 (std (D7 N) N) (xOf _)=_;generalize hres:(some [.bool (GB (⟨⟨m0,m1,m2,m3,m4,m5,m6,m7,m8,m9,m10,m11,m12,m13⟩,m14,m15,m16,m17,m18,m19,m20,m21,m22⟩:Mat))]:Option (List PV))=RR;simp only [K7,QM,HH,Ip,Ih,lq9,std,xOf,PXb,C9 hN hs,PXi];subst hres;simp only [GB,gS];cases hc:BK (⟨⟨m0,m1,m2,m3,m4,m5,m6,m7,m8,m9,m10,m11,m12,m13⟩,m14,m15,m16,m17,m18,m19,m20,m21,m22⟩:Mat).rules==0<;>(try rfl);cases h1:iLt m14 1<;>(try rfl);cases h5:iLt 5 m14<;>(try rfl);simp only [PXb];refine AU (JR (len:=2) (fun i=>iLt (cond ((i:Int)==1) m19 m18) 0||iLt 1000000 (cond ((i:Int)==1) m19 m18)) [.bool false] ?_ ?_ N (by omega)) ?_
 ·intro self;rfl
 ·intro i self hi;simp only [PXb,Ax (show i≤1099511627776 by omega),show iLt (i:Int) 2=true from Av (len:=2) hi,show iIn (i:Int) 2=true from AN (len:=2) hi]
 ·have hp:BI (fun i=>iLt (cond ((i:Int)==1) m19 m18) 0||iLt 1000000 (cond ((i:Int)==1) m19 m18)) 2 0=cw (⟨⟨m0,m1,m2,m3,m4,m5,m6,m7,m8,m9,m10,m11,m12,m13⟩,m14,m15,m16,m17,m18,m19,m20,m21,m22⟩:Mat):=by
   simp only [Bq,HJ,Bool.or_false];rfl
  rw [hp];cases cw (⟨⟨m0,m1,m2,m3,m4,m5,m6,m7,m8,m9,m10,m11,m12,m13⟩,m14,m15,m16,m17,m18,m19,m20,m21,m22⟩:Mat)
  case true=>rfl
  simp only [PXb,Ks,Int.reduceBEq];cases iLt m15 0<;>try rfl
  cases iLt 2 m15<;>try rfl
  cases iLt (IntKind.i64.wrap (2 * m2)) (m17.length:Int)<;>try rfl
  cases (m15==0&&(iLt 0 (m17.length:Int)||(!(m14==1) && !(m14==5))))<;>try rfl
  cases (m14==1 && !(m15==0))<;>try rfl
  cases (m14==2&&(m17.length:Int)==IntKind.i64.wrap (2 * m2))<;>try rfl
  cases (m14==4&&(!(m2==2) || !((m17.length:Int)==2)))<;>try rfl
  cases (m16&&(!(m2==2)||iLt (m17.length:Int) 2))<;>try rfl
  simp only [PXb];refine AU (JR (len:=m17.length) (Xe (⟨⟨m0,m1,m2,m3,m4,m5,m6,m7,m8,m9,m10,m11,m12,m13⟩,m14,m15,m16,m17,m18,m19,m20,m21,m22⟩:Mat)) [.bool false] ?_ ?_ N (by omega)) ?_
  ·intro self;simp only [PXb,PXc,PXn,AG,A2]
  ·intro i self hi;simp only [PXb,PXc,PXn,PXm,Nat.reduceAdd,Int.reduceBEq,Ax (show i≤1099511627776 by omega),Av hi,AN hi,PXi,HH,Ip,SO (hf i hi) hN hs,Ps,Xe];cases Gr (⟨⟨m0,m1,m2,m3,m4,m5,m6,m7,m8,m9,m10,m11,m12,m13⟩,m14,m15,m16,m17,m18,m19,m20,m21,m22⟩:Mat).rules (inn m17 i)<;>first | rfl | simp only [PXb,PXc,PXn,PXm,Nat.reduceAdd,Int.reduceBEq]
  ·cases BI (Xe (⟨⟨m0,m1,m2,m3,m4,m5,m6,m7,m8,m9,m10,m11,m12,m13⟩,m14,m15,m16,m17,m18,m19,m20,m21,m22⟩:Mat)) m17.length 0
   case true=>rfl
   simp only [PXb,PXc,PXn,PXm,Nat.reduceAdd,Int.reduceBEq,Ih,fp hN (show m17.length≤1048576 by omega)]
def lnx (xs:List Inn):Nat:=(IntKind.i64.wrap ((xs.length:Int) - 1)).toNat
def AY (m:Mat):Inn:=inn m.inns (lnx m.inns)
theorem UU {n:Nat} (h:((n:Int)==0)=false) (hl:n≤1000000):iIn (IntKind.i64.wrap ((n:Int) - 1)) (n:Int)=true:=by
 rw [beq_eq_false_iff_ne] at h;rw [CO (by omega) (by omega)];simp only [iIn,decide_eq_true_eq];omega
theorem Xq {xs:List Inn} (h:((xs.length:Int)==0)=false) (hl:xs.length≤1000000):lnx xs<xs.length:=by
 rw [beq_eq_false_iff_ne] at h;unfold lnx;rw [CO (by omega) (by omega)];omega
def cp (r:Rul):Int:=cond (r.overs==0) 5 6
theorem Jd {N:Nat} {r8:Bool} {r0:ByteArray} {r13:Rows}  : Bo N [.str r0,.int r1,.int r2,.int r3,.int r4,.int r5,.int r6,.int r7,.bool r8,.int r9,.int r10,.int r11,.int r12,.rows r13]=some [.int (cp (⟨r0,r1,r2,r3,r4,r5,r6,r7,r8,r9,r10,r11,r12,r13⟩:Rul))]:=by
 show Fr (std (MN N) N) (xOf _)=_;simp only [Fr,lq9,std,xOf,PXb,PXc,PXn,PXm,Nat.reduceAdd,Int.reduceBEq,cp]
def sK (x:Int×Int×Int):List PV:=[.int x.1,.int x.2.1,.int x.2.2]
def Uj (m:Mat):Int×Int×Int :=
  let n:Int:=m.inns.length
  let most:=IntKind.i64.wrap (2 * m.rules.innings)
  let x:=AY m
  cond (!GB m||n==0) (0,0,0) (cond (x.ending==5) (cp m.rules,0,0) (cond (x.ending==0) (0,0,0)
    (cond (n==most&&iLe x.target x.runs) (2,x.side,IntKind.i64.wrap (IntKind.i64.wrap (m.rules.side - 1) - x.wickets)) (cond (n==most&&x.runs==IntKind.i64.wrap (x.target - 1)) (4,0,0)
      (cond (n==most) (1,CQ x.side,IntKind.i64.wrap (IntKind.i64.wrap (x.target - 1) - x.runs))
        (cond (n==3&&iLt (CC m x.side) (CC m (CQ x.side))) (3,CQ x.side,IntKind.i64.wrap (CC m (CQ x.side) - CC m x.side)) (0,0,0)))))))
set_option maxHeartbeats 4000000 in
theorem cL {N:Nat} {m8 m16:Bool} {m0:ByteArray} {m13:Rows} {m17:List Inn} (hf:KN m17) (hN:2097152<N) (hl:m17.length≤1000000) (hs:m0.size≤1048576):Fl N [.str m0,.int m1,.int m2,.int m3,.int m4,.int m5,.int m6,.int m7,.bool m8,.int m9,.int m10,.int m11,.int m12,.rows m13,.int m14,.int m15,.bool m16,.rows (Ai m17),.int m18,.int m19,.int m20,.int m21,.int m22]=some (sK (Uj (⟨⟨m0,m1,m2,m3,m4,m5,m6,m7,m8,m9,m10,m11,m12,m13⟩,m14,m15,m16,m17,m18,m19,m20,m21,m22⟩:Mat))):=by
 show Il (std (C7 N) N) (xOf _)=_;generalize hres:(some (sK (Uj (⟨⟨m0,m1,m2,m3,m4,m5,m6,m7,m8,m9,m10,m11,m12,m13⟩,m14,m15,m16,m17,m18,m19,m20,m21,m22⟩:Mat))):Option (List PV))=RR;simp only [Il,PP,PD,PA,Lu,lq9,std,xOf,PXb,PXi,Vg hf hN hl hs,H6,Jd,Pf hN (show m17.length≤1048576 by omega)];subst hres;simp only [Uj,AY,lnx];cases hv:GB (⟨⟨m0,m1,m2,m3,m4,m5,m6,m7,m8,m9,m10,m11,m12,m13⟩,m14,m15,m16,m17,m18,m19,m20,m21,m22⟩:Mat)
 case false=>rfl
 cases h0:(m17.length:Int)==0
 case true=>rfl
 simp only [PXb,UU h0 hl];generalize inn m17 (IntKind.i64.wrap ((m17.length:Int) - 1)).toNat=x;cases x.ending==5
 case true=>rfl
 cases x.ending==0
 case true=>rfl
 cases (m17.length:Int)==IntKind.i64.wrap (2 * m2)<;>cases iLe x.target x.runs<;>cases x.runs==IntKind.i64.wrap (x.target - 1)<;>try rfl
 all_goals (cases (m17.length:Int)==3<;>try rfl)
 all_goals (simp only [PXb];cases iLt (CC (⟨⟨m0,m1,m2,m3,m4,m5,m6,m7,m8,m9,m10,m11,m12,m13⟩,m14,m15,m16,m17,m18,m19,m20,m21,m22⟩:Mat) x.side) (CC (⟨⟨m0,m1,m2,m3,m4,m5,m6,m7,m8,m9,m10,m11,m12,m13⟩,m14,m15,m16,m17,m18,m19,m20,m21,m22⟩:Mat) (CQ x.side))<;>rfl)
theorem jL:∀ (n k:Nat) (f:Nat→Nat),(∀ i,i<k→1≤f i∧f i≤n)→(∀ i j,i<j→j<k→f i≠f j)→k≤n
 | 0,k,f,h,_=>by
  rcases Nat.eq_zero_or_pos k with e | e
  ·omega
  ·have:=h 0 e;omega
 | n+1,0,f,_,_=>by omega
 | n+1,k+1,f,h,hi=>by
  by_cases he:∃ j,j<k+1∧f j=n+1
  ·obtain ⟨j,hj,hfj⟩:=he;have:=jL n k (fun i=>if i=j then f k else f i) (fun i hik=>by
    show 1≤(if i=j then f k else f i)∧(if i=j then f k else f i)≤n
    by_cases e:i=j
    ·rw [if_pos e];have h1:=h k (by omega);have:f k≠f j:=fun e2=>hi j k (by omega) (by omega) e2.symm
     omega
    ·rw [if_neg e];have h1:=h i (by omega);have:f i≠f j:=by
      rcases Nat.lt_or_gt_of_ne e with e2 | e2
      ·exact hi i j e2 hj
      ·exact fun e3=>hi j i e2 (by omega) e3.symm
     omega) (fun a b hab hb=>by
    show (if a=j then f k else f a)≠(if b=j then f k else f b)
    by_cases e1:a=j
    ·have e2:b≠j:=by omega
     rw [if_pos e1,if_neg e2];exact fun e3=>hi b k hb (by omega) e3.symm
    ·rw [if_neg e1]
     by_cases e2:b=j
     ·rw [if_pos e2];exact hi a k (by omega) (by omega)
     ·rw [if_neg e2];exact hi a b hab (by omega))
   omega
  ·have:=jL n (k+1) f (fun i hik=>by
    have h1:=h i hik;have:f i≠n+1:=fun e=>he ⟨i,hik,e⟩
    omega) hi
   omega
theorem jc {L:Rows} {n:Int} (h:Ko L n=true) (hn:0≤n):(L.length:Int)≤n:=by
 unfold Ko at h;rw [Bool.not_eq_true',Jq] at h;have hb:∀ i,i<L.length→1≤atI L i 0∧atI L i 0≤n:=fun i hi=>by
  have:=h i (by omega) (by omega);unfold Qr at this;rw [Bool.or_eq_false_iff,Bool.not_eq_false',T4] at this;exact this.1
 have:=jL n.toNat L.length (fun i=>(atI L i 0).toNat) (fun i hi=>by have:=hb i hi;show 1≤(atI L i 0).toNat∧(atI L i 0).toNat≤n.toNat;omega) (fun i j hij hj=>by
  show (atI L i 0).toNat≠(atI L j 0).toNat;have h1:=hb i (by omega);have h2:=hb j hj;have h3:=h j (by omega) (by omega);unfold Qr at h3;rw [Bool.or_eq_false_iff] at h3;have h4:=Jq.1 h3.2 i (by omega) (by omega);rw [beq_eq_false_iff_ne] at h4;omega)
 omega
theorem QJ {r:Rul} {s:Inn} (h:Gr r s=true):s.bowlers.length≤11∧s.before.length≤11∧s.Fit:=by
 have ok:=Jn.1 h;have hs:=tG ok;have h1:=jc ok.dw (by omega);have h2:=jc ok.df (by omega);have h3:=ok.lb;have h4:=ok.ld;have h5:=ok.lz;exact ⟨by omega,by omega,by omega,by omega,by omega,by omega,by omega⟩
def VM (m:Mat) (e:Ev):Mat×Int :=
  let sd:=C0 m (m.inns.length:Int)
  let b:=CZ m.rules sd (G3 m sd) (cond (sd==2) m.pen2 m.pen1)
  let t:=Ap m.rules b.1 e
  cond (!(b.2==0)) (m,1) (cond (!(t.2==0)) (m,t.2)
    ({ m with stage:=3,inns:=m.inns++[t.1],pen1:=cond (sd==1) 0 m.pen1,pen2:=cond (sd==2) 0 m.pen2 },0))
def M1 (xs:List Inn) (sd:Int):Nat→Option Nat
 | 0=>none
 | k+1=>cond ((inn xs k).side==sd) (some k) (M1 xs sd k)
def IE (m:Mat) (sd:Int):Mat:=match M1 m.inns sd m.inns.length with
 | some k=>{ m with inns:=m.inns.set k (Pk (inn m.inns k)) }
 | none=>{ m with pen1:=cond (sd==1) (IntKind.i64.wrap (m.pen1+5)) m.pen1,pen2:=cond (sd==2) (IntKind.i64.wrap (m.pen2+5)) m.pen2 }
def D4 (m:Mat) (e:Ev):Mat×Int :=
 let t:=Ap m.rules (AY m) e
 cond (!(t.2==0)) (m,t.2) (cond (e.kind==13 && !(e.side==t.1.side)) (IE { m with inns:=m.inns.set (lnx m.inns) t.1 } e.side) { m with inns:=m.inns.set (lnx m.inns) t.1 },0)
def aX (m:Mat):Mat:={ m with inns:=cond (m.stage==3) (m.inns.set (lnx m.inns) { AY m with ending:=5 }) m.inns,stage:=5,win:=cp m.rules,wside:=0,margin:=0 }
def HT (m:Mat) (e:Ev):Mat×Int :=
  cond (e.kind==1) (cond (!(m.stage==1)) (m,1) ({ m with first:=cond e.yes e.side (CQ e.side),stage:=2 },0))
    (cond (e.kind==2) (cond (!(m.stage==2)) (m,1) (VM m e))
      (cond (e.kind==12) (cond (!(m.stage==4)) (m,1) (cond (!(e.side==m.first)) (m,2) ({ m with follow:=e.yes,stage:=2 },0)))
        (cond (e.kind==16) (aX m,0) (cond (!(m.stage==3)) (m,1) (D4 m e)))))
def Qy (m:Mat):Mat :=
  let n:Int:=m.inns.length
  let sd:=(AY m).side
  let o:=Uj { m with stage:=5 }
  cond (n==IntKind.i64.wrap (2 * m.rules.innings)||(n==3&&iLt (CC m sd) (CC m (CQ sd)))) { m with stage:=5,win:=o.1,wside:=o.2.1,margin:=o.2.2 }
    (cond (n==2&&iLt 0 m.rules.followon&&iLe m.rules.followon (IntKind.i64.wrap (CC m m.first - CC m (CQ m.first)))) { m with stage:=4 } { m with stage:=2 })
def CA (m:Mat):Mat:=cond (m.stage==3 && !((AY m).ending==0)) (Qy m) m
def DH (m:Mat) (e:Ev):Mat×Int :=
 cond (!GB m || !(evS e==0)) (m,1) (cond (m.stage==5) (m,26) (cond (!((HT m e).2==0)) (m,(HT m e).2) (CA (HT m e).1,0)))
theorem uF {X:Option (List PV)} {r:List PV} {k:List PV→Option (List PV)} {g:Option (List PV)} (h:X=some r) (hk:k r=g):X.bind k=g:=by rw [h];exact hk
structure MatOk (m:Mat):Prop where
 code:BK m.rules=0
 len:m.inns.length≤4
 innv:∀ i,i<m.inns.length→Gr m.rules (inn m.inns i)=true∧(inn m.inns i).side=C0 m (i:Int)
 begun:(m.stage==3)=true→((m.inns.length:Int)==0)=false
 toss:(m.stage==2)=true→m.first=1∨m.first=2
 room:(m.stage==2)=true→(m.inns.length:Int)<2 * m.rules.innings
 most:IntKind.i64.wrap (2 * m.rules.innings)=2 * m.rules.innings∧(m.inns.length:Int)≤2 * m.rules.innings
theorem Wa {m:Mat} (h:GB m=true):MatOk m:=by
 unfold GB gS at h;simp only [zzj,Bool.not_eq_true'] at h;obtain ⟨⟨h1,h2,h3,h4,h5,h6,h7,h8,h9,h10⟩,h11,h12⟩:=h;have hc:=beq_iff_eq.1 h1;have rk:=(El hc).innings;have e2:IntKind.i64.wrap (2 * m.rules.innings)=2 * m.rules.innings:=CO (by omega) (by omega);rw [e2] at h5 h8;rw [Bool.or_eq_false_iff,Bool.or_eq_false_iff] at h5;have hn:=h5.2;have hf1:=h5.1.1;have hf2:=h5.1.2;simp only [iLt,decide_eq_false_iff_not] at hn hf1 hf2;refine ⟨hc,by omega,fun i hi=>?_,fun hs=>?_,fun hs=>?_,fun hs=>?_,e2,by omega⟩
 ·have:=Jq.1 h11 i (by omega) (by omega);unfold Xe at this;rw [Bool.or_eq_false_iff,Bool.not_eq_false',Bool.not_eq_false',beq_iff_eq] at this;exact this
 ·unfold Wc at h12;rw [hs,zzj] at h12;have:=h12.2;simp only [iLt,Bool.not_true,Bool.false_or,decide_eq_true_eq] at this;exact beq_false_of_ne (by omega)
 ·rw [beq_iff_eq.1 hs] at h6;cases h0:m.first==0 with
  | true=>rw [h0] at h6;simp at h6
  | false =>
   rw [beq_eq_false_iff_ne] at h0;omega
 ·rw [hs,Bool.true_and,beq_eq_false_iff_ne] at h8;omega
theorem rY {m:Mat} (h:m.first=1∨m.first=2) (i:Int):C0 m i=1∨C0 m i=2:=by
 unfold C0;cases cond (m.follow&&iLe 2 i) (i==2) (i.tmod 2==1) with
 | false=>exact h
 | true=>rcases h with h | h<;>rw [h]<;>decide
theorem fN {m:Mat} (h:MatOk m):KN m.inns:=fun i hi=>(QJ (h.innv i hi).1).2.2
theorem cz {F : (List AR → Option (List PV)) → List PV → Option (List PV)} {len : Nat} (enc : Nat → List AR) (ans : Nat → Option (List PV))
    (h0:∀ self,F self ((enc len).map Leaf.pv)=some [.int 1]) (h1:∀ i self,i<len→F self ((enc i).map Leaf.pv)=match ans i with | some r=>some (.int 0::r) | none=>self (enc (i+1))) :
    ∀ (k i n:Nat),i+k=len→k<n→Dt F n ((enc i).map Leaf.pv)=some (QX (A5 ans k i))
  | 0,i,n,hk,hn=>by
    obtain ⟨n,rfl⟩:∃ m,n=m+1:=⟨n - 1,by omega⟩;obtain rfl:i=len:=by omega
    exact h0 _
  | k+1,i,n,hk,hn=>by
    obtain ⟨n,rfl⟩:∃ m,n=m+1:=⟨n - 1,by omega⟩;show F _ _=_;rw [h1 i _ (by omega)];simp only [A5];cases ans i with
    | some r=>rfl
    | none=>exact cz enc ans h0 h1 k (i+1) n (by omega) (by omega)
theorem mR (ys:List Inn) (sd:Int) (g:Nat→List PV) (n:Nat):∀ k,k≤n→A5 (fun j=>cond ((inn ys (n - 1 - j)).side==sd) (some (g (n - 1 - j))) none) k (n - k)=(M1 ys sd k).map g
 | 0,_=>rfl
 | k+1,h=>by
  have ih:=mR ys sd g n k (by omega);have e:n - 1 - (n - (k+1))=k:=by omega
  have e2:n - (k+1)+1=n - k:=by omega
  simp only [A5,M1,e,e2,ih];cases (inn ys k).side==sd<;>rfl
theorem Xu (xs:List Inn) (k:Nat) (s:Inn) (i:Nat) (hi:i<xs.length):inn (xs.set k s) i=(if k=i then s else inn xs i):=by
 rw [Me,Me,List.getElem?_set]
 by_cases h:k=i
 ·subst h;rw [if_pos rfl,if_pos rfl,if_pos hi]
 ·rw [if_neg h,if_neg h]
theorem R2 {xs:List Inn} {s:Inn} (k:Nat) (h:KN xs) (hs:s.Fit):KN (xs.set k s):=fun i hi=>by
 rw [List.length_set] at hi;rw [Xu xs k s i hi]
 by_cases e:k=i
 ·rw [if_pos e];exact hs
 ·rw [if_neg e];exact h i hi
theorem o8 {e:Ev} (h:(evS e==0)=true) (hk:(e.kind==13)=true):e.side=1∨e.side=2:=by
 have h0:=dM h;rw [beq_iff_eq] at hk;unfold evS at h;rw [h0] at h;cases h1:jU e with
 | true=>rw [h1] at h;cases h
 | false =>
  cases h2:Zv e with
  | true=>rw [h1,h2] at h;cases h
  | false =>
   unfold Zv at h2;rw [Bool.or_eq_false_iff] at h2;have h3:=h2.1;rw [hk,show uS 13=true from rfl,Bool.and_true] at h3;simp only [btw,iLe,Bool.not_eq_false',zzj,decide_eq_true_eq] at h3;omega
theorem tP (xs:List Inn) (s:Inn) (i:Nat) (hi:i<xs.length+1):inn (xs++[s]) i=(if i<xs.length then inn xs i else s):=by
 rw [Me,Me]
 by_cases h:i<xs.length
 ·rw [if_pos h,List.getElem?_append_left h]
 ·have:i=xs.length:=by omega
  subst this;rw [if_neg h,List.getElem?_append_right (Nat.le_refl _),Nat.sub_self];rfl
theorem ra {xs:List Inn} {s:Inn} (h:KN xs) (hs:s.Fit):KN (xs++[s]):=fun i hi=>by
 rw [List.length_append] at hi;rw [tP xs s i hi]
 by_cases e:i<xs.length
 ·rw [if_pos e];exact h i e
 ·rw [if_neg e];exact hs
theorem eI (r:Rul) (a b c:Int) (e:Ev):(Ap r (CZ r a b c).1 e).1.Fit:=by
 obtain ⟨f,h1,h2⟩:=Qg r a b c;exact Rw (Sw r _ e) f (by rw [h1,h2];exact Nat.zero_le _)
structure ActOk (m:Mat) (x:Mat×Int):Prop where
 rules:x.1.rules=m.rules
 fit:KN x.1.inns
 len:x.1.inns.length≤5
 some':(x.2==0)=true→(x.1.stage==3)=true→((x.1.inns.length:Int)==0)=false
theorem A_c {m:Mat} (b:Bool) (x y:Mat×Int) (hx:ActOk m x) (hy:ActOk m y):ActOk m (cond b x y):=by cases b<;>assumption
theorem kE {m:Mat} (sd:Int) (hf:KN m.inns):(IE m sd).rules=m.rules∧KN (IE m sd).inns∧(IE m sd).inns.length=m.inns.length∧(IE m sd).stage=m.stage:=by
 unfold IE;cases h:M1 m.inns sd m.inns.length with
 | none=>exact ⟨rfl,hf,rfl,rfl⟩
 | some k =>
  have hk:k<m.inns.length:=by
   have:∀ n,M1 m.inns sd n=some k→k<n:=by
    intro n
    induction n with
    | zero=>intro h;cases h
    | succ n ih =>
     intro h;unfold M1 at h;cases hq:(inn m.inns n).side==sd with
     | true=>rw [hq] at h;cases h;omega
     | false=>rw [hq] at h;have:=ih h;omega
   exact this _ h
  exact ⟨rfl,R2 k hf (sv (hf k hk)),List.length_set,rfl⟩
theorem p9 {m:Mat} (ok:MatOk m) (e:Ev):ActOk m (HT m e):=by
 have hf:=fN ok;have hl:=ok.len;have self:∀ n:Int,(n==0)=false→ActOk m (m,n):=fun n hn=>⟨rfl,hf,by show m.inns.length≤5;omega,fun h=>by rw [hn] at h;cases h⟩
 unfold HT;refine A_c _ _ _ (A_c _ _ _ (self 1 rfl) ⟨rfl,hf,by show m.inns.length≤5;omega,fun _ h=>by cases h⟩) (A_c _ _ _ ?_ (A_c _ _ _ ?_ (A_c _ _ _ ?_ ?_)))
 ·refine A_c _ _ _ (self 1 rfl) ?_;unfold VM;refine A_c _ _ _ (self 1 rfl) ?_;cases hq:(Ap m.rules (CZ m.rules (C0 m (m.inns.length:Int)) (G3 m (C0 m (m.inns.length:Int))) (cond (C0 m (m.inns.length:Int)==2) m.pen2 m.pen1)).1 e).2==0 with
  | false =>
   simp only [Bool.not_false,cond_true];exact self _ hq
  | true =>
   simp only [Bool.not_true,cond_false];exact ⟨rfl,ra hf (eI _ _ _ _ e),by simp;omega,fun _ _=>by
    show ((((m.inns++[_]).length:Nat):Int)==0)=false;rw [List.length_append];exact beq_false_of_ne (by simp;omega)⟩
 ·exact A_c _ _ _ (self 1 rfl) (A_c _ _ _ (self 2 rfl) ⟨rfl,hf,by show m.inns.length≤5;omega,fun _ h=>by cases h⟩)
 ·unfold aX;cases h3:m.stage==3 with
  | false=>exact ⟨rfl,hf,by show m.inns.length≤5;omega,fun _ h=>by cases h⟩
  | true =>
   have h0:=ok.begun h3;have fl:=hf (lnx m.inns) (Xq h0 (by omega));exact ⟨rfl,R2 _ hf ⟨fl.bt,fl.bw,fl.bf,fl.bd,fl.sb⟩,by show (m.inns.set _ _).length≤5;rw [List.length_set];omega,fun _ h=>by cases h⟩
 ·cases h3:m.stage==3 with
  | false=>exact self 1 rfl
  | true =>
   have h0:=ok.begun h3;have lv:=QJ (ok.innv (lnx m.inns) (Xq h0 (by omega))).1;have h1:=lv.1;have h2:=lv.2.1;have ft:=Rw (Sw m.rules (AY m) e) lv.2.2 (show (inn m.inns (lnx m.inns)).before.length+(inn m.inns (lnx m.inns)).bowlers.length≤1048575 by omega);simp only [Bool.not_true,cond_false,D4];cases hq:(Ap m.rules (AY m) e).2==0 with
   | false =>
    simp only [Bool.not_false,Bool.not_true,cond_true,cond_false];exact self _ hq
   | true =>
    have fs:=R2 (lnx m.inns) hf ft;have ln:(m.inns.set (lnx m.inns) (Ap m.rules (AY m) e).1).length=m.inns.length:=List.length_set;simp only [Bool.not_true,cond_false];cases (e.kind==13 && !(e.side==(Ap m.rules (AY m) e).1.side)) with
    | false =>
     exact ⟨rfl,fs,by show (m.inns.set _ _).length≤5;omega,fun _ _=>by
      show ((((m.inns.set _ _).length:Nat):Int)==0)=false;rw [ln];exact h0⟩
    | true =>
     obtain ⟨a1,a2,a3,a4⟩:=kE (m:={ m with inns:=m.inns.set (lnx m.inns) (Ap m.rules (AY m) e).1 }) e.side fs;exact ⟨a1,a2,by show (IE _ _).inns.length≤5;rw [a3];show (m.inns.set _ _).length≤5;omega,fun _ _=>by
      show ((((IE _ _).inns.length:Nat):Int)==0)=false;rw [a3];show ((((m.inns.set _ _).length:Nat):Int)==0)=false;rw [ln];exact h0⟩
set_option maxHeartbeats 8000000 in
theorem iz {N:Nat} {m8 m16:Bool} {m0:ByteArray} {m13:Rows} {m17:List Inn} {e0 e1 e2 e3 e5 e6 e7 e8 e9 e10 e11 e13 e14 e15 e16 e18:Int} {e4 e12 e17:Bool} (hN:2097152<N) (hf:KN m17) (hl:m17.length≤1000000) (hs:m0.size≤1048576) (h13:m13.length≤1048576):MO N [.str m0,.int m1,.int m2,.int m3,.int m4,.int m5,.int m6,.int m7,.bool m8,.int m9,.int m10,.int m11,.int m12,.rows m13,.int m14,.int m15,.bool m16,.rows (Ai m17),.int m18,.int m19,.int m20,.int m21,.int m22,.int e0,.int e1,.int e2,.int e3,.bool e4,.int e5,.int e6,.int e7,.int e8,.int e9,.int e10,.int e11,.bool e12,.int e13,.int e14,.int e15,.int e16,.bool e17,.int e18]=some (Ul (DH (⟨⟨m0,m1,m2,m3,m4,m5,m6,m7,m8,m9,m10,m11,m12,m13⟩,m14,m15,m16,m17,m18,m19,m20,m21,m22⟩:Mat) (⟨e0,e1,e2,e3,e4,e5,e6,⟨e7,e8,e9,e10,e11,e12,e13,e14,e15,e16,e17,e18⟩⟩:Ev))):=by
 show Mg (std (BF N) N) (xOf _)=_;generalize hres:(some (Ul (DH (⟨⟨m0,m1,m2,m3,m4,m5,m6,m7,m8,m9,m10,m11,m12,m13⟩,m14,m15,m16,m17,m18,m19,m20,m21,m22⟩:Mat) (⟨e0,e1,e2,e3,e4,e5,e6,⟨e7,e8,e9,e10,e11,e12,e13,e14,e15,e16,e17,e18⟩⟩:Ev))):Option (List PV))=RR;simp only [Mg,RY,Q0,Ry,Ey,Et,JV,IG,EE,Ec,Cx,DE,Gh,lq9,std,xOf,PXb,Vg hf hN hl hs,V2 hN,gA hf hN hl h13];subst hres;simp only [DH];cases hv:GB (⟨⟨m0,m1,m2,m3,m4,m5,m6,m7,m8,m9,m10,m11,m12,m13⟩,m14,m15,m16,m17,m18,m19,m20,m21,m22⟩:Mat)
 case false=>rfl
 cases he:evS (⟨e0,e1,e2,e3,e4,e5,e6,⟨e7,e8,e9,e10,e11,e12,e13,e14,e15,e16,e17,e18⟩⟩:Ev)==0
 case false=>simp only [PXb,he];rfl
 simp only [PXb,he];cases h5:m14==5
 case true=>rfl
 simp only [PXb];have ok:=Wa hv;refine uF (r:=.int (HT (⟨⟨m0,m1,m2,m3,m4,m5,m6,m7,m8,m9,m10,m11,m12,m13⟩,m14,m15,m16,m17,m18,m19,m20,m21,m22⟩:Mat) (⟨e0,e1,e2,e3,e4,e5,e6,⟨e7,e8,e9,e10,e11,e12,e13,e14,e15,e16,e17,e18⟩⟩:Ev)).2::(HT (⟨⟨m0,m1,m2,m3,m4,m5,m6,m7,m8,m9,m10,m11,m12,m13⟩,m14,m15,m16,m17,m18,m19,m20,m21,m22⟩:Mat) (⟨e0,e1,e2,e3,e4,e5,e6,⟨e7,e8,e9,e10,e11,e12,e13,e14,e15,e16,e17,e18⟩⟩:Ev)).1.ls) ?_ ?_
 ·unfold HT;cases hk1:e0==1
  case true =>
   simp only [PXb,Et,H6];cases m14==1<;>cases e4<;>rfl
  cases hk2:e0==2
  case true =>
   simp only [PXb];cases hs2:m14==2
   case false=>rfl
   have hl2:m17.length≤1048576:=by omega
   have h304:iSm ((m17.length+1:Nat):Int) 304=true:=DV (by omega) (by omega);have fb:=fun a b c=>(Qg (⟨⟨m0,m1,m2,m3,m4,m5,m6,m7,m8,m9,m10,m11,m12,m13⟩,m14,m15,m16,m17,m18,m19,m20,m21,m22⟩:Mat).rules a b c).1
   have wb:∀ a b c,(CZ (⟨⟨m0,m1,m2,m3,m4,m5,m6,m7,m8,m9,m10,m11,m12,m13⟩,m14,m15,m16,m17,m18,m19,m20,m21,m22⟩:Mat).rules a b c).1.before.length+(CZ (⟨⟨m0,m1,m2,m3,m4,m5,m6,m7,m8,m9,m10,m11,m12,m13⟩,m14,m15,m16,m17,m18,m19,m20,m21,m22⟩:Mat).rules a b c).1.bowlers.length≤1000000:=fun a b c=>by
    rw [(Qg (⟨⟨m0,m1,m2,m3,m4,m5,m6,m7,m8,m9,m10,m11,m12,m13⟩,m14,m15,m16,m17,m18,m19,m20,m21,m22⟩:Mat).rules a b c).2.1,(Qg (⟨⟨m0,m1,m2,m3,m4,m5,m6,m7,m8,m9,m10,m11,m12,m13⟩,m14,m15,m16,m17,m18,m19,m20,m21,m22⟩:Mat).rules a b c).2.2];exact Nat.zero_le _
   rcases rY (m:=(⟨⟨m0,m1,m2,m3,m4,m5,m6,m7,m8,m9,m10,m11,m12,m13⟩,m14,m15,m16,m17,m18,m19,m20,m21,m22⟩:Mat)) (ok.toss hs2) (m17.length:Int) with ho | ho
   ·simp only [PXb,PXc,Ks,jf,Nat.reduceAdd,Int.reduceBEq,PXi,PXr,Inn.eta,BM,List.length_append,List.length_cons,List.length_nil,h304,VM,Ey,Ec,EE,Cx,Ps,T8 hN hl2,SK hN hs,Nt (fb _ _ _) (wb _ _ _) hN hs h13,ho,wr1,wr2,iB,iS];cases (CZ (⟨⟨m0,m1,m2,m3,m4,m5,m6,m7,m8,m9,m10,m11,m12,m13⟩,m14,m15,m16,m17,m18,m19,m20,m21,m22⟩:Mat).rules 1 (G3 (⟨⟨m0,m1,m2,m3,m4,m5,m6,m7,m8,m9,m10,m11,m12,m13⟩,m14,m15,m16,m17,m18,m19,m20,m21,m22⟩:Mat) 1) m18).2==0<;>try rfl
    cases (Ap (⟨⟨m0,m1,m2,m3,m4,m5,m6,m7,m8,m9,m10,m11,m12,m13⟩,m14,m15,m16,m17,m18,m19,m20,m21,m22⟩:Mat).rules (CZ (⟨⟨m0,m1,m2,m3,m4,m5,m6,m7,m8,m9,m10,m11,m12,m13⟩,m14,m15,m16,m17,m18,m19,m20,m21,m22⟩:Mat).rules 1 (G3 (⟨⟨m0,m1,m2,m3,m4,m5,m6,m7,m8,m9,m10,m11,m12,m13⟩,m14,m15,m16,m17,m18,m19,m20,m21,m22⟩:Mat) 1) m18).1 (⟨e0,e1,e2,e3,e4,e5,e6,⟨e7,e8,e9,e10,e11,e12,e13,e14,e15,e16,e17,e18⟩⟩:Ev)).2==0<;>rfl
   ·simp only [PXb,PXc,Ks,jf,Nat.reduceAdd,Int.reduceBEq,PXi,PXr,Inn.eta,BM,List.length_append,List.length_cons,List.length_nil,h304,VM,Ey,Ec,EE,Cx,Ps,T8 hN hl2,SK hN hs,Nt (fb _ _ _) (wb _ _ _) hN hs h13,ho,wr1,wr2,iB,iS];cases (CZ (⟨⟨m0,m1,m2,m3,m4,m5,m6,m7,m8,m9,m10,m11,m12,m13⟩,m14,m15,m16,m17,m18,m19,m20,m21,m22⟩:Mat).rules 2 (G3 (⟨⟨m0,m1,m2,m3,m4,m5,m6,m7,m8,m9,m10,m11,m12,m13⟩,m14,m15,m16,m17,m18,m19,m20,m21,m22⟩:Mat) 2) m19).2==0<;>try rfl
    cases (Ap (⟨⟨m0,m1,m2,m3,m4,m5,m6,m7,m8,m9,m10,m11,m12,m13⟩,m14,m15,m16,m17,m18,m19,m20,m21,m22⟩:Mat).rules (CZ (⟨⟨m0,m1,m2,m3,m4,m5,m6,m7,m8,m9,m10,m11,m12,m13⟩,m14,m15,m16,m17,m18,m19,m20,m21,m22⟩:Mat).rules 2 (G3 (⟨⟨m0,m1,m2,m3,m4,m5,m6,m7,m8,m9,m10,m11,m12,m13⟩,m14,m15,m16,m17,m18,m19,m20,m21,m22⟩:Mat) 2) m19).1 (⟨e0,e1,e2,e3,e4,e5,e6,⟨e7,e8,e9,e10,e11,e12,e13,e14,e15,e16,e17,e18⟩⟩:Ev)).2==0<;>rfl
  cases hk3:e0==12
  case true =>
   simp only [PXb];cases m14==4<;>cases e1==m15<;>rfl
  cases hk4:e0==16
  case true =>
   simp only [PXb,aX];cases h3:m14==3
   case false=>simp only [PXb,PXc,PXi,PXr,Ks,Nat.reduceAdd,DE,Jd];rfl
   simp only [PXb,PXc,PXi,PXr,Ks,Nat.reduceAdd,UU (ok.begun h3) hl,DE,Jd];rfl
  simp only [PXb];cases h3:m14==3
  case false=>rfl
  have h0:=ok.begun h3;have lv:=QJ (ok.innv (lnx m17) (Xq h0 hl)).1;have fl:(inn m17 (IntKind.i64.wrap ((m17.length:Int) - 1)).toNat).Fit:=lv.2.2;have wl:(inn m17 (IntKind.i64.wrap ((m17.length:Int) - 1)).toNat).before.length+(inn m17 (IntKind.i64.wrap ((m17.length:Int) - 1)).toNat).bowlers.length≤1000000:=by
   have h1:=lv.1;have h2:=lv.2.1;change (inn m17 (IntKind.i64.wrap ((m17.length:Int) - 1)).toNat).bowlers.length≤11 at h1;change (inn m17 (IntKind.i64.wrap ((m17.length:Int) - 1)).toNat).before.length≤11 at h2;omega
  have f1:=Rw (Sw (⟨⟨m0,m1,m2,m3,m4,m5,m6,m7,m8,m9,m10,m11,m12,m13⟩,m14,m15,m16,m17,m18,m19,m20,m21,m22⟩:Mat).rules (inn m17 (IntKind.i64.wrap ((m17.length:Int) - 1)).toNat) (⟨e0,e1,e2,e3,e4,e5,e6,⟨e7,e8,e9,e10,e11,e12,e13,e14,e15,e16,e17,e18⟩⟩:Ev)) fl (by omega);simp only [PXb,PXc,PXi,PXr,BM,Inn.eta,Ks,Nat.reduceAdd,List.length_set,UU h0 hl,Cx,Nt fl wl hN hs h13,D4,AY,lnx];generalize hX:Ap (⟨⟨m0,m1,m2,m3,m4,m5,m6,m7,m8,m9,m10,m11,m12,m13⟩,m14,m15,m16,m17,m18,m19,m20,m21,m22⟩:Mat).rules (inn m17 (IntKind.i64.wrap ((m17.length:Int) - 1)).toNat) (⟨e0,e1,e2,e3,e4,e5,e6,⟨e7,e8,e9,e10,e11,e12,e13,e14,e15,e16,e17,e18⟩⟩:Ev)=X at f1;have fy:=R2 (IntKind.i64.wrap ((m17.length:Int) - 1)).toNat hf f1;generalize hy:m17.set (IntKind.i64.wrap ((m17.length:Int) - 1)).toNat X.1=ys at fy;have ly:ys.length=m17.length:=by rw [← hy,List.length_set]
  cases X.2==0<;>try rfl
  cases h13k:e0==13
  case false=>rfl
  cases hsd:e1==X.1.side
  case true=>rfl
  simp only [PXb,Option.bind_assoc];have e0w:IntKind.i64.wrap ((m17.length:Int) - 1)=(m17.length:Int) - 1 - ((0:Nat):Int):=by
   rw [beq_eq_false_iff_ne] at h0;rw [CO (by omega) (by omega)];omega
  rw [e0w];have hside:=o8 (e:=(⟨e0,e1,e2,e3,e4,e5,e6,⟨e7,e8,e9,e10,e11,e12,e13,e14,e15,e16,e17,e18⟩⟩:Ev)) he h13k;simp only at hside;refine AU (cz (len:=m17.length) (fun j=>[.int ((m17.length:Int) - 1 - (j:Int))]) (fun j=>cond ((inn ys (m17.length - 1 - j)).side==e1) (some [PV.str m0,PV.int m1,PV.int m2,PV.int m3,PV.int m4,PV.int m5,PV.int m6,PV.int m7,PV.bool m8,PV.int m9,PV.int m10,PV.int m11,PV.int m12,PV.rows m13,PV.int m14,PV.int m15,PV.bool m16,PV.rows (Ai (ys.set (m17.length - 1 - j) (Pk (inn ys (m17.length - 1 - j))))),PV.int m18,PV.int m19,PV.int m20,PV.int m21,PV.int m22]) none) ?_ ?_ m17.length 0 N (by omega) (by omega)) ?_
  ·intro self;have q1:iLe 0 ((m17.length:Int) - 1 - (m17.length:Int))=false:=by simp only [iLe,decide_eq_false_iff_not];omega
   simp only [PXb,q1]
  ·intro i self hi;have q1:iLe 0 ((m17.length:Int) - 1 - (i:Int))=true:=by simp only [iLe,decide_eq_true_eq];omega
   have q2:iIn ((m17.length:Int) - 1 - (i:Int)) (m17.length:Int)=true:=by simp only [iIn,decide_eq_true_eq];omega
   have q3:((m17.length:Int) - 1 - (i:Int)).toNat=m17.length - 1 - i:=by omega
   have q4:IntKind.i64.wrap ((m17.length:Int) - 1 - (i:Int) - 1)=(m17.length:Int) - 1 - ((i+1:Nat):Int):=by rw [CO (by omega) (by omega)];omega
   have q5:=fy (m17.length - 1 - i) (by omega);simp only [PXb,PXc,q1,q2,q3,q4,Gh,QH q5,PXm];cases (inn ys (m17.length - 1 - i)).side==e1<;>rfl
  ·have hfa:=mR ys e1 (fun k=>[PV.str m0,PV.int m1,PV.int m2,PV.int m3,PV.int m4,PV.int m5,PV.int m6,PV.int m7,PV.bool m8,PV.int m9,PV.int m10,PV.int m11,PV.int m12,PV.rows m13,PV.int m14,PV.int m15,PV.bool m16,PV.rows (Ai (ys.set k (Pk (inn ys k)))),PV.int m18,PV.int m19,PV.int m20,PV.int m21,PV.int m22]) m17.length m17.length (Nat.le_refl _);rw [Nat.sub_self] at hfa;rw [hfa];unfold IE;simp only [ly];cases M1 ys e1 m17.length with
   | some k=>rfl
   | none =>
    rcases hside with h | h<;>subst h
    ·simp only [Option.map_none,QX,PXb,PXc,Ks,Int.reduceBEq,wr1,iB];rfl
    ·simp only [Option.map_none,QX,PXb,PXc,Ks,Int.reduceBEq,wr2,iS];rfl
 ·have ak:=p9 ok (⟨e0,e1,e2,e3,e4,e5,e6,⟨e7,e8,e9,e10,e11,e12,e13,e14,e15,e16,e17,e18⟩⟩:Ev);generalize HT (⟨⟨m0,m1,m2,m3,m4,m5,m6,m7,m8,m9,m10,m11,m12,m13⟩,m14,m15,m16,m17,m18,m19,m20,m21,m22⟩:Mat) (⟨e0,e1,e2,e3,e4,e5,e6,⟨e7,e8,e9,e10,e11,e12,e13,e14,e15,e16,e17,e18⟩⟩:Ev)=A at ak;obtain ⟨⟨⟨a0,a1,a2,a3,a4,a5,a6,a7,a8,a9,a10,a11,a12,a13⟩,a14,a15,a16,a17,a18,a19,a20,a21,a22⟩,l⟩:=A;obtain ⟨k1,k2,k3,k4⟩:=ak;simp only at k1 k2 k3 k4;have hl5:a17.length≤1048576:=by omega
  have hs5:a0.size≤1048576:=by
   have:=congrArg Rul.name k1;simp only at this;rw [this];exact hs
  simp only [PXb,PXc,PXk,PXi,Ks,Nat.reduceAdd];cases hl0:l==0
  case false=>rfl
  simp only [PXb,CA];cases h3:a14==3
  case false=>rfl
  have h0:=k4 hl0 h3;have li:=UU h0 (show a17.length≤1000000 by omega);simp only [PXb,PXc,PXi,li];cases he2:(inn a17 (IntKind.i64.wrap ((a17.length:Int) - 1)).toNat).ending==0
  case true=>simp only [PXb,AY,lnx,he2]
  simp only [PXb,PXc,PXi,AY,lnx,he2,JV,Et,IG,Pf hN hl5,H6,cL k2 hN (show a17.length≤1000000 by omega) hs5];unfold Qy;simp only [AY,lnx];simp only [CC,AY,lnx];cases hq1:((a17.length:Int)==IntKind.i64.wrap (2 * a2))
  case true=>rfl
  cases hq2:((a17.length:Int)==3)
  case true =>
   simp only [PXb];cases iLt (Pc a17 (inn a17 (IntKind.i64.wrap ((a17.length:Int) - 1)).toNat).side a17.length) (Pc a17 (CQ (inn a17 (IntKind.i64.wrap ((a17.length:Int) - 1)).toNat).side) a17.length)
   case true=>rfl
   simp only [PXb];cases ((a17.length:Int)==2)&&iLt 0 a10&&iLe a10 (IntKind.i64.wrap (Pc a17 a15 a17.length - Pc a17 (CQ a15) a17.length))<;>rfl
  simp only [PXb];cases ((a17.length:Int)==2)&&iLt 0 a10&&iLe a10 (IntKind.i64.wrap (Pc a17 a15 a17.length - Pc a17 (CQ a15) a17.length))<;>rfl
theorem kt (m:Mat):(Qy m).rules=m.rules∧(Qy m).inns=m.inns:=by
 unfold Qy
 dsimp only
 cases ((m.inns.length:Int)==IntKind.i64.wrap (2 * m.rules.innings)||((m.inns.length:Int)==3&&iLt (CC m (AY m).side) (CC m (CQ (AY m).side)))) with
 | true=>exact ⟨rfl,rfl⟩
 | false =>
  cases ((m.inns.length:Int)==2&&iLt 0 m.rules.followon&&iLe m.rules.followon (IntKind.i64.wrap (CC m m.first - CC m (CQ m.first))))<;>exact ⟨rfl,rfl⟩
theorem aH (m:Mat):(CA m).rules=m.rules∧(CA m).inns=m.inns:=by
 unfold CA;cases (m.stage==3 && !((AY m).ending==0)) with
 | true=>exact kt m
 | false=>exact ⟨rfl,rfl⟩
structure StepOk (r:Rul) (m:Mat):Prop where
 rules:m.rules=r
 fit:KN m.inns
 len:m.inns.length≤5
theorem na {r:Rul} {m:Mat} (h:StepOk r m) (e:Ev):StepOk r (DH m e).1:=by
 unfold DH;cases hv:GB m with
 | false=>exact h
 | true =>
  cases he:evS e==0 with
  | false=>exact h
  | true =>
   cases h5:m.stage==5 with
   | true=>exact h
   | false =>
    have a:=p9 (Wa hv) e;cases hx:(HT m e).2==0 with
    | false=>exact h
    | true =>
     have k:=aH (HT m e).1;exact ⟨k.1.trans (a.rules.trans h.rules),by show KN (CA _).inns;rw [k.2];exact a.fit,by show (CA _).inns.length≤5;rw [k.2];exact a.len⟩
theorem mK (r:Rul) (h:((Ab r).2==0)=true):StepOk r (Ab r).1:=by
 unfold Ab at h ⊢;cases hc:BK r==0 with
 | false=>rw [hc] at h;exact absurd (show (BK r==0)=true from h) (by rw [hc];decide)
 | true=>exact ⟨rfl,fun i hi=>absurd hi (Nat.not_lt_zero i),Nat.zero_le _⟩
theorem Uz {m:Mat} {e:Ev} (h:((DH m e).2==0)=true):GB m=true∧(evS e==0)=true∧(m.stage==5)=false∧((HT m e).2==0)=true∧(DH m e).1=CA (HT m e).1:=by
 unfold DH at h ⊢;cases hv:GB m with
 | false=>rw [hv] at h;exact absurd (show ((1:Int)==0)=true from h) (by decide)
 | true =>
  cases he:evS e==0 with
  | false=>rw [hv,he] at h;exact absurd (show ((1:Int)==0)=true from h) (by decide)
  | true =>
   cases h5:m.stage==5 with
   | true=>rw [hv,he,h5] at h;exact absurd (show ((26:Int)==0)=true from h) (by decide)
   | false =>
    cases hx:(HT m e).2==0 with
    | false=>rw [hv,he,h5,hx] at h;exact absurd (show ((HT m e).2==0)=true from h) (by rw [hx];decide)
    | true=>exact ⟨rfl,rfl,rfl,rfl,rfl⟩
theorem VB {m:Mat} {e:Ev} (h:((DH m e).2==0)=true) (hk:(e.kind==4)=true):(m.stage==3)=true∧((m.inns.length:Int)==0)=false∧((Ap m.rules (AY m) e).2==0)=true∧(DH m e).1.inns=m.inns.set (lnx m.inns) (Ap m.rules (AY m) e).1:=by
 obtain ⟨hv,he,h5,ha,hs⟩:=Uz h;have hk4:=beq_iff_eq.1 hk;rw [hs,(aH _).2];unfold HT at ha ⊢;simp only [hk4,Int.reduceBEq,cond_false] at ha ⊢;cases h3:m.stage==3 with
 | false=>rw [h3] at ha;exact absurd (show ((1:Int)==0)=true from ha) (by decide)
 | true =>
  rw [h3] at ha;simp only [Bool.not_true,cond_false] at ha ⊢;unfold D4 at ha ⊢;cases hq:(Ap m.rules (AY m) e).2==0 with
  | false=>simp only [hq,Bool.not_false,cond_true] at ha;exact absurd ha Bool.false_ne_true
  | true =>
   simp only [hk4,Int.reduceBEq,Bool.false_and,hq,Bool.not_true,cond_false];exact ⟨trivial,(Wa hv).begun h3,trivial,trivial⟩
def evR (L:Rows) (i:Nat):Ev:=⟨atI L i 0,atI L i 1,atI L i 2,atI L i 3,atB L i 4,atI L i 5,atI L i 6,⟨atI L i 7,atI L i 8,atI L i 9,atI L i 10,atI L i 11,atB L i 12,atI L i 13,atI L i 14,atI L i 15,atI L i 16,atB L i 17,atI L i 18⟩⟩
theorem vu (L:Rows) (i:Nat):(⟨atI L i 0,atI L i 1,atI L i 2,atI L i 3,atB L i 4,atI L i 5,atI L i 6,⟨atI L i 7,atI L i 8,atI L i 9,atI L i 10,atI L i 11,atB L i 12,atI L i 13,atI L i 14,atI L i 15,atI L i 16,atB L i 17,atI L i 18⟩⟩:Ev)=evR L i:=rfl
def A1 (i:Int) (m:Mat) (e:Ev):Mat×Int:=cond (iLe 4000 i) (m,26) (DH m e)
def Hs (L:Rows):Nat→Nat→Mat→Mat×Int×Int
 | 0,_,m=>(m,-1,0)
 | k+1,i,m=>cond (!((A1 i m (evR L i)).2==0)) (m,(i:Int),(A1 i m (evR L i)).2) (Hs L k (i+1) (A1 i m (evR L i)).1)
def IH (i:Int) (m t:Mat) (d:Del):List PV :=
 [.int i,.int (IntKind.i64.wrap ((m.inns.length:Int) - 1)),.int (AY m).complete,.int (AY m).inover,.int (AY m).bowler,.int (AY m).striker,.int (AY m).other,.bool (AY m).freehit,
  .int d.type,.int d.source,.int d.runs,.int d.short,.int d.boundary,.bool d.crossed,.int d.how,.int d.victim,.int d.fielder,.int d.second,.bool d.sub,.int d.sector,
  .int (AE m.rules d).batter,.int (AE m.rules d).wides,.int (AE m.rules d).noballs,.int (AE m.rules d).byes,.int (AE m.rules d).legbyes,.int (AE m.rules d).bowler,.bool (AE m.rules d).counts,.bool (AE m.rules d).faced,.bool (AE m.rules d).wicket,.bool (AE m.rules d).swap,
  .int (inn t.inns (lnx m.inns)).runs,.int (inn t.inns (lnx m.inns)).wickets]
def Mj (L:Rows):Nat→Nat→Mat→Rows→Rows
 | 0,_,_,out=>out
 | k+1,i,m,out=>cond (!((A1 i m (evR L i)).2==0)) out (Mj L k (i+1) (A1 i m (evR L i)).1 (cond ((evR L i).kind==4) (out++[IH i m (A1 i m (evR L i)).1 (evR L i).ball]) out))
def sL (f:Mat×Int×Int):List PV:=[.str f.1.rules.name,.int f.1.rules.side,.int f.1.rules.innings,.int f.1.rules.overs,.int f.1.rules.balls,.int f.1.rules.quota,.int f.1.rules.wide,.int f.1.rules.noball,.bool f.1.rules.freehit,.int f.1.rules.newball,.int f.1.rules.followon,.int f.1.rules.reviews,.int f.1.rules.outside,.rows f.1.rules.power,.int f.1.stage,.int f.1.first,.bool f.1.follow,.rows (Ai f.1.inns),.int f.1.pen1,.int f.1.pen2,.int f.1.win,.int f.1.wside,.int f.1.margin,.int f.2.1,.int f.2.2]
def IR (r:Rul) (L:Rows):Mat×Int×Int:=cond (!((Ab r).2==0)) (sH,0,1) (Hs L L.length 0 (Ab r).1)
def Cu (r:Rul) (L:Rows):Rows:=cond (!((Ab r).2==0)) [] (Mj L L.length 0 (Ab r).1 [])
theorem jC (L:Rows):∀ k i m,((Hs L k i m).2.1 == -1)=true→(Hs L k i m).2.2=0
 | 0,_,_,_=>rfl
 | k+1,i,m,h=>by
  unfold Hs at h ⊢;cases hq:(A1 i m (evR L i)).2==0 with
  | false =>
   rw [hq] at h;have:=beq_iff_eq.1 (show ((i:Int) == -1)=true from h);omega
  | true=>rw [hq] at h;exact jC L k (i+1) _ h
theorem jB (L:Rows):∀ k i m out,(Mj L k i m out).length≤out.length+k
 | 0,_,_,out=>Nat.le_refl _
 | k+1,i,m,out=>by
  unfold Mj;cases (A1 i m (evR L i)).2==0 with
  | false=>show out.length≤_;omega
  | true =>
   have:=jB L k (i+1) (A1 i m (evR L i)).1 (cond ((evR L i).kind==4) (out++[IH i m (A1 i m (evR L i)).1 (evR L i).ball]) out);refine Nat.le_trans this ?_;cases (evR L i).kind==4 with
   | false=>show out.length+k≤_;omega
   | true=>show (out++[_]).length+k≤_;rw [List.length_append];simp;omega
theorem kd {r:Rul} {m:Mat} (h:StepOk r m) (i:Int) (e:Ev):StepOk r (A1 i m e).1:=by
 unfold A1;cases iLe 4000 i with
 | true=>exact h
 | false=>exact na h e
theorem XG {m:Mat} {i:Int} {e:Ev} (h:((A1 i m e).2==0)=true):A1 i m e=DH m e∧iLe 4000 i=false:=by
 unfold A1 at h ⊢;cases h4:iLe 4000 i with
 | true=>rw [h4] at h;exact absurd (show ((26:Int)==0)=true from h) (by decide)
 | false=>exact ⟨rfl,rfl⟩
theorem nA {N:Nat} {m8 m16:Bool} {m0:ByteArray} {m13:Rows} {m17:List Inn} {i:Int} {e0 e1 e2 e3 e5 e6 e7 e8 e9 e10 e11 e13 e14 e15 e16 e18:Int} {e4 e12 e17:Bool} (hN:2097152<N) (hf:KN m17) (hl:m17.length≤1000000) (hs:m0.size≤1048576) (h13:m13.length≤1048576):NI N [.str m0,.int m1,.int m2,.int m3,.int m4,.int m5,.int m6,.int m7,.bool m8,.int m9,.int m10,.int m11,.int m12,.rows m13,.int m14,.int m15,.bool m16,.rows (Ai m17),.int m18,.int m19,.int m20,.int m21,.int m22,.int i,.int e0,.int e1,.int e2,.int e3,.bool e4,.int e5,.int e6,.int e7,.int e8,.int e9,.int e10,.int e11,.bool e12,.int e13,.int e14,.int e15,.int e16,.bool e17,.int e18]=some (Ul (A1 i (⟨⟨m0,m1,m2,m3,m4,m5,m6,m7,m8,m9,m10,m11,m12,m13⟩,m14,m15,m16,m17,m18,m19,m20,m21,m22⟩:Mat) (⟨e0,e1,e2,e3,e4,e5,e6,⟨e7,e8,e9,e10,e11,e12,e13,e14,e15,e16,e17,e18⟩⟩:Ev))):=by
 show NN (std (G0 N) N) (xOf _)=_;generalize hres:(some (Ul (A1 i (⟨⟨m0,m1,m2,m3,m4,m5,m6,m7,m8,m9,m10,m11,m12,m13⟩,m14,m15,m16,m17,m18,m19,m20,m21,m22⟩:Mat) (⟨e0,e1,e2,e3,e4,e5,e6,⟨e7,e8,e9,e10,e11,e12,e13,e14,e15,e16,e17,e18⟩⟩:Ev))):Option (List PV))=RR;simp only [NN,UJ,lq9,std,xOf,PXb,iz hN hf hl hs h13];subst hres;simp only [A1];cases iLe 4000 i<;>rfl
theorem bP {N:Nat} {i:Int} {m8 m16:Bool} {m0:ByteArray} {m13:Rows} {m17:List Inn} {t1 t2 t3 t4 t5 t6 t7 t9 t10 t11 t12 t14 t15 t18 t19 t20 t21 t22:Int} {t8 t16:Bool} {t0:ByteArray} {t13:Rows} {t17:List Inn} {d0 d1 d2 d3 d4 d6 d7 d8 d9 d11:Int} {d5 d10:Bool} (h1:iIn (IntKind.i64.wrap ((m17.length:Int) - 1)) (m17.length:Int)=true) (h2:iIn (IntKind.i64.wrap ((m17.length:Int) - 1)) (t17.length:Int)=true):Iu N [.int i,.str m0,.int m1,.int m2,.int m3,.int m4,.int m5,.int m6,.int m7,.bool m8,.int m9,.int m10,.int m11,.int m12,.rows m13,.int m14,.int m15,.bool m16,.rows (Ai m17),.int m18,.int m19,.int m20,.int m21,.int m22,.str t0,.int t1,.int t2,.int t3,.int t4,.int t5,.int t6,.int t7,.bool t8,.int t9,.int t10,.int t11,.int t12,.rows t13,.int t14,.int t15,.bool t16,.rows (Ai t17),.int t18,.int t19,.int t20,.int t21,.int t22,.int d0,.int d1,.int d2,.int d3,.int d4,.bool d5,.int d6,.int d7,.int d8,.int d9,.bool d10,.int d11]=some (IH i (⟨⟨m0,m1,m2,m3,m4,m5,m6,m7,m8,m9,m10,m11,m12,m13⟩,m14,m15,m16,m17,m18,m19,m20,m21,m22⟩:Mat) (⟨⟨t0,t1,t2,t3,t4,t5,t6,t7,t8,t9,t10,t11,t12,t13⟩,t14,t15,t16,t17,t18,t19,t20,t21,t22⟩:Mat) (⟨d0,d1,d2,d3,d4,d5,d6,d7,d8,d9,d10,d11⟩:Del)):=by
 show I0 (std (KV N) N) (xOf _)=_;simp only [I0,MC,lq9,std,xOf,PXb,PXi,h1,h2,P2];rfl
def Rt (L:Rows) (i:Nat) (s:Rows×Mat):List PV ⊕ Rows×Mat:=cond (!((A1 i s.2 (evR L i)).2==0)) (.inl (.int 0::.rows s.1::.int i::.int (A1 i s.2 (evR L i)).2::s.2.ls)) (.inr (cond ((evR L i).kind==4) (s.1++[IH i s.2 (A1 i s.2 (evR L i)).1 (evR L i).ball]) s.1,(A1 i s.2 (evR L i)).1))
def nM (out:Rows) (f:Mat×Int×Int):List PV:=cond (f.2.1 == -1) (.int 1::.rows out::f.1.ls) (.int 0::.rows out::.int f.2.1::.int f.2.2::f.1.ls)
theorem fZ (L:Rows):∀ k i s,cC (Rt L) (fun s=>.int 1::.rows s.1::s.2.ls) k i s=nM (Mj L k i s.2 s.1) (Hs L k i s.2)
 | 0,_,_=>rfl
 | k+1,i,s=>by
  simp only [cC,Rt,Hs,Mj];cases (A1 i s.2 (evR L i)).2==0 with
  | false =>
   simp only [Bool.not_false,cond_true,nM];rw [show ((i:Int) == -1)=false from beq_false_of_ne (show (i:Int) ≠ -1 by omega)];rfl
  | true=>exact fZ L k (i+1) _
def ji (out:Rows) (f:Mat×Int×Int):List PV:=[.rows out,.str f.1.rules.name,.int f.1.rules.side,.int f.1.rules.innings,.int f.1.rules.overs,.int f.1.rules.balls,.int f.1.rules.quota,.int f.1.rules.wide,.int f.1.rules.noball,.bool f.1.rules.freehit,.int f.1.rules.newball,.int f.1.rules.followon,.int f.1.rules.reviews,.int f.1.rules.outside,.rows f.1.rules.power,.int f.1.stage,.int f.1.first,.bool f.1.follow,.rows (Ai f.1.inns),.int f.1.pen1,.int f.1.pen2,.int f.1.win,.int f.1.wside,.int f.1.margin,.int f.2.1,.int f.2.2]
theorem ul {m t:Mat} {e:Ev} (hl:m.inns.length≤5) (h:((DH m e).2==0)=true) (hk:(e.kind==4)=true) (ht:(DH m e).1=t):iIn (IntKind.i64.wrap ((m.inns.length:Int) - 1)) (m.inns.length:Int)=true∧iIn (IntKind.i64.wrap ((m.inns.length:Int) - 1)) (t.inns.length:Int)=true:=by
 obtain ⟨_,h2,_,h4⟩:=VB h hk;have:=UU h2 (show m.inns.length≤1000000 by omega);rw [← ht,h4,List.length_set];exact ⟨this,this⟩
set_option maxHeartbeats 8000000 in
theorem cn {N:Nat} {r8:Bool} {r0:ByteArray} {r13:Rows} {L:Rows} (hN:2097152<N) (hs:r0.size≤1048576) (h13:r13.length≤1048576) (hL:L.length≤1048576):Hq N [.str r0,.int r1,.int r2,.int r3,.int r4,.int r5,.int r6,.int r7,.bool r8,.int r9,.int r10,.int r11,.int r12,.rows r13,.rows L]=some (ji (Cu (⟨r0,r1,r2,r3,r4,r5,r6,r7,r8,r9,r10,r11,r12,r13⟩:Rul) L) (IR (⟨r0,r1,r2,r3,r4,r5,r6,r7,r8,r9,r10,r11,r12,r13⟩:Rul) L)):=by
  show NM (std (Du N) N) (xOf _)=_;generalize hres:(some (ji (Cu (⟨r0,r1,r2,r3,r4,r5,r6,r7,r8,r9,r10,r11,r12,r13⟩:Rul) L) (IR (⟨r0,r1,r2,r3,r4,r5,r6,r7,r8,r9,r10,r11,r12,r13⟩:Rul) L)):Option (List PV))=RR;simp only [NM,VK,Nd,JG,lq9,std,xOf,PXb,lR hN hs h13];subst hres;simp only [Cu,IR];have nk:=mK (⟨r0,r1,r2,r3,r4,r5,r6,r7,r8,r9,r10,r11,r12,r13⟩:Rul);generalize Ab (⟨r0,r1,r2,r3,r4,r5,r6,r7,r8,r9,r10,r11,r12,r13⟩:Rul)=X at nk;obtain ⟨⟨⟨m0,m1,m2,m3,m4,m5,m6,m7,m8,m9,m10,m11,m12,m13⟩,m14,m15,m16,m17,m18,m19,m20,m21,m22⟩,l⟩:=X;simp only at nk;simp only [PXb,PXc,PXk,Nat.reduceAdd];cases hl:l==0
  case false=>rfl
  have ok:=nk hl;simp only [PXb];refine AU (fe (St:=Rows×Mat) (len:=L.length) (enc:=fun i s=>[.rows s.1,.int (i:Int),.str s.2.rules.name,.int s.2.rules.side,.int s.2.rules.innings,.int s.2.rules.overs,.int s.2.rules.balls,.int s.2.rules.quota,.int s.2.rules.wide,.int s.2.rules.noball,.bool s.2.rules.freehit,.int s.2.rules.newball,.int s.2.rules.followon,.int s.2.rules.reviews,.int s.2.rules.outside,.rows s.2.rules.power,.int s.2.stage,.int s.2.first,.bool s.2.follow,.rows (Ai s.2.inns),.int s.2.pen1,.int s.2.pen2,.int s.2.win,.int s.2.wside,.int s.2.margin])
    (body:=Rt L) (fin:=fun s=>.int 1::.rows s.1::s.2.ls) (fun i s=>StepOk (⟨r0,r1,r2,r3,r4,r5,r6,r7,r8,r9,r10,r11,r12,r13⟩:Rul) s.2∧s.1.length≤i) ?_ ?_ L.length 0 ([],(⟨⟨m0,m1,m2,m3,m4,m5,m6,m7,m8,m9,m10,m11,m12,m13⟩,m14,m15,m16,m17,m18,m19,m20,m21,m22⟩:Mat)) N (by omega) (by omega) ⟨ok,Nat.zero_le _⟩) ?_
  · intro m self _;simp only [PXb,PXc,PXn,AG,A2];rfl
  · intro i s self hi ok;obtain ⟨out,⟨⟨a0,a1,a2,a3,a4,a5,a6,a7,a8,a9,a10,a11,a12,a13⟩,a14,a15,a16,a17,a18,a19,a20,a21,a22⟩⟩:=s;obtain ⟨ok,hout⟩:=ok;have o1:=ok.rules;have o2:=ok.fit;have o3:=ok.len;simp only at o1 o2 o3 hout;cases o1;have kp:=kd ok (i:Int) (evR L i);have acc:=XG (m:=(⟨⟨r0,r1,r2,r3,r4,r5,r6,r7,r8,r9,r10,r11,r12,r13⟩,a14,a15,a16,a17,a18,a19,a20,a21,a22⟩:Mat)) (i:=(i:Int)) (e:=evR L i);refine ⟨?_,?_⟩
    · simp only [PXb,PXc,PXn,AG,Ax (show i≤1099511627776 by omega),Av hi,AN hi,Nd,nA hN o2 (show a17.length≤1000000 by omega) hs h13,DU,uD,Nat.reduceAdd,PXk,PXc,vu,List.length_append,List.length_cons,List.length_nil,JG];unfold Rt;simp only;generalize hT:A1 (i:Int) (⟨⟨r0,r1,r2,r3,r4,r5,r6,r7,r8,r9,r10,r11,r12,r13⟩,a14,a15,a16,a17,a18,a19,a20,a21,a22⟩:Mat) (evR L i)=T at acc;obtain ⟨⟨⟨b0,b1,b2,b3,b4,b5,b6,b7,b8,b9,b10,b11,b12,b13⟩,b14,b15,b16,b17,b18,b19,b20,b21,b22⟩,l2⟩:=T;simp only at acc;simp only;cases hl2:l2==0
      case false=>rfl
      have hk0:(evR L i).kind=atI L i 0:=rfl;rw [hk0];simp only [PXb];cases hk:atI L i 0==4
      case false=>rfl
      have ha:=(acc hl2).1;have hd:=ul (m:=(⟨⟨r0,r1,r2,r3,r4,r5,r6,r7,r8,r9,r10,r11,r12,r13⟩,a14,a15,a16,a17,a18,a19,a20,a21,a22⟩:Mat)) (e:=evR L i) o3 (by rw [← ha];exact hl2) hk (congrArg Prod.fst ha).symm;simp only at hd;have h216:iSm ((out.length+1:Nat):Int) 216=true:=DV (by omega) (by omega);simp only [PXb,PXc,bP hd.1 hd.2,h216];rfl
    · intro s' h;unfold Rt at h;simp only at h;cases hq:(A1 (i:Int) (⟨⟨r0,r1,r2,r3,r4,r5,r6,r7,r8,r9,r10,r11,r12,r13⟩,a14,a15,a16,a17,a18,a19,a20,a21,a22⟩:Mat) (evR L i)).2==0 with
      | false=>rw [hq] at h;cases h
      | true =>
        rw [hq] at h;cases h;refine ⟨kp,?_⟩;cases (evR L i).kind==4 with
        | false=>show out.length≤_;omega
        | true=>show (out++[_]).length≤_;rw [List.length_append];simp;omega
  · rw [fZ];have he:=jC L L.length 0 (⟨⟨m0,m1,m2,m3,m4,m5,m6,m7,m8,m9,m10,m11,m12,m13⟩,m14,m15,m16,m17,m18,m19,m20,m21,m22⟩:Mat);simp only;generalize Mj L L.length 0 (⟨⟨m0,m1,m2,m3,m4,m5,m6,m7,m8,m9,m10,m11,m12,m13⟩,m14,m15,m16,m17,m18,m19,m20,m21,m22⟩:Mat) []=out;generalize Hs L L.length 0 (⟨⟨m0,m1,m2,m3,m4,m5,m6,m7,m8,m9,m10,m11,m12,m13⟩,m14,m15,m16,m17,m18,m19,m20,m21,m22⟩:Mat)=f at he;obtain ⟨⟨⟨a0,a1,a2,a3,a4,a5,a6,a7,a8,a9,a10,a11,a12,a13⟩,a14,a15,a16,a17,a18,a19,a20,a21,a22⟩,b,l⟩:=f;simp only at he;unfold nM;cases hb:b == -1 with
    | false=>rfl
    | true =>
      rw [he hb,beq_iff_eq.1 hb];rfl
theorem j8 {N:Nat} {r8:Bool} {r0:ByteArray} {r13:Rows} {L:Rows} (hN:2097152<N) (hs:r0.size≤1048576) (h13:r13.length≤1048576) (hL:L.length≤1048576):JD N [.str r0,.int r1,.int r2,.int r3,.int r4,.int r5,.int r6,.int r7,.bool r8,.int r9,.int r10,.int r11,.int r12,.rows r13,.rows L]=some (sL (IR (⟨r0,r1,r2,r3,r4,r5,r6,r7,r8,r9,r10,r11,r12,r13⟩:Rul) L)):=by
 show I9 (std (Eo N) N) (xOf _)=_;generalize hres:(some (sL (IR (⟨r0,r1,r2,r3,r4,r5,r6,r7,r8,r9,r10,r11,r12,r13⟩:Rul) L)):Option (List PV))=RR;simp only [I9,US,lq9,std,xOf,PXb,cn hN hs h13 hL];subst hres;rfl
def Dg (r:Rul) (L:Rows):Int:=cond (!(BK r==0)) (BK r) (cond (iLt 4000 (L.length:Int)) 9 (cond (!((IR r L).2.2==0)) 10 0))
theorem lN {N:Nat} {r8:Bool} {r0:ByteArray} {r13:Rows} {L:Rows} (hN:2097152<N) (hs:r0.size≤1048576) (h13:r13.length≤1048576) (hL:L.length≤1048576):Kb N [.str r0,.int r1,.int r2,.int r3,.int r4,.int r5,.int r6,.int r7,.bool r8,.int r9,.int r10,.int r11,.int r12,.rows r13,.rows L]=some [.int (Dg (⟨r0,r1,r2,r3,r4,r5,r6,r7,r8,r9,r10,r11,r12,r13⟩:Rul) L)]:=by
 show Kd (std (EJ N) N) (xOf _)=_;generalize hres:(some [.int (Dg (⟨r0,r1,r2,r3,r4,r5,r6,r7,r8,r9,r10,r11,r12,r13⟩:Rul) L)]:Option (List PV))=RR;simp only [Kd,SB,TG,lq9,std,xOf,PXb,C9 hN hs,j8 hN hs h13 hL,PXm];subst hres;simp only [Dg];rfl
structure LogOk (m:Mat):Prop where
 fit:KN m.inns
 len:m.inns.length≤5
 name:m.rules.name.size≤1048576
 power:m.rules.power.length≤1048576
def acc (L:Rows):Nat→Nat→Mat→Prop
 | 0,_,_=>True
 | k+1,i,m=>((A1 i m (evR L i)).2==0)=true∧acc L k (i+1) (A1 i m (evR L i)).1
def stM (L:Rows):Nat→Nat→Mat→Mat
 | 0,_,m=>m
 | k+1,i,m=>stM L k (i+1) (A1 i m (evR L i)).1
def Uo (L:Rows):Nat→Nat→Mat→Rows→Rows
 | 0,_,_,out=>out
 | k+1,i,m,out=>Uo L k (i+1) (A1 i m (evR L i)).1 (cond ((evR L i).kind==4) (out++[IH i m (A1 i m (evR L i)).1 (evR L i).ball]) out)
theorem Zc (L : Rows) : ∀ K i m, ∃ k, k ≤ K ∧ acc L k i m ∧ (∀ out, Mj L K i m out = Uo L k i m out) ∧
    ((k=K∧Hs L K i m=(stM L k i m,-1,0))∨(k<K∧((A1 ((i+k:Nat):Int) (stM L k i m) (evR L (i+k))).2==0)=false∧Hs L K i m=(stM L k i m,((i+k:Nat):Int),(A1 ((i+k:Nat):Int) (stM L k i m) (evR L (i+k))).2)))
  | 0,i,m=>⟨0,Nat.le_refl _,trivial,fun _=>rfl,Or.inl ⟨rfl,rfl⟩⟩
  | K+1,i,m=>by
    cases hq:(A1 i m (evR L i)).2==0 with
    | false =>
      refine ⟨0,Nat.zero_le _,trivial,fun out=>?_,Or.inr ⟨Nat.succ_pos _,hq,?_⟩⟩
      · simp only [Mj,hq,Bool.not_false,cond_true];rfl
      · simp only [Hs,hq,Bool.not_false,cond_true];rfl
    | true =>
      obtain ⟨k,h1,h2,h3,h4⟩:=Zc L K (i+1) (A1 i m (evR L i)).1;refine ⟨k+1,Nat.succ_le_succ h1,⟨hq,h2⟩,fun out=>?_,?_⟩
      · simp only [Mj,hq,Bool.not_true,cond_false];exact h3 _
      · have e:Hs L (K+1) i m=Hs L K (i+1) (A1 i m (evR L i)).1:=by simp only [Hs,hq,Bool.not_true,cond_false]
        rw [e,show i+(k+1)=i+1+k by omega]
        rcases h4 with ⟨h5,h6⟩ | ⟨h5,h6⟩
        · exact Or.inl ⟨by omega,h6⟩
        · exact Or.inr ⟨by omega,h6⟩
theorem qM (r:Rul):((Ab r).2==0)=(BK r==0):=by
 unfold Ab;cases h:BK r==0 with
 | false=>exact h
 | true=>rfl
theorem kD {L:Rows}:∀ k i m,stM L (k+1) i m=(A1 ((i+k:Nat):Int) (stM L k i m) (evR L (i+k))).1
 | 0,i,m=>rfl
 | k+1,i,m=>by
  show stM L (k+1) (i+1) _=_;rw [kD k (i+1),show i+1+k=i+(k+1) by omega];rfl
theorem Tx {L:Rows}:∀ k i m,acc L k i m→∀ j,j<k→((A1 ((i+j:Nat):Int) (stM L j i m) (evR L (i+j))).2==0)=true
 | 0,_,_,_,j,h=>absurd h (Nat.not_lt_zero j)
 | k+1,i,m,ha,0,_=>ha.1
 | k+1,i,m,ha,j+1,h=>by
  have:=Tx k (i+1) _ ha.2 j (by omega);rw [show i+1+j=i+(j+1) by omega] at this;exact this
theorem mg (r:Rul) (L:Rows):(Cu r L).length≤L.length:=by
 unfold Cu;cases (Ab r).2==0 with
 | false=>exact Nat.zero_le _
 | true =>
  have:=jB L L.length 0 (Ab r).1 [];rw [List.length_nil,Nat.zero_add] at this;exact this
end Go.Px
end
