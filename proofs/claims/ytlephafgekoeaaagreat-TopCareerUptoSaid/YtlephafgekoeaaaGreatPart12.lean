/- Part 12. -/
import Derived.Test.YtlephafgekoeaaaGreatPart11
import Derived.Test.YtlephafgekoeaaaGreatPart10
set_option linter.unusedVariables false
set_option linter.unusedSimpArgs false
variable {r1 r2 r3 r4 r5 r6 r7 r9 r10 r11 r12:Int}
variable {m1 m2 m3 m4 m5 m6 m7 m9 m10 m11 m12 m14 m15 m18 m19 m20 m21 m22:Int}
section
namespace Go.Px
set_option maxRecDepth 100000
structure Small (s:Inn):Prop where
 target:s.target≤999999900
 runs:s.runs≤999999900
 wides:s.wides≤999999900
 noballs:s.noballs≤999999900
 byes:s.byes≤999999900
 legbyes:s.legbyes≤999999900
 pens:s.pens≤999999900
 complete:s.complete≤999999900
 ballage:s.ballage≤999999900
 rev1:s.rev1≤999999900
 rev2:s.rev2≤999999900
 bowled:∀j,j<s.bowled.length→atI s.bowled j 0≤999999900
def Bo (n:Int):Int:=IntKind.i64.wrap (3-n)
theorem Jf {N:Nat} {n:Int}  : Ba N [.int n]=some [.int (Bo n)]:=by
 rfl
def Df (m:Mat) (i:Int):Int:=cond (cond (m.follow&&iLe 2 i) (i==2) (i.tmod 2==1)) (Bo m.first) m.first
theorem Rr {N:Nat} {m8 m16:Bool} {m0:ByteArray} {m13:Rows} {m17:List Inn} {i:Int}  : D0 N [.str m0,.int m1,.int m2,.int m3,.int m4,.int m5,.int m6,.int m7,.bool m8,.int m9,.int m10,.int m11,.int m12,.rows m13,.int m14,.int m15,.bool m16,.rows (As m17),.int m18,.int m19,.int m20,.int m21,.int m22,.int i]=some [.int (Df (⟨⟨m0,m1,m2,m3,m4,m5,m6,m7,m8,m9,m10,m11,m12,m13⟩,m14,m15,m16,m17,m18,m19,m20,m21,m22⟩:Mat) i)]:=by
 show Mo (std (Oj N) N) (xOf _)=_;generalize hres:(some [.int (Df (⟨⟨m0,m1,m2,m3,m4,m5,m6,m7,m8,m9,m10,m11,m12,m13⟩,m14,m15,m16,m17,m18,m19,m20,m21,m22⟩:Mat) i)]:Option (List PV))=RR;simp only[Mo,Sr,lq9,std,xOf,PXb,PXc,PXn,PXm,Nat.reduceAdd,Int.reduceBEq,Jf];trivial
def R5 (xs:List Inn) (side:Int):Nat→Int
 |0=>0
 |i+1=>cond ((inn xs i).side==side) (IntKind.i64.wrap (R5 xs side i+(inn xs i).runs)) (R5 xs side i)
def DZ (m:Mat) (side:Int):Int:=R5 m.inns side m.inns.length
theorem Rf {N:Nat} {m8 m16:Bool} {m0:ByteArray} {m13:Rows} {m17:List Inn} {n:Int} (hN:2097152<N) (hl:m17.length≤1048576):CP N [.str m0,.int m1,.int m2,.int m3,.int m4,.int m5,.int m6,.int m7,.bool m8,.int m9,.int m10,.int m11,.int m12,.rows m13,.int m14,.int m15,.bool m16,.rows (As m17),.int m18,.int m19,.int m20,.int m21,.int m22,.int n]=some [.int (DZ (⟨⟨m0,m1,m2,m3,m4,m5,m6,m7,m8,m9,m10,m11,m12,m13⟩,m14,m15,m16,m17,m18,m19,m20,m21,m22⟩:Mat) n)]:=by
 show M0 (std (VK N) N) (xOf _)=_;generalize hres:(some [.int (DZ (⟨⟨m0,m1,m2,m3,m4,m5,m6,m7,m8,m9,m10,m11,m12,m13⟩,m14,m15,m16,m17,m18,m19,m20,m21,m22⟩:Mat) n)]:Option (List PV))=RR;simp only[M0,lq9,std,xOf,PXb,PXi];subst hres;simp only[DZ];refine AN (BP (len:=m17.length) (fun i=>[.int (R5 m17 n i),.int (i:Int)]) [.int (R5 m17 n m17.length)] ?_ ?_ N (by omega)) rfl
 ·intro self;simp only[PXb,PXc,PXn,AE,Aj]
 intro i self hi;simp only[PXb,PXc,AE,A9 (show i≤1099511627776 by omega),Aa hi,AJ hi,PXi,R5]
 grind
def Gu (m:Mat) (side:Int):Int :=
 cond (iLt (IntKind.i64.wrap ((m.inns.length:Int)+1)) (IntKind.i64.wrap (2*m.rules.innings))) 0 (IntKind.i64.wrap (IntKind.i64.wrap (DZ m (Bo side)-DZ m side)+1))
theorem Wo {N:Nat} {m8 m16:Bool} {m0:ByteArray} {m13:Rows} {m17:List Inn} {n:Int} (hN:2097152<N) (hl:m17.length≤1048576):IZ N [.str m0,.int m1,.int m2,.int m3,.int m4,.int m5,.int m6,.int m7,.bool m8,.int m9,.int m10,.int m11,.int m12,.rows m13,.int m14,.int m15,.bool m16,.rows (As m17),.int m18,.int m19,.int m20,.int m21,.int m22,.int n]=some [.int (Gu (⟨⟨m0,m1,m2,m3,m4,m5,m6,m7,m8,m9,m10,m11,m12,m13⟩,m14,m15,m16,m17,m18,m19,m20,m21,m22⟩:Mat) n)]:=by
 show L2 (std (I2 N) N) (xOf _)=_;generalize hres:(some [.int (Gu (⟨⟨m0,m1,m2,m3,m4,m5,m6,m7,m8,m9,m10,m11,m12,m13⟩,m14,m15,m16,m17,m18,m19,m20,m21,m22⟩:Mat) n)]:Option (List PV))=RR;simp only[L2,Rv,R7,lq9,std,xOf,PXb,PXc,PXn,PXm,Nat.reduceAdd,Int.reduceBEq,PXi,Jf,Rf hN hl];trivial
def je (stage:Int) (xs:List Inn) (i:Nat):Bool := !(((inn xs i).ending==0)==(stage==3&&((i:Int)==IntKind.i64.wrap ((xs.length:Int)-1))))
def aH (m:Mat):Bool := !A8 (je m.stage m.inns) m.inns.length 0&&(!(m.stage==3)||iLt 0 (m.inns.length:Int))
theorem nS {N:Nat} {m8 m16:Bool} {m0:ByteArray} {m13:Rows} {m17:List Inn} (hN:2097152<N) (hl:m17.length≤1048576):Ji N [.str m0,.int m1,.int m2,.int m3,.int m4,.int m5,.int m6,.int m7,.bool m8,.int m9,.int m10,.int m11,.int m12,.rows m13,.int m14,.int m15,.bool m16,.rows (As m17),.int m18,.int m19,.int m20,.int m21,.int m22]=some [.bool (aH (⟨⟨m0,m1,m2,m3,m4,m5,m6,m7,m8,m9,m10,m11,m12,m13⟩,m14,m15,m16,m17,m18,m19,m20,m21,m22⟩:Mat))]:=by
 show NC (std (Vt N) N) (xOf _)=_;generalize hres:(some [.bool (aH (⟨⟨m0,m1,m2,m3,m4,m5,m6,m7,m8,m9,m10,m11,m12,m13⟩,m14,m15,m16,m17,m18,m19,m20,m21,m22⟩:Mat))]:Option (List PV))=RR;simp only[NC,lq9,std,xOf,PXb,PXi];subst hres;simp only[aH];refine AN (NL (len:=m17.length) (je m14 m17) [.bool false] ?_ ?_ N (by omega)) ?_
 ·intro self;simp only[PXb,PXc,PXn,AE,Aj]
 ·intro i self hi;simp only[PXb,PXc,AE,A9 (show i≤1099511627776 by omega),Aa hi,AJ hi,PXi,je]
 cases A8 (je m14 m17) m17.length 0
 ·rfl
 rfl
def MG (xs:List Inn):Prop:=∀i,i<xs.length→(inn xs i).Fit
theorem ZF {N:Nat} {r8:Bool} {r0:ByteArray} {r13:Rows} (hl:r13.length≤1048576):D2 N [.str r0,.int r1,.int r2,.int r3,.int r4,.int r5,.int r6,.int r7,.bool r8,.int r9,.int r10,.int r11,.int r12,.rows r13]=some [.str r0,.int r1,.int r2,.int r3,.int r4,.int r5,.int r6,.int r7,.bool r8,.int r9,.int r10,.int r11,.int r12,.rows r13]:=by
 show M3 (std (OM N) N) (xOf _)=_;simp only[M3,Nb,lq9,std,xOf,PXb,PXc,PXn,PXm,Nat.reduceAdd,Int.reduceBEq,Dv,BN hl (show 24≤4096 by omega)]
theorem nO {xs:List Inn} {i:Nat} (h:i<xs.length):xs.take i++[inn xs i]=xs.take (i+1):=by
 rw[List.take_add_one,Ol,zzn h];rfl
theorem nJ {N:Nat} {m8 m16:Bool} {m0:ByteArray} {m13:Rows} {m17:List Inn} (hf:MG m17) (hN:2097152<N) (hl:m17.length≤1000000) (h13:m13.length≤1048576):Jh N [.str m0,.int m1,.int m2,.int m3,.int m4,.int m5,.int m6,.int m7,.bool m8,.int m9,.int m10,.int m11,.int m12,.rows m13,.int m14,.int m15,.bool m16,.rows (As m17),.int m18,.int m19,.int m20,.int m21,.int m22]=some [.str m0,.int m1,.int m2,.int m3,.int m4,.int m5,.int m6,.int m7,.bool m8,.int m9,.int m10,.int m11,.int m12,.rows m13,.int m14,.int m15,.bool m16,.rows (As m17),.int m18,.int m19,.int m20,.int m21,.int m22]:=by
 show M5 (std (KP N) N) (xOf _)=_;simp only[M5,Se,Ik,lq9,std,xOf,PXb,ZF h13,PXi];refine AN (BP (len:=m17.length) (fun i=>[.rows (As (m17.take i)),.int (i:Int)]) [.rows (As m17)] ?_ ?_ N (by omega)) rfl
 ·intro self;simp only[PXb,PXc,PXn,AE,Aj,List.take_length]
 intro i self hi;have h2:(m17.take (i+1)).length≤1048576:=by grind
 have h3:iSm ((m17.take (i+1)).length:Int) 304=true:=C4 (by omega) (by omega);simp only[PXb,PXc,AE,A9 (show i≤1099511627776 by omega),Aa hi,AJ hi,PXi,Ik,Cj (hf i hi),PXr,Inn.eta,h3,nO hi,Nat.reduceAdd];rfl
def ACw:Rul:=⟨⟨#[]⟩,0,0,0,0,0,0,0,false,0,0,0,0,[]⟩
def AAO:Mat:=⟨ACw,0,0,false,[],0,0,0,0,0⟩
def AM (r:Rul):Mat×Int:=cond (!(BA r==0)) (AAO,BA r) (⟨r,1,0,false,[],0,0,0,0,0⟩,0)
theorem sL {N:Nat} {r8:Bool} {r0:ByteArray} {r13:Rows} (hN:2097152<N) (hs:r0.size≤1048576) (h13:r13.length≤1048576):Qr N [.str r0,.int r1,.int r2,.int r3,.int r4,.int r5,.int r6,.int r7,.bool r8,.int r9,.int r10,.int r11,.int r12,.rows r13]=some (YY (AM (⟨r0,r1,r2,r3,r4,r5,r6,r7,r8,r9,r10,r11,r12,r13⟩:Rul))):=by
 show Qs (std (ND N) N) (xOf _)=_;generalize hres:(some (YY (AM (⟨r0,r1,r2,r3,r4,r5,r6,r7,r8,r9,r10,r11,r12,r13⟩:Rul))):Option (List PV))=RR;simp only[Qs,Uq,Ul,lq9,std,xOf,PXb,PXc,PXn,PXm,Nat.reduceAdd,Int.reduceBEq,DP hN hs,ZF h13];subst hres;simp only[AM];cases BA (⟨r0,r1,r2,r3,r4,r5,r6,r7,r8,r9,r10,r11,r12,r13⟩:Rul)==0<;>rfl
def gR (m:Mat):Bool:=(iLt m.pen1 0||iLt 1000000 m.pen1)||(iLt m.pen2 0||iLt 1000000 m.pen2)
def Zo (m:Mat) (i:Nat):Bool := !LD m.rules (inn m.inns i) || !((inn m.inns i).side==Df m (i:Int))
def oK (m:Mat):Bool :=
  let n:Int:=m.inns.length
  let most:=IntKind.i64.wrap (2*m.rules.innings)
  BA m.rules==0&&(!(iLt m.stage 1)&&(!(iLt 5 m.stage)&&(!gR m&&(!(iLt m.first 0||iLt 2 m.first||iLt most n)&&(!(m.first==0&&(iLt 0 n||(!(m.stage==1) && !(m.stage==5)))) &&
    (!(m.stage==1 && !(m.first==0))&&(!(m.stage==2&&n==most)&&(!(m.stage==4&&(!(m.rules.innings==2) || !(n==2))) && !(m.follow&&(!(m.rules.innings==2)||iLt n 2))))))))))
def IX (m:Mat):Bool:=oK m&&(!A8 (Zo m) m.inns.length 0&&aH m)
set_option maxHeartbeats 4000000 in
theorem Y4 {N:Nat} {m8 m16:Bool} {m0:ByteArray} {m13:Rows} {m17:List Inn} (hf:MG m17) (hN:2097152<N) (hl:m17.length≤1000000) (hs:m0.size≤1048576):D3 N [.str m0,.int m1,.int m2,.int m3,.int m4,.int m5,.int m6,.int m7,.bool m8,.int m9,.int m10,.int m11,.int m12,.rows m13,.int m14,.int m15,.bool m16,.rows (As m17),.int m18,.int m19,.int m20,.int m21,.int m22]=some [.bool (IX (⟨⟨m0,m1,m2,m3,m4,m5,m6,m7,m8,m9,m10,m11,m12,m13⟩,m14,m15,m16,m17,m18,m19,m20,m21,m22⟩:Mat))]:=by
 show Mt (std (E5 N) N) (xOf _)=_;generalize hres:(some [.bool (IX (⟨⟨m0,m1,m2,m3,m4,m5,m6,m7,m8,m9,m10,m11,m12,m13⟩,m14,m15,m16,m17,m18,m19,m20,m21,m22⟩:Mat))]:Option (List PV))=RR;simp only[Mt,Sg,Is,KJ,KC,lq9,std,xOf,PXb,DP hN hs,PXi];subst hres;simp only[IX,oK];cases hc:BA (⟨⟨m0,m1,m2,m3,m4,m5,m6,m7,m8,m9,m10,m11,m12,m13⟩,m14,m15,m16,m17,m18,m19,m20,m21,m22⟩:Mat).rules==0<;>(try rfl);cases h1:iLt m14 1<;>(try rfl);cases h5:iLt 5 m14<;>(try rfl);simp only[PXb];refine AN (NL (len:=2) (fun i=>iLt (cond ((i:Int)==1) m19 m18) 0||iLt 1000000 (cond ((i:Int)==1) m19 m18)) [.bool false] ?_ ?_ N (by omega)) ?_
 ·intro self;rfl
 ·intro i self hi;simp only[PXb,A9 (show i≤1099511627776 by omega),show iLt (i:Int) 2=true from Aa (len:=2) hi,show iIn (i:Int) 2=true from AJ (len:=2) hi]
 have hp:A8 (fun i=>iLt (cond ((i:Int)==1) m19 m18) 0||iLt 1000000 (cond ((i:Int)==1) m19 m18)) 2 0=gR (⟨⟨m0,m1,m2,m3,m4,m5,m6,m7,m8,m9,m10,m11,m12,m13⟩,m14,m15,m16,m17,m18,m19,m20,m21,m22⟩:Mat):=by
  simp only[Bz,Kn,Bool.or_false];rfl
 rw[hp];cases gR (⟨⟨m0,m1,m2,m3,m4,m5,m6,m7,m8,m9,m10,m11,m12,m13⟩,m14,m15,m16,m17,m18,m19,m20,m21,m22⟩:Mat)
 case true=>rfl
 simp only[PXb,RT,Int.reduceBEq];cases iLt m15 0<;>try rfl
 cases iLt 2 m15<;>try rfl
 cases iLt (IntKind.i64.wrap (2*m2)) (m17.length:Int)<;>try rfl
 cases(m15==0&&(iLt 0 (m17.length:Int)||(!(m14==1) && !(m14==5))))<;>try rfl
 cases(m14==1 && !(m15==0))<;>try rfl
 cases(m14==2&&(m17.length:Int)==IntKind.i64.wrap (2*m2))<;>try rfl
 cases(m14==4&&(!(m2==2) || !((m17.length:Int)==2)))<;>try rfl
 cases(m16&&(!(m2==2)||iLt (m17.length:Int) 2))<;>try rfl
 simp only[PXb];refine AN (NL (len:=m17.length) (Zo (⟨⟨m0,m1,m2,m3,m4,m5,m6,m7,m8,m9,m10,m11,m12,m13⟩,m14,m15,m16,m17,m18,m19,m20,m21,m22⟩:Mat)) [.bool false] ?_ ?_ N (by omega)) ?_
 ·intro self;simp only[PXb,PXc,PXn,AE,Aj]
 ·intro i self hi;simp only[PXb,PXc,PXn,PXm,Nat.reduceAdd,Int.reduceBEq,A9 (show i≤1099511627776 by omega),Aa hi,AJ hi,PXi,Is,KJ,Uw (hf i hi) hN hs,Rr,Zo]
  grind
 cases A8 (Zo (⟨⟨m0,m1,m2,m3,m4,m5,m6,m7,m8,m9,m10,m11,m12,m13⟩,m14,m15,m16,m17,m18,m19,m20,m21,m22⟩:Mat)) m17.length 0
 case true=>rfl
 simp only[PXb,PXc,PXn,PXm,Nat.reduceAdd,Int.reduceBEq,KC,nS hN (show m17.length≤1048576 by omega)]
def lnx (xs:List Inn):Nat:=(IntKind.i64.wrap ((xs.length:Int)-1)).toNat
def AO (m:Mat):Inn:=inn m.inns (lnx m.inns)
theorem Wx {n:Nat} (h:((n:Int)==0)=false) (hl:n≤1000000):iIn (IntKind.i64.wrap ((n:Int)-1)) (n:Int)=true:=by
 rw[beq_eq_false_iff_ne]at h;rw[A6 (by omega) (by omega)];simp only[iIn,decide_eq_true_eq];omega
theorem bW {xs:List Inn} (h:((xs.length:Int)==0)=false) (hl:xs.length≤1000000):lnx xs<xs.length:=by
 rw[beq_eq_false_iff_ne]at h;unfold lnx;rw[A6 (by omega) (by omega)];omega
def iQ (r:Rul):Int:=cond (r.overs==0) 5 6
theorem Ka {N:Nat} {r8:Bool} {r0:ByteArray} {r13:Rows}  : CE N [.str r0,.int r1,.int r2,.int r3,.int r4,.int r5,.int r6,.int r7,.bool r8,.int r9,.int r10,.int r11,.int r12,.rows r13]=some [.int (iQ (⟨r0,r1,r2,r3,r4,r5,r6,r7,r8,r9,r10,r11,r12,r13⟩:Rul))]:=by
 show G1 (std (PI N) N) (xOf _)=_;simp only[G1,lq9,std,xOf,PXb,PXc,PXn,PXm,Nat.reduceAdd,Int.reduceBEq,iQ]
def AAB (x:Int×Int×Int):List PV:=[.int x.1,.int x.2.1,.int x.2.2]
def Xr (m:Mat):Int×Int×Int :=
  let n:Int:=m.inns.length
  let most:=IntKind.i64.wrap (2*m.rules.innings)
  let x:=AO m
  cond (!IX m||n==0) (0,0,0) (cond (x.ending==5) (iQ m.rules,0,0) (cond (x.ending==0) (0,0,0)
    (cond (n==most&&iLe x.target x.runs) (2,x.side,IntKind.i64.wrap (IntKind.i64.wrap (m.rules.side-1)-x.wickets)) (cond (n==most&&x.runs==IntKind.i64.wrap (x.target-1)) (4,0,0)
      (cond (n==most) (1,Bo x.side,IntKind.i64.wrap (IntKind.i64.wrap (x.target-1)-x.runs))
        (cond (n==3&&iLt (DZ m x.side) (DZ m (Bo x.side))) (3,Bo x.side,IntKind.i64.wrap (DZ m (Bo x.side)-DZ m x.side)) (0,0,0)))))))
set_option maxHeartbeats 4000000 in
theorem im {N:Nat} {m8 m16:Bool} {m0:ByteArray} {m13:Rows} {m17:List Inn} (hf:MG m17) (hN:2097152<N) (hl:m17.length≤1000000) (hs:m0.size≤1048576):Gy N [.str m0,.int m1,.int m2,.int m3,.int m4,.int m5,.int m6,.int m7,.bool m8,.int m9,.int m10,.int m11,.int m12,.rows m13,.int m14,.int m15,.bool m16,.rows (As m17),.int m18,.int m19,.int m20,.int m21,.int m22]=some (AAB (Xr (⟨⟨m0,m1,m2,m3,m4,m5,m6,m7,m8,m9,m10,m11,m12,m13⟩,m14,m15,m16,m17,m18,m19,m20,m21,m22⟩:Mat))):=by
 show KE (std (Dz N) N) (xOf _)=_;generalize hres:(some (AAB (Xr (⟨⟨m0,m1,m2,m3,m4,m5,m6,m7,m8,m9,m10,m11,m12,m13⟩,m14,m15,m16,m17,m18,m19,m20,m21,m22⟩:Mat))):Option (List PV))=RR;simp only[KE,RH,Qx,Q5,NW,lq9,std,xOf,PXb,PXi,Y4 hf hN hl hs,Jf,Ka,Rf hN (show m17.length≤1048576 by omega)];subst hres;simp only[Xr,AO,lnx];cases hv:IX (⟨⟨m0,m1,m2,m3,m4,m5,m6,m7,m8,m9,m10,m11,m12,m13⟩,m14,m15,m16,m17,m18,m19,m20,m21,m22⟩:Mat)
 case false=>rfl
 cases h0:(m17.length:Int)==0
 case true=>rfl
 simp only[PXb,Wx h0 hl];generalize inn m17 (IntKind.i64.wrap ((m17.length:Int)-1)).toNat=x;cases x.ending==5
 case true=>rfl
 cases x.ending==0
 case true=>rfl
 cases(m17.length:Int)==IntKind.i64.wrap (2*m2)<;>cases iLe x.target x.runs<;>cases x.runs==IntKind.i64.wrap (x.target-1)<;>try rfl
 all_goals (cases(m17.length:Int)==3<;>try rfl)
 all_goals (simp only[PXb];cases iLt (DZ (⟨⟨m0,m1,m2,m3,m4,m5,m6,m7,m8,m9,m10,m11,m12,m13⟩,m14,m15,m16,m17,m18,m19,m20,m21,m22⟩:Mat) x.side) (DZ (⟨⟨m0,m1,m2,m3,m4,m5,m6,m7,m8,m9,m10,m11,m12,m13⟩,m14,m15,m16,m17,m18,m19,m20,m21,m22⟩:Mat) (Bo x.side))<;>rfl)
theorem pk:∀(n k:Nat) (f:Nat→Nat),(∀i,i<k→1≤f i∧f i≤n)→(∀i j,i<j→j<k→f i≠f j)→k≤n
 |0,k,f,h,_=>by
  grind
 |n+1,0,f,_,_=>by omega
 |n+1,k+1,f,h,hi=>by
  by_cases he:∃j,j<k+1∧f j=n+1
  ·obtain⟨j,hj,hfj⟩:=he;have:=pk n k (fun i=>if i=j then f k else f i) (fun i hik=>by
    grind) (fun a b hab hb=>by
    grind)
   omega
  have:=pk n (k+1) f (fun i hik=>by
   grind) hi
  omega
theorem og {L:Rows} {n:Int} (h:Q8 L n=true) (hn:0≤n):(L.length:Int)≤n:=by
 unfold Q8 at h;rw[Bool.not_eq_true',EP]at h;have hb:∀i,i<L.length→1≤atI L i 0∧atI L i 0≤n:=fun i hi=>by
  have:=h i (by omega) (by omega);unfold S9 at this;rw[Bool.or_eq_false_iff,Bool.not_eq_false',XI]at this;omega
 have:=pk n.toNat L.length (fun i=>(atI L i 0).toNat) (fun i hi=>by grind) (fun i j hij hj=>by
  show(atI L i 0).toNat≠(atI L j 0).toNat;have h1:=hb i (by omega);have h2:=hb j hj;have h3:=h j (by omega) (by omega);unfold S9 at h3;rw[Bool.or_eq_false_iff]at h3;have h4:=EP.1 h3.2 i (by omega) (by omega)
  grind)
 omega
theorem Sq {r:Rul} {s:Inn} (h:LD r s=true):s.bowlers.length≤11∧s.before.length≤11∧s.Fit:=by
 have ok:=K7.1 h;have hs:=ABK ok;have h1:=og ok.dw (by omega);have h2:=og ok.df (by omega);have h3:=ok.lb;have h4:=ok.ld;have h5:=ok.lz;exact⟨by omega,by omega,by omega,by omega,by omega,by omega,by omega⟩
def VY (m:Mat) (e:Ev):Mat×Int :=
  let sd:=Df m (m.inns.length:Int)
  let b:=Ct m.rules sd (Gu m sd) (cond (sd==2) m.pen2 m.pen1)
  let t:=Az m.rules b.1 e
  cond (!(b.2==0)) (m,1) (cond (!(t.2==0)) (m,t.2)
    ({ m with stage:=3,inns:=m.inns++[t.1],pen1:=cond (sd==1) 0 m.pen1,pen2:=cond (sd==2) 0 m.pen2 },0))
def PE (xs:List Inn) (sd:Int):Nat→Option Nat
 |0=>none
 |k+1=>cond ((inn xs k).side==sd) (some k) (PE xs sd k)
def Jg (m:Mat) (sd:Int):Mat:=match PE m.inns sd m.inns.length with
 |some k=>{ m with inns:=m.inns.set k (MI (inn m.inns k)) }
 |none=>{ m with pen1:=cond (sd==1) (IntKind.i64.wrap (m.pen1+5)) m.pen1,pen2:=cond (sd==2) (IntKind.i64.wrap (m.pen2+5)) m.pen2 }
def EO (m:Mat) (e:Ev):Mat×Int :=
 let t:=Az m.rules (AO m) e
 cond (!(t.2==0)) (m,t.2) (cond (e.kind==13 && !(e.side==t.1.side)) (Jg { m with inns:=m.inns.set (lnx m.inns) t.1 } e.side) { m with inns:=m.inns.set (lnx m.inns) t.1 },0)
def Yh (m:Mat):Mat:={ m with inns:=cond (m.stage==3) (m.inns.set (lnx m.inns) { AO m with ending:=5 }) m.inns,stage:=5,win:=iQ m.rules,wside:=0,margin:=0 }
def GP (m:Mat) (e:Ev):Mat×Int :=
  cond (e.kind==1) (cond (!(m.stage==1)) (m,1) ({ m with first:=cond e.yes e.side (Bo e.side),stage:=2 },0))
    (cond (e.kind==2) (cond (!(m.stage==2)) (m,1) (VY m e))
      (cond (e.kind==12) (cond (!(m.stage==4)) (m,1) (cond (!(e.side==m.first)) (m,2) ({ m with follow:=e.yes,stage:=2 },0)))
        (cond (e.kind==16) (Yh m,0) (cond (!(m.stage==3)) (m,1) (EO m e)))))
def TE (m:Mat):Mat :=
  let n:Int:=m.inns.length
  let sd:=(AO m).side
  let o:=Xr { m with stage:=5 }
  cond (n==IntKind.i64.wrap (2*m.rules.innings)||(n==3&&iLt (DZ m sd) (DZ m (Bo sd)))) { m with stage:=5,win:=o.1,wside:=o.2.1,margin:=o.2.2 }
    (cond (n==2&&iLt 0 m.rules.followon&&iLe m.rules.followon (IntKind.i64.wrap (DZ m m.first-DZ m (Bo m.first)))) { m with stage:=4 } { m with stage:=2 })
def Cg (m:Mat):Mat:=cond (m.stage==3 && !((AO m).ending==0)) (TE m) m
def Cp (m:Mat) (e:Ev):Mat×Int :=
 cond (!IX m || !(evS e==0)) (m,1) (cond (m.stage==5) (m,26) (cond (!((GP m e).2==0)) (m,(GP m e).2) (Cg (GP m e).1,0)))
theorem ABI {X:Option (List PV)} {r:List PV} {k:List PV→Option (List PV)} {g:Option (List PV)} (h:X=some r) (hk:k r=g):X.bind k=g:=by simp_all
structure MatOk (m:Mat):Prop where
 code:BA m.rules=0
 len:m.inns.length≤4
 innv:∀i,i<m.inns.length→LD m.rules (inn m.inns i)=true∧(inn m.inns i).side=Df m (i:Int)
 begun:(m.stage==3)=true→((m.inns.length:Int)==0)=false
 toss:(m.stage==2)=true→m.first=1∨m.first=2
 room:(m.stage==2)=true→(m.inns.length:Int)<2*m.rules.innings
 most:IntKind.i64.wrap (2*m.rules.innings)=2*m.rules.innings∧(m.inns.length:Int)≤2*m.rules.innings
theorem aE {m:Mat} (h:IX m=true):MatOk m:=by
 unfold IX oK at h;simp only[zzj,Bool.not_eq_true']at h;obtain⟨⟨h1,h2,h3,h4,h5,h6,h7,h8,h9,h10⟩,h11,h12⟩:=h;have hc:=beq_iff_eq.1 h1;have rk:=(Dw hc).innings;have e2:IntKind.i64.wrap (2*m.rules.innings)=2*m.rules.innings:=A6 (by omega) (by omega);rw[e2]at h5 h8;rw[Bool.or_eq_false_iff,Bool.or_eq_false_iff]at h5;have hn:=h5.2;have hf1:=h5.1.1;have hf2:=h5.1.2;simp only[iLt,decide_eq_false_iff_not]at hn hf1 hf2;refine⟨hc,by omega,fun i hi=>?_,fun hs=>?_,fun hs=>?_,fun hs=>?_,e2,by omega⟩
 ·have:=EP.1 h11 i (by omega) (by omega);unfold Zo at this
  simp_all
 ·unfold aH at h12;rw[hs,zzj]at h12;have:=h12.2;simp only[iLt,Bool.not_true,Bool.false_or,decide_eq_true_eq]at this
  grind
 ·rw[beq_iff_eq.1 hs]at h6
  grind
 grind
theorem zm {m:Mat} (h:m.first=1∨m.first=2) (i:Int):Df m i=1∨Df m i=2:=by
 unfold Df;cases cond (m.follow&&iLe 2 i) (i==2) (i.tmod 2==1)
 ·exact h
 rcases h with h|h<;>rw[h]<;>decide
theorem mH {m:Mat} (h:MatOk m):MG m.inns:=fun i hi=>(Sq (h.innv i hi).1).2.2
theorem gY {F:(List AQ→Option (List PV))→List PV→Option (List PV)} {len:Nat} (enc:Nat→List AQ) (ans:Nat→Option (List PV))
    (h0:∀self,F self ((enc len).map Leaf.pv)=some [.int 1]) (h1:∀i self,i<len→F self ((enc i).map Leaf.pv)=match ans i with|some r=>some (.int 0::r)|none=>self (enc (i+1))) :
    ∀(k i n:Nat),i+k=len→k<n→C1 F n ((enc i).map Leaf.pv)=some (Qq (Ax ans k i))
  |0,i,n,hk,hn=>by
    obtain⟨n,rfl⟩:∃m,n=m+1:=⟨n-1,by omega⟩;obtain rfl:i=len:=by omega
    exact h0 _
  |k+1,i,n,hk,hn=>by
    obtain⟨n,rfl⟩:∃m,n=m+1:=⟨n-1,by omega⟩;show F _ _=_;rw[h1 i _ (by omega)];simp only[Ax];cases ans i with
    |some r=>rfl
    |none=>exact gY enc ans h0 h1 k (i+1) n (by omega) (by omega)
theorem uJ (ys:List Inn) (sd:Int) (g:Nat→List PV) (n:Nat):∀k,k≤n→Ax (fun j=>cond ((inn ys (n-1-j)).side==sd) (some (g (n-1-j))) none) k (n-k)=(PE ys sd k).map g
 |0,_=>rfl
 |k+1,h=>by
  have ih:=uJ ys sd g n k (by omega);have e:n-1-(n-(k+1))=k:=by omega
  have e2:n-(k+1)+1=n-k:=by omega
  simp only[Ax,PE,e,e2,ih]
  grind
theorem S4 (xs:List Inn) (k:Nat) (s:Inn) (i:Nat) (hi:i<xs.length):inn (xs.set k s) i=(if k=i then s else inn xs i):=by
 rw[Ol,Ol,List.getElem?_set]
 grind
theorem UH {xs:List Inn} {s:Inn} (k:Nat) (h:MG xs) (hs:s.Fit):MG (xs.set k s):=fun i hi=>by
 rw[List.length_set]at hi;rw[S4 xs k s i hi]
 by_cases e:k=i
 ·simp_all
 rw[if_neg e];exact h i hi
theorem xC {e:Ev} (h:(evS e==0)=true) (hk:(e.kind==13)=true):e.side=1∨e.side=2:=by
 have h0:=lD h;rw[beq_iff_eq]at hk;unfold evS at h;rw[h0]at h;cases h1:oj e
 ·cases h2:fM e
  ·unfold fM at h2;rw[Bool.or_eq_false_iff]at h2;have h3:=h2.1;rw[hk,show uS 13=true from rfl,Bool.and_true]at h3;simp only[btw,iLe,Bool.not_eq_false',zzj,decide_eq_true_eq]at h3;omega
  simp_all
 simp_all
theorem tw (xs:List Inn) (s:Inn) (i:Nat) (hi:i<xs.length+1):inn (xs++[s]) i=(if i<xs.length then inn xs i else s):=by
 rw[Ol,Ol]
 grind
theorem zj {xs:List Inn} {s:Inn} (h:MG xs) (hs:s.Fit):MG (xs++[s]):=fun i hi=>by
 rw[List.length_append]at hi;rw[tw xs s i hi]
 by_cases e:i<xs.length
 ·rw[if_pos e];exact h i e
 grind
theorem kU (r:Rul) (a b c:Int) (e:Ev):(Az r (Ct r a b c).1 e).1.Fit:=by
 obtain⟨f,h1,h2⟩:=Sv r a b c;exact TN (Vo r _ e) f (by simp_all)
structure ActOk (m:Mat) (x:Mat×Int):Prop where
 rules:x.1.rules=m.rules
 fit:MG x.1.inns
 len:x.1.inns.length≤5
 some':(x.2==0)=true→(x.1.stage==3)=true→((x.1.inns.length:Int)==0)=false
theorem A_c {m:Mat} (b:Bool) (x y:Mat×Int) (hx:ActOk m x) (hy:ActOk m y):ActOk m (cond b x y):=by grind
theorem o7 {m:Mat} (sd:Int) (hf:MG m.inns):(Jg m sd).rules=m.rules∧MG (Jg m sd).inns∧(Jg m sd).inns.length=m.inns.length∧(Jg m sd).stage=m.stage:=by
 unfold Jg;cases h:PE m.inns sd m.inns.length with
 |none=>trivial
 |some k =>
  have hk:k<m.inns.length:=by
   have:∀n,PE m.inns sd n=some k→k<n:=by
    intro n
    induction n with
    |zero=>intro h;cases h
    |succ n ih =>
     intro h;unfold PE at h
     grind
   simp_all
  exact⟨rfl,UH k hf (AA3 (hf k hk)),List.length_set,rfl⟩
theorem yK {m:Mat} (ok:MatOk m) (e:Ev):ActOk m (GP m e):=by
 have hf:=mH ok;have hl:=ok.len;have self:∀n:Int,(n==0)=false→ActOk m (m,n):=fun n hn=>⟨rfl,hf,by grind,fun h=>by simp_all⟩
 unfold GP;refine A_c _ _ _ (A_c _ _ _ (self 1 rfl) ⟨rfl,hf,by grind,fun _ h=>by cases h⟩) (A_c _ _ _ ?_ (A_c _ _ _ ?_ (A_c _ _ _ ?_ ?_)))
 ·refine A_c _ _ _ (self 1 rfl) ?_;unfold VY;refine A_c _ _ _ (self 1 rfl) ?_;cases hq:(Az m.rules (Ct m.rules (Df m (m.inns.length:Int)) (Gu m (Df m (m.inns.length:Int))) (cond (Df m (m.inns.length:Int)==2) m.pen2 m.pen1)).1 e).2==0
  ·simp_all
  simp only[Bool.not_true,cond_false];exact⟨rfl,zj hf (kU _ _ _ _ e),by simp;omega,fun _ _=>by
   grind⟩
 ·exact A_c _ _ _ (self 1 rfl) (A_c _ _ _ (self 2 rfl) ⟨rfl,hf,by grind,fun _ h=>by cases h⟩)
 ·unfold Yh;cases h3:m.stage==3
  ·exact⟨rfl,hf,by grind,fun _ h=>by cases h⟩
  have h0:=ok.begun h3;have fl:=hf (lnx m.inns) (bW h0 (by omega));exact⟨rfl,UH _ hf ⟨fl.bt,fl.bw,fl.bf,fl.bd,fl.sb⟩,by grind,fun _ h=>by cases h⟩
 cases h3:m.stage==3
 ·simp_all
 have h0:=ok.begun h3;have lv:=Sq (ok.innv (lnx m.inns) (bW h0 (by omega))).1;have h1:=lv.1;have h2:=lv.2.1;have ft:=TN (Vo m.rules (AO m) e) lv.2.2 (show(inn m.inns (lnx m.inns)).before.length+(inn m.inns (lnx m.inns)).bowlers.length≤1048575 by omega);simp only[Bool.not_true,cond_false,EO];cases hq:(Az m.rules (AO m) e).2==0
 ·simp_all
 have fs:=UH (lnx m.inns) hf ft;have ln:(m.inns.set (lnx m.inns) (Az m.rules (AO m) e).1).length=m.inns.length:=List.length_set;simp only[Bool.not_true,cond_false];cases(e.kind==13 && !(e.side==(Az m.rules (AO m) e).1.side))
 ·exact⟨rfl,fs,by grind,fun _ _=>by
   simp_all⟩
 obtain⟨a1,a2,a3,a4⟩:=o7 (m:={ m with inns:=m.inns.set (lnx m.inns) (Az m.rules (AO m) e).1 }) e.side fs;exact⟨a1,a2,by grind,fun _ _=>by
  simp_all⟩
set_option maxHeartbeats 8000000 in
theorem oT {N:Nat} {m8 m16:Bool} {m0:ByteArray} {m13:Rows} {m17:List Inn} {e0 e1 e2 e3 e5 e6 e7 e8 e9 e10 e11 e13 e14 e15 e16 e18:Int} {e4 e12 e17:Bool} (hN:2097152<N) (hf:MG m17) (hl:m17.length≤1000000) (hs:m0.size≤1048576) (h13:m13.length≤1048576):OZ N [.str m0,.int m1,.int m2,.int m3,.int m4,.int m5,.int m6,.int m7,.bool m8,.int m9,.int m10,.int m11,.int m12,.rows m13,.int m14,.int m15,.bool m16,.rows (As m17),.int m18,.int m19,.int m20,.int m21,.int m22,.int e0,.int e1,.int e2,.int e3,.bool e4,.int e5,.int e6,.int e7,.int e8,.int e9,.int e10,.int e11,.bool e12,.int e13,.int e14,.int e15,.int e16,.bool e17,.int e18]=some (YY (Cp (⟨⟨m0,m1,m2,m3,m4,m5,m6,m7,m8,m9,m10,m11,m12,m13⟩,m14,m15,m16,m17,m18,m19,m20,m21,m22⟩:Mat) (⟨e0,e1,e2,e3,e4,e5,e6,⟨e7,e8,e9,e10,e11,e12,e13,e14,e15,e16,e17,e18⟩⟩:Ev))):=by
 show OI (std (BT N) N) (xOf _)=_;generalize hres:(some (YY (Cp (⟨⟨m0,m1,m2,m3,m4,m5,m6,m7,m8,m9,m10,m11,m12,m13⟩,m14,m15,m16,m17,m18,m19,m20,m21,m22⟩:Mat) (⟨e0,e1,e2,e3,e4,e5,e6,⟨e7,e8,e9,e10,e11,e12,e13,e14,e15,e16,e17,e18⟩⟩:Ev))):Option (List PV))=RR;simp only[OI,T1,TJ,UJ,GS,GQ,KW,JU,FA,Fj,Dd,D8,H8,lq9,std,xOf,PXb,Y4 hf hN hl hs,Y2 hN,nJ hf hN hl h13];subst hres;simp only[Cp];cases hv:IX (⟨⟨m0,m1,m2,m3,m4,m5,m6,m7,m8,m9,m10,m11,m12,m13⟩,m14,m15,m16,m17,m18,m19,m20,m21,m22⟩:Mat)
 case false=>rfl
 cases he:evS (⟨e0,e1,e2,e3,e4,e5,e6,⟨e7,e8,e9,e10,e11,e12,e13,e14,e15,e16,e17,e18⟩⟩:Ev)==0
 case false=>simp only[PXb,he];rfl
 simp only[PXb,he];cases h5:m14==5
 case true=>rfl
 simp only[PXb];have ok:=aE hv;refine ABI (r:=.int (GP (⟨⟨m0,m1,m2,m3,m4,m5,m6,m7,m8,m9,m10,m11,m12,m13⟩,m14,m15,m16,m17,m18,m19,m20,m21,m22⟩:Mat) (⟨e0,e1,e2,e3,e4,e5,e6,⟨e7,e8,e9,e10,e11,e12,e13,e14,e15,e16,e17,e18⟩⟩:Ev)).2::(GP (⟨⟨m0,m1,m2,m3,m4,m5,m6,m7,m8,m9,m10,m11,m12,m13⟩,m14,m15,m16,m17,m18,m19,m20,m21,m22⟩:Mat) (⟨e0,e1,e2,e3,e4,e5,e6,⟨e7,e8,e9,e10,e11,e12,e13,e14,e15,e16,e17,e18⟩⟩:Ev)).1.ls) ?_ ?_
 ·unfold GP;cases hk1:e0==1
  case true =>
   simp only[PXb,GQ,Jf];cases m14==1<;>cases e4<;>rfl
  cases hk2:e0==2
  case true =>
   simp only[PXb];cases hs2:m14==2
   case false=>rfl
   have hl2:m17.length≤1048576:=by omega
   have h304:iSm ((m17.length+1:Nat):Int) 304=true:=C4 (by omega) (by omega);have fb:=fun a b c=>(Sv (⟨⟨m0,m1,m2,m3,m4,m5,m6,m7,m8,m9,m10,m11,m12,m13⟩,m14,m15,m16,m17,m18,m19,m20,m21,m22⟩:Mat).rules a b c).1
   have wb:∀a b c,(Ct (⟨⟨m0,m1,m2,m3,m4,m5,m6,m7,m8,m9,m10,m11,m12,m13⟩,m14,m15,m16,m17,m18,m19,m20,m21,m22⟩:Mat).rules a b c).1.before.length+(Ct (⟨⟨m0,m1,m2,m3,m4,m5,m6,m7,m8,m9,m10,m11,m12,m13⟩,m14,m15,m16,m17,m18,m19,m20,m21,m22⟩:Mat).rules a b c).1.bowlers.length≤1000000:=fun a b c=>by
    rw[(Sv (⟨⟨m0,m1,m2,m3,m4,m5,m6,m7,m8,m9,m10,m11,m12,m13⟩,m14,m15,m16,m17,m18,m19,m20,m21,m22⟩:Mat).rules a b c).2.1,(Sv (⟨⟨m0,m1,m2,m3,m4,m5,m6,m7,m8,m9,m10,m11,m12,m13⟩,m14,m15,m16,m17,m18,m19,m20,m21,m22⟩:Mat).rules a b c).2.2];trivial
   rcases zm (m:=(⟨⟨m0,m1,m2,m3,m4,m5,m6,m7,m8,m9,m10,m11,m12,m13⟩,m14,m15,m16,m17,m18,m19,m20,m21,m22⟩:Mat)) (ok.toss hs2) (m17.length:Int)with ho|ho
   ·simp only[PXb,PXc,RT,qJ,Nat.reduceAdd,Int.reduceBEq,PXi,PXr,Inn.eta,BZ,List.length_append,List.length_cons,List.length_nil,h304,VY,GS,Fj,FA,Dd,Rr,Wo hN hl2,Vp hN hs,QW (fb _ _ _) (wb _ _ _) hN hs h13,ho,wr1,wr2,wD,wL];cases(Ct (⟨⟨m0,m1,m2,m3,m4,m5,m6,m7,m8,m9,m10,m11,m12,m13⟩,m14,m15,m16,m17,m18,m19,m20,m21,m22⟩:Mat).rules 1 (Gu (⟨⟨m0,m1,m2,m3,m4,m5,m6,m7,m8,m9,m10,m11,m12,m13⟩,m14,m15,m16,m17,m18,m19,m20,m21,m22⟩:Mat) 1) m18).2==0<;>try rfl
    cases(Az (⟨⟨m0,m1,m2,m3,m4,m5,m6,m7,m8,m9,m10,m11,m12,m13⟩,m14,m15,m16,m17,m18,m19,m20,m21,m22⟩:Mat).rules (Ct (⟨⟨m0,m1,m2,m3,m4,m5,m6,m7,m8,m9,m10,m11,m12,m13⟩,m14,m15,m16,m17,m18,m19,m20,m21,m22⟩:Mat).rules 1 (Gu (⟨⟨m0,m1,m2,m3,m4,m5,m6,m7,m8,m9,m10,m11,m12,m13⟩,m14,m15,m16,m17,m18,m19,m20,m21,m22⟩:Mat) 1) m18).1 (⟨e0,e1,e2,e3,e4,e5,e6,⟨e7,e8,e9,e10,e11,e12,e13,e14,e15,e16,e17,e18⟩⟩:Ev)).2==0<;>rfl
   simp only[PXb,PXc,RT,qJ,Nat.reduceAdd,Int.reduceBEq,PXi,PXr,Inn.eta,BZ,List.length_append,List.length_cons,List.length_nil,h304,VY,GS,Fj,FA,Dd,Rr,Wo hN hl2,Vp hN hs,QW (fb _ _ _) (wb _ _ _) hN hs h13,ho,wr1,wr2,wD,wL];cases(Ct (⟨⟨m0,m1,m2,m3,m4,m5,m6,m7,m8,m9,m10,m11,m12,m13⟩,m14,m15,m16,m17,m18,m19,m20,m21,m22⟩:Mat).rules 2 (Gu (⟨⟨m0,m1,m2,m3,m4,m5,m6,m7,m8,m9,m10,m11,m12,m13⟩,m14,m15,m16,m17,m18,m19,m20,m21,m22⟩:Mat) 2) m19).2==0<;>try rfl
   cases(Az (⟨⟨m0,m1,m2,m3,m4,m5,m6,m7,m8,m9,m10,m11,m12,m13⟩,m14,m15,m16,m17,m18,m19,m20,m21,m22⟩:Mat).rules (Ct (⟨⟨m0,m1,m2,m3,m4,m5,m6,m7,m8,m9,m10,m11,m12,m13⟩,m14,m15,m16,m17,m18,m19,m20,m21,m22⟩:Mat).rules 2 (Gu (⟨⟨m0,m1,m2,m3,m4,m5,m6,m7,m8,m9,m10,m11,m12,m13⟩,m14,m15,m16,m17,m18,m19,m20,m21,m22⟩:Mat) 2) m19).1 (⟨e0,e1,e2,e3,e4,e5,e6,⟨e7,e8,e9,e10,e11,e12,e13,e14,e15,e16,e17,e18⟩⟩:Ev)).2==0<;>rfl
  cases hk3:e0==12
  case true =>
   simp only[PXb];cases m14==4<;>cases e1==m15<;>rfl
  cases hk4:e0==16
  case true =>
   simp only[PXb,Yh];cases h3:m14==3
   case false=>simp only[PXb,PXc,PXi,PXr,RT,Nat.reduceAdd,D8,Ka];rfl
   simp only[PXb,PXc,PXi,PXr,RT,Nat.reduceAdd,Wx (ok.begun h3) hl,D8,Ka];rfl
  simp only[PXb];cases h3:m14==3
  case false=>rfl
  have h0:=ok.begun h3;have lv:=Sq (ok.innv (lnx m17) (bW h0 hl)).1;have fl:(inn m17 (IntKind.i64.wrap ((m17.length:Int)-1)).toNat).Fit:=lv.2.2;have wl:(inn m17 (IntKind.i64.wrap ((m17.length:Int)-1)).toNat).before.length+(inn m17 (IntKind.i64.wrap ((m17.length:Int)-1)).toNat).bowlers.length≤1000000:=by
   have h1:=lv.1;have h2:=lv.2.1;change(inn m17 (IntKind.i64.wrap ((m17.length:Int)-1)).toNat).bowlers.length≤11 at h1;change(inn m17 (IntKind.i64.wrap ((m17.length:Int)-1)).toNat).before.length≤11 at h2;omega
  have f1:=TN (Vo (⟨⟨m0,m1,m2,m3,m4,m5,m6,m7,m8,m9,m10,m11,m12,m13⟩,m14,m15,m16,m17,m18,m19,m20,m21,m22⟩:Mat).rules (inn m17 (IntKind.i64.wrap ((m17.length:Int)-1)).toNat) (⟨e0,e1,e2,e3,e4,e5,e6,⟨e7,e8,e9,e10,e11,e12,e13,e14,e15,e16,e17,e18⟩⟩:Ev)) fl (by omega);simp only[PXb,PXc,PXi,PXr,BZ,Inn.eta,RT,Nat.reduceAdd,List.length_set,Wx h0 hl,Dd,QW fl wl hN hs h13,EO,AO,lnx];generalize hX:Az (⟨⟨m0,m1,m2,m3,m4,m5,m6,m7,m8,m9,m10,m11,m12,m13⟩,m14,m15,m16,m17,m18,m19,m20,m21,m22⟩:Mat).rules (inn m17 (IntKind.i64.wrap ((m17.length:Int)-1)).toNat) (⟨e0,e1,e2,e3,e4,e5,e6,⟨e7,e8,e9,e10,e11,e12,e13,e14,e15,e16,e17,e18⟩⟩:Ev)=X at f1;have fy:=UH (IntKind.i64.wrap ((m17.length:Int)-1)).toNat hf f1;generalize hy:m17.set (IntKind.i64.wrap ((m17.length:Int)-1)).toNat X.1=ys at fy;have ly:ys.length=m17.length:=by grind
  cases X.2==0<;>try rfl
  cases h13k:e0==13
  case false=>rfl
  cases hsd:e1==X.1.side
  case true=>rfl
  simp only[PXb,Option.bind_assoc];have e0w:IntKind.i64.wrap ((m17.length:Int)-1)=(m17.length:Int)-1-((0:Nat):Int):=by
   rw[beq_eq_false_iff_ne]at h0;rw[A6 (by omega) (by omega)];omega
  rw[e0w];have hside:=xC (e:=(⟨e0,e1,e2,e3,e4,e5,e6,⟨e7,e8,e9,e10,e11,e12,e13,e14,e15,e16,e17,e18⟩⟩:Ev)) he h13k;simp only at hside;refine AN (gY (len:=m17.length) (fun j=>[.int ((m17.length:Int)-1-(j:Int))]) (fun j=>cond ((inn ys (m17.length-1-j)).side==e1) (some [PV.str m0,PV.int m1,PV.int m2,PV.int m3,PV.int m4,PV.int m5,PV.int m6,PV.int m7,PV.bool m8,PV.int m9,PV.int m10,PV.int m11,PV.int m12,PV.rows m13,PV.int m14,PV.int m15,PV.bool m16,PV.rows (As (ys.set (m17.length-1-j) (MI (inn ys (m17.length-1-j))))),PV.int m18,PV.int m19,PV.int m20,PV.int m21,PV.int m22]) none) ?_ ?_ m17.length 0 N (by omega) (by omega)) ?_
  ·intro self;have q1:iLe 0 ((m17.length:Int)-1-(m17.length:Int))=false:=by simp only[iLe,decide_eq_false_iff_not];omega
   simp only[PXb,q1]
  ·intro i self hi;have q1:iLe 0 ((m17.length:Int)-1-(i:Int))=true:=by simp only[iLe,decide_eq_true_eq];omega
   have q2:iIn ((m17.length:Int)-1-(i:Int)) (m17.length:Int)=true:=by simp only[iIn,decide_eq_true_eq];omega
   have q3:((m17.length:Int)-1-(i:Int)).toNat=m17.length-1-i:=by omega
   have q4:IntKind.i64.wrap ((m17.length:Int)-1-(i:Int)-1)=(m17.length:Int)-1-((i+1:Nat):Int):=by rw[A6 (by omega) (by omega)];omega
   have q5:=fy (m17.length-1-i) (by omega);simp only[PXb,PXc,q1,q2,q3,q4,H8,ST q5,PXm]
   grind
  have hfa:=uJ ys e1 (fun k=>[PV.str m0,PV.int m1,PV.int m2,PV.int m3,PV.int m4,PV.int m5,PV.int m6,PV.int m7,PV.bool m8,PV.int m9,PV.int m10,PV.int m11,PV.int m12,PV.rows m13,PV.int m14,PV.int m15,PV.bool m16,PV.rows (As (ys.set k (MI (inn ys k)))),PV.int m18,PV.int m19,PV.int m20,PV.int m21,PV.int m22]) m17.length m17.length (Nat.le_refl _);rw[Nat.sub_self]at hfa;rw[hfa];unfold Jg;simp only[ly];cases PE ys e1 m17.length with
  |some k=>rfl
  |none =>
   rcases hside with h|h<;>subst h
   ·rfl
   rfl
 have ak:=yK ok (⟨e0,e1,e2,e3,e4,e5,e6,⟨e7,e8,e9,e10,e11,e12,e13,e14,e15,e16,e17,e18⟩⟩:Ev);generalize GP (⟨⟨m0,m1,m2,m3,m4,m5,m6,m7,m8,m9,m10,m11,m12,m13⟩,m14,m15,m16,m17,m18,m19,m20,m21,m22⟩:Mat) (⟨e0,e1,e2,e3,e4,e5,e6,⟨e7,e8,e9,e10,e11,e12,e13,e14,e15,e16,e17,e18⟩⟩:Ev)=A at ak;obtain⟨⟨⟨a0,a1,a2,a3,a4,a5,a6,a7,a8,a9,a10,a11,a12,a13⟩,a14,a15,a16,a17,a18,a19,a20,a21,a22⟩,l⟩:=A;obtain⟨k1,k2,k3,k4⟩:=ak;simp only at k1 k2 k3 k4;have hl5:a17.length≤1048576:=by omega
 have hs5:a0.size≤1048576:=by
  simp_all
 simp only[PXb,PXc,PXk,PXi,RT,Nat.reduceAdd];cases hl0:l==0
 case false=>rfl
 simp only[PXb,Cg];cases h3:a14==3
 case false=>rfl
 have h0:=k4 hl0 h3;have li:=Wx h0 (show a17.length≤1000000 by omega);simp only[PXb,PXc,PXi,li];cases he2:(inn a17 (IntKind.i64.wrap ((a17.length:Int)-1)).toNat).ending==0
 case true=>simp only[PXb,AO,lnx,he2]
 simp only[PXb,PXc,PXi,AO,lnx,he2,KW,GQ,JU,Rf hN hl5,Jf,im k2 hN (show a17.length≤1000000 by omega) hs5];unfold TE;simp only[AO,lnx];simp only[DZ,AO,lnx];cases hq1:((a17.length:Int)==IntKind.i64.wrap (2*a2))
 case true=>rfl
 cases hq2:((a17.length:Int)==3)
 case true =>
  simp only[PXb];cases iLt (R5 a17 (inn a17 (IntKind.i64.wrap ((a17.length:Int)-1)).toNat).side a17.length) (R5 a17 (Bo (inn a17 (IntKind.i64.wrap ((a17.length:Int)-1)).toNat).side) a17.length)
  case true=>rfl
  simp only[PXb];cases((a17.length:Int)==2)&&iLt 0 a10&&iLe a10 (IntKind.i64.wrap (R5 a17 a15 a17.length-R5 a17 (Bo a15) a17.length))<;>rfl
 simp only[PXb];cases((a17.length:Int)==2)&&iLt 0 a10&&iLe a10 (IntKind.i64.wrap (R5 a17 a15 a17.length-R5 a17 (Bo a15) a17.length))<;>rfl
theorem sJ (m:Mat):(TE m).rules=m.rules∧(TE m).inns=m.inns:=by
 unfold TE
 grind
theorem gW (m:Mat):(Cg m).rules=m.rules∧(Cg m).inns=m.inns:=by
 unfold Cg;cases(m.stage==3 && !((AO m).ending==0))
 ·trivial
 exact sJ m
structure StepOk (r:Rul) (m:Mat):Prop where
 rules:m.rules=r
 fit:MG m.inns
 len:m.inns.length≤5
theorem vH {r:Rul} {m:Mat} (h:StepOk r m) (e:Ev):StepOk r (Cp m e).1:=by
 unfold Cp;cases hv:IX m
 ·exact h
 cases he:evS e==0
 ·exact h
 cases h5:m.stage==5
 ·have a:=yK (aE hv) e;cases hx:(GP m e).2==0
  ·exact h
  have k:=gW (GP m e).1;exact⟨k.1.trans (a.rules.trans h.rules),by show MG (Cg _).inns;rw[k.2];exact a.fit,by show(Cg _).inns.length≤5;rw[k.2];exact a.len⟩
 exact h
theorem uD (r:Rul) (h:((AM r).2==0)=true):StepOk r (AM r).1:=by
 unfold AM at h⊢;cases hc:BA r==0
 ·simp_all
 exact⟨rfl,fun i hi=>absurd hi (Nat.not_lt_zero i),Nat.zero_le _⟩
theorem QT {m:Mat} {e:Ev} (h:((Cp m e).2==0)=true):IX m=true∧(evS e==0)=true∧(m.stage==5)=false∧((GP m e).2==0)=true∧(Cp m e).1=Cg (GP m e).1:=by
 unfold Cp at h⊢
 grind
theorem YR {m:Mat} {e:Ev} (h:((Cp m e).2==0)=true) (hk:(e.kind==4)=true):(m.stage==3)=true∧((m.inns.length:Int)==0)=false∧((Az m.rules (AO m) e).2==0)=true∧(Cp m e).1.inns=m.inns.set (lnx m.inns) (Az m.rules (AO m) e).1:=by
 obtain⟨hv,he,h5,ha,hs⟩:=QT h;have hk4:=beq_iff_eq.1 hk;rw[hs,(gW _).2];unfold GP at ha⊢;simp only[hk4,Int.reduceBEq,cond_false]at ha⊢;cases h3:m.stage==3
 ·simp_all
 rw[h3]at ha;simp only[Bool.not_true,cond_false]at ha⊢;unfold EO at ha⊢;cases hq:(Az m.rules (AO m) e).2==0
 ·simp_all
 simp only[hk4,Int.reduceBEq,Bool.false_and,hq,Bool.not_true,cond_false];exact⟨trivial,(aE hv).begun h3,trivial,trivial⟩
def evR (L:Rows) (i:Nat):Ev:=⟨atI L i 0,atI L i 1,atI L i 2,atI L i 3,atB L i 4,atI L i 5,atI L i 6,⟨atI L i 7,atI L i 8,atI L i 9,atI L i 10,atI L i 11,atB L i 12,atI L i 13,atI L i 14,atI L i 15,atI L i 16,atB L i 17,atI L i 18⟩⟩
theorem AC6 (L:Rows) (i:Nat):(⟨atI L i 0,atI L i 1,atI L i 2,atI L i 3,atB L i 4,atI L i 5,atI L i 6,⟨atI L i 7,atI L i 8,atI L i 9,atI L i 10,atI L i 11,atB L i 12,atI L i 13,atI L i 14,atI L i 15,atI L i 16,atB L i 17,atI L i 18⟩⟩:Ev)=evR L i:=rfl
def BB (i:Int) (m:Mat) (e:Ev):Mat×Int:=cond (iLe 4000 i) (m,26) (Cp m e)
def Dq (L:Rows):Nat→Nat→Mat→Mat×Int×Int
 |0,_,m=>(m,-1,0)
 |k+1,i,m=>cond (!((BB i m (evR L i)).2==0)) (m,(i:Int),(BB i m (evR L i)).2) (Dq L k (i+1) (BB i m (evR L i)).1)
def CG (i:Int) (m t:Mat) (d:Del):List PV :=
 [.int i,.int (IntKind.i64.wrap ((m.inns.length:Int)-1)),.int (AO m).complete,.int (AO m).inover,.int (AO m).bowler,.int (AO m).striker,.int (AO m).other,.bool (AO m).freehit,
  .int d.type,.int d.source,.int d.runs,.int d.short,.int d.boundary,.bool d.crossed,.int d.how,.int d.victim,.int d.fielder,.int d.second,.bool d.sub,.int d.sector,
  .int (AF m.rules d).batter,.int (AF m.rules d).wides,.int (AF m.rules d).noballs,.int (AF m.rules d).byes,.int (AF m.rules d).legbyes,.int (AF m.rules d).bowler,.bool (AF m.rules d).counts,.bool (AF m.rules d).faced,.bool (AF m.rules d).wicket,.bool (AF m.rules d).swap,
  .int (inn t.inns (lnx m.inns)).runs,.int (inn t.inns (lnx m.inns)).wickets]
def Lq (L:Rows):Nat→Nat→Mat→Rows→Rows
 |0,_,_,out=>out
 |k+1,i,m,out=>cond (!((BB i m (evR L i)).2==0)) out (Lq L k (i+1) (BB i m (evR L i)).1 (cond ((evR L i).kind==4) (out++[CG i m (BB i m (evR L i)).1 (evR L i).ball]) out))
def AAQ (f:Mat×Int×Int):List PV:=[.str f.1.rules.name,.int f.1.rules.side,.int f.1.rules.innings,.int f.1.rules.overs,.int f.1.rules.balls,.int f.1.rules.quota,.int f.1.rules.wide,.int f.1.rules.noball,.bool f.1.rules.freehit,.int f.1.rules.newball,.int f.1.rules.followon,.int f.1.rules.reviews,.int f.1.rules.outside,.rows f.1.rules.power,.int f.1.stage,.int f.1.first,.bool f.1.follow,.rows (As f.1.inns),.int f.1.pen1,.int f.1.pen2,.int f.1.win,.int f.1.wside,.int f.1.margin,.int f.2.1,.int f.2.2]
def E1 (r:Rul) (L:Rows):Mat×Int×Int:=cond (!((AM r).2==0)) (AAO,0,1) (Dq L L.length 0 (AM r).1)
def Bm (r:Rul) (L:Rows):Rows:=cond (!((AM r).2==0)) [] (Lq L L.length 0 (AM r).1 [])
theorem oy (L:Rows):∀k i m,((Dq L k i m).2.1 == -1)=true→(Dq L k i m).2.2=0
 |0,_,_,_=>rfl
 |k+1,i,m,h=>by
  unfold Dq at h⊢;cases hq:(BB i m (evR L i)).2==0
  ·simp_all
  rw[hq]at h;exact oy L k (i+1) _ h
theorem rH (L:Rows):∀k i m out,(Lq L k i m out).length≤out.length+k
 |0,_,_,out=>Nat.le_refl _
 |k+1,i,m,out=>by
  unfold Lq;cases(BB i m (evR L i)).2==0
  ·simp_all
  have:=rH L k (i+1) (BB i m (evR L i)).1 (cond ((evR L i).kind==4) (out++[CG i m (BB i m (evR L i)).1 (evR L i).ball]) out)
  grind
theorem ri {r:Rul} {m:Mat} (h:StepOk r m) (i:Int) (e:Ev):StepOk r (BB i m e).1:=by
 unfold BB;cases iLe 4000 i
 ·exact vH h e
 exact h
theorem Wz {m:Mat} {i:Int} {e:Ev} (h:((BB i m e).2==0)=true):BB i m e=Cp m e∧iLe 4000 i=false:=by
 unfold BB at h⊢
 grind
theorem vV {N:Nat} {m8 m16:Bool} {m0:ByteArray} {m13:Rows} {m17:List Inn} {i:Int} {e0 e1 e2 e3 e5 e6 e7 e8 e9 e10 e11 e13 e14 e15 e16 e18:Int} {e4 e12 e17:Bool} (hN:2097152<N) (hf:MG m17) (hl:m17.length≤1000000) (hs:m0.size≤1048576) (h13:m13.length≤1048576):Oq N [.str m0,.int m1,.int m2,.int m3,.int m4,.int m5,.int m6,.int m7,.bool m8,.int m9,.int m10,.int m11,.int m12,.rows m13,.int m14,.int m15,.bool m16,.rows (As m17),.int m18,.int m19,.int m20,.int m21,.int m22,.int i,.int e0,.int e1,.int e2,.int e3,.bool e4,.int e5,.int e6,.int e7,.int e8,.int e9,.int e10,.int e11,.bool e12,.int e13,.int e14,.int e15,.int e16,.bool e17,.int e18]=some (YY (BB i (⟨⟨m0,m1,m2,m3,m4,m5,m6,m7,m8,m9,m10,m11,m12,m13⟩,m14,m15,m16,m17,m18,m19,m20,m21,m22⟩:Mat) (⟨e0,e1,e2,e3,e4,e5,e6,⟨e7,e8,e9,e10,e11,e12,e13,e14,e15,e16,e17,e18⟩⟩:Ev))):=by
 show O7 (std (H9 N) N) (xOf _)=_;generalize hres:(some (YY (BB i (⟨⟨m0,m1,m2,m3,m4,m5,m6,m7,m8,m9,m10,m11,m12,m13⟩,m14,m15,m16,m17,m18,m19,m20,m21,m22⟩:Mat) (⟨e0,e1,e2,e3,e4,e5,e6,⟨e7,e8,e9,e10,e11,e12,e13,e14,e15,e16,e17,e18⟩⟩:Ev))):Option (List PV))=RR;simp only[O7,XP,lq9,std,xOf,PXb,oT hN hf hl hs h13];subst hres;simp only[BB];cases iLe 4000 i<;>rfl
theorem iT {N:Nat} {i:Int} {m8 m16:Bool} {m0:ByteArray} {m13:Rows} {m17:List Inn} {t1 t2 t3 t4 t5 t6 t7 t9 t10 t11 t12 t14 t15 t18 t19 t20 t21 t22:Int} {t8 t16:Bool} {t0:ByteArray} {t13:Rows} {t17:List Inn} {d0 d1 d2 d3 d4 d6 d7 d8 d9 d11:Int} {d5 d10:Bool} (h1:iIn (IntKind.i64.wrap ((m17.length:Int)-1)) (m17.length:Int)=true) (h2:iIn (IntKind.i64.wrap ((m17.length:Int)-1)) (t17.length:Int)=true):J8 N [.int i,.str m0,.int m1,.int m2,.int m3,.int m4,.int m5,.int m6,.int m7,.bool m8,.int m9,.int m10,.int m11,.int m12,.rows m13,.int m14,.int m15,.bool m16,.rows (As m17),.int m18,.int m19,.int m20,.int m21,.int m22,.str t0,.int t1,.int t2,.int t3,.int t4,.int t5,.int t6,.int t7,.bool t8,.int t9,.int t10,.int t11,.int t12,.rows t13,.int t14,.int t15,.bool t16,.rows (As t17),.int t18,.int t19,.int t20,.int t21,.int t22,.int d0,.int d1,.int d2,.int d3,.int d4,.bool d5,.int d6,.int d7,.int d8,.int d9,.bool d10,.int d11]=some (CG i (⟨⟨m0,m1,m2,m3,m4,m5,m6,m7,m8,m9,m10,m11,m12,m13⟩,m14,m15,m16,m17,m18,m19,m20,m21,m22⟩:Mat) (⟨⟨t0,t1,t2,t3,t4,t5,t6,t7,t8,t9,t10,t11,t12,t13⟩,t14,t15,t16,t17,t18,t19,t20,t21,t22⟩:Mat) (⟨d0,d1,d2,d3,d4,d5,d6,d7,d8,d9,d10,d11⟩:Del)):=by
 show J9 (std (MJ N) N) (xOf _)=_;simp only[J9,N3,lq9,std,xOf,PXb,PXi,h1,h2,SR];rfl
def UN (L:Rows) (i:Nat) (s:Rows×Mat):List PV ⊕ Rows×Mat:=cond (!((BB i s.2 (evR L i)).2==0)) (.inl (.int 0::.rows s.1::.int i::.int (BB i s.2 (evR L i)).2::s.2.ls)) (.inr (cond ((evR L i).kind==4) (s.1++[CG i s.2 (BB i s.2 (evR L i)).1 (evR L i).ball]) s.1,(BB i s.2 (evR L i)).1))
def AAL (out:Rows) (f:Mat×Int×Int):List PV:=cond (f.2.1 == -1) (.int 1::.rows out::f.1.ls) (.int 0::.rows out::.int f.2.1::.int f.2.2::f.1.ls)
theorem me (L:Rows):∀k i s,gn (UN L) (fun s=>.int 1::.rows s.1::s.2.ls) k i s=AAL (Lq L k i s.2 s.1) (Dq L k i s.2)
 |0,_,_=>rfl
 |k+1,i,s=>by
  simp only[gn,UN,Dq,Lq];cases(BB i s.2 (evR L i)).2==0
  ·rfl
  exact me L k (i+1) _
def gL (out:Rows) (f:Mat×Int×Int):List PV:=[.rows out,.str f.1.rules.name,.int f.1.rules.side,.int f.1.rules.innings,.int f.1.rules.overs,.int f.1.rules.balls,.int f.1.rules.quota,.int f.1.rules.wide,.int f.1.rules.noball,.bool f.1.rules.freehit,.int f.1.rules.newball,.int f.1.rules.followon,.int f.1.rules.reviews,.int f.1.rules.outside,.rows f.1.rules.power,.int f.1.stage,.int f.1.first,.bool f.1.follow,.rows (As f.1.inns),.int f.1.pen1,.int f.1.pen2,.int f.1.win,.int f.1.wside,.int f.1.margin,.int f.2.1,.int f.2.2]
theorem ACj {m t:Mat} {e:Ev} (hl:m.inns.length≤5) (h:((Cp m e).2==0)=true) (hk:(e.kind==4)=true) (ht:(Cp m e).1=t):iIn (IntKind.i64.wrap ((m.inns.length:Int)-1)) (m.inns.length:Int)=true∧iIn (IntKind.i64.wrap ((m.inns.length:Int)-1)) (t.inns.length:Int)=true:=by
 obtain⟨_,h2,_,h4⟩:=YR h hk;have:=Wx h2 (show m.inns.length≤1000000 by omega)
 simp_all
set_option maxHeartbeats 8000000 in
theorem Xf {N:Nat} {r8:Bool} {r0:ByteArray} {r13:Rows} {L:Rows} (hN:2097152<N) (hs:r0.size≤1048576) (h13:r13.length≤1048576) (hL:L.length≤1048576):Fh N [.str r0,.int r1,.int r2,.int r3,.int r4,.int r5,.int r6,.int r7,.bool r8,.int r9,.int r10,.int r11,.int r12,.rows r13,.rows L]=some (gL (Bm (⟨r0,r1,r2,r3,r4,r5,r6,r7,r8,r9,r10,r11,r12,r13⟩:Rul) L) (E1 (⟨r0,r1,r2,r3,r4,r5,r6,r7,r8,r9,r10,r11,r12,r13⟩:Rul) L)):=by
  show PN (std (Ee N) N) (xOf _)=_;generalize hres:(some (gL (Bm (⟨r0,r1,r2,r3,r4,r5,r6,r7,r8,r9,r10,r11,r12,r13⟩:Rul) L) (E1 (⟨r0,r1,r2,r3,r4,r5,r6,r7,r8,r9,r10,r11,r12,r13⟩:Rul) L)):Option (List PV))=RR;simp only[PN,X6,Po,Kw,lq9,std,xOf,PXb,sL hN hs h13];subst hres;simp only[Bm,E1];have nk:=uD (⟨r0,r1,r2,r3,r4,r5,r6,r7,r8,r9,r10,r11,r12,r13⟩:Rul);generalize AM (⟨r0,r1,r2,r3,r4,r5,r6,r7,r8,r9,r10,r11,r12,r13⟩:Rul)=X at nk;obtain⟨⟨⟨m0,m1,m2,m3,m4,m5,m6,m7,m8,m9,m10,m11,m12,m13⟩,m14,m15,m16,m17,m18,m19,m20,m21,m22⟩,l⟩:=X;simp only at nk;simp only[PXb,PXc,PXk,Nat.reduceAdd];cases hl:l==0
  case false=>rfl
  have ok:=nk hl;simp only[PXb];refine AN (nE (St:=Rows×Mat) (len:=L.length) (enc:=fun i s=>[.rows s.1,.int (i:Int),.str s.2.rules.name,.int s.2.rules.side,.int s.2.rules.innings,.int s.2.rules.overs,.int s.2.rules.balls,.int s.2.rules.quota,.int s.2.rules.wide,.int s.2.rules.noball,.bool s.2.rules.freehit,.int s.2.rules.newball,.int s.2.rules.followon,.int s.2.rules.reviews,.int s.2.rules.outside,.rows s.2.rules.power,.int s.2.stage,.int s.2.first,.bool s.2.follow,.rows (As s.2.inns),.int s.2.pen1,.int s.2.pen2,.int s.2.win,.int s.2.wside,.int s.2.margin])
    (body:=UN L) (fin:=fun s=>.int 1::.rows s.1::s.2.ls) (fun i s=>StepOk (⟨r0,r1,r2,r3,r4,r5,r6,r7,r8,r9,r10,r11,r12,r13⟩:Rul) s.2∧s.1.length≤i) ?_ ?_ L.length 0 ([],(⟨⟨m0,m1,m2,m3,m4,m5,m6,m7,m8,m9,m10,m11,m12,m13⟩,m14,m15,m16,m17,m18,m19,m20,m21,m22⟩:Mat)) N (by omega) (by omega) ⟨ok,Nat.zero_le _⟩) ?_
  · intro m self _;simp only[PXb,PXc,PXn,AE,Aj];rfl
  · intro i s self hi ok;obtain⟨out,⟨⟨a0,a1,a2,a3,a4,a5,a6,a7,a8,a9,a10,a11,a12,a13⟩,a14,a15,a16,a17,a18,a19,a20,a21,a22⟩⟩:=s;obtain⟨ok,hout⟩:=ok;have o1:=ok.rules;have o2:=ok.fit;have o3:=ok.len;simp only at o1 o2 o3 hout;cases o1;have kp:=ri ok (i:Int) (evR L i);have acc:=Wz (m:=(⟨⟨r0,r1,r2,r3,r4,r5,r6,r7,r8,r9,r10,r11,r12,r13⟩,a14,a15,a16,a17,a18,a19,a20,a21,a22⟩:Mat)) (i:=(i:Int)) (e:=evR L i);refine⟨?_,?_⟩
    · simp only[PXb,PXc,PXn,AE,A9 (show i≤1099511627776 by omega),Aa hi,AJ hi,Po,vV hN o2 (show a17.length≤1000000 by omega) hs h13,Dc,kK,Nat.reduceAdd,PXk,PXc,AC6,List.length_append,List.length_cons,List.length_nil,Kw];unfold UN;simp only;generalize hT:BB (i:Int) (⟨⟨r0,r1,r2,r3,r4,r5,r6,r7,r8,r9,r10,r11,r12,r13⟩,a14,a15,a16,a17,a18,a19,a20,a21,a22⟩:Mat) (evR L i)=T at acc;obtain⟨⟨⟨b0,b1,b2,b3,b4,b5,b6,b7,b8,b9,b10,b11,b12,b13⟩,b14,b15,b16,b17,b18,b19,b20,b21,b22⟩,l2⟩:=T;simp only at acc;simp only;cases hl2:l2==0
      case false=>rfl
      have hk0:(evR L i).kind=atI L i 0:=rfl;rw[hk0];simp only[PXb];cases hk:atI L i 0==4
      case false=>rfl
      have ha:=(acc hl2).1;have hd:=ACj (m:=(⟨⟨r0,r1,r2,r3,r4,r5,r6,r7,r8,r9,r10,r11,r12,r13⟩,a14,a15,a16,a17,a18,a19,a20,a21,a22⟩:Mat)) (e:=evR L i) o3 (by grind) hk (congrArg Prod.fst ha).symm;simp only at hd;have h216:iSm ((out.length+1:Nat):Int) 216=true:=C4 (by omega) (by omega);simp only[PXb,PXc,iT hd.1 hd.2,h216];rfl
    intro s' h;unfold UN at h
    grind
  rw[me];have he:=oy L L.length 0 (⟨⟨m0,m1,m2,m3,m4,m5,m6,m7,m8,m9,m10,m11,m12,m13⟩,m14,m15,m16,m17,m18,m19,m20,m21,m22⟩:Mat);simp only;generalize Lq L L.length 0 (⟨⟨m0,m1,m2,m3,m4,m5,m6,m7,m8,m9,m10,m11,m12,m13⟩,m14,m15,m16,m17,m18,m19,m20,m21,m22⟩:Mat) []=out;generalize Dq L L.length 0 (⟨⟨m0,m1,m2,m3,m4,m5,m6,m7,m8,m9,m10,m11,m12,m13⟩,m14,m15,m16,m17,m18,m19,m20,m21,m22⟩:Mat)=f at he;obtain⟨⟨⟨a0,a1,a2,a3,a4,a5,a6,a7,a8,a9,a10,a11,a12,a13⟩,a14,a15,a16,a17,a18,a19,a20,a21,a22⟩,b,l⟩:=f;simp only at he;unfold AAL;cases hb:b == -1
  · rfl
  rw[he hb,beq_iff_eq.1 hb];rfl
theorem rE {N:Nat} {r8:Bool} {r0:ByteArray} {r13:Rows} {L:Rows} (hN:2097152<N) (hs:r0.size≤1048576) (h13:r13.length≤1048576) (hL:L.length≤1048576):Km N [.str r0,.int r1,.int r2,.int r3,.int r4,.int r5,.int r6,.int r7,.bool r8,.int r9,.int r10,.int r11,.int r12,.rows r13,.rows L]=some (AAQ (E1 (⟨r0,r1,r2,r3,r4,r5,r6,r7,r8,r9,r10,r11,r12,r13⟩:Rul) L)):=by
 show Kc (std (Fy N) N) (xOf _)=_;generalize hres:(some (AAQ (E1 (⟨r0,r1,r2,r3,r4,r5,r6,r7,r8,r9,r10,r11,r12,r13⟩:Rul) L)):Option (List PV))=RR;simp only[Kc,Wk,lq9,std,xOf,PXb,Xf hN hs h13 hL];trivial
def Ap (r:Rul) (L:Rows):Int:=cond (!(BA r==0)) (BA r) (cond (iLt 4000 (L.length:Int)) 9 (cond (!((E1 r L).2.2==0)) 10 0))
theorem WP {N:Nat} {r8:Bool} {r0:ByteArray} {r13:Rows} {L:Rows} (hN:2097152<N) (hs:r0.size≤1048576) (h13:r13.length≤1048576) (hL:L.length≤1048576):EV N [.str r0,.int r1,.int r2,.int r3,.int r4,.int r5,.int r6,.int r7,.bool r8,.int r9,.int r10,.int r11,.int r12,.rows r13,.rows L]=some [.int (Ap (⟨r0,r1,r2,r3,r4,r5,r6,r7,r8,r9,r10,r11,r12,r13⟩:Rul) L)]:=by
 show Mf (std (E8 N) N) (xOf _)=_;generalize hres:(some [.int (Ap (⟨r0,r1,r2,r3,r4,r5,r6,r7,r8,r9,r10,r11,r12,r13⟩:Rul) L)]:Option (List PV))=RR;simp only[Mf,Uf,WQ,lq9,std,xOf,PXb,DP hN hs,rE hN hs h13 hL,PXm];trivial
def B4 (L:Rows) (n:Int):Rows:=(L.take n.toNat).drop (0:Int).toNat
theorem xn (L:Rows) (n:Int):(B4 L n).length≤L.length:=by
 unfold B4
 grind
structure LogOk (m:Mat):Prop where
 fit:MG m.inns
 len:m.inns.length≤5
 name:m.rules.name.size≤1048576
 power:m.rules.power.length≤1048576
def acc (L:Rows):Nat→Nat→Mat→Prop
 |0,_,_=>True
 |k+1,i,m=>((BB i m (evR L i)).2==0)=true∧acc L k (i+1) (BB i m (evR L i)).1
def stM (L:Rows):Nat→Nat→Mat→Mat
 |0,_,m=>m
 |k+1,i,m=>stM L k (i+1) (BB i m (evR L i)).1
def NA (L:Rows):Nat→Nat→Mat→Rows→Rows
 |0,_,_,out=>out
 |k+1,i,m,out=>NA L k (i+1) (BB i m (evR L i)).1 (cond ((evR L i).kind==4) (out++[CG i m (BB i m (evR L i)).1 (evR L i).ball]) out)
theorem ge {L:Rows}:∀k j i m,acc L k i m→Dq L (k+j) i m=Dq L j (i+k) (stM L k i m)
 |0,j,i,m,_=>by rw[Nat.zero_add];rfl
 |k+1,j,i,m,h=>by
  have ih:=ge k j (i+1) _ h.2;rw[show k+1+j=(k+j)+1 by omega,show i+(k+1)=i+1+k by omega];simp only[Dq,h.1,Bool.not_true,cond_false];exact ih
theorem Tz (L:Rows):∀ K i m,∃ k,k≤K∧acc L k i m∧(∀ out,Lq L K i m out=NA L k i m out) ∧
    ((k=K∧Dq L K i m=(stM L k i m,-1,0))∨(k<K∧((BB ((i+k:Nat):Int) (stM L k i m) (evR L (i+k))).2==0)=false∧Dq L K i m=(stM L k i m,((i+k:Nat):Int),(BB ((i+k:Nat):Int) (stM L k i m) (evR L (i+k))).2)))
  |0,i,m=>⟨0,Nat.le_refl _,trivial,fun _=>rfl,Or.inl ⟨rfl,rfl⟩⟩
  |K+1,i,m=>by
    cases hq:(BB i m (evR L i)).2==0
    · refine⟨0,Nat.zero_le _,trivial,fun out=>?_,Or.inr ⟨Nat.succ_pos _,hq,?_⟩⟩
      · simp only[Lq,hq,Bool.not_false,cond_true];rfl
      simp only[Dq,hq,Bool.not_false,cond_true];rfl
    obtain⟨k,h1,h2,h3,h4⟩:=Tz L K (i+1) (BB i m (evR L i)).1;refine⟨k+1,Nat.succ_le_succ h1,⟨hq,h2⟩,fun out=>?_,?_⟩
    · simp only[Lq,hq,Bool.not_true,cond_false];exact h3 _
    have e:Dq L (K+1) i m=Dq L K (i+1) (BB i m (evR L i)).1:=by simp only[Dq,hq,Bool.not_true,cond_false]
    rw[e,show i+(k+1)=i+1+k by omega]
    rcases h4 with⟨h5,h6⟩|⟨h5,h6⟩
    · exact Or.inl ⟨by omega,h6⟩
    exact Or.inr ⟨by omega,h6⟩
theorem xh {L:Rows}:∀k j i m,j≤k→acc L k i m→acc L j i m
 |_,0,_,_,_,_=>trivial
 |0,j+1,_,_,h,_=>absurd h (by omega)
 |k+1,j+1,i,m,h,ha=>⟨ha.1,xh k j (i+1) _ (by omega) ha.2⟩
theorem z8 {L:Rows} {k i:Nat} {m:Mat} (h:acc L k i m):Dq L k i m=(stM L k i m,-1,0):=ge k 0 i m h
theorem yh {L:Rows} {n:Int} {i:Nat} (h:(i:Int)<n):evR (B4 L n) i=evR L i:=by
 have e:∀j,AD (B4 L n) i j=AD L i j:=fun j=>by
  unfold AD AB B4
  simp_all
 unfold evR atI atB
 grind
theorem gM {L:Rows} {n:Nat} (h:n≤L.length):(B4 L (n:Int)).length=n:=by
 unfold B4
 simp_all
theorem ia {L:Rows} {n:Int}:∀k i m,((i+k:Nat):Int)≤n→Dq (B4 L n) k i m=Dq L k i m
 |0,_,_,_=>rfl
 |k+1,i,m,h=>by
  simp only[Dq];rw[yh (show(i:Int)<n by omega),ia k (i+1) _ (by omega)]
theorem pQ {r:Rul} {L:Rows} {n:Nat} (hc:((AM r).2==0)=true) (h:n≤L.length):E1 r (B4 L (n:Int))=Dq L n 0 (AM r).1:=by
 unfold E1;rw[hc,gM h];exact ia n 0 _ (by omega)
theorem o6 (r:Rul):((AM r).2==0)=(BA r==0):=by
 unfold AM
 grind
theorem ACH {n:Int} {k:Nat} (h0:0≤n) (h:0<k) (hk:k≤1000000):∃j:Nat,j<k∧n.tmod (k:Int)=(j:Int):=by
 have h1:=Int.tmod_nonneg (k:Int) h0;have h2:=Int.tmod_lt_of_pos n (show(0:Int)<(k:Int) by omega);exact⟨(n.tmod (k:Int)).toNat,by omega,by omega⟩
theorem sK {r:Rul} {L:Rows} {n:Nat} (hc:(BA r==0)=true) (h:n≤L.length) (ha:acc L n 0 (AM r).1):E1 r (B4 L (n:Int))=(stM L n 0 (AM r).1,-1,0):=by
 rw[pQ ((o6 r).trans hc) h];exact z8 ha
theorem YS {L:Rows}:∀k i m,stM L (k+1) i m=(BB ((i+k:Nat):Int) (stM L k i m) (evR L (i+k))).1
 |0,i,m=>rfl
 |k+1,i,m=>by
  show stM L (k+1) (i+1) _=_;rw[YS k (i+1),show i+1+k=i+(k+1) by omega];rfl
theorem O4 {L:Rows}:∀k i m,acc L k i m→∀j,j<k→((BB ((i+j:Nat):Int) (stM L j i m) (evR L (i+j))).2==0)=true
 |0,_,_,_,j,h=>absurd h (Nat.not_lt_zero j)
 |k+1,i,m,ha,0,_=>ha.1
 |k+1,i,m,ha,j+1,h=>by
  have:=O4 k (i+1) _ ha.2 j (by omega);rw[show i+1+j=i+(j+1) by omega]at this;exact this
theorem gw (r:Rul) (L:Rows):(Bm r L).length≤L.length:=by
 unfold Bm;cases(AM r).2==0
 ·simp_all
 have:=rH L L.length 0 (AM r).1 []
 simp_all
abbrev wr (n:Int):Int:=IntKind.i64.wrap n
structure Nums (q:Int) (s t:Inn) (a b c:Int):Prop where
 runs:wr (t.runs-t.pens)=wr (s.runs-s.pens+a)
 rw:wr s.runs=s.runs→wr t.runs=t.runs
 balls:DH q t.complete t.inover=wr (s.complete*q+s.inover+b)
 wk:wr t.wickets=wr (s.wickets+c)
theorem Tk (q c i:Int):DH q c i=wr (c*q+i):=by
 unfold DH;simp only[wr,Jm];omega
theorem Nums.of {q:Int} {s t:Inn} (h1:t.runs=s.runs) (h2:t.pens=s.pens) (h3:t.complete=s.complete) (h4:t.inover=s.inover) (h5:t.wickets=s.wickets):Nums q s t 0 0 0 :=
 ⟨by simp_all,fun h=>by simp_all,by rw[h3,h4,Tk,Int.add_zero],by simp_all⟩
theorem Nums.out {q:Int} {s t:Inn} (h1:t.runs=s.runs) (h2:t.pens=s.pens) (h3:t.complete=s.complete) (h4:t.inover=s.inover) (h5:t.wickets=wr (s.wickets+1)):Nums q s t 0 0 1 :=
 ⟨by simp_all,fun h=>by simp_all,by rw[h3,h4,Tk,Int.add_zero],by rw[h5];exact Iq _⟩
theorem Nums.pen (q:Int) (s:Inn):Nums q s (MI s) 0 0 0 :=
 ⟨by show wr (wr (s.runs+5)-wr (s.pens+5))=_;simp only[wr,Jm];omega,fun _=>Iq _,by show DH q s.complete s.inover=_;rw[Tk,Int.add_zero],by show wr s.wickets=_;simp_all⟩
def C8 (e:Ev):Int:=cond ((e.kind==5&&e.yes)||(e.kind==6 && !e.yes)) 1 0
theorem Nums.fin {q:Int} {s t:Inn} {a b c:Int} (h:Nums q s t a b c) (r:Rul) (x:Bool):Nums q s (CH r t x) a b c:=⟨h.runs,h.rw,h.balls,h.wk⟩
def NR (e:Ev):Int:=cond (e.kind==4) (cond (e.ball.how==0) 0 1) (C8 e)
structure SumInv (q:Int) (xs:List Inn) (R B:Nat→Int) (O:Int):Prop where
 runs:∀i,i<xs.length→wr ((inn xs i).runs-(inn xs i).pens)=wr (R i)
 rw:∀i,i<xs.length→wr (inn xs i).runs=(inn xs i).runs
 balls:∀i,i<xs.length→DH q (inn xs i).complete (inn xs i).inover=wr (B i)
 zero:∀i,xs.length≤i→R i=0∧B i=0
 wk:wr (xs.map Inn.wickets).sum=wr O
theorem SumInv.congr {q:Int} {xs:List Inn} {R B R' B':Nat→Int} {O O':Int} (h:SumInv q xs R B O) (h1:∀i,R i=R' i) (h2:∀i,B i=B' i) (h3:O=O'):SumInv q xs R' B' O' :=
 ⟨fun i hi=>(h.runs i hi).trans (by rw[h1]),h.rw,fun i hi=>(h.balls i hi).trans (by rw[h2]),fun i hi=>by rw[←h1,←h2];exact h.zero i hi,h.wk.trans (by rw[h3])⟩
def rT (L:Rows) (j:Nat):Int:=Da ⟨atI L j 20,atI L j 21,atI L j 22,atI L j 23,atI L j 24,atI L j 25,atB L j 26,atB L j 27,atB L j 28,atB L j 29⟩
def rS (L:Rows) (i:Nat):Nat→Int
 |0=>0
 |n+1=>rS L i n+cond (atI L n 1==(i:Int)) (rT L n) 0
def bS (L:Rows) (i:Nat):Nat→Int
 |0=>0
 |n+1=>bS L i n+cond (atI L n 1==(i:Int)&&atB L n 26) 1 0
def hS (L:Rows):Nat→Int
 |0=>0
 |n+1=>hS L n+cond (atI L n 14==0) 0 1
end Go.Px
end
