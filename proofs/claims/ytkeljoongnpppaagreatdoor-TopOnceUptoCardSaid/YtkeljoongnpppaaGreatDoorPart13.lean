/- Part 13. -/
import Derived.Test.YtkeljoongnpppaaGreatDoorPart12
import Derived.Test.YtkeljoongnpppaaGreatDoorPart11
set_option linter.unusedVariables false
set_option linter.unusedSimpArgs false
variable {r1 r2 r3 r4 r5 r6 r7 r9 r10 r11 r12:Int}
variable {m1 m2 m3 m4 m5 m6 m7 m9 m10 m11 m12 m14 m15 m18 m19 m20 m21 m22:Int}
section
namespace Go.Px
set_option maxRecDepth 100000
theorem kU {L:Rows} {s n:Int} (h:Gx L s n=false) (hb:DF L=true):(s==0)=false∧(n==0)=false:=by
 unfold Gx at h;rw [hb,Bool.true_and,Bool.or_eq_false_iff] at h;exact h
theorem qZ {r:Rul} {s:Inn} (h:InnOk r s) (hb:(s.bowler==0)=false):inR s.bowler s.bowled.length=true:=by
 have h1:=h.bow;have h2:=h.ld;rw [beq_eq_false_iff_ne] at hb;simp only [inR,iLe,zzk,decide_eq_true_eq];omega
theorem rO {r : Rul} {s : Inn} {e : Ev} (hk : (e.kind == 4) = true) (h : ((Ay r s e).2 == 0) = true) :
    IntKind.i64.wrap ((Ay r s e).1.runs - s.runs)=Db (AE r e.ball)∧IntKind.i64.wrap ((Ay r s e).1.wides - s.wides)=(AE r e.ball).wides∧IntKind.i64.wrap ((Ay r s e).1.noballs - s.noballs)=(AE r e.ball).noballs ∧
    IntKind.i64.wrap ((Ay r s e).1.byes - s.byes)=(AE r e.ball).byes∧IntKind.i64.wrap ((Ay r s e).1.legbyes - s.legbyes)=(AE r e.ball).legbyes∧(Ay r s e).1.pens=s.pens ∧
    IntKind.i64.wrap (Cp r.balls (Ay r s e).1.complete (Ay r s e).1.inover - Cp r.balls s.complete s.inover)=cond (AE r e.ball).counts 1 0 ∧
    IntKind.i64.wrap ((Ay r s e).1.wickets - s.wickets)=cond (e.ball.how==0) 0 1∧(Ay r s e).1.fresh=true∧IntKind.i64.wrap (Ay r s e).1.runs=(Ay r s e).1.runs:=by
  obtain ⟨hv,he,hn,hw,hp,hs⟩:=gW h;have k4:=beq_iff_eq.1 hk;have hpb:CP r s e=M2 r s e.ball:=by unfold CP;rw [k4];rfl
  obtain ⟨d,hd0⟩:∃ d,d=e.ball:=⟨_,rfl⟩;rw [← hd0] at hpb ⊢;rw [hpb] at hp hs;obtain ⟨hr,hb⟩:=oA hp;obtain ⟨q1,q2,q3,q4,q5,q6⟩:=iR hr;have ok:=PG.1 hv;have rk:=Fa ok.code;have hbeg:DF s.batters=true:=lc hw (by rw [k4];rfl);obtain ⟨z1,z2⟩:=kU q1 hbeg;have hin:=qZ ok q2;have hout:=oN (d:=d) z1 z2 (fun hd=>Zw q5 hd);obtain ⟨k1,k2,k3,k4,k5,k6,k7,k8,k9,k10⟩:=bu s d;have hbl:=oa (b:=(AE r d).counts) (s:=Ah s d) rk ok.code (by rw [k9,k10];exact hin) (by rw [k8];exact ok.io) (by rw [k7];exact ok.complete);rw [k7,k8] at hbl;obtain ⟨w1,w2⟩:=oH r (Ah s d) (AE r d).counts;rw [hs,hb];have hc:AE r d=TA r d:=by unfold AE;rw [q4];rfl
  have ht:IntKind.i64.wrap (Db (AE r d))=Db (AE r d):=HO _;have c1:IntKind.i64.wrap (AE r d).wides=(AE r d).wides:=by rw [hc];unfold TA;simp only;cases d.type==2<;>first | rfl | exact HO _
  have c2:IntKind.i64.wrap (AE r d).noballs=(AE r d).noballs:=by
    have:=rk.noball;rw [hc];unfold TA;simp only;cases d.type==3<;>first | rfl | exact DG (n:=r.noball) (by omega) (by omega)
  have c3:IntKind.i64.wrap (AE r d).byes=(AE r d).byes:=by rw [hc];unfold TA;simp only;cases (!(d.type==2)&&d.source==2)<;>first | rfl | exact HO _
  have c4:IntKind.i64.wrap (AE r d).legbyes=(AE r d).legbyes:=by rw [hc];unfold TA;simp only;cases (!(d.type==2)&&d.source==3)<;>first | rfl | exact HO _
  refine ⟨(L6 _ _).trans ht,(L6 _ _).trans c1,(L6 _ _).trans c2,(L6 _ _).trans c3,(L6 _ _).trans c4,?_,?_,?_,hk,HO _⟩
  · have : (Bt r (IU r s d) (e.kind == 4)).pens = (Au r (Ah s d) (AE r d).counts).1.pens := by
      show (cond (Au r (Ah s d) (AE r d).counts).2 (IK (Au r (Ah s d) (AE r d).counts).1) (Au r (Ah s d) (AE r d).counts).1).pens=_;cases (Au r (Ah s d) (AE r d).counts).2<;>rfl
    rw [this,w2,k6]
  · have e1 : (Bt r (IU r s d) (e.kind == 4)).complete = (Au r (Ah s d) (AE r d).counts).1.complete := by
      show (cond (Au r (Ah s d) (AE r d).counts).2 (IK (Au r (Ah s d) (AE r d).counts).1) (Au r (Ah s d) (AE r d).counts).1).complete=_;cases (Au r (Ah s d) (AE r d).counts).2<;>rfl
    have e2:(Bt r (IU r s d) (e.kind==4)).inover=(Au r (Ah s d) (AE r d).counts).1.inover:=by
      show (cond (Au r (Ah s d) (AE r d).counts).2 (IK (Au r (Ah s d) (AE r d).counts).1) (Au r (Ah s d) (AE r d).counts).1).inover=_;cases (Au r (Ah s d) (AE r d).counts).2<;>rfl
    rw [e1,e2,hbl]
  · have : (Bt r (IU r s d) (e.kind == 4)).wickets = (Au r (Ah s d) (AE r d).counts).1.wickets := by
      show (cond (Au r (Ah s d) (AE r d).counts).2 (IK (Au r (Ah s d) (AE r d).counts).1) (Au r (Ah s d) (AE r d).counts).1).wickets=_;cases (Au r (Ah s d) (AE r d).counts).2<;>rfl
    rw [this,w1,hout];unfold inc;cases d.how==0 with
    | true=>exact W6 _
    | false=>exact (L6 s.wickets 1).trans rfl
def uo:Inn:=⟨0,0,0,0,0,0,0,0,0,0,0,0,0,0,[],0,[],[],false,[],false,0,0,0,[],0,0,0⟩
def xf (n:Nat) (overs side t p:Int):Inn:=⟨side,t,overs,p,0,0,0,0,0,p,0,0,0,0,List.replicate n [.int 0],0,[],[],false,List.replicate n [.int 0],false,0,0,0,List.replicate n [.bool false],0,0,0⟩
def Cu (r:Rul) (side t p:Int):Inn×Int :=
 cond (!(A5 r==0)) (uo,A5 r) (cond (!btw side 1 2 || !btw t 0 1000000 || !btw p 0 1000000) (uo,2) (xf r.side.toNat r.overs side t p,0))
theorem TE {N:Nat} {r8:Bool} {r0:ByteArray} {r13:Rows} {a:Int} {b:Int} {c:Int} (hN:2097152<N) (hs:r0.size≤1048576):F5 N [.str r0,.int r1,.int r2,.int r3,.int r4,.int r5,.int r6,.int r7,.bool r8,.int r9,.int r10,.int r11,.int r12,.rows r13,.int a,.int b,.int c]=some (BU (Cu (⟨r0,r1,r2,r3,r4,r5,r6,r7,r8,r9,r10,r11,r12,r13⟩:Rul) a b c)):=by
 show Ix (std (GY N) N) (xOf _)=_;generalize hres:(some (BU (Cu (⟨r0,r1,r2,r3,r4,r5,r6,r7,r8,r9,r10,r11,r12,r13⟩:Rul) a b c)):Option (List PV))=RR;simp only [Ix,PF,MA,lq9,std,xOf,PXb,CV hN hs,D4];subst hres;simp only [Cu];cases hc:A5 (⟨r0,r1,r2,r3,r4,r5,r6,r7,r8,r9,r10,r11,r12,r13⟩:Rul)==0 with
 | false=>rfl
 | true =>
  have rk:=(Fa (beq_iff_eq.1 hc)).side;obtain ⟨k,hk⟩:∃ k:Nat,r1=k:=⟨r1.toNat,by simp only at rk;omega⟩;subst hk;simp only at rk;have h1:iSm (k:Int) 1=true:=GT (by omega) (by omega);have h8:iSm (k:Int) 8=true:=GT (by omega) (by omega);simp only [PXb,PXc,PXn,PXm,Nat.reduceAdd,Int.reduceBEq,h1,h8];cases btw a 1 2<;>cases btw b 0 1000000<;>cases btw c 0 1000000<;>rfl
theorem Qq (r:Rul) (side t p:Int):(Cu r side t p).1.Fit∧(Cu r side t p).1.before=[]∧(Cu r side t p).1.bowlers=[]:=by
 unfold Cu;cases hc:A5 r==0 with
 | false=>exact ⟨⟨by show 0≤1048576;omega,by show 0≤1048576;omega,by show 0≤1048576;omega,by show 0≤1048576;omega,by show 0≤1048576;omega⟩,rfl,rfl⟩
 | true =>
  have hs:=(Fa (beq_iff_eq.1 hc)).side;have hl:∀ x:List PV,(List.replicate r.side.toNat x).length≤1048576:=fun x=>by rw [List.length_replicate];omega
  cases (!btw side 1 2 || !btw t 0 1000000 || !btw p 0 1000000) with
  | true=>exact ⟨⟨by show 0≤1048576;omega,by show 0≤1048576;omega,by show 0≤1048576;omega,by show 0≤1048576;omega,by show 0≤1048576;omega⟩,rfl,rfl⟩
  | false=>exact ⟨⟨hl _,by show 0≤1048576;omega,by show 0≤1048576;omega,hl _,hl _⟩,rfl,rfl⟩
theorem vh {s:Inn} (h:s.Fit):(PZ s).Fit:=⟨h.bt,h.bw,h.bf,h.bd,h.sb⟩
structure BatOk (L:Rows) (s n wk:Int):Prop where
 le:∀ i,i<L.length→atI L i 0≤3
 at1:∀ i,i<L.length→(atI L i 0=1↔(s=(i:Int)+1∨n=(i:Int)+1))
 here:DF L=true→s≠0∨n≠0
 ne:s≠0→s≠n
 wk:wk=am L
theorem vY {r:Rul} {s:Inn} (h:InnOk r s):2≤r.side∧r.side≤11:=(Fa h.code).side
structure Small (s:Inn):Prop where
 target:s.target≤999999900
 runs:s.runs≤999999900
 wides:s.wides≤999999900
 noballs:s.noballs≤999999900
 byes:s.byes≤999999900
 legbyes:s.legbyes≤999999900
 pens:s.pens≤999999900
 complete:s.complete≤999999900
 ballage:s.ballage≤999999900
 rev1:s.rev1≤999999900
 rev2:s.rev2≤999999900
 bowled:∀ j,j<s.bowled.length→atI s.bowled j 0≤999999900
def BR (n:Int):Int:=IntKind.i64.wrap (3 - n)
theorem Hn {N:Nat} {n:Int}  : BV N [.int n]=some [.int (BR n)]:=by
 show K6 (std (Tn N) N) (xOf _)=_;simp only [K6,lq9,std,xOf,PXb,PXc,PXn,PXm,Nat.reduceAdd,Int.reduceBEq,BR]
def DI (m:Mat) (i:Int):Int:=cond (cond (m.follow&&iLe 2 i) (i==2) (i.tmod 2==1)) (BR m.first) m.first
theorem PY {N:Nat} {m8 m16:Bool} {m0:ByteArray} {m13:Rows} {m17:List Inn} {i:Int}  : DP N [.str m0,.int m1,.int m2,.int m3,.int m4,.int m5,.int m6,.int m7,.bool m8,.int m9,.int m10,.int m11,.int m12,.rows m13,.int m14,.int m15,.bool m16,.rows (Ae m17),.int m18,.int m19,.int m20,.int m21,.int m22,.int i]=some [.int (DI (⟨⟨m0,m1,m2,m3,m4,m5,m6,m7,m8,m9,m10,m11,m12,m13⟩,m14,m15,m16,m17,m18,m19,m20,m21,m22⟩:Mat) i)]:=by
 show K8 (std (Md N) N) (xOf _)=_;generalize hres:(some [.int (DI (⟨⟨m0,m1,m2,m3,m4,m5,m6,m7,m8,m9,m10,m11,m12,m13⟩,m14,m15,m16,m17,m18,m19,m20,m21,m22⟩:Mat) i)]:Option (List PV))=RR;simp only [K8,Qx,lq9,std,xOf,PXb,PXc,PXn,PXm,Nat.reduceAdd,Int.reduceBEq,Hn];subst hres;simp only [DI]
def Py (xs:List Inn) (side:Int):Nat→Int
 | 0=>0
 | i+1=>cond ((inn xs i).side==side) (IntKind.i64.wrap (Py xs side i+(inn xs i).runs)) (Py xs side i)
def CH (m:Mat) (side:Int):Int:=Py m.inns side m.inns.length
theorem Pa {N:Nat} {m8 m16:Bool} {m0:ByteArray} {m13:Rows} {m17:List Inn} {n:Int} (hN:2097152<N) (hl:m17.length≤1048576):Bz N [.str m0,.int m1,.int m2,.int m3,.int m4,.int m5,.int m6,.int m7,.bool m8,.int m9,.int m10,.int m11,.int m12,.rows m13,.int m14,.int m15,.bool m16,.rows (Ae m17),.int m18,.int m19,.int m20,.int m21,.int m22,.int n]=some [.int (CH (⟨⟨m0,m1,m2,m3,m4,m5,m6,m7,m8,m9,m10,m11,m12,m13⟩,m14,m15,m16,m17,m18,m19,m20,m21,m22⟩:Mat) n)]:=by
 show LQ (std (TK N) N) (xOf _)=_;generalize hres:(some [.int (CH (⟨⟨m0,m1,m2,m3,m4,m5,m6,m7,m8,m9,m10,m11,m12,m13⟩,m14,m15,m16,m17,m18,m19,m20,m21,m22⟩:Mat) n)]:Option (List PV))=RR;simp only [LQ,lq9,std,xOf,PXb,PXi];subst hres;simp only [CH];refine Ak (EI (len:=m17.length) (fun i=>[.int (Py m17 n i),.int (i:Int)]) [.int (Py m17 n m17.length)] ?_ ?_ N (by omega)) rfl
 ·intro self;simp only [PXb,PXc,PXn,AJ,Bg]
 ·intro i self hi;simp only [PXb,PXc,AJ,BA (show i≤1099511627776 by omega),BQ hi,Ap hi,PXi,Py];cases (inn m17 i).side==n<;>rfl
def HA (m:Mat) (side:Int):Int :=
 cond (iLt (IntKind.i64.wrap ((m.inns.length:Int)+1)) (IntKind.i64.wrap (2 * m.rules.innings))) 0 (IntKind.i64.wrap (IntKind.i64.wrap (CH m (BR side) - CH m side)+1))
theorem Uf {N:Nat} {m8 m16:Bool} {m0:ByteArray} {m13:Rows} {m17:List Inn} {n:Int} (hN:2097152<N) (hl:m17.length≤1048576):HB N [.str m0,.int m1,.int m2,.int m3,.int m4,.int m5,.int m6,.int m7,.bool m8,.int m9,.int m10,.int m11,.int m12,.rows m13,.int m14,.int m15,.bool m16,.rows (Ae m17),.int m18,.int m19,.int m20,.int m21,.int m22,.int n]=some [.int (HA (⟨⟨m0,m1,m2,m3,m4,m5,m6,m7,m8,m9,m10,m11,m12,m13⟩,m14,m15,m16,m17,m18,m19,m20,m21,m22⟩:Mat) n)]:=by
 show Jn (std (HY N) N) (xOf _)=_;generalize hres:(some [.int (HA (⟨⟨m0,m1,m2,m3,m4,m5,m6,m7,m8,m9,m10,m11,m12,m13⟩,m14,m15,m16,m17,m18,m19,m20,m21,m22⟩:Mat) n)]:Option (List PV))=RR;simp only [Jn,Ph,Pz,lq9,std,xOf,PXb,PXc,PXn,PXm,Nat.reduceAdd,Int.reduceBEq,PXi,Hn,Pa hN hl];subst hres;simp only [HA]
def cP (stage:Int) (xs:List Inn) (i:Nat):Bool := !(((inn xs i).ending==0)==(stage==3&&((i:Int)==IntKind.i64.wrap ((xs.length:Int) - 1))))
def YR (m:Mat):Bool := !Bo (cP m.stage m.inns) m.inns.length 0&&(!(m.stage==3)||iLt 0 (m.inns.length:Int))
theorem i7 {N:Nat} {m8 m16:Bool} {m0:ByteArray} {m13:Rows} {m17:List Inn} (hN:2097152<N) (hl:m17.length≤1048576):Hz N [.str m0,.int m1,.int m2,.int m3,.int m4,.int m5,.int m6,.int m7,.bool m8,.int m9,.int m10,.int m11,.int m12,.rows m13,.int m14,.int m15,.bool m16,.rows (Ae m17),.int m18,.int m19,.int m20,.int m21,.int m22]=some [.bool (YR (⟨⟨m0,m1,m2,m3,m4,m5,m6,m7,m8,m9,m10,m11,m12,m13⟩,m14,m15,m16,m17,m18,m19,m20,m21,m22⟩:Mat))]:=by
 show K2 (std (S5 N) N) (xOf _)=_;generalize hres:(some [.bool (YR (⟨⟨m0,m1,m2,m3,m4,m5,m6,m7,m8,m9,m10,m11,m12,m13⟩,m14,m15,m16,m17,m18,m19,m20,m21,m22⟩:Mat))]:Option (List PV))=RR;simp only [K2,lq9,std,xOf,PXb,PXi];subst hres;simp only [YR];refine Ak (Li (len:=m17.length) (cP m14 m17) [.bool false] ?_ ?_ N (by omega)) ?_
 ·intro self;simp only [PXb,PXc,PXn,AJ,Bg]
 ·intro i self hi;simp only [PXb,PXc,AJ,BA (show i≤1099511627776 by omega),BQ hi,Ap hi,PXi,cP]
 ·cases Bo (cP m14 m17) m17.length 0 with
  | true=>rfl
  | false=>simp only [PXb,PXc,PXn,PXm,Nat.reduceAdd,Int.reduceBEq]
def KV (xs:List Inn):Prop:=∀ i,i<xs.length→(inn xs i).Fit
theorem Wh {N:Nat} {r8:Bool} {r0:ByteArray} {r13:Rows} (hl:r13.length≤1048576):DQ N [.str r0,.int r1,.int r2,.int r3,.int r4,.int r5,.int r6,.int r7,.bool r8,.int r9,.int r10,.int r11,.int r12,.rows r13]=some [.str r0,.int r1,.int r2,.int r3,.int r4,.int r5,.int r6,.int r7,.bool r8,.int r9,.int r10,.int r11,.int r12,.rows r13]:=by
 show K0 (std (Mv N) N) (xOf _)=_;simp only [K0,Lb,lq9,std,xOf,PXb,PXc,PXn,PXm,Nat.reduceAdd,Int.reduceBEq,DH,Bi hl (show 24≤4096 by omega)]
theorem WZ {xs:List Inn} {i:Nat} (h:i<xs.length):xs.take i++[inn xs i]=xs.take (i+1):=by
 rw [List.take_add_one,Kw,zzo h];rfl
theorem ib {N:Nat} {m8 m16:Bool} {m0:ByteArray} {m13:Rows} {m17:List Inn} (hf:KV m17) (hN:2097152<N) (hl:m17.length≤1000000) (h13:m13.length≤1048576):Hw N [.str m0,.int m1,.int m2,.int m3,.int m4,.int m5,.int m6,.int m7,.bool m8,.int m9,.int m10,.int m11,.int m12,.rows m13,.int m14,.int m15,.bool m16,.rows (Ae m17),.int m18,.int m19,.int m20,.int m21,.int m22]=some [.str m0,.int m1,.int m2,.int m3,.int m4,.int m5,.int m6,.int m7,.bool m8,.int m9,.int m10,.int m11,.int m12,.rows m13,.int m14,.int m15,.bool m16,.rows (Ae m17),.int m18,.int m19,.int m20,.int m21,.int m22]:=by
 show LI (std (Is N) N) (xOf _)=_;simp only [LI,QV,HQ,lq9,std,xOf,PXb,Wh h13,PXi];refine Ak (EI (len:=m17.length) (fun i=>[.rows (Ae (m17.take i)),.int (i:Int)]) [.rows (Ae m17)] ?_ ?_ N (by omega)) rfl
 ·intro self;simp only [PXb,PXc,PXn,AJ,Bg,List.take_length]
 ·intro i self hi;have h2:(m17.take (i+1)).length≤1048576:=by rw [List.length_take];omega
  have h3:iSm ((m17.take (i+1)).length:Int) 304=true:=GT (by omega) (by omega);simp only [PXb,PXc,AJ,BA (show i≤1099511627776 by omega),BQ hi,Ap hi,PXi,HQ,CL (hf i hi),PXr,Inn.eta,h3,WZ hi,Nat.reduceAdd];rfl
def xk:Rul:=⟨⟨#[]⟩,0,0,0,0,0,0,0,false,0,0,0,0,[]⟩
def Vm:Mat:=⟨xk,0,0,false,[],0,0,0,0,0⟩
def A8 (r:Rul):Mat×Int:=cond (!(A5 r==0)) (Vm,A5 r) (⟨r,1,0,false,[],0,0,0,0,0⟩,0)
theorem nH {N:Nat} {r8:Bool} {r0:ByteArray} {r13:Rows} (hN:2097152<N) (hs:r0.size≤1048576) (h13:r13.length≤1048576):Oc N [.str r0,.int r1,.int r2,.int r3,.int r4,.int r5,.int r6,.int r7,.bool r8,.int r9,.int r10,.int r11,.int r12,.rows r13]=some (LM (A8 (⟨r0,r1,r2,r3,r4,r5,r6,r7,r8,r9,r10,r11,r12,r13⟩:Rul))):=by
 show Oo (std (LF N) N) (xOf _)=_;generalize hres:(some (LM (A8 (⟨r0,r1,r2,r3,r4,r5,r6,r7,r8,r9,r10,r11,r12,r13⟩:Rul))):Option (List PV))=RR;simp only [Oo,Sd,Sg,lq9,std,xOf,PXb,PXc,PXn,PXm,Nat.reduceAdd,Int.reduceBEq,CV hN hs,Wh h13];subst hres;simp only [A8];cases A5 (⟨r0,r1,r2,r3,r4,r5,r6,r7,r8,r9,r10,r11,r12,r13⟩:Rul)==0<;>rfl
def cJ (m:Mat):Bool:=(iLt m.pen1 0||iLt 1000000 m.pen1)||(iLt m.pen2 0||iLt 1000000 m.pen2)
def Xv (m:Mat) (i:Nat):Bool := !Gy m.rules (inn m.inns i) || !((inn m.inns i).side==DI m (i:Int))
def jU (m:Mat):Bool :=
  let n:Int:=m.inns.length
  let most:=IntKind.i64.wrap (2 * m.rules.innings)
  A5 m.rules==0&&(!(iLt m.stage 1)&&(!(iLt 5 m.stage)&&(!cJ m&&(!(iLt m.first 0||iLt 2 m.first||iLt most n)&&(!(m.first==0&&(iLt 0 n||(!(m.stage==1) && !(m.stage==5)))) &&
    (!(m.stage==1 && !(m.first==0))&&(!(m.stage==2&&n==most)&&(!(m.stage==4&&(!(m.rules.innings==2) || !(n==2))) && !(m.follow&&(!(m.rules.innings==2)||iLt n 2))))))))))
def F1 (m:Mat):Bool:=jU m&&(!Bo (Xv m) m.inns.length 0&&YR m)
set_option maxHeartbeats 4000000 in
theorem W1 {N:Nat} {m8 m16:Bool} {m0:ByteArray} {m13:Rows} {m17:List Inn} (hf:KV m17) (hN:2097152<N) (hl:m17.length≤1000000) (hs:m0.size≤1048576):CU N [.str m0,.int m1,.int m2,.int m3,.int m4,.int m5,.int m6,.int m7,.bool m8,.int m9,.int m10,.int m11,.int m12,.rows m13,.int m14,.int m15,.bool m16,.rows (Ae m17),.int m18,.int m19,.int m20,.int m21,.int m22]=some [.bool (F1 (⟨⟨m0,m1,m2,m3,m4,m5,m6,m7,m8,m9,m10,m11,m12,m13⟩,m14,m15,m16,m17,m18,m19,m20,m21,m22⟩:Mat))]:=by
 show LT (std (EA N) N) (xOf _)=_;generalize hres:(some [.bool (F1 (⟨⟨m0,m1,m2,m3,m4,m5,m6,m7,m8,m9,m10,m11,m12,m13⟩,m14,m15,m16,m17,m18,m19,m20,m21,m22⟩:Mat))]:Option (List PV))=RR;simp only [LT,Ql,HL,Ib,Ic,lq9,std,xOf,PXb,CV hN hs,PXi];subst hres;simp only [F1,jU];cases hc:A5 (⟨⟨m0,m1,m2,m3,m4,m5,m6,m7,m8,m9,m10,m11,m12,m13⟩,m14,m15,m16,m17,m18,m19,m20,m21,m22⟩:Mat).rules==0<;>(try rfl);cases h1:iLt m14 1<;>(try rfl);cases h5:iLt 5 m14<;>(try rfl);simp only [PXb];refine Ak (Li (len:=2) (fun i=>iLt (cond ((i:Int)==1) m19 m18) 0||iLt 1000000 (cond ((i:Int)==1) m19 m18)) [.bool false] ?_ ?_ N (by omega)) ?_
 ·intro self;rfl
 ·intro i self hi;simp only [PXb,BA (show i≤1099511627776 by omega),show iLt (i:Int) 2=true from BQ (len:=2) hi,show iIn (i:Int) 2=true from Ap (len:=2) hi]
 ·have hp:Bo (fun i=>iLt (cond ((i:Int)==1) m19 m18) 0||iLt 1000000 (cond ((i:Int)==1) m19 m18)) 2 0=cJ (⟨⟨m0,m1,m2,m3,m4,m5,m6,m7,m8,m9,m10,m11,m12,m13⟩,m14,m15,m16,m17,m18,m19,m20,m21,m22⟩:Mat):=by
   simp only [CD,Jg,Bool.or_false];rfl
  rw [hp];cases cJ (⟨⟨m0,m1,m2,m3,m4,m5,m6,m7,m8,m9,m10,m11,m12,m13⟩,m14,m15,m16,m17,m18,m19,m20,m21,m22⟩:Mat)
  case true=>rfl
  simp only [PXb,Kh,Int.reduceBEq];cases iLt m15 0<;>try rfl
  cases iLt 2 m15<;>try rfl
  cases iLt (IntKind.i64.wrap (2 * m2)) (m17.length:Int)<;>try rfl
  cases (m15==0&&(iLt 0 (m17.length:Int)||(!(m14==1) && !(m14==5))))<;>try rfl
  cases (m14==1 && !(m15==0))<;>try rfl
  cases (m14==2&&(m17.length:Int)==IntKind.i64.wrap (2 * m2))<;>try rfl
  cases (m14==4&&(!(m2==2) || !((m17.length:Int)==2)))<;>try rfl
  cases (m16&&(!(m2==2)||iLt (m17.length:Int) 2))<;>try rfl
  simp only [PXb];refine Ak (Li (len:=m17.length) (Xv (⟨⟨m0,m1,m2,m3,m4,m5,m6,m7,m8,m9,m10,m11,m12,m13⟩,m14,m15,m16,m17,m18,m19,m20,m21,m22⟩:Mat)) [.bool false] ?_ ?_ N (by omega)) ?_
  ·intro self;simp only [PXb,PXc,PXn,AJ,Bg]
  ·intro i self hi;simp only [PXb,PXc,PXn,PXm,Nat.reduceAdd,Int.reduceBEq,BA (show i≤1099511627776 by omega),BQ hi,Ap hi,PXi,HL,Ib,Tf (hf i hi) hN hs,PY,Xv];cases Gy (⟨⟨m0,m1,m2,m3,m4,m5,m6,m7,m8,m9,m10,m11,m12,m13⟩,m14,m15,m16,m17,m18,m19,m20,m21,m22⟩:Mat).rules (inn m17 i)<;>first | rfl | simp only [PXb,PXc,PXn,PXm,Nat.reduceAdd,Int.reduceBEq]
  ·cases Bo (Xv (⟨⟨m0,m1,m2,m3,m4,m5,m6,m7,m8,m9,m10,m11,m12,m13⟩,m14,m15,m16,m17,m18,m19,m20,m21,m22⟩:Mat)) m17.length 0
   case true=>rfl
   simp only [PXb,PXc,PXn,PXm,Nat.reduceAdd,Int.reduceBEq,Ic,i7 hN (show m17.length≤1048576 by omega)]
def lnx (xs:List Inn):Nat:=(IntKind.i64.wrap ((xs.length:Int) - 1)).toNat
def Ax (m:Mat):Inn:=inn m.inns (lnx m.inns)
theorem UR {n:Nat} (h:((n:Int)==0)=false) (hl:n≤1000000):iIn (IntKind.i64.wrap ((n:Int) - 1)) (n:Int)=true:=by
 rw [beq_eq_false_iff_ne] at h;rw [DG (by omega) (by omega)];simp only [iIn,decide_eq_true_eq];omega
theorem Yu {xs:List Inn} (h:((xs.length:Int)==0)=false) (hl:xs.length≤1000000):lnx xs<xs.length:=by
 rw [beq_eq_false_iff_ne] at h;unfold lnx;rw [DG (by omega) (by omega)];omega
def cz (r:Rul):Int:=cond (r.overs==0) 5 6
theorem JP {N:Nat} {r8:Bool} {r0:ByteArray} {r13:Rows}  : Br N [.str r0,.int r1,.int r2,.int r3,.int r4,.int r5,.int r6,.int r7,.bool r8,.int r9,.int r10,.int r11,.int r12,.rows r13]=some [.int (cz (⟨r0,r1,r2,r3,r4,r5,r6,r7,r8,r9,r10,r11,r12,r13⟩:Rul))]:=by
 show Fm (std (M4 N) N) (xOf _)=_;simp only [Fm,lq9,std,xOf,PXb,PXc,PXn,PXm,Nat.reduceAdd,Int.reduceBEq,cz]
def uv (x:Int×Int×Int):List PV:=[.int x.1,.int x.2.1,.int x.2.2]
def V2 (m:Mat):Int×Int×Int :=
  let n:Int:=m.inns.length
  let most:=IntKind.i64.wrap (2 * m.rules.innings)
  let x:=Ax m
  cond (!F1 m||n==0) (0,0,0) (cond (x.ending==5) (cz m.rules,0,0) (cond (x.ending==0) (0,0,0)
    (cond (n==most&&iLe x.target x.runs) (2,x.side,IntKind.i64.wrap (IntKind.i64.wrap (m.rules.side - 1) - x.wickets)) (cond (n==most&&x.runs==IntKind.i64.wrap (x.target - 1)) (4,0,0)
      (cond (n==most) (1,BR x.side,IntKind.i64.wrap (IntKind.i64.wrap (x.target - 1) - x.runs))
        (cond (n==3&&iLt (CH m x.side) (CH m (BR x.side))) (3,BR x.side,IntKind.i64.wrap (CH m (BR x.side) - CH m x.side)) (0,0,0)))))))
set_option maxHeartbeats 4000000 in
theorem cu {N:Nat} {m8 m16:Bool} {m0:ByteArray} {m13:Rows} {m17:List Inn} (hf:KV m17) (hN:2097152<N) (hl:m17.length≤1000000) (hs:m0.size≤1048576):F6 N [.str m0,.int m1,.int m2,.int m3,.int m4,.int m5,.int m6,.int m7,.bool m8,.int m9,.int m10,.int m11,.int m12,.rows m13,.int m14,.int m15,.bool m16,.rows (Ae m17),.int m18,.int m19,.int m20,.int m21,.int m22]=some (uv (V2 (⟨⟨m0,m1,m2,m3,m4,m5,m6,m7,m8,m9,m10,m11,m12,m13⟩,m14,m15,m16,m17,m18,m19,m20,m21,m22⟩:Mat))):=by
 show IZ (std (DM N) N) (xOf _)=_;generalize hres:(some (uv (V2 (⟨⟨m0,m1,m2,m3,m4,m5,m6,m7,m8,m9,m10,m11,m12,m13⟩,m14,m15,m16,m17,m18,m19,m20,m21,m22⟩:Mat))):Option (List PV))=RR;simp only [IZ,Ou,O3,O0,Lo,lq9,std,xOf,PXb,PXi,W1 hf hN hl hs,Hn,JP,Pa hN (show m17.length≤1048576 by omega)];subst hres;simp only [V2,Ax,lnx];cases hv:F1 (⟨⟨m0,m1,m2,m3,m4,m5,m6,m7,m8,m9,m10,m11,m12,m13⟩,m14,m15,m16,m17,m18,m19,m20,m21,m22⟩:Mat)
 case false=>rfl
 cases h0:(m17.length:Int)==0
 case true=>rfl
 simp only [PXb,UR h0 hl];generalize inn m17 (IntKind.i64.wrap ((m17.length:Int) - 1)).toNat=x;cases x.ending==5
 case true=>rfl
 cases x.ending==0
 case true=>rfl
 cases (m17.length:Int)==IntKind.i64.wrap (2 * m2)<;>cases iLe x.target x.runs<;>cases x.runs==IntKind.i64.wrap (x.target - 1)<;>try rfl
 all_goals (cases (m17.length:Int)==3<;>try rfl)
 all_goals (simp only [PXb];cases iLt (CH (⟨⟨m0,m1,m2,m3,m4,m5,m6,m7,m8,m9,m10,m11,m12,m13⟩,m14,m15,m16,m17,m18,m19,m20,m21,m22⟩:Mat) x.side) (CH (⟨⟨m0,m1,m2,m3,m4,m5,m6,m7,m8,m9,m10,m11,m12,m13⟩,m14,m15,m16,m17,m18,m19,m20,m21,m22⟩:Mat) (BR x.side))<;>rfl)
theorem lU:∀ (n k:Nat) (f:Nat→Nat),(∀ i,i<k→1≤f i∧f i≤n)→(∀ i j,i<j→j<k→f i≠f j)→k≤n
 | 0,k,f,h,_=>by
  rcases Nat.eq_zero_or_pos k with e | e
  ·omega
  ·have:=h 0 e;omega
 | n+1,0,f,_,_=>by omega
 | n+1,k+1,f,h,hi=>by
  by_cases he:∃ j,j<k+1∧f j=n+1
  ·obtain ⟨j,hj,hfj⟩:=he;have:=lU n k (fun i=>if i=j then f k else f i) (fun i hik=>by
    show 1≤(if i=j then f k else f i)∧(if i=j then f k else f i)≤n
    by_cases e:i=j
    ·rw [if_pos e];have h1:=h k (by omega);have:f k≠f j:=fun e2=>hi j k (by omega) (by omega) e2.symm
     omega
    ·rw [if_neg e];have h1:=h i (by omega);have:f i≠f j:=by
      rcases Nat.lt_or_gt_of_ne e with e2 | e2
      ·exact hi i j e2 hj
      ·exact fun e3=>hi j i e2 (by omega) e3.symm
     omega) (fun a b hab hb=>by
    show (if a=j then f k else f a)≠(if b=j then f k else f b)
    by_cases e1:a=j
    ·have e2:b≠j:=by omega
     rw [if_pos e1,if_neg e2];exact fun e3=>hi b k hb (by omega) e3.symm
    ·rw [if_neg e1]
     by_cases e2:b=j
     ·rw [if_pos e2];exact hi a k (by omega) (by omega)
     ·rw [if_neg e2];exact hi a b hab (by omega))
   omega
  ·have:=lU n (k+1) f (fun i hik=>by
    have h1:=h i hik;have:f i≠n+1:=fun e=>he ⟨i,hik,e⟩
    omega) hi
   omega
theorem lK {L:Rows} {n:Int} (h:Kq L n=true) (hn:0≤n):(L.length:Int)≤n:=by
 unfold Kq at h;rw [Bool.not_eq_true',Jo] at h;have hb:∀ i,i<L.length→1≤atI L i 0∧atI L i 0≤n:=fun i hi=>by
  have:=h i (by omega) (by omega);unfold Q5 at this;rw [Bool.or_eq_false_iff,Bool.not_eq_false',U3] at this;exact this.1
 have:=lU n.toNat L.length (fun i=>(atI L i 0).toNat) (fun i hi=>by have:=hb i hi;show 1≤(atI L i 0).toNat∧(atI L i 0).toNat≤n.toNat;omega) (fun i j hij hj=>by
  show (atI L i 0).toNat≠(atI L j 0).toNat;have h1:=hb i (by omega);have h2:=hb j hj;have h3:=h j (by omega) (by omega);unfold Q5 at h3;rw [Bool.or_eq_false_iff] at h3;have h4:=Jo.1 h3.2 i (by omega) (by omega);rw [beq_eq_false_iff_ne] at h4;omega)
 omega
theorem Qg {r:Rul} {s:Inn} (h:Gy r s=true):s.bowlers.length≤11∧s.before.length≤11∧s.Fit:=by
 have ok:=PG.1 h;have hs:=vY ok;have h1:=lK ok.dw (by omega);have h2:=lK ok.df (by omega);have h3:=ok.lb;have h4:=ok.ld;have h5:=ok.lz;exact ⟨by omega,by omega,by omega,by omega,by omega,by omega,by omega⟩
def cf (m:Mat) (e:Ev):Mat×Int :=
  let sd:=DI m (m.inns.length:Int)
  let b:=Cu m.rules sd (HA m sd) (cond (sd==2) m.pen2 m.pen1)
  let t:=Ay m.rules b.1 e
  cond (!(b.2==0)) (m,1) (cond (!(t.2==0)) (m,t.2)
    ({ m with stage:=3,inns:=m.inns++[t.1],pen1:=cond (sd==1) 0 m.pen1,pen2:=cond (sd==2) 0 m.pen2 },0))
def M9 (xs:List Inn) (sd:Int):Nat→Option Nat
 | 0=>none
 | k+1=>cond ((inn xs k).side==sd) (some k) (M9 xs sd k)
def H0 (m:Mat) (sd:Int):Mat:=match M9 m.inns sd m.inns.length with
 | some k=>{ m with inns:=m.inns.set k (PZ (inn m.inns k)) }
 | none=>{ m with pen1:=cond (sd==1) (IntKind.i64.wrap (m.pen1+5)) m.pen1,pen2:=cond (sd==2) (IntKind.i64.wrap (m.pen2+5)) m.pen2 }
def Fp (m:Mat) (e:Ev):Mat×Int :=
 let t:=Ay m.rules (Ax m) e
 cond (!(t.2==0)) (m,t.2) (cond (e.kind==13 && !(e.side==t.1.side)) (H0 { m with inns:=m.inns.set (lnx m.inns) t.1 } e.side) { m with inns:=m.inns.set (lnx m.inns) t.1 },0)
def cX (m:Mat):Mat:={ m with inns:=cond (m.stage==3) (m.inns.set (lnx m.inns) { Ax m with ending:=5 }) m.inns,stage:=5,win:=cz m.rules,wside:=0,margin:=0 }
def IQ (m:Mat) (e:Ev):Mat×Int :=
  cond (e.kind==1) (cond (!(m.stage==1)) (m,1) ({ m with first:=cond e.yes e.side (BR e.side),stage:=2 },0))
    (cond (e.kind==2) (cond (!(m.stage==2)) (m,1) (cf m e))
      (cond (e.kind==12) (cond (!(m.stage==4)) (m,1) (cond (!(e.side==m.first)) (m,2) ({ m with follow:=e.yes,stage:=2 },0)))
        (cond (e.kind==16) (cX m,0) (cond (!(m.stage==3)) (m,1) (Fp m e)))))
def Q4 (m:Mat):Mat :=
  let n:Int:=m.inns.length
  let sd:=(Ax m).side
  let o:=V2 { m with stage:=5 }
  cond (n==IntKind.i64.wrap (2 * m.rules.innings)||(n==3&&iLt (CH m sd) (CH m (BR sd)))) { m with stage:=5,win:=o.1,wside:=o.2.1,margin:=o.2.2 }
    (cond (n==2&&iLt 0 m.rules.followon&&iLe m.rules.followon (IntKind.i64.wrap (CH m m.first - CH m (BR m.first)))) { m with stage:=4 } { m with stage:=2 })
def CN (m:Mat):Mat:=cond (m.stage==3 && !((Ax m).ending==0)) (Q4 m) m
def Dk (m:Mat) (e:Ev):Mat×Int :=
 cond (!F1 m || !(evS e==0)) (m,1) (cond (m.stage==5) (m,26) (cond (!((IQ m e).2==0)) (m,(IQ m e).2) (CN (IQ m e).1,0)))
theorem vZ {X:Option (List PV)} {r:List PV} {k:List PV→Option (List PV)} {g:Option (List PV)} (h:X=some r) (hk:k r=g):X.bind k=g:=by rw [h];exact hk
structure MatOk (m:Mat):Prop where
 code:A5 m.rules=0
 len:m.inns.length≤4
 innv:∀ i,i<m.inns.length→Gy m.rules (inn m.inns i)=true∧(inn m.inns i).side=DI m (i:Int)
 begun:(m.stage==3)=true→((m.inns.length:Int)==0)=false
 toss:(m.stage==2)=true→m.first=1∨m.first=2
 room:(m.stage==2)=true→(m.inns.length:Int)<2 * m.rules.innings
 most:IntKind.i64.wrap (2 * m.rules.innings)=2 * m.rules.innings∧(m.inns.length:Int)≤2 * m.rules.innings
theorem Yl {m:Mat} (h:F1 m=true):MatOk m:=by
 unfold F1 jU at h;simp only [zzk,Bool.not_eq_true'] at h;obtain ⟨⟨h1,h2,h3,h4,h5,h6,h7,h8,h9,h10⟩,h11,h12⟩:=h;have hc:=beq_iff_eq.1 h1;have rk:=(Fa hc).innings;have e2:IntKind.i64.wrap (2 * m.rules.innings)=2 * m.rules.innings:=DG (by omega) (by omega);rw [e2] at h5 h8;rw [Bool.or_eq_false_iff,Bool.or_eq_false_iff] at h5;have hn:=h5.2;have hf1:=h5.1.1;have hf2:=h5.1.2;simp only [iLt,decide_eq_false_iff_not] at hn hf1 hf2;refine ⟨hc,by omega,fun i hi=>?_,fun hs=>?_,fun hs=>?_,fun hs=>?_,e2,by omega⟩
 ·have:=Jo.1 h11 i (by omega) (by omega);unfold Xv at this;rw [Bool.or_eq_false_iff,Bool.not_eq_false',Bool.not_eq_false',beq_iff_eq] at this;exact this
 ·unfold YR at h12;rw [hs,zzk] at h12;have:=h12.2;simp only [iLt,Bool.not_true,Bool.false_or,decide_eq_true_eq] at this;exact beq_false_of_ne (by omega)
 ·rw [beq_iff_eq.1 hs] at h6;cases h0:m.first==0 with
  | true=>rw [h0] at h6;simp at h6
  | false =>
   rw [beq_eq_false_iff_ne] at h0;omega
 ·rw [hs,Bool.true_and,beq_eq_false_iff_ne] at h8;omega
theorem uM {m:Mat} (h:m.first=1∨m.first=2) (i:Int):DI m i=1∨DI m i=2:=by
 unfold DI;cases cond (m.follow&&iLe 2 i) (i==2) (i.tmod 2==1) with
 | false=>exact h
 | true=>rcases h with h | h<;>rw [h]<;>decide
theorem gf {m:Mat} (h:MatOk m):KV m.inns:=fun i hi=>(Qg (h.innv i hi).1).2.2
theorem Vl {F : (List AW → Option (List PV)) → List PV → Option (List PV)} {len : Nat} (enc : Nat → List AW) (ans : Nat → Option (List PV))
    (h0:∀ self,F self ((enc len).map Leaf.pv)=some [.int 1]) (h1:∀ i self,i<len→F self ((enc i).map Leaf.pv)=match ans i with | some r=>some (.int 0::r) | none=>self (enc (i+1))) :
    ∀ (k i n:Nat),i+k=len→k<n→Dy F n ((enc i).map Leaf.pv)=some (Qo (BO ans k i))
  | 0,i,n,hk,hn=>by
    obtain ⟨n,rfl⟩:∃ m,n=m+1:=⟨n - 1,by omega⟩;obtain rfl:i=len:=by omega
    exact h0 _
  | k+1,i,n,hk,hn=>by
    obtain ⟨n,rfl⟩:∃ m,n=m+1:=⟨n - 1,by omega⟩;show F _ _=_;rw [h1 i _ (by omega)];simp only [BO];cases ans i with
    | some r=>rfl
    | none=>exact Vl enc ans h0 h1 k (i+1) n (by omega) (by omega)
theorem oE (ys:List Inn) (sd:Int) (g:Nat→List PV) (n:Nat):∀ k,k≤n→BO (fun j=>cond ((inn ys (n - 1 - j)).side==sd) (some (g (n - 1 - j))) none) k (n - k)=(M9 ys sd k).map g
 | 0,_=>rfl
 | k+1,h=>by
  have ih:=oE ys sd g n k (by omega);have e:n - 1 - (n - (k+1))=k:=by omega
  have e2:n - (k+1)+1=n - k:=by omega
  simp only [BO,M9,e,e2,ih];cases (inn ys k).side==sd<;>rfl
theorem Y3 (xs:List Inn) (k:Nat) (s:Inn) (i:Nat) (hi:i<xs.length):inn (xs.set k s) i=(if k=i then s else inn xs i):=by
 rw [Kw,Kw,List.getElem?_set]
 by_cases h:k=i
 ·subst h;rw [if_pos rfl,if_pos rfl,if_pos hi]
 ·rw [if_neg h,if_neg h]
theorem RO {xs:List Inn} {s:Inn} (k:Nat) (h:KV xs) (hs:s.Fit):KV (xs.set k s):=fun i hi=>by
 rw [List.length_set] at hi;rw [Y3 xs k s i hi]
 by_cases e:k=i
 ·rw [if_pos e];exact hs
 ·rw [if_neg e];exact h i hi
theorem rH {e:Ev} (h:(evS e==0)=true) (hk:(e.kind==13)=true):e.side=1∨e.side=2:=by
 have h0:=gD h;rw [beq_iff_eq] at hk;unfold evS at h;rw [h0] at h;cases h1:jx e with
 | true=>rw [h1] at h;cases h
 | false =>
  cases h2:bF e with
  | true=>rw [h1,h2] at h;cases h
  | false =>
   unfold bF at h2;rw [Bool.or_eq_false_iff] at h2;have h3:=h2.1;rw [hk,show uS 13=true from rfl,Bool.and_true] at h3;simp only [btw,iLe,Bool.not_eq_false',zzk,decide_eq_true_eq] at h3;omega
theorem wN (xs:List Inn) (s:Inn) (i:Nat) (hi:i<xs.length+1):inn (xs++[s]) i=(if i<xs.length then inn xs i else s):=by
 rw [Kw,Kw]
 by_cases h:i<xs.length
 ·rw [if_pos h,List.getElem?_append_left h]
 ·have:i=xs.length:=by omega
  subst this;rw [if_neg h,List.getElem?_append_right (Nat.le_refl _),Nat.sub_self];rfl
theorem tw {xs:List Inn} {s:Inn} (h:KV xs) (hs:s.Fit):KV (xs++[s]):=fun i hi=>by
 rw [List.length_append] at hi;rw [wN xs s i hi]
 by_cases e:i<xs.length
 ·rw [if_pos e];exact h i e
 ·rw [if_neg e];exact hs
theorem fx (r:Rul) (a b c:Int) (e:Ev):(Ay r (Cu r a b c).1 e).1.Fit:=by
 obtain ⟨f,h1,h2⟩:=Qq r a b c;exact Q8 (TI r _ e) f (by rw [h1,h2];exact Nat.zero_le _)
structure ActOk (m:Mat) (x:Mat×Int):Prop where
 rules:x.1.rules=m.rules
 fit:KV x.1.inns
 len:x.1.inns.length≤5
 some':(x.2==0)=true→(x.1.stage==3)=true→((x.1.inns.length:Int)==0)=false
theorem A_c {m:Mat} (b:Bool) (x y:Mat×Int) (hx:ActOk m x) (hy:ActOk m y):ActOk m (cond b x y):=by cases b<;>assumption
theorem kZ {m:Mat} (sd:Int) (hf:KV m.inns):(H0 m sd).rules=m.rules∧KV (H0 m sd).inns∧(H0 m sd).inns.length=m.inns.length∧(H0 m sd).stage=m.stage:=by
 unfold H0;cases h:M9 m.inns sd m.inns.length with
 | none=>exact ⟨rfl,hf,rfl,rfl⟩
 | some k =>
  have hk:k<m.inns.length:=by
   have:∀ n,M9 m.inns sd n=some k→k<n:=by
    intro n
    induction n with
    | zero=>intro h;cases h
    | succ n ih =>
     intro h;unfold M9 at h;cases hq:(inn m.inns n).side==sd with
     | true=>rw [hq] at h;cases h;omega
     | false=>rw [hq] at h;have:=ih h;omega
   exact this _ h
  exact ⟨rfl,RO k hf (vh (hf k hk)),List.length_set,rfl⟩
theorem rY {m:Mat} (ok:MatOk m) (e:Ev):ActOk m (IQ m e):=by
 have hf:=gf ok;have hl:=ok.len;have self:∀ n:Int,(n==0)=false→ActOk m (m,n):=fun n hn=>⟨rfl,hf,by show m.inns.length≤5;omega,fun h=>by rw [hn] at h;cases h⟩
 unfold IQ;refine A_c _ _ _ (A_c _ _ _ (self 1 rfl) ⟨rfl,hf,by show m.inns.length≤5;omega,fun _ h=>by cases h⟩) (A_c _ _ _ ?_ (A_c _ _ _ ?_ (A_c _ _ _ ?_ ?_)))
 ·refine A_c _ _ _ (self 1 rfl) ?_;unfold cf;refine A_c _ _ _ (self 1 rfl) ?_;cases hq:(Ay m.rules (Cu m.rules (DI m (m.inns.length:Int)) (HA m (DI m (m.inns.length:Int))) (cond (DI m (m.inns.length:Int)==2) m.pen2 m.pen1)).1 e).2==0 with
  | false =>
   simp only [Bool.not_false,cond_true];exact self _ hq
  | true =>
   simp only [Bool.not_true,cond_false];exact ⟨rfl,tw hf (fx _ _ _ _ e),by simp;omega,fun _ _=>by
    show ((((m.inns++[_]).length:Nat):Int)==0)=false;rw [List.length_append];exact beq_false_of_ne (by simp;omega)⟩
 ·exact A_c _ _ _ (self 1 rfl) (A_c _ _ _ (self 2 rfl) ⟨rfl,hf,by show m.inns.length≤5;omega,fun _ h=>by cases h⟩)
 ·unfold cX;cases h3:m.stage==3 with
  | false=>exact ⟨rfl,hf,by show m.inns.length≤5;omega,fun _ h=>by cases h⟩
  | true =>
   have h0:=ok.begun h3;have fl:=hf (lnx m.inns) (Yu h0 (by omega));exact ⟨rfl,RO _ hf ⟨fl.bt,fl.bw,fl.bf,fl.bd,fl.sb⟩,by show (m.inns.set _ _).length≤5;rw [List.length_set];omega,fun _ h=>by cases h⟩
 ·cases h3:m.stage==3 with
  | false=>exact self 1 rfl
  | true =>
   have h0:=ok.begun h3;have lv:=Qg (ok.innv (lnx m.inns) (Yu h0 (by omega))).1;have h1:=lv.1;have h2:=lv.2.1;have ft:=Q8 (TI m.rules (Ax m) e) lv.2.2 (show (inn m.inns (lnx m.inns)).before.length+(inn m.inns (lnx m.inns)).bowlers.length≤1048575 by omega);simp only [Bool.not_true,cond_false,Fp];cases hq:(Ay m.rules (Ax m) e).2==0 with
   | false =>
    simp only [Bool.not_false,Bool.not_true,cond_true,cond_false];exact self _ hq
   | true =>
    have fs:=RO (lnx m.inns) hf ft;have ln:(m.inns.set (lnx m.inns) (Ay m.rules (Ax m) e).1).length=m.inns.length:=List.length_set;simp only [Bool.not_true,cond_false];cases (e.kind==13 && !(e.side==(Ay m.rules (Ax m) e).1.side)) with
    | false =>
     exact ⟨rfl,fs,by show (m.inns.set _ _).length≤5;omega,fun _ _=>by
      show ((((m.inns.set _ _).length:Nat):Int)==0)=false;rw [ln];exact h0⟩
    | true =>
     obtain ⟨a1,a2,a3,a4⟩:=kZ (m:={ m with inns:=m.inns.set (lnx m.inns) (Ay m.rules (Ax m) e).1 }) e.side fs;exact ⟨a1,a2,by show (H0 _ _).inns.length≤5;rw [a3];show (m.inns.set _ _).length≤5;omega,fun _ _=>by
      show ((((H0 _ _).inns.length:Nat):Int)==0)=false;rw [a3];show ((((m.inns.set _ _).length:Nat):Int)==0)=false;rw [ln];exact h0⟩
set_option maxHeartbeats 8000000 in
theorem lS {N:Nat} {m8 m16:Bool} {m0:ByteArray} {m13:Rows} {m17:List Inn} {e0 e1 e2 e3 e5 e6 e7 e8 e9 e10 e11 e13 e14 e15 e16 e18:Int} {e4 e12 e17:Bool} (hN:2097152<N) (hf:KV m17) (hl:m17.length≤1000000) (hs:m0.size≤1048576) (h13:m13.length≤1048576):Mt N [.str m0,.int m1,.int m2,.int m3,.int m4,.int m5,.int m6,.int m7,.bool m8,.int m9,.int m10,.int m11,.int m12,.rows m13,.int m14,.int m15,.bool m16,.rows (Ae m17),.int m18,.int m19,.int m20,.int m21,.int m22,.int e0,.int e1,.int e2,.int e3,.bool e4,.int e5,.int e6,.int e7,.int e8,.int e9,.int e10,.int e11,.bool e12,.int e13,.int e14,.int e15,.int e16,.bool e17,.int e18]=some (LM (Dk (⟨⟨m0,m1,m2,m3,m4,m5,m6,m7,m8,m9,m10,m11,m12,m13⟩,m14,m15,m16,m17,m18,m19,m20,m21,m22⟩:Mat) (⟨e0,e1,e2,e3,e4,e5,e6,⟨e7,e8,e9,e10,e11,e12,e13,e14,e15,e16,e17,e18⟩⟩:Ev))):=by
 show MR (std (BM N) N) (xOf _)=_;generalize hres:(some (LM (Dk (⟨⟨m0,m1,m2,m3,m4,m5,m6,m7,m8,m9,m10,m11,m12,m13⟩,m14,m15,m16,m17,m18,m19,m20,m21,m22⟩:Mat) (⟨e0,e1,e2,e3,e4,e5,e6,⟨e7,e8,e9,e10,e11,e12,e13,e14,e15,e16,e17,e18⟩⟩:Ev))):Option (List PV))=RR;simp only [MR,R7,FB,SK,E5,RU,JV,H6,EF,Ea,C9,DT,HG,lq9,std,xOf,PXb,W1 hf hN hl hs,Wn hN,ib hf hN hl h13];subst hres;simp only [Dk];cases hv:F1 (⟨⟨m0,m1,m2,m3,m4,m5,m6,m7,m8,m9,m10,m11,m12,m13⟩,m14,m15,m16,m17,m18,m19,m20,m21,m22⟩:Mat)
 case false=>rfl
 cases he:evS (⟨e0,e1,e2,e3,e4,e5,e6,⟨e7,e8,e9,e10,e11,e12,e13,e14,e15,e16,e17,e18⟩⟩:Ev)==0
 case false=>simp only [PXb,he];rfl
 simp only [PXb,he];cases h5:m14==5
 case true=>rfl
 simp only [PXb];have ok:=Yl hv;refine vZ (r:=.int (IQ (⟨⟨m0,m1,m2,m3,m4,m5,m6,m7,m8,m9,m10,m11,m12,m13⟩,m14,m15,m16,m17,m18,m19,m20,m21,m22⟩:Mat) (⟨e0,e1,e2,e3,e4,e5,e6,⟨e7,e8,e9,e10,e11,e12,e13,e14,e15,e16,e17,e18⟩⟩:Ev)).2::(IQ (⟨⟨m0,m1,m2,m3,m4,m5,m6,m7,m8,m9,m10,m11,m12,m13⟩,m14,m15,m16,m17,m18,m19,m20,m21,m22⟩:Mat) (⟨e0,e1,e2,e3,e4,e5,e6,⟨e7,e8,e9,e10,e11,e12,e13,e14,e15,e16,e17,e18⟩⟩:Ev)).1.ls) ?_ ?_
 ·unfold IQ;cases hk1:e0==1
  case true =>
   simp only [PXb,E5,Hn];cases m14==1<;>cases e4<;>rfl
  cases hk2:e0==2
  case true =>
   simp only [PXb];cases hs2:m14==2
   case false=>rfl
   have hl2:m17.length≤1048576:=by omega
   have h304:iSm ((m17.length+1:Nat):Int) 304=true:=GT (by omega) (by omega);have fb:=fun a b c=>(Qq (⟨⟨m0,m1,m2,m3,m4,m5,m6,m7,m8,m9,m10,m11,m12,m13⟩,m14,m15,m16,m17,m18,m19,m20,m21,m22⟩:Mat).rules a b c).1
   have wb:∀ a b c,(Cu (⟨⟨m0,m1,m2,m3,m4,m5,m6,m7,m8,m9,m10,m11,m12,m13⟩,m14,m15,m16,m17,m18,m19,m20,m21,m22⟩:Mat).rules a b c).1.before.length+(Cu (⟨⟨m0,m1,m2,m3,m4,m5,m6,m7,m8,m9,m10,m11,m12,m13⟩,m14,m15,m16,m17,m18,m19,m20,m21,m22⟩:Mat).rules a b c).1.bowlers.length≤1000000:=fun a b c=>by
    rw [(Qq (⟨⟨m0,m1,m2,m3,m4,m5,m6,m7,m8,m9,m10,m11,m12,m13⟩,m14,m15,m16,m17,m18,m19,m20,m21,m22⟩:Mat).rules a b c).2.1,(Qq (⟨⟨m0,m1,m2,m3,m4,m5,m6,m7,m8,m9,m10,m11,m12,m13⟩,m14,m15,m16,m17,m18,m19,m20,m21,m22⟩:Mat).rules a b c).2.2];exact Nat.zero_le _
   rcases uM (m:=(⟨⟨m0,m1,m2,m3,m4,m5,m6,m7,m8,m9,m10,m11,m12,m13⟩,m14,m15,m16,m17,m18,m19,m20,m21,m22⟩:Mat)) (ok.toss hs2) (m17.length:Int) with ho | ho
   ·simp only [PXb,PXc,Kh,lk,Nat.reduceAdd,Int.reduceBEq,PXi,PXr,Inn.eta,BU,List.length_append,List.length_cons,List.length_nil,h304,cf,FB,Ea,EF,C9,PY,Uf hN hl2,TE hN hs,Nj (fb _ _ _) (wb _ _ _) hN hs h13,ho,wr1,wr2,kW,mC];cases (Cu (⟨⟨m0,m1,m2,m3,m4,m5,m6,m7,m8,m9,m10,m11,m12,m13⟩,m14,m15,m16,m17,m18,m19,m20,m21,m22⟩:Mat).rules 1 (HA (⟨⟨m0,m1,m2,m3,m4,m5,m6,m7,m8,m9,m10,m11,m12,m13⟩,m14,m15,m16,m17,m18,m19,m20,m21,m22⟩:Mat) 1) m18).2==0<;>try rfl
    cases (Ay (⟨⟨m0,m1,m2,m3,m4,m5,m6,m7,m8,m9,m10,m11,m12,m13⟩,m14,m15,m16,m17,m18,m19,m20,m21,m22⟩:Mat).rules (Cu (⟨⟨m0,m1,m2,m3,m4,m5,m6,m7,m8,m9,m10,m11,m12,m13⟩,m14,m15,m16,m17,m18,m19,m20,m21,m22⟩:Mat).rules 1 (HA (⟨⟨m0,m1,m2,m3,m4,m5,m6,m7,m8,m9,m10,m11,m12,m13⟩,m14,m15,m16,m17,m18,m19,m20,m21,m22⟩:Mat) 1) m18).1 (⟨e0,e1,e2,e3,e4,e5,e6,⟨e7,e8,e9,e10,e11,e12,e13,e14,e15,e16,e17,e18⟩⟩:Ev)).2==0<;>rfl
   ·simp only [PXb,PXc,Kh,lk,Nat.reduceAdd,Int.reduceBEq,PXi,PXr,Inn.eta,BU,List.length_append,List.length_cons,List.length_nil,h304,cf,FB,Ea,EF,C9,PY,Uf hN hl2,TE hN hs,Nj (fb _ _ _) (wb _ _ _) hN hs h13,ho,wr1,wr2,kW,mC];cases (Cu (⟨⟨m0,m1,m2,m3,m4,m5,m6,m7,m8,m9,m10,m11,m12,m13⟩,m14,m15,m16,m17,m18,m19,m20,m21,m22⟩:Mat).rules 2 (HA (⟨⟨m0,m1,m2,m3,m4,m5,m6,m7,m8,m9,m10,m11,m12,m13⟩,m14,m15,m16,m17,m18,m19,m20,m21,m22⟩:Mat) 2) m19).2==0<;>try rfl
    cases (Ay (⟨⟨m0,m1,m2,m3,m4,m5,m6,m7,m8,m9,m10,m11,m12,m13⟩,m14,m15,m16,m17,m18,m19,m20,m21,m22⟩:Mat).rules (Cu (⟨⟨m0,m1,m2,m3,m4,m5,m6,m7,m8,m9,m10,m11,m12,m13⟩,m14,m15,m16,m17,m18,m19,m20,m21,m22⟩:Mat).rules 2 (HA (⟨⟨m0,m1,m2,m3,m4,m5,m6,m7,m8,m9,m10,m11,m12,m13⟩,m14,m15,m16,m17,m18,m19,m20,m21,m22⟩:Mat) 2) m19).1 (⟨e0,e1,e2,e3,e4,e5,e6,⟨e7,e8,e9,e10,e11,e12,e13,e14,e15,e16,e17,e18⟩⟩:Ev)).2==0<;>rfl
  cases hk3:e0==12
  case true =>
   simp only [PXb];cases m14==4<;>cases e1==m15<;>rfl
  cases hk4:e0==16
  case true =>
   simp only [PXb,cX];cases h3:m14==3
   case false=>simp only [PXb,PXc,PXi,PXr,Kh,Nat.reduceAdd,DT,JP];rfl
   simp only [PXb,PXc,PXi,PXr,Kh,Nat.reduceAdd,UR (ok.begun h3) hl,DT,JP];rfl
  simp only [PXb];cases h3:m14==3
  case false=>rfl
  have h0:=ok.begun h3;have lv:=Qg (ok.innv (lnx m17) (Yu h0 hl)).1;have fl:(inn m17 (IntKind.i64.wrap ((m17.length:Int) - 1)).toNat).Fit:=lv.2.2;have wl:(inn m17 (IntKind.i64.wrap ((m17.length:Int) - 1)).toNat).before.length+(inn m17 (IntKind.i64.wrap ((m17.length:Int) - 1)).toNat).bowlers.length≤1000000:=by
   have h1:=lv.1;have h2:=lv.2.1;change (inn m17 (IntKind.i64.wrap ((m17.length:Int) - 1)).toNat).bowlers.length≤11 at h1;change (inn m17 (IntKind.i64.wrap ((m17.length:Int) - 1)).toNat).before.length≤11 at h2;omega
  have f1:=Q8 (TI (⟨⟨m0,m1,m2,m3,m4,m5,m6,m7,m8,m9,m10,m11,m12,m13⟩,m14,m15,m16,m17,m18,m19,m20,m21,m22⟩:Mat).rules (inn m17 (IntKind.i64.wrap ((m17.length:Int) - 1)).toNat) (⟨e0,e1,e2,e3,e4,e5,e6,⟨e7,e8,e9,e10,e11,e12,e13,e14,e15,e16,e17,e18⟩⟩:Ev)) fl (by omega);simp only [PXb,PXc,PXi,PXr,BU,Inn.eta,Kh,Nat.reduceAdd,List.length_set,UR h0 hl,C9,Nj fl wl hN hs h13,Fp,Ax,lnx];generalize hX:Ay (⟨⟨m0,m1,m2,m3,m4,m5,m6,m7,m8,m9,m10,m11,m12,m13⟩,m14,m15,m16,m17,m18,m19,m20,m21,m22⟩:Mat).rules (inn m17 (IntKind.i64.wrap ((m17.length:Int) - 1)).toNat) (⟨e0,e1,e2,e3,e4,e5,e6,⟨e7,e8,e9,e10,e11,e12,e13,e14,e15,e16,e17,e18⟩⟩:Ev)=X at f1;have fy:=RO (IntKind.i64.wrap ((m17.length:Int) - 1)).toNat hf f1;generalize hy:m17.set (IntKind.i64.wrap ((m17.length:Int) - 1)).toNat X.1=ys at fy;have ly:ys.length=m17.length:=by rw [← hy,List.length_set]
  cases X.2==0<;>try rfl
  cases h13k:e0==13
  case false=>rfl
  cases hsd:e1==X.1.side
  case true=>rfl
  simp only [PXb,Option.bind_assoc];have e0w:IntKind.i64.wrap ((m17.length:Int) - 1)=(m17.length:Int) - 1 - ((0:Nat):Int):=by
   rw [beq_eq_false_iff_ne] at h0;rw [DG (by omega) (by omega)];omega
  rw [e0w];have hside:=rH (e:=(⟨e0,e1,e2,e3,e4,e5,e6,⟨e7,e8,e9,e10,e11,e12,e13,e14,e15,e16,e17,e18⟩⟩:Ev)) he h13k;simp only at hside;refine Ak (Vl (len:=m17.length) (fun j=>[.int ((m17.length:Int) - 1 - (j:Int))]) (fun j=>cond ((inn ys (m17.length - 1 - j)).side==e1) (some [PV.str m0,PV.int m1,PV.int m2,PV.int m3,PV.int m4,PV.int m5,PV.int m6,PV.int m7,PV.bool m8,PV.int m9,PV.int m10,PV.int m11,PV.int m12,PV.rows m13,PV.int m14,PV.int m15,PV.bool m16,PV.rows (Ae (ys.set (m17.length - 1 - j) (PZ (inn ys (m17.length - 1 - j))))),PV.int m18,PV.int m19,PV.int m20,PV.int m21,PV.int m22]) none) ?_ ?_ m17.length 0 N (by omega) (by omega)) ?_
  ·intro self;have q1:iLe 0 ((m17.length:Int) - 1 - (m17.length:Int))=false:=by simp only [iLe,decide_eq_false_iff_not];omega
   simp only [PXb,q1]
  ·intro i self hi;have q1:iLe 0 ((m17.length:Int) - 1 - (i:Int))=true:=by simp only [iLe,decide_eq_true_eq];omega
   have q2:iIn ((m17.length:Int) - 1 - (i:Int)) (m17.length:Int)=true:=by simp only [iIn,decide_eq_true_eq];omega
   have q3:((m17.length:Int) - 1 - (i:Int)).toNat=m17.length - 1 - i:=by omega
   have q4:IntKind.i64.wrap ((m17.length:Int) - 1 - (i:Int) - 1)=(m17.length:Int) - 1 - ((i+1:Nat):Int):=by rw [DG (by omega) (by omega)];omega
   have q5:=fy (m17.length - 1 - i) (by omega);simp only [PXb,PXc,q1,q2,q3,q4,HG,P4 q5,PXm];cases (inn ys (m17.length - 1 - i)).side==e1<;>rfl
  ·have hfa:=oE ys e1 (fun k=>[PV.str m0,PV.int m1,PV.int m2,PV.int m3,PV.int m4,PV.int m5,PV.int m6,PV.int m7,PV.bool m8,PV.int m9,PV.int m10,PV.int m11,PV.int m12,PV.rows m13,PV.int m14,PV.int m15,PV.bool m16,PV.rows (Ae (ys.set k (PZ (inn ys k)))),PV.int m18,PV.int m19,PV.int m20,PV.int m21,PV.int m22]) m17.length m17.length (Nat.le_refl _);rw [Nat.sub_self] at hfa;rw [hfa];unfold H0;simp only [ly];cases M9 ys e1 m17.length with
   | some k=>rfl
   | none =>
    rcases hside with h | h<;>subst h
    ·simp only [Option.map_none,Qo,PXb,PXc,Kh,Int.reduceBEq,wr1,kW];rfl
    ·simp only [Option.map_none,Qo,PXb,PXc,Kh,Int.reduceBEq,wr2,mC];rfl
 ·have ak:=rY ok (⟨e0,e1,e2,e3,e4,e5,e6,⟨e7,e8,e9,e10,e11,e12,e13,e14,e15,e16,e17,e18⟩⟩:Ev);generalize IQ (⟨⟨m0,m1,m2,m3,m4,m5,m6,m7,m8,m9,m10,m11,m12,m13⟩,m14,m15,m16,m17,m18,m19,m20,m21,m22⟩:Mat) (⟨e0,e1,e2,e3,e4,e5,e6,⟨e7,e8,e9,e10,e11,e12,e13,e14,e15,e16,e17,e18⟩⟩:Ev)=A at ak;obtain ⟨⟨⟨a0,a1,a2,a3,a4,a5,a6,a7,a8,a9,a10,a11,a12,a13⟩,a14,a15,a16,a17,a18,a19,a20,a21,a22⟩,l⟩:=A;obtain ⟨k1,k2,k3,k4⟩:=ak;simp only at k1 k2 k3 k4;have hl5:a17.length≤1048576:=by omega
  have hs5:a0.size≤1048576:=by
   have:=congrArg Rul.name k1;simp only at this;rw [this];exact hs
  simp only [PXb,PXc,PXk,PXi,Kh,Nat.reduceAdd];cases hl0:l==0
  case false=>rfl
  simp only [PXb,CN];cases h3:a14==3
  case false=>rfl
  have h0:=k4 hl0 h3;have li:=UR h0 (show a17.length≤1000000 by omega);simp only [PXb,PXc,PXi,li];cases he2:(inn a17 (IntKind.i64.wrap ((a17.length:Int) - 1)).toNat).ending==0
  case true=>simp only [PXb,Ax,lnx,he2]
  simp only [PXb,PXc,PXi,Ax,lnx,he2,JV,E5,H6,Pa hN hl5,Hn,cu k2 hN (show a17.length≤1000000 by omega) hs5];unfold Q4;simp only [Ax,lnx];simp only [CH,Ax,lnx];cases hq1:((a17.length:Int)==IntKind.i64.wrap (2 * a2))
  case true=>rfl
  cases hq2:((a17.length:Int)==3)
  case true =>
   simp only [PXb];cases iLt (Py a17 (inn a17 (IntKind.i64.wrap ((a17.length:Int) - 1)).toNat).side a17.length) (Py a17 (BR (inn a17 (IntKind.i64.wrap ((a17.length:Int) - 1)).toNat).side) a17.length)
   case true=>rfl
   simp only [PXb];cases ((a17.length:Int)==2)&&iLt 0 a10&&iLe a10 (IntKind.i64.wrap (Py a17 a15 a17.length - Py a17 (BR a15) a17.length))<;>rfl
  simp only [PXb];cases ((a17.length:Int)==2)&&iLt 0 a10&&iLe a10 (IntKind.i64.wrap (Py a17 a15 a17.length - Py a17 (BR a15) a17.length))<;>rfl
theorem mu (m:Mat):(Q4 m).rules=m.rules∧(Q4 m).inns=m.inns:=by
 unfold Q4
 dsimp only
 cases ((m.inns.length:Int)==IntKind.i64.wrap (2 * m.rules.innings)||((m.inns.length:Int)==3&&iLt (CH m (Ax m).side) (CH m (BR (Ax m).side)))) with
 | true=>exact ⟨rfl,rfl⟩
 | false =>
  cases ((m.inns.length:Int)==2&&iLt 0 m.rules.followon&&iLe m.rules.followon (IntKind.i64.wrap (CH m m.first - CH m (BR m.first))))<;>exact ⟨rfl,rfl⟩
theorem eU (m:Mat):(CN m).rules=m.rules∧(CN m).inns=m.inns:=by
 unfold CN;cases (m.stage==3 && !((Ax m).ending==0)) with
 | true=>exact mu m
 | false=>exact ⟨rfl,rfl⟩
structure StepOk (r:Rul) (m:Mat):Prop where
 rules:m.rules=r
 fit:KV m.inns
 len:m.inns.length≤5
theorem qG {r:Rul} {m:Mat} (h:StepOk r m) (e:Ev):StepOk r (Dk m e).1:=by
 unfold Dk;cases hv:F1 m with
 | false=>exact h
 | true =>
  cases he:evS e==0 with
  | false=>exact h
  | true =>
   cases h5:m.stage==5 with
   | true=>exact h
   | false =>
    have a:=rY (Yl hv) e;cases hx:(IQ m e).2==0 with
    | false=>exact h
    | true =>
     have k:=eU (IQ m e).1;exact ⟨k.1.trans (a.rules.trans h.rules),by show KV (CN _).inns;rw [k.2];exact a.fit,by show (CN _).inns.length≤5;rw [k.2];exact a.len⟩
theorem gP (r:Rul) (h:((A8 r).2==0)=true):StepOk r (A8 r).1:=by
 unfold A8 at h ⊢;cases hc:A5 r==0 with
 | false=>rw [hc] at h;exact absurd (show (A5 r==0)=true from h) (by rw [hc];decide)
 | true=>exact ⟨rfl,fun i hi=>absurd hi (Nat.not_lt_zero i),Nat.zero_le _⟩
theorem bX {m:Mat} {e:Ev} (h:((Dk m e).2==0)=true):F1 m=true∧(evS e==0)=true∧(m.stage==5)=false∧((IQ m e).2==0)=true∧(Dk m e).1=CN (IQ m e).1:=by
 unfold Dk at h ⊢;cases hv:F1 m with
 | false=>rw [hv] at h;exact absurd (show ((1:Int)==0)=true from h) (by decide)
 | true =>
  cases he:evS e==0 with
  | false=>rw [hv,he] at h;exact absurd (show ((1:Int)==0)=true from h) (by decide)
  | true =>
   cases h5:m.stage==5 with
   | true=>rw [hv,he,h5] at h;exact absurd (show ((26:Int)==0)=true from h) (by decide)
   | false =>
    cases hx:(IQ m e).2==0 with
    | false=>rw [hv,he,h5,hx] at h;exact absurd (show ((IQ m e).2==0)=true from h) (by rw [hx];decide)
    | true=>exact ⟨rfl,rfl,rfl,rfl,rfl⟩
theorem qA {m:Mat} {e:Ev} (h:((Dk m e).2==0)=true) (hk:(e.kind==4)=true):(m.stage==3)=true∧((m.inns.length:Int)==0)=false∧((Ay m.rules (Ax m) e).2==0)=true∧(Dk m e).1.inns=m.inns.set (lnx m.inns) (Ay m.rules (Ax m) e).1:=by
 obtain ⟨hv,he,h5,ha,hs⟩:=bX h;have hk4:=beq_iff_eq.1 hk;rw [hs,(eU _).2];unfold IQ at ha ⊢;simp only [hk4,Int.reduceBEq,cond_false] at ha ⊢;cases h3:m.stage==3 with
 | false=>rw [h3] at ha;exact absurd (show ((1:Int)==0)=true from ha) (by decide)
 | true =>
  rw [h3] at ha;simp only [Bool.not_true,cond_false] at ha ⊢;unfold Fp at ha ⊢;cases hq:(Ay m.rules (Ax m) e).2==0 with
  | false=>simp only [hq,Bool.not_false,cond_true] at ha;exact absurd ha Bool.false_ne_true
  | true =>
   simp only [hk4,Int.reduceBEq,Bool.false_and,hq,Bool.not_true,cond_false];exact ⟨trivial,(Yl hv).begun h3,trivial,trivial⟩
def evR (L:Rows) (i:Nat):Ev:=⟨atI L i 0,atI L i 1,atI L i 2,atI L i 3,atB L i 4,atI L i 5,atI L i 6,⟨atI L i 7,atI L i 8,atI L i 9,atI L i 10,atI L i 11,atB L i 12,atI L i 13,atI L i 14,atI L i 15,atI L i 16,atB L i 17,atI L i 18⟩⟩
theorem xy (L:Rows) (i:Nat):(⟨atI L i 0,atI L i 1,atI L i 2,atI L i 3,atB L i 4,atI L i 5,atI L i 6,⟨atI L i 7,atI L i 8,atI L i 9,atI L i 10,atI L i 11,atB L i 12,atI L i 13,atI L i 14,atI L i 15,atI L i 16,atB L i 17,atI L i 18⟩⟩:Ev)=evR L i:=rfl
def BJ (i:Int) (m:Mat) (e:Ev):Mat×Int:=cond (iLe 4000 i) (m,26) (Dk m e)
def CM (L:Rows):Nat→Nat→Mat→Mat×Int×Int
 | 0,_,m=>(m,-1,0)
 | k+1,i,m=>cond (!((BJ i m (evR L i)).2==0)) (m,(i:Int),(BJ i m (evR L i)).2) (CM L k (i+1) (BJ i m (evR L i)).1)
def eP (i:Int) (m t:Mat) (d:Del):List PV :=
 [.int i,.int (IntKind.i64.wrap ((m.inns.length:Int) - 1)),.int (Ax m).complete,.int (Ax m).inover,.int (Ax m).bowler,.int (Ax m).striker,.int (Ax m).other,.bool (Ax m).freehit,
  .int d.type,.int d.source,.int d.runs,.int d.short,.int d.boundary,.bool d.crossed,.int d.how,.int d.victim,.int d.fielder,.int d.second,.bool d.sub,.int d.sector,
  .int (AE m.rules d).batter,.int (AE m.rules d).wides,.int (AE m.rules d).noballs,.int (AE m.rules d).byes,.int (AE m.rules d).legbyes,.int (AE m.rules d).bowler,.bool (AE m.rules d).counts,.bool (AE m.rules d).faced,.bool (AE m.rules d).wicket,.bool (AE m.rules d).swap,
  .int (inn t.inns (lnx m.inns)).runs,.int (inn t.inns (lnx m.inns)).wickets]
def Ss (L:Rows):Nat→Nat→Mat→Rows→Rows
 | 0,_,_,out=>out
 | k+1,i,m,out=>cond (!((BJ i m (evR L i)).2==0)) out (Ss L k (i+1) (BJ i m (evR L i)).1 (cond ((evR L i).kind==4) (out++[eP i m (BJ i m (evR L i)).1 (evR L i).ball]) out))
def jP (f:Mat×Int×Int):List PV:=[.str f.1.rules.name,.int f.1.rules.side,.int f.1.rules.innings,.int f.1.rules.overs,.int f.1.rules.balls,.int f.1.rules.quota,.int f.1.rules.wide,.int f.1.rules.noball,.bool f.1.rules.freehit,.int f.1.rules.newball,.int f.1.rules.followon,.int f.1.rules.reviews,.int f.1.rules.outside,.rows f.1.rules.power,.int f.1.stage,.int f.1.first,.bool f.1.follow,.rows (Ae f.1.inns),.int f.1.pen1,.int f.1.pen2,.int f.1.win,.int f.1.wside,.int f.1.margin,.int f.2.1,.int f.2.2]
def Av (r:Rul) (L:Rows):Mat×Int×Int:=cond (!((A8 r).2==0)) (Vm,0,1) (CM L L.length 0 (A8 r).1)
def fp (r:Rul) (L:Rows):Rows:=cond (!((A8 r).2==0)) [] (Ss L L.length 0 (A8 r).1 [])
theorem lf (L:Rows):∀ k i m,((CM L k i m).2.1 == -1)=true→(CM L k i m).2.2=0
 | 0,_,_,_=>rfl
 | k+1,i,m,h=>by
  unfold CM at h ⊢;cases hq:(BJ i m (evR L i)).2==0 with
  | false =>
   rw [hq] at h;have:=beq_iff_eq.1 (show ((i:Int) == -1)=true from h);omega
  | true=>rw [hq] at h;exact lf L k (i+1) _ h
theorem aX {r:Rul} {m:Mat} (h:StepOk r m) (i:Int) (e:Ev):StepOk r (BJ i m e).1:=by
 unfold BJ;cases iLe 4000 i with
 | true=>exact h
 | false=>exact qG h e
theorem rm {m:Mat} {i:Int} {e:Ev} (h:((BJ i m e).2==0)=true):BJ i m e=Dk m e∧iLe 4000 i=false:=by
 unfold BJ at h ⊢;cases h4:iLe 4000 i with
 | true=>rw [h4] at h;exact absurd (show ((26:Int)==0)=true from h) (by decide)
 | false=>exact ⟨rfl,rfl⟩
theorem oY {N:Nat} {m8 m16:Bool} {m0:ByteArray} {m13:Rows} {m17:List Inn} {i:Int} {e0 e1 e2 e3 e5 e6 e7 e8 e9 e10 e11 e13 e14 e15 e16 e18:Int} {e4 e12 e17:Bool} (hN:2097152<N) (hf:KV m17) (hl:m17.length≤1000000) (hs:m0.size≤1048576) (h13:m13.length≤1048576):Mq N [.str m0,.int m1,.int m2,.int m3,.int m4,.int m5,.int m6,.int m7,.bool m8,.int m9,.int m10,.int m11,.int m12,.rows m13,.int m14,.int m15,.bool m16,.rows (Ae m17),.int m18,.int m19,.int m20,.int m21,.int m22,.int i,.int e0,.int e1,.int e2,.int e3,.bool e4,.int e5,.int e6,.int e7,.int e8,.int e9,.int e10,.int e11,.bool e12,.int e13,.int e14,.int e15,.int e16,.bool e17,.int e18]=some (LM (BJ i (⟨⟨m0,m1,m2,m3,m4,m5,m6,m7,m8,m9,m10,m11,m12,m13⟩,m14,m15,m16,m17,m18,m19,m20,m21,m22⟩:Mat) (⟨e0,e1,e2,e3,e4,e5,e6,⟨e7,e8,e9,e10,e11,e12,e13,e14,e15,e16,e17,e18⟩⟩:Ev))):=by
 show ML (std (G0 N) N) (xOf _)=_;generalize hres:(some (LM (BJ i (⟨⟨m0,m1,m2,m3,m4,m5,m6,m7,m8,m9,m10,m11,m12,m13⟩,m14,m15,m16,m17,m18,m19,m20,m21,m22⟩:Mat) (⟨e0,e1,e2,e3,e4,e5,e6,⟨e7,e8,e9,e10,e11,e12,e13,e14,e15,e16,e17,e18⟩⟩:Ev))):Option (List PV))=RR;simp only [ML,UU,lq9,std,xOf,PXb,lS hN hf hl hs h13];subst hres;simp only [BJ];cases iLe 4000 i<;>rfl
theorem dh {N:Nat} {i:Int} {m8 m16:Bool} {m0:ByteArray} {m13:Rows} {m17:List Inn} {t1 t2 t3 t4 t5 t6 t7 t9 t10 t11 t12 t14 t15 t18 t19 t20 t21 t22:Int} {t8 t16:Bool} {t0:ByteArray} {t13:Rows} {t17:List Inn} {d0 d1 d2 d3 d4 d6 d7 d8 d9 d11:Int} {d5 d10:Bool} (h1:iIn (IntKind.i64.wrap ((m17.length:Int) - 1)) (m17.length:Int)=true) (h2:iIn (IntKind.i64.wrap ((m17.length:Int) - 1)) (t17.length:Int)=true):Ik N [.int i,.str m0,.int m1,.int m2,.int m3,.int m4,.int m5,.int m6,.int m7,.bool m8,.int m9,.int m10,.int m11,.int m12,.rows m13,.int m14,.int m15,.bool m16,.rows (Ae m17),.int m18,.int m19,.int m20,.int m21,.int m22,.str t0,.int t1,.int t2,.int t3,.int t4,.int t5,.int t6,.int t7,.bool t8,.int t9,.int t10,.int t11,.int t12,.rows t13,.int t14,.int t15,.bool t16,.rows (Ae t17),.int t18,.int t19,.int t20,.int t21,.int t22,.int d0,.int d1,.int d2,.int d3,.int d4,.bool d5,.int d6,.int d7,.int d8,.int d9,.bool d10,.int d11]=some (eP i (⟨⟨m0,m1,m2,m3,m4,m5,m6,m7,m8,m9,m10,m11,m12,m13⟩,m14,m15,m16,m17,m18,m19,m20,m21,m22⟩:Mat) (⟨⟨t0,t1,t2,t3,t4,t5,t6,t7,t8,t9,t10,t11,t12,t13⟩,t14,t15,t16,t17,t18,t19,t20,t21,t22⟩:Mat) (⟨d0,d1,d2,d3,d4,d5,d6,d7,d8,d9,d10,d11⟩:Del)):=by
 show Iv (std (KX N) N) (xOf _)=_;simp only [Iv,L8,lq9,std,xOf,PXb,PXi,h1,h2,KZ];rfl
end Go.Px
end
