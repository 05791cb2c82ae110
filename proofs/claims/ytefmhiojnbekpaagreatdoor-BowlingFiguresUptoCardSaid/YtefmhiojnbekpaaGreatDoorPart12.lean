/- Part 12. -/
import Derived.Test.YtefmhiojnbekpaaGreatDoorPart11
import Derived.Test.YtefmhiojnbekpaaGreatDoorPart07
set_option linter.unusedVariables false
set_option linter.unusedSimpArgs false
variable {r1 r2 r3 r4 r5 r6 r7 r9 r10 r11 r12:Int}
variable {m1 m2 m3 m4 m5 m6 m7 m9 m10 m11 m12 m14 m15 m18 m19 m20 m21 m22:Int}
section
namespace Go.Px
set_option maxRecDepth 100000
set_option maxHeartbeats 4000000 in
theorem aA {N:Nat} {r8:Bool} {r0:ByteArray} {r13:Rows} {s0 s1 s2 s3 s4 s5 s6 s7 s8 s9 s10 s11 s12 s13 s15 s21 s22 s23 s25 s26 s27:Int} {s18 s20:Bool} {s14 s16 s17 s19 s24:Rows} {e0 e1 e2 e3 e5 e6 e7 e8 e9 e10 e11 e13 e14 e15 e16 e18:Int} {e4 e12 e17:Bool} (h:Fit s14 s16 s17 s19 s24) (hw:s17.length+s16.length≤1000000) (hN:2097152<N) (hs:r0.size≤1048576) (h13:r13.length≤1048576):Iu N [.str r0,.int r1,.int r2,.int r3,.int r4,.int r5,.int r6,.int r7,.bool r8,.int r9,.int r10,.int r11,.int r12,.rows r13,.int s0,.int s1,.int s2,.int s3,.int s4,.int s5,.int s6,.int s7,.int s8,.int s9,.int s10,.int s11,.int s12,.int s13,.rows s14,.int s15,.rows s16,.rows s17,.bool s18,.rows s19,.bool s20,.int s21,.int s22,.int s23,.rows s24,.int s25,.int s26,.int s27,.int e0,.int e1,.int e2,.int e3,.bool e4,.int e5,.int e6,.int e7,.int e8,.int e9,.int e10,.int e11,.bool e12,.int e13,.int e14,.int e15,.int e16,.bool e17,.int e18]=some (Ah (Aw (⟨r0,r1,r2,r3,r4,r5,r6,r7,r8,r9,r10,r11,r12,r13⟩:Rul) (⟨s0,s1,s2,s3,s4,s5,s6,s7,s8,s9,s10,s11,s12,s13,s14,s15,s16,s17,s18,s19,s20,s21,s22,s23,s24,s25,s26,s27⟩:Inn) (⟨e0,e1,e2,e3,e4,e5,e6,⟨e7,e8,e9,e10,e11,e12,e13,e14,e15,e16,e17,e18⟩⟩:Ev))):=by
 show PR (std (Cb N) N) (xOf _)=_;generalize hres:(some (Ah (Aw (⟨r0,r1,r2,r3,r4,r5,r6,r7,r8,r9,r10,r11,r12,r13⟩:Rul) (⟨s0,s1,s2,s3,s4,s5,s6,s7,s8,s9,s10,s11,s12,s13,s14,s15,s16,s17,s18,s19,s20,s21,s22,s23,s24,s25,s26,s27⟩:Inn) (⟨e0,e1,e2,e3,e4,e5,e6,⟨e7,e8,e9,e10,e11,e12,e13,e14,e15,e16,e17,e18⟩⟩:Ev))):Option (List PV))=RR;have l1:=VU (⟨r0,r1,r2,r3,r4,r5,r6,r7,r8,r9,r10,r11,r12,r13⟩:Rul) (⟨s0,s1,s2,s3,s4,s5,s6,s7,s8,s9,s10,s11,s12,s13,s14,s15,s16,s17,s18,s19,s20,s21,s22,s23,s24,s25,s26,s27⟩:Inn) (⟨e0,e1,e2,e3,e4,e5,e6,⟨e7,e8,e9,e10,e11,e12,e13,e14,e15,e16,e17,e18⟩⟩:Ev);have f1:=Kf l1 h (by simp only;omega);simp only [PR,bD,bV,ay,Zz,Kj,Nn,Alg.q,std,xOf,PXb,Xn h,iT h hN hs,jC,YI h.bt hN];subst hres;simp only [Aw,bC];cases EZ (⟨r0,r1,r2,r3,r4,r5,r6,r7,r8,r9,r10,r11,r12,r13⟩:Rul) (⟨s0,s1,s2,s3,s4,s5,s6,s7,s8,s9,s10,s11,s12,s13,s14,s15,s16,s17,s18,s19,s20,s21,s22,s23,s24,s25,s26,s27⟩:Inn)
 ·rfl
 cases he:evS (⟨e0,e1,e2,e3,e4,e5,e6,⟨e7,e8,e9,e10,e11,e12,e13,e14,e15,e16,e17,e18⟩⟩:Ev)==0
 ·simp only [PXb,PXc,PXn,PXm,Nat.reduceAdd,Int.reduceBEq,he]
 simp only [PXb,PXc,PXn,PXm,Nat.reduceAdd,Int.reduceBEq,he];cases s27==0<;>try rfl
 cases h2:e0==2<;>cases h1:e0==1<;>cases hc:e0==12<;>cases hd:e0==16<;>cases Bv s14<;>try rfl
 all_goals first
  | (rw [Qx h2 (c:=1) rfl] at h1;exact absurd h1 (by decide))
  | (rw [Qx h2 (c:=12) rfl] at hc;exact absurd hc (by decide))
  | (rw [Qx h2 (c:=16) rfl] at hd;exact absurd hd (by decide))
  | (simp only [PXb,PXc,PXn,PXm,Nat.reduceAdd,Int.reduceBEq,Kj,qr h hw hN hs h13 he,ol,h1,hc,hd];done)
  | skip
 all_goals (simp only [PXb,PXc,PXn,PXm,Nat.reduceAdd,Int.reduceBEq,Kj,Nn,qr h hw hN hs h13 he,ol,h1,hc,hd,um f1 hN hs])
 all_goals (unfold Bx mC;cases (BN (⟨r0,r1,r2,r3,r4,r5,r6,r7,r8,r9,r10,r11,r12,r13⟩:Rul) (⟨s0,s1,s2,s3,s4,s5,s6,s7,s8,s9,s10,s11,s12,s13,s14,s15,s16,s17,s18,s19,s20,s21,s22,s23,s24,s25,s26,s27⟩:Inn) (⟨e0,e1,e2,e3,e4,e5,e6,⟨e7,e8,e9,e10,e11,e12,e13,e14,e15,e16,e17,e18⟩⟩:Ev)).2==0<;>cases (BN (⟨r0,r1,r2,r3,r4,r5,r6,r7,r8,r9,r10,r11,r12,r13⟩:Rul) (⟨s0,s1,s2,s3,s4,s5,s6,s7,s8,s9,s10,s11,s12,s13,s14,s15,s16,s17,s18,s19,s20,s21,s22,s23,s24,s25,s26,s27⟩:Inn) (⟨e0,e1,e2,e3,e4,e5,e6,⟨e7,e8,e9,e10,e11,e12,e13,e14,e15,e16,e17,e18⟩⟩:Ev)).1.ending==0<;>rfl)
theorem ADR (L:Rows) (c:Nat):(cut L c).length≤c:=by
 unfold cut;rw [List.length_drop,List.length_take];cases h:iLt (c:Int) (L.length:Int) with
 | true=>simp only [cond_true];omega
 | false=>simp only [iLt,decide_eq_false_iff_not] at h;simp only [cond_false];omega
theorem wH {s t:Inn} (r:Rul) (b:Bool) (h:Lens s t):Lens s (Bx r t b):=⟨h.bt,h.bd,h.sb,h.bw,h.bf⟩
theorem SX (r:Rul) (s:Inn) (e:Ev):Lens s (Aw r s e).1:=by
 unfold Aw;exact L_c _ _ _ (Lens.refl s) (L_c _ _ _ (Lens.refl s) (L_c _ _ _ (Lens.refl s) (L_c _ _ _ (Lens.refl s) (wH r _ (VU r s e)))))
end Go.Px
end
section
namespace Go.Px
set_option maxRecDepth 100000
theorem YZ {r : Rul} {s : Inn} {e : Ev} (h : ((Aw r s e).2 == 0) = true) :
    EZ r s=true∧(evS e==0)=true∧(s.ending==0)=true∧bC s e=false∧((BN r s e).2==0)=true∧(Aw r s e).1=Bx r (BN r s e).1 (e.kind==4):=by
  unfold Aw at h ⊢;cases hv:EZ r s with
  | false=>rw [hv] at h;cases h
  | true =>
    cases he:evS e==0 with
    | false=>rw [hv,he] at h;cases h
    | true =>
      cases hn:s.ending==0 with
      | false=>rw [hv,he,hn] at h;cases h
      | true =>
        cases hw:bC s e with
        | true=>rw [hv,he,hn,hw] at h;cases h
        | false =>
          cases hp:(BN r s e).2==0 with
          | false=>rw [hv,he,hn,hw,hp] at h;exact absurd (hp▸h) (by decide)
          | true=>exact ⟨rfl,rfl,rfl,rfl,rfl,rfl⟩
end Go.Px
end
section
namespace Go.Px
set_option maxRecDepth 100000
theorem Yy {x a b:Int}:btw x a b=true↔a≤x∧x≤b:=by simp [btw,iLe]
structure RulOk (r:Rul):Prop where
 side:2≤r.side∧r.side≤11
 innings:1≤r.innings∧r.innings≤2
 overs:0≤r.overs∧r.overs≤90
 balls:4≤r.balls∧r.balls≤8
 quota:0≤r.quota∧r.quota≤90
 wide:1≤r.wide∧r.wide≤5
 noball:1≤r.noball∧r.noball≤5
 newball:0≤r.newball∧r.newball≤200
 followon:0≤r.followon∧r.followon≤1000
 reviews:0≤r.reviews∧r.reviews≤9
 outside:0≤r.outside∧r.outside≤11
theorem DY {r:Rul} (h:A2 r=0):RulOk r:=by
 unfold A2 D8 at h;cases hn:MC r.name with
 | false=>rw [hn] at h;cases h
 | true =>
  cases hr:Gt r.side r.innings r.overs r.balls r.quota r.wide r.noball r.newball r.followon r.reviews r.outside with
  | false=>rw [hn,hr] at h;cases h
  | true =>
   unfold Gt at hr;simp only [Bool.and_eq_true,Yy] at hr;obtain ⟨⟨⟨⟨⟨⟨⟨⟨⟨⟨h1,h2⟩,h3⟩,h4⟩,h5⟩,h6⟩,h7⟩,h8⟩,h9⟩,h10⟩,h11⟩:=hr;exact ⟨h1,h2,h3,h4,h5,h6,h7,h8,h9,h10,h11⟩
def Bt (x:Int):Prop:=0≤x∧x≤1000000000
structure InnOk (r:Rul) (s:Inn):Prop where
 code:A2 r=0
 side:1≤s.side∧s.side≤2
 lb:(s.batters.length:Int)=r.side
 ld:(s.bowled.length:Int)=r.side
 lz:(s.subs.length:Int)=r.side
 ending:s.ending≤5
 st:0≤s.striker∧s.striker≤r.side
 ot:0≤s.other∧s.other≤r.side
 bat:Tq s.batters s.striker s.other s.wickets=true
 bow:0≤s.bowler∧s.bowler≤r.side
 kee:0≤s.keeper∧s.keeper≤r.side
 dw:GT s.bowlers r.side=true
 df:GT s.before r.side=true
 ov:Nr r.overs s.overs=true
 io:0≤s.inover∧s.inover≤r.balls - 1
 target:Bt s.target
 runs:Bt s.runs
 wides:Bt s.wides
 noballs:Bt s.noballs
 byes:Bt s.byes
 legbyes:Bt s.legbyes
 pens:Bt s.pens
 complete:Bt s.complete
 ballage:Bt s.ballage
 outside:Bt s.outside
 rev1:Bt s.rev1
 rev2:Bt s.rev2
 bowled:Lz DT s.bowled=false
theorem ACW {x:Int}:DT x=false↔Bt x:=by
 unfold DT Bt;rw [Bool.not_eq_false',Yy]
theorem ABO (a b c d e f g h i j k l:Int):Lz DT (bN a b c d e f g h i j k l)=false↔Bt a∧Bt b∧Bt c∧Bt d∧Bt e∧Bt f∧Bt g∧Bt h∧Bt i∧Bt j∧Bt k∧Bt l:=by
 rw [Qh];simp only [bN,List.any_cons,List.any_nil,Bool.or_false,qU,ACS,Bool.or_eq_false_iff,ACW]
theorem mp {r:Rul} (h:RulOk r):IntKind.i64.wrap (r.balls - 1)=r.balls - 1:=by
 have:=h.balls;exact B3 (by omega) (by omega)
theorem xR {x:Int}:(!iLt 5 x)=true↔x≤5:=by
 rw [Bool.not_eq_true'];simp only [iLt,decide_eq_false_iff_not];omega
theorem Nw {r:Rul} {s:Inn}:EZ r s=true↔InnOk r s:=by
 unfold EZ MH;simp only [Bool.and_eq_true,Bool.not_eq_true',ABO,Yy];constructor
 ·intro ⟨h1,h2,h3,h4,h5,h6,h7,h8,h9,h10,h11,h12,h13,h14,h15,⟨n1,n2,n3,n4,n5,n6,n7,n8,n9,n10,n11,n12⟩,h17⟩;have hc:A2 r=0:=beq_iff_eq.1 h1;exact ⟨hc,h2,beq_iff_eq.1 h3,beq_iff_eq.1 h4,beq_iff_eq.1 h5,xR.1 (by rw [h6];rfl),h7,h8,h9,h10,h11,h12,h13,h14,by rw [mp (DY hc)] at h15;exact h15,n1,n2,n3,n4,n5,n6,n7,n8,n9,n10,n11,n12,h17⟩
 ·intro h;have h6:=xR.2 h.ending;rw [Bool.not_eq_true'] at h6;exact ⟨beq_iff_eq.2 h.code,h.side,beq_iff_eq.2 h.lb,beq_iff_eq.2 h.ld,beq_iff_eq.2 h.lz,h6,h.st,h.ot,h.bat,h.bow,h.kee,h.dw,h.df,h.ov,by rw [mp (DY h.code)];exact h.io,
   ⟨h.target,h.runs,h.wides,h.noballs,h.byes,h.legbyes,h.pens,h.complete,h.ballage,h.outside,h.rev1,h.rev2⟩,h.bowled⟩
theorem Q3 (n:Int):IntKind.i64.wrap n=(n+9223372036854775808) % 18446744073709551616 - 9223372036854775808:=by
 unfold IntKind.wrap;simp only [IntKind.signed,IntKind.bits];simp
 split<;>omega
theorem IB (n:Int):IntKind.i64.wrap (IntKind.i64.wrap n)=IntKind.i64.wrap n:=by
 simp only [Q3];omega
theorem Nx (a b:Int):IntKind.i64.wrap (IntKind.i64.wrap (a+b) - a)=IntKind.i64.wrap b:=by
 simp only [Q3];omega
theorem cP (a:Int):IntKind.i64.wrap (a - a)=0:=by rw [Int.sub_self];rfl
theorem kZ (s:Inn) (d:Del):(Ai s d).runs=s.runs∧(Ai s d).wides=s.wides∧(Ai s d).noballs=s.noballs∧(Ai s d).byes=s.byes∧(Ai s d).legbyes=s.legbyes∧(Ai s d).pens=s.pens∧(Ai s d).complete=s.complete∧(Ai s d).inover=s.inover∧(Ai s d).bowler=s.bowler∧(Ai s d).bowled=s.bowled:=by
  unfold Ai;cases (!(d.runs.tmod 2==0) != d.crossed)<;>exact P_c (P:=fun x:Inn=>x.runs=s.runs∧x.wides=s.wides∧x.noballs=s.noballs∧x.byes=s.byes∧x.legbyes=s.legbyes∧x.pens=s.pens∧x.complete=s.complete∧x.inover=s.inover∧x.bowler=s.bowler∧x.bowled=s.bowled) _ _ _ ⟨rfl,rfl,rfl,rfl,rfl,rfl,rfl,rfl,rfl,rfl⟩
    (P_c (P:=fun x:Inn=>x.runs=s.runs∧x.wides=s.wides∧x.noballs=s.noballs∧x.byes=s.byes∧x.legbyes=s.legbyes∧x.pens=s.pens∧x.complete=s.complete∧x.inover=s.inover∧x.bowler=s.bowler∧x.bowled=s.bowled) _ _ _ ⟨rfl,rfl,rfl,rfl,rfl,rfl,rfl,rfl,rfl,rfl⟩ ⟨rfl,rfl,rfl,rfl,rfl,rfl,rfl,rfl,rfl,rfl⟩)
def Jh (r:Rul) (s:Inn) (d:Del):Inn :=
 let o:=Ap r (Ai s d) (AG r d).counts
 let t:Inn:=cond o.2 (F3 o.1) o.1
 { t with runs:=IntKind.i64.wrap (s.runs+En (AG r d)),wides:=IntKind.i64.wrap (s.wides+(AG r d).wides),noballs:=IntKind.i64.wrap (s.noballs+(AG r d).noballs),byes:=IntKind.i64.wrap (s.byes+(AG r d).byes),legbyes:=IntKind.i64.wrap (s.legbyes+(AG r d).legbyes),freehit:=cond (d.type==1) false (cond (d.type==3&&r.freehit) true o.1.freehit) }
theorem pF {r:Rul} {s:Inn} {d:Del} (h:((Iq r s d).2==0)=true):(GC r s d==0)=true∧(Iq r s d).1=Jh r s d:=by
 unfold Iq at h ⊢;cases hr:GC r s d==0 with
 | false=>rw [hr] at h;exact absurd (hr▸h) (by decide)
 | true =>
  refine ⟨rfl,?_⟩;obtain ⟨k1,k2,k3,k4,k5,_⟩:=kZ s d;simp only [Bool.not_true,cond_false,lM,k1,k2,k3,k4,k5,Jh];generalize Ap r (Ai s d) (AG r d).counts=o;obtain ⟨o1,o2⟩:=o;cases o2<;>rfl
theorem gI {r:Rul} {s:Inn} {d:Del} (h:(GC r s d==0)=true):DS s.batters s.striker s.other=false∧(s.bowler==0)=false∧(Kn r s==0)=true∧(C5 d==0)=true∧(Lj d s.freehit==0)=true∧(Ks s d==0)=true:=by
 unfold GC at h;cases h1:DS s.batters s.striker s.other with
 | true=>rw [h1] at h;cases h
 | false =>
  cases h2:s.bowler==0 with
  | true=>rw [h1,h2] at h;cases h
  | false =>
   rw [h1,h2] at h;change (fW _ _ _ _==0)=true at h;unfold fW at h;cases h3:Kn r s==0 with
   | false=>rw [h3] at h;exact absurd (h3▸h) (by decide)
   | true =>
    cases h4:C5 d==0 with
    | false=>rw [h3,h4] at h;exact absurd (h4▸h) (by decide)
    | true =>
     cases h5:Lj d s.freehit==0 with
     | false=>rw [h3,h4,h5] at h;exact absurd (h5▸h) (by decide)
     | true =>
      cases h6:Ks s d==0 with
      | false=>rw [h3,h4,h5,h6] at h;exact absurd (h6▸h) (by decide)
      | true=>exact ⟨rfl,rfl,rfl,rfl,rfl,rfl⟩
theorem ip {d:Del} {f:Bool} (h:(Lj d f==0)=true) (hd:(d.how==0)=false):(d.victim==1)=true∨(d.victim==2)=true:=by
 unfold Lj at h;rw [hd] at h;cases h1:d.victim==1 with
 | true=>exact .inl rfl
 | false =>
  cases h2:d.victim==2 with
  | true=>exact .inr rfl
  | false =>
   rw [h1,h2] at h
   exfalso
   revert h
   cases (!onS d.how d.type||f && !aS d.how)<;>cases (!N7 d.how&&(!(d.source==0) || !(d.runs==0)))<;>intro h<;>cases h
theorem ke {s:Inn} {e:Ev} (h:bC s e=false) (hk:(e.kind==2)=false):Bv s.batters=true:=by
 unfold bC at h;rw [hk] at h;cases hb:Bv s.batters with
 | true=>rfl
 | false=>rw [hb] at h;simp at h
theorem xc {s : Inn} {d : Del} (h1 : (s.striker == 0) = false) (h2 : (s.other == 0) = false) (hv : (d.how == 0) = false → (d.victim == 1) = true ∨ (d.victim == 2) = true) :
    (Ai s d).wickets=cond (d.how==0) s.wickets (inc s.wickets):=by
  unfold Ai;rw [h1,h2];cases hd:d.how==0 with
  | true=>cases (!(d.runs.tmod 2==0) != d.crossed)<;>rfl
  | false =>
    rcases hv hd with h | h<;>rw [h]<;>cases (!(d.runs.tmod 2==0) != d.crossed)<;>cases d.victim==1<;>rfl
theorem xT (r:Rul) (s:Inn) (b:Bool):(Ap r s b).1.wickets=s.wickets∧(Ap r s b).1.pens=s.pens:=by
 unfold Ap;exact P_c (P:=fun x:Inn×Bool=>x.1.wickets=s.wickets∧x.1.pens=s.pens) _ _ _ ⟨rfl,rfl⟩ (P_c (P:=fun x:Inn×Bool=>x.1.wickets=s.wickets∧x.1.pens=s.pens) _ _ _ ⟨rfl,rfl⟩ ⟨rfl,rfl⟩)
theorem yr {r : Rul} {s : Inn} {b : Bool} (hr : RulOk r) (hc : A2 r = 0) (hb : inR s.bowler s.bowled.length = true) (hi : 0 ≤ s.inover ∧ s.inover ≤ r.balls - 1) (hn : Bt s.complete) :
    IntKind.i64.wrap (Cc r.balls (Ap r s b).1.complete (Ap r s b).1.inover - Cc r.balls s.complete s.inover)=cond b 1 0:=by
  have hk:∃ k:Nat,r.balls=k:=⟨r.balls.toNat,by have:=hr.balls;omega⟩;have hz:=hr.balls;unfold Bt at hn;unfold Ap Cc;rw [hb,hc];cases b with
  | false =>
    have h1:iLt s.inover r.balls=true:=by simp only [iLt,decide_eq_true_eq];omega
    simp only [cond_false,h1,beq_self_eq_true,Bool.not_true,Bool.or_false,cond_true];exact cP _
  | true =>
    have h2:inc s.inover=s.inover+1:=B3 (by omega) (by omega);simp only [cond_true,h2,beq_self_eq_true,Bool.not_true,Bool.or_false,cond_false];have h3:inc s.complete=s.complete+1:=B3 (by omega) (by omega);have hb5:r.balls=4∨r.balls=5∨r.balls=6∨r.balls=7∨r.balls=8:=by omega
    cases h1:iLt (s.inover+1) r.balls with
    | true =>
      simp only [cond_true]
      rcases hb5 with e | e | e | e | e<;>rw [e] at hi ⊢<;>simp only [Q3]<;>omega
    | false =>
      simp only [iLt,decide_eq_false_iff_not] at h1;simp only [cond_false,h3]
      rcases hb5 with e | e | e | e | e<;>rw [e] at hi h1 ⊢<;>simp only [Q3]<;>omega
end Go.Px
end
section
namespace Go.Px
set_option maxRecDepth 100000
theorem kG {L:Rows} {s n:Int} (h:DS L s n=false) (hb:Bv L=true):(s==0)=false∧(n==0)=false:=by
 unfold DS at h;rw [hb,Bool.true_and,Bool.or_eq_false_iff] at h;exact h
theorem AAh {r:Rul} {s:Inn} (h:InnOk r s) (hb:(s.bowler==0)=false):inR s.bowler s.bowled.length=true:=by
 have h1:=h.bow;have h2:=h.ld;rw [beq_eq_false_iff_ne] at hb;simp only [inR,iLe,Bool.and_eq_true,decide_eq_true_eq];omega
theorem AAq {r : Rul} {s : Inn} {e : Ev} (hk : (e.kind == 4) = true) (h : ((Aw r s e).2 == 0) = true) :
    IntKind.i64.wrap ((Aw r s e).1.runs - s.runs)=En (AG r e.ball)∧IntKind.i64.wrap ((Aw r s e).1.wides - s.wides)=(AG r e.ball).wides∧IntKind.i64.wrap ((Aw r s e).1.noballs - s.noballs)=(AG r e.ball).noballs ∧
    IntKind.i64.wrap ((Aw r s e).1.byes - s.byes)=(AG r e.ball).byes∧IntKind.i64.wrap ((Aw r s e).1.legbyes - s.legbyes)=(AG r e.ball).legbyes∧(Aw r s e).1.pens=s.pens ∧
    IntKind.i64.wrap (Cc r.balls (Aw r s e).1.complete (Aw r s e).1.inover - Cc r.balls s.complete s.inover)=cond (AG r e.ball).counts 1 0 ∧
    IntKind.i64.wrap ((Aw r s e).1.wickets - s.wickets)=cond (e.ball.how==0) 0 1∧(Aw r s e).1.fresh=true∧IntKind.i64.wrap (Aw r s e).1.runs=(Aw r s e).1.runs:=by
  obtain ⟨hv,he,hn,hw,hp,hs⟩:=YZ h;have k4:=beq_iff_eq.1 hk;have hpb:BN r s e=Iq r s e.ball:=by unfold BN;rw [k4];rfl
  obtain ⟨d,hd0⟩:∃ d,d=e.ball:=⟨_,rfl⟩;rw [← hd0] at hpb ⊢;rw [hpb] at hp hs;obtain ⟨hr,hb⟩:=pF hp;obtain ⟨q1,q2,q3,q4,q5,q6⟩:=gI hr;have ok:=Nw.1 hv;have rk:=DY ok.code;have hbeg:Bv s.batters=true:=ke hw (by rw [k4];rfl);obtain ⟨z1,z2⟩:=kG q1 hbeg;have hin:=AAh ok q2;have hout:=xc (d:=d) z1 z2 (fun hd=>ip q5 hd);obtain ⟨k1,k2,k3,k4,k5,k6,k7,k8,k9,k10⟩:=kZ s d;have hbl:=yr (b:=(AG r d).counts) (s:=Ai s d) rk ok.code (by rw [k9,k10];exact hin) (by rw [k8];exact ok.io) (by rw [k7];exact ok.complete);rw [k7,k8] at hbl;obtain ⟨w1,w2⟩:=xT r (Ai s d) (AG r d).counts;rw [hs,hb];have hc:AG r d=Tx r d:=by unfold AG;rw [q4];rfl
  have ht:IntKind.i64.wrap (En (AG r d))=En (AG r d):=IB _;have c1:IntKind.i64.wrap (AG r d).wides=(AG r d).wides:=by rw [hc];unfold Tx;simp only;cases d.type==2<;>first | rfl | exact IB _
  have c2:IntKind.i64.wrap (AG r d).noballs=(AG r d).noballs:=by
    have:=rk.noball;rw [hc];unfold Tx;simp only;cases d.type==3<;>first | rfl | exact B3 (n:=r.noball) (by omega) (by omega)
  have c3:IntKind.i64.wrap (AG r d).byes=(AG r d).byes:=by rw [hc];unfold Tx;simp only;cases (!(d.type==2)&&d.source==2)<;>first | rfl | exact IB _
  have c4:IntKind.i64.wrap (AG r d).legbyes=(AG r d).legbyes:=by rw [hc];unfold Tx;simp only;cases (!(d.type==2)&&d.source==3)<;>first | rfl | exact IB _
  refine ⟨(Nx _ _).trans ht,(Nx _ _).trans c1,(Nx _ _).trans c2,(Nx _ _).trans c3,(Nx _ _).trans c4,?_,?_,?_,hk,IB _⟩
  · have : (Bx r (Jh r s d) (e.kind == 4)).pens = (Ap r (Ai s d) (AG r d).counts).1.pens := by
      show (cond (Ap r (Ai s d) (AG r d).counts).2 (F3 (Ap r (Ai s d) (AG r d).counts).1) (Ap r (Ai s d) (AG r d).counts).1).pens=_;cases (Ap r (Ai s d) (AG r d).counts).2<;>rfl
    rw [this,w2,k6]
  · have e1 : (Bx r (Jh r s d) (e.kind == 4)).complete = (Ap r (Ai s d) (AG r d).counts).1.complete := by
      show (cond (Ap r (Ai s d) (AG r d).counts).2 (F3 (Ap r (Ai s d) (AG r d).counts).1) (Ap r (Ai s d) (AG r d).counts).1).complete=_;cases (Ap r (Ai s d) (AG r d).counts).2<;>rfl
    have e2:(Bx r (Jh r s d) (e.kind==4)).inover=(Ap r (Ai s d) (AG r d).counts).1.inover:=by
      show (cond (Ap r (Ai s d) (AG r d).counts).2 (F3 (Ap r (Ai s d) (AG r d).counts).1) (Ap r (Ai s d) (AG r d).counts).1).inover=_;cases (Ap r (Ai s d) (AG r d).counts).2<;>rfl
    rw [e1,e2,hbl]
  · have : (Bx r (Jh r s d) (e.kind == 4)).wickets = (Ap r (Ai s d) (AG r d).counts).1.wickets := by
      show (cond (Ap r (Ai s d) (AG r d).counts).2 (F3 (Ap r (Ai s d) (AG r d).counts).1) (Ap r (Ai s d) (AG r d).counts).1).wickets=_;cases (Ap r (Ai s d) (AG r d).counts).2<;>rfl
    rw [this,w1,hout];unfold inc;cases d.how==0 with
    | true=>exact cP _
    | false=>exact (Nx s.wickets 1).trans rfl
end Go.Px
end
section
namespace Go.Px
set_option maxRecDepth 100000
def ACD:Inn:=⟨0,0,0,0,0,0,0,0,0,0,0,0,0,0,[],0,[],[],false,[],false,0,0,0,[],0,0,0⟩
def AB3 (n:Nat) (overs side t p:Int):Inn:=⟨side,t,overs,p,0,0,0,0,0,p,0,0,0,0,List.replicate n [.int 0],0,[],[],false,List.replicate n [.int 0],false,0,0,0,List.replicate n [.bool false],0,0,0⟩
def Bh (r:Rul) (side t p:Int):Inn×Int :=
 cond (!(A2 r==0)) (ACD,A2 r) (cond (!btw side 1 2 || !btw t 0 1000000 || !btw p 0 1000000) (ACD,2) (AB3 r.side.toNat r.overs side t p,0))
theorem XC {N:Nat} {r8:Bool} {r0:ByteArray} {r13:Rows} {a:Int} {b:Int} {c:Int} (hN:2097152<N) (hs:r0.size≤1048576):Gd N [.str r0,.int r1,.int r2,.int r3,.int r4,.int r5,.int r6,.int r7,.bool r8,.int r9,.int r10,.int r11,.int r12,.rows r13,.int a,.int b,.int c]=some (Ah (Bh (⟨r0,r1,r2,r3,r4,r5,r6,r7,r8,r9,r10,r11,r12,r13⟩:Rul) a b c)):=by
 show J2 (std (G9 N) N) (xOf _)=_;generalize hres:(some (Ah (Bh (⟨r0,r1,r2,r3,r4,r5,r6,r7,r8,r9,r10,r11,r12,r13⟩:Rul) a b c)):Option (List PV))=RR;simp only [J2,SF,OQ,Alg.q,std,xOf,PXb,Da hN hs,EC];subst hres;simp only [Bh];cases hc:A2 (⟨r0,r1,r2,r3,r4,r5,r6,r7,r8,r9,r10,r11,r12,r13⟩:Rul)==0 with
 | false=>rfl
 | true =>
  have rk:=(DY (beq_iff_eq.1 hc)).side;obtain ⟨k,hk⟩:∃ k:Nat,r1=k:=⟨r1.toNat,by simp only at rk;omega⟩;subst hk;simp only at rk;have h1:iSm (k:Int) 1=true:=DP (by omega) (by omega);have h8:iSm (k:Int) 8=true:=DP (by omega) (by omega);simp only [PXb,PXc,PXn,PXm,Nat.reduceAdd,Int.reduceBEq,h1,h8];cases btw a 1 2<;>cases btw b 0 1000000<;>cases btw c 0 1000000<;>rfl
theorem jh {N:Nat} {r8:Bool} {r0:ByteArray} {r13:Rows} {a:Int} {b:Int} {c:Int} (hN:2097152<N) (hs:r0.size≤1048576):RP N [.str r0,.int r1,.int r2,.int r3,.int r4,.int r5,.int r6,.int r7,.bool r8,.int r9,.int r10,.int r11,.int r12,.rows r13,.int a,.int b,.int c]=some (Ah (Bh (⟨r0,r1,r2,r3,r4,r5,r6,r7,r8,r9,r10,r11,r12,r13⟩:Rul) a b c)):=by
 show Rh (std (Mo N) N) (xOf _)=_;generalize hres:(some (Ah (Bh (⟨r0,r1,r2,r3,r4,r5,r6,r7,r8,r9,r10,r11,r12,r13⟩:Rul) a b c)):Option (List PV))=RR;simp only [Rh,ZR,ep,Alg.q,std,xOf,PXb,FB hN hs,eN];subst hres;simp only [Bh];cases hc:A2 (⟨r0,r1,r2,r3,r4,r5,r6,r7,r8,r9,r10,r11,r12,r13⟩:Rul)==0 with
 | false=>rfl
 | true =>
  have rk:=(DY (beq_iff_eq.1 hc)).side;obtain ⟨k,hk⟩:∃ k:Nat,r1=k:=⟨r1.toNat,by simp only at rk;omega⟩;subst hk;simp only at rk;simp only [PXb];cases btw a 1 2<;>try rfl
  cases btw b 0 1000000<;>try rfl
  cases btw c 0 1000000<;>try rfl
  simp only [PXb];refine AM (Bz (len:=k) (fun i=>[.int (i:Int),.int a,.int b,.int r3,.int c,.int 0,.int 0,.int 0,.int 0,.int 0,.int c,.int 0,.int 0,.int 0,.int 0,.rows (List.replicate i [.int 0]),.int 0,.rows [],.rows [],.bool false,.rows (List.replicate i [.int 0]),.bool false,.int 0,.int 0,.int 0,.rows (List.replicate i [.bool false]),.int 0,.int 0,.int 0]) (AB3 k r3 a b c).ls ?_ ?_ N (by omega)) rfl
  ·intro self;simp only [PXb,PXc,PXn,PXm,Nat.reduceAdd,Int.reduceBEq,Ao];rfl
  ·intro i self hi;have l1:(List.replicate i [PV.int 0]++[[PV.int 0]]).length≤1048576:=by simp;omega
   have l2:(List.replicate i [PV.bool false]++[[PV.bool false]]).length≤1048576:=by simp;omega
   simp only [PXb,PXc,PXn,PXm,Nat.reduceAdd,Int.reduceBEq,Ag (show i≤1099511627776 by omega),Ad hi,K0 l1 (show 1≤4096 by omega),K0 l1 (show 8≤4096 by omega),K0 l2 (show 1≤4096 by omega)];rw [List.replicate_succ',List.replicate_succ'];rfl
theorem IP (r:Rul) (side t p:Int):(Bh r side t p).1.Fit∧(Bh r side t p).1.before=[]∧(Bh r side t p).1.bowlers=[]:=by
 unfold Bh;cases hc:A2 r==0 with
 | false=>exact ⟨⟨by show 0≤1048576;omega,by show 0≤1048576;omega,by show 0≤1048576;omega,by show 0≤1048576;omega,by show 0≤1048576;omega⟩,rfl,rfl⟩
 | true =>
  have hs:=(DY (beq_iff_eq.1 hc)).side;have hl:∀ x:List PV,(List.replicate r.side.toNat x).length≤1048576:=fun x=>by rw [List.length_replicate];omega
  cases (!btw side 1 2 || !btw t 0 1000000 || !btw p 0 1000000) with
  | true=>exact ⟨⟨by show 0≤1048576;omega,by show 0≤1048576;omega,by show 0≤1048576;omega,by show 0≤1048576;omega,by show 0≤1048576;omega⟩,rfl,rfl⟩
  | false=>exact ⟨⟨hl _,by show 0≤1048576;omega,by show 0≤1048576;omega,hl _,hl _⟩,rfl,rfl⟩
theorem ACF {s:Inn} (h:s.Fit):(Jo s).Fit:=⟨h.bt,h.bw,h.bf,h.bd,h.sb⟩
end Go.Px
end
section
namespace Go.Px
set_option maxRecDepth 100000
structure BatOk (L:Rows) (s n wk:Int):Prop where
 le:∀ i,i<L.length→atI L i 0≤3
 at1:∀ i,i<L.length→(atI L i 0=1↔(s=(i:Int)+1∨n=(i:Int)+1))
 here:Bv L=true→s≠0∨n≠0
 ne:s≠0→s≠n
 wk:wk=eu L
end Go.Px
end
section
namespace Go.Px
set_option maxRecDepth 100000
theorem ACV {r:Rul} {s:Inn} (h:InnOk r s):2≤r.side∧r.side≤11:=(DY h.code).side
end Go.Px
end
section
namespace Go.Px
set_option maxRecDepth 100000
structure Small (s:Inn):Prop where
 target:s.target≤999999900
 runs:s.runs≤999999900
 wides:s.wides≤999999900
 noballs:s.noballs≤999999900
 byes:s.byes≤999999900
 legbyes:s.legbyes≤999999900
 pens:s.pens≤999999900
 complete:s.complete≤999999900
 ballage:s.ballage≤999999900
 rev1:s.rev1≤999999900
 rev2:s.rev2≤999999900
 bowled:∀ j,j<s.bowled.length→atI s.bowled j 0≤999999900
end Go.Px
end
section
namespace Go.Px
def AX (xs:List Inn):Rows:=xs.map Inn.ls
def dI:Inn:=⟨0,0,0,0,0,0,0,0,0,0,0,0,0,0,[],0,[],[],false,[],false,0,0,0,[],0,0,0⟩
def inn (xs:List Inn) (i:Nat):Inn:=xs.getD i dI
structure Mat where
 rules:Rul
 stage:Int
 first:Int
 follow:Bool
 inns:List Inn
 pen1:Int
 pen2:Int
 win:Int
 wside:Int
 margin:Int
def Mat.ls (m:Mat):List PV:=[.str m.rules.name,.int m.rules.side,.int m.rules.innings,.int m.rules.overs,.int m.rules.balls,.int m.rules.quota,.int m.rules.wide,.int m.rules.noball,.bool m.rules.freehit,.int m.rules.newball,.int m.rules.followon,.int m.rules.reviews,.int m.rules.outside,.rows m.rules.power,.int m.stage,.int m.first,.bool m.follow,.rows (AX m.inns),.int m.pen1,.int m.pen2,.int m.win,.int m.wside,.int m.margin]
def G6 (x:Mat×Int):List PV:=[.str x.1.rules.name,.int x.1.rules.side,.int x.1.rules.innings,.int x.1.rules.overs,.int x.1.rules.balls,.int x.1.rules.quota,.int x.1.rules.wide,.int x.1.rules.noball,.bool x.1.rules.freehit,.int x.1.rules.newball,.int x.1.rules.followon,.int x.1.rules.reviews,.int x.1.rules.outside,.rows x.1.rules.power,.int x.1.stage,.int x.1.first,.bool x.1.follow,.rows (AX x.1.inns),.int x.1.pen1,.int x.1.pen2,.int x.1.win,.int x.1.wside,.int x.1.margin,.int x.2]
theorem oY (xs:List Inn) (i:Nat):AB (AX xs) i=(match xs[i]? with | some s=>s.ls | none=>[]):=by
 unfold AB AX;rw [List.getD_eq_getElem?_getD,List.getElem?_map];cases xs[i]?<;>rfl
theorem PL (xs:List Inn) (i:Nat):inn xs i=(match xs[i]? with | some s=>s | none=>dI):=by
 unfold inn;rw [List.getD_eq_getElem?_getD];cases xs[i]?<;>rfl
theorem lU (xs:List Inn):(AX xs).length=xs.length:=List.length_map _
theorem PXi : (∀ xs : List Inn, (AX xs).length = xs.length) ∧ (∀ (xs : List Inn) (i : Nat), pvI (AK (AX xs) i 0) = (inn xs i).side) ∧ (∀ (xs : List Inn) (i : Nat), pvI (AK (AX xs) i 1) = (inn xs i).target) ∧ (∀ (xs : List Inn) (i : Nat), pvI (AK (AX xs) i 2) = (inn xs i).overs) ∧ (∀ (xs : List Inn) (i : Nat), pvI (AK (AX xs) i 3) = (inn xs i).runs) ∧
    (∀ (xs:List Inn) (i:Nat),pvI (AK (AX xs) i 4)=(inn xs i).wickets)∧(∀ (xs:List Inn) (i:Nat),pvI (AK (AX xs) i 5)=(inn xs i).wides)∧(∀ (xs:List Inn) (i:Nat),pvI (AK (AX xs) i 6)=(inn xs i).noballs)∧(∀ (xs:List Inn) (i:Nat),pvI (AK (AX xs) i 7)=(inn xs i).byes)∧(∀ (xs:List Inn) (i:Nat),pvI (AK (AX xs) i 8)=(inn xs i).legbyes) ∧
    (∀ (xs:List Inn) (i:Nat),pvI (AK (AX xs) i 9)=(inn xs i).pens)∧(∀ (xs:List Inn) (i:Nat),pvI (AK (AX xs) i 10)=(inn xs i).complete)∧(∀ (xs:List Inn) (i:Nat),pvI (AK (AX xs) i 11)=(inn xs i).inover)∧(∀ (xs:List Inn) (i:Nat),pvI (AK (AX xs) i 12)=(inn xs i).striker)∧(∀ (xs:List Inn) (i:Nat),pvI (AK (AX xs) i 13)=(inn xs i).other) ∧
    (∀ (xs:List Inn) (i:Nat),pvL (AK (AX xs) i 14)=(inn xs i).batters)∧(∀ (xs:List Inn) (i:Nat),pvI (AK (AX xs) i 15)=(inn xs i).bowler)∧(∀ (xs:List Inn) (i:Nat),pvL (AK (AX xs) i 16)=(inn xs i).bowlers)∧(∀ (xs:List Inn) (i:Nat),pvL (AK (AX xs) i 17)=(inn xs i).before)∧(∀ (xs:List Inn) (i:Nat),pvB (AK (AX xs) i 18)=(inn xs i).fresh) ∧
    (∀ (xs:List Inn) (i:Nat),pvL (AK (AX xs) i 19)=(inn xs i).bowled)∧(∀ (xs:List Inn) (i:Nat),pvB (AK (AX xs) i 20)=(inn xs i).freehit)∧(∀ (xs:List Inn) (i:Nat),pvI (AK (AX xs) i 21)=(inn xs i).ballage)∧(∀ (xs:List Inn) (i:Nat),pvI (AK (AX xs) i 22)=(inn xs i).keeper)∧(∀ (xs:List Inn) (i:Nat),pvI (AK (AX xs) i 23)=(inn xs i).outside) ∧
    (∀ (xs:List Inn) (i:Nat),pvL (AK (AX xs) i 24)=(inn xs i).subs)∧(∀ (xs:List Inn) (i:Nat),pvI (AK (AX xs) i 25)=(inn xs i).rev1)∧(∀ (xs:List Inn) (i:Nat),pvI (AK (AX xs) i 26)=(inn xs i).rev2)∧(∀ (xs:List Inn) (i:Nat),pvI (AK (AX xs) i 27)=(inn xs i).ending):=by
  refine ⟨lU,?_,?_,?_,?_,?_,?_,?_,?_,?_,?_,?_,?_,?_,?_,?_,?_,?_,?_,?_,?_,?_,?_,?_,?_,?_,?_,?_,?_⟩
  all_goals (intro xs i;rw [PL];unfold AK;rw [oY];cases xs[i]?<;>rfl)
theorem Mat.eta (m:Mat):Mat.mk m.rules m.stage m.first m.follow m.inns m.pen1 m.pen2 m.win m.wside m.margin=m:=rfl
theorem PXk : (∀ m : Mat, m.ls = [.str m.rules.name, .int m.rules.side, .int m.rules.innings, .int m.rules.overs, .int m.rules.balls, .int m.rules.quota, .int m.rules.wide, .int m.rules.noball, .bool m.rules.freehit, .int m.rules.newball, .int m.rules.followon, .int m.rules.reviews, .int m.rules.outside, .rows m.rules.power, .int m.stage, .int m.first, .bool m.follow, .rows (AX m.inns), .int m.pen1, .int m.pen2, .int m.win, .int m.wside, .int m.margin]) ∧
    (∀ x:Mat×Int,G6 x=[.str x.1.rules.name,.int x.1.rules.side,.int x.1.rules.innings,.int x.1.rules.overs,.int x.1.rules.balls,.int x.1.rules.quota,.int x.1.rules.wide,.int x.1.rules.noball,.bool x.1.rules.freehit,.int x.1.rules.newball,.int x.1.rules.followon,.int x.1.rules.reviews,.int x.1.rules.outside,.rows x.1.rules.power,.int x.1.stage,.int x.1.first,.bool x.1.follow,.rows (AX x.1.inns),.int x.1.pen1,.int x.1.pen2,.int x.1.win,.int x.1.wside,.int x.1.margin,.int x.2]) ∧
    (∀ m:Mat,Mat.mk m.rules m.stage m.first m.follow m.inns m.pen1 m.pen2 m.win m.wside m.margin=m):=⟨fun _=>rfl,fun _=>rfl,fun _=>rfl⟩
theorem xY:∀ (ps r pre:List PV),r.length=ps.length→BC (pre++r) pre.length ps=pre++ps
 | [],r,pre,h=>by
  have:r=[]:=List.eq_nil_of_length_eq_zero h;subst this;rfl
 | p::ps,[],pre,h=>by cases h
 | p::ps,a::r,pre,h=>by
  have ih:=xY ps r (pre++[p]) (by simpa using h);simp only [List.length_append,List.length_cons,List.length_nil,List.append_assoc,List.cons_append,List.nil_append] at ih;unfold BC;rw [List.set_append_right _ _ (Nat.le_refl _),Nat.sub_self];exact ih
theorem AC8 (a s:Inn):BC a.ls 0 s.ls=s.ls:=xY s.ls a.ls [] rfl
theorem ACL (a:Inn) (e:Int):BC a.ls 27 [.int e]=Inn.ls { a with ending:=e }:=by
 show a.ls.set 27 (.int e)=_;rfl
theorem ACO {xs:List Inn} {i:Nat} (h:i<xs.length) (s:Inn):(AX xs).set i (BC (AB (AX xs) i) 0 s.ls)=AX (xs.set i s):=by
 have e:AB (AX xs) i=(xs[i]).ls:=by rw [oY,List.getElem?_eq_getElem h]
 rw [e,AC8];exact List.map_set.symm
theorem AC3 {xs:List Inn} {i:Nat} (h:i<xs.length) (e:Int):(AX xs).set i (BC (AB (AX xs) i) 27 [.int e])=AX (xs.set i { inn xs i with ending:=e }):=by
 have e1:AB (AX xs) i=(inn xs i).ls:=by rw [oY,PL,List.getElem?_eq_getElem h]
 rw [e1,ACL];exact List.map_set.symm
theorem ACN (xs:List Inn) (s:Inn):AX xs++[s.ls]=AX (xs++[s]):=by
 show List.map Inn.ls xs++List.map Inn.ls [s]=List.map Inn.ls (xs++[s]);exact List.map_append.symm
theorem ACg (xs:List Inn) (i:Nat) (s:Inn):(AX xs).set i (BC (AB (AX xs) i) 0 s.ls)=AX (xs.set i s):=by
 by_cases h:i<xs.length
 ·exact ACO h s
 ·rw [List.set_eq_of_length_le (by rw [lU];omega),List.set_eq_of_length_le (by omega)]
theorem xK (xs:List Inn) (i:Nat) (e:Int):(AX xs).set i (BC (AB (AX xs) i) 27 [.int e])=AX (xs.set i { inn xs i with ending:=e }):=by
 by_cases h:i<xs.length
 ·exact AC3 h e
 ·rw [List.set_eq_of_length_le (by rw [lU];omega),List.set_eq_of_length_le (by omega)]
theorem PXr : (∀ (xs : List Inn) (x0 x1 x2 x3 x4 x5 x6 x7 x8 x9 x10 x11 x12 x13 x15 x21 x22 x23 x25 x26 x27 : Int) (x18 x20 : Bool) (x14 x16 x17 x19 x24 : Rows), AX xs ++ [([.int x0, .int x1, .int x2, .int x3, .int x4, .int x5, .int x6, .int x7, .int x8, .int x9, .int x10, .int x11, .int x12, .int x13, .rows x14, .int x15, .rows x16, .rows x17, .bool x18, .rows x19, .bool x20, .int x21, .int x22, .int x23, .rows x24, .int x25, .int x26, .int x27] : List PV)] = AX (xs ++ [⟨x0, x1, x2, x3, x4, x5, x6, x7, x8, x9, x10, x11, x12, x13, x14, x15, x16, x17, x18, x19, x20, x21, x22, x23, x24, x25, x26, x27⟩])) ∧ (∀ (xs : List Inn) (i : Nat) (x0 x1 x2 x3 x4 x5 x6 x7 x8 x9 x10 x11 x12 x13 x15 x21 x22 x23 x25 x26 x27 : Int) (x18 x20 : Bool) (x14 x16 x17 x19 x24 : Rows), (AX xs).set i (BC (AB (AX xs) i) 0 [.int x0, .int x1, .int x2, .int x3, .int x4, .int x5, .int x6, .int x7, .int x8, .int x9, .int x10, .int x11, .int x12, .int x13, .rows x14, .int x15, .rows x16, .rows x17, .bool x18, .rows x19, .bool x20, .int x21, .int x22, .int x23, .rows x24, .int x25, .int x26, .int x27]) = AX (xs.set i ⟨x0, x1, x2, x3, x4, x5, x6, x7, x8, x9, x10, x11, x12, x13, x14, x15, x16, x17, x18, x19, x20, x21, x22, x23, x24, x25, x26, x27⟩)) ∧
    (∀ (xs:List Inn) (i:Nat) (e:Int),(AX xs).set i (BC (AB (AX xs) i) 27 [.int e])=AX (xs.set i { inn xs i with ending:=e })) :=
  ⟨fun xs x0 x1 x2 x3 x4 x5 x6 x7 x8 x9 x10 x11 x12 x13 x15 x21 x22 x23 x25 x26 x27 x18 x20 x14 x16 x17 x19 x24=>ACN xs ⟨x0,x1,x2,x3,x4,x5,x6,x7,x8,x9,x10,x11,x12,x13,x14,x15,x16,x17,x18,x19,x20,x21,x22,x23,x24,x25,x26,x27⟩,fun xs i x0 x1 x2 x3 x4 x5 x6 x7 x8 x9 x10 x11 x12 x13 x15 x21 x22 x23 x25 x26 x27 x18 x20 x14 x16 x17 x19 x24=>ACg xs i ⟨x0,x1,x2,x3,x4,x5,x6,x7,x8,x9,x10,x11,x12,x13,x14,x15,x16,x17,x18,x19,x20,x21,x22,x23,x24,x25,x26,x27⟩,xK⟩
end Go.Px
end
section
namespace Go.Px
set_option maxRecDepth 100000
def BZ (n:Int):Int:=IntKind.i64.wrap (3 - n)
theorem I5 {N:Nat} {n:Int}  : BX N [.int n]=some [.int (BZ n)]:=by
 show M9 (std (WN N) N) (xOf _)=_;simp only [M9,Alg.q,std,xOf,PXb,PXc,PXn,PXm,Nat.reduceAdd,Int.reduceBEq,BZ]
theorem Gm {N:Nat} {n:Int}  : CC N [.int n]=some [.int (BZ n)]:=by
 show Rx (std (bX N) N) (xOf _)=_;simp only [Rx,Alg.q,std,xOf,PXb,PXc,PXn,PXm,Nat.reduceAdd,Int.reduceBEq,BZ]
def CT (m:Mat) (i:Int):Int:=cond (cond (m.follow&&iLe 2 i) (i==2) (i.tmod 2==1)) (BZ m.first) m.first
theorem Si {N:Nat} {m8 m16:Bool} {m0:ByteArray} {m13:Rows} {m17:List Inn} {i:Int}  : Db N [.str m0,.int m1,.int m2,.int m3,.int m4,.int m5,.int m6,.int m7,.bool m8,.int m9,.int m10,.int m11,.int m12,.rows m13,.int m14,.int m15,.bool m16,.rows (AX m17),.int m18,.int m19,.int m20,.int m21,.int m22,.int i]=some [.int (CT (⟨⟨m0,m1,m2,m3,m4,m5,m6,m7,m8,m9,m10,m11,m12,m13⟩,m14,m15,m16,m17,m18,m19,m20,m21,m22⟩:Mat) i)]:=by
 show NS (std (Oo N) N) (xOf _)=_;generalize hres:(some [.int (CT (⟨⟨m0,m1,m2,m3,m4,m5,m6,m7,m8,m9,m10,m11,m12,m13⟩,m14,m15,m16,m17,m18,m19,m20,m21,m22⟩:Mat) i)]:Option (List PV))=RR;simp only [NS,UA,Alg.q,std,xOf,PXb,PXc,PXn,PXm,Nat.reduceAdd,Int.reduceBEq,I5];subst hres;simp only [CT]
theorem f7 {N:Nat} {m8 m16:Bool} {m0:ByteArray} {m13:Rows} {m17:List Inn} {i:Int} (hi:0≤i∧i≤3):Fe N [.str m0,.int m1,.int m2,.int m3,.int m4,.int m5,.int m6,.int m7,.bool m8,.int m9,.int m10,.int m11,.int m12,.rows m13,.int m14,.int m15,.bool m16,.rows (AX m17),.int m18,.int m19,.int m20,.int m21,.int m22,.int i]=some [.int (CT (⟨⟨m0,m1,m2,m3,m4,m5,m6,m7,m8,m9,m10,m11,m12,m13⟩,m14,m15,m16,m17,m18,m19,m20,m21,m22⟩:Mat) i)]:=by
 show PM (std (Qt N) N) (xOf _)=_;generalize hres:(some [.int (CT (⟨⟨m0,m1,m2,m3,m4,m5,m6,m7,m8,m9,m10,m11,m12,m13⟩,m14,m15,m16,m17,m18,m19,m20,m21,m22⟩:Mat) i)]:Option (List PV))=RR;simp only [PM,Xq,Alg.q,std,xOf,PXb,PXc,PXn,PXm,Nat.reduceAdd,Int.reduceBEq,Gm];subst hres;simp only [CT];have:i=0∨i=1∨i=2∨i=3:=by omega
 rcases this with h | h | h | h<;>subst h<;>cases m16<;>rfl
def Gr (xs:List Inn) (side:Int):Nat→Int
 | 0=>0
 | i+1=>cond ((inn xs i).side==side) (IntKind.i64.wrap (Gr xs side i+(inn xs i).runs)) (Gr xs side i)
def BD (m:Mat) (side:Int):Int:=Gr m.inns side m.inns.length
theorem Sh {N:Nat} {m8 m16:Bool} {m0:ByteArray} {m13:Rows} {m17:List Inn} {n:Int} (hN:2097152<N) (hl:m17.length≤1048576):B9 N [.str m0,.int m1,.int m2,.int m3,.int m4,.int m5,.int m6,.int m7,.bool m8,.int m9,.int m10,.int m11,.int m12,.rows m13,.int m14,.int m15,.bool m16,.rows (AX m17),.int m18,.int m19,.int m20,.int m21,.int m22,.int n]=some [.int (BD (⟨⟨m0,m1,m2,m3,m4,m5,m6,m7,m8,m9,m10,m11,m12,m13⟩,m14,m15,m16,m17,m18,m19,m20,m21,m22⟩:Mat) n)]:=by
 show Mn (std (W7 N) N) (xOf _)=_;generalize hres:(some [.int (BD (⟨⟨m0,m1,m2,m3,m4,m5,m6,m7,m8,m9,m10,m11,m12,m13⟩,m14,m15,m16,m17,m18,m19,m20,m21,m22⟩:Mat) n)]:Option (List PV))=RR;simp only [Mn,Alg.q,std,xOf,PXb,PXi];subst hres;simp only [BD];refine AM (Bz (len:=m17.length) (fun i=>[.int (Gr m17 n i),.int (i:Int)]) [.int (Gr m17 n m17.length)] ?_ ?_ N (by omega)) rfl
 ·intro self;simp only [PXb,PXc,PXn,AD,Ao]
 ·intro i self hi;simp only [PXb,PXc,AD,Ag (show i≤1099511627776 by omega),Ad hi,AN hi,PXi,Gr];cases (inn m17 i).side==n<;>rfl
theorem MD {N:Nat} {m8 m16:Bool} {m0:ByteArray} {m13:Rows} {m17:List Inn} {n:Int} (hN:2097152<N) (hl:m17.length≤1048576):E6 N [.str m0,.int m1,.int m2,.int m3,.int m4,.int m5,.int m6,.int m7,.bool m8,.int m9,.int m10,.int m11,.int m12,.rows m13,.int m14,.int m15,.bool m16,.rows (AX m17),.int m18,.int m19,.int m20,.int m21,.int m22,.int n]=some [.int (BD (⟨⟨m0,m1,m2,m3,m4,m5,m6,m7,m8,m9,m10,m11,m12,m13⟩,m14,m15,m16,m17,m18,m19,m20,m21,m22⟩:Mat) n)]:=by
 show RQ (std (cu N) N) (xOf _)=_;generalize hres:(some [.int (BD (⟨⟨m0,m1,m2,m3,m4,m5,m6,m7,m8,m9,m10,m11,m12,m13⟩,m14,m15,m16,m17,m18,m19,m20,m21,m22⟩:Mat) n)]:Option (List PV))=RR;simp only [RQ,Alg.q,std,xOf,PXb,PXi];subst hres;simp only [BD];refine AM (Bz (len:=m17.length) (fun i=>[.int (Gr m17 n i),.int (i:Int)]) [.int (Gr m17 n m17.length)] ?_ ?_ N (by omega)) rfl
 ·intro self;simp only [PXb,PXc,PXn,AD,Ao]
 ·intro i self hi;simp only [PXb,PXc,AD,Ag (show i≤1099511627776 by omega),Ad hi,AN hi,PXi,Gr];cases (inn m17 i).side==n<;>rfl
def FG (m:Mat) (side:Int):Int :=
 cond (iLt (IntKind.i64.wrap ((m.inns.length:Int)+1)) (IntKind.i64.wrap (2 * m.rules.innings))) 0 (IntKind.i64.wrap (IntKind.i64.wrap (BD m (BZ side) - BD m side)+1))
theorem Zg {N:Nat} {m8 m16:Bool} {m0:ByteArray} {m13:Rows} {m17:List Inn} {n:Int} (hN:2097152<N) (hl:m17.length≤1048576):HT N [.str m0,.int m1,.int m2,.int m3,.int m4,.int m5,.int m6,.int m7,.bool m8,.int m9,.int m10,.int m11,.int m12,.rows m13,.int m14,.int m15,.bool m16,.rows (AX m17),.int m18,.int m19,.int m20,.int m21,.int m22,.int n]=some [.int (FG (⟨⟨m0,m1,m2,m3,m4,m5,m6,m7,m8,m9,m10,m11,m12,m13⟩,m14,m15,m16,m17,m18,m19,m20,m21,m22⟩:Mat) n)]:=by
 show LM (std (IL N) N) (xOf _)=_;generalize hres:(some [.int (FG (⟨⟨m0,m1,m2,m3,m4,m5,m6,m7,m8,m9,m10,m11,m12,m13⟩,m14,m15,m16,m17,m18,m19,m20,m21,m22⟩:Mat) n)]:Option (List PV))=RR;simp only [LM,TA,Sl,Alg.q,std,xOf,PXb,PXc,PXn,PXm,Nat.reduceAdd,Int.reduceBEq,PXi,I5,Sh hN hl];subst hres;simp only [FG]
def Mc (stage:Int) (xs:List Inn) (i:Nat):Bool := !(((inn xs i).ending==0)==(stage==3&&((i:Int)==IntKind.i64.wrap ((xs.length:Int) - 1))))
def YL (m:Mat):Bool := !A1 (Mc m.stage m.inns) m.inns.length 0&&(!(m.stage==3)||iLt 0 (m.inns.length:Int))
theorem sI {N:Nat} {m8 m16:Bool} {m0:ByteArray} {m13:Rows} {m17:List Inn} (hN:2097152<N) (hl:m17.length≤1048576):JF N [.str m0,.int m1,.int m2,.int m3,.int m4,.int m5,.int m6,.int m7,.bool m8,.int m9,.int m10,.int m11,.int m12,.rows m13,.int m14,.int m15,.bool m16,.rows (AX m17),.int m18,.int m19,.int m20,.int m21,.int m22]=some [.bool (YL (⟨⟨m0,m1,m2,m3,m4,m5,m6,m7,m8,m9,m10,m11,m12,m13⟩,m14,m15,m16,m17,m18,m19,m20,m21,m22⟩:Mat))]:=by
 show My (std (XJ N) N) (xOf _)=_;generalize hres:(some [.bool (YL (⟨⟨m0,m1,m2,m3,m4,m5,m6,m7,m8,m9,m10,m11,m12,m13⟩,m14,m15,m16,m17,m18,m19,m20,m21,m22⟩:Mat))]:Option (List PV))=RR;simp only [My,Alg.q,std,xOf,PXb,PXi];subst hres;simp only [YL];refine AM (Cs (len:=m17.length) (Mc m14 m17) [.bool false] ?_ ?_ N (by omega)) ?_
 ·intro self;simp only [PXb,PXc,PXn,AD,Ao]
 ·intro i self hi;simp only [PXb,PXc,AD,Ag (show i≤1099511627776 by omega),Ad hi,AN hi,PXi,Mc]
 ·cases A1 (Mc m14 m17) m17.length 0 with
  | true=>rfl
  | false=>simp only [PXb,PXc,PXn,PXm,Nat.reduceAdd,Int.reduceBEq]
end Go.Px
end
section
namespace Go.Px
set_option maxRecDepth 100000
def Dw (xs:List Inn):Prop:=∀ i,i<xs.length→(inn xs i).Fit
theorem cM {N:Nat} {r8:Bool} {r0:ByteArray} {r13:Rows} (hl:r13.length≤1048576):Dc N [.str r0,.int r1,.int r2,.int r3,.int r4,.int r5,.int r6,.int r7,.bool r8,.int r9,.int r10,.int r11,.int r12,.rows r13]=some [.str r0,.int r1,.int r2,.int r3,.int r4,.int r5,.int r6,.int r7,.bool r8,.int r9,.int r10,.int r11,.int r12,.rows r13]:=by
 show Mv (std (PH N) N) (xOf _)=_;simp only [Mv,NZ,Alg.q,std,xOf,PXb,PXc,PXn,PXm,Nat.reduceAdd,Int.reduceBEq,DN,Bn hl (show 24≤4096 by omega)]
theorem iz {N:Nat} {r8:Bool} {r0:ByteArray} {r13:Rows} (hl:r13.length≤1048576):FC N [.str r0,.int r1,.int r2,.int r3,.int r4,.int r5,.int r6,.int r7,.bool r8,.int r9,.int r10,.int r11,.int r12,.rows r13]=some [.str r0,.int r1,.int r2,.int r3,.int r4,.int r5,.int r6,.int r7,.bool r8,.int r9,.int r10,.int r11,.int r12,.rows r13]:=by
 show RU (std (cc N) N) (xOf _)=_;simp only [RU,Alg.q,std,xOf,PXb,PXc,PXn,PXm,Nat.reduceAdd,Int.reduceBEq,K0 hl (show 24≤4096 by omega)]
theorem cj {xs:List Inn} {i:Nat} (h:i<xs.length):xs.take i++[inn xs i]=xs.take (i+1):=by
 rw [List.take_add_one,PL,List.getElem?_eq_getElem h];rfl
theorem sJ {N:Nat} {m8 m16:Bool} {m0:ByteArray} {m13:Rows} {m17:List Inn} (hf:Dw m17) (hN:2097152<N) (hl:m17.length≤1000000) (h13:m13.length≤1048576):JN N [.str m0,.int m1,.int m2,.int m3,.int m4,.int m5,.int m6,.int m7,.bool m8,.int m9,.int m10,.int m11,.int m12,.rows m13,.int m14,.int m15,.bool m16,.rows (AX m17),.int m18,.int m19,.int m20,.int m21,.int m22]=some [.str m0,.int m1,.int m2,.int m3,.int m4,.int m5,.int m6,.int m7,.bool m8,.int m9,.int m10,.int m11,.int m12,.rows m13,.int m14,.int m15,.bool m16,.rows (AX m17),.int m18,.int m19,.int m20,.int m21,.int m22]:=by
 show NI (std (KC N) N) (xOf _)=_;simp only [NI,UI,IH,Alg.q,std,xOf,PXb,cM h13,PXi];refine AM (Bz (len:=m17.length) (fun i=>[.rows (AX (m17.take i)),.int (i:Int)]) [.rows (AX m17)] ?_ ?_ N (by omega)) rfl
 ·intro self;simp only [PXb,PXc,PXn,AD,Ao,List.take_length]
 ·intro i self hi;have h2:(m17.take (i+1)).length≤1048576:=by rw [List.length_take];omega
  have h3:iSm ((m17.take (i+1)).length:Int) 304=true:=DP (by omega) (by omega);simp only [PXb,PXc,AD,Ag (show i≤1099511627776 by omega),Ad hi,AN hi,PXi,IH,CR (hf i hi),PXr,Inn.eta,h3,cj hi,Nat.reduceAdd];rfl
theorem jR {N:Nat} {m8 m16:Bool} {m0:ByteArray} {m13:Rows} {m17:List Inn} (hf:Dw m17) (hN:2097152<N) (hl:m17.length≤1000000) (h13:m13.length≤1048576):Rq N [.str m0,.int m1,.int m2,.int m3,.int m4,.int m5,.int m6,.int m7,.bool m8,.int m9,.int m10,.int m11,.int m12,.rows m13,.int m14,.int m15,.bool m16,.rows (AX m17),.int m18,.int m19,.int m20,.int m21,.int m22]=some [.str m0,.int m1,.int m2,.int m3,.int m4,.int m5,.int m6,.int m7,.bool m8,.int m9,.int m10,.int m11,.int m12,.rows m13,.int m14,.int m15,.bool m16,.rows (AX m17),.int m18,.int m19,.int m20,.int m21,.int m22]:=by
 show Rt (std (Mq N) N) (xOf _)=_;simp only [Rt,Zc,N6,Alg.q,std,xOf,PXb,iz h13,PXi];refine AM (Bz (len:=m17.length) (fun i=>[.rows (AX (m17.take i)),.int (i:Int)]) [.rows (AX m17)] ?_ ?_ N (by omega)) rfl
 ·intro self;simp only [PXb,PXc,PXn,AD,Ao,List.take_length]
 ·intro i self hi;have h2:(m17.take (i+1)).length≤1048576:=by rw [List.length_take];omega
  have h3:iSm ((m17.take (i+1)).length:Int) 304=true:=DP (by omega) (by omega);simp only [PXb,PXc,AD,Ag (show i≤1099511627776 by omega),Ad hi,AN hi,PXi,N6,Xn (hf i hi),PXr,Inn.eta,h3,cj hi,Nat.reduceAdd];rfl
def ADp:Rul:=⟨⟨#[]⟩,0,0,0,0,0,0,0,false,0,0,0,0,[]⟩
def yp:Mat:=⟨ADp,0,0,false,[],0,0,0,0,0⟩
def Aa (r:Rul):Mat×Int:=cond (!(A2 r==0)) (yp,A2 r) (⟨r,1,0,false,[],0,0,0,0,0⟩,0)
theorem wT {N:Nat} {r8:Bool} {r0:ByteArray} {r13:Rows} (hN:2097152<N) (hs:r0.size≤1048576) (h13:r13.length≤1048576):Ri N [.str r0,.int r1,.int r2,.int r3,.int r4,.int r5,.int r6,.int r7,.bool r8,.int r9,.int r10,.int r11,.int r12,.rows r13]=some (G6 (Aa (⟨r0,r1,r2,r3,r4,r5,r6,r7,r8,r9,r10,r11,r12,r13⟩:Rul))):=by
 show Rr (std (NR N) N) (xOf _)=_;generalize hres:(some (G6 (Aa (⟨r0,r1,r2,r3,r4,r5,r6,r7,r8,r9,r10,r11,r12,r13⟩:Rul))):Option (List PV))=RR;simp only [Rr,WH,Vy,Alg.q,std,xOf,PXb,PXc,PXn,PXm,Nat.reduceAdd,Int.reduceBEq,Da hN hs,cM h13];subst hres;simp only [Aa];cases A2 (⟨r0,r1,r2,r3,r4,r5,r6,r7,r8,r9,r10,r11,r12,r13⟩:Rul)==0<;>rfl
theorem qu {N:Nat} {r8:Bool} {r0:ByteArray} {r13:Rows} (hN:2097152<N) (hs:r0.size≤1048576) (h13:r13.length≤1048576):OB N [.str r0,.int r1,.int r2,.int r3,.int r4,.int r5,.int r6,.int r7,.bool r8,.int r9,.int r10,.int r11,.int r12,.rows r13]=some (G6 (Aa (⟨r0,r1,r2,r3,r4,r5,r6,r7,r8,r9,r10,r11,r12,r13⟩:Rul))):=by
 show Ws (std (Rf N) N) (xOf _)=_;generalize hres:(some (G6 (Aa (⟨r0,r1,r2,r3,r4,r5,r6,r7,r8,r9,r10,r11,r12,r13⟩:Rul))):Option (List PV))=RR;simp only [Ws,dH,dJ,Alg.q,std,xOf,PXb,PXc,PXn,PXm,Nat.reduceAdd,Int.reduceBEq,FB hN hs,iz h13];subst hres;simp only [Aa];cases A2 (⟨r0,r1,r2,r3,r4,r5,r6,r7,r8,r9,r10,r11,r12,r13⟩:Rul)==0<;>rfl
def Yo (m:Mat):Bool:=(iLt m.pen1 0||iLt 1000000 m.pen1)||(iLt m.pen2 0||iLt 1000000 m.pen2)
def Kh (m:Mat) (i:Nat):Bool := !EZ m.rules (inn m.inns i) || !((inn m.inns i).side==CT m (i:Int))
def nB (m:Mat):Bool :=
  let n:Int:=m.inns.length
  let most:=IntKind.i64.wrap (2 * m.rules.innings)
  A2 m.rules==0&&(!(iLt m.stage 1)&&(!(iLt 5 m.stage)&&(!Yo m&&(!(iLt m.first 0||iLt 2 m.first||iLt most n)&&(!(m.first==0&&(iLt 0 n||(!(m.stage==1) && !(m.stage==5)))) &&
    (!(m.stage==1 && !(m.first==0))&&(!(m.stage==2&&n==most)&&(!(m.stage==4&&(!(m.rules.innings==2) || !(n==2))) && !(m.follow&&(!(m.rules.innings==2)||iLt n 2))))))))))
def CY (m:Mat):Bool:=nB m&&(!A1 (Kh m) m.inns.length 0&&YL m)
set_option maxHeartbeats 4000000 in
theorem cD {N:Nat} {m8 m16:Bool} {m0:ByteArray} {m13:Rows} {m17:List Inn} (hf:Dw m17) (hN:2097152<N) (hl:m17.length≤1000000) (hs:m0.size≤1048576):Dd N [.str m0,.int m1,.int m2,.int m3,.int m4,.int m5,.int m6,.int m7,.bool m8,.int m9,.int m10,.int m11,.int m12,.rows m13,.int m14,.int m15,.bool m16,.rows (AX m17),.int m18,.int m19,.int m20,.int m21,.int m22]=some [.bool (CY (⟨⟨m0,m1,m2,m3,m4,m5,m6,m7,m8,m9,m10,m11,m12,m13⟩,m14,m15,m16,m17,m18,m19,m20,m21,m22⟩:Mat))]:=by
 show NJ (std (EL N) N) (xOf _)=_;generalize hres:(some [.bool (CY (⟨⟨m0,m1,m2,m3,m4,m5,m6,m7,m8,m9,m10,m11,m12,m13⟩,m14,m15,m16,m17,m18,m19,m20,m21,m22⟩:Mat))]:Option (List PV))=RR;simp only [NJ,UG,IA,J9,Jv,Alg.q,std,xOf,PXb,Da hN hs,PXi];subst hres;simp only [CY,nB];cases hc:A2 (⟨⟨m0,m1,m2,m3,m4,m5,m6,m7,m8,m9,m10,m11,m12,m13⟩,m14,m15,m16,m17,m18,m19,m20,m21,m22⟩:Mat).rules==0<;>(try rfl);cases h1:iLt m14 1<;>(try rfl);cases h5:iLt 5 m14<;>(try rfl);simp only [PXb];refine AM (Cs (len:=2) (fun i=>iLt (cond ((i:Int)==1) m19 m18) 0||iLt 1000000 (cond ((i:Int)==1) m19 m18)) [.bool false] ?_ ?_ N (by omega)) ?_
 ·intro self;rfl
 ·intro i self hi;simp only [PXb,Ag (show i≤1099511627776 by omega),show iLt (i:Int) 2=true from Ad (len:=2) hi,show iIn (i:Int) 2=true from AN (len:=2) hi]
 ·have hp:A1 (fun i=>iLt (cond ((i:Int)==1) m19 m18) 0||iLt 1000000 (cond ((i:Int)==1) m19 m18)) 2 0=Yo (⟨⟨m0,m1,m2,m3,m4,m5,m6,m7,m8,m9,m10,m11,m12,m13⟩,m14,m15,m16,m17,m18,m19,m20,m21,m22⟩:Mat):=by
   simp only [Be,IC,Bool.or_false];rfl
  rw [hp];cases Yo (⟨⟨m0,m1,m2,m3,m4,m5,m6,m7,m8,m9,m10,m11,m12,m13⟩,m14,m15,m16,m17,m18,m19,m20,m21,m22⟩:Mat)
  case true=>rfl
  simp only [PXb,Co,Int.reduceBEq];cases iLt m15 0<;>try rfl
  cases iLt 2 m15<;>try rfl
  cases iLt (IntKind.i64.wrap (2 * m2)) (m17.length:Int)<;>try rfl
  cases (m15==0&&(iLt 0 (m17.length:Int)||(!(m14==1) && !(m14==5))))<;>try rfl
  cases (m14==1 && !(m15==0))<;>try rfl
  cases (m14==2&&(m17.length:Int)==IntKind.i64.wrap (2 * m2))<;>try rfl
  cases (m14==4&&(!(m2==2) || !((m17.length:Int)==2)))<;>try rfl
  cases (m16&&(!(m2==2)||iLt (m17.length:Int) 2))<;>try rfl
  simp only [PXb];refine AM (Cs (len:=m17.length) (Kh (⟨⟨m0,m1,m2,m3,m4,m5,m6,m7,m8,m9,m10,m11,m12,m13⟩,m14,m15,m16,m17,m18,m19,m20,m21,m22⟩:Mat)) [.bool false] ?_ ?_ N (by omega)) ?_
  ·intro self;simp only [PXb,PXc,PXn,AD,Ao]
  ·intro i self hi;simp only [PXb,PXc,PXn,PXm,Nat.reduceAdd,Int.reduceBEq,Ag (show i≤1099511627776 by omega),Ad hi,AN hi,PXi,IA,J9,W2 (hf i hi) hN hs,Si,Kh];cases EZ (⟨⟨m0,m1,m2,m3,m4,m5,m6,m7,m8,m9,m10,m11,m12,m13⟩,m14,m15,m16,m17,m18,m19,m20,m21,m22⟩:Mat).rules (inn m17 i)<;>first | rfl | simp only [PXb,PXc,PXn,PXm,Nat.reduceAdd,Int.reduceBEq]
  ·cases A1 (Kh (⟨⟨m0,m1,m2,m3,m4,m5,m6,m7,m8,m9,m10,m11,m12,m13⟩,m14,m15,m16,m17,m18,m19,m20,m21,m22⟩:Mat)) m17.length 0
   case true=>rfl
   simp only [PXb,PXc,PXn,PXm,Nat.reduceAdd,Int.reduceBEq,Jv,sI hN (show m17.length≤1048576 by omega)]
theorem xV (f g:Nat→Bool):∀ k i,A1 (fun j=>f j||g j) k i=(A1 f k i||A1 g k i)
 | 0,i=>rfl
 | k+1,i=>by
  rw [Be,Be,Be,xV f g k (i+1)];cases f i<;>cases g i<;>cases A1 f k (i+1)<;>cases A1 g k (i+1)<;>rfl
theorem me {N:Nat} {m8 m16:Bool} {m0:ByteArray} {m13:Rows} {m17:List Inn} (hf:Dw m17) (hN:2097152<N) (hl:m17.length≤4) (hs:m0.size≤1048576):GS N [.str m0,.int m1,.int m2,.int m3,.int m4,.int m5,.int m6,.int m7,.bool m8,.int m9,.int m10,.int m11,.int m12,.rows m13,.int m14,.int m15,.bool m16,.rows (AX m17),.int m18,.int m19,.int m20,.int m21,.int m22]=some [.bool (!A1 (Kh (⟨⟨m0,m1,m2,m3,m4,m5,m6,m7,m8,m9,m10,m11,m12,m13⟩,m14,m15,m16,m17,m18,m19,m20,m21,m22⟩:Mat)) m17.length 0 && !A1 (Mc m14 m17) m17.length 0)]:=by
 show J1 (std (HC N) N) (xOf _)=_;generalize hres:(some [.bool (!A1 (Kh (⟨⟨m0,m1,m2,m3,m4,m5,m6,m7,m8,m9,m10,m11,m12,m13⟩,m14,m15,m16,m17,m18,m19,m20,m21,m22⟩:Mat)) m17.length 0 && !A1 (Mc m14 m17) m17.length 0)]:Option (List PV))=RR;simp only [J1,Jw,I9,Alg.q,std,xOf,PXb,PXi];subst hres;rw [← Bool.not_or,← xV];refine AM (Cs (len:=m17.length) (fun j=>Kh (⟨⟨m0,m1,m2,m3,m4,m5,m6,m7,m8,m9,m10,m11,m12,m13⟩,m14,m15,m16,m17,m18,m19,m20,m21,m22⟩:Mat) j||Mc m14 m17 j) [.bool false] ?_ ?_ N (by omega)) ?_
 ·intro self;simp only [PXb,PXc,PXn,AD,Ao]
 ·intro i self hi;have hi3:0≤(i:Int)∧(i:Int)≤3:=by omega
  simp only [PXb,PXc,PXn,PXm,Nat.reduceAdd,Int.reduceBEq,Ag (show i≤1099511627776 by omega),Ad hi,AN hi,PXi,Jw,I9,iT (hf i hi) hN hs,f7 hi3,Kh,Mc];cases EZ (⟨⟨m0,m1,m2,m3,m4,m5,m6,m7,m8,m9,m10,m11,m12,m13⟩,m14,m15,m16,m17,m18,m19,m20,m21,m22⟩:Mat).rules (inn m17 i)<;>rfl
 ·cases A1 (fun j=>Kh (⟨⟨m0,m1,m2,m3,m4,m5,m6,m7,m8,m9,m10,m11,m12,m13⟩,m14,m15,m16,m17,m18,m19,m20,m21,m22⟩:Mat) j||Mc m14 m17 j) m17.length 0<;>rfl
set_option maxHeartbeats 4000000 in
theorem X7 {N:Nat} {m8 m16:Bool} {m0:ByteArray} {m13:Rows} {m17:List Inn} (hf:Dw m17) (hN:2097152<N) (hl:m17.length≤1000000) (hs:m0.size≤1048576):FE N [.str m0,.int m1,.int m2,.int m3,.int m4,.int m5,.int m6,.int m7,.bool m8,.int m9,.int m10,.int m11,.int m12,.rows m13,.int m14,.int m15,.bool m16,.rows (AX m17),.int m18,.int m19,.int m20,.int m21,.int m22]=some [.bool (CY (⟨⟨m0,m1,m2,m3,m4,m5,m6,m7,m8,m9,m10,m11,m12,m13⟩,m14,m15,m16,m17,m18,m19,m20,m21,m22⟩:Mat))]:=by
 show RF (std (NC N) N) (xOf _)=_;generalize hres:(some [.bool (CY (⟨⟨m0,m1,m2,m3,m4,m5,m6,m7,m8,m9,m10,m11,m12,m13⟩,m14,m15,m16,m17,m18,m19,m20,m21,m22⟩:Mat))]:Option (List PV))=RR;simp only [RF,ZW,Jz,Alg.q,std,xOf,PXb,FB hN hs,PXi];subst hres;simp only [CY,nB];cases hc:A2 (⟨⟨m0,m1,m2,m3,m4,m5,m6,m7,m8,m9,m10,m11,m12,m13⟩,m14,m15,m16,m17,m18,m19,m20,m21,m22⟩:Mat).rules==0
 case false=>simp only [PXb,PXc,PXn,PXm,Nat.reduceAdd,Int.reduceBEq]
 have rk:=(DY (beq_iff_eq.1 hc)).innings;simp only at rk;have e2:IntKind.i64.wrap (2 * m2)=2 * m2:=B3 (by omega) (by omega);have e4:(2 * m2==4)=(m2==2):=by rw [Bool.eq_iff_iff,beq_iff_eq,beq_iff_eq];omega
 simp only [e2,e4];cases h1:iLt m14 1
 case true=>simp only [PXb,PXc,PXn,PXm,Nat.reduceAdd,Int.reduceBEq]
 cases h5:iLt 5 m14
 case true=>simp only [PXb,PXc,PXn,PXm,Nat.reduceAdd,Int.reduceBEq]
 cases hm:iLt (2 * m2) (m17.length:Int)
 case true=>simp only [PXb,PXc,PXn,PXm,Nat.reduceAdd,Int.reduceBEq]
 have h4:m17.length≤4:=by
  simp only [iLt,decide_eq_false_iff_not] at hm;omega
 simp only [PXb];refine AM (Cs (len:=2) (fun i=>iLt (cond ((i:Int)==1) m19 m18) 0||iLt 1000000 (cond ((i:Int)==1) m19 m18)) [.bool false] ?_ ?_ N (by omega)) ?_
 ·intro self;rfl
 ·intro i self hi;simp only [PXb,Ag (show i≤1099511627776 by omega),show iLt (i:Int) 2=true from Ad (len:=2) hi,show iIn (i:Int) 2=true from AN (len:=2) hi]
 ·have hp:A1 (fun i=>iLt (cond ((i:Int)==1) m19 m18) 0||iLt 1000000 (cond ((i:Int)==1) m19 m18)) 2 0=Yo (⟨⟨m0,m1,m2,m3,m4,m5,m6,m7,m8,m9,m10,m11,m12,m13⟩,m14,m15,m16,m17,m18,m19,m20,m21,m22⟩:Mat):=by
   simp only [Be,IC,Bool.or_false];rfl
  rw [hp];cases Yo (⟨⟨m0,m1,m2,m3,m4,m5,m6,m7,m8,m9,m10,m11,m12,m13⟩,m14,m15,m16,m17,m18,m19,m20,m21,m22⟩:Mat)
  case true=>rfl
  simp only [PXb,Co,Int.reduceBEq,Jz,me hf hN h4 hs,YL,oV (show (0:Int)≤(m17.length:Int) by omega)];generalize A1 (Kh (⟨⟨m0,m1,m2,m3,m4,m5,m6,m7,m8,m9,m10,m11,m12,m13⟩,m14,m15,m16,m17,m18,m19,m20,m21,m22⟩:Mat)) m17.length 0=q1;generalize A1 (Mc m14 m17) m17.length 0=q2;generalize (m15==0&&(!((m17.length:Int)==0)||(!(m14==1) && !(m14==5))))=q3;generalize (m14==1 && !(m15==0))=q4;generalize (m14==2&&(m17.length:Int)==2 * m2)=q5;cases iLt m15 0<;>cases iLt 2 m15<;>cases q3<;>cases q4<;>cases q5<;>try (simp only [PXb,PXc,PXn,PXm,Nat.reduceAdd,Int.reduceBEq];done)
  cases m14==3<;>cases (m17.length:Int)==0<;>cases m14==4<;>cases m2==2<;>cases (m17.length:Int)==2<;>cases m16<;>cases iLt (m17.length:Int) 2<;>cases q1<;>cases q2<;>rfl
end Go.Px
end
