/- Part 13. -/
import Derived.Test.YtejjoflbpnjohaaGreatDoorPart12
import Derived.Test.YtejjoflbpnjohaaGreatDoorPart08
set_option linter.unusedVariables false
set_option linter.unusedSimpArgs false
variable {r1 r2 r3 r4 r5 r6 r7 r9 r10 r11 r12:Int}
variable {m1 m2 m3 m4 m5 m6 m7 m9 m10 m11 m12 m14 m15 m18 m19 m20 m21 m22:Int}
section
namespace Go.Px
set_option maxRecDepth 100000
set_option maxHeartbeats 4000000 in
theorem cT {N:Nat} {r8:Bool} {r0:ByteArray} {r13:Rows} {s0 s1 s2 s3 s4 s5 s6 s7 s8 s9 s10 s11 s12 s13 s15 s21 s22 s23 s25 s26 s27:Int} {s18 s20:Bool} {s14 s16 s17 s19 s24:Rows} {e0 e1 e2 e3 e5 e6 e7 e8 e9 e10 e11 e13 e14 e15 e16 e18:Int} {e4 e12 e17:Bool} (h:Fit s14 s16 s17 s19 s24) (hw:s17.length+s16.length≤1000000) (hN:2097152<N) (hs:r0.size≤1048576) (h13:r13.length≤1048576):I9 N [.str r0,.int r1,.int r2,.int r3,.int r4,.int r5,.int r6,.int r7,.bool r8,.int r9,.int r10,.int r11,.int r12,.rows r13,.int s0,.int s1,.int s2,.int s3,.int s4,.int s5,.int s6,.int s7,.int s8,.int s9,.int s10,.int s11,.int s12,.int s13,.rows s14,.int s15,.rows s16,.rows s17,.bool s18,.rows s19,.bool s20,.int s21,.int s22,.int s23,.rows s24,.int s25,.int s26,.int s27,.int e0,.int e1,.int e2,.int e3,.bool e4,.int e5,.int e6,.int e7,.int e8,.int e9,.int e10,.int e11,.bool e12,.int e13,.int e14,.int e15,.int e16,.bool e17,.int e18]=some (Ai (Av (⟨r0,r1,r2,r3,r4,r5,r6,r7,r8,r9,r10,r11,r12,r13⟩:Rul) (⟨s0,s1,s2,s3,s4,s5,s6,s7,s8,s9,s10,s11,s12,s13,s14,s15,s16,s17,s18,s19,s20,s21,s22,s23,s24,s25,s26,s27⟩:Inn) (⟨e0,e1,e2,e3,e4,e5,e6,⟨e7,e8,e9,e10,e11,e12,e13,e14,e15,e16,e17,e18⟩⟩:Ev))):=by
 show O2 (std (Cj N) N) (xOf _)=_;generalize hres:(some (Ai (Av (⟨r0,r1,r2,r3,r4,r5,r6,r7,r8,r9,r10,r11,r12,r13⟩:Rul) (⟨s0,s1,s2,s3,s4,s5,s6,s7,s8,s9,s10,s11,s12,s13,s14,s15,s16,s17,s18,s19,s20,s21,s22,s23,s24,s25,s26,s27⟩:Inn) (⟨e0,e1,e2,e3,e4,e5,e6,⟨e7,e8,e9,e10,e11,e12,e13,e14,e15,e16,e17,e18⟩⟩:Ev))):Option (List PV))=RR;have l1:=VO (⟨r0,r1,r2,r3,r4,r5,r6,r7,r8,r9,r10,r11,r12,r13⟩:Rul) (⟨s0,s1,s2,s3,s4,s5,s6,s7,s8,s9,s10,s11,s12,s13,s14,s15,s16,s17,s18,s19,s20,s21,s22,s23,s24,s25,s26,s27⟩:Inn) (⟨e0,e1,e2,e3,e4,e5,e6,⟨e7,e8,e9,e10,e11,e12,e13,e14,e15,e16,e17,e18⟩⟩:Ev);have f1:=LA l1 h (by simp only;omega);simp only [O2,dE,bC,ct,cc,K6,OV,lq9,std,xOf,PXb,Yk h,kV h hN hs,jz,YE h.bt hN];subst hres;simp only [Av,br];cases FC (⟨r0,r1,r2,r3,r4,r5,r6,r7,r8,r9,r10,r11,r12,r13⟩:Rul) (⟨s0,s1,s2,s3,s4,s5,s6,s7,s8,s9,s10,s11,s12,s13,s14,s15,s16,s17,s18,s19,s20,s21,s22,s23,s24,s25,s26,s27⟩:Inn)
 ·rfl
 cases he:evS (⟨e0,e1,e2,e3,e4,e5,e6,⟨e7,e8,e9,e10,e11,e12,e13,e14,e15,e16,e17,e18⟩⟩:Ev)==0
 ·simp only [PXb,PXc,PXn,PXm,Nat.reduceAdd,Int.reduceBEq,he]
 simp only [PXb,PXc,PXn,PXm,Nat.reduceAdd,Int.reduceBEq,he];cases s27==0<;>try rfl
 cases h2:e0==2<;>cases h1:e0==1<;>cases hc:e0==12<;>cases hd:e0==16<;>cases Bz s14<;>try rfl
 all_goals first
  | (rw [RZ h2 (c:=1) rfl] at h1;exact absurd h1 (by decide))
  | (rw [RZ h2 (c:=12) rfl] at hc;exact absurd hc (by decide))
  | (rw [RZ h2 (c:=16) rfl] at hd;exact absurd hd (by decide))
  | (simp only [PXb,PXc,PXn,PXm,Nat.reduceAdd,Int.reduceBEq,K6,rt h hw hN hs h13 he,qZ,h1,hc,hd];done)
  | skip
 all_goals (simp only [PXb,PXc,PXn,PXm,Nat.reduceAdd,Int.reduceBEq,K6,OV,rt h hw hN hs h13 he,qZ,h1,hc,hd,xD f1 hN hs])
 all_goals (unfold B7 nO;cases (BO (⟨r0,r1,r2,r3,r4,r5,r6,r7,r8,r9,r10,r11,r12,r13⟩:Rul) (⟨s0,s1,s2,s3,s4,s5,s6,s7,s8,s9,s10,s11,s12,s13,s14,s15,s16,s17,s18,s19,s20,s21,s22,s23,s24,s25,s26,s27⟩:Inn) (⟨e0,e1,e2,e3,e4,e5,e6,⟨e7,e8,e9,e10,e11,e12,e13,e14,e15,e16,e17,e18⟩⟩:Ev)).2==0<;>cases (BO (⟨r0,r1,r2,r3,r4,r5,r6,r7,r8,r9,r10,r11,r12,r13⟩:Rul) (⟨s0,s1,s2,s3,s4,s5,s6,s7,s8,s9,s10,s11,s12,s13,s14,s15,s16,s17,s18,s19,s20,s21,s22,s23,s24,s25,s26,s27⟩:Inn) (⟨e0,e1,e2,e3,e4,e5,e6,⟨e7,e8,e9,e10,e11,e12,e13,e14,e15,e16,e17,e18⟩⟩:Ev)).1.ending==0<;>rfl)
theorem AFr (L:Rows) (c:Nat):(cut L c).length≤c:=by
 unfold cut;rw [List.length_drop,List.length_take];cases h:iLt (c:Int) (L.length:Int) with
 | true=>simp only [cond_true];omega
 | false=>simp only [iLt,decide_eq_false_iff_not] at h;simp only [cond_false];omega
theorem yy {s t:Inn} (r:Rul) (b:Bool) (h:Lens s t):Lens s (B7 r t b):=⟨h.bt,h.bd,h.sb,h.bw,h.bf⟩
theorem Sl (r:Rul) (s:Inn) (e:Ev):Lens s (Av r s e).1:=by
 unfold Av;exact L_c _ _ _ (Lens.refl s) (L_c _ _ _ (Lens.refl s) (L_c _ _ _ (Lens.refl s) (L_c _ _ _ (Lens.refl s) (yy r _ (VO r s e)))))
theorem U3 {r : Rul} {s : Inn} {e : Ev} (h : ((Av r s e).2 == 0) = true) :
    FC r s=true∧(evS e==0)=true∧(s.ending==0)=true∧br s e=false∧((BO r s e).2==0)=true∧(Av r s e).1=B7 r (BO r s e).1 (e.kind==4):=by
  unfold Av at h ⊢;cases hv:FC r s with
  | false=>rw [hv] at h;cases h
  | true =>
    cases he:evS e==0 with
    | false=>rw [hv,he] at h;cases h
    | true =>
      cases hn:s.ending==0 with
      | false=>rw [hv,he,hn] at h;cases h
      | true =>
        cases hw:br s e with
        | true=>rw [hv,he,hn,hw] at h;cases h
        | false =>
          cases hp:(BO r s e).2==0 with
          | false=>rw [hv,he,hn,hw,hp] at h;exact absurd (hp▸h) (by decide)
          | true=>exact ⟨rfl,rfl,rfl,rfl,rfl,rfl⟩
theorem Zh {x a b:Int}:btw x a b=true↔a≤x∧x≤b:=by simp [btw,iLe]
structure RulOk (r:Rul):Prop where
 side:2≤r.side∧r.side≤11
 innings:1≤r.innings∧r.innings≤2
 overs:0≤r.overs∧r.overs≤90
 balls:4≤r.balls∧r.balls≤8
 quota:0≤r.quota∧r.quota≤90
 wide:1≤r.wide∧r.wide≤5
 noball:1≤r.noball∧r.noball≤5
 newball:0≤r.newball∧r.newball≤200
 followon:0≤r.followon∧r.followon≤1000
 reviews:0≤r.reviews∧r.reviews≤9
 outside:0≤r.outside∧r.outside≤11
theorem C9 {r:Rul} (h:A4 r=0):RulOk r:=by
 unfold A4 EY at h;cases hn:Mk r.name with
 | false=>rw [hn] at h;cases h
 | true =>
  cases hr:HD r.side r.innings r.overs r.balls r.quota r.wide r.noball r.newball r.followon r.reviews r.outside with
  | false=>rw [hn,hr] at h;cases h
  | true =>
   unfold HD at hr;simp only [zzj,Zh] at hr;obtain ⟨⟨⟨⟨⟨⟨⟨⟨⟨⟨h1,h2⟩,h3⟩,h4⟩,h5⟩,h6⟩,h7⟩,h8⟩,h9⟩,h10⟩,h11⟩:=hr;exact ⟨h1,h2,h3,h4,h5,h6,h7,h8,h9,h10,h11⟩
def B4 (x:Int):Prop:=0≤x∧x≤1000000000
structure InnOk (r:Rul) (s:Inn):Prop where
 code:A4 r=0
 side:1≤s.side∧s.side≤2
 lb:(s.batters.length:Int)=r.side
 ld:(s.bowled.length:Int)=r.side
 lz:(s.subs.length:Int)=r.side
 ending:s.ending≤5
 st:0≤s.striker∧s.striker≤r.side
 ot:0≤s.other∧s.other≤r.side
 bat:Uj s.batters s.striker s.other s.wickets=true
 bow:0≤s.bowler∧s.bowler≤r.side
 kee:0≤s.keeper∧s.keeper≤r.side
 dw:G2 s.bowlers r.side=true
 df:G2 s.before r.side=true
 ov:OO r.overs s.overs=true
 io:0≤s.inover∧s.inover≤r.balls - 1
 target:B4 s.target
 runs:B4 s.runs
 wides:B4 s.wides
 noballs:B4 s.noballs
 byes:B4 s.byes
 legbyes:B4 s.legbyes
 pens:B4 s.pens
 complete:B4 s.complete
 ballage:B4 s.ballage
 outside:B4 s.outside
 rev1:B4 s.rev1
 rev2:B4 s.rev2
 bowled:MS Di s.bowled=false
theorem AFB {x:Int}:Di x=false↔B4 x:=by
 unfold Di B4;rw [Bool.not_eq_false',Zh]
theorem ADJ (a b c d e f g h i j k l:Int):MS Di (bv a b c d e f g h i j k l)=false↔B4 a∧B4 b∧B4 c∧B4 d∧B4 e∧B4 f∧B4 g∧B4 h∧B4 i∧B4 j∧B4 k∧B4 l:=by
 rw [Ri];simp only [bv,List.any_cons,List.any_nil,Bool.or_false,sY,AEt,Bool.or_eq_false_iff,AFB]
theorem nK {r:Rul} (h:RulOk r):IntKind.i64.wrap (r.balls - 1)=r.balls - 1:=by
 have:=h.balls;exact CK (by omega) (by omega)
theorem zf {x:Int}:(!iLt 5 x)=true↔x≤5:=by
 rw [Bool.not_eq_true'];simp only [iLt,decide_eq_false_iff_not];omega
theorem Ke {r:Rul} {s:Inn}:FC r s=true↔InnOk r s:=by
 unfold FC Mf;simp only [zzj,Bool.not_eq_true',ADJ,Zh];constructor
 ·intro ⟨h1,h2,h3,h4,h5,h6,h7,h8,h9,h10,h11,h12,h13,h14,h15,⟨n1,n2,n3,n4,n5,n6,n7,n8,n9,n10,n11,n12⟩,h17⟩;have hc:A4 r=0:=beq_iff_eq.1 h1;exact ⟨hc,h2,beq_iff_eq.1 h3,beq_iff_eq.1 h4,beq_iff_eq.1 h5,zf.1 (by rw [h6];rfl),h7,h8,h9,h10,h11,h12,h13,h14,by rw [nK (C9 hc)] at h15;exact h15,n1,n2,n3,n4,n5,n6,n7,n8,n9,n10,n11,n12,h17⟩
 ·intro h;have h6:=zf.2 h.ending;rw [Bool.not_eq_true'] at h6;exact ⟨beq_iff_eq.2 h.code,h.side,beq_iff_eq.2 h.lb,beq_iff_eq.2 h.ld,beq_iff_eq.2 h.lz,h6,h.st,h.ot,h.bat,h.bow,h.kee,h.dw,h.df,h.ov,by rw [nK (C9 h.code)];exact h.io,
   ⟨h.target,h.runs,h.wides,h.noballs,h.byes,h.legbyes,h.pens,h.complete,h.ballage,h.outside,h.rev1,h.rev2⟩,h.bowled⟩
theorem Q6 (n:Int):IntKind.i64.wrap n=(n+9223372036854775808) % 18446744073709551616 - 9223372036854775808:=by
 unfold IntKind.wrap;simp only [IntKind.signed,IntKind.bits];simp
 split<;>omega
theorem Ik (n:Int):IntKind.i64.wrap (IntKind.i64.wrap n)=IntKind.i64.wrap n:=by
 simp only [Q6];omega
theorem Of (a b:Int):IntKind.i64.wrap (IntKind.i64.wrap (a+b) - a)=IntKind.i64.wrap b:=by
 simp only [Q6];omega
theorem dp (a:Int):IntKind.i64.wrap (a - a)=0:=by rw [Int.sub_self];rfl
theorem mz (s:Inn) (d:Del):(Ak s d).runs=s.runs∧(Ak s d).wides=s.wides∧(Ak s d).noballs=s.noballs∧(Ak s d).byes=s.byes∧(Ak s d).legbyes=s.legbyes∧(Ak s d).pens=s.pens∧(Ak s d).complete=s.complete∧(Ak s d).inover=s.inover∧(Ak s d).bowler=s.bowler∧(Ak s d).bowled=s.bowled:=by
  unfold Ak;cases (!(d.runs.tmod 2==0) != d.crossed)<;>exact P_c (P:=fun x:Inn=>x.runs=s.runs∧x.wides=s.wides∧x.noballs=s.noballs∧x.byes=s.byes∧x.legbyes=s.legbyes∧x.pens=s.pens∧x.complete=s.complete∧x.inover=s.inover∧x.bowler=s.bowler∧x.bowled=s.bowled) _ _ _ ⟨rfl,rfl,rfl,rfl,rfl,rfl,rfl,rfl,rfl,rfl⟩
    (P_c (P:=fun x:Inn=>x.runs=s.runs∧x.wides=s.wides∧x.noballs=s.noballs∧x.byes=s.byes∧x.legbyes=s.legbyes∧x.pens=s.pens∧x.complete=s.complete∧x.inover=s.inover∧x.bowler=s.bowler∧x.bowled=s.bowled) _ _ _ ⟨rfl,rfl,rfl,rfl,rfl,rfl,rfl,rfl,rfl,rfl⟩ ⟨rfl,rfl,rfl,rfl,rfl,rfl,rfl,rfl,rfl,rfl⟩)
def J2 (r:Rul) (s:Inn) (d:Del):Inn :=
 let o:=Aq r (Ak s d) (AF r d).counts
 let t:Inn:=cond o.2 (GV o.1) o.1
 { t with runs:=IntKind.i64.wrap (s.runs+E6 (AF r d)),wides:=IntKind.i64.wrap (s.wides+(AF r d).wides),noballs:=IntKind.i64.wrap (s.noballs+(AF r d).noballs),byes:=IntKind.i64.wrap (s.byes+(AF r d).byes),legbyes:=IntKind.i64.wrap (s.legbyes+(AF r d).legbyes),freehit:=cond (d.type==1) false (cond (d.type==3&&r.freehit) true o.1.freehit) }
theorem rc {r:Rul} {s:Inn} {d:Del} (h:((Ix r s d).2==0)=true):(GO r s d==0)=true∧(Ix r s d).1=J2 r s d:=by
 unfold Ix at h ⊢;cases hr:GO r s d==0 with
 | false=>rw [hr] at h;exact absurd (hr▸h) (by decide)
 | true =>
  refine ⟨rfl,?_⟩;obtain ⟨k1,k2,k3,k4,k5,_⟩:=mz s d;simp only [Bool.not_true,cond_false,lr,k1,k2,k3,k4,k5,J2];generalize Aq r (Ak s d) (AF r d).counts=o;obtain ⟨o1,o2⟩:=o;cases o2<;>rfl
theorem iK {r:Rul} {s:Inn} {d:Del} (h:(GO r s d==0)=true):DZ s.batters s.striker s.other=false∧(s.bowler==0)=false∧(LE r s==0)=true∧(DC d==0)=true∧(L6 d s.freehit==0)=true∧(Kf s d==0)=true:=by
 unfold GO at h;cases h1:DZ s.batters s.striker s.other with
 | true=>rw [h1] at h;cases h
 | false =>
  cases h2:s.bowler==0 with
  | true=>rw [h1,h2] at h;cases h
  | false =>
   rw [h1,h2] at h;change (im _ _ _ _==0)=true at h;unfold im at h;cases h3:LE r s==0 with
   | false=>rw [h3] at h;exact absurd (h3▸h) (by decide)
   | true =>
    cases h4:DC d==0 with
    | false=>rw [h3,h4] at h;exact absurd (h4▸h) (by decide)
    | true =>
     cases h5:L6 d s.freehit==0 with
     | false=>rw [h3,h4,h5] at h;exact absurd (h5▸h) (by decide)
     | true =>
      cases h6:Kf s d==0 with
      | false=>rw [h3,h4,h5,h6] at h;exact absurd (h6▸h) (by decide)
      | true=>exact ⟨rfl,rfl,rfl,rfl,rfl,rfl⟩
theorem kf {d:Del} {f:Bool} (h:(L6 d f==0)=true) (hd:(d.how==0)=false):(d.victim==1)=true∨(d.victim==2)=true:=by
 unfold L6 at h;rw [hd] at h;cases h1:d.victim==1 with
 | true=>exact .inl rfl
 | false =>
  cases h2:d.victim==2 with
  | true=>exact .inr rfl
  | false =>
   rw [h1,h2] at h
   exfalso
   revert h
   cases (!onS d.how d.type||f && !bK d.how)<;>cases (!OT d.how&&(!(d.source==0) || !(d.runs==0)))<;>intro h<;>cases h
theorem mC {s:Inn} {e:Ev} (h:br s e=false) (hk:(e.kind==2)=false):Bz s.batters=true:=by
 unfold br at h;rw [hk] at h;cases hb:Bz s.batters with
 | true=>rfl
 | false=>rw [hb] at h;simp at h
theorem zo {s : Inn} {d : Del} (h1 : (s.striker == 0) = false) (h2 : (s.other == 0) = false) (hv : (d.how == 0) = false → (d.victim == 1) = true ∨ (d.victim == 2) = true) :
    (Ak s d).wickets=cond (d.how==0) s.wickets (inc s.wickets):=by
  unfold Ak;rw [h1,h2];cases hd:d.how==0 with
  | true=>cases (!(d.runs.tmod 2==0) != d.crossed)<;>rfl
  | false =>
    rcases hv hd with h | h<;>rw [h]<;>cases (!(d.runs.tmod 2==0) != d.crossed)<;>cases d.victim==1<;>rfl
theorem zV (r:Rul) (s:Inn) (b:Bool):(Aq r s b).1.wickets=s.wickets∧(Aq r s b).1.pens=s.pens:=by
 unfold Aq;exact P_c (P:=fun x:Inn×Bool=>x.1.wickets=s.wickets∧x.1.pens=s.pens) _ _ _ ⟨rfl,rfl⟩ (P_c (P:=fun x:Inn×Bool=>x.1.wickets=s.wickets∧x.1.pens=s.pens) _ _ _ ⟨rfl,rfl⟩ ⟨rfl,rfl⟩)
theorem AA0 {r : Rul} {s : Inn} {b : Bool} (hr : RulOk r) (hc : A4 r = 0) (hb : inR s.bowler s.bowled.length = true) (hi : 0 ≤ s.inover ∧ s.inover ≤ r.balls - 1) (hn : B4 s.complete) :
    IntKind.i64.wrap (Ch r.balls (Aq r s b).1.complete (Aq r s b).1.inover - Ch r.balls s.complete s.inover)=cond b 1 0:=by
  have hk:∃ k:Nat,r.balls=k:=⟨r.balls.toNat,by have:=hr.balls;omega⟩;have hz:=hr.balls;unfold B4 at hn;unfold Aq Ch;rw [hb,hc];cases b with
  | false =>
    have h1:iLt s.inover r.balls=true:=by simp only [iLt,decide_eq_true_eq];omega
    simp only [cond_false,h1,beq_self_eq_true,Bool.not_true,Bool.or_false,cond_true];exact dp _
  | true =>
    have h2:inc s.inover=s.inover+1:=CK (by omega) (by omega);simp only [cond_true,h2,beq_self_eq_true,Bool.not_true,Bool.or_false,cond_false];have h3:inc s.complete=s.complete+1:=CK (by omega) (by omega);have hb5:r.balls=4∨r.balls=5∨r.balls=6∨r.balls=7∨r.balls=8:=by omega
    cases h1:iLt (s.inover+1) r.balls with
    | true =>
      simp only [cond_true]
      rcases hb5 with e | e | e | e | e<;>rw [e] at hi ⊢<;>simp only [Q6]<;>omega
    | false =>
      simp only [iLt,decide_eq_false_iff_not] at h1;simp only [cond_false,h3]
      rcases hb5 with e | e | e | e | e<;>rw [e] at hi h1 ⊢<;>simp only [Q6]<;>omega
theorem lf {L:Rows} {s n:Int} (h:DZ L s n=false) (hb:Bz L=true):(s==0)=false∧(n==0)=false:=by
 unfold DZ at h;rw [hb,Bool.true_and,Bool.or_eq_false_iff] at h;exact h
theorem ACD {r:Rul} {s:Inn} (h:InnOk r s) (hb:(s.bowler==0)=false):inR s.bowler s.bowled.length=true:=by
 have h1:=h.bow;have h2:=h.ld;rw [beq_eq_false_iff_ne] at hb;simp only [inR,iLe,zzj,decide_eq_true_eq];omega
theorem ACd {r : Rul} {s : Inn} {e : Ev} (hk : (e.kind == 4) = true) (h : ((Av r s e).2 == 0) = true) :
    IntKind.i64.wrap ((Av r s e).1.runs - s.runs)=E6 (AF r e.ball)∧IntKind.i64.wrap ((Av r s e).1.wides - s.wides)=(AF r e.ball).wides∧IntKind.i64.wrap ((Av r s e).1.noballs - s.noballs)=(AF r e.ball).noballs ∧
    IntKind.i64.wrap ((Av r s e).1.byes - s.byes)=(AF r e.ball).byes∧IntKind.i64.wrap ((Av r s e).1.legbyes - s.legbyes)=(AF r e.ball).legbyes∧(Av r s e).1.pens=s.pens ∧
    IntKind.i64.wrap (Ch r.balls (Av r s e).1.complete (Av r s e).1.inover - Ch r.balls s.complete s.inover)=cond (AF r e.ball).counts 1 0 ∧
    IntKind.i64.wrap ((Av r s e).1.wickets - s.wickets)=cond (e.ball.how==0) 0 1∧(Av r s e).1.fresh=true∧IntKind.i64.wrap (Av r s e).1.runs=(Av r s e).1.runs:=by
  obtain ⟨hv,he,hn,hw,hp,hs⟩:=U3 h;have k4:=beq_iff_eq.1 hk;have hpb:BO r s e=Ix r s e.ball:=by unfold BO;rw [k4];rfl
  obtain ⟨d,hd0⟩:∃ d,d=e.ball:=⟨_,rfl⟩;rw [← hd0] at hpb ⊢;rw [hpb] at hp hs;obtain ⟨hr,hb⟩:=rc hp;obtain ⟨q1,q2,q3,q4,q5,q6⟩:=iK hr;have ok:=Ke.1 hv;have rk:=C9 ok.code;have hbeg:Bz s.batters=true:=mC hw (by rw [k4];rfl);obtain ⟨z1,z2⟩:=lf q1 hbeg;have hin:=ACD ok q2;have hout:=zo (d:=d) z1 z2 (fun hd=>kf q5 hd);obtain ⟨k1,k2,k3,k4,k5,k6,k7,k8,k9,k10⟩:=mz s d;have hbl:=AA0 (b:=(AF r d).counts) (s:=Ak s d) rk ok.code (by rw [k9,k10];exact hin) (by rw [k8];exact ok.io) (by rw [k7];exact ok.complete);rw [k7,k8] at hbl;obtain ⟨w1,w2⟩:=zV r (Ak s d) (AF r d).counts;rw [hs,hb];have hc:AF r d=Uw r d:=by unfold AF;rw [q4];rfl
  have ht:IntKind.i64.wrap (E6 (AF r d))=E6 (AF r d):=Ik _;have c1:IntKind.i64.wrap (AF r d).wides=(AF r d).wides:=by rw [hc];unfold Uw;simp only;cases d.type==2<;>first | rfl | exact Ik _
  have c2:IntKind.i64.wrap (AF r d).noballs=(AF r d).noballs:=by
    have:=rk.noball;rw [hc];unfold Uw;simp only;cases d.type==3<;>first | rfl | exact CK (n:=r.noball) (by omega) (by omega)
  have c3:IntKind.i64.wrap (AF r d).byes=(AF r d).byes:=by rw [hc];unfold Uw;simp only;cases (!(d.type==2)&&d.source==2)<;>first | rfl | exact Ik _
  have c4:IntKind.i64.wrap (AF r d).legbyes=(AF r d).legbyes:=by rw [hc];unfold Uw;simp only;cases (!(d.type==2)&&d.source==3)<;>first | rfl | exact Ik _
  refine ⟨(Of _ _).trans ht,(Of _ _).trans c1,(Of _ _).trans c2,(Of _ _).trans c3,(Of _ _).trans c4,?_,?_,?_,hk,Ik _⟩
  · have : (B7 r (J2 r s d) (e.kind == 4)).pens = (Aq r (Ak s d) (AF r d).counts).1.pens := by
      show (cond (Aq r (Ak s d) (AF r d).counts).2 (GV (Aq r (Ak s d) (AF r d).counts).1) (Aq r (Ak s d) (AF r d).counts).1).pens=_;cases (Aq r (Ak s d) (AF r d).counts).2<;>rfl
    rw [this,w2,k6]
  · have e1 : (B7 r (J2 r s d) (e.kind == 4)).complete = (Aq r (Ak s d) (AF r d).counts).1.complete := by
      show (cond (Aq r (Ak s d) (AF r d).counts).2 (GV (Aq r (Ak s d) (AF r d).counts).1) (Aq r (Ak s d) (AF r d).counts).1).complete=_;cases (Aq r (Ak s d) (AF r d).counts).2<;>rfl
    have e2:(B7 r (J2 r s d) (e.kind==4)).inover=(Aq r (Ak s d) (AF r d).counts).1.inover:=by
      show (cond (Aq r (Ak s d) (AF r d).counts).2 (GV (Aq r (Ak s d) (AF r d).counts).1) (Aq r (Ak s d) (AF r d).counts).1).inover=_;cases (Aq r (Ak s d) (AF r d).counts).2<;>rfl
    rw [e1,e2,hbl]
  · have : (B7 r (J2 r s d) (e.kind == 4)).wickets = (Aq r (Ak s d) (AF r d).counts).1.wickets := by
      show (cond (Aq r (Ak s d) (AF r d).counts).2 (GV (Aq r (Ak s d) (AF r d).counts).1) (Aq r (Ak s d) (AF r d).counts).1).wickets=_;cases (Aq r (Ak s d) (AF r d).counts).2<;>rfl
    rw [this,w1,hout];unfold inc;cases d.how==0 with
    | true=>exact dp _
    | false=>exact (Of s.wickets 1).trans rfl
def AEZ:Inn:=⟨0,0,0,0,0,0,0,0,0,0,0,0,0,0,[],0,[],[],false,[],false,0,0,0,[],0,0,0⟩
def AEM (n:Nat) (overs side t p:Int):Inn:=⟨side,t,overs,p,0,0,0,0,0,p,0,0,0,0,List.replicate n [.int 0],0,[],[],false,List.replicate n [.int 0],false,0,0,0,List.replicate n [.bool false],0,0,0⟩
def Bm (r:Rul) (side t p:Int):Inn×Int :=
 cond (!(A4 r==0)) (AEZ,A4 r) (cond (!btw side 1 2 || !btw t 0 1000000 || !btw p 0 1000000) (AEZ,2) (AEM r.side.toNat r.overs side t p,0))
theorem XV {N:Nat} {r8:Bool} {r0:ByteArray} {r13:Rows} {a:Int} {b:Int} {c:Int} (hN:2097152<N) (hs:r0.size≤1048576):Gh N [.str r0,.int r1,.int r2,.int r3,.int r4,.int r5,.int r6,.int r7,.bool r8,.int r9,.int r10,.int r11,.int r12,.rows r13,.int a,.int b,.int c]=some (Ai (Bm (⟨r0,r1,r2,r3,r4,r5,r6,r7,r8,r9,r10,r11,r12,r13⟩:Rul) a b c)):=by
 show KS (std (HR N) N) (xOf _)=_;generalize hres:(some (Ai (Bm (⟨r0,r1,r2,r3,r4,r5,r6,r7,r8,r9,r10,r11,r12,r13⟩:Rul) a b c)):Option (List PV))=RR;simp only [KS,Sj,Oq,lq9,std,xOf,PXb,Ds hN hs,EZ];subst hres;simp only [Bm];cases hc:A4 (⟨r0,r1,r2,r3,r4,r5,r6,r7,r8,r9,r10,r11,r12,r13⟩:Rul)==0 with
 | false=>rfl
 | true =>
  have rk:=(C9 (beq_iff_eq.1 hc)).side;obtain ⟨k,hk⟩:∃ k:Nat,r1=k:=⟨r1.toNat,by simp only at rk;omega⟩;subst hk;simp only at rk;have h1:iSm (k:Int) 1=true:=DJ (by omega) (by omega);have h8:iSm (k:Int) 8=true:=DJ (by omega) (by omega);simp only [PXb,PXc,PXn,PXm,Nat.reduceAdd,Int.reduceBEq,h1,h8];cases btw a 1 2<;>cases btw b 0 1000000<;>cases btw c 0 1000000<;>rfl
theorem kX {N:Nat} {r8:Bool} {r0:ByteArray} {r13:Rows} {a:Int} {b:Int} {c:Int} (hN:2097152<N) (hs:r0.size≤1048576):Ru N [.str r0,.int r1,.int r2,.int r3,.int r4,.int r5,.int r6,.int r7,.bool r8,.int r9,.int r10,.int r11,.int r12,.rows r13,.int a,.int b,.int c]=some (Ai (Bm (⟨r0,r1,r2,r3,r4,r5,r6,r7,r8,r9,r10,r11,r12,r13⟩:Rul) a b c)):=by
 show Rv (std (Ni N) N) (xOf _)=_;generalize hres:(some (Ai (Bm (⟨r0,r1,r2,r3,r4,r5,r6,r7,r8,r9,r10,r11,r12,r13⟩:Rul) a b c)):Option (List PV))=RR;simp only [Rv,Zu,fP,lq9,std,xOf,PXb,FP hN hs,iD];subst hres;simp only [Bm];cases hc:A4 (⟨r0,r1,r2,r3,r4,r5,r6,r7,r8,r9,r10,r11,r12,r13⟩:Rul)==0 with
 | false=>rfl
 | true =>
  have rk:=(C9 (beq_iff_eq.1 hc)).side;obtain ⟨k,hk⟩:∃ k:Nat,r1=k:=⟨r1.toNat,by simp only at rk;omega⟩;subst hk;simp only at rk;simp only [PXb];cases btw a 1 2<;>try rfl
  cases btw b 0 1000000<;>try rfl
  cases btw c 0 1000000<;>try rfl
  simp only [PXb];refine AN (BV (len:=k) (fun i=>[.int (i:Int),.int a,.int b,.int r3,.int c,.int 0,.int 0,.int 0,.int 0,.int 0,.int c,.int 0,.int 0,.int 0,.int 0,.rows (List.replicate i [.int 0]),.int 0,.rows [],.rows [],.bool false,.rows (List.replicate i [.int 0]),.bool false,.int 0,.int 0,.int 0,.rows (List.replicate i [.bool false]),.int 0,.int 0,.int 0]) (AEM k r3 a b c).ls ?_ ?_ N (by omega)) rfl
  ·intro self;simp only [PXb,PXc,PXn,PXm,Nat.reduceAdd,Int.reduceBEq,Aj];rfl
  ·intro i self hi;have l1:(List.replicate i [PV.int 0]++[[PV.int 0]]).length≤1048576:=by simp;omega
   have l2:(List.replicate i [PV.bool false]++[[PV.bool false]]).length≤1048576:=by simp;omega
   simp only [PXb,PXc,PXn,PXm,Nat.reduceAdd,Int.reduceBEq,Ah (show i≤1099511627776 by omega),Ad hi,Ks l1 (show 1≤4096 by omega),Ks l1 (show 8≤4096 by omega),Ks l2 (show 1≤4096 by omega)];rw [List.replicate_succ',List.replicate_succ'];rfl
theorem I1 (r:Rul) (side t p:Int):(Bm r side t p).1.Fit∧(Bm r side t p).1.before=[]∧(Bm r side t p).1.bowlers=[]:=by
 unfold Bm;cases hc:A4 r==0 with
 | false=>exact ⟨⟨by show 0≤1048576;omega,by show 0≤1048576;omega,by show 0≤1048576;omega,by show 0≤1048576;omega,by show 0≤1048576;omega⟩,rfl,rfl⟩
 | true =>
  have hs:=(C9 (beq_iff_eq.1 hc)).side;have hl:∀ x:List PV,(List.replicate r.side.toNat x).length≤1048576:=fun x=>by rw [List.length_replicate];omega
  cases (!btw side 1 2 || !btw t 0 1000000 || !btw p 0 1000000) with
  | true=>exact ⟨⟨by show 0≤1048576;omega,by show 0≤1048576;omega,by show 0≤1048576;omega,by show 0≤1048576;omega,by show 0≤1048576;omega⟩,rfl,rfl⟩
  | false=>exact ⟨⟨hl _,by show 0≤1048576;omega,by show 0≤1048576;omega,hl _,hl _⟩,rfl,rfl⟩
theorem AEn {s:Inn} (h:s.Fit):(J1 s).Fit:=⟨h.bt,h.bw,h.bf,h.bd,h.sb⟩
structure BatOk (L:Rows) (s n wk:Int):Prop where
 le:∀ i,i<L.length→atI L i 0≤3
 at1:∀ i,i<L.length→(atI L i 0=1↔(s=(i:Int)+1∨n=(i:Int)+1))
 here:Bz L=true→s≠0∨n≠0
 ne:s≠0→s≠n
 wk:wk=f6 L
theorem AE5 {r:Rul} {s:Inn} (h:InnOk r s):2≤r.side∧r.side≤11:=(C9 h.code).side
theorem ACp {s:Inn} {p:Int} {hurt:Bool} (h:((D5 s p hurt).2==0)=true):inR p s.batters.length=true∧s.striker≠0∧s.other≠0∧(p=s.striker∨p=s.other)∧(hurt&&((B2 s.batters s.batters.length).length:Int)==0)=false:=by
 unfold D5 at h;cases h1:inR p s.batters.length with
 | false=>rw [h1] at h;cases h
 | true =>
  cases h2:s.striker==0 with
  | true=>rw [h1,h2] at h;cases h
  | false =>
   cases h3:s.other==0 with
   | true=>rw [h1,h2,h3] at h;cases h
   | false =>
    cases h4:(!(p==s.striker) && !(p==s.other)) with
    | true=>rw [h1,h2,h3,h4] at h;cases h
    | false =>
     cases h5:(hurt&&((B2 s.batters s.batters.length).length:Int)==0) with
     | true=>rw [h1,h2,h3,h4,h5] at h;cases h
     | false =>
      refine ⟨rfl,beq_eq_false_iff_ne.1 h2,beq_eq_false_iff_ne.1 h3,?_,rfl⟩;rw [Bool.and_eq_false_iff,Bool.not_eq_false',Bool.not_eq_false',beq_iff_eq,beq_iff_eq] at h4;exact h4
structure Small (s:Inn):Prop where
 target:s.target≤999999900
 runs:s.runs≤999999900
 wides:s.wides≤999999900
 noballs:s.noballs≤999999900
 byes:s.byes≤999999900
 legbyes:s.legbyes≤999999900
 pens:s.pens≤999999900
 complete:s.complete≤999999900
 ballage:s.ballage≤999999900
 rev1:s.rev1≤999999900
 rev2:s.rev2≤999999900
 bowled:∀ j,j<s.bowled.length→atI s.bowled j 0≤999999900
def Aa (xs:List Inn):Rows:=xs.map Inn.ls
def dI:Inn:=⟨0,0,0,0,0,0,0,0,0,0,0,0,0,0,[],0,[],[],false,[],false,0,0,0,[],0,0,0⟩
def inn (xs:List Inn) (i:Nat):Inn:=xs.getD i dI
structure Mat where
 rules:Rul
 stage:Int
 first:Int
 follow:Bool
 inns:List Inn
 pen1:Int
 pen2:Int
 win:Int
 wside:Int
 margin:Int
def Mat.ls (m:Mat):List PV:=[.str m.rules.name,.int m.rules.side,.int m.rules.innings,.int m.rules.overs,.int m.rules.balls,.int m.rules.quota,.int m.rules.wide,.int m.rules.noball,.bool m.rules.freehit,.int m.rules.newball,.int m.rules.followon,.int m.rules.reviews,.int m.rules.outside,.rows m.rules.power,.int m.stage,.int m.first,.bool m.follow,.rows (Aa m.inns),.int m.pen1,.int m.pen2,.int m.win,.int m.wside,.int m.margin]
def HT (x:Mat×Int):List PV:=[.str x.1.rules.name,.int x.1.rules.side,.int x.1.rules.innings,.int x.1.rules.overs,.int x.1.rules.balls,.int x.1.rules.quota,.int x.1.rules.wide,.int x.1.rules.noball,.bool x.1.rules.freehit,.int x.1.rules.newball,.int x.1.rules.followon,.int x.1.rules.reviews,.int x.1.rules.outside,.rows x.1.rules.power,.int x.1.stage,.int x.1.first,.bool x.1.follow,.rows (Aa x.1.inns),.int x.1.pen1,.int x.1.pen2,.int x.1.win,.int x.1.wside,.int x.1.margin,.int x.2]
theorem qT (xs:List Inn) (i:Nat):AO (Aa xs) i=(match xs[i]? with | some s=>s.ls | none=>[]):=by
 unfold AO Aa;rw [zzk,List.getElem?_map];cases xs[i]?<;>rfl
theorem P8 (xs:List Inn) (i:Nat):inn xs i=(match xs[i]? with | some s=>s | none=>dI):=by
 unfold inn;rw [zzk];cases xs[i]?<;>rfl
theorem mw (xs:List Inn):(Aa xs).length=xs.length:=List.length_map _
theorem PXi : (∀ xs : List Inn, (Aa xs).length = xs.length) ∧ (∀ (xs : List Inn) (i : Nat), pvI (AJ (Aa xs) i 0) = (inn xs i).side) ∧ (∀ (xs : List Inn) (i : Nat), pvI (AJ (Aa xs) i 1) = (inn xs i).target) ∧ (∀ (xs : List Inn) (i : Nat), pvI (AJ (Aa xs) i 2) = (inn xs i).overs) ∧ (∀ (xs : List Inn) (i : Nat), pvI (AJ (Aa xs) i 3) = (inn xs i).runs) ∧
    (∀ (xs:List Inn) (i:Nat),pvI (AJ (Aa xs) i 4)=(inn xs i).wickets)∧(∀ (xs:List Inn) (i:Nat),pvI (AJ (Aa xs) i 5)=(inn xs i).wides)∧(∀ (xs:List Inn) (i:Nat),pvI (AJ (Aa xs) i 6)=(inn xs i).noballs)∧(∀ (xs:List Inn) (i:Nat),pvI (AJ (Aa xs) i 7)=(inn xs i).byes)∧(∀ (xs:List Inn) (i:Nat),pvI (AJ (Aa xs) i 8)=(inn xs i).legbyes) ∧
    (∀ (xs:List Inn) (i:Nat),pvI (AJ (Aa xs) i 9)=(inn xs i).pens)∧(∀ (xs:List Inn) (i:Nat),pvI (AJ (Aa xs) i 10)=(inn xs i).complete)∧(∀ (xs:List Inn) (i:Nat),pvI (AJ (Aa xs) i 11)=(inn xs i).inover)∧(∀ (xs:List Inn) (i:Nat),pvI (AJ (Aa xs) i 12)=(inn xs i).striker)∧(∀ (xs:List Inn) (i:Nat),pvI (AJ (Aa xs) i 13)=(inn xs i).other) ∧
    (∀ (xs:List Inn) (i:Nat),pvL (AJ (Aa xs) i 14)=(inn xs i).batters)∧(∀ (xs:List Inn) (i:Nat),pvI (AJ (Aa xs) i 15)=(inn xs i).bowler)∧(∀ (xs:List Inn) (i:Nat),pvL (AJ (Aa xs) i 16)=(inn xs i).bowlers)∧(∀ (xs:List Inn) (i:Nat),pvL (AJ (Aa xs) i 17)=(inn xs i).before)∧(∀ (xs:List Inn) (i:Nat),pvB (AJ (Aa xs) i 18)=(inn xs i).fresh) ∧
    (∀ (xs:List Inn) (i:Nat),pvL (AJ (Aa xs) i 19)=(inn xs i).bowled)∧(∀ (xs:List Inn) (i:Nat),pvB (AJ (Aa xs) i 20)=(inn xs i).freehit)∧(∀ (xs:List Inn) (i:Nat),pvI (AJ (Aa xs) i 21)=(inn xs i).ballage)∧(∀ (xs:List Inn) (i:Nat),pvI (AJ (Aa xs) i 22)=(inn xs i).keeper)∧(∀ (xs:List Inn) (i:Nat),pvI (AJ (Aa xs) i 23)=(inn xs i).outside) ∧
    (∀ (xs:List Inn) (i:Nat),pvL (AJ (Aa xs) i 24)=(inn xs i).subs)∧(∀ (xs:List Inn) (i:Nat),pvI (AJ (Aa xs) i 25)=(inn xs i).rev1)∧(∀ (xs:List Inn) (i:Nat),pvI (AJ (Aa xs) i 26)=(inn xs i).rev2)∧(∀ (xs:List Inn) (i:Nat),pvI (AJ (Aa xs) i 27)=(inn xs i).ending):=by
  refine ⟨mw,?_,?_,?_,?_,?_,?_,?_,?_,?_,?_,?_,?_,?_,?_,?_,?_,?_,?_,?_,?_,?_,?_,?_,?_,?_,?_,?_,?_⟩
  all_goals (intro xs i;rw [P8];unfold AJ;rw [qT];cases xs[i]?<;>rfl)
theorem Mat.eta (m:Mat):Mat.mk m.rules m.stage m.first m.follow m.inns m.pen1 m.pen2 m.win m.wside m.margin=m:=rfl
theorem PXk : (∀ m : Mat, m.ls = [.str m.rules.name, .int m.rules.side, .int m.rules.innings, .int m.rules.overs, .int m.rules.balls, .int m.rules.quota, .int m.rules.wide, .int m.rules.noball, .bool m.rules.freehit, .int m.rules.newball, .int m.rules.followon, .int m.rules.reviews, .int m.rules.outside, .rows m.rules.power, .int m.stage, .int m.first, .bool m.follow, .rows (Aa m.inns), .int m.pen1, .int m.pen2, .int m.win, .int m.wside, .int m.margin]) ∧
    (∀ x:Mat×Int,HT x=[.str x.1.rules.name,.int x.1.rules.side,.int x.1.rules.innings,.int x.1.rules.overs,.int x.1.rules.balls,.int x.1.rules.quota,.int x.1.rules.wide,.int x.1.rules.noball,.bool x.1.rules.freehit,.int x.1.rules.newball,.int x.1.rules.followon,.int x.1.rules.reviews,.int x.1.rules.outside,.rows x.1.rules.power,.int x.1.stage,.int x.1.first,.bool x.1.follow,.rows (Aa x.1.inns),.int x.1.pen1,.int x.1.pen2,.int x.1.win,.int x.1.wside,.int x.1.margin,.int x.2]) ∧
    (∀ m:Mat,Mat.mk m.rules m.stage m.first m.follow m.inns m.pen1 m.pen2 m.win m.wside m.margin=m):=⟨fun _=>rfl,fun _=>rfl,fun _=>rfl⟩
theorem zq:∀ (ps r pre:List PV),r.length=ps.length→BE (pre++r) pre.length ps=pre++ps
 | [],r,pre,h=>by
  have:r=[]:=List.eq_nil_of_length_eq_zero h;subst this;rfl
 | p::ps,[],pre,h=>by cases h
 | p::ps,a::r,pre,h=>by
  have ih:=zq ps r (pre++[p]) (by simpa using h);simp only [List.length_append,List.length_cons,List.length_nil,List.append_assoc,List.cons_append,List.nil_append] at ih;unfold BE;rw [List.set_append_right _ _ (Nat.le_refl _),Nat.sub_self];exact ih
theorem AFm (a s:Inn):BE a.ls 0 s.ls=s.ls:=zq s.ls a.ls [] rfl
theorem AFP (a:Inn) (e:Int):BE a.ls 27 [.int e]=Inn.ls { a with ending:=e }:=by
 show a.ls.set 27 (.int e)=_;rfl
theorem AEu {xs:List Inn} {i:Nat} (h:i<xs.length) (s:Inn):(Aa xs).set i (BE (AO (Aa xs) i) 0 s.ls)=Aa (xs.set i s):=by
 have e:AO (Aa xs) i=(xs[i]).ls:=by rw [qT,zzn h]
 rw [e,AFm];exact List.map_set.symm
theorem AEm {xs:List Inn} {i:Nat} (h:i<xs.length) (e:Int):(Aa xs).set i (BE (AO (Aa xs) i) 27 [.int e])=Aa (xs.set i { inn xs i with ending:=e }):=by
 have e1:AO (Aa xs) i=(inn xs i).ls:=by rw [qT,P8,zzn h]
 rw [e1,AFP];exact List.map_set.symm
theorem AFC (xs:List Inn) (s:Inn):Aa xs++[s.ls]=Aa (xs++[s]):=by
 show List.map Inn.ls xs++List.map Inn.ls [s]=List.map Inn.ls (xs++[s]);exact List.map_append.symm
theorem AFK (xs:List Inn) (i:Nat) (s:Inn):(Aa xs).set i (BE (AO (Aa xs) i) 0 s.ls)=Aa (xs.set i s):=by
 by_cases h:i<xs.length
 ·exact AEu h s
 ·rw [List.set_eq_of_length_le (by rw [mw];omega),List.set_eq_of_length_le (by omega)]
theorem zA (xs:List Inn) (i:Nat) (e:Int):(Aa xs).set i (BE (AO (Aa xs) i) 27 [.int e])=Aa (xs.set i { inn xs i with ending:=e }):=by
 by_cases h:i<xs.length
 ·exact AEm h e
 ·rw [List.set_eq_of_length_le (by rw [mw];omega),List.set_eq_of_length_le (by omega)]
theorem PXr : (∀ (xs : List Inn) (x0 x1 x2 x3 x4 x5 x6 x7 x8 x9 x10 x11 x12 x13 x15 x21 x22 x23 x25 x26 x27 : Int) (x18 x20 : Bool) (x14 x16 x17 x19 x24 : Rows), Aa xs ++ [([.int x0, .int x1, .int x2, .int x3, .int x4, .int x5, .int x6, .int x7, .int x8, .int x9, .int x10, .int x11, .int x12, .int x13, .rows x14, .int x15, .rows x16, .rows x17, .bool x18, .rows x19, .bool x20, .int x21, .int x22, .int x23, .rows x24, .int x25, .int x26, .int x27] : List PV)] = Aa (xs ++ [⟨x0, x1, x2, x3, x4, x5, x6, x7, x8, x9, x10, x11, x12, x13, x14, x15, x16, x17, x18, x19, x20, x21, x22, x23, x24, x25, x26, x27⟩])) ∧ (∀ (xs : List Inn) (i : Nat) (x0 x1 x2 x3 x4 x5 x6 x7 x8 x9 x10 x11 x12 x13 x15 x21 x22 x23 x25 x26 x27 : Int) (x18 x20 : Bool) (x14 x16 x17 x19 x24 : Rows), (Aa xs).set i (BE (AO (Aa xs) i) 0 [.int x0, .int x1, .int x2, .int x3, .int x4, .int x5, .int x6, .int x7, .int x8, .int x9, .int x10, .int x11, .int x12, .int x13, .rows x14, .int x15, .rows x16, .rows x17, .bool x18, .rows x19, .bool x20, .int x21, .int x22, .int x23, .rows x24, .int x25, .int x26, .int x27]) = Aa (xs.set i ⟨x0, x1, x2, x3, x4, x5, x6, x7, x8, x9, x10, x11, x12, x13, x14, x15, x16, x17, x18, x19, x20, x21, x22, x23, x24, x25, x26, x27⟩)) ∧
    (∀ (xs:List Inn) (i:Nat) (e:Int),(Aa xs).set i (BE (AO (Aa xs) i) 27 [.int e])=Aa (xs.set i { inn xs i with ending:=e })) :=
  ⟨fun xs x0 x1 x2 x3 x4 x5 x6 x7 x8 x9 x10 x11 x12 x13 x15 x21 x22 x23 x25 x26 x27 x18 x20 x14 x16 x17 x19 x24=>AFC xs ⟨x0,x1,x2,x3,x4,x5,x6,x7,x8,x9,x10,x11,x12,x13,x14,x15,x16,x17,x18,x19,x20,x21,x22,x23,x24,x25,x26,x27⟩,fun xs i x0 x1 x2 x3 x4 x5 x6 x7 x8 x9 x10 x11 x12 x13 x15 x21 x22 x23 x25 x26 x27 x18 x20 x14 x16 x17 x19 x24=>AFK xs i ⟨x0,x1,x2,x3,x4,x5,x6,x7,x8,x9,x10,x11,x12,x13,x14,x15,x16,x17,x18,x19,x20,x21,x22,x23,x24,x25,x26,x27⟩,zA⟩
def Bd (n:Int):Int:=IntKind.i64.wrap (3 - n)
theorem Jc {N:Nat} {n:Int}  : Ba N [.int n]=some [.int (Bd n)]:=by
 show Nh (std (XQ N) N) (xOf _)=_;simp only [Nh,lq9,std,xOf,PXb,PXc,PXn,PXm,Nat.reduceAdd,Int.reduceBEq,Bd]
theorem HG {N:Nat} {n:Int}  : CR N [.int n]=some [.int (Bd n)]:=by
 show R0 (std (eH N) N) (xOf _)=_;simp only [R0,lq9,std,xOf,PXb,PXc,PXn,PXm,Nat.reduceAdd,Int.reduceBEq,Bd]
def Cc (m:Mat) (i:Int):Int:=cond (cond (m.follow&&iLe 2 i) (i==2) (i.tmod 2==1)) (Bd m.first) m.first
theorem Tg {N:Nat} {m8 m16:Bool} {m0:ByteArray} {m13:Rows} {m17:List Inn} {i:Int}  : Dp N [.str m0,.int m1,.int m2,.int m3,.int m4,.int m5,.int m6,.int m7,.bool m8,.int m9,.int m10,.int m11,.int m12,.rows m13,.int m14,.int m15,.bool m16,.rows (Aa m17),.int m18,.int m19,.int m20,.int m21,.int m22,.int i]=some [.int (Cc (⟨⟨m0,m1,m2,m3,m4,m5,m6,m7,m8,m9,m10,m11,m12,m13⟩,m14,m15,m16,m17,m18,m19,m20,m21,m22⟩:Mat) i)]:=by
 show NC (std (Pb N) N) (xOf _)=_;generalize hres:(some [.int (Cc (⟨⟨m0,m1,m2,m3,m4,m5,m6,m7,m8,m9,m10,m11,m12,m13⟩,m14,m15,m16,m17,m18,m19,m20,m21,m22⟩:Mat) i)]:Option (List PV))=RR;simp only [NC,UJ,lq9,std,xOf,PXb,PXc,PXn,PXm,Nat.reduceAdd,Int.reduceBEq,Jc];subst hres;simp only [Cc]
theorem fR {N:Nat} {m8 m16:Bool} {m0:ByteArray} {m13:Rows} {m17:List Inn} {i:Int} (hi:0≤i∧i≤3):Fw N [.str m0,.int m1,.int m2,.int m3,.int m4,.int m5,.int m6,.int m7,.bool m8,.int m9,.int m10,.int m11,.int m12,.rows m13,.int m14,.int m15,.bool m16,.rows (Aa m17),.int m18,.int m19,.int m20,.int m21,.int m22,.int i]=some [.int (Cc (⟨⟨m0,m1,m2,m3,m4,m5,m6,m7,m8,m9,m10,m11,m12,m13⟩,m14,m15,m16,m17,m18,m19,m20,m21,m22⟩:Mat) i)]:=by
 show PE (std (RS N) N) (xOf _)=_;generalize hres:(some [.int (Cc (⟨⟨m0,m1,m2,m3,m4,m5,m6,m7,m8,m9,m10,m11,m12,m13⟩,m14,m15,m16,m17,m18,m19,m20,m21,m22⟩:Mat) i)]:Option (List PV))=RR;simp only [PE,Yi,lq9,std,xOf,PXb,PXc,PXn,PXm,Nat.reduceAdd,Int.reduceBEq,HG];subst hres;simp only [Cc];have:i=0∨i=1∨i=2∨i=3:=by omega
 rcases this with h | h | h | h<;>subst h<;>cases m16<;>rfl
def HL (xs:List Inn) (side:Int):Nat→Int
 | 0=>0
 | i+1=>cond ((inn xs i).side==side) (IntKind.i64.wrap (HL xs side i+(inn xs i).runs)) (HL xs side i)
def BK (m:Mat) (side:Int):Int:=HL m.inns side m.inns.length
theorem TO {N:Nat} {m8 m16:Bool} {m0:ByteArray} {m13:Rows} {m17:List Inn} {n:Int} (hN:2097152<N) (hl:m17.length≤1048576):CL N [.str m0,.int m1,.int m2,.int m3,.int m4,.int m5,.int m6,.int m7,.bool m8,.int m9,.int m10,.int m11,.int m12,.rows m13,.int m14,.int m15,.bool m16,.rows (Aa m17),.int m18,.int m19,.int m20,.int m21,.int m22,.int n]=some [.int (BK (⟨⟨m0,m1,m2,m3,m4,m5,m6,m7,m8,m9,m10,m11,m12,m13⟩,m14,m15,m16,m17,m18,m19,m20,m21,m22⟩:Mat) n)]:=by
 show Nv (std (XY N) N) (xOf _)=_;generalize hres:(some [.int (BK (⟨⟨m0,m1,m2,m3,m4,m5,m6,m7,m8,m9,m10,m11,m12,m13⟩,m14,m15,m16,m17,m18,m19,m20,m21,m22⟩:Mat) n)]:Option (List PV))=RR;simp only [Nv,lq9,std,xOf,PXb,PXi];subst hres;simp only [BK];refine AN (BV (len:=m17.length) (fun i=>[.int (HL m17 n i),.int (i:Int)]) [.int (HL m17 n m17.length)] ?_ ?_ N (by omega)) rfl
 ·intro self;simp only [PXb,PXc,PXn,AD,Aj]
 ·intro i self hi;simp only [PXb,PXc,AD,Ah (show i≤1099511627776 by omega),Ad hi,AM hi,PXi,HL];cases (inn m17 i).side==n<;>rfl
theorem MW {N:Nat} {m8 m16:Bool} {m0:ByteArray} {m13:Rows} {m17:List Inn} {n:Int} (hN:2097152<N) (hl:m17.length≤1048576):FU N [.str m0,.int m1,.int m2,.int m3,.int m4,.int m5,.int m6,.int m7,.bool m8,.int m9,.int m10,.int m11,.int m12,.rows m13,.int m14,.int m15,.bool m16,.rows (Aa m17),.int m18,.int m19,.int m20,.int m21,.int m22,.int n]=some [.int (BK (⟨⟨m0,m1,m2,m3,m4,m5,m6,m7,m8,m9,m10,m11,m12,m13⟩,m14,m15,m16,m17,m18,m19,m20,m21,m22⟩:Mat) n)]:=by
 show R1 (std (dc N) N) (xOf _)=_;generalize hres:(some [.int (BK (⟨⟨m0,m1,m2,m3,m4,m5,m6,m7,m8,m9,m10,m11,m12,m13⟩,m14,m15,m16,m17,m18,m19,m20,m21,m22⟩:Mat) n)]:Option (List PV))=RR;simp only [R1,lq9,std,xOf,PXb,PXi];subst hres;simp only [BK];refine AN (BV (len:=m17.length) (fun i=>[.int (HL m17 n i),.int (i:Int)]) [.int (HL m17 n m17.length)] ?_ ?_ N (by omega)) rfl
 ·intro self;simp only [PXb,PXc,PXn,AD,Aj]
 ·intro i self hi;simp only [PXb,PXc,AD,Ah (show i≤1099511627776 by omega),Ad hi,AM hi,PXi,HL];cases (inn m17 i).side==n<;>rfl
def FX (m:Mat) (side:Int):Int :=
 cond (iLt (IntKind.i64.wrap ((m.inns.length:Int)+1)) (IntKind.i64.wrap (2 * m.rules.innings))) 0 (IntKind.i64.wrap (IntKind.i64.wrap (BK m (Bd side) - BK m side)+1))
theorem aO {N:Nat} {m8 m16:Bool} {m0:ByteArray} {m13:Rows} {m17:List Inn} {n:Int} (hN:2097152<N) (hl:m17.length≤1048576):Hk N [.str m0,.int m1,.int m2,.int m3,.int m4,.int m5,.int m6,.int m7,.bool m8,.int m9,.int m10,.int m11,.int m12,.rows m13,.int m14,.int m15,.bool m16,.rows (Aa m17),.int m18,.int m19,.int m20,.int m21,.int m22,.int n]=some [.int (FX (⟨⟨m0,m1,m2,m3,m4,m5,m6,m7,m8,m9,m10,m11,m12,m13⟩,m14,m15,m16,m17,m18,m19,m20,m21,m22⟩:Mat) n)]:=by
 show Lo (std (Iq N) N) (xOf _)=_;generalize hres:(some [.int (FX (⟨⟨m0,m1,m2,m3,m4,m5,m6,m7,m8,m9,m10,m11,m12,m13⟩,m14,m15,m16,m17,m18,m19,m20,m21,m22⟩:Mat) n)]:Option (List PV))=RR;simp only [Lo,Ta,TU,lq9,std,xOf,PXb,PXc,PXn,PXm,Nat.reduceAdd,Int.reduceBEq,PXi,Jc,TO hN hl];subst hres;simp only [FX]
def Mo (stage:Int) (xs:List Inn) (i:Nat):Bool := !(((inn xs i).ending==0)==(stage==3&&((i:Int)==IntKind.i64.wrap ((xs.length:Int) - 1))))
def aL (m:Mat):Bool := !A1 (Mo m.stage m.inns) m.inns.length 0&&(!(m.stage==3)||iLt 0 (m.inns.length:Int))
theorem tt {N:Nat} {m8 m16:Bool} {m0:ByteArray} {m13:Rows} {m17:List Inn} (hN:2097152<N) (hl:m17.length≤1048576):JY N [.str m0,.int m1,.int m2,.int m3,.int m4,.int m5,.int m6,.int m7,.bool m8,.int m9,.int m10,.int m11,.int m12,.rows m13,.int m14,.int m15,.bool m16,.rows (Aa m17),.int m18,.int m19,.int m20,.int m21,.int m22]=some [.bool (aL (⟨⟨m0,m1,m2,m3,m4,m5,m6,m7,m8,m9,m10,m11,m12,m13⟩,m14,m15,m16,m17,m18,m19,m20,m21,m22⟩:Mat))]:=by
 show NX (std (Xt N) N) (xOf _)=_;generalize hres:(some [.bool (aL (⟨⟨m0,m1,m2,m3,m4,m5,m6,m7,m8,m9,m10,m11,m12,m13⟩,m14,m15,m16,m17,m18,m19,m20,m21,m22⟩:Mat))]:Option (List PV))=RR;simp only [NX,lq9,std,xOf,PXb,PXi];subst hres;simp only [aL];refine AN (C1 (len:=m17.length) (Mo m14 m17) [.bool false] ?_ ?_ N (by omega)) ?_
 ·intro self;simp only [PXb,PXc,PXn,AD,Aj]
 ·intro i self hi;simp only [PXb,PXc,AD,Ah (show i≤1099511627776 by omega),Ad hi,AM hi,PXi,Mo]
 ·cases A1 (Mo m14 m17) m17.length 0 with
  | true=>rfl
  | false=>simp only [PXb,PXc,PXn,PXm,Nat.reduceAdd,Int.reduceBEq]
def D9 (xs:List Inn):Prop:=∀ i,i<xs.length→(inn xs i).Fit
theorem eE {N:Nat} {r8:Bool} {r0:ByteArray} {r13:Rows} (hl:r13.length≤1048576):Dq N [.str r0,.int r1,.int r2,.int r3,.int r4,.int r5,.int r6,.int r7,.bool r8,.int r9,.int r10,.int r11,.int r12,.rows r13]=some [.str r0,.int r1,.int r2,.int r3,.int r4,.int r5,.int r6,.int r7,.bool r8,.int r9,.int r10,.int r11,.int r12,.rows r13]:=by
 show NW (std (Pc N) N) (xOf _)=_;simp only [NW,Ny,lq9,std,xOf,PXb,PXc,PXn,PXm,Nat.reduceAdd,Int.reduceBEq,Dc,Bx hl (show 24≤4096 by omega)]
theorem jv {N:Nat} {r8:Bool} {r0:ByteArray} {r13:Rows} (hl:r13.length≤1048576):FT N [.str r0,.int r1,.int r2,.int r3,.int r4,.int r5,.int r6,.int r7,.bool r8,.int r9,.int r10,.int r11,.int r12,.rows r13]=some [.str r0,.int r1,.int r2,.int r3,.int r4,.int r5,.int r6,.int r7,.bool r8,.int r9,.int r10,.int r11,.int r12,.rows r13]:=by
 show SM (std (di N) N) (xOf _)=_;simp only [SM,lq9,std,xOf,PXb,PXc,PXn,PXm,Nat.reduceAdd,Int.reduceBEq,Ks hl (show 24≤4096 by omega)]
theorem dx {xs:List Inn} {i:Nat} (h:i<xs.length):xs.take i++[inn xs i]=xs.take (i+1):=by
 rw [List.take_add_one,P8,zzn h];rfl
theorem uA {N:Nat} {m8 m16:Bool} {m0:ByteArray} {m13:Rows} {m17:List Inn} (hf:D9 m17) (hN:2097152<N) (hl:m17.length≤1000000) (h13:m13.length≤1048576):Jk N [.str m0,.int m1,.int m2,.int m3,.int m4,.int m5,.int m6,.int m7,.bool m8,.int m9,.int m10,.int m11,.int m12,.rows m13,.int m14,.int m15,.bool m16,.rows (Aa m17),.int m18,.int m19,.int m20,.int m21,.int m22]=some [.str m0,.int m1,.int m2,.int m3,.int m4,.int m5,.int m6,.int m7,.bool m8,.int m9,.int m10,.int m11,.int m12,.rows m13,.int m14,.int m15,.bool m16,.rows (Aa m17),.int m18,.int m19,.int m20,.int m21,.int m22]:=by
 show M9 (std (KE N) N) (xOf _)=_;simp only [M9,Uz,Id,lq9,std,xOf,PXb,eE h13,PXi];refine AN (BV (len:=m17.length) (fun i=>[.rows (Aa (m17.take i)),.int (i:Int)]) [.rows (Aa m17)] ?_ ?_ N (by omega)) rfl
 ·intro self;simp only [PXb,PXc,PXn,AD,Aj,List.take_length]
 ·intro i self hi;have h2:(m17.take (i+1)).length≤1048576:=by rw [List.length_take];omega
  have h3:iSm ((m17.take (i+1)).length:Int) 304=true:=DJ (by omega) (by omega);simp only [PXb,PXc,AD,Ah (show i≤1099511627776 by omega),Ad hi,AM hi,PXi,Id,CZ (hf i hi),PXr,Inn.eta,h3,dx hi,Nat.reduceAdd];rfl
theorem ka {N:Nat} {m8 m16:Bool} {m0:ByteArray} {m13:Rows} {m17:List Inn} (hf:D9 m17) (hN:2097152<N) (hl:m17.length≤1000000) (h13:m13.length≤1048576):SL N [.str m0,.int m1,.int m2,.int m3,.int m4,.int m5,.int m6,.int m7,.bool m8,.int m9,.int m10,.int m11,.int m12,.rows m13,.int m14,.int m15,.bool m16,.rows (Aa m17),.int m18,.int m19,.int m20,.int m21,.int m22]=some [.str m0,.int m1,.int m2,.int m3,.int m4,.int m5,.int m6,.int m7,.bool m8,.int m9,.int m10,.int m11,.int m12,.rows m13,.int m14,.int m15,.bool m16,.rows (Aa m17),.int m18,.int m19,.int m20,.int m21,.int m22]:=by
 show SF (std (Nf N) N) (xOf _)=_;simp only [SF,ZC,Ob,lq9,std,xOf,PXb,jv h13,PXi];refine AN (BV (len:=m17.length) (fun i=>[.rows (Aa (m17.take i)),.int (i:Int)]) [.rows (Aa m17)] ?_ ?_ N (by omega)) rfl
 ·intro self;simp only [PXb,PXc,PXn,AD,Aj,List.take_length]
 ·intro i self hi;have h2:(m17.take (i+1)).length≤1048576:=by rw [List.length_take];omega
  have h3:iSm ((m17.take (i+1)).length:Int) 304=true:=DJ (by omega) (by omega);simp only [PXb,PXc,AD,Ah (show i≤1099511627776 by omega),Ad hi,AM hi,PXi,Ob,Yk (hf i hi),PXr,Inn.eta,h3,dx hi,Nat.reduceAdd];rfl
def AGM:Rul:=⟨⟨#[]⟩,0,0,0,0,0,0,0,false,0,0,0,0,[]⟩
def ABT:Mat:=⟨AGM,0,0,false,[],0,0,0,0,0⟩
def AU (r:Rul):Mat×Int:=cond (!(A4 r==0)) (ABT,A4 r) (⟨r,1,0,false,[],0,0,0,0,0⟩,0)
theorem yb {N:Nat} {r8:Bool} {r0:ByteArray} {r13:Rows} (hN:2097152<N) (hs:r0.size≤1048576) (h13:r13.length≤1048576):Ry N [.str r0,.int r1,.int r2,.int r3,.int r4,.int r5,.int r6,.int r7,.bool r8,.int r9,.int r10,.int r11,.int r12,.rows r13]=some (HT (AU (⟨r0,r1,r2,r3,r4,r5,r6,r7,r8,r9,r10,r11,r12,r13⟩:Rul))):=by
 show R6 (std (NB N) N) (xOf _)=_;generalize hres:(some (HT (AU (⟨r0,r1,r2,r3,r4,r5,r6,r7,r8,r9,r10,r11,r12,r13⟩:Rul))):Option (List PV))=RR;simp only [R6,Ww,W0,lq9,std,xOf,PXb,PXc,PXn,PXm,Nat.reduceAdd,Int.reduceBEq,Ds hN hs,eE h13];subst hres;simp only [AU];cases A4 (⟨r0,r1,r2,r3,r4,r5,r6,r7,r8,r9,r10,r11,r12,r13⟩:Rul)==0<;>rfl
theorem sv {N:Nat} {r8:Bool} {r0:ByteArray} {r13:Rows} (hN:2097152<N) (hs:r0.size≤1048576) (h13:r13.length≤1048576):Oa N [.str r0,.int r1,.int r2,.int r3,.int r4,.int r5,.int r6,.int r7,.bool r8,.int r9,.int r10,.int r11,.int r12,.rows r13]=some (HT (AU (⟨r0,r1,r2,r3,r4,r5,r6,r7,r8,r9,r10,r11,r12,r13⟩:Rul))):=by
 show XT (std (R5 N) N) (xOf _)=_;generalize hres:(some (HT (AU (⟨r0,r1,r2,r3,r4,r5,r6,r7,r8,r9,r10,r11,r12,r13⟩:Rul))):Option (List PV))=RR;simp only [XT,fF,ed,lq9,std,xOf,PXb,PXc,PXn,PXm,Nat.reduceAdd,Int.reduceBEq,FP hN hs,jv h13];subst hres;simp only [AU];cases A4 (⟨r0,r1,r2,r3,r4,r5,r6,r7,r8,r9,r10,r11,r12,r13⟩:Rul)==0<;>rfl
def Zz (m:Mat):Bool:=(iLt m.pen1 0||iLt 1000000 m.pen1)||(iLt m.pen2 0||iLt 1000000 m.pen2)
def Kr (m:Mat) (i:Nat):Bool := !FC m.rules (inn m.inns i) || !((inn m.inns i).side==Cc m (i:Int))
def pw (m:Mat):Bool :=
  let n:Int:=m.inns.length
  let most:=IntKind.i64.wrap (2 * m.rules.innings)
  A4 m.rules==0&&(!(iLt m.stage 1)&&(!(iLt 5 m.stage)&&(!Zz m&&(!(iLt m.first 0||iLt 2 m.first||iLt most n)&&(!(m.first==0&&(iLt 0 n||(!(m.stage==1) && !(m.stage==5)))) &&
    (!(m.stage==1 && !(m.first==0))&&(!(m.stage==2&&n==most)&&(!(m.stage==4&&(!(m.rules.innings==2) || !(n==2))) && !(m.follow&&(!(m.rules.innings==2)||iLt n 2))))))))))
def Ci (m:Mat):Bool:=pw m&&(!A1 (Kr m) m.inns.length 0&&aL m)
set_option maxHeartbeats 4000000 in
theorem dP {N:Nat} {m8 m16:Bool} {m0:ByteArray} {m13:Rows} {m17:List Inn} (hf:D9 m17) (hN:2097152<N) (hl:m17.length≤1000000) (hs:m0.size≤1048576):Dn N [.str m0,.int m1,.int m2,.int m3,.int m4,.int m5,.int m6,.int m7,.bool m8,.int m9,.int m10,.int m11,.int m12,.rows m13,.int m14,.int m15,.bool m16,.rows (Aa m17),.int m18,.int m19,.int m20,.int m21,.int m22]=some [.bool (Ci (⟨⟨m0,m1,m2,m3,m4,m5,m6,m7,m8,m9,m10,m11,m12,m13⟩,m14,m15,m16,m17,m18,m19,m20,m21,m22⟩:Mat))]:=by
 show Nm (std (Ec N) N) (xOf _)=_;generalize hres:(some [.bool (Ci (⟨⟨m0,m1,m2,m3,m4,m5,m6,m7,m8,m9,m10,m11,m12,m13⟩,m14,m15,m16,m17,m18,m19,m20,m21,m22⟩:Mat))]:Option (List PV))=RR;simp only [Nm,UU,Ie,KV,KF,lq9,std,xOf,PXb,Ds hN hs,PXi];subst hres;simp only [Ci,pw];cases hc:A4 (⟨⟨m0,m1,m2,m3,m4,m5,m6,m7,m8,m9,m10,m11,m12,m13⟩,m14,m15,m16,m17,m18,m19,m20,m21,m22⟩:Mat).rules==0<;>(try rfl);cases h1:iLt m14 1<;>(try rfl);cases h5:iLt 5 m14<;>(try rfl);simp only [PXb];refine AN (C1 (len:=2) (fun i=>iLt (cond ((i:Int)==1) m19 m18) 0||iLt 1000000 (cond ((i:Int)==1) m19 m18)) [.bool false] ?_ ?_ N (by omega)) ?_
 ·intro self;rfl
 ·intro i self hi;simp only [PXb,Ah (show i≤1099511627776 by omega),show iLt (i:Int) 2=true from Ad (len:=2) hi,show iIn (i:Int) 2=true from AM (len:=2) hi]
 ·have hp:A1 (fun i=>iLt (cond ((i:Int)==1) m19 m18) 0||iLt 1000000 (cond ((i:Int)==1) m19 m18)) 2 0=Zz (⟨⟨m0,m1,m2,m3,m4,m5,m6,m7,m8,m9,m10,m11,m12,m13⟩,m14,m15,m16,m17,m18,m19,m20,m21,m22⟩:Mat):=by
   simp only [Bg,Ib,Bool.or_false];rfl
  rw [hp];cases Zz (⟨⟨m0,m1,m2,m3,m4,m5,m6,m7,m8,m9,m10,m11,m12,m13⟩,m14,m15,m16,m17,m18,m19,m20,m21,m22⟩:Mat)
  case true=>rfl
  simp only [PXb,Cy,Int.reduceBEq];cases iLt m15 0<;>try rfl
  cases iLt 2 m15<;>try rfl
  cases iLt (IntKind.i64.wrap (2 * m2)) (m17.length:Int)<;>try rfl
  cases (m15==0&&(iLt 0 (m17.length:Int)||(!(m14==1) && !(m14==5))))<;>try rfl
  cases (m14==1 && !(m15==0))<;>try rfl
  cases (m14==2&&(m17.length:Int)==IntKind.i64.wrap (2 * m2))<;>try rfl
  cases (m14==4&&(!(m2==2) || !((m17.length:Int)==2)))<;>try rfl
  cases (m16&&(!(m2==2)||iLt (m17.length:Int) 2))<;>try rfl
  simp only [PXb];refine AN (C1 (len:=m17.length) (Kr (⟨⟨m0,m1,m2,m3,m4,m5,m6,m7,m8,m9,m10,m11,m12,m13⟩,m14,m15,m16,m17,m18,m19,m20,m21,m22⟩:Mat)) [.bool false] ?_ ?_ N (by omega)) ?_
  ·intro self;simp only [PXb,PXc,PXn,AD,Aj]
  ·intro i self hi;simp only [PXb,PXc,PXn,PXm,Nat.reduceAdd,Int.reduceBEq,Ah (show i≤1099511627776 by omega),Ad hi,AM hi,PXi,Ie,KV,Xy (hf i hi) hN hs,Tg,Kr];cases FC (⟨⟨m0,m1,m2,m3,m4,m5,m6,m7,m8,m9,m10,m11,m12,m13⟩,m14,m15,m16,m17,m18,m19,m20,m21,m22⟩:Mat).rules (inn m17 i)<;>first | rfl | simp only [PXb,PXc,PXn,PXm,Nat.reduceAdd,Int.reduceBEq]
  ·cases A1 (Kr (⟨⟨m0,m1,m2,m3,m4,m5,m6,m7,m8,m9,m10,m11,m12,m13⟩,m14,m15,m16,m17,m18,m19,m20,m21,m22⟩:Mat)) m17.length 0
   case true=>rfl
   simp only [PXb,PXc,PXn,PXm,Nat.reduceAdd,Int.reduceBEq,KF,tt hN (show m17.length≤1048576 by omega)]
theorem zn (f g:Nat→Bool):∀ k i,A1 (fun j=>f j||g j) k i=(A1 f k i||A1 g k i)
 | 0,i=>rfl
 | k+1,i=>by
  rw [Bg,Bg,Bg,zn f g k (i+1)];cases f i<;>cases g i<;>cases A1 f k (i+1)<;>cases A1 g k (i+1)<;>rfl
theorem nQ {N:Nat} {m8 m16:Bool} {m0:ByteArray} {m13:Rows} {m17:List Inn} (hf:D9 m17) (hN:2097152<N) (hl:m17.length≤4) (hs:m0.size≤1048576):Gv N [.str m0,.int m1,.int m2,.int m3,.int m4,.int m5,.int m6,.int m7,.bool m8,.int m9,.int m10,.int m11,.int m12,.rows m13,.int m14,.int m15,.bool m16,.rows (Aa m17),.int m18,.int m19,.int m20,.int m21,.int m22]=some [.bool (!A1 (Kr (⟨⟨m0,m1,m2,m3,m4,m5,m6,m7,m8,m9,m10,m11,m12,m13⟩,m14,m15,m16,m17,m18,m19,m20,m21,m22⟩:Mat)) m17.length 0 && !A1 (Mo m14 m17) m17.length 0)]:=by
 show KU (std (He N) N) (xOf _)=_;generalize hres:(some [.bool (!A1 (Kr (⟨⟨m0,m1,m2,m3,m4,m5,m6,m7,m8,m9,m10,m11,m12,m13⟩,m14,m15,m16,m17,m18,m19,m20,m21,m22⟩:Mat)) m17.length 0 && !A1 (Mo m14 m17) m17.length 0)]:Option (List PV))=RR;simp only [KU,KP,Ja,lq9,std,xOf,PXb,PXi];subst hres;rw [← Bool.not_or,← zn];refine AN (C1 (len:=m17.length) (fun j=>Kr (⟨⟨m0,m1,m2,m3,m4,m5,m6,m7,m8,m9,m10,m11,m12,m13⟩,m14,m15,m16,m17,m18,m19,m20,m21,m22⟩:Mat) j||Mo m14 m17 j) [.bool false] ?_ ?_ N (by omega)) ?_
 ·intro self;simp only [PXb,PXc,PXn,AD,Aj]
 ·intro i self hi;have hi3:0≤(i:Int)∧(i:Int)≤3:=by omega
  simp only [PXb,PXc,PXn,PXm,Nat.reduceAdd,Int.reduceBEq,Ah (show i≤1099511627776 by omega),Ad hi,AM hi,PXi,KP,Ja,kV (hf i hi) hN hs,fR hi3,Kr,Mo];cases FC (⟨⟨m0,m1,m2,m3,m4,m5,m6,m7,m8,m9,m10,m11,m12,m13⟩,m14,m15,m16,m17,m18,m19,m20,m21,m22⟩:Mat).rules (inn m17 i)<;>rfl
 ·cases A1 (fun j=>Kr (⟨⟨m0,m1,m2,m3,m4,m5,m6,m7,m8,m9,m10,m11,m12,m13⟩,m14,m15,m16,m17,m18,m19,m20,m21,m22⟩:Mat) j||Mo m14 m17 j) m17.length 0<;>rfl
set_option maxHeartbeats 4000000 in
theorem Yw {N:Nat} {m8 m16:Bool} {m0:ByteArray} {m13:Rows} {m17:List Inn} (hf:D9 m17) (hN:2097152<N) (hl:m17.length≤1000000) (hs:m0.size≤1048576):FO N [.str m0,.int m1,.int m2,.int m3,.int m4,.int m5,.int m6,.int m7,.bool m8,.int m9,.int m10,.int m11,.int m12,.rows m13,.int m14,.int m15,.bool m16,.rows (Aa m17),.int m18,.int m19,.int m20,.int m21,.int m22]=some [.bool (Ci (⟨⟨m0,m1,m2,m3,m4,m5,m6,m7,m8,m9,m10,m11,m12,m13⟩,m14,m15,m16,m17,m18,m19,m20,m21,m22⟩:Mat))]:=by
 show R4 (std (Nd N) N) (xOf _)=_;generalize hres:(some [.bool (Ci (⟨⟨m0,m1,m2,m3,m4,m5,m6,m7,m8,m9,m10,m11,m12,m13⟩,m14,m15,m16,m17,m18,m19,m20,m21,m22⟩:Mat))]:Option (List PV))=RR;simp only [R4,Zi,KL,lq9,std,xOf,PXb,FP hN hs,PXi];subst hres;simp only [Ci,pw];cases hc:A4 (⟨⟨m0,m1,m2,m3,m4,m5,m6,m7,m8,m9,m10,m11,m12,m13⟩,m14,m15,m16,m17,m18,m19,m20,m21,m22⟩:Mat).rules==0
 case false=>simp only [PXb,PXc,PXn,PXm,Nat.reduceAdd,Int.reduceBEq]
 have rk:=(C9 (beq_iff_eq.1 hc)).innings;simp only at rk;have e2:IntKind.i64.wrap (2 * m2)=2 * m2:=CK (by omega) (by omega);have e4:(2 * m2==4)=(m2==2):=by rw [Bool.eq_iff_iff,beq_iff_eq,beq_iff_eq];omega
 simp only [e2,e4];cases h1:iLt m14 1
 case true=>simp only [PXb,PXc,PXn,PXm,Nat.reduceAdd,Int.reduceBEq]
 cases h5:iLt 5 m14
 case true=>simp only [PXb,PXc,PXn,PXm,Nat.reduceAdd,Int.reduceBEq]
 cases hm:iLt (2 * m2) (m17.length:Int)
 case true=>simp only [PXb,PXc,PXn,PXm,Nat.reduceAdd,Int.reduceBEq]
 have h4:m17.length≤4:=by
  simp only [iLt,decide_eq_false_iff_not] at hm;omega
 simp only [PXb];refine AN (C1 (len:=2) (fun i=>iLt (cond ((i:Int)==1) m19 m18) 0||iLt 1000000 (cond ((i:Int)==1) m19 m18)) [.bool false] ?_ ?_ N (by omega)) ?_
 ·intro self;rfl
 ·intro i self hi;simp only [PXb,Ah (show i≤1099511627776 by omega),show iLt (i:Int) 2=true from Ad (len:=2) hi,show iIn (i:Int) 2=true from AM (len:=2) hi]
 ·have hp:A1 (fun i=>iLt (cond ((i:Int)==1) m19 m18) 0||iLt 1000000 (cond ((i:Int)==1) m19 m18)) 2 0=Zz (⟨⟨m0,m1,m2,m3,m4,m5,m6,m7,m8,m9,m10,m11,m12,m13⟩,m14,m15,m16,m17,m18,m19,m20,m21,m22⟩:Mat):=by
   simp only [Bg,Ib,Bool.or_false];rfl
  rw [hp];cases Zz (⟨⟨m0,m1,m2,m3,m4,m5,m6,m7,m8,m9,m10,m11,m12,m13⟩,m14,m15,m16,m17,m18,m19,m20,m21,m22⟩:Mat)
  case true=>rfl
  simp only [PXb,Cy,Int.reduceBEq,KL,nQ hf hN h4 hs,aL,qo (show (0:Int)≤(m17.length:Int) by omega)];generalize A1 (Kr (⟨⟨m0,m1,m2,m3,m4,m5,m6,m7,m8,m9,m10,m11,m12,m13⟩,m14,m15,m16,m17,m18,m19,m20,m21,m22⟩:Mat)) m17.length 0=q1;generalize A1 (Mo m14 m17) m17.length 0=q2;generalize (m15==0&&(!((m17.length:Int)==0)||(!(m14==1) && !(m14==5))))=q3;generalize (m14==1 && !(m15==0))=q4;generalize (m14==2&&(m17.length:Int)==2 * m2)=q5;cases iLt m15 0<;>cases iLt 2 m15<;>cases q3<;>cases q4<;>cases q5<;>try (simp only [PXb,PXc,PXn,PXm,Nat.reduceAdd,Int.reduceBEq];done)
  cases m14==3<;>cases (m17.length:Int)==0<;>cases m14==4<;>cases m2==2<;>cases (m17.length:Int)==2<;>cases m16<;>cases iLt (m17.length:Int) 2<;>cases q1<;>cases q2<;>rfl
end Go.Px
end
