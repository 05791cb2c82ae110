/- Part 12. -/
import Derived.Test.YtmpgkalgfmnpjaaGreatPart11
import Derived.Test.YtmpgkalgfmnpjaaGreatPart07
set_option linter.unusedVariables false
set_option linter.unusedSimpArgs false
section
namespace Go.Px
set_option maxRecDepth 100000
set_option maxHeartbeats 4000000 in
theorem Zo {N:Nat} {r1 r2 r3 r4 r5 r6 r7 r9 r10 r11 r12:Int} {r8:Bool} {r0:ByteArray} {r13:Rows} {s0 s1 s2 s3 s4 s5 s6 s7 s8 s9 s10 s11 s12 s13 s15 s21 s22 s23 s25 s26 s27:Int} {s18 s20:Bool} {s14 s16 s17 s19 s24:Rows} {e0 e1 e2 e3 e5 e6 e7 e8 e9 e10 e11 e13 e14 e15 e16 e18:Int} {e4 e12 e17:Bool} (h:Fit s14 s16 s17 s19 s24) (hw:s17.length+s16.length≤1000000) (hN:2097152<N) (hs:r0.size≤1048576) (h13:r13.length≤1048576):IH N [.str r0,.int r1,.int r2,.int r3,.int r4,.int r5,.int r6,.int r7,.bool r8,.int r9,.int r10,.int r11,.int r12,.rows r13,.int s0,.int s1,.int s2,.int s3,.int s4,.int s5,.int s6,.int s7,.int s8,.int s9,.int s10,.int s11,.int s12,.int s13,.rows s14,.int s15,.rows s16,.rows s17,.bool s18,.rows s19,.bool s20,.int s21,.int s22,.int s23,.rows s24,.int s25,.int s26,.int s27,.int e0,.int e1,.int e2,.int e3,.bool e4,.int e5,.int e6,.int e7,.int e8,.int e9,.int e10,.int e11,.bool e12,.int e13,.int e14,.int e15,.int e16,.bool e17,.int e18]=some (Aa (Aq (⟨r0,r1,r2,r3,r4,r5,r6,r7,r8,r9,r10,r11,r12,r13⟩:Rul) (⟨s0,s1,s2,s3,s4,s5,s6,s7,s8,s9,s10,s11,s12,s13,s14,s15,s16,s17,s18,s19,s20,s21,s22,s23,s24,s25,s26,s27⟩:Inn) (⟨e0,e1,e2,e3,e4,e5,e6,⟨e7,e8,e9,e10,e11,e12,e13,e14,e15,e16,e17,e18⟩⟩:Ev))):=by
 show Ok (std (CX N) N) (xOf _)=_
 generalize hres:(some (Aa (Aq (⟨r0,r1,r2,r3,r4,r5,r6,r7,r8,r9,r10,r11,r12,r13⟩:Rul) (⟨s0,s1,s2,s3,s4,s5,s6,s7,s8,s9,s10,s11,s12,s13,s14,s15,s16,s17,s18,s19,s20,s21,s22,s23,s24,s25,s26,s27⟩:Inn) (⟨e0,e1,e2,e3,e4,e5,e6,⟨e7,e8,e9,e10,e11,e12,e13,e14,e15,e16,e17,e18⟩⟩:Ev))):Option (List PV))=RR
 have l1:=Ut (⟨r0,r1,r2,r3,r4,r5,r6,r7,r8,r9,r10,r11,r12,r13⟩:Rul) (⟨s0,s1,s2,s3,s4,s5,s6,s7,s8,s9,s10,s11,s12,s13,s14,s15,s16,s17,s18,s19,s20,s21,s22,s23,s24,s25,s26,s27⟩:Inn) (⟨e0,e1,e2,e3,e4,e5,e6,⟨e7,e8,e9,e10,e11,e12,e13,e14,e15,e16,e17,e18⟩⟩:Ev)
 have f1:=KE l1 h (by simp only;omega)
 simp only [Ok,ZG,ZE,ZH,ZT,KC,Ny,std,xOf,PXb,Xg h,gd h hN hs,hC,XB h.bt hN]
 subst hres;simp only [Aq,Zu]
 cases Ee (⟨r0,r1,r2,r3,r4,r5,r6,r7,r8,r9,r10,r11,r12,r13⟩:Rul) (⟨s0,s1,s2,s3,s4,s5,s6,s7,s8,s9,s10,s11,s12,s13,s14,s15,s16,s17,s18,s19,s20,s21,s22,s23,s24,s25,s26,s27⟩:Inn)
 ·rfl
 cases he:evS (⟨e0,e1,e2,e3,e4,e5,e6,⟨e7,e8,e9,e10,e11,e12,e13,e14,e15,e16,e17,e18⟩⟩:Ev)==0
 ·simp only [PXb,PXc,PXn,PXm,Nat.reduceAdd,Int.reduceBEq,he]
 simp only [PXb,PXc,PXn,PXm,Nat.reduceAdd,Int.reduceBEq,he]
 cases s27==0<;>try rfl
 cases h2:e0==2<;>cases h1:e0==1<;>cases hc:e0==12<;>cases hd:e0==16<;>cases Bw s14<;>try rfl
 all_goals first
  | (rw [Qg h2 (c:=1) rfl] at h1;exact absurd h1 (by decide))
  | (rw [Qg h2 (c:=12) rfl] at hc;exact absurd hc (by decide))
  | (rw [Qg h2 (c:=16) rfl] at hd;exact absurd hd (by decide))
  | (simp only [PXb,PXc,PXn,PXm,Nat.reduceAdd,Int.reduceBEq,KC,nL h hw hN hs h13 he,mb,h1,hc,hd];done)
  | skip
 all_goals (simp only [PXb,PXc,PXn,PXm,Nat.reduceAdd,Int.reduceBEq,KC,Ny,nL h hw hN hs h13 he,mb,h1,hc,hd,py f1 hN hs])
 all_goals (unfold Bq kK;cases (Bb (⟨r0,r1,r2,r3,r4,r5,r6,r7,r8,r9,r10,r11,r12,r13⟩:Rul) (⟨s0,s1,s2,s3,s4,s5,s6,s7,s8,s9,s10,s11,s12,s13,s14,s15,s16,s17,s18,s19,s20,s21,s22,s23,s24,s25,s26,s27⟩:Inn) (⟨e0,e1,e2,e3,e4,e5,e6,⟨e7,e8,e9,e10,e11,e12,e13,e14,e15,e16,e17,e18⟩⟩:Ev)).2==0<;>cases (Bb (⟨r0,r1,r2,r3,r4,r5,r6,r7,r8,r9,r10,r11,r12,r13⟩:Rul) (⟨s0,s1,s2,s3,s4,s5,s6,s7,s8,s9,s10,s11,s12,s13,s14,s15,s16,s17,s18,s19,s20,s21,s22,s23,s24,s25,s26,s27⟩:Inn) (⟨e0,e1,e2,e3,e4,e5,e6,⟨e7,e8,e9,e10,e11,e12,e13,e14,e15,e16,e17,e18⟩⟩:Ev)).1.ending==0<;>rfl)
theorem AAX (L:Rows) (c:Nat):(cut L c).length≤c:=by
 unfold cut
 rw [List.length_drop,List.length_take]
 cases h:iLt (c:Int) (L.length:Int) with
 | true=>simp only [cond_true];omega
 | false=>simp only [iLt,decide_eq_false_iff_not] at h;simp only [cond_false];omega
theorem tw {s t:Inn} (r:Rul) (b:Bool) (h:Lens s t):Lens s (Bq r t b):=⟨h.bt,h.bd,h.sb,h.bw,h.bf⟩
theorem SO (r:Rul) (s:Inn) (e:Ev):Lens s (Aq r s e).1:=by
 unfold Aq
 exact L_c _ _ _ (Lens.refl s) (L_c _ _ _ (Lens.refl s) (L_c _ _ _ (Lens.refl s) (L_c _ _ _ (Lens.refl s) (tw r _ (Ut r s e)))))
end Go.Px
end
section
namespace Go.Px
set_option maxRecDepth 100000
theorem lm {r : Rul} {s : Inn} {e : Ev} (h : ((Aq r s e).2 == 0) = true) :
    Ee r s=true∧(evS e==0)=true∧(s.ending==0)=true∧Zu s e=false∧((Bb r s e).2==0)=true∧(Aq r s e).1=Bq r (Bb r s e).1 (e.kind==4):=by
  unfold Aq at h ⊢
  cases hv:Ee r s with
  | false=>rw [hv] at h;cases h
  | true =>
    cases he:evS e==0 with
    | false=>rw [hv,he] at h;cases h
    | true =>
      cases hn:s.ending==0 with
      | false=>rw [hv,he,hn] at h;cases h
      | true =>
        cases hw:Zu s e with
        | true=>rw [hv,he,hn,hw] at h;cases h
        | false =>
          cases hp:(Bb r s e).2==0 with
          | false=>rw [hv,he,hn,hw,hp] at h;exact absurd (hp▸h) (by decide)
          | true=>exact ⟨rfl,rfl,rfl,rfl,rfl,rfl⟩
end Go.Px
end
section
namespace Go.Px
set_option maxRecDepth 100000
theorem Xy {x a b:Int}:btw x a b=true↔a≤x∧x≤b:=by simp [btw,iLe]
structure RulOk (r:Rul):Prop where
 side:2≤r.side∧r.side≤11
 innings:1≤r.innings∧r.innings≤2
 overs:0≤r.overs∧r.overs≤90
 balls:4≤r.balls∧r.balls≤8
 quota:0≤r.quota∧r.quota≤90
 wide:1≤r.wide∧r.wide≤5
 noball:1≤r.noball∧r.noball≤5
 newball:0≤r.newball∧r.newball≤200
 followon:0≤r.followon∧r.followon≤1000
 reviews:0≤r.reviews∧r.reviews≤9
 outside:0≤r.outside∧r.outside≤11
theorem Dq {r:Rul} (h:A1 r=0):RulOk r:=by
 unfold A1 EA at h
 cases hn:MH r.name with
 | false=>rw [hn] at h;cases h
 | true =>
  cases hr:Gm r.side r.innings r.overs r.balls r.quota r.wide r.noball r.newball r.followon r.reviews r.outside with
  | false=>rw [hn,hr] at h;cases h
  | true =>
   unfold Gm at hr
   simp only [Bool.and_eq_true,Xy] at hr
   obtain ⟨⟨⟨⟨⟨⟨⟨⟨⟨⟨h1,h2⟩,h3⟩,h4⟩,h5⟩,h6⟩,h7⟩,h8⟩,h9⟩,h10⟩,h11⟩:=hr
   exact ⟨h1,h2,h3,h4,h5,h6,h7,h8,h9,h10,h11⟩
def B1 (x:Int):Prop:=0≤x∧x≤1000000000
structure InnOk (r:Rul) (s:Inn):Prop where
 code:A1 r=0
 side:1≤s.side∧s.side≤2
 lb:(s.batters.length:Int)=r.side
 ld:(s.bowled.length:Int)=r.side
 lz:(s.subs.length:Int)=r.side
 ending:s.ending≤5
 st:0≤s.striker∧s.striker≤r.side
 ot:0≤s.other∧s.other≤r.side
 bat:Tv s.batters s.striker s.other s.wickets=true
 bow:0≤s.bowler∧s.bowler≤r.side
 kee:0≤s.keeper∧s.keeper≤r.side
 dw:GK s.bowlers r.side=true
 df:GK s.before r.side=true
 ov:Nq r.overs s.overs=true
 io:0≤s.inover∧s.inover≤r.balls - 1
 target:B1 s.target
 runs:B1 s.runs
 wides:B1 s.wides
 noballs:B1 s.noballs
 byes:B1 s.byes
 legbyes:B1 s.legbyes
 pens:B1 s.pens
 complete:B1 s.complete
 ballage:B1 s.ballage
 outside:B1 s.outside
 rev1:B1 s.rev1
 rev2:B1 s.rev2
 bowled:Lo DH s.bowled=false
theorem zq {x:Int}:DH x=false↔B1 x:=by
 unfold DH B1
 rw [Bool.not_eq_false',Xy]
theorem yW (a b c d e f g h i j k l:Int):Lo DH (Zk a b c d e f g h i j k l)=false↔B1 a∧B1 b∧B1 c∧B1 d∧B1 e∧B1 f∧B1 g∧B1 h∧B1 i∧B1 j∧B1 k∧B1 l:=by
 rw [Qb]
 simp only [Zk,List.any_cons,List.any_nil,Bool.or_false,nl,AAK,Bool.or_eq_false_iff,zq]
theorem kc {r:Rul} (h:RulOk r):IntKind.i64.wrap (r.balls - 1)=r.balls - 1:=by
 have:=h.balls
 exact Ct (by omega) (by omega)
theorem uJ {x:Int}:(!iLt 5 x)=true↔x≤5:=by
 rw [Bool.not_eq_true']
 simp only [iLt,decide_eq_false_iff_not]
 omega
theorem Rv {r:Rul} {s:Inn}:Ee r s=true↔InnOk r s:=by
 unfold Ee MG
 simp only [Bool.and_eq_true,Bool.not_eq_true',yW,Xy]
 constructor
 ·intro ⟨h1,h2,h3,h4,h5,h6,h7,h8,h9,h10,h11,h12,h13,h14,h15,⟨n1,n2,n3,n4,n5,n6,n7,n8,n9,n10,n11,n12⟩,h17⟩
  have hc:A1 r=0:=beq_iff_eq.1 h1
  exact ⟨hc,h2,beq_iff_eq.1 h3,beq_iff_eq.1 h4,beq_iff_eq.1 h5,uJ.1 (by rw [h6];rfl),h7,h8,h9,h10,h11,h12,h13,h14,by rw [kc (Dq hc)] at h15;exact h15,n1,n2,n3,n4,n5,n6,n7,n8,n9,n10,n11,n12,h17⟩
 ·intro h
  have h6:=uJ.2 h.ending
  rw [Bool.not_eq_true'] at h6
  exact ⟨beq_iff_eq.2 h.code,h.side,beq_iff_eq.2 h.lb,beq_iff_eq.2 h.ld,beq_iff_eq.2 h.lz,h6,h.st,h.ot,h.bat,h.bow,h.kee,h.dw,h.df,h.ov,by rw [kc (Dq h.code)];exact h.io,
   ⟨h.target,h.runs,h.wides,h.noballs,h.byes,h.legbyes,h.pens,h.complete,h.ballage,h.outside,h.rev1,h.rev2⟩,h.bowled⟩
theorem QY (n:Int):IntKind.i64.wrap n=(n+9223372036854775808) % 18446744073709551616 - 9223372036854775808:=by
 unfold IntKind.wrap
 simp only [IntKind.signed,IntKind.bits]
 simp
 split<;>omega
theorem H9 (n:Int):IntKind.i64.wrap (IntKind.i64.wrap n)=IntKind.i64.wrap n:=by
 simp only [QY];omega
theorem Nj (a b:Int):IntKind.i64.wrap (IntKind.i64.wrap (a+b) - a)=IntKind.i64.wrap b:=by
 simp only [QY];omega
theorem aE (a:Int):IntKind.i64.wrap (a - a)=0:=by rw [Int.sub_self];rfl
theorem ip (s:Inn) (d:Del):(Ab s d).runs=s.runs∧(Ab s d).wides=s.wides∧(Ab s d).noballs=s.noballs∧(Ab s d).byes=s.byes∧(Ab s d).legbyes=s.legbyes∧(Ab s d).pens=s.pens∧(Ab s d).complete=s.complete∧(Ab s d).inover=s.inover∧(Ab s d).bowler=s.bowler∧(Ab s d).bowled=s.bowled:=by
  unfold Ab
  cases (!(d.runs.tmod 2==0) != d.crossed)<;>exact P_c (P:=fun x:Inn=>x.runs=s.runs∧x.wides=s.wides∧x.noballs=s.noballs∧x.byes=s.byes∧x.legbyes=s.legbyes∧x.pens=s.pens∧x.complete=s.complete∧x.inover=s.inover∧x.bowler=s.bowler∧x.bowled=s.bowled) _ _ _ ⟨rfl,rfl,rfl,rfl,rfl,rfl,rfl,rfl,rfl,rfl⟩
    (P_c (P:=fun x:Inn=>x.runs=s.runs∧x.wides=s.wides∧x.noballs=s.noballs∧x.byes=s.byes∧x.legbyes=s.legbyes∧x.pens=s.pens∧x.complete=s.complete∧x.inover=s.inover∧x.bowler=s.bowler∧x.bowled=s.bowled) _ _ _ ⟨rfl,rfl,rfl,rfl,rfl,rfl,rfl,rfl,rfl,rfl⟩ ⟨rfl,rfl,rfl,rfl,rfl,rfl,rfl,rfl,rfl,rfl⟩)
def JY (r:Rul) (s:Inn) (d:Del):Inn :=
 let o:=Aj r (Ab s d) (AD r d).counts
 let t:Inn:=cond o.2 (Fv o.1) o.1
 { t with runs:=IntKind.i64.wrap (s.runs+DT (AD r d)),wides:=IntKind.i64.wrap (s.wides+(AD r d).wides),noballs:=IntKind.i64.wrap (s.noballs+(AD r d).noballs),byes:=IntKind.i64.wrap (s.byes+(AD r d).byes),legbyes:=IntKind.i64.wrap (s.legbyes+(AD r d).legbyes),freehit:=cond (d.type==1) false (cond (d.type==3&&r.freehit) true o.1.freehit) }
theorem uN {r:Rul} {s:Inn} {d:Del} (h:((Jr r s d).2==0)=true):(HY r s d==0)=true∧(Jr r s d).1=JY r s d:=by
 unfold Jr at h ⊢
 cases hr:HY r s d==0 with
 | false=>rw [hr] at h;exact absurd (hr▸h) (by decide)
 | true =>
  refine ⟨rfl,?_⟩
  obtain ⟨k1,k2,k3,k4,k5,_⟩:=ip s d
  simp only [Bool.not_true,cond_false,iI,k1,k2,k3,k4,k5,JY]
  generalize Aj r (Ab s d) (AD r d).counts=o
  obtain ⟨o1,o2⟩:=o
  cases o2<;>rfl
theorem nW {r:Rul} {s:Inn} {d:Del} (h:(HY r s d==0)=true):DR s.batters s.striker s.other=false∧(s.bowler==0)=false∧(KP r s==0)=true∧(DM d==0)=true∧(K3 d s.freehit==0)=true∧(KW s d==0)=true:=by
 unfold HY at h
 cases h1:DR s.batters s.striker s.other with
 | true=>rw [h1] at h;cases h
 | false =>
  cases h2:s.bowler==0 with
  | true=>rw [h1,h2] at h;cases h
  | false =>
   rw [h1,h2] at h
   change (dy _ _ _ _==0)=true at h
   unfold dy at h
   cases h3:KP r s==0 with
   | false=>rw [h3] at h;exact absurd (h3▸h) (by decide)
   | true =>
    cases h4:DM d==0 with
    | false=>rw [h3,h4] at h;exact absurd (h4▸h) (by decide)
    | true =>
     cases h5:K3 d s.freehit==0 with
     | false=>rw [h3,h4,h5] at h;exact absurd (h5▸h) (by decide)
     | true =>
      cases h6:KW s d==0 with
      | false=>rw [h3,h4,h5,h6] at h;exact absurd (h6▸h) (by decide)
      | true=>exact ⟨rfl,rfl,rfl,rfl,rfl,rfl⟩
theorem go {d:Del} {f:Bool} (h:(K3 d f==0)=true) (hd:(d.how==0)=false):(d.victim==1)=true∨(d.victim==2)=true:=by
 unfold K3 at h
 rw [hd] at h
 cases h1:d.victim==1 with
 | true=>exact .inl rfl
 | false =>
  cases h2:d.victim==2 with
  | true=>exact .inr rfl
  | false =>
   rw [h1,h2] at h
   exfalso
   revert h
   cases (!onS d.how d.type||f && !Y4 d.how)<;>cases (!Np d.how&&(!(d.source==0) || !(d.runs==0)))<;>intro h<;>cases h
theorem ri {s:Inn} {e:Ev} (h:Zu s e=false) (hk:(e.kind==2)=false):Bw s.batters=true:=by
 unfold Zu at h
 rw [hk] at h
 cases hb:Bw s.batters with
 | true=>rfl
 | false=>rw [hb] at h;simp at h
theorem ue {s : Inn} {d : Del} (h1 : (s.striker == 0) = false) (h2 : (s.other == 0) = false) (hv : (d.how == 0) = false → (d.victim == 1) = true ∨ (d.victim == 2) = true) :
    (Ab s d).wickets=cond (d.how==0) s.wickets (inc s.wickets):=by
  unfold Ab
  rw [h1,h2]
  cases hd:d.how==0 with
  | true=>cases (!(d.runs.tmod 2==0) != d.crossed)<;>rfl
  | false =>
    rcases hv hd with h | h<;>rw [h]<;>cases (!(d.runs.tmod 2==0) != d.crossed)<;>cases d.victim==1<;>rfl
theorem ud (r:Rul) (s:Inn) (b:Bool):(Aj r s b).1.wickets=s.wickets∧(Aj r s b).1.pens=s.pens:=by
 unfold Aj
 exact P_c (P:=fun x:Inn×Bool=>x.1.wickets=s.wickets∧x.1.pens=s.pens) _ _ _ ⟨rfl,rfl⟩ (P_c (P:=fun x:Inn×Bool=>x.1.wickets=s.wickets∧x.1.pens=s.pens) _ _ _ ⟨rfl,rfl⟩ ⟨rfl,rfl⟩)
theorem wF {r : Rul} {s : Inn} {b : Bool} (hr : RulOk r) (hc : A1 r = 0) (hb : inR s.bowler s.bowled.length = true) (hi : 0 ≤ s.inover ∧ s.inover ≤ r.balls - 1) (hn : B1 s.complete) :
    IntKind.i64.wrap (Ch r.balls (Aj r s b).1.complete (Aj r s b).1.inover - Ch r.balls s.complete s.inover)=cond b 1 0:=by
  have hk:∃ k:Nat,r.balls=k:=⟨r.balls.toNat,by have:=hr.balls;omega⟩
  have hz:=hr.balls
  unfold B1 at hn
  unfold Aj Ch
  rw [hb,hc]
  cases b with
  | false =>
    have h1:iLt s.inover r.balls=true:=by simp only [iLt,decide_eq_true_eq];omega
    simp only [cond_false,h1,beq_self_eq_true,Bool.not_true,Bool.or_false,cond_true]
    exact aE _
  | true =>
    have h2:inc s.inover=s.inover+1:=Ct (by omega) (by omega)
    simp only [cond_true,h2,beq_self_eq_true,Bool.not_true,Bool.or_false,cond_false]
    have h3:inc s.complete=s.complete+1:=Ct (by omega) (by omega)
    have hb5:r.balls=4∨r.balls=5∨r.balls=6∨r.balls=7∨r.balls=8:=by omega
    cases h1:iLt (s.inover+1) r.balls with
    | true =>
      simp only [cond_true]
      rcases hb5 with e | e | e | e | e<;>rw [e] at hi ⊢<;>simp only [QY]<;>omega
    | false =>
      simp only [iLt,decide_eq_false_iff_not] at h1
      simp only [cond_false,h3]
      rcases hb5 with e | e | e | e | e<;>rw [e] at hi h1 ⊢<;>simp only [QY]<;>omega
end Go.Px
end
section
namespace Go.Px
set_option maxRecDepth 100000
theorem rK {L:Rows} {s n:Int} (h:DR L s n=false) (hb:Bw L=true):(s==0)=false∧(n==0)=false:=by
 unfold DR at h
 rw [hb,Bool.true_and,Bool.or_eq_false_iff] at h
 exact h
theorem xU {r:Rul} {s:Inn} (h:InnOk r s) (hb:(s.bowler==0)=false):inR s.bowler s.bowled.length=true:=by
 have h1:=h.bow
 have h2:=h.ld
 rw [beq_eq_false_iff_ne] at hb
 simp only [inR,iLe,Bool.and_eq_true,decide_eq_true_eq]
 omega
theorem wQ {r : Rul} {s : Inn} {e : Ev} (hk : (e.kind == 4) = true) (h : ((Aq r s e).2 == 0) = true) :
    IntKind.i64.wrap ((Aq r s e).1.runs - s.runs)=DT (AD r e.ball)∧IntKind.i64.wrap ((Aq r s e).1.wides - s.wides)=(AD r e.ball).wides∧IntKind.i64.wrap ((Aq r s e).1.noballs - s.noballs)=(AD r e.ball).noballs ∧
    IntKind.i64.wrap ((Aq r s e).1.byes - s.byes)=(AD r e.ball).byes∧IntKind.i64.wrap ((Aq r s e).1.legbyes - s.legbyes)=(AD r e.ball).legbyes∧(Aq r s e).1.pens=s.pens ∧
    IntKind.i64.wrap (Ch r.balls (Aq r s e).1.complete (Aq r s e).1.inover - Ch r.balls s.complete s.inover)=cond (AD r e.ball).counts 1 0 ∧
    IntKind.i64.wrap ((Aq r s e).1.wickets - s.wickets)=cond (e.ball.how==0) 0 1∧(Aq r s e).1.fresh=true∧IntKind.i64.wrap (Aq r s e).1.runs=(Aq r s e).1.runs:=by
  obtain ⟨hv,he,hn,hw,hp,hs⟩:=lm h
  have k4:=beq_iff_eq.1 hk
  have hpb:Bb r s e=Jr r s e.ball:=by unfold Bb;rw [k4];rfl
  obtain ⟨d,hd0⟩:∃ d,d=e.ball:=⟨_,rfl⟩
  rw [← hd0] at hpb ⊢
  rw [hpb] at hp hs
  obtain ⟨hr,hb⟩:=uN hp
  obtain ⟨q1,q2,q3,q4,q5,q6⟩:=nW hr
  have ok:=Rv.1 hv
  have rk:=Dq ok.code
  have hbeg:Bw s.batters=true:=ri hw (by rw [k4];rfl)
  obtain ⟨z1,z2⟩:=rK q1 hbeg
  have hin:=xU ok q2
  have hout:=ue (d:=d) z1 z2 (fun hd=>go q5 hd)
  obtain ⟨k1,k2,k3,k4,k5,k6,k7,k8,k9,k10⟩:=ip s d
  have hbl:=wF (b:=(AD r d).counts) (s:=Ab s d) rk ok.code (by rw [k9,k10];exact hin) (by rw [k8];exact ok.io) (by rw [k7];exact ok.complete)
  rw [k7,k8] at hbl
  obtain ⟨w1,w2⟩:=ud r (Ab s d) (AD r d).counts
  rw [hs,hb]
  have hc:AD r d=TX r d:=by unfold AD;rw [q4];rfl
  have ht:IntKind.i64.wrap (DT (AD r d))=DT (AD r d):=H9 _
  have c1:IntKind.i64.wrap (AD r d).wides=(AD r d).wides:=by rw [hc];unfold TX;simp only;cases d.type==2<;>first | rfl | exact H9 _
  have c2:IntKind.i64.wrap (AD r d).noballs=(AD r d).noballs:=by
    have:=rk.noball
    rw [hc];unfold TX;simp only;cases d.type==3<;>first | rfl | exact Ct (n:=r.noball) (by omega) (by omega)
  have c3:IntKind.i64.wrap (AD r d).byes=(AD r d).byes:=by rw [hc];unfold TX;simp only;cases (!(d.type==2)&&d.source==2)<;>first | rfl | exact H9 _
  have c4:IntKind.i64.wrap (AD r d).legbyes=(AD r d).legbyes:=by rw [hc];unfold TX;simp only;cases (!(d.type==2)&&d.source==3)<;>first | rfl | exact H9 _
  refine ⟨(Nj _ _).trans ht,(Nj _ _).trans c1,(Nj _ _).trans c2,(Nj _ _).trans c3,(Nj _ _).trans c4,?_,?_,?_,hk,H9 _⟩
  · have : (Bq r (JY r s d) (e.kind == 4)).pens = (Aj r (Ab s d) (AD r d).counts).1.pens := by
      show (cond (Aj r (Ab s d) (AD r d).counts).2 (Fv (Aj r (Ab s d) (AD r d).counts).1) (Aj r (Ab s d) (AD r d).counts).1).pens=_
      cases (Aj r (Ab s d) (AD r d).counts).2<;>rfl
    rw [this,w2,k6]
  · have e1 : (Bq r (JY r s d) (e.kind == 4)).complete = (Aj r (Ab s d) (AD r d).counts).1.complete := by
      show (cond (Aj r (Ab s d) (AD r d).counts).2 (Fv (Aj r (Ab s d) (AD r d).counts).1) (Aj r (Ab s d) (AD r d).counts).1).complete=_
      cases (Aj r (Ab s d) (AD r d).counts).2<;>rfl
    have e2:(Bq r (JY r s d) (e.kind==4)).inover=(Aj r (Ab s d) (AD r d).counts).1.inover:=by
      show (cond (Aj r (Ab s d) (AD r d).counts).2 (Fv (Aj r (Ab s d) (AD r d).counts).1) (Aj r (Ab s d) (AD r d).counts).1).inover=_
      cases (Aj r (Ab s d) (AD r d).counts).2<;>rfl
    rw [e1,e2,hbl]
  · have : (Bq r (JY r s d) (e.kind == 4)).wickets = (Aj r (Ab s d) (AD r d).counts).1.wickets := by
      show (cond (Aj r (Ab s d) (AD r d).counts).2 (Fv (Aj r (Ab s d) (AD r d).counts).1) (Aj r (Ab s d) (AD r d).counts).1).wickets=_
      cases (Aj r (Ab s d) (AD r d).counts).2<;>rfl
    rw [this,w1,hout]
    unfold inc
    cases d.how==0 with
    | true=>exact aE _
    | false=>exact (Nj s.wickets 1).trans rfl
end Go.Px
end
section
namespace Go.Px
set_option maxRecDepth 100000
def zX:Inn:=⟨0,0,0,0,0,0,0,0,0,0,0,0,0,0,[],0,[],[],false,[],false,0,0,0,[],0,0,0⟩
def zb (n:Nat) (overs side t p:Int):Inn:=⟨side,t,overs,p,0,0,0,0,0,p,0,0,0,0,List.replicate n [.int 0],0,[],[],false,List.replicate n [.int 0],false,0,0,0,List.replicate n [.bool false],0,0,0⟩
def Ba (r:Rul) (side t p:Int):Inn×Int :=
 cond (!(A1 r==0)) (zX,A1 r) (cond (!btw side 1 2 || !btw t 0 1000000 || !btw p 0 1000000) (zX,2) (zb r.side.toNat r.overs side t p,0))
theorem WI {N:Nat} {r1 r2 r3 r4 r5 r6 r7 r9 r10 r11 r12:Int} {r8:Bool} {r0:ByteArray} {r13:Rows} {a:Int} {b:Int} {c:Int} (hN:2097152<N) (hs:r0.size≤1048576):GQ N [.str r0,.int r1,.int r2,.int r3,.int r4,.int r5,.int r6,.int r7,.bool r8,.int r9,.int r10,.int r11,.int r12,.rows r13,.int a,.int b,.int c]=some (Aa (Ba (⟨r0,r1,r2,r3,r4,r5,r6,r7,r8,r9,r10,r11,r12,r13⟩:Rul) a b c)):=by
 show Jl (std (Gy N) N) (xOf _)=_
 generalize hres:(some (Aa (Ba (⟨r0,r1,r2,r3,r4,r5,r6,r7,r8,r9,r10,r11,r12,r13⟩:Rul) a b c)):Option (List PV))=RR
 simp only [Jl,SD,N4,std,xOf,PXb,DW hN hs,EG]
 subst hres;simp only [Ba]
 cases hc:A1 (⟨r0,r1,r2,r3,r4,r5,r6,r7,r8,r9,r10,r11,r12,r13⟩:Rul)==0 with
 | false=>rfl
 | true =>
  have rk:=(Dq (beq_iff_eq.1 hc)).side
  obtain ⟨k,hk⟩:∃ k:Nat,r1=k:=⟨r1.toNat,by simp only at rk;omega⟩
  subst hk
  simp only at rk
  have h1:iSm (k:Int) 1=true:=Dt (by omega) (by omega)
  have h8:iSm (k:Int) 8=true:=Dt (by omega) (by omega)
  simp only [PXb,PXc,PXn,PXm,Nat.reduceAdd,Int.reduceBEq,h1,h8]
  cases btw a 1 2<;>cases btw b 0 1000000<;>cases btw c 0 1000000<;>rfl
theorem gM {N:Nat} {r1 r2 r3 r4 r5 r6 r7 r9 r10 r11 r12:Int} {r8:Bool} {r0:ByteArray} {r13:Rows} {a:Int} {b:Int} {c:Int} (hN:2097152<N) (hs:r0.size≤1048576):Rd N [.str r0,.int r1,.int r2,.int r3,.int r4,.int r5,.int r6,.int r7,.bool r8,.int r9,.int r10,.int r11,.int r12,.rows r13,.int a,.int b,.int c]=some (Aa (Ba (⟨r0,r1,r2,r3,r4,r5,r6,r7,r8,r9,r10,r11,r12,r13⟩:Rul) a b c)):=by
 show RD (std (M4 N) N) (xOf _)=_
 generalize hres:(some (Aa (Ba (⟨r0,r1,r2,r3,r4,r5,r6,r7,r8,r9,r10,r11,r12,r13⟩:Rul) a b c)):Option (List PV))=RR
 simp only [RD,Yp,eS,std,xOf,PXb,E3 hN hs,cT]
 subst hres;simp only [Ba]
 cases hc:A1 (⟨r0,r1,r2,r3,r4,r5,r6,r7,r8,r9,r10,r11,r12,r13⟩:Rul)==0 with
 | false=>rfl
 | true =>
  have rk:=(Dq (beq_iff_eq.1 hc)).side
  obtain ⟨k,hk⟩:∃ k:Nat,r1=k:=⟨r1.toNat,by simp only at rk;omega⟩
  subst hk
  simp only at rk
  simp only [PXb]
  cases btw a 1 2<;>try rfl
  cases btw b 0 1000000<;>try rfl
  cases btw c 0 1000000<;>try rfl
  simp only [PXb]
  refine AM (B3 (len:=k) (fun i=>[.int (i:Int),.int a,.int b,.int r3,.int c,.int 0,.int 0,.int 0,.int 0,.int 0,.int c,.int 0,.int 0,.int 0,.int 0,.rows (List.replicate i [.int 0]),.int 0,.rows [],.rows [],.bool false,.rows (List.replicate i [.int 0]),.bool false,.int 0,.int 0,.int 0,.rows (List.replicate i [.bool false]),.int 0,.int 0,.int 0]) (zb k r3 a b c).ls ?_ ?_ N (by omega)) rfl
  ·intro self
   simp only [PXb,PXc,PXn,PXm,Nat.reduceAdd,Int.reduceBEq,Ao]
   rfl
  ·intro i self hi
   have l1:(List.replicate i [PV.int 0]++[[PV.int 0]]).length≤1048576:=by simp;omega
   have l2:(List.replicate i [PV.bool false]++[[PV.bool false]]).length≤1048576:=by simp;omega
   simp only [PXb,PXc,PXn,PXm,Nat.reduceAdd,Int.reduceBEq,AS (show i≤1099511627776 by omega),Ah hi,J6 l1 (show 1≤4096 by omega),J6 l1 (show 8≤4096 by omega),J6 l2 (show 1≤4096 by omega)]
   rw [List.replicate_succ',List.replicate_succ']
   rfl
theorem IW (r:Rul) (side t p:Int):(Ba r side t p).1.Fit∧(Ba r side t p).1.before=[]∧(Ba r side t p).1.bowlers=[]:=by
 unfold Ba
 cases hc:A1 r==0 with
 | false=>exact ⟨⟨by show 0≤1048576;omega,by show 0≤1048576;omega,by show 0≤1048576;omega,by show 0≤1048576;omega,by show 0≤1048576;omega⟩,rfl,rfl⟩
 | true =>
  have hs:=(Dq (beq_iff_eq.1 hc)).side
  have hl:∀ x:List PV,(List.replicate r.side.toNat x).length≤1048576:=fun x=>by rw [List.length_replicate];omega
  cases (!btw side 1 2 || !btw t 0 1000000 || !btw p 0 1000000) with
  | true=>exact ⟨⟨by show 0≤1048576;omega,by show 0≤1048576;omega,by show 0≤1048576;omega,by show 0≤1048576;omega,by show 0≤1048576;omega⟩,rfl,rfl⟩
  | false=>exact ⟨⟨hl _,by show 0≤1048576;omega,by show 0≤1048576;omega,hl _,hl _⟩,rfl,rfl⟩
theorem AAI {s:Inn} (h:s.Fit):(JQ s).Fit:=⟨h.bt,h.bw,h.bf,h.bd,h.sb⟩
end Go.Px
end
section
namespace Go.Px
set_option maxRecDepth 100000
structure BatOk (L:Rows) (s n wk:Int):Prop where
 le:∀ i,i<L.length→atI L i 0≤3
 at1:∀ i,i<L.length→(atI L i 0=1↔(s=(i:Int)+1∨n=(i:Int)+1))
 here:Bw L=true→s≠0∨n≠0
 ne:s≠0→s≠n
 wk:wk=eT L
end Go.Px
end
section
namespace Go.Px
set_option maxRecDepth 100000
theorem AAS {r:Rul} {s:Inn} (h:InnOk r s):2≤r.side∧r.side≤11:=(Dq h.code).side
end Go.Px
end
section
namespace Go.Px
set_option maxRecDepth 100000
structure Small (s:Inn):Prop where
 target:s.target≤999999900
 runs:s.runs≤999999900
 wides:s.wides≤999999900
 noballs:s.noballs≤999999900
 byes:s.byes≤999999900
 legbyes:s.legbyes≤999999900
 pens:s.pens≤999999900
 complete:s.complete≤999999900
 ballage:s.ballage≤999999900
 rev1:s.rev1≤999999900
 rev2:s.rev2≤999999900
 bowled:∀ j,j<s.bowled.length→atI s.bowled j 0≤999999900
end Go.Px
end
section
namespace Go.Px
def AU (xs:List Inn):Rows:=xs.map Inn.ls
def dI:Inn:=⟨0,0,0,0,0,0,0,0,0,0,0,0,0,0,[],0,[],[],false,[],false,0,0,0,[],0,0,0⟩
def inn (xs:List Inn) (i:Nat):Inn:=xs.getD i dI
structure Mat where
 rules:Rul
 stage:Int
 first:Int
 follow:Bool
 inns:List Inn
 pen1:Int
 pen2:Int
 win:Int
 wside:Int
 margin:Int
def Mat.ls (m:Mat):List PV:=[.str m.rules.name,.int m.rules.side,.int m.rules.innings,.int m.rules.overs,.int m.rules.balls,.int m.rules.quota,.int m.rules.wide,.int m.rules.noball,.bool m.rules.freehit,.int m.rules.newball,.int m.rules.followon,.int m.rules.reviews,.int m.rules.outside,.rows m.rules.power,.int m.stage,.int m.first,.bool m.follow,.rows (AU m.inns),.int m.pen1,.int m.pen2,.int m.win,.int m.wside,.int m.margin]
def Jm (x:Mat×Int):List PV:=[.str x.1.rules.name,.int x.1.rules.side,.int x.1.rules.innings,.int x.1.rules.overs,.int x.1.rules.balls,.int x.1.rules.quota,.int x.1.rules.wide,.int x.1.rules.noball,.bool x.1.rules.freehit,.int x.1.rules.newball,.int x.1.rules.followon,.int x.1.rules.reviews,.int x.1.rules.outside,.rows x.1.rules.power,.int x.1.stage,.int x.1.first,.bool x.1.follow,.rows (AU x.1.inns),.int x.1.pen1,.int x.1.pen2,.int x.1.win,.int x.1.wside,.int x.1.margin,.int x.2]
theorem lh (xs:List Inn) (i:Nat):Ap (AU xs) i=(match xs[i]? with | some s=>s.ls | none=>[]):=by
 unfold Ap AU
 rw [List.getD_eq_getElem?_getD,List.getElem?_map]
 cases xs[i]?<;>rfl
theorem PX (xs:List Inn) (i:Nat):inn xs i=(match xs[i]? with | some s=>s | none=>dI):=by
 unfold inn
 rw [List.getD_eq_getElem?_getD]
 cases xs[i]?<;>rfl
theorem iK (xs:List Inn):(AU xs).length=xs.length:=List.length_map _
theorem PXi : (∀ xs : List Inn, (AU xs).length = xs.length) ∧ (∀ (xs : List Inn) (i : Nat), pvI (AE (AU xs) i 0) = (inn xs i).side) ∧ (∀ (xs : List Inn) (i : Nat), pvI (AE (AU xs) i 1) = (inn xs i).target) ∧ (∀ (xs : List Inn) (i : Nat), pvI (AE (AU xs) i 2) = (inn xs i).overs) ∧ (∀ (xs : List Inn) (i : Nat), pvI (AE (AU xs) i 3) = (inn xs i).runs) ∧
    (∀ (xs:List Inn) (i:Nat),pvI (AE (AU xs) i 4)=(inn xs i).wickets)∧(∀ (xs:List Inn) (i:Nat),pvI (AE (AU xs) i 5)=(inn xs i).wides)∧(∀ (xs:List Inn) (i:Nat),pvI (AE (AU xs) i 6)=(inn xs i).noballs)∧(∀ (xs:List Inn) (i:Nat),pvI (AE (AU xs) i 7)=(inn xs i).byes)∧(∀ (xs:List Inn) (i:Nat),pvI (AE (AU xs) i 8)=(inn xs i).legbyes) ∧
    (∀ (xs:List Inn) (i:Nat),pvI (AE (AU xs) i 9)=(inn xs i).pens)∧(∀ (xs:List Inn) (i:Nat),pvI (AE (AU xs) i 10)=(inn xs i).complete)∧(∀ (xs:List Inn) (i:Nat),pvI (AE (AU xs) i 11)=(inn xs i).inover)∧(∀ (xs:List Inn) (i:Nat),pvI (AE (AU xs) i 12)=(inn xs i).striker)∧(∀ (xs:List Inn) (i:Nat),pvI (AE (AU xs) i 13)=(inn xs i).other) ∧
    (∀ (xs:List Inn) (i:Nat),pvL (AE (AU xs) i 14)=(inn xs i).batters)∧(∀ (xs:List Inn) (i:Nat),pvI (AE (AU xs) i 15)=(inn xs i).bowler)∧(∀ (xs:List Inn) (i:Nat),pvL (AE (AU xs) i 16)=(inn xs i).bowlers)∧(∀ (xs:List Inn) (i:Nat),pvL (AE (AU xs) i 17)=(inn xs i).before)∧(∀ (xs:List Inn) (i:Nat),pvB (AE (AU xs) i 18)=(inn xs i).fresh) ∧
    (∀ (xs:List Inn) (i:Nat),pvL (AE (AU xs) i 19)=(inn xs i).bowled)∧(∀ (xs:List Inn) (i:Nat),pvB (AE (AU xs) i 20)=(inn xs i).freehit)∧(∀ (xs:List Inn) (i:Nat),pvI (AE (AU xs) i 21)=(inn xs i).ballage)∧(∀ (xs:List Inn) (i:Nat),pvI (AE (AU xs) i 22)=(inn xs i).keeper)∧(∀ (xs:List Inn) (i:Nat),pvI (AE (AU xs) i 23)=(inn xs i).outside) ∧
    (∀ (xs:List Inn) (i:Nat),pvL (AE (AU xs) i 24)=(inn xs i).subs)∧(∀ (xs:List Inn) (i:Nat),pvI (AE (AU xs) i 25)=(inn xs i).rev1)∧(∀ (xs:List Inn) (i:Nat),pvI (AE (AU xs) i 26)=(inn xs i).rev2)∧(∀ (xs:List Inn) (i:Nat),pvI (AE (AU xs) i 27)=(inn xs i).ending):=by
  refine ⟨iK,?_,?_,?_,?_,?_,?_,?_,?_,?_,?_,?_,?_,?_,?_,?_,?_,?_,?_,?_,?_,?_,?_,?_,?_,?_,?_,?_,?_⟩
  all_goals (intro xs i;rw [PX];unfold AE;rw [lh];cases xs[i]?<;>rfl)
theorem Mat.eta (m:Mat):Mat.mk m.rules m.stage m.first m.follow m.inns m.pen1 m.pen2 m.win m.wside m.margin=m:=rfl
theorem PXk : (∀ m : Mat, m.ls = [.str m.rules.name, .int m.rules.side, .int m.rules.innings, .int m.rules.overs, .int m.rules.balls, .int m.rules.quota, .int m.rules.wide, .int m.rules.noball, .bool m.rules.freehit, .int m.rules.newball, .int m.rules.followon, .int m.rules.reviews, .int m.rules.outside, .rows m.rules.power, .int m.stage, .int m.first, .bool m.follow, .rows (AU m.inns), .int m.pen1, .int m.pen2, .int m.win, .int m.wside, .int m.margin]) ∧
    (∀ x:Mat×Int,Jm x=[.str x.1.rules.name,.int x.1.rules.side,.int x.1.rules.innings,.int x.1.rules.overs,.int x.1.rules.balls,.int x.1.rules.quota,.int x.1.rules.wide,.int x.1.rules.noball,.bool x.1.rules.freehit,.int x.1.rules.newball,.int x.1.rules.followon,.int x.1.rules.reviews,.int x.1.rules.outside,.rows x.1.rules.power,.int x.1.stage,.int x.1.first,.bool x.1.follow,.rows (AU x.1.inns),.int x.1.pen1,.int x.1.pen2,.int x.1.win,.int x.1.wside,.int x.1.margin,.int x.2]) ∧
    (∀ m:Mat,Mat.mk m.rules m.stage m.first m.follow m.inns m.pen1 m.pen2 m.win m.wside m.margin=m):=⟨fun _=>rfl,fun _=>rfl,fun _=>rfl⟩
theorem uj:∀ (ps r pre:List PV),r.length=ps.length→BA (pre++r) pre.length ps=pre++ps
 | [],r,pre,h=>by
  have:r=[]:=List.eq_nil_of_length_eq_zero h
  subst this
  rfl
 | p::ps,[],pre,h=>by cases h
 | p::ps,a::r,pre,h=>by
  have ih:=uj ps r (pre++[p]) (by simpa using h)
  simp only [List.length_append,List.length_cons,List.length_nil,List.append_assoc,List.cons_append,List.nil_append] at ih
  unfold BA
  rw [List.set_append_right _ _ (Nat.le_refl _),Nat.sub_self]
  exact ih
theorem AAl (a s:Inn):BA a.ls 0 s.ls=s.ls:=uj s.ls a.ls [] rfl
theorem zf (a:Inn) (e:Int):BA a.ls 27 [.int e]=Inn.ls { a with ending:=e }:=by
 show a.ls.set 27 (.int e)=_
 rfl
theorem zn {xs:List Inn} {i:Nat} (h:i<xs.length) (s:Inn):(AU xs).set i (BA (Ap (AU xs) i) 0 s.ls)=AU (xs.set i s):=by
 have e:Ap (AU xs) i=(xs[i]).ls:=by rw [lh,List.getElem?_eq_getElem h]
 rw [e,AAl]
 exact List.map_set.symm
theorem zz {xs:List Inn} {i:Nat} (h:i<xs.length) (e:Int):(AU xs).set i (BA (Ap (AU xs) i) 27 [.int e])=AU (xs.set i { inn xs i with ending:=e }):=by
 have e1:Ap (AU xs) i=(inn xs i).ls:=by rw [lh,PX,List.getElem?_eq_getElem h]
 rw [e1,zf]
 exact List.map_set.symm
theorem AAM (xs:List Inn) (s:Inn):AU xs++[s.ls]=AU (xs++[s]):=by
 show List.map Inn.ls xs++List.map Inn.ls [s]=List.map Inn.ls (xs++[s])
 exact List.map_append.symm
theorem zo (xs:List Inn) (i:Nat) (s:Inn):(AU xs).set i (BA (Ap (AU xs) i) 0 s.ls)=AU (xs.set i s):=by
 by_cases h:i<xs.length
 ·exact zn h s
 ·rw [List.set_eq_of_length_le (by rw [iK];omega),List.set_eq_of_length_le (by omega)]
theorem th (xs:List Inn) (i:Nat) (e:Int):(AU xs).set i (BA (Ap (AU xs) i) 27 [.int e])=AU (xs.set i { inn xs i with ending:=e }):=by
 by_cases h:i<xs.length
 ·exact zz h e
 ·rw [List.set_eq_of_length_le (by rw [iK];omega),List.set_eq_of_length_le (by omega)]
theorem PXr : (∀ (xs : List Inn) (x0 x1 x2 x3 x4 x5 x6 x7 x8 x9 x10 x11 x12 x13 x15 x21 x22 x23 x25 x26 x27 : Int) (x18 x20 : Bool) (x14 x16 x17 x19 x24 : Rows), AU xs ++ [([.int x0, .int x1, .int x2, .int x3, .int x4, .int x5, .int x6, .int x7, .int x8, .int x9, .int x10, .int x11, .int x12, .int x13, .rows x14, .int x15, .rows x16, .rows x17, .bool x18, .rows x19, .bool x20, .int x21, .int x22, .int x23, .rows x24, .int x25, .int x26, .int x27] : List PV)] = AU (xs ++ [⟨x0, x1, x2, x3, x4, x5, x6, x7, x8, x9, x10, x11, x12, x13, x14, x15, x16, x17, x18, x19, x20, x21, x22, x23, x24, x25, x26, x27⟩])) ∧ (∀ (xs : List Inn) (i : Nat) (x0 x1 x2 x3 x4 x5 x6 x7 x8 x9 x10 x11 x12 x13 x15 x21 x22 x23 x25 x26 x27 : Int) (x18 x20 : Bool) (x14 x16 x17 x19 x24 : Rows), (AU xs).set i (BA (Ap (AU xs) i) 0 [.int x0, .int x1, .int x2, .int x3, .int x4, .int x5, .int x6, .int x7, .int x8, .int x9, .int x10, .int x11, .int x12, .int x13, .rows x14, .int x15, .rows x16, .rows x17, .bool x18, .rows x19, .bool x20, .int x21, .int x22, .int x23, .rows x24, .int x25, .int x26, .int x27]) = AU (xs.set i ⟨x0, x1, x2, x3, x4, x5, x6, x7, x8, x9, x10, x11, x12, x13, x14, x15, x16, x17, x18, x19, x20, x21, x22, x23, x24, x25, x26, x27⟩)) ∧
    (∀ (xs:List Inn) (i:Nat) (e:Int),(AU xs).set i (BA (Ap (AU xs) i) 27 [.int e])=AU (xs.set i { inn xs i with ending:=e })) :=
  ⟨fun xs x0 x1 x2 x3 x4 x5 x6 x7 x8 x9 x10 x11 x12 x13 x15 x21 x22 x23 x25 x26 x27 x18 x20 x14 x16 x17 x19 x24=>AAM xs ⟨x0,x1,x2,x3,x4,x5,x6,x7,x8,x9,x10,x11,x12,x13,x14,x15,x16,x17,x18,x19,x20,x21,x22,x23,x24,x25,x26,x27⟩,fun xs i x0 x1 x2 x3 x4 x5 x6 x7 x8 x9 x10 x11 x12 x13 x15 x21 x22 x23 x25 x26 x27 x18 x20 x14 x16 x17 x19 x24=>zo xs i ⟨x0,x1,x2,x3,x4,x5,x6,x7,x8,x9,x10,x11,x12,x13,x14,x15,x16,x17,x18,x19,x20,x21,x22,x23,x24,x25,x26,x27⟩,th⟩
end Go.Px
end
section
namespace Go.Px
set_option maxRecDepth 100000
def BC (n:Int):Int:=IntKind.i64.wrap (3 - n)
theorem Iz {N:Nat} {n:Int}  : BT N [.int n]=some [.int (BC n)]:=by
 show Mg (std (Vy N) N) (xOf _)=_
 simp only [Mg,std,xOf,PXb,PXc,PXn,PXm,Nat.reduceAdd,Int.reduceBEq,BC]
theorem Gn {N:Nat} {n:Int}  : CC N [.int n]=some [.int (BC n)]:=by
 show Q1 (std (bD N) N) (xOf _)=_
 simp only [Q1,std,xOf,PXb,PXc,PXn,PXm,Nat.reduceAdd,Int.reduceBEq,BC]
def CM (m:Mat) (i:Int):Int:=cond (cond (m.follow&&iLe 2 i) (i==2) (i.tmod 2==1)) (BC m.first) m.first
theorem Se {N:Nat} {m1 m2 m3 m4 m5 m6 m7 m9 m10 m11 m12 m14 m15 m18 m19 m20 m21 m22:Int} {m8 m16:Bool} {m0:ByteArray} {m13:Rows} {m17:List Inn} {i:Int}  : DV N [.str m0,.int m1,.int m2,.int m3,.int m4,.int m5,.int m6,.int m7,.bool m8,.int m9,.int m10,.int m11,.int m12,.rows m13,.int m14,.int m15,.bool m16,.rows (AU m17),.int m18,.int m19,.int m20,.int m21,.int m22,.int i]=some [.int (CM (⟨⟨m0,m1,m2,m3,m4,m5,m6,m7,m8,m9,m10,m11,m12,m13⟩,m14,m15,m16,m17,m18,m19,m20,m21,m22⟩:Mat) i)]:=by
 show Me (std (Oh N) N) (xOf _)=_
 generalize hres:(some [.int (CM (⟨⟨m0,m1,m2,m3,m4,m5,m6,m7,m8,m9,m10,m11,m12,m13⟩,m14,m15,m16,m17,m18,m19,m20,m21,m22⟩:Mat) i)]:Option (List PV))=RR
 simp only [Me,To,std,xOf,PXb,PXc,PXn,PXm,Nat.reduceAdd,Int.reduceBEq,Iz]
 subst hres;simp only [CM]
theorem dj {N:Nat} {m1 m2 m3 m4 m5 m6 m7 m9 m10 m11 m12 m14 m15 m18 m19 m20 m21 m22:Int} {m8 m16:Bool} {m0:ByteArray} {m13:Rows} {m17:List Inn} {i:Int} (hi:0≤i∧i≤3):FU N [.str m0,.int m1,.int m2,.int m3,.int m4,.int m5,.int m6,.int m7,.bool m8,.int m9,.int m10,.int m11,.int m12,.rows m13,.int m14,.int m15,.bool m16,.rows (AU m17),.int m18,.int m19,.int m20,.int m21,.int m22,.int i]=some [.int (CM (⟨⟨m0,m1,m2,m3,m4,m5,m6,m7,m8,m9,m10,m11,m12,m13⟩,m14,m15,m16,m17,m18,m19,m20,m21,m22⟩:Mat) i)]:=by
 show Pa (std (Ql N) N) (xOf _)=_
 generalize hres:(some [.int (CM (⟨⟨m0,m1,m2,m3,m4,m5,m6,m7,m8,m9,m10,m11,m12,m13⟩,m14,m15,m16,m17,m18,m19,m20,m21,m22⟩:Mat) i)]:Option (List PV))=RR
 simp only [Pa,XR,std,xOf,PXb,PXc,PXn,PXm,Nat.reduceAdd,Int.reduceBEq,Gn]
 subst hres;simp only [CM]
 have:i=0∨i=1∨i=2∨i=3:=by omega
 rcases this with h | h | h | h<;>subst h<;>cases m16<;>rfl
def Gp (xs:List Inn) (side:Int):Nat→Int
 | 0=>0
 | i+1=>cond ((inn xs i).side==side) (IntKind.i64.wrap (Gp xs side i+(inn xs i).runs)) (Gp xs side i)
def BB (m:Mat) (side:Int):Int:=Gp m.inns side m.inns.length
theorem SY {N:Nat} {m1 m2 m3 m4 m5 m6 m7 m9 m10 m11 m12 m14 m15 m18 m19 m20 m21 m22:Int} {m8 m16:Bool} {m0:ByteArray} {m13:Rows} {m17:List Inn} {n:Int} (hN:2097152<N) (hl:m17.length≤1048576):B7 N [.str m0,.int m1,.int m2,.int m3,.int m4,.int m5,.int m6,.int m7,.bool m8,.int m9,.int m10,.int m11,.int m12,.rows m13,.int m14,.int m15,.bool m16,.rows (AU m17),.int m18,.int m19,.int m20,.int m21,.int m22,.int n]=some [.int (BB (⟨⟨m0,m1,m2,m3,m4,m5,m6,m7,m8,m9,m10,m11,m12,m13⟩,m14,m15,m16,m17,m18,m19,m20,m21,m22⟩:Mat) n)]:=by
 show ND (std (WP N) N) (xOf _)=_
 generalize hres:(some [.int (BB (⟨⟨m0,m1,m2,m3,m4,m5,m6,m7,m8,m9,m10,m11,m12,m13⟩,m14,m15,m16,m17,m18,m19,m20,m21,m22⟩:Mat) n)]:Option (List PV))=RR
 simp only [ND,std,xOf,PXb,PXi]
 subst hres;simp only [BB]
 refine AM (B3 (len:=m17.length) (fun i=>[.int (Gp m17 n i),.int (i:Int)]) [.int (Gp m17 n m17.length)] ?_ ?_ N (by omega)) rfl
 ·intro self
  simp only [PXb,PXc,PXn,AA,Ao]
 ·intro i self hi
  simp only [PXb,PXc,AA,AS (show i≤1099511627776 by omega),Ah hi,AP hi,PXi,Gp]
  cases (inn m17 i).side==n<;>rfl
theorem Lq {N:Nat} {m1 m2 m3 m4 m5 m6 m7 m9 m10 m11 m12 m14 m15 m18 m19 m20 m21 m22:Int} {m8 m16:Bool} {m0:ByteArray} {m13:Rows} {m17:List Inn} {n:Int} (hN:2097152<N) (hl:m17.length≤1048576):Ew N [.str m0,.int m1,.int m2,.int m3,.int m4,.int m5,.int m6,.int m7,.bool m8,.int m9,.int m10,.int m11,.int m12,.rows m13,.int m14,.int m15,.bool m16,.rows (AU m17),.int m18,.int m19,.int m20,.int m21,.int m22,.int n]=some [.int (BB (⟨⟨m0,m1,m2,m3,m4,m5,m6,m7,m8,m9,m10,m11,m12,m13⟩,m14,m15,m16,m17,m18,m19,m20,m21,m22⟩:Mat) n)]:=by
 show RK (std (aZ N) N) (xOf _)=_
 generalize hres:(some [.int (BB (⟨⟨m0,m1,m2,m3,m4,m5,m6,m7,m8,m9,m10,m11,m12,m13⟩,m14,m15,m16,m17,m18,m19,m20,m21,m22⟩:Mat) n)]:Option (List PV))=RR
 simp only [RK,std,xOf,PXb,PXi]
 subst hres;simp only [BB]
 refine AM (B3 (len:=m17.length) (fun i=>[.int (Gp m17 n i),.int (i:Int)]) [.int (Gp m17 n m17.length)] ?_ ?_ N (by omega)) rfl
 ·intro self
  simp only [PXb,PXc,PXn,AA,Ao]
 ·intro i self hi
  simp only [PXb,PXc,AA,AS (show i≤1099511627776 by omega),Ah hi,AP hi,PXi,Gp]
  cases (inn m17 i).side==n<;>rfl
def FA (m:Mat) (side:Int):Int :=
 cond (iLt (IntKind.i64.wrap ((m.inns.length:Int)+1)) (IntKind.i64.wrap (2 * m.rules.innings))) 0 (IntKind.i64.wrap (IntKind.i64.wrap (BB m (BC side) - BB m side)+1))
theorem YY {N:Nat} {m1 m2 m3 m4 m5 m6 m7 m9 m10 m11 m12 m14 m15 m18 m19 m20 m21 m22:Int} {m8 m16:Bool} {m0:ByteArray} {m13:Rows} {m17:List Inn} {n:Int} (hN:2097152<N) (hl:m17.length≤1048576):HJ N [.str m0,.int m1,.int m2,.int m3,.int m4,.int m5,.int m6,.int m7,.bool m8,.int m9,.int m10,.int m11,.int m12,.rows m13,.int m14,.int m15,.bool m16,.rows (AU m17),.int m18,.int m19,.int m20,.int m21,.int m22,.int n]=some [.int (FA (⟨⟨m0,m1,m2,m3,m4,m5,m6,m7,m8,m9,m10,m11,m12,m13⟩,m14,m15,m16,m17,m18,m19,m20,m21,m22⟩:Mat) n)]:=by
 show LR (std (IZ N) N) (xOf _)=_
 generalize hres:(some [.int (FA (⟨⟨m0,m1,m2,m3,m4,m5,m6,m7,m8,m9,m10,m11,m12,m13⟩,m14,m15,m16,m17,m18,m19,m20,m21,m22⟩:Mat) n)]:Option (List PV))=RR
 simp only [LR,Sg,Sc,std,xOf,PXb,PXc,PXn,PXm,Nat.reduceAdd,Int.reduceBEq,PXi,Iz,SY hN hl]
 subst hres;simp only [FA]
def MA (stage:Int) (xs:List Inn) (i:Nat):Bool := !(((inn xs i).ending==0)==(stage==3&&((i:Int)==IntKind.i64.wrap ((xs.length:Int) - 1))))
def YU (m:Mat):Bool := !Ay (MA m.stage m.inns) m.inns.length 0&&(!(m.stage==3)||iLt 0 (m.inns.length:Int))
theorem oK {N:Nat} {m1 m2 m3 m4 m5 m6 m7 m9 m10 m11 m12 m14 m15 m18 m19 m20 m21 m22:Int} {m8 m16:Bool} {m0:ByteArray} {m13:Rows} {m17:List Inn} (hN:2097152<N) (hl:m17.length≤1048576):I1 N [.str m0,.int m1,.int m2,.int m3,.int m4,.int m5,.int m6,.int m7,.bool m8,.int m9,.int m10,.int m11,.int m12,.rows m13,.int m14,.int m15,.bool m16,.rows (AU m17),.int m18,.int m19,.int m20,.int m21,.int m22]=some [.bool (YU (⟨⟨m0,m1,m2,m3,m4,m5,m6,m7,m8,m9,m10,m11,m12,m13⟩,m14,m15,m16,m17,m18,m19,m20,m21,m22⟩:Mat))]:=by
 show Mf (std (WX N) N) (xOf _)=_
 generalize hres:(some [.bool (YU (⟨⟨m0,m1,m2,m3,m4,m5,m6,m7,m8,m9,m10,m11,m12,m13⟩,m14,m15,m16,m17,m18,m19,m20,m21,m22⟩:Mat))]:Option (List PV))=RR
 simp only [Mf,std,xOf,PXb,PXi]
 subst hres;simp only [YU]
 refine AM (Cj (len:=m17.length) (MA m14 m17) [.bool false] ?_ ?_ N (by omega)) ?_
 ·intro self
  simp only [PXb,PXc,PXn,AA,Ao]
 ·intro i self hi
  simp only [PXb,PXc,AA,AS (show i≤1099511627776 by omega),Ah hi,AP hi,PXi,MA]
 ·cases Ay (MA m14 m17) m17.length 0 with
  | true=>rfl
  | false=>simp only [PXb,PXc,PXn,PXm,Nat.reduceAdd,Int.reduceBEq]
end Go.Px
end
section
namespace Go.Px
set_option maxRecDepth 100000
def Dl (xs:List Inn):Prop:=∀ i,i<xs.length→(inn xs i).Fit
theorem bH {N:Nat} {r1 r2 r3 r4 r5 r6 r7 r9 r10 r11 r12:Int} {r8:Bool} {r0:ByteArray} {r13:Rows} (hl:r13.length≤1048576):DX N [.str r0,.int r1,.int r2,.int r3,.int r4,.int r5,.int r6,.int r7,.bool r8,.int r9,.int r10,.int r11,.int r12,.rows r13]=some [.str r0,.int r1,.int r2,.int r3,.int r4,.int r5,.int r6,.int r7,.bool r8,.int r9,.int r10,.int r11,.int r12,.rows r13]:=by
 show M0 (std (PZ N) N) (xOf _)=_
 simp only [M0,NX,std,xOf,PXb,PXc,PXn,PXm,Nat.reduceAdd,Int.reduceBEq,DQ,Bl hl (show 24≤4096 by omega)]
theorem fq {N:Nat} {r1 r2 r3 r4 r5 r6 r7 r9 r10 r11 r12:Int} {r8:Bool} {r0:ByteArray} {r13:Rows} (hl:r13.length≤1048576):E1 N [.str r0,.int r1,.int r2,.int r3,.int r4,.int r5,.int r6,.int r7,.bool r8,.int r9,.int r10,.int r11,.int r12,.rows r13]=some [.str r0,.int r1,.int r2,.int r3,.int r4,.int r5,.int r6,.int r7,.bool r8,.int r9,.int r10,.int r11,.int r12,.rows r13]:=by
 show Qz (std (ac N) N) (xOf _)=_
 simp only [Qz,std,xOf,PXb,PXc,PXn,PXm,Nat.reduceAdd,Int.reduceBEq,J6 hl (show 24≤4096 by omega)]
theorem aD {xs:List Inn} {i:Nat} (h:i<xs.length):xs.take i++[inn xs i]=xs.take (i+1):=by
 rw [List.take_add_one,PX,List.getElem?_eq_getElem h]
 rfl
theorem oE {N:Nat} {m1 m2 m3 m4 m5 m6 m7 m9 m10 m11 m12 m14 m15 m18 m19 m20 m21 m22:Int} {m8 m16:Bool} {m0:ByteArray} {m13:Rows} {m17:List Inn} (hf:Dl m17) (hN:2097152<N) (hl:m17.length≤1000000) (h13:m13.length≤1048576):I3 N [.str m0,.int m1,.int m2,.int m3,.int m4,.int m5,.int m6,.int m7,.bool m8,.int m9,.int m10,.int m11,.int m12,.rows m13,.int m14,.int m15,.bool m16,.rows (AU m17),.int m18,.int m19,.int m20,.int m21,.int m22]=some [.str m0,.int m1,.int m2,.int m3,.int m4,.int m5,.int m6,.int m7,.bool m8,.int m9,.int m10,.int m11,.int m12,.rows m13,.int m14,.int m15,.bool m16,.rows (AU m17),.int m18,.int m19,.int m20,.int m21,.int m22]:=by
 show M3 (std (Jc N) N) (xOf _)=_
 simp only [M3,Tq,IA,std,xOf,PXb,bH h13,PXi]
 refine AM (B3 (len:=m17.length) (fun i=>[.rows (AU (m17.take i)),.int (i:Int)]) [.rows (AU m17)] ?_ ?_ N (by omega)) rfl
 ·intro self
  simp only [PXb,PXc,PXn,AA,Ao,List.take_length]
 ·intro i self hi
  have h2:(m17.take (i+1)).length≤1048576:=by rw [List.length_take];omega
  have h3:iSm ((m17.take (i+1)).length:Int) 304=true:=Dt (by omega) (by omega)
  simp only [PXb,PXc,AA,AS (show i≤1099511627776 by omega),Ah hi,AP hi,PXi,IA,CO (hf i hi),PXr,Inn.eta,h3,aD hi,Nat.reduceAdd]
  rfl
theorem gk {N:Nat} {m1 m2 m3 m4 m5 m6 m7 m9 m10 m11 m12 m14 m15 m18 m19 m20 m21 m22:Int} {m8 m16:Bool} {m0:ByteArray} {m13:Rows} {m17:List Inn} (hf:Dl m17) (hN:2097152<N) (hl:m17.length≤1000000) (h13:m13.length≤1048576):RV N [.str m0,.int m1,.int m2,.int m3,.int m4,.int m5,.int m6,.int m7,.bool m8,.int m9,.int m10,.int m11,.int m12,.rows m13,.int m14,.int m15,.bool m16,.rows (AU m17),.int m18,.int m19,.int m20,.int m21,.int m22]=some [.str m0,.int m1,.int m2,.int m3,.int m4,.int m5,.int m6,.int m7,.bool m8,.int m9,.int m10,.int m11,.int m12,.rows m13,.int m14,.int m15,.bool m16,.rows (AU m17),.int m18,.int m19,.int m20,.int m21,.int m22]:=by
 show RI (std (Mw N) N) (xOf _)=_
 simp only [RI,YW,Nf,std,xOf,PXb,fq h13,PXi]
 refine AM (B3 (len:=m17.length) (fun i=>[.rows (AU (m17.take i)),.int (i:Int)]) [.rows (AU m17)] ?_ ?_ N (by omega)) rfl
 ·intro self
  simp only [PXb,PXc,PXn,AA,Ao,List.take_length]
 ·intro i self hi
  have h2:(m17.take (i+1)).length≤1048576:=by rw [List.length_take];omega
  have h3:iSm ((m17.take (i+1)).length:Int) 304=true:=Dt (by omega) (by omega)
  simp only [PXb,PXc,AA,AS (show i≤1099511627776 by omega),Ah hi,AP hi,PXi,Nf,Xg (hf i hi),PXr,Inn.eta,h3,aD hi,Nat.reduceAdd]
  rfl
def ABN:Rul:=⟨⟨#[]⟩,0,0,0,0,0,0,0,false,0,0,0,0,[]⟩
def zO:Mat:=⟨ABN,0,0,false,[],0,0,0,0,0⟩
def Cd (r:Rul):Mat×Int:=cond (!(A1 r==0)) (zO,A1 r) (⟨r,1,0,false,[],0,0,0,0,0⟩,0)
theorem tx {N:Nat} {r1 r2 r3 r4 r5 r6 r7 r9 r10 r11 r12:Int} {r8:Bool} {r0:ByteArray} {r13:Rows} (hN:2097152<N) (hs:r0.size≤1048576) (h13:r13.length≤1048576):Q4 N [.str r0,.int r1,.int r2,.int r3,.int r4,.int r5,.int r6,.int r7,.bool r8,.int r9,.int r10,.int r11,.int r12,.rows r13]=some (Jm (Cd (⟨r0,r1,r2,r3,r4,r5,r6,r7,r8,r9,r10,r11,r12,r13⟩:Rul))):=by
 show RS (std (MT N) N) (xOf _)=_
 generalize hres:(some (Jm (Cd (⟨r0,r1,r2,r3,r4,r5,r6,r7,r8,r9,r10,r11,r12,r13⟩:Rul))):Option (List PV))=RR
 simp only [RS,VU,Vf,std,xOf,PXb,PXc,PXn,PXm,Nat.reduceAdd,Int.reduceBEq,DW hN hs,bH h13]
 subst hres;simp only [Cd]
 cases A1 (⟨r0,r1,r2,r3,r4,r5,r6,r7,r8,r9,r10,r11,r12,r13⟩:Rul)==0<;>rfl
theorem xp {N:Nat} {r1 r2 r3 r4 r5 r6 r7 r9 r10 r11 r12:Int} {r8:Bool} {r0:ByteArray} {r13:Rows} (hN:2097152<N) (hs:r0.size≤1048576) (h13:r13.length≤1048576):Vx N [.str r0,.int r1,.int r2,.int r3,.int r4,.int r5,.int r6,.int r7,.bool r8,.int r9,.int r10,.int r11,.int r12,.rows r13]=some (Jm (Cd (⟨r0,r1,r2,r3,r4,r5,r6,r7,r8,r9,r10,r11,r12,r13⟩:Rul))):=by
 show V9 (std (Rf N) N) (xOf _)=_
 generalize hres:(some (Jm (Cd (⟨r0,r1,r2,r3,r4,r5,r6,r7,r8,r9,r10,r11,r12,r13⟩:Rul))):Option (List PV))=RR
 simp only [V9,bn,bX,std,xOf,PXb,PXc,PXn,PXm,Nat.reduceAdd,Int.reduceBEq,E3 hN hs,fq h13]
 subst hres;simp only [Cd]
 cases A1 (⟨r0,r1,r2,r3,r4,r5,r6,r7,r8,r9,r10,r11,r12,r13⟩:Rul)==0<;>rfl
def YS (m:Mat):Bool:=(iLt m.pen1 0||iLt 1000000 m.pen1)||(iLt m.pen2 0||iLt 1000000 m.pen2)
def KM (m:Mat) (i:Nat):Bool := !Ee m.rules (inn m.inns i) || !((inn m.inns i).side==CM m (i:Int))
def kF (m:Mat):Bool :=
  let n:Int:=m.inns.length
  let most:=IntKind.i64.wrap (2 * m.rules.innings)
  A1 m.rules==0&&(!(iLt m.stage 1)&&(!(iLt 5 m.stage)&&(!YS m&&(!(iLt m.first 0||iLt 2 m.first||iLt most n)&&(!(m.first==0&&(iLt 0 n||(!(m.stage==1) && !(m.stage==5)))) &&
    (!(m.stage==1 && !(m.first==0))&&(!(m.stage==2&&n==most)&&(!(m.stage==4&&(!(m.rules.innings==2) || !(n==2))) && !(m.follow&&(!(m.rules.innings==2)||iLt n 2))))))))))
def CQ (m:Mat):Bool:=kF m&&(!Ay (KM m) m.inns.length 0&&YU m)
set_option maxHeartbeats 4000000 in
theorem ai {N:Nat} {m1 m2 m3 m4 m5 m6 m7 m9 m10 m11 m12 m14 m15 m18 m19 m20 m21 m22:Int} {m8 m16:Bool} {m0:ByteArray} {m13:Rows} {m17:List Inn} (hf:Dl m17) (hN:2097152<N) (hl:m17.length≤1000000) (hs:m0.size≤1048576):DZ N [.str m0,.int m1,.int m2,.int m3,.int m4,.int m5,.int m6,.int m7,.bool m8,.int m9,.int m10,.int m11,.int m12,.rows m13,.int m14,.int m15,.bool m16,.rows (AU m17),.int m18,.int m19,.int m20,.int m21,.int m22]=some [.bool (CQ (⟨⟨m0,m1,m2,m3,m4,m5,m6,m7,m8,m9,m10,m11,m12,m13⟩,m14,m15,m16,m17,m18,m19,m20,m21,m22⟩:Mat))]:=by
 show MZ (std (EK N) N) (xOf _)=_
 generalize hres:(some [.bool (CQ (⟨⟨m0,m1,m2,m3,m4,m5,m6,m7,m8,m9,m10,m11,m12,m13⟩,m14,m15,m16,m17,m18,m19,m20,m21,m22⟩:Mat))]:Option (List PV))=RR
 simp only [MZ,Tp,H5,Jj,Js,std,xOf,PXb,DW hN hs,PXi]
 subst hres;simp only [CQ,kF]
 cases hc:A1 (⟨⟨m0,m1,m2,m3,m4,m5,m6,m7,m8,m9,m10,m11,m12,m13⟩,m14,m15,m16,m17,m18,m19,m20,m21,m22⟩:Mat).rules==0<;>(try rfl)
 cases h1:iLt m14 1<;>(try rfl)
 cases h5:iLt 5 m14<;>(try rfl)
 simp only [PXb]
 refine AM (Cj (len:=2) (fun i=>iLt (cond ((i:Int)==1) m19 m18) 0||iLt 1000000 (cond ((i:Int)==1) m19 m18)) [.bool false] ?_ ?_ N (by omega)) ?_
 ·intro self
  rfl
 ·intro i self hi
  simp only [PXb,AS (show i≤1099511627776 by omega),show iLt (i:Int) 2=true from Ah (len:=2) hi,show iIn (i:Int) 2=true from AP (len:=2) hi]
 ·have hp:Ay (fun i=>iLt (cond ((i:Int)==1) m19 m18) 0||iLt 1000000 (cond ((i:Int)==1) m19 m18)) 2 0=YS (⟨⟨m0,m1,m2,m3,m4,m5,m6,m7,m8,m9,m10,m11,m12,m13⟩,m14,m15,m16,m17,m18,m19,m20,m21,m22⟩:Mat):=by
   simp only [BW,H6,Bool.or_false]
   rfl
  rw [hp]
  cases YS (⟨⟨m0,m1,m2,m3,m4,m5,m6,m7,m8,m9,m10,m11,m12,m13⟩,m14,m15,m16,m17,m18,m19,m20,m21,m22⟩:Mat)
  case true=>rfl
  simp only [PXb,Cf,Int.reduceBEq]
  cases iLt m15 0<;>try rfl
  cases iLt 2 m15<;>try rfl
  cases iLt (IntKind.i64.wrap (2 * m2)) (m17.length:Int)<;>try rfl
  cases (m15==0&&(iLt 0 (m17.length:Int)||(!(m14==1) && !(m14==5))))<;>try rfl
  cases (m14==1 && !(m15==0))<;>try rfl
  cases (m14==2&&(m17.length:Int)==IntKind.i64.wrap (2 * m2))<;>try rfl
  cases (m14==4&&(!(m2==2) || !((m17.length:Int)==2)))<;>try rfl
  cases (m16&&(!(m2==2)||iLt (m17.length:Int) 2))<;>try rfl
  simp only [PXb]
  refine AM (Cj (len:=m17.length) (KM (⟨⟨m0,m1,m2,m3,m4,m5,m6,m7,m8,m9,m10,m11,m12,m13⟩,m14,m15,m16,m17,m18,m19,m20,m21,m22⟩:Mat)) [.bool false] ?_ ?_ N (by omega)) ?_
  ·intro self
   simp only [PXb,PXc,PXn,AA,Ao]
  ·intro i self hi
   simp only [PXb,PXc,PXn,PXm,Nat.reduceAdd,Int.reduceBEq,AS (show i≤1099511627776 by omega),Ah hi,AP hi,PXi,H5,Jj,Wi (hf i hi) hN hs,Se,KM]
   cases Ee (⟨⟨m0,m1,m2,m3,m4,m5,m6,m7,m8,m9,m10,m11,m12,m13⟩,m14,m15,m16,m17,m18,m19,m20,m21,m22⟩:Mat).rules (inn m17 i)<;>first | rfl | simp only [PXb,PXc,PXn,PXm,Nat.reduceAdd,Int.reduceBEq]
  ·cases Ay (KM (⟨⟨m0,m1,m2,m3,m4,m5,m6,m7,m8,m9,m10,m11,m12,m13⟩,m14,m15,m16,m17,m18,m19,m20,m21,m22⟩:Mat)) m17.length 0
   case true=>rfl
   simp only [PXb,PXc,PXn,PXm,Nat.reduceAdd,Int.reduceBEq,Js,oK hN (show m17.length≤1048576 by omega)]
theorem uQ (f g:Nat→Bool):∀ k i,Ay (fun j=>f j||g j) k i=(Ay f k i||Ay g k i)
 | 0,i=>rfl
 | k+1,i=>by
  rw [BW,BW,BW,uQ f g k (i+1)]
  cases f i<;>cases g i<;>cases Ay f k (i+1)<;>cases Ay g k (i+1)<;>rfl
theorem kA {N:Nat} {m1 m2 m3 m4 m5 m6 m7 m9 m10 m11 m12 m14 m15 m18 m19 m20 m21 m22:Int} {m8 m16:Bool} {m0:ByteArray} {m13:Rows} {m17:List Inn} (hf:Dl m17) (hN:2097152<N) (hl:m17.length≤4) (hs:m0.size≤1048576):GO N [.str m0,.int m1,.int m2,.int m3,.int m4,.int m5,.int m6,.int m7,.bool m8,.int m9,.int m10,.int m11,.int m12,.rows m13,.int m14,.int m15,.bool m16,.rows (AU m17),.int m18,.int m19,.int m20,.int m21,.int m22]=some [.bool (!Ay (KM (⟨⟨m0,m1,m2,m3,m4,m5,m6,m7,m8,m9,m10,m11,m12,m13⟩,m14,m15,m16,m17,m18,m19,m20,m21,m22⟩:Mat)) m17.length 0 && !Ay (MA m14 m17) m17.length 0)]:=by
 show Jq (std (Gx N) N) (xOf _)=_
 generalize hres:(some [.bool (!Ay (KM (⟨⟨m0,m1,m2,m3,m4,m5,m6,m7,m8,m9,m10,m11,m12,m13⟩,m14,m15,m16,m17,m18,m19,m20,m21,m22⟩:Mat)) m17.length 0 && !Ay (MA m14 m17) m17.length 0)]:Option (List PV))=RR
 simp only [Jq,J2,Iv,std,xOf,PXb,PXi]
 subst hres
 rw [← Bool.not_or,← uQ]
 refine AM (Cj (len:=m17.length) (fun j=>KM (⟨⟨m0,m1,m2,m3,m4,m5,m6,m7,m8,m9,m10,m11,m12,m13⟩,m14,m15,m16,m17,m18,m19,m20,m21,m22⟩:Mat) j||MA m14 m17 j) [.bool false] ?_ ?_ N (by omega)) ?_
 ·intro self
  simp only [PXb,PXc,PXn,AA,Ao]
 ·intro i self hi
  have hi3:0≤(i:Int)∧(i:Int)≤3:=by omega
  simp only [PXb,PXc,PXn,PXm,Nat.reduceAdd,Int.reduceBEq,AS (show i≤1099511627776 by omega),Ah hi,AP hi,PXi,J2,Iv,gd (hf i hi) hN hs,dj hi3,KM,MA]
  cases Ee (⟨⟨m0,m1,m2,m3,m4,m5,m6,m7,m8,m9,m10,m11,m12,m13⟩,m14,m15,m16,m17,m18,m19,m20,m21,m22⟩:Mat).rules (inn m17 i)<;>rfl
 ·cases Ay (fun j=>KM (⟨⟨m0,m1,m2,m3,m4,m5,m6,m7,m8,m9,m10,m11,m12,m13⟩,m14,m15,m16,m17,m18,m19,m20,m21,m22⟩:Mat) j||MA m14 m17 j) m17.length 0<;>rfl
set_option maxHeartbeats 4000000 in
theorem Wq {N:Nat} {m1 m2 m3 m4 m5 m6 m7 m9 m10 m11 m12 m14 m15 m18 m19 m20 m21 m22:Int} {m8 m16:Bool} {m0:ByteArray} {m13:Rows} {m17:List Inn} (hf:Dl m17) (hN:2097152<N) (hl:m17.length≤1000000) (hs:m0.size≤1048576):Eu N [.str m0,.int m1,.int m2,.int m3,.int m4,.int m5,.int m6,.int m7,.bool m8,.int m9,.int m10,.int m11,.int m12,.rows m13,.int m14,.int m15,.bool m16,.rows (AU m17),.int m18,.int m19,.int m20,.int m21,.int m22]=some [.bool (CQ (⟨⟨m0,m1,m2,m3,m4,m5,m6,m7,m8,m9,m10,m11,m12,m13⟩,m14,m15,m16,m17,m18,m19,m20,m21,m22⟩:Mat))]:=by
 show RO (std (Mm N) N) (xOf _)=_
 generalize hres:(some [.bool (CQ (⟨⟨m0,m1,m2,m3,m4,m5,m6,m7,m8,m9,m10,m11,m12,m13⟩,m14,m15,m16,m17,m18,m19,m20,m21,m22⟩:Mat))]:Option (List PV))=RR
 simp only [RO,Xs,Jw,std,xOf,PXb,E3 hN hs,PXi]
 subst hres;simp only [CQ,kF]
 cases hc:A1 (⟨⟨m0,m1,m2,m3,m4,m5,m6,m7,m8,m9,m10,m11,m12,m13⟩,m14,m15,m16,m17,m18,m19,m20,m21,m22⟩:Mat).rules==0
 case false=>simp only [PXb,PXc,PXn,PXm,Nat.reduceAdd,Int.reduceBEq]
 have rk:=(Dq (beq_iff_eq.1 hc)).innings
 simp only at rk
 have e2:IntKind.i64.wrap (2 * m2)=2 * m2:=Ct (by omega) (by omega)
 have e4:(2 * m2==4)=(m2==2):=by rw [Bool.eq_iff_iff,beq_iff_eq,beq_iff_eq];omega
 simp only [e2,e4]
 cases h1:iLt m14 1
 case true=>simp only [PXb,PXc,PXn,PXm,Nat.reduceAdd,Int.reduceBEq]
 cases h5:iLt 5 m14
 case true=>simp only [PXb,PXc,PXn,PXm,Nat.reduceAdd,Int.reduceBEq]
 cases hm:iLt (2 * m2) (m17.length:Int)
 case true=>simp only [PXb,PXc,PXn,PXm,Nat.reduceAdd,Int.reduceBEq]
 have h4:m17.length≤4:=by
  simp only [iLt,decide_eq_false_iff_not] at hm
  omega
 simp only [PXb]
 refine AM (Cj (len:=2) (fun i=>iLt (cond ((i:Int)==1) m19 m18) 0||iLt 1000000 (cond ((i:Int)==1) m19 m18)) [.bool false] ?_ ?_ N (by omega)) ?_
 ·intro self
  rfl
 ·intro i self hi
  simp only [PXb,AS (show i≤1099511627776 by omega),show iLt (i:Int) 2=true from Ah (len:=2) hi,show iIn (i:Int) 2=true from AP (len:=2) hi]
 ·have hp:Ay (fun i=>iLt (cond ((i:Int)==1) m19 m18) 0||iLt 1000000 (cond ((i:Int)==1) m19 m18)) 2 0=YS (⟨⟨m0,m1,m2,m3,m4,m5,m6,m7,m8,m9,m10,m11,m12,m13⟩,m14,m15,m16,m17,m18,m19,m20,m21,m22⟩:Mat):=by
   simp only [BW,H6,Bool.or_false]
   rfl
  rw [hp]
  cases YS (⟨⟨m0,m1,m2,m3,m4,m5,m6,m7,m8,m9,m10,m11,m12,m13⟩,m14,m15,m16,m17,m18,m19,m20,m21,m22⟩:Mat)
  case true=>rfl
  simp only [PXb,Cf,Int.reduceBEq,Jw,kA hf hN h4 hs,YU,lr (show (0:Int)≤(m17.length:Int) by omega)]
  generalize Ay (KM (⟨⟨m0,m1,m2,m3,m4,m5,m6,m7,m8,m9,m10,m11,m12,m13⟩,m14,m15,m16,m17,m18,m19,m20,m21,m22⟩:Mat)) m17.length 0=q1
  generalize Ay (MA m14 m17) m17.length 0=q2
  generalize (m15==0&&(!((m17.length:Int)==0)||(!(m14==1) && !(m14==5))))=q3
  generalize (m14==1 && !(m15==0))=q4
  generalize (m14==2&&(m17.length:Int)==2 * m2)=q5
  cases iLt m15 0<;>cases iLt 2 m15<;>cases q3<;>cases q4<;>cases q5<;>try (simp only [PXb,PXc,PXn,PXm,Nat.reduceAdd,Int.reduceBEq];done)
  cases m14==3<;>cases (m17.length:Int)==0<;>cases m14==4<;>cases m2==2<;>cases (m17.length:Int)==2<;>cases m16<;>cases iLt (m17.length:Int) 2<;>cases q1<;>cases q2<;>rfl
end Go.Px
end
