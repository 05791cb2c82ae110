/- Part 13. -/
import Derived.Test.YtefmhiojnbekpaaGreatDoorPart12
import Derived.Test.YtefmhiojnbekpaaGreatDoorPart08
set_option linter.unusedVariables false
set_option linter.unusedSimpArgs false
variable {r1 r2 r3 r4 r5 r6 r7 r9 r10 r11 r12:Int}
variable {m1 m2 m3 m4 m5 m6 m7 m9 m10 m11 m12 m14 m15 m18 m19 m20 m21 m22:Int}
section
namespace Go.Px
set_option maxRecDepth 100000
set_option maxHeartbeats 4000000 in
theorem cu {N:Nat} {r8:Bool} {r0:ByteArray} {r13:Rows} {s0 s1 s2 s3 s4 s5 s6 s7 s8 s9 s10 s11 s12 s13 s15 s21 s22 s23 s25 s26 s27:Int} {s18 s20:Bool} {s14 s16 s17 s19 s24:Rows} {e0 e1 e2 e3 e5 e6 e7 e8 e9 e10 e11 e13 e14 e15 e16 e18:Int} {e4 e12 e17:Bool} (h:Fit s14 s16 s17 s19 s24) (hw:s17.length+s16.length≤1000000) (hN:2097152<N) (hs:r0.size≤1048576) (h13:r13.length≤1048576):I4 N [.str r0,.int r1,.int r2,.int r3,.int r4,.int r5,.int r6,.int r7,.bool r8,.int r9,.int r10,.int r11,.int r12,.rows r13,.int s0,.int s1,.int s2,.int s3,.int s4,.int s5,.int s6,.int s7,.int s8,.int s9,.int s10,.int s11,.int s12,.int s13,.rows s14,.int s15,.rows s16,.rows s17,.bool s18,.rows s19,.bool s20,.int s21,.int s22,.int s23,.rows s24,.int s25,.int s26,.int s27,.int e0,.int e1,.int e2,.int e3,.bool e4,.int e5,.int e6,.int e7,.int e8,.int e9,.int e10,.int e11,.bool e12,.int e13,.int e14,.int e15,.int e16,.bool e17,.int e18]=some (Ag (Ay (⟨r0,r1,r2,r3,r4,r5,r6,r7,r8,r9,r10,r11,r12,r13⟩:Rul) (⟨s0,s1,s2,s3,s4,s5,s6,s7,s8,s9,s10,s11,s12,s13,s14,s15,s16,s17,s18,s19,s20,s21,s22,s23,s24,s25,s26,s27⟩:Inn) (⟨e0,e1,e2,e3,e4,e5,e6,⟨e7,e8,e9,e10,e11,e12,e13,e14,e15,e16,e17,e18⟩⟩:Ev))):=by
 show Oy (std (Ck N) N) (xOf _)=_;generalize hres:(some (Ag (Ay (⟨r0,r1,r2,r3,r4,r5,r6,r7,r8,r9,r10,r11,r12,r13⟩:Rul) (⟨s0,s1,s2,s3,s4,s5,s6,s7,s8,s9,s10,s11,s12,s13,s14,s15,s16,s17,s18,s19,s20,s21,s22,s23,s24,s25,s26,s27⟩:Inn) (⟨e0,e1,e2,e3,e4,e5,e6,⟨e7,e8,e9,e10,e11,e12,e13,e14,e15,e16,e17,e18⟩⟩:Ev))):Option (List PV))=RR;have l1:=V5 (⟨r0,r1,r2,r3,r4,r5,r6,r7,r8,r9,r10,r11,r12,r13⟩:Rul) (⟨s0,s1,s2,s3,s4,s5,s6,s7,s8,s9,s10,s11,s12,s13,s14,s15,s16,s17,s18,s19,s20,s21,s22,s23,s24,s25,s26,s27⟩:Inn) (⟨e0,e1,e2,e3,e4,e5,e6,⟨e7,e8,e9,e10,e11,e12,e13,e14,e15,e16,e17,e18⟩⟩:Ev);have f1:=Ky l1 h (by simp only;omega);simp only [Oy,bC,cc,bN,bO,LA,OE,lq9,std,xOf,PXb,Yg h,lS h hN hs,lV,YA h.bt hN];subst hres;simp only [Ay,dN];cases E2 (⟨r0,r1,r2,r3,r4,r5,r6,r7,r8,r9,r10,r11,r12,r13⟩:Rul) (⟨s0,s1,s2,s3,s4,s5,s6,s7,s8,s9,s10,s11,s12,s13,s14,s15,s16,s17,s18,s19,s20,s21,s22,s23,s24,s25,s26,s27⟩:Inn)
 ·rfl
 cases he:evS (⟨e0,e1,e2,e3,e4,e5,e6,⟨e7,e8,e9,e10,e11,e12,e13,e14,e15,e16,e17,e18⟩⟩:Ev)==0
 ·simp only [PXb,PXc,PXn,PXm,Nat.reduceAdd,Int.reduceBEq,he]
 simp only [PXb,PXc,PXn,PXm,Nat.reduceAdd,Int.reduceBEq,he];cases s27==0<;>try rfl
 cases h2:e0==2<;>cases h1:e0==1<;>cases hc:e0==12<;>cases hd:e0==16<;>cases B2 s14<;>try rfl
 all_goals first
  | (rw [RK h2 (c:=1) rfl] at h1;exact absurd h1 (by decide))
  | (rw [RK h2 (c:=12) rfl] at hc;exact absurd hc (by decide))
  | (rw [RK h2 (c:=16) rfl] at hd;exact absurd hd (by decide))
  | (simp only [PXb,PXc,PXn,PXm,Nat.reduceAdd,Int.reduceBEq,LA,su h hw hN hs h13 he,rQ,h1,hc,hd];done)
  | skip
 all_goals (simp only [PXb,PXc,PXn,PXm,Nat.reduceAdd,Int.reduceBEq,LA,OE,su h hw hN hs h13 he,rQ,h1,hc,hd,xY f1 hN hs])
 all_goals (unfold Bw oy;cases (BQ (⟨r0,r1,r2,r3,r4,r5,r6,r7,r8,r9,r10,r11,r12,r13⟩:Rul) (⟨s0,s1,s2,s3,s4,s5,s6,s7,s8,s9,s10,s11,s12,s13,s14,s15,s16,s17,s18,s19,s20,s21,s22,s23,s24,s25,s26,s27⟩:Inn) (⟨e0,e1,e2,e3,e4,e5,e6,⟨e7,e8,e9,e10,e11,e12,e13,e14,e15,e16,e17,e18⟩⟩:Ev)).2==0<;>cases (BQ (⟨r0,r1,r2,r3,r4,r5,r6,r7,r8,r9,r10,r11,r12,r13⟩:Rul) (⟨s0,s1,s2,s3,s4,s5,s6,s7,s8,s9,s10,s11,s12,s13,s14,s15,s16,s17,s18,s19,s20,s21,s22,s23,s24,s25,s26,s27⟩:Inn) (⟨e0,e1,e2,e3,e4,e5,e6,⟨e7,e8,e9,e10,e11,e12,e13,e14,e15,e16,e17,e18⟩⟩:Ev)).1.ending==0<;>rfl)
theorem ADH (L:Rows) (c:Nat):(cut L c).length≤c:=by
 unfold cut;rw [List.length_drop,List.length_take];cases h:iLt (c:Int) (L.length:Int) with
 | true=>simp only [cond_true];omega
 | false=>simp only [iLt,decide_eq_false_iff_not] at h;simp only [cond_false];omega
theorem zf {s t:Inn} (r:Rul) (b:Bool) (h:Lens s t):Lens s (Bw r t b):=⟨h.bt,h.bd,h.sb,h.bw,h.bf⟩
theorem SV (r:Rul) (s:Inn) (e:Ev):Lens s (Ay r s e).1:=by
 unfold Ay;exact L_c _ _ _ (Lens.refl s) (L_c _ _ _ (Lens.refl s) (L_c _ _ _ (Lens.refl s) (L_c _ _ _ (Lens.refl s) (zf r _ (V5 r s e)))))
theorem ji {r : Rul} {s : Inn} {e : Ev} (h : ((Ay r s e).2 == 0) = true) :
    E2 r s=true∧(evS e==0)=true∧(s.ending==0)=true∧dN s e=false∧((BQ r s e).2==0)=true∧(Ay r s e).1=Bw r (BQ r s e).1 (e.kind==4):=by
  unfold Ay at h ⊢;cases hv:E2 r s with
  | false=>rw [hv] at h;cases h
  | true =>
    cases he:evS e==0 with
    | false=>rw [hv,he] at h;cases h
    | true =>
      cases hn:s.ending==0 with
      | false=>rw [hv,he,hn] at h;cases h
      | true =>
        cases hw:dN s e with
        | true=>rw [hv,he,hn,hw] at h;cases h
        | false =>
          cases hp:(BQ r s e).2==0 with
          | false=>rw [hv,he,hn,hw,hp] at h;exact absurd (hp▸h) (by decide)
          | true=>exact ⟨rfl,rfl,rfl,rfl,rfl,rfl⟩
theorem aS {x a b:Int}:btw x a b=true↔a≤x∧x≤b:=by simp [btw,iLe]
structure RulOk (r:Rul):Prop where
 side:2≤r.side∧r.side≤11
 innings:1≤r.innings∧r.innings≤2
 overs:0≤r.overs∧r.overs≤90
 balls:4≤r.balls∧r.balls≤8
 quota:0≤r.quota∧r.quota≤90
 wide:1≤r.wide∧r.wide≤5
 noball:1≤r.noball∧r.noball≤5
 newball:0≤r.newball∧r.newball≤200
 followon:0≤r.followon∧r.followon≤1000
 reviews:0≤r.reviews∧r.reviews≤9
 outside:0≤r.outside∧r.outside≤11
theorem D8 {r:Rul} (h:A5 r=0):RulOk r:=by
 unfold A5 EW at h;cases hn:Mp r.name with
 | false=>rw [hn] at h;cases h
 | true =>
  cases hr:G8 r.side r.innings r.overs r.balls r.quota r.wide r.noball r.newball r.followon r.reviews r.outside with
  | false=>rw [hn,hr] at h;cases h
  | true =>
   unfold G8 at hr;simp only [zzk,aS] at hr;obtain ⟨⟨⟨⟨⟨⟨⟨⟨⟨⟨h1,h2⟩,h3⟩,h4⟩,h5⟩,h6⟩,h7⟩,h8⟩,h9⟩,h10⟩,h11⟩:=hr;exact ⟨h1,h2,h3,h4,h5,h6,h7,h8,h9,h10,h11⟩
def Bz (x:Int):Prop:=0≤x∧x≤1000000000
structure InnOk (r:Rul) (s:Inn):Prop where
 code:A5 r=0
 side:1≤s.side∧s.side≤2
 lb:(s.batters.length:Int)=r.side
 ld:(s.bowled.length:Int)=r.side
 lz:(s.subs.length:Int)=r.side
 ending:s.ending≤5
 st:0≤s.striker∧s.striker≤r.side
 ot:0≤s.other∧s.other≤r.side
 bat:Ud s.batters s.striker s.other s.wickets=true
 bow:0≤s.bowler∧s.bowler≤r.side
 kee:0≤s.keeper∧s.keeper≤r.side
 dw:Gr s.bowlers r.side=true
 df:Gr s.before r.side=true
 ov:OP r.overs s.overs=true
 io:0≤s.inover∧s.inover≤r.balls - 1
 target:Bz s.target
 runs:Bz s.runs
 wides:Bz s.wides
 noballs:Bz s.noballs
 byes:Bz s.byes
 legbyes:Bz s.legbyes
 pens:Bz s.pens
 complete:Bz s.complete
 ballage:Bz s.ballage
 outside:Bz s.outside
 rev1:Bz s.rev1
 rev2:Bz s.rev2
 bowled:MP Dg s.bowled=false
theorem AFK {x:Int}:Dg x=false↔Bz x:=by
 unfold Dg Bz;rw [Bool.not_eq_false',aS]
theorem ADj (a b c d e f g h i j k l:Int):MP Dg (bh a b c d e f g h i j k l)=false↔Bz a∧Bz b∧Bz c∧Bz d∧Bz e∧Bz f∧Bz g∧Bz h∧Bz i∧Bz j∧Bz k∧Bz l:=by
 rw [RI];simp only [bh,List.any_cons,List.any_nil,Bool.or_false,sj,AEq,Bool.or_eq_false_iff,AFK]
theorem ql {r:Rul} (h:RulOk r):IntKind.i64.wrap (r.balls - 1)=r.balls - 1:=by
 have:=h.balls;exact Bv (by omega) (by omega)
theorem zz {x:Int}:(!iLt 5 x)=true↔x≤5:=by
 rw [Bool.not_eq_true'];simp only [iLt,decide_eq_false_iff_not];omega
theorem OK {r:Rul} {s:Inn}:E2 r s=true↔InnOk r s:=by
 unfold E2 Mf;simp only [zzk,Bool.not_eq_true',ADj,aS];constructor
 ·intro ⟨h1,h2,h3,h4,h5,h6,h7,h8,h9,h10,h11,h12,h13,h14,h15,⟨n1,n2,n3,n4,n5,n6,n7,n8,n9,n10,n11,n12⟩,h17⟩;have hc:A5 r=0:=beq_iff_eq.1 h1;exact ⟨hc,h2,beq_iff_eq.1 h3,beq_iff_eq.1 h4,beq_iff_eq.1 h5,zz.1 (by rw [h6];rfl),h7,h8,h9,h10,h11,h12,h13,h14,by rw [ql (D8 hc)] at h15;exact h15,n1,n2,n3,n4,n5,n6,n7,n8,n9,n10,n11,n12,h17⟩
 ·intro h;have h6:=zz.2 h.ending;rw [Bool.not_eq_true'] at h6;exact ⟨beq_iff_eq.2 h.code,h.side,beq_iff_eq.2 h.lb,beq_iff_eq.2 h.ld,beq_iff_eq.2 h.lz,h6,h.st,h.ot,h.bat,h.bow,h.kee,h.dw,h.df,h.ov,by rw [ql (D8 h.code)];exact h.io,
   ⟨h.target,h.runs,h.wides,h.noballs,h.byes,h.legbyes,h.pens,h.complete,h.ballage,h.outside,h.rev1,h.rev2⟩,h.bowled⟩
theorem Ra (n:Int):IntKind.i64.wrap n=(n+9223372036854775808) % 18446744073709551616 - 9223372036854775808:=by
 unfold IntKind.wrap;simp only [IntKind.signed,IntKind.bits];simp
 split<;>omega
theorem IV (n:Int):IntKind.i64.wrap (IntKind.i64.wrap n)=IntKind.i64.wrap n:=by
 simp only [Ra];omega
theorem OX (a b:Int):IntKind.i64.wrap (IntKind.i64.wrap (a+b) - a)=IntKind.i64.wrap b:=by
 simp only [Ra];omega
theorem eR (a:Int):IntKind.i64.wrap (a - a)=0:=by rw [Int.sub_self];rfl
theorem mj (s:Inn) (d:Del):(Ah s d).runs=s.runs∧(Ah s d).wides=s.wides∧(Ah s d).noballs=s.noballs∧(Ah s d).byes=s.byes∧(Ah s d).legbyes=s.legbyes∧(Ah s d).pens=s.pens∧(Ah s d).complete=s.complete∧(Ah s d).inover=s.inover∧(Ah s d).bowler=s.bowler∧(Ah s d).bowled=s.bowled:=by
  unfold Ah;cases (!(d.runs.tmod 2==0) != d.crossed)<;>exact P_c (P:=fun x:Inn=>x.runs=s.runs∧x.wides=s.wides∧x.noballs=s.noballs∧x.byes=s.byes∧x.legbyes=s.legbyes∧x.pens=s.pens∧x.complete=s.complete∧x.inover=s.inover∧x.bowler=s.bowler∧x.bowled=s.bowled) _ _ _ ⟨rfl,rfl,rfl,rfl,rfl,rfl,rfl,rfl,rfl,rfl⟩
    (P_c (P:=fun x:Inn=>x.runs=s.runs∧x.wides=s.wides∧x.noballs=s.noballs∧x.byes=s.byes∧x.legbyes=s.legbyes∧x.pens=s.pens∧x.complete=s.complete∧x.inover=s.inover∧x.bowler=s.bowler∧x.bowled=s.bowled) _ _ _ ⟨rfl,rfl,rfl,rfl,rfl,rfl,rfl,rfl,rfl,rfl⟩ ⟨rfl,rfl,rfl,rfl,rfl,rfl,rfl,rfl,rfl,rfl⟩)
def Jv (r:Rul) (s:Inn) (d:Del):Inn :=
 let o:=Ap r (Ah s d) (AH r d).counts
 let t:Inn:=cond o.2 (GK o.1) o.1
 { t with runs:=IntKind.i64.wrap (s.runs+Ep (AH r d)),wides:=IntKind.i64.wrap (s.wides+(AH r d).wides),noballs:=IntKind.i64.wrap (s.noballs+(AH r d).noballs),byes:=IntKind.i64.wrap (s.byes+(AH r d).byes),legbyes:=IntKind.i64.wrap (s.legbyes+(AH r d).legbyes),freehit:=cond (d.type==1) false (cond (d.type==3&&r.freehit) true o.1.freehit) }
theorem rF {r:Rul} {s:Inn} {d:Del} (h:((Ix r s d).2==0)=true):(GG r s d==0)=true∧(Ix r s d).1=Jv r s d:=by
 unfold Ix at h ⊢;cases hr:GG r s d==0 with
 | false=>rw [hr] at h;exact absurd (hr▸h) (by decide)
 | true =>
  refine ⟨rfl,?_⟩;obtain ⟨k1,k2,k3,k4,k5,_⟩:=mj s d;simp only [Bool.not_true,cond_false,nL,k1,k2,k3,k4,k5,Jv];generalize Ap r (Ah s d) (AH r d).counts=o;obtain ⟨o1,o2⟩:=o;cases o2<;>rfl
theorem ta {r:Rul} {s:Inn} {d:Del} (h:(GG r s d==0)=true):Df s.batters s.striker s.other=false∧(s.bowler==0)=false∧(Kq r s==0)=true∧(Da d==0)=true∧(L4 d s.freehit==0)=true∧(LI s d==0)=true:=by
 unfold GG at h;cases h1:Df s.batters s.striker s.other with
 | true=>rw [h1] at h;cases h
 | false =>
  cases h2:s.bowler==0 with
  | true=>rw [h1,h2] at h;cases h
  | false =>
   rw [h1,h2] at h;change (iv _ _ _ _==0)=true at h;unfold iv at h;cases h3:Kq r s==0 with
   | false=>rw [h3] at h;exact absurd (h3▸h) (by decide)
   | true =>
    cases h4:Da d==0 with
    | false=>rw [h3,h4] at h;exact absurd (h4▸h) (by decide)
    | true =>
     cases h5:L4 d s.freehit==0 with
     | false=>rw [h3,h4,h5] at h;exact absurd (h5▸h) (by decide)
     | true =>
      cases h6:LI s d==0 with
      | false=>rw [h3,h4,h5,h6] at h;exact absurd (h6▸h) (by decide)
      | true=>exact ⟨rfl,rfl,rfl,rfl,rfl,rfl⟩
theorem lJ {d:Del} {f:Bool} (h:(L4 d f==0)=true) (hd:(d.how==0)=false):(d.victim==1)=true∨(d.victim==2)=true:=by
 unfold L4 at h;rw [hd] at h;cases h1:d.victim==1 with
 | true=>exact .inl rfl
 | false =>
  cases h2:d.victim==2 with
  | true=>exact .inr rfl
  | false =>
   rw [h1,h2] at h
   exfalso
   revert h
   cases (!onS d.how d.type||f && !cn d.how)<;>cases (!OH d.how&&(!(d.source==0) || !(d.runs==0)))<;>intro h<;>cases h
theorem vo {s:Inn} {e:Ev} (h:dN s e=false) (hk:(e.kind==2)=false):B2 s.batters=true:=by
 unfold dN at h;rw [hk] at h;cases hb:B2 s.batters with
 | true=>rfl
 | false=>rw [hb] at h;simp at h
theorem AAd {s : Inn} {d : Del} (h1 : (s.striker == 0) = false) (h2 : (s.other == 0) = false) (hv : (d.how == 0) = false → (d.victim == 1) = true ∨ (d.victim == 2) = true) :
    (Ah s d).wickets=cond (d.how==0) s.wickets (inc s.wickets):=by
  unfold Ah;rw [h1,h2];cases hd:d.how==0 with
  | true=>cases (!(d.runs.tmod 2==0) != d.crossed)<;>rfl
  | false =>
    rcases hv hd with h | h<;>rw [h]<;>cases (!(d.runs.tmod 2==0) != d.crossed)<;>cases d.victim==1<;>rfl
theorem AAU (r:Rul) (s:Inn) (b:Bool):(Ap r s b).1.wickets=s.wickets∧(Ap r s b).1.pens=s.pens:=by
 unfold Ap;exact P_c (P:=fun x:Inn×Bool=>x.1.wickets=s.wickets∧x.1.pens=s.pens) _ _ _ ⟨rfl,rfl⟩ (P_c (P:=fun x:Inn×Bool=>x.1.wickets=s.wickets∧x.1.pens=s.pens) _ _ _ ⟨rfl,rfl⟩ ⟨rfl,rfl⟩)
theorem ABX {r : Rul} {s : Inn} {b : Bool} (hr : RulOk r) (hc : A5 r = 0) (hb : inR s.bowler s.bowled.length = true) (hi : 0 ≤ s.inover ∧ s.inover ≤ r.balls - 1) (hn : Bz s.complete) :
    IntKind.i64.wrap (Ce r.balls (Ap r s b).1.complete (Ap r s b).1.inover - Ce r.balls s.complete s.inover)=cond b 1 0:=by
  have hk:∃ k:Nat,r.balls=k:=⟨r.balls.toNat,by have:=hr.balls;omega⟩;have hz:=hr.balls;unfold Bz at hn;unfold Ap Ce;rw [hb,hc];cases b with
  | false =>
    have h1:iLt s.inover r.balls=true:=by simp only [iLt,decide_eq_true_eq];omega
    simp only [cond_false,h1,beq_self_eq_true,Bool.not_true,Bool.or_false,cond_true];exact eR _
  | true =>
    have h2:inc s.inover=s.inover+1:=Bv (by omega) (by omega);simp only [cond_true,h2,beq_self_eq_true,Bool.not_true,Bool.or_false,cond_false];have h3:inc s.complete=s.complete+1:=Bv (by omega) (by omega);have hb5:r.balls=4∨r.balls=5∨r.balls=6∨r.balls=7∨r.balls=8:=by omega
    cases h1:iLt (s.inover+1) r.balls with
    | true =>
      simp only [cond_true]
      rcases hb5 with e | e | e | e | e<;>rw [e] at hi ⊢<;>simp only [Ra]<;>omega
    | false =>
      simp only [iLt,decide_eq_false_iff_not] at h1;simp only [cond_false,h3]
      rcases hb5 with e | e | e | e | e<;>rw [e] at hi h1 ⊢<;>simp only [Ra]<;>omega
theorem wG {L:Rows} {s n:Int} (h:Df L s n=false) (hb:B2 L=true):(s==0)=false∧(n==0)=false:=by
 unfold Df at h;rw [hb,Bool.true_and,Bool.or_eq_false_iff] at h;exact h
theorem ACx {r:Rul} {s:Inn} (h:InnOk r s) (hb:(s.bowler==0)=false):inR s.bowler s.bowled.length=true:=by
 have h1:=h.bow;have h2:=h.ld;rw [beq_eq_false_iff_ne] at hb;simp only [inR,iLe,zzk,decide_eq_true_eq];omega
theorem ACv {r : Rul} {s : Inn} {e : Ev} (hk : (e.kind == 4) = true) (h : ((Ay r s e).2 == 0) = true) :
    IntKind.i64.wrap ((Ay r s e).1.runs - s.runs)=Ep (AH r e.ball)∧IntKind.i64.wrap ((Ay r s e).1.wides - s.wides)=(AH r e.ball).wides∧IntKind.i64.wrap ((Ay r s e).1.noballs - s.noballs)=(AH r e.ball).noballs ∧
    IntKind.i64.wrap ((Ay r s e).1.byes - s.byes)=(AH r e.ball).byes∧IntKind.i64.wrap ((Ay r s e).1.legbyes - s.legbyes)=(AH r e.ball).legbyes∧(Ay r s e).1.pens=s.pens ∧
    IntKind.i64.wrap (Ce r.balls (Ay r s e).1.complete (Ay r s e).1.inover - Ce r.balls s.complete s.inover)=cond (AH r e.ball).counts 1 0 ∧
    IntKind.i64.wrap ((Ay r s e).1.wickets - s.wickets)=cond (e.ball.how==0) 0 1∧(Ay r s e).1.fresh=true∧IntKind.i64.wrap (Ay r s e).1.runs=(Ay r s e).1.runs:=by
  obtain ⟨hv,he,hn,hw,hp,hs⟩:=ji h;have k4:=beq_iff_eq.1 hk;have hpb:BQ r s e=Ix r s e.ball:=by unfold BQ;rw [k4];rfl
  obtain ⟨d,hd0⟩:∃ d,d=e.ball:=⟨_,rfl⟩;rw [← hd0] at hpb ⊢;rw [hpb] at hp hs;obtain ⟨hr,hb⟩:=rF hp;obtain ⟨q1,q2,q3,q4,q5,q6⟩:=ta hr;have ok:=OK.1 hv;have rk:=D8 ok.code;have hbeg:B2 s.batters=true:=vo hw (by rw [k4];rfl);obtain ⟨z1,z2⟩:=wG q1 hbeg;have hin:=ACx ok q2;have hout:=AAd (d:=d) z1 z2 (fun hd=>lJ q5 hd);obtain ⟨k1,k2,k3,k4,k5,k6,k7,k8,k9,k10⟩:=mj s d;have hbl:=ABX (b:=(AH r d).counts) (s:=Ah s d) rk ok.code (by rw [k9,k10];exact hin) (by rw [k8];exact ok.io) (by rw [k7];exact ok.complete);rw [k7,k8] at hbl;obtain ⟨w1,w2⟩:=AAU r (Ah s d) (AH r d).counts;rw [hs,hb];have hc:AH r d=Uz r d:=by unfold AH;rw [q4];rfl
  have ht:IntKind.i64.wrap (Ep (AH r d))=Ep (AH r d):=IV _;have c1:IntKind.i64.wrap (AH r d).wides=(AH r d).wides:=by rw [hc];unfold Uz;simp only;cases d.type==2<;>first | rfl | exact IV _
  have c2:IntKind.i64.wrap (AH r d).noballs=(AH r d).noballs:=by
    have:=rk.noball;rw [hc];unfold Uz;simp only;cases d.type==3<;>first | rfl | exact Bv (n:=r.noball) (by omega) (by omega)
  have c3:IntKind.i64.wrap (AH r d).byes=(AH r d).byes:=by rw [hc];unfold Uz;simp only;cases (!(d.type==2)&&d.source==2)<;>first | rfl | exact IV _
  have c4:IntKind.i64.wrap (AH r d).legbyes=(AH r d).legbyes:=by rw [hc];unfold Uz;simp only;cases (!(d.type==2)&&d.source==3)<;>first | rfl | exact IV _
  refine ⟨(OX _ _).trans ht,(OX _ _).trans c1,(OX _ _).trans c2,(OX _ _).trans c3,(OX _ _).trans c4,?_,?_,?_,hk,IV _⟩
  · have : (Bw r (Jv r s d) (e.kind == 4)).pens = (Ap r (Ah s d) (AH r d).counts).1.pens := by
      show (cond (Ap r (Ah s d) (AH r d).counts).2 (GK (Ap r (Ah s d) (AH r d).counts).1) (Ap r (Ah s d) (AH r d).counts).1).pens=_;cases (Ap r (Ah s d) (AH r d).counts).2<;>rfl
    rw [this,w2,k6]
  · have e1 : (Bw r (Jv r s d) (e.kind == 4)).complete = (Ap r (Ah s d) (AH r d).counts).1.complete := by
      show (cond (Ap r (Ah s d) (AH r d).counts).2 (GK (Ap r (Ah s d) (AH r d).counts).1) (Ap r (Ah s d) (AH r d).counts).1).complete=_;cases (Ap r (Ah s d) (AH r d).counts).2<;>rfl
    have e2:(Bw r (Jv r s d) (e.kind==4)).inover=(Ap r (Ah s d) (AH r d).counts).1.inover:=by
      show (cond (Ap r (Ah s d) (AH r d).counts).2 (GK (Ap r (Ah s d) (AH r d).counts).1) (Ap r (Ah s d) (AH r d).counts).1).inover=_;cases (Ap r (Ah s d) (AH r d).counts).2<;>rfl
    rw [e1,e2,hbl]
  · have : (Bw r (Jv r s d) (e.kind == 4)).wickets = (Ap r (Ah s d) (AH r d).counts).1.wickets := by
      show (cond (Ap r (Ah s d) (AH r d).counts).2 (GK (Ap r (Ah s d) (AH r d).counts).1) (Ap r (Ah s d) (AH r d).counts).1).wickets=_;cases (Ap r (Ah s d) (AH r d).counts).2<;>rfl
    rw [this,w1,hout];unfold inc;cases d.how==0 with
    | true=>exact eR _
    | false=>exact (OX s.wickets 1).trans rfl
def AEd:Inn:=⟨0,0,0,0,0,0,0,0,0,0,0,0,0,0,[],0,[],[],false,[],false,0,0,0,[],0,0,0⟩
def AEm (n:Nat) (overs side t p:Int):Inn:=⟨side,t,overs,p,0,0,0,0,0,p,0,0,0,0,List.replicate n [.int 0],0,[],[],false,List.replicate n [.int 0],false,0,0,0,List.replicate n [.bool false],0,0,0⟩
def Bi (r:Rul) (side t p:Int):Inn×Int :=
 cond (!(A5 r==0)) (AEd,A5 r) (cond (!btw side 1 2 || !btw t 0 1000000 || !btw p 0 1000000) (AEd,2) (AEm r.side.toNat r.overs side t p,0))
theorem X3 {N:Nat} {r8:Bool} {r0:ByteArray} {r13:Rows} {a:Int} {b:Int} {c:Int} (hN:2097152<N) (hs:r0.size≤1048576):Ga N [.str r0,.int r1,.int r2,.int r3,.int r4,.int r5,.int r6,.int r7,.bool r8,.int r9,.int r10,.int r11,.int r12,.rows r13,.int a,.int b,.int c]=some (Ag (Bi (⟨r0,r1,r2,r3,r4,r5,r6,r7,r8,r9,r10,r11,r12,r13⟩:Rul) a b c)):=by
 show J5 (std (HZ N) N) (xOf _)=_;generalize hres:(some (Ag (Bi (⟨r0,r1,r2,r3,r4,r5,r6,r7,r8,r9,r10,r11,r12,r13⟩:Rul) a b c)):Option (List PV))=RR;simp only [J5,TG,Ot,lq9,std,xOf,PXb,Dj hN hs,EX];subst hres;simp only [Bi];cases hc:A5 (⟨r0,r1,r2,r3,r4,r5,r6,r7,r8,r9,r10,r11,r12,r13⟩:Rul)==0 with
 | false=>rfl
 | true =>
  have rk:=(D8 (beq_iff_eq.1 hc)).side;obtain ⟨k,hk⟩:∃ k:Nat,r1=k:=⟨r1.toNat,by simp only at rk;omega⟩;subst hk;simp only at rk;have h1:iSm (k:Int) 1=true:=DL (by omega) (by omega);have h8:iSm (k:Int) 8=true:=DL (by omega) (by omega);simp only [PXb,PXc,PXn,PXm,Nat.reduceAdd,Int.reduceBEq,h1,h8];cases btw a 1 2<;>cases btw b 0 1000000<;>cases btw c 0 1000000<;>rfl
theorem kQ {N:Nat} {r8:Bool} {r0:ByteArray} {r13:Rows} {a:Int} {b:Int} {c:Int} (hN:2097152<N) (hs:r0.size≤1048576):Rl N [.str r0,.int r1,.int r2,.int r3,.int r4,.int r5,.int r6,.int r7,.bool r8,.int r9,.int r10,.int r11,.int r12,.rows r13,.int a,.int b,.int c]=some (Ag (Bi (⟨r0,r1,r2,r3,r4,r5,r6,r7,r8,r9,r10,r11,r12,r13⟩:Rul) a b c)):=by
 show SI (std (M5 N) N) (xOf _)=_;generalize hres:(some (Ag (Bi (⟨r0,r1,r2,r3,r4,r5,r6,r7,r8,r9,r10,r11,r12,r13⟩:Rul) a b c)):Option (List PV))=RR;simp only [SI,ZO,iM,lq9,std,xOf,PXb,FQ hN hs,iL];subst hres;simp only [Bi];cases hc:A5 (⟨r0,r1,r2,r3,r4,r5,r6,r7,r8,r9,r10,r11,r12,r13⟩:Rul)==0 with
 | false=>rfl
 | true =>
  have rk:=(D8 (beq_iff_eq.1 hc)).side;obtain ⟨k,hk⟩:∃ k:Nat,r1=k:=⟨r1.toNat,by simp only at rk;omega⟩;subst hk;simp only at rk;simp only [PXb];cases btw a 1 2<;>try rfl
  cases btw b 0 1000000<;>try rfl
  cases btw c 0 1000000<;>try rfl
  simp only [PXb];refine AN (CV (len:=k) (fun i=>[.int (i:Int),.int a,.int b,.int r3,.int c,.int 0,.int 0,.int 0,.int 0,.int 0,.int c,.int 0,.int 0,.int 0,.int 0,.rows (List.replicate i [.int 0]),.int 0,.rows [],.rows [],.bool false,.rows (List.replicate i [.int 0]),.bool false,.int 0,.int 0,.int 0,.rows (List.replicate i [.bool false]),.int 0,.int 0,.int 0]) (AEm k r3 a b c).ls ?_ ?_ N (by omega)) rfl
  ·intro self;simp only [PXb,PXc,PXn,PXm,Nat.reduceAdd,Int.reduceBEq,Ak];rfl
  ·intro i self hi;have l1:(List.replicate i [PV.int 0]++[[PV.int 0]]).length≤1048576:=by simp;omega
   have l2:(List.replicate i [PV.bool false]++[[PV.bool false]]).length≤1048576:=by simp;omega
   simp only [PXb,PXc,PXn,PXm,Nat.reduceAdd,Int.reduceBEq,Aa (show i≤1099511627776 by omega),Af hi,KW l1 (show 1≤4096 by omega),KW l1 (show 8≤4096 by omega),KW l2 (show 1≤4096 by omega)];rw [List.replicate_succ',List.replicate_succ'];rfl
theorem Iq (r:Rul) (side t p:Int):(Bi r side t p).1.Fit∧(Bi r side t p).1.before=[]∧(Bi r side t p).1.bowlers=[]:=by
 unfold Bi;cases hc:A5 r==0 with
 | false=>exact ⟨⟨by show 0≤1048576;omega,by show 0≤1048576;omega,by show 0≤1048576;omega,by show 0≤1048576;omega,by show 0≤1048576;omega⟩,rfl,rfl⟩
 | true =>
  have hs:=(D8 (beq_iff_eq.1 hc)).side;have hl:∀ x:List PV,(List.replicate r.side.toNat x).length≤1048576:=fun x=>by rw [List.length_replicate];omega
  cases (!btw side 1 2 || !btw t 0 1000000 || !btw p 0 1000000) with
  | true=>exact ⟨⟨by show 0≤1048576;omega,by show 0≤1048576;omega,by show 0≤1048576;omega,by show 0≤1048576;omega,by show 0≤1048576;omega⟩,rfl,rfl⟩
  | false=>exact ⟨⟨hl _,by show 0≤1048576;omega,by show 0≤1048576;omega,hl _,hl _⟩,rfl,rfl⟩
theorem AE4 {s:Inn} (h:s.Fit):(Jq s).Fit:=⟨h.bt,h.bw,h.bf,h.bd,h.sb⟩
structure BatOk (L:Rows) (s n wk:Int):Prop where
 le:∀ i,i<L.length→atI L i 0≤3
 at1:∀ i,i<L.length→(atI L i 0=1↔(s=(i:Int)+1∨n=(i:Int)+1))
 here:B2 L=true→s≠0∨n≠0
 ne:s≠0→s≠n
 wk:wk=gl L
theorem AFB {r:Rul} {s:Inn} (h:InnOk r s):2≤r.side∧r.side≤11:=(D8 h.code).side
structure Small (s:Inn):Prop where
 target:s.target≤999999900
 runs:s.runs≤999999900
 wides:s.wides≤999999900
 noballs:s.noballs≤999999900
 byes:s.byes≤999999900
 legbyes:s.legbyes≤999999900
 pens:s.pens≤999999900
 complete:s.complete≤999999900
 ballage:s.ballage≤999999900
 rev1:s.rev1≤999999900
 rev2:s.rev2≤999999900
 bowled:∀ j,j<s.bowled.length→atI s.bowled j 0≤999999900
def AY (xs:List Inn):Rows:=xs.map Inn.ls
def dI:Inn:=⟨0,0,0,0,0,0,0,0,0,0,0,0,0,0,[],0,[],[],false,[],false,0,0,0,[],0,0,0⟩
def inn (xs:List Inn) (i:Nat):Inn:=xs.getD i dI
structure Mat where
 rules:Rul
 stage:Int
 first:Int
 follow:Bool
 inns:List Inn
 pen1:Int
 pen2:Int
 win:Int
 wside:Int
 margin:Int
def Mat.ls (m:Mat):List PV:=[.str m.rules.name,.int m.rules.side,.int m.rules.innings,.int m.rules.overs,.int m.rules.balls,.int m.rules.quota,.int m.rules.wide,.int m.rules.noball,.bool m.rules.freehit,.int m.rules.newball,.int m.rules.followon,.int m.rules.reviews,.int m.rules.outside,.rows m.rules.power,.int m.stage,.int m.first,.bool m.follow,.rows (AY m.inns),.int m.pen1,.int m.pen2,.int m.win,.int m.wside,.int m.margin]
def HT (x:Mat×Int):List PV:=[.str x.1.rules.name,.int x.1.rules.side,.int x.1.rules.innings,.int x.1.rules.overs,.int x.1.rules.balls,.int x.1.rules.quota,.int x.1.rules.wide,.int x.1.rules.noball,.bool x.1.rules.freehit,.int x.1.rules.newball,.int x.1.rules.followon,.int x.1.rules.reviews,.int x.1.rules.outside,.rows x.1.rules.power,.int x.1.stage,.int x.1.first,.bool x.1.follow,.rows (AY x.1.inns),.int x.1.pen1,.int x.1.pen2,.int x.1.win,.int x.1.wside,.int x.1.margin,.int x.2]
theorem rK (xs:List Inn) (i:Nat):AE (AY xs) i=(match xs[i]? with | some s=>s.ls | none=>[]):=by
 unfold AE AY;rw [zzl,List.getElem?_map];cases xs[i]?<;>rfl
theorem Pa (xs:List Inn) (i:Nat):inn xs i=(match xs[i]? with | some s=>s | none=>dI):=by
 unfold inn;rw [zzl];cases xs[i]?<;>rfl
theorem mt (xs:List Inn):(AY xs).length=xs.length:=List.length_map _
theorem PXi : (∀ xs : List Inn, (AY xs).length = xs.length) ∧ (∀ (xs : List Inn) (i : Nat), pvI (AG (AY xs) i 0) = (inn xs i).side) ∧ (∀ (xs : List Inn) (i : Nat), pvI (AG (AY xs) i 1) = (inn xs i).target) ∧ (∀ (xs : List Inn) (i : Nat), pvI (AG (AY xs) i 2) = (inn xs i).overs) ∧ (∀ (xs : List Inn) (i : Nat), pvI (AG (AY xs) i 3) = (inn xs i).runs) ∧
    (∀ (xs:List Inn) (i:Nat),pvI (AG (AY xs) i 4)=(inn xs i).wickets)∧(∀ (xs:List Inn) (i:Nat),pvI (AG (AY xs) i 5)=(inn xs i).wides)∧(∀ (xs:List Inn) (i:Nat),pvI (AG (AY xs) i 6)=(inn xs i).noballs)∧(∀ (xs:List Inn) (i:Nat),pvI (AG (AY xs) i 7)=(inn xs i).byes)∧(∀ (xs:List Inn) (i:Nat),pvI (AG (AY xs) i 8)=(inn xs i).legbyes) ∧
    (∀ (xs:List Inn) (i:Nat),pvI (AG (AY xs) i 9)=(inn xs i).pens)∧(∀ (xs:List Inn) (i:Nat),pvI (AG (AY xs) i 10)=(inn xs i).complete)∧(∀ (xs:List Inn) (i:Nat),pvI (AG (AY xs) i 11)=(inn xs i).inover)∧(∀ (xs:List Inn) (i:Nat),pvI (AG (AY xs) i 12)=(inn xs i).striker)∧(∀ (xs:List Inn) (i:Nat),pvI (AG (AY xs) i 13)=(inn xs i).other) ∧
    (∀ (xs:List Inn) (i:Nat),pvL (AG (AY xs) i 14)=(inn xs i).batters)∧(∀ (xs:List Inn) (i:Nat),pvI (AG (AY xs) i 15)=(inn xs i).bowler)∧(∀ (xs:List Inn) (i:Nat),pvL (AG (AY xs) i 16)=(inn xs i).bowlers)∧(∀ (xs:List Inn) (i:Nat),pvL (AG (AY xs) i 17)=(inn xs i).before)∧(∀ (xs:List Inn) (i:Nat),pvB (AG (AY xs) i 18)=(inn xs i).fresh) ∧
    (∀ (xs:List Inn) (i:Nat),pvL (AG (AY xs) i 19)=(inn xs i).bowled)∧(∀ (xs:List Inn) (i:Nat),pvB (AG (AY xs) i 20)=(inn xs i).freehit)∧(∀ (xs:List Inn) (i:Nat),pvI (AG (AY xs) i 21)=(inn xs i).ballage)∧(∀ (xs:List Inn) (i:Nat),pvI (AG (AY xs) i 22)=(inn xs i).keeper)∧(∀ (xs:List Inn) (i:Nat),pvI (AG (AY xs) i 23)=(inn xs i).outside) ∧
    (∀ (xs:List Inn) (i:Nat),pvL (AG (AY xs) i 24)=(inn xs i).subs)∧(∀ (xs:List Inn) (i:Nat),pvI (AG (AY xs) i 25)=(inn xs i).rev1)∧(∀ (xs:List Inn) (i:Nat),pvI (AG (AY xs) i 26)=(inn xs i).rev2)∧(∀ (xs:List Inn) (i:Nat),pvI (AG (AY xs) i 27)=(inn xs i).ending):=by
  refine ⟨mt,?_,?_,?_,?_,?_,?_,?_,?_,?_,?_,?_,?_,?_,?_,?_,?_,?_,?_,?_,?_,?_,?_,?_,?_,?_,?_,?_,?_⟩
  all_goals (intro xs i;rw [Pa];unfold AG;rw [rK];cases xs[i]?<;>rfl)
theorem Mat.eta (m:Mat):Mat.mk m.rules m.stage m.first m.follow m.inns m.pen1 m.pen2 m.win m.wside m.margin=m:=rfl
theorem PXk : (∀ m : Mat, m.ls = [.str m.rules.name, .int m.rules.side, .int m.rules.innings, .int m.rules.overs, .int m.rules.balls, .int m.rules.quota, .int m.rules.wide, .int m.rules.noball, .bool m.rules.freehit, .int m.rules.newball, .int m.rules.followon, .int m.rules.reviews, .int m.rules.outside, .rows m.rules.power, .int m.stage, .int m.first, .bool m.follow, .rows (AY m.inns), .int m.pen1, .int m.pen2, .int m.win, .int m.wside, .int m.margin]) ∧
    (∀ x:Mat×Int,HT x=[.str x.1.rules.name,.int x.1.rules.side,.int x.1.rules.innings,.int x.1.rules.overs,.int x.1.rules.balls,.int x.1.rules.quota,.int x.1.rules.wide,.int x.1.rules.noball,.bool x.1.rules.freehit,.int x.1.rules.newball,.int x.1.rules.followon,.int x.1.rules.reviews,.int x.1.rules.outside,.rows x.1.rules.power,.int x.1.stage,.int x.1.first,.bool x.1.follow,.rows (AY x.1.inns),.int x.1.pen1,.int x.1.pen2,.int x.1.win,.int x.1.wside,.int x.1.margin,.int x.2]) ∧
    (∀ m:Mat,Mat.mk m.rules m.stage m.first m.follow m.inns m.pen1 m.pen2 m.win m.wside m.margin=m):=⟨fun _=>rfl,fun _=>rfl,fun _=>rfl⟩
theorem AAV:∀ (ps r pre:List PV),r.length=ps.length→BB (pre++r) pre.length ps=pre++ps
 | [],r,pre,h=>by
  have:r=[]:=List.eq_nil_of_length_eq_zero h;subst this;rfl
 | p::ps,[],pre,h=>by cases h
 | p::ps,a::r,pre,h=>by
  have ih:=AAV ps r (pre++[p]) (by simpa using h);simp only [List.length_append,List.length_cons,List.length_nil,List.append_assoc,List.cons_append,List.nil_append] at ih;unfold BB;rw [List.set_append_right _ _ (Nat.le_refl _),Nat.sub_self];exact ih
theorem AFw (a s:Inn):BB a.ls 0 s.ls=s.ls:=AAV s.ls a.ls [] rfl
theorem AEv (a:Inn) (e:Int):BB a.ls 27 [.int e]=Inn.ls { a with ending:=e }:=by
 show a.ls.set 27 (.int e)=_;rfl
theorem AFT {xs:List Inn} {i:Nat} (h:i<xs.length) (s:Inn):(AY xs).set i (BB (AE (AY xs) i) 0 s.ls)=AY (xs.set i s):=by
 have e:AE (AY xs) i=(xs[i]).ls:=by rw [rK,zzo h]
 rw [e,AFw];exact List.map_set.symm
theorem AEu {xs:List Inn} {i:Nat} (h:i<xs.length) (e:Int):(AY xs).set i (BB (AE (AY xs) i) 27 [.int e])=AY (xs.set i { inn xs i with ending:=e }):=by
 have e1:AE (AY xs) i=(inn xs i).ls:=by rw [rK,Pa,zzo h]
 rw [e1,AEv];exact List.map_set.symm
theorem AFJ (xs:List Inn) (s:Inn):AY xs++[s.ls]=AY (xs++[s]):=by
 show List.map Inn.ls xs++List.map Inn.ls [s]=List.map Inn.ls (xs++[s]);exact List.map_append.symm
theorem AE5 (xs:List Inn) (i:Nat) (s:Inn):(AY xs).set i (BB (AE (AY xs) i) 0 s.ls)=AY (xs.set i s):=by
 by_cases h:i<xs.length
 ·exact AFT h s
 ·rw [List.set_eq_of_length_le (by rw [mt];omega),List.set_eq_of_length_le (by omega)]
theorem zp (xs:List Inn) (i:Nat) (e:Int):(AY xs).set i (BB (AE (AY xs) i) 27 [.int e])=AY (xs.set i { inn xs i with ending:=e }):=by
 by_cases h:i<xs.length
 ·exact AEu h e
 ·rw [List.set_eq_of_length_le (by rw [mt];omega),List.set_eq_of_length_le (by omega)]
theorem PXr : (∀ (xs : List Inn) (x0 x1 x2 x3 x4 x5 x6 x7 x8 x9 x10 x11 x12 x13 x15 x21 x22 x23 x25 x26 x27 : Int) (x18 x20 : Bool) (x14 x16 x17 x19 x24 : Rows), AY xs ++ [([.int x0, .int x1, .int x2, .int x3, .int x4, .int x5, .int x6, .int x7, .int x8, .int x9, .int x10, .int x11, .int x12, .int x13, .rows x14, .int x15, .rows x16, .rows x17, .bool x18, .rows x19, .bool x20, .int x21, .int x22, .int x23, .rows x24, .int x25, .int x26, .int x27] : List PV)] = AY (xs ++ [⟨x0, x1, x2, x3, x4, x5, x6, x7, x8, x9, x10, x11, x12, x13, x14, x15, x16, x17, x18, x19, x20, x21, x22, x23, x24, x25, x26, x27⟩])) ∧ (∀ (xs : List Inn) (i : Nat) (x0 x1 x2 x3 x4 x5 x6 x7 x8 x9 x10 x11 x12 x13 x15 x21 x22 x23 x25 x26 x27 : Int) (x18 x20 : Bool) (x14 x16 x17 x19 x24 : Rows), (AY xs).set i (BB (AE (AY xs) i) 0 [.int x0, .int x1, .int x2, .int x3, .int x4, .int x5, .int x6, .int x7, .int x8, .int x9, .int x10, .int x11, .int x12, .int x13, .rows x14, .int x15, .rows x16, .rows x17, .bool x18, .rows x19, .bool x20, .int x21, .int x22, .int x23, .rows x24, .int x25, .int x26, .int x27]) = AY (xs.set i ⟨x0, x1, x2, x3, x4, x5, x6, x7, x8, x9, x10, x11, x12, x13, x14, x15, x16, x17, x18, x19, x20, x21, x22, x23, x24, x25, x26, x27⟩)) ∧
    (∀ (xs:List Inn) (i:Nat) (e:Int),(AY xs).set i (BB (AE (AY xs) i) 27 [.int e])=AY (xs.set i { inn xs i with ending:=e })) :=
  ⟨fun xs x0 x1 x2 x3 x4 x5 x6 x7 x8 x9 x10 x11 x12 x13 x15 x21 x22 x23 x25 x26 x27 x18 x20 x14 x16 x17 x19 x24=>AFJ xs ⟨x0,x1,x2,x3,x4,x5,x6,x7,x8,x9,x10,x11,x12,x13,x14,x15,x16,x17,x18,x19,x20,x21,x22,x23,x24,x25,x26,x27⟩,fun xs i x0 x1 x2 x3 x4 x5 x6 x7 x8 x9 x10 x11 x12 x13 x15 x21 x22 x23 x25 x26 x27 x18 x20 x14 x16 x17 x19 x24=>AE5 xs i ⟨x0,x1,x2,x3,x4,x5,x6,x7,x8,x9,x10,x11,x12,x13,x14,x15,x16,x17,x18,x19,x20,x21,x22,x23,x24,x25,x26,x27⟩,zp⟩
def A2 (n:Int):Int:=IntKind.i64.wrap (3 - n)
theorem JY {N:Nat} {n:Int}  : BV N [.int n]=some [.int (A2 n)]:=by
 show Ni (std (XS N) N) (xOf _)=_;simp only [Ni,lq9,std,xOf,PXb,PXc,PXn,PXm,Nat.reduceAdd,Int.reduceBEq,A2]
theorem G9 {N:Nat} {n:Int}  : CM N [.int n]=some [.int (A2 n)]:=by
 show SH (std (dc N) N) (xOf _)=_;simp only [SH,lq9,std,xOf,PXb,PXc,PXn,PXm,Nat.reduceAdd,Int.reduceBEq,A2]
def Cb (m:Mat) (i:Int):Int:=cond (cond (m.follow&&iLe 2 i) (i==2) (i.tmod 2==1)) (A2 m.first) m.first
theorem Tm {N:Nat} {m8 m16:Bool} {m0:ByteArray} {m13:Rows} {m17:List Inn} {i:Int}  : Dm N [.str m0,.int m1,.int m2,.int m3,.int m4,.int m5,.int m6,.int m7,.bool m8,.int m9,.int m10,.int m11,.int m12,.rows m13,.int m14,.int m15,.bool m16,.rows (AY m17),.int m18,.int m19,.int m20,.int m21,.int m22,.int i]=some [.int (Cb (⟨⟨m0,m1,m2,m3,m4,m5,m6,m7,m8,m9,m10,m11,m12,m13⟩,m14,m15,m16,m17,m18,m19,m20,m21,m22⟩:Mat) i)]:=by
 show NI (std (O2 N) N) (xOf _)=_;generalize hres:(some [.int (Cb (⟨⟨m0,m1,m2,m3,m4,m5,m6,m7,m8,m9,m10,m11,m12,m13⟩,m14,m15,m16,m17,m18,m19,m20,m21,m22⟩:Mat) i)]:Option (List PV))=RR;simp only [NI,UM,lq9,std,xOf,PXb,PXc,PXn,PXm,Nat.reduceAdd,Int.reduceBEq,JY];subst hres;simp only [Cb]
theorem iH {N:Nat} {m8 m16:Bool} {m0:ByteArray} {m13:Rows} {m17:List Inn} {i:Int} (hi:0≤i∧i≤3):Fu N [.str m0,.int m1,.int m2,.int m3,.int m4,.int m5,.int m6,.int m7,.bool m8,.int m9,.int m10,.int m11,.int m12,.rows m13,.int m14,.int m15,.bool m16,.rows (AY m17),.int m18,.int m19,.int m20,.int m21,.int m22,.int i]=some [.int (Cb (⟨⟨m0,m1,m2,m3,m4,m5,m6,m7,m8,m9,m10,m11,m12,m13⟩,m14,m15,m16,m17,m18,m19,m20,m21,m22⟩:Mat) i)]:=by
 show QO (std (Rd N) N) (xOf _)=_;generalize hres:(some [.int (Cb (⟨⟨m0,m1,m2,m3,m4,m5,m6,m7,m8,m9,m10,m11,m12,m13⟩,m14,m15,m16,m17,m18,m19,m20,m21,m22⟩:Mat) i)]:Option (List PV))=RR;simp only [QO,YK,lq9,std,xOf,PXb,PXc,PXn,PXm,Nat.reduceAdd,Int.reduceBEq,G9];subst hres;simp only [Cb];have:i=0∨i=1∨i=2∨i=3:=by omega
 rcases this with h | h | h | h<;>subst h<;>cases m16<;>rfl
def HF (xs:List Inn) (side:Int):Nat→Int
 | 0=>0
 | i+1=>cond ((inn xs i).side==side) (IntKind.i64.wrap (HF xs side i+(inn xs i).runs)) (HF xs side i)
def BK (m:Mat) (side:Int):Int:=HF m.inns side m.inns.length
theorem TW {N:Nat} {m8 m16:Bool} {m0:ByteArray} {m13:Rows} {m17:List Inn} {n:Int} (hN:2097152<N) (hl:m17.length≤1048576):CD N [.str m0,.int m1,.int m2,.int m3,.int m4,.int m5,.int m6,.int m7,.bool m8,.int m9,.int m10,.int m11,.int m12,.rows m13,.int m14,.int m15,.bool m16,.rows (AY m17),.int m18,.int m19,.int m20,.int m21,.int m22,.int n]=some [.int (BK (⟨⟨m0,m1,m2,m3,m4,m5,m6,m7,m8,m9,m10,m11,m12,m13⟩,m14,m15,m16,m17,m18,m19,m20,m21,m22⟩:Mat) n)]:=by
 show NO (std (Xi N) N) (xOf _)=_;generalize hres:(some [.int (BK (⟨⟨m0,m1,m2,m3,m4,m5,m6,m7,m8,m9,m10,m11,m12,m13⟩,m14,m15,m16,m17,m18,m19,m20,m21,m22⟩:Mat) n)]:Option (List PV))=RR;simp only [NO,lq9,std,xOf,PXb,PXi];subst hres;simp only [BK];refine AN (CV (len:=m17.length) (fun i=>[.int (HF m17 n i),.int (i:Int)]) [.int (HF m17 n m17.length)] ?_ ?_ N (by omega)) rfl
 ·intro self;simp only [PXb,PXc,PXn,AB,Ak]
 ·intro i self hi;simp only [PXb,PXc,AB,Aa (show i≤1099511627776 by omega),Af hi,AO hi,PXi,HF];cases (inn m17 i).side==n<;>rfl
theorem Mv {N:Nat} {m8 m16:Bool} {m0:ByteArray} {m13:Rows} {m17:List Inn} {n:Int} (hN:2097152<N) (hl:m17.length≤1048576):FO N [.str m0,.int m1,.int m2,.int m3,.int m4,.int m5,.int m6,.int m7,.bool m8,.int m9,.int m10,.int m11,.int m12,.rows m13,.int m14,.int m15,.bool m16,.rows (AY m17),.int m18,.int m19,.int m20,.int m21,.int m22,.int n]=some [.int (BK (⟨⟨m0,m1,m2,m3,m4,m5,m6,m7,m8,m9,m10,m11,m12,m13⟩,m14,m15,m16,m17,m18,m19,m20,m21,m22⟩:Mat) n)]:=by
 show SB (std (eB N) N) (xOf _)=_;generalize hres:(some [.int (BK (⟨⟨m0,m1,m2,m3,m4,m5,m6,m7,m8,m9,m10,m11,m12,m13⟩,m14,m15,m16,m17,m18,m19,m20,m21,m22⟩:Mat) n)]:Option (List PV))=RR;simp only [SB,lq9,std,xOf,PXb,PXi];subst hres;simp only [BK];refine AN (CV (len:=m17.length) (fun i=>[.int (HF m17 n i),.int (i:Int)]) [.int (HF m17 n m17.length)] ?_ ?_ N (by omega)) rfl
 ·intro self;simp only [PXb,PXc,PXn,AB,Ak]
 ·intro i self hi;simp only [PXb,PXc,AB,Aa (show i≤1099511627776 by omega),Af hi,AO hi,PXi,HF];cases (inn m17 i).side==n<;>rfl
def FX (m:Mat) (side:Int):Int :=
 cond (iLt (IntKind.i64.wrap ((m.inns.length:Int)+1)) (IntKind.i64.wrap (2 * m.rules.innings))) 0 (IntKind.i64.wrap (IntKind.i64.wrap (BK m (A2 side) - BK m side)+1))
theorem aC {N:Nat} {m8 m16:Bool} {m0:ByteArray} {m13:Rows} {m17:List Inn} {n:Int} (hN:2097152<N) (hl:m17.length≤1048576):Hy N [.str m0,.int m1,.int m2,.int m3,.int m4,.int m5,.int m6,.int m7,.bool m8,.int m9,.int m10,.int m11,.int m12,.rows m13,.int m14,.int m15,.bool m16,.rows (AY m17),.int m18,.int m19,.int m20,.int m21,.int m22,.int n]=some [.int (FX (⟨⟨m0,m1,m2,m3,m4,m5,m6,m7,m8,m9,m10,m11,m12,m13⟩,m14,m15,m16,m17,m18,m19,m20,m21,m22⟩:Mat) n)]:=by
 show Lo (std (Ik N) N) (xOf _)=_;generalize hres:(some [.int (FX (⟨⟨m0,m1,m2,m3,m4,m5,m6,m7,m8,m9,m10,m11,m12,m13⟩,m14,m15,m16,m17,m18,m19,m20,m21,m22⟩:Mat) n)]:Option (List PV))=RR;simp only [Lo,TQ,Tk,lq9,std,xOf,PXb,PXc,PXn,PXm,Nat.reduceAdd,Int.reduceBEq,PXi,JY,TW hN hl];subst hres;simp only [FX]
def Mi (stage:Int) (xs:List Inn) (i:Nat):Bool := !(((inn xs i).ending==0)==(stage==3&&((i:Int)==IntKind.i64.wrap ((xs.length:Int) - 1))))
def aD (m:Mat):Bool := !A3 (Mi m.stage m.inns) m.inns.length 0&&(!(m.stage==3)||iLt 0 (m.inns.length:Int))
theorem uD {N:Nat} {m8 m16:Bool} {m0:ByteArray} {m13:Rows} {m17:List Inn} (hN:2097152<N) (hl:m17.length≤1048576):JF N [.str m0,.int m1,.int m2,.int m3,.int m4,.int m5,.int m6,.int m7,.bool m8,.int m9,.int m10,.int m11,.int m12,.rows m13,.int m14,.int m15,.bool m16,.rows (AY m17),.int m18,.int m19,.int m20,.int m21,.int m22]=some [.bool (aD (⟨⟨m0,m1,m2,m3,m4,m5,m6,m7,m8,m9,m10,m11,m12,m13⟩,m14,m15,m16,m17,m18,m19,m20,m21,m22⟩:Mat))]:=by
 show NU (std (XM N) N) (xOf _)=_;generalize hres:(some [.bool (aD (⟨⟨m0,m1,m2,m3,m4,m5,m6,m7,m8,m9,m10,m11,m12,m13⟩,m14,m15,m16,m17,m18,m19,m20,m21,m22⟩:Mat))]:Option (List PV))=RR;simp only [NU,lq9,std,xOf,PXb,PXi];subst hres;simp only [aD];refine AN (Cy (len:=m17.length) (Mi m14 m17) [.bool false] ?_ ?_ N (by omega)) ?_
 ·intro self;simp only [PXb,PXc,PXn,AB,Ak]
 ·intro i self hi;simp only [PXb,PXc,AB,Aa (show i≤1099511627776 by omega),Af hi,AO hi,PXi,Mi]
 ·cases A3 (Mi m14 m17) m17.length 0 with
  | true=>rfl
  | false=>simp only [PXb,PXc,PXn,PXm,Nat.reduceAdd,Int.reduceBEq]
def D9 (xs:List Inn):Prop:=∀ i,i<xs.length→(inn xs i).Fit
theorem dx {N:Nat} {r8:Bool} {r0:ByteArray} {r13:Rows} (hl:r13.length≤1048576):Dl N [.str r0,.int r1,.int r2,.int r3,.int r4,.int r5,.int r6,.int r7,.bool r8,.int r9,.int r10,.int r11,.int r12,.rows r13]=some [.str r0,.int r1,.int r2,.int r3,.int r4,.int r5,.int r6,.int r7,.bool r8,.int r9,.int r10,.int r11,.int r12,.rows r13]:=by
 show Na (std (Pc N) N) (xOf _)=_;simp only [Na,N7,lq9,std,xOf,PXb,PXc,PXn,PXm,Nat.reduceAdd,Int.reduceBEq,Dd,Br hl (show 24≤4096 by omega)]
theorem lD {N:Nat} {r8:Bool} {r0:ByteArray} {r13:Rows} (hl:r13.length≤1048576):FL N [.str r0,.int r1,.int r2,.int r3,.int r4,.int r5,.int r6,.int r7,.bool r8,.int r9,.int r10,.int r11,.int r12,.rows r13]=some [.str r0,.int r1,.int r2,.int r3,.int r4,.int r5,.int r6,.int r7,.bool r8,.int r9,.int r10,.int r11,.int r12,.rows r13]:=by
 show SP (std (db N) N) (xOf _)=_;simp only [SP,lq9,std,xOf,PXb,PXc,PXn,PXm,Nat.reduceAdd,Int.reduceBEq,KW hl (show 24≤4096 by omega)]
theorem eG {xs:List Inn} {i:Nat} (h:i<xs.length):xs.take i++[inn xs i]=xs.take (i+1):=by
 rw [List.take_add_one,Pa,zzo h];rfl
theorem uG {N:Nat} {m8 m16:Bool} {m0:ByteArray} {m13:Rows} {m17:List Inn} (hf:D9 m17) (hN:2097152<N) (hl:m17.length≤1000000) (h13:m13.length≤1048576):JL N [.str m0,.int m1,.int m2,.int m3,.int m4,.int m5,.int m6,.int m7,.bool m8,.int m9,.int m10,.int m11,.int m12,.rows m13,.int m14,.int m15,.bool m16,.rows (AY m17),.int m18,.int m19,.int m20,.int m21,.int m22]=some [.str m0,.int m1,.int m2,.int m3,.int m4,.int m5,.int m6,.int m7,.bool m8,.int m9,.int m10,.int m11,.int m12,.rows m13,.int m14,.int m15,.bool m16,.rows (AY m17),.int m18,.int m19,.int m20,.int m21,.int m22]:=by
 show M9 (std (J7 N) N) (xOf _)=_;simp only [M9,Ua,IZ,lq9,std,xOf,PXb,dx h13,PXi];refine AN (CV (len:=m17.length) (fun i=>[.rows (AY (m17.take i)),.int (i:Int)]) [.rows (AY m17)] ?_ ?_ N (by omega)) rfl
 ·intro self;simp only [PXb,PXc,PXn,AB,Ak,List.take_length]
 ·intro i self hi;have h2:(m17.take (i+1)).length≤1048576:=by rw [List.length_take];omega
  have h3:iSm ((m17.take (i+1)).length:Int) 304=true:=DL (by omega) (by omega);simp only [PXb,PXc,AB,Aa (show i≤1099511627776 by omega),Af hi,AO hi,PXi,IZ,CW (hf i hi),PXr,Inn.eta,h3,eG hi,Nat.reduceAdd];rfl
theorem mI {N:Nat} {m8 m16:Bool} {m0:ByteArray} {m13:Rows} {m17:List Inn} (hf:D9 m17) (hN:2097152<N) (hl:m17.length≤1000000) (h13:m13.length≤1048576):Rm N [.str m0,.int m1,.int m2,.int m3,.int m4,.int m5,.int m6,.int m7,.bool m8,.int m9,.int m10,.int m11,.int m12,.rows m13,.int m14,.int m15,.bool m16,.rows (AY m17),.int m18,.int m19,.int m20,.int m21,.int m22]=some [.str m0,.int m1,.int m2,.int m3,.int m4,.int m5,.int m6,.int m7,.bool m8,.int m9,.int m10,.int m11,.int m12,.rows m13,.int m14,.int m15,.bool m16,.rows (AY m17),.int m18,.int m19,.int m20,.int m21,.int m22]:=by
 show R2 (std (Nm N) N) (xOf _)=_;simp only [R2,Zu,ON,lq9,std,xOf,PXb,lD h13,PXi];refine AN (CV (len:=m17.length) (fun i=>[.rows (AY (m17.take i)),.int (i:Int)]) [.rows (AY m17)] ?_ ?_ N (by omega)) rfl
 ·intro self;simp only [PXb,PXc,PXn,AB,Ak,List.take_length]
 ·intro i self hi;have h2:(m17.take (i+1)).length≤1048576:=by rw [List.length_take];omega
  have h3:iSm ((m17.take (i+1)).length:Int) 304=true:=DL (by omega) (by omega);simp only [PXb,PXc,AB,Aa (show i≤1099511627776 by omega),Af hi,AO hi,PXi,ON,Yg (hf i hi),PXr,Inn.eta,h3,eG hi,Nat.reduceAdd];rfl
def AGP:Rul:=⟨⟨#[]⟩,0,0,0,0,0,0,0,false,0,0,0,0,[]⟩
def ABC:Mat:=⟨AGP,0,0,false,[],0,0,0,0,0⟩
def Ao (r:Rul):Mat×Int:=cond (!(A5 r==0)) (ABC,A5 r) (⟨r,1,0,false,[],0,0,0,0,0⟩,0)
theorem yw {N:Nat} {r8:Bool} {r0:ByteArray} {r13:Rows} (hN:2097152<N) (hs:r0.size≤1048576) (h13:r13.length≤1048576):Rt N [.str r0,.int r1,.int r2,.int r3,.int r4,.int r5,.int r6,.int r7,.bool r8,.int r9,.int r10,.int r11,.int r12,.rows r13]=some (HT (Ao (⟨r0,r1,r2,r3,r4,r5,r6,r7,r8,r9,r10,r11,r12,r13⟩:Rul))):=by
 show Rr (std (Nl N) N) (xOf _)=_;generalize hres:(some (HT (Ao (⟨r0,r1,r2,r3,r4,r5,r6,r7,r8,r9,r10,r11,r12,r13⟩:Rul))):Option (List PV))=RR;simp only [Rr,Wp,Wv,lq9,std,xOf,PXb,PXc,PXn,PXm,Nat.reduceAdd,Int.reduceBEq,Dj hN hs,dx h13];subst hres;simp only [Ao];cases A5 (⟨r0,r1,r2,r3,r4,r5,r6,r7,r8,r9,r10,r11,r12,r13⟩:Rul)==0<;>rfl
theorem se {N:Nat} {r8:Bool} {r0:ByteArray} {r13:Rows} (hN:2097152<N) (hs:r0.size≤1048576) (h13:r13.length≤1048576):OZ N [.str r0,.int r1,.int r2,.int r3,.int r4,.int r5,.int r6,.int r7,.bool r8,.int r9,.int r10,.int r11,.int r12,.rows r13]=some (HT (Ao (⟨r0,r1,r2,r3,r4,r5,r6,r7,r8,r9,r10,r11,r12,r13⟩:Rul))):=by
 show XD (std (Rp N) N) (xOf _)=_;generalize hres:(some (HT (Ao (⟨r0,r1,r2,r3,r4,r5,r6,r7,r8,r9,r10,r11,r12,r13⟩:Rul))):Option (List PV))=RR;simp only [XD,fM,fB,lq9,std,xOf,PXb,PXc,PXn,PXm,Nat.reduceAdd,Int.reduceBEq,FQ hN hs,lD h13];subst hres;simp only [Ao];cases A5 (⟨r0,r1,r2,r3,r4,r5,r6,r7,r8,r9,r10,r11,r12,r13⟩:Rul)==0<;>rfl
def Zr (m:Mat):Bool:=(iLt m.pen1 0||iLt 1000000 m.pen1)||(iLt m.pen2 0||iLt 1000000 m.pen2)
def LR (m:Mat) (i:Nat):Bool := !E2 m.rules (inn m.inns i) || !((inn m.inns i).side==Cb m (i:Int))
def qF (m:Mat):Bool :=
  let n:Int:=m.inns.length
  let most:=IntKind.i64.wrap (2 * m.rules.innings)
  A5 m.rules==0&&(!(iLt m.stage 1)&&(!(iLt 5 m.stage)&&(!Zr m&&(!(iLt m.first 0||iLt 2 m.first||iLt most n)&&(!(m.first==0&&(iLt 0 n||(!(m.stage==1) && !(m.stage==5)))) &&
    (!(m.stage==1 && !(m.first==0))&&(!(m.stage==2&&n==most)&&(!(m.stage==4&&(!(m.rules.innings==2) || !(n==2))) && !(m.follow&&(!(m.rules.innings==2)||iLt n 2))))))))))
def Cl (m:Mat):Bool:=qF m&&(!A3 (LR m) m.inns.length 0&&aD m)
set_option maxHeartbeats 4000000 in
theorem dX {N:Nat} {m8 m16:Bool} {m0:ByteArray} {m13:Rows} {m17:List Inn} (hf:D9 m17) (hN:2097152<N) (hl:m17.length≤1000000) (hs:m0.size≤1048576):Dk N [.str m0,.int m1,.int m2,.int m3,.int m4,.int m5,.int m6,.int m7,.bool m8,.int m9,.int m10,.int m11,.int m12,.rows m13,.int m14,.int m15,.bool m16,.rows (AY m17),.int m18,.int m19,.int m20,.int m21,.int m22]=some [.bool (Cl (⟨⟨m0,m1,m2,m3,m4,m5,m6,m7,m8,m9,m10,m11,m12,m13⟩,m14,m15,m16,m17,m18,m19,m20,m21,m22⟩:Mat))]:=by
 show M6 (std (Eg N) N) (xOf _)=_;generalize hres:(some [.bool (Cl (⟨⟨m0,m1,m2,m3,m4,m5,m6,m7,m8,m9,m10,m11,m12,m13⟩,m14,m15,m16,m17,m18,m19,m20,m21,m22⟩:Mat))]:Option (List PV))=RR;simp only [M6,Uv,IW,KH,KP,lq9,std,xOf,PXb,Dj hN hs,PXi];subst hres;simp only [Cl,qF];cases hc:A5 (⟨⟨m0,m1,m2,m3,m4,m5,m6,m7,m8,m9,m10,m11,m12,m13⟩,m14,m15,m16,m17,m18,m19,m20,m21,m22⟩:Mat).rules==0<;>(try rfl);cases h1:iLt m14 1<;>(try rfl);cases h5:iLt 5 m14<;>(try rfl);simp only [PXb];refine AN (Cy (len:=2) (fun i=>iLt (cond ((i:Int)==1) m19 m18) 0||iLt 1000000 (cond ((i:Int)==1) m19 m18)) [.bool false] ?_ ?_ N (by omega)) ?_
 ·intro self;rfl
 ·intro i self hi;simp only [PXb,Aa (show i≤1099511627776 by omega),show iLt (i:Int) 2=true from Af (len:=2) hi,show iIn (i:Int) 2=true from AO (len:=2) hi]
 ·have hp:A3 (fun i=>iLt (cond ((i:Int)==1) m19 m18) 0||iLt 1000000 (cond ((i:Int)==1) m19 m18)) 2 0=Zr (⟨⟨m0,m1,m2,m3,m4,m5,m6,m7,m8,m9,m10,m11,m12,m13⟩,m14,m15,m16,m17,m18,m19,m20,m21,m22⟩:Mat):=by
   simp only [Be,IX,Bool.or_false];rfl
  rw [hp];cases Zr (⟨⟨m0,m1,m2,m3,m4,m5,m6,m7,m8,m9,m10,m11,m12,m13⟩,m14,m15,m16,m17,m18,m19,m20,m21,m22⟩:Mat)
  case true=>rfl
  simp only [PXb,Cv,Int.reduceBEq];cases iLt m15 0<;>try rfl
  cases iLt 2 m15<;>try rfl
  cases iLt (IntKind.i64.wrap (2 * m2)) (m17.length:Int)<;>try rfl
  cases (m15==0&&(iLt 0 (m17.length:Int)||(!(m14==1) && !(m14==5))))<;>try rfl
  cases (m14==1 && !(m15==0))<;>try rfl
  cases (m14==2&&(m17.length:Int)==IntKind.i64.wrap (2 * m2))<;>try rfl
  cases (m14==4&&(!(m2==2) || !((m17.length:Int)==2)))<;>try rfl
  cases (m16&&(!(m2==2)||iLt (m17.length:Int) 2))<;>try rfl
  simp only [PXb];refine AN (Cy (len:=m17.length) (LR (⟨⟨m0,m1,m2,m3,m4,m5,m6,m7,m8,m9,m10,m11,m12,m13⟩,m14,m15,m16,m17,m18,m19,m20,m21,m22⟩:Mat)) [.bool false] ?_ ?_ N (by omega)) ?_
  ·intro self;simp only [PXb,PXc,PXn,AB,Ak]
  ·intro i self hi;simp only [PXb,PXc,PXn,PXm,Nat.reduceAdd,Int.reduceBEq,Aa (show i≤1099511627776 by omega),Af hi,AO hi,PXi,IW,KH,XU (hf i hi) hN hs,Tm,LR];cases E2 (⟨⟨m0,m1,m2,m3,m4,m5,m6,m7,m8,m9,m10,m11,m12,m13⟩,m14,m15,m16,m17,m18,m19,m20,m21,m22⟩:Mat).rules (inn m17 i)<;>first | rfl | simp only [PXb,PXc,PXn,PXm,Nat.reduceAdd,Int.reduceBEq]
  ·cases A3 (LR (⟨⟨m0,m1,m2,m3,m4,m5,m6,m7,m8,m9,m10,m11,m12,m13⟩,m14,m15,m16,m17,m18,m19,m20,m21,m22⟩:Mat)) m17.length 0
   case true=>rfl
   simp only [PXb,PXc,PXn,PXm,Nat.reduceAdd,Int.reduceBEq,KP,uD hN (show m17.length≤1048576 by omega)]
theorem AAE (f g:Nat→Bool):∀ k i,A3 (fun j=>f j||g j) k i=(A3 f k i||A3 g k i)
 | 0,i=>rfl
 | k+1,i=>by
  rw [Be,Be,Be,AAE f g k (i+1)];cases f i<;>cases g i<;>cases A3 f k (i+1)<;>cases A3 g k (i+1)<;>rfl
theorem o7 {N:Nat} {m8 m16:Bool} {m0:ByteArray} {m13:Rows} {m17:List Inn} (hf:D9 m17) (hN:2097152<N) (hl:m17.length≤4) (hs:m0.size≤1048576):G1 N [.str m0,.int m1,.int m2,.int m3,.int m4,.int m5,.int m6,.int m7,.bool m8,.int m9,.int m10,.int m11,.int m12,.rows m13,.int m14,.int m15,.bool m16,.rows (AY m17),.int m18,.int m19,.int m20,.int m21,.int m22]=some [.bool (!A3 (LR (⟨⟨m0,m1,m2,m3,m4,m5,m6,m7,m8,m9,m10,m11,m12,m13⟩,m14,m15,m16,m17,m18,m19,m20,m21,m22⟩:Mat)) m17.length 0 && !A3 (Mi m14 m17) m17.length 0)]:=by
 show KM (std (HN N) N) (xOf _)=_;generalize hres:(some [.bool (!A3 (LR (⟨⟨m0,m1,m2,m3,m4,m5,m6,m7,m8,m9,m10,m11,m12,m13⟩,m14,m15,m16,m17,m18,m19,m20,m21,m22⟩:Mat)) m17.length 0 && !A3 (Mi m14 m17) m17.length 0)]:Option (List PV))=RR;simp only [KM,J4,JZ,lq9,std,xOf,PXb,PXi];subst hres;rw [← Bool.not_or,← AAE];refine AN (Cy (len:=m17.length) (fun j=>LR (⟨⟨m0,m1,m2,m3,m4,m5,m6,m7,m8,m9,m10,m11,m12,m13⟩,m14,m15,m16,m17,m18,m19,m20,m21,m22⟩:Mat) j||Mi m14 m17 j) [.bool false] ?_ ?_ N (by omega)) ?_
 ·intro self;simp only [PXb,PXc,PXn,AB,Ak]
 ·intro i self hi;have hi3:0≤(i:Int)∧(i:Int)≤3:=by omega
  simp only [PXb,PXc,PXn,PXm,Nat.reduceAdd,Int.reduceBEq,Aa (show i≤1099511627776 by omega),Af hi,AO hi,PXi,J4,JZ,lS (hf i hi) hN hs,iH hi3,LR,Mi];cases E2 (⟨⟨m0,m1,m2,m3,m4,m5,m6,m7,m8,m9,m10,m11,m12,m13⟩,m14,m15,m16,m17,m18,m19,m20,m21,m22⟩:Mat).rules (inn m17 i)<;>rfl
 ·cases A3 (fun j=>LR (⟨⟨m0,m1,m2,m3,m4,m5,m6,m7,m8,m9,m10,m11,m12,m13⟩,m14,m15,m16,m17,m18,m19,m20,m21,m22⟩:Mat) j||Mi m14 m17 j) m17.length 0<;>rfl
set_option maxHeartbeats 4000000 in
theorem YP {N:Nat} {m8 m16:Bool} {m0:ByteArray} {m13:Rows} {m17:List Inn} (hf:D9 m17) (hN:2097152<N) (hl:m17.length≤1000000) (hs:m0.size≤1048576):FP N [.str m0,.int m1,.int m2,.int m3,.int m4,.int m5,.int m6,.int m7,.bool m8,.int m9,.int m10,.int m11,.int m12,.rows m13,.int m14,.int m15,.bool m16,.rows (AY m17),.int m18,.int m19,.int m20,.int m21,.int m22]=some [.bool (Cl (⟨⟨m0,m1,m2,m3,m4,m5,m6,m7,m8,m9,m10,m11,m12,m13⟩,m14,m15,m16,m17,m18,m19,m20,m21,m22⟩:Mat))]:=by
 show Rz (std (Nq N) N) (xOf _)=_;generalize hres:(some [.bool (Cl (⟨⟨m0,m1,m2,m3,m4,m5,m6,m7,m8,m9,m10,m11,m12,m13⟩,m14,m15,m16,m17,m18,m19,m20,m21,m22⟩:Mat))]:Option (List PV))=RR;simp only [Rz,ZY,KA,lq9,std,xOf,PXb,FQ hN hs,PXi];subst hres;simp only [Cl,qF];cases hc:A5 (⟨⟨m0,m1,m2,m3,m4,m5,m6,m7,m8,m9,m10,m11,m12,m13⟩,m14,m15,m16,m17,m18,m19,m20,m21,m22⟩:Mat).rules==0
 case false=>simp only [PXb,PXc,PXn,PXm,Nat.reduceAdd,Int.reduceBEq]
 have rk:=(D8 (beq_iff_eq.1 hc)).innings;simp only at rk;have e2:IntKind.i64.wrap (2 * m2)=2 * m2:=Bv (by omega) (by omega);have e4:(2 * m2==4)=(m2==2):=by rw [Bool.eq_iff_iff,beq_iff_eq,beq_iff_eq];omega
 simp only [e2,e4];cases h1:iLt m14 1
 case true=>simp only [PXb,PXc,PXn,PXm,Nat.reduceAdd,Int.reduceBEq]
 cases h5:iLt 5 m14
 case true=>simp only [PXb,PXc,PXn,PXm,Nat.reduceAdd,Int.reduceBEq]
 cases hm:iLt (2 * m2) (m17.length:Int)
 case true=>simp only [PXb,PXc,PXn,PXm,Nat.reduceAdd,Int.reduceBEq]
 have h4:m17.length≤4:=by
  simp only [iLt,decide_eq_false_iff_not] at hm;omega
 simp only [PXb];refine AN (Cy (len:=2) (fun i=>iLt (cond ((i:Int)==1) m19 m18) 0||iLt 1000000 (cond ((i:Int)==1) m19 m18)) [.bool false] ?_ ?_ N (by omega)) ?_
 ·intro self;rfl
 ·intro i self hi;simp only [PXb,Aa (show i≤1099511627776 by omega),show iLt (i:Int) 2=true from Af (len:=2) hi,show iIn (i:Int) 2=true from AO (len:=2) hi]
 ·have hp:A3 (fun i=>iLt (cond ((i:Int)==1) m19 m18) 0||iLt 1000000 (cond ((i:Int)==1) m19 m18)) 2 0=Zr (⟨⟨m0,m1,m2,m3,m4,m5,m6,m7,m8,m9,m10,m11,m12,m13⟩,m14,m15,m16,m17,m18,m19,m20,m21,m22⟩:Mat):=by
   simp only [Be,IX,Bool.or_false];rfl
  rw [hp];cases Zr (⟨⟨m0,m1,m2,m3,m4,m5,m6,m7,m8,m9,m10,m11,m12,m13⟩,m14,m15,m16,m17,m18,m19,m20,m21,m22⟩:Mat)
  case true=>rfl
  simp only [PXb,Cv,Int.reduceBEq,KA,o7 hf hN h4 hs,aD,rN (show (0:Int)≤(m17.length:Int) by omega)];generalize A3 (LR (⟨⟨m0,m1,m2,m3,m4,m5,m6,m7,m8,m9,m10,m11,m12,m13⟩,m14,m15,m16,m17,m18,m19,m20,m21,m22⟩:Mat)) m17.length 0=q1;generalize A3 (Mi m14 m17) m17.length 0=q2;generalize (m15==0&&(!((m17.length:Int)==0)||(!(m14==1) && !(m14==5))))=q3;generalize (m14==1 && !(m15==0))=q4;generalize (m14==2&&(m17.length:Int)==2 * m2)=q5;cases iLt m15 0<;>cases iLt 2 m15<;>cases q3<;>cases q4<;>cases q5<;>try (simp only [PXb,PXc,PXn,PXm,Nat.reduceAdd,Int.reduceBEq];done)
  cases m14==3<;>cases (m17.length:Int)==0<;>cases m14==4<;>cases m2==2<;>cases (m17.length:Int)==2<;>cases m16<;>cases iLt (m17.length:Int) 2<;>cases q1<;>cases q2<;>rfl
end Go.Px
end
