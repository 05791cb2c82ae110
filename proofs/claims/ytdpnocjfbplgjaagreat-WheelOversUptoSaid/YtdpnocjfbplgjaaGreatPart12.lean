/- Part 12. -/
import Derived.Test.YtdpnocjfbplgjaaGreatPart11
import Derived.Test.YtdpnocjfbplgjaaGreatPart07
set_option linter.unusedVariables false
set_option linter.unusedSimpArgs false
section
namespace Go.Px
set_option maxRecDepth 100000
set_option maxHeartbeats 4000000 in
theorem Zj {N:Nat} {r1 r2 r3 r4 r5 r6 r7 r9 r10 r11 r12:Int} {r8:Bool} {r0:ByteArray} {r13:Rows} {s0 s1 s2 s3 s4 s5 s6 s7 s8 s9 s10 s11 s12 s13 s15 s21 s22 s23 s25 s26 s27:Int} {s18 s20:Bool} {s14 s16 s17 s19 s24:Rows} {e0 e1 e2 e3 e5 e6 e7 e8 e9 e10 e11 e13 e14 e15 e16 e18:Int} {e4 e12 e17:Bool} (h:Fit s14 s16 s17 s19 s24) (hw:s17.length+s16.length≤1000000) (hN:2097152<N) (hs:r0.size≤1048576) (h13:r13.length≤1048576):IB N [.str r0,.int r1,.int r2,.int r3,.int r4,.int r5,.int r6,.int r7,.bool r8,.int r9,.int r10,.int r11,.int r12,.rows r13,.int s0,.int s1,.int s2,.int s3,.int s4,.int s5,.int s6,.int s7,.int s8,.int s9,.int s10,.int s11,.int s12,.int s13,.rows s14,.int s15,.rows s16,.rows s17,.bool s18,.rows s19,.bool s20,.int s21,.int s22,.int s23,.rows s24,.int s25,.int s26,.int s27,.int e0,.int e1,.int e2,.int e3,.bool e4,.int e5,.int e6,.int e7,.int e8,.int e9,.int e10,.int e11,.bool e12,.int e13,.int e14,.int e15,.int e16,.bool e17,.int e18]=some (AZ (Ar (⟨r0,r1,r2,r3,r4,r5,r6,r7,r8,r9,r10,r11,r12,r13⟩:Rul) (⟨s0,s1,s2,s3,s4,s5,s6,s7,s8,s9,s10,s11,s12,s13,s14,s15,s16,s17,s18,s19,s20,s21,s22,s23,s24,s25,s26,s27⟩:Inn) (⟨e0,e1,e2,e3,e4,e5,e6,⟨e7,e8,e9,e10,e11,e12,e13,e14,e15,e16,e17,e18⟩⟩:Ev))):=by
 show Oc (std (CY N) N) (xOf _)=_
 generalize hres:(some (AZ (Ar (⟨r0,r1,r2,r3,r4,r5,r6,r7,r8,r9,r10,r11,r12,r13⟩:Rul) (⟨s0,s1,s2,s3,s4,s5,s6,s7,s8,s9,s10,s11,s12,s13,s14,s15,s16,s17,s18,s19,s20,s21,s22,s23,s24,s25,s26,s27⟩:Inn) (⟨e0,e1,e2,e3,e4,e5,e6,⟨e7,e8,e9,e10,e11,e12,e13,e14,e15,e16,e17,e18⟩⟩:Ev))):Option (List PV))=RR
 have l1:=T4 (⟨r0,r1,r2,r3,r4,r5,r6,r7,r8,r9,r10,r11,r12,r13⟩:Rul) (⟨s0,s1,s2,s3,s4,s5,s6,s7,s8,s9,s10,s11,s12,s13,s14,s15,s16,s17,s18,s19,s20,s21,s22,s23,s24,s25,s26,s27⟩:Inn) (⟨e0,e1,e2,e3,e4,e5,e6,⟨e7,e8,e9,e10,e11,e12,e13,e14,e15,e16,e17,e18⟩⟩:Ev)
 have f1:=Km l1 h (by simp only;omega)
 simp only [Oc,Zk,Zc,aM,ZP,Jy,Ng,std,xOf,PXb,Xa h,iA h hN hs,hP,Wx h.bt hN]
 subst hres;simp only [Ar,ZK]
 cases EX (⟨r0,r1,r2,r3,r4,r5,r6,r7,r8,r9,r10,r11,r12,r13⟩:Rul) (⟨s0,s1,s2,s3,s4,s5,s6,s7,s8,s9,s10,s11,s12,s13,s14,s15,s16,s17,s18,s19,s20,s21,s22,s23,s24,s25,s26,s27⟩:Inn)
 ·rfl
 cases he:evS (⟨e0,e1,e2,e3,e4,e5,e6,⟨e7,e8,e9,e10,e11,e12,e13,e14,e15,e16,e17,e18⟩⟩:Ev)==0
 ·simp only [PXb,PXc,PXn,PXm,Nat.reduceAdd,Int.reduceBEq,he]
 simp only [PXb,PXc,PXn,PXm,Nat.reduceAdd,Int.reduceBEq,he]
 cases s27==0<;>try rfl
 cases h2:e0==2<;>cases h1:e0==1<;>cases hc:e0==12<;>cases hd:e0==16<;>cases Bp s14<;>try rfl
 all_goals first
  | (rw [P9 h2 (c:=1) rfl] at h1;exact absurd h1 (by decide))
  | (rw [P9 h2 (c:=12) rfl] at hc;exact absurd hc (by decide))
  | (rw [P9 h2 (c:=16) rfl] at hd;exact absurd hd (by decide))
  | (simp only [PXb,PXc,PXn,PXm,Nat.reduceAdd,Int.reduceBEq,Jy,np h hw hN hs h13 he,ml,h1,hc,hd];done)
  | skip
 all_goals (simp only [PXb,PXc,PXn,PXm,Nat.reduceAdd,Int.reduceBEq,Jy,Ng,np h hw hN hs h13 he,ml,h1,hc,hd,tJ f1 hN hs])
 all_goals (unfold Br lY;cases (BJ (⟨r0,r1,r2,r3,r4,r5,r6,r7,r8,r9,r10,r11,r12,r13⟩:Rul) (⟨s0,s1,s2,s3,s4,s5,s6,s7,s8,s9,s10,s11,s12,s13,s14,s15,s16,s17,s18,s19,s20,s21,s22,s23,s24,s25,s26,s27⟩:Inn) (⟨e0,e1,e2,e3,e4,e5,e6,⟨e7,e8,e9,e10,e11,e12,e13,e14,e15,e16,e17,e18⟩⟩:Ev)).2==0<;>cases (BJ (⟨r0,r1,r2,r3,r4,r5,r6,r7,r8,r9,r10,r11,r12,r13⟩:Rul) (⟨s0,s1,s2,s3,s4,s5,s6,s7,s8,s9,s10,s11,s12,s13,s14,s15,s16,s17,s18,s19,s20,s21,s22,s23,s24,s25,s26,s27⟩:Inn) (⟨e0,e1,e2,e3,e4,e5,e6,⟨e7,e8,e9,e10,e11,e12,e13,e14,e15,e16,e17,e18⟩⟩:Ev)).1.ending==0<;>rfl)
def eqL (L M:Rows):Bool:=((L.length:Int)==(M.length:Int)) && !Aw (fun i => !(atI L i 0==atI M i 0)) L.length 0
theorem zf (L:Rows):eqL L L=true:=by
 unfold eqL
 rw [beq_self_eq_true,IR.2 (fun j _ _=>by rw [beq_self_eq_true];rfl)]
 rfl
theorem AAL {i len:Nat} {m:Nat} (h:((len:Int)==(m:Int))=true) (hi:i<len):iIn (i:Int) (m:Int)=true:=by
 have:=beq_iff_eq.1 h
 exact AP (by omega)
theorem AAm (L:Rows) (c:Nat):(cut L c).length≤c:=by
 unfold cut
 rw [List.length_drop,List.length_take]
 cases h:iLt (c:Int) (L.length:Int) with
 | true=>simp only [cond_true];omega
 | false=>simp only [iLt,decide_eq_false_iff_not] at h;simp only [cond_false];omega
theorem uU {s t:Inn} (r:Rul) (b:Bool) (h:Lens s t):Lens s (Br r t b):=⟨h.bt,h.bd,h.sb,h.bw,h.bf⟩
theorem Rg (r:Rul) (s:Inn) (e:Ev):Lens s (Ar r s e).1:=by
 unfold Ar
 exact L_c _ _ _ (Lens.refl s) (L_c _ _ _ (Lens.refl s) (L_c _ _ _ (Lens.refl s) (L_c _ _ _ (Lens.refl s) (uU r _ (T4 r s e)))))
end Go.Px
end
section
namespace Go.Px
set_option maxRecDepth 100000
theorem Yy {r : Rul} {s : Inn} {e : Ev} (h : ((Ar r s e).2 == 0) = true) :
    EX r s=true∧(evS e==0)=true∧(s.ending==0)=true∧ZK s e=false∧((BJ r s e).2==0)=true∧(Ar r s e).1=Br r (BJ r s e).1 (e.kind==4):=by
  unfold Ar at h ⊢
  cases hv:EX r s with
  | false=>rw [hv] at h;cases h
  | true =>
    cases he:evS e==0 with
    | false=>rw [hv,he] at h;cases h
    | true =>
      cases hn:s.ending==0 with
      | false=>rw [hv,he,hn] at h;cases h
      | true =>
        cases hw:ZK s e with
        | true=>rw [hv,he,hn,hw] at h;cases h
        | false =>
          cases hp:(BJ r s e).2==0 with
          | false=>rw [hv,he,hn,hw,hp] at h;exact absurd (hp▸h) (by decide)
          | true=>exact ⟨rfl,rfl,rfl,rfl,rfl,rfl⟩
end Go.Px
end
section
namespace Go.Px
set_option maxRecDepth 100000
theorem YX {x a b:Int}:btw x a b=true↔a≤x∧x≤b:=by simp [btw,iLe]
structure RulOk (r:Rul):Prop where
 side:2≤r.side∧r.side≤11
 innings:1≤r.innings∧r.innings≤2
 overs:0≤r.overs∧r.overs≤90
 balls:4≤r.balls∧r.balls≤8
 quota:0≤r.quota∧r.quota≤90
 wide:1≤r.wide∧r.wide≤5
 noball:1≤r.noball∧r.noball≤5
 newball:0≤r.newball∧r.newball≤200
 followon:0≤r.followon∧r.followon≤1000
 reviews:0≤r.reviews∧r.reviews≤9
 outside:0≤r.outside∧r.outside≤11
theorem Dn {r:Rul} (h:A1 r=0):RulOk r:=by
 unfold A1 D8 at h
 cases hn:MA r.name with
 | false=>rw [hn] at h;cases h
 | true =>
  cases hr:Gg r.side r.innings r.overs r.balls r.quota r.wide r.noball r.newball r.followon r.reviews r.outside with
  | false=>rw [hn,hr] at h;cases h
  | true =>
   unfold Gg at hr
   simp only [Bool.and_eq_true,YX] at hr
   obtain ⟨⟨⟨⟨⟨⟨⟨⟨⟨⟨h1,h2⟩,h3⟩,h4⟩,h5⟩,h6⟩,h7⟩,h8⟩,h9⟩,h10⟩,h11⟩:=hr
   exact ⟨h1,h2,h3,h4,h5,h6,h7,h8,h9,h10,h11⟩
def Bl (x:Int):Prop:=0≤x∧x≤1000000000
structure InnOk (r:Rul) (s:Inn):Prop where
 code:A1 r=0
 side:1≤s.side∧s.side≤2
 lb:(s.batters.length:Int)=r.side
 ld:(s.bowled.length:Int)=r.side
 lz:(s.subs.length:Int)=r.side
 ending:s.ending≤5
 st:0≤s.striker∧s.striker≤r.side
 ot:0≤s.other∧s.other≤r.side
 bat:TL s.batters s.striker s.other s.wickets=true
 bow:0≤s.bowler∧s.bowler≤r.side
 kee:0≤s.keeper∧s.keeper≤r.side
 dw:Ge s.bowlers r.side=true
 df:Ge s.before r.side=true
 ov:NS r.overs s.overs=true
 io:0≤s.inover∧s.inover≤r.balls - 1
 target:Bl s.target
 runs:Bl s.runs
 wides:Bl s.wides
 noballs:Bl s.noballs
 byes:Bl s.byes
 legbyes:Bl s.legbyes
 pens:Bl s.pens
 complete:Bl s.complete
 ballage:Bl s.ballage
 outside:Bl s.outside
 rev1:Bl s.rev1
 rev2:Bl s.rev2
 bowled:LW DQ s.bowled=false
theorem AAc {x:Int}:DQ x=false↔Bl x:=by
 unfold DQ Bl
 rw [Bool.not_eq_false',YX]
theorem yl (a b c d e f g h i j k l:Int):LW DQ (ZO a b c d e f g h i j k l)=false↔Bl a∧Bl b∧Bl c∧Bl d∧Bl e∧Bl f∧Bl g∧Bl h∧Bl i∧Bl j∧Bl k∧Bl l:=by
 rw [QT]
 simp only [ZO,List.any_cons,List.any_nil,Bool.or_false,oY,AAE,Bool.or_eq_false_iff,AAc]
theorem kF {r:Rul} (h:RulOk r):IntKind.i64.wrap (r.balls - 1)=r.balls - 1:=by
 have:=h.balls
 exact Bs (by omega) (by omega)
theorem vP {x:Int}:(!iLt 5 x)=true↔x≤5:=by
 rw [Bool.not_eq_true']
 simp only [iLt,decide_eq_false_iff_not]
 omega
theorem NO {r:Rul} {s:Inn}:EX r s=true↔InnOk r s:=by
 unfold EX Lr
 simp only [Bool.and_eq_true,Bool.not_eq_true',yl,YX]
 constructor
 ·intro ⟨h1,h2,h3,h4,h5,h6,h7,h8,h9,h10,h11,h12,h13,h14,h15,⟨n1,n2,n3,n4,n5,n6,n7,n8,n9,n10,n11,n12⟩,h17⟩
  have hc:A1 r=0:=beq_iff_eq.1 h1
  exact ⟨hc,h2,beq_iff_eq.1 h3,beq_iff_eq.1 h4,beq_iff_eq.1 h5,vP.1 (by rw [h6];rfl),h7,h8,h9,h10,h11,h12,h13,h14,by rw [kF (Dn hc)] at h15;exact h15,n1,n2,n3,n4,n5,n6,n7,n8,n9,n10,n11,n12,h17⟩
 ·intro h
  have h6:=vP.2 h.ending
  rw [Bool.not_eq_true'] at h6
  exact ⟨beq_iff_eq.2 h.code,h.side,beq_iff_eq.2 h.lb,beq_iff_eq.2 h.ld,beq_iff_eq.2 h.lz,h6,h.st,h.ot,h.bat,h.bow,h.kee,h.dw,h.df,h.ov,by rw [kF (Dn h.code)];exact h.io,
   ⟨h.target,h.runs,h.wides,h.noballs,h.byes,h.legbyes,h.pens,h.complete,h.ballage,h.outside,h.rev1,h.rev2⟩,h.bowled⟩
theorem Qf (n:Int):IntKind.i64.wrap n=(n+9223372036854775808) % 18446744073709551616 - 9223372036854775808:=by
 unfold IntKind.wrap
 simp only [IntKind.signed,IntKind.bits]
 simp
 split<;>omega
theorem H3 (n:Int):IntKind.i64.wrap (IntKind.i64.wrap n)=IntKind.i64.wrap n:=by
 simp only [Qf];omega
theorem NR (a b:Int):IntKind.i64.wrap (IntKind.i64.wrap (a+b) - a)=IntKind.i64.wrap b:=by
 simp only [Qf];omega
theorem bF (a:Int):IntKind.i64.wrap (a - a)=0:=by rw [Int.sub_self];rfl
theorem jN (s:Inn) (d:Del):(Ab s d).runs=s.runs∧(Ab s d).wides=s.wides∧(Ab s d).noballs=s.noballs∧(Ab s d).byes=s.byes∧(Ab s d).legbyes=s.legbyes∧(Ab s d).pens=s.pens∧(Ab s d).complete=s.complete∧(Ab s d).inover=s.inover∧(Ab s d).bowler=s.bowler∧(Ab s d).bowled=s.bowled:=by
  unfold Ab
  cases (!(d.runs.tmod 2==0) != d.crossed)<;>exact P_c (P:=fun x:Inn=>x.runs=s.runs∧x.wides=s.wides∧x.noballs=s.noballs∧x.byes=s.byes∧x.legbyes=s.legbyes∧x.pens=s.pens∧x.complete=s.complete∧x.inover=s.inover∧x.bowler=s.bowler∧x.bowled=s.bowled) _ _ _ ⟨rfl,rfl,rfl,rfl,rfl,rfl,rfl,rfl,rfl,rfl⟩
    (P_c (P:=fun x:Inn=>x.runs=s.runs∧x.wides=s.wides∧x.noballs=s.noballs∧x.byes=s.byes∧x.legbyes=s.legbyes∧x.pens=s.pens∧x.complete=s.complete∧x.inover=s.inover∧x.bowler=s.bowler∧x.bowled=s.bowled) _ _ _ ⟨rfl,rfl,rfl,rfl,rfl,rfl,rfl,rfl,rfl,rfl⟩ ⟨rfl,rfl,rfl,rfl,rfl,rfl,rfl,rfl,rfl,rfl⟩)
def JX (r:Rul) (s:Inn) (d:Del):Inn :=
 let o:=Ak r (Ab s d) (AE r d).counts
 let t:Inn:=cond o.2 (Fw o.1) o.1
 { t with runs:=IntKind.i64.wrap (s.runs+DM (AE r d)),wides:=IntKind.i64.wrap (s.wides+(AE r d).wides),noballs:=IntKind.i64.wrap (s.noballs+(AE r d).noballs),byes:=IntKind.i64.wrap (s.byes+(AE r d).byes),legbyes:=IntKind.i64.wrap (s.legbyes+(AE r d).legbyes),freehit:=cond (d.type==1) false (cond (d.type==3&&r.freehit) true o.1.freehit) }
theorem nC {r:Rul} {s:Inn} {d:Del} (h:((IU r s d).2==0)=true):(Fr r s d==0)=true∧(IU r s d).1=JX r s d:=by
 unfold IU at h ⊢
 cases hr:Fr r s d==0 with
 | false=>rw [hr] at h;exact absurd (hr▸h) (by decide)
 | true =>
  refine ⟨rfl,?_⟩
  obtain ⟨k1,k2,k3,k4,k5,_⟩:=jN s d
  simp only [Bool.not_true,cond_false,jo,k1,k2,k3,k4,k5,JX]
  generalize Ak r (Ab s d) (AE r d).counts=o
  obtain ⟨o1,o2⟩:=o
  cases o2<;>rfl
theorem cY {r:Rul} {s:Inn} {d:Del} (h:(Fr r s d==0)=true):DL s.batters s.striker s.other=false∧(s.bowler==0)=false∧(KG r s==0)=true∧(Cz d==0)=true∧(K6 d s.freehit==0)=true∧(KM s d==0)=true:=by
 unfold Fr at h
 cases h1:DL s.batters s.striker s.other with
 | true=>rw [h1] at h;cases h
 | false =>
  cases h2:s.bowler==0 with
  | true=>rw [h1,h2] at h;cases h
  | false =>
   rw [h1,h2] at h
   change (ei _ _ _ _==0)=true at h
   unfold ei at h
   cases h3:KG r s==0 with
   | false=>rw [h3] at h;exact absurd (h3▸h) (by decide)
   | true =>
    cases h4:Cz d==0 with
    | false=>rw [h3,h4] at h;exact absurd (h4▸h) (by decide)
    | true =>
     cases h5:K6 d s.freehit==0 with
     | false=>rw [h3,h4,h5] at h;exact absurd (h5▸h) (by decide)
     | true =>
      cases h6:KM s d==0 with
      | false=>rw [h3,h4,h5,h6] at h;exact absurd (h6▸h) (by decide)
      | true=>exact ⟨rfl,rfl,rfl,rfl,rfl,rfl⟩
theorem gl {d:Del} {f:Bool} (h:(K6 d f==0)=true) (hd:(d.how==0)=false):(d.victim==1)=true∨(d.victim==2)=true:=by
 unfold K6 at h
 rw [hd] at h
 cases h1:d.victim==1 with
 | true=>exact .inl rfl
 | false =>
  cases h2:d.victim==2 with
  | true=>exact .inr rfl
  | false =>
   rw [h1,h2] at h
   exfalso
   revert h
   cases (!onS d.how d.type||f && !aI d.how)<;>cases (!NL d.how&&(!(d.source==0) || !(d.runs==0)))<;>intro h<;>cases h
theorem jd {s:Inn} {e:Ev} (h:ZK s e=false) (hk:(e.kind==2)=false):Bp s.batters=true:=by
 unfold ZK at h
 rw [hk] at h
 cases hb:Bp s.batters with
 | true=>rfl
 | false=>rw [hb] at h;simp at h
theorem vU {s : Inn} {d : Del} (h1 : (s.striker == 0) = false) (h2 : (s.other == 0) = false) (hv : (d.how == 0) = false → (d.victim == 1) = true ∨ (d.victim == 2) = true) :
    (Ab s d).wickets=cond (d.how==0) s.wickets (inc s.wickets):=by
  unfold Ab
  rw [h1,h2]
  cases hd:d.how==0 with
  | true=>cases (!(d.runs.tmod 2==0) != d.crossed)<;>rfl
  | false =>
    rcases hv hd with h | h<;>rw [h]<;>cases (!(d.runs.tmod 2==0) != d.crossed)<;>cases d.victim==1<;>rfl
theorem vK (r:Rul) (s:Inn) (b:Bool):(Ak r s b).1.wickets=s.wickets∧(Ak r s b).1.pens=s.pens:=by
 unfold Ak
 exact P_c (P:=fun x:Inn×Bool=>x.1.wickets=s.wickets∧x.1.pens=s.pens) _ _ _ ⟨rfl,rfl⟩ (P_c (P:=fun x:Inn×Bool=>x.1.wickets=s.wickets∧x.1.pens=s.pens) _ _ _ ⟨rfl,rfl⟩ ⟨rfl,rfl⟩)
theorem wD {r : Rul} {s : Inn} {b : Bool} (hr : RulOk r) (hc : A1 r = 0) (hb : inR s.bowler s.bowled.length = true) (hi : 0 ≤ s.inover ∧ s.inover ≤ r.balls - 1) (hn : Bl s.complete) :
    IntKind.i64.wrap (CR r.balls (Ak r s b).1.complete (Ak r s b).1.inover - CR r.balls s.complete s.inover)=cond b 1 0:=by
  have hk:∃ k:Nat,r.balls=k:=⟨r.balls.toNat,by have:=hr.balls;omega⟩
  have hz:=hr.balls
  unfold Bl at hn
  unfold Ak CR
  rw [hb,hc]
  cases b with
  | false =>
    have h1:iLt s.inover r.balls=true:=by simp only [iLt,decide_eq_true_eq];omega
    simp only [cond_false,h1,beq_self_eq_true,Bool.not_true,Bool.or_false,cond_true]
    exact bF _
  | true =>
    have h2:inc s.inover=s.inover+1:=Bs (by omega) (by omega)
    simp only [cond_true,h2,beq_self_eq_true,Bool.not_true,Bool.or_false,cond_false]
    have h3:inc s.complete=s.complete+1:=Bs (by omega) (by omega)
    have hb5:r.balls=4∨r.balls=5∨r.balls=6∨r.balls=7∨r.balls=8:=by omega
    cases h1:iLt (s.inover+1) r.balls with
    | true =>
      simp only [cond_true]
      rcases hb5 with e | e | e | e | e<;>rw [e] at hi ⊢<;>simp only [Qf]<;>omega
    | false =>
      simp only [iLt,decide_eq_false_iff_not] at h1
      simp only [cond_false,h3]
      rcases hb5 with e | e | e | e | e<;>rw [e] at hi h1 ⊢<;>simp only [Qf]<;>omega
end Go.Px
end
section
namespace Go.Px
set_option maxRecDepth 100000
theorem ij {L:Rows} {s n:Int} (h:DL L s n=false) (hb:Bp L=true):(s==0)=false∧(n==0)=false:=by
 unfold DL at h
 rw [hb,Bool.true_and,Bool.or_eq_false_iff] at h
 exact h
theorem xZ {r:Rul} {s:Inn} (h:InnOk r s) (hb:(s.bowler==0)=false):inR s.bowler s.bowled.length=true:=by
 have h1:=h.bow
 have h2:=h.ld
 rw [beq_eq_false_iff_ne] at hb
 simp only [inR,iLe,Bool.and_eq_true,decide_eq_true_eq]
 omega
theorem xg {r : Rul} {s : Inn} {e : Ev} (hk : (e.kind == 4) = true) (h : ((Ar r s e).2 == 0) = true) :
    IntKind.i64.wrap ((Ar r s e).1.runs - s.runs)=DM (AE r e.ball)∧IntKind.i64.wrap ((Ar r s e).1.wides - s.wides)=(AE r e.ball).wides∧IntKind.i64.wrap ((Ar r s e).1.noballs - s.noballs)=(AE r e.ball).noballs ∧
    IntKind.i64.wrap ((Ar r s e).1.byes - s.byes)=(AE r e.ball).byes∧IntKind.i64.wrap ((Ar r s e).1.legbyes - s.legbyes)=(AE r e.ball).legbyes∧(Ar r s e).1.pens=s.pens ∧
    IntKind.i64.wrap (CR r.balls (Ar r s e).1.complete (Ar r s e).1.inover - CR r.balls s.complete s.inover)=cond (AE r e.ball).counts 1 0 ∧
    IntKind.i64.wrap ((Ar r s e).1.wickets - s.wickets)=cond (e.ball.how==0) 0 1∧(Ar r s e).1.fresh=true∧IntKind.i64.wrap (Ar r s e).1.runs=(Ar r s e).1.runs:=by
  obtain ⟨hv,he,hn,hw,hp,hs⟩:=Yy h
  have k4:=beq_iff_eq.1 hk
  have hpb:BJ r s e=IU r s e.ball:=by unfold BJ;rw [k4];rfl
  obtain ⟨d,hd0⟩:∃ d,d=e.ball:=⟨_,rfl⟩
  rw [← hd0] at hpb ⊢
  rw [hpb] at hp hs
  obtain ⟨hr,hb⟩:=nC hp
  obtain ⟨q1,q2,q3,q4,q5,q6⟩:=cY hr
  have ok:=NO.1 hv
  have rk:=Dn ok.code
  have hbeg:Bp s.batters=true:=jd hw (by rw [k4];rfl)
  obtain ⟨z1,z2⟩:=ij q1 hbeg
  have hin:=xZ ok q2
  have hout:=vU (d:=d) z1 z2 (fun hd=>gl q5 hd)
  obtain ⟨k1,k2,k3,k4,k5,k6,k7,k8,k9,k10⟩:=jN s d
  have hbl:=wD (b:=(AE r d).counts) (s:=Ab s d) rk ok.code (by rw [k9,k10];exact hin) (by rw [k8];exact ok.io) (by rw [k7];exact ok.complete)
  rw [k7,k8] at hbl
  obtain ⟨w1,w2⟩:=vK r (Ab s d) (AE r d).counts
  rw [hs,hb]
  have hc:AE r d=TR r d:=by unfold AE;rw [q4];rfl
  have ht:IntKind.i64.wrap (DM (AE r d))=DM (AE r d):=H3 _
  have c1:IntKind.i64.wrap (AE r d).wides=(AE r d).wides:=by rw [hc];unfold TR;simp only;cases d.type==2<;>first | rfl | exact H3 _
  have c2:IntKind.i64.wrap (AE r d).noballs=(AE r d).noballs:=by
    have:=rk.noball
    rw [hc];unfold TR;simp only;cases d.type==3<;>first | rfl | exact Bs (n:=r.noball) (by omega) (by omega)
  have c3:IntKind.i64.wrap (AE r d).byes=(AE r d).byes:=by rw [hc];unfold TR;simp only;cases (!(d.type==2)&&d.source==2)<;>first | rfl | exact H3 _
  have c4:IntKind.i64.wrap (AE r d).legbyes=(AE r d).legbyes:=by rw [hc];unfold TR;simp only;cases (!(d.type==2)&&d.source==3)<;>first | rfl | exact H3 _
  refine ⟨(NR _ _).trans ht,(NR _ _).trans c1,(NR _ _).trans c2,(NR _ _).trans c3,(NR _ _).trans c4,?_,?_,?_,hk,H3 _⟩
  · have : (Br r (JX r s d) (e.kind == 4)).pens = (Ak r (Ab s d) (AE r d).counts).1.pens := by
      show (cond (Ak r (Ab s d) (AE r d).counts).2 (Fw (Ak r (Ab s d) (AE r d).counts).1) (Ak r (Ab s d) (AE r d).counts).1).pens=_
      cases (Ak r (Ab s d) (AE r d).counts).2<;>rfl
    rw [this,w2,k6]
  · have e1 : (Br r (JX r s d) (e.kind == 4)).complete = (Ak r (Ab s d) (AE r d).counts).1.complete := by
      show (cond (Ak r (Ab s d) (AE r d).counts).2 (Fw (Ak r (Ab s d) (AE r d).counts).1) (Ak r (Ab s d) (AE r d).counts).1).complete=_
      cases (Ak r (Ab s d) (AE r d).counts).2<;>rfl
    have e2:(Br r (JX r s d) (e.kind==4)).inover=(Ak r (Ab s d) (AE r d).counts).1.inover:=by
      show (cond (Ak r (Ab s d) (AE r d).counts).2 (Fw (Ak r (Ab s d) (AE r d).counts).1) (Ak r (Ab s d) (AE r d).counts).1).inover=_
      cases (Ak r (Ab s d) (AE r d).counts).2<;>rfl
    rw [e1,e2,hbl]
  · have : (Br r (JX r s d) (e.kind == 4)).wickets = (Ak r (Ab s d) (AE r d).counts).1.wickets := by
      show (cond (Ak r (Ab s d) (AE r d).counts).2 (Fw (Ak r (Ab s d) (AE r d).counts).1) (Ak r (Ab s d) (AE r d).counts).1).wickets=_
      cases (Ak r (Ab s d) (AE r d).counts).2<;>rfl
    rw [this,w1,hout]
    unfold inc
    cases d.how==0 with
    | true=>exact bF _
    | false=>exact (NR s.wickets 1).trans rfl
end Go.Px
end
section
namespace Go.Px
set_option maxRecDepth 100000
def zo:Inn:=⟨0,0,0,0,0,0,0,0,0,0,0,0,0,0,[],0,[],[],false,[],false,0,0,0,[],0,0,0⟩
def zt (n:Nat) (overs side t p:Int):Inn:=⟨side,t,overs,p,0,0,0,0,0,p,0,0,0,0,List.replicate n [.int 0],0,[],[],false,List.replicate n [.int 0],false,0,0,0,List.replicate n [.bool false],0,0,0⟩
def BZ (r:Rul) (side t p:Int):Inn×Int :=
 cond (!(A1 r==0)) (zo,A1 r) (cond (!btw side 1 2 || !btw t 0 1000000 || !btw p 0 1000000) (zo,2) (zt r.side.toNat r.overs side t p,0))
theorem V2 {N:Nat} {r1 r2 r3 r4 r5 r6 r7 r9 r10 r11 r12:Int} {r8:Bool} {r0:ByteArray} {r13:Rows} {a:Int} {b:Int} {c:Int} (hN:2097152<N) (hs:r0.size≤1048576):GF N [.str r0,.int r1,.int r2,.int r3,.int r4,.int r5,.int r6,.int r7,.bool r8,.int r9,.int r10,.int r11,.int r12,.rows r13,.int a,.int b,.int c]=some (AZ (BZ (⟨r0,r1,r2,r3,r4,r5,r6,r7,r8,r9,r10,r11,r12,r13⟩:Rul) a b c)):=by
 show Js (std (G2 N) N) (xOf _)=_
 generalize hres:(some (AZ (BZ (⟨r0,r1,r2,r3,r4,r5,r6,r7,r8,r9,r10,r11,r12,r13⟩:Rul) a b c)):Option (List PV))=RR
 simp only [Js,R3,Ns,std,xOf,PXb,DX hN hs,Dz]
 subst hres;simp only [BZ]
 cases hc:A1 (⟨r0,r1,r2,r3,r4,r5,r6,r7,r8,r9,r10,r11,r12,r13⟩:Rul)==0 with
 | false=>rfl
 | true =>
  have rk:=(Dn (beq_iff_eq.1 hc)).side
  obtain ⟨k,hk⟩:∃ k:Nat,r1=k:=⟨r1.toNat,by simp only at rk;omega⟩
  subst hk
  simp only at rk
  have h1:iSm (k:Int) 1=true:=DF (by omega) (by omega)
  have h8:iSm (k:Int) 8=true:=DF (by omega) (by omega)
  simp only [PXb,PXc,PXn,PXm,Nat.reduceAdd,Int.reduceBEq,h1,h8]
  cases btw a 1 2<;>cases btw b 0 1000000<;>cases btw c 0 1000000<;>rfl
theorem gQ {N:Nat} {r1 r2 r3 r4 r5 r6 r7 r9 r10 r11 r12:Int} {r8:Bool} {r0:ByteArray} {r13:Rows} {a:Int} {b:Int} {c:Int} (hN:2097152<N) (hs:r0.size≤1048576):Qq N [.str r0,.int r1,.int r2,.int r3,.int r4,.int r5,.int r6,.int r7,.bool r8,.int r9,.int r10,.int r11,.int r12,.rows r13,.int a,.int b,.int c]=some (AZ (BZ (⟨r0,r1,r2,r3,r4,r5,r6,r7,r8,r9,r10,r11,r12,r13⟩:Rul) a b c)):=by
 show Q4 (std (Mv N) N) (xOf _)=_
 generalize hres:(some (AZ (BZ (⟨r0,r1,r2,r3,r4,r5,r6,r7,r8,r9,r10,r11,r12,r13⟩:Rul) a b c)):Option (List PV))=RR
 simp only [Q4,Ys,dN,std,xOf,PXb,Ew hN hs,cX]
 subst hres;simp only [BZ]
 cases hc:A1 (⟨r0,r1,r2,r3,r4,r5,r6,r7,r8,r9,r10,r11,r12,r13⟩:Rul)==0 with
 | false=>rfl
 | true =>
  have rk:=(Dn (beq_iff_eq.1 hc)).side
  obtain ⟨k,hk⟩:∃ k:Nat,r1=k:=⟨r1.toNat,by simp only at rk;omega⟩
  subst hk
  simp only at rk
  simp only [PXb]
  cases btw a 1 2<;>try rfl
  cases btw b 0 1000000<;>try rfl
  cases btw c 0 1000000<;>try rfl
  simp only [PXb]
  refine AL (Ce (len:=k) (fun i=>[.int (i:Int),.int a,.int b,.int r3,.int c,.int 0,.int 0,.int 0,.int 0,.int 0,.int c,.int 0,.int 0,.int 0,.int 0,.rows (List.replicate i [.int 0]),.int 0,.rows [],.rows [],.bool false,.rows (List.replicate i [.int 0]),.bool false,.int 0,.int 0,.int 0,.rows (List.replicate i [.bool false]),.int 0,.int 0,.int 0]) (zt k r3 a b c).ls ?_ ?_ N (by omega)) rfl
  ·intro self
   simp only [PXb,PXc,PXn,PXm,Nat.reduceAdd,Int.reduceBEq,Au]
   rfl
  ·intro i self hi
   have l1:(List.replicate i [PV.int 0]++[[PV.int 0]]).length≤1048576:=by simp;omega
   have l2:(List.replicate i [PV.bool false]++[[PV.bool false]]).length≤1048576:=by simp;omega
   simp only [PXb,PXc,PXn,PXm,Nat.reduceAdd,Int.reduceBEq,AX (show i≤1099511627776 by omega),Ao hi,J9 l1 (show 1≤4096 by omega),J9 l1 (show 8≤4096 by omega),J9 l2 (show 1≤4096 by omega)]
   rw [List.replicate_succ',List.replicate_succ']
   rfl
theorem D0 {N:Nat} {L:Rows} {M:Rows} (hN:2097152<N) (hl:L.length≤1048576):CT N [.rows L,.rows M]=some [.bool (eqL L M)]:=by
 show GM (std (N5 N) N) (xOf _)=_
 simp only [GM,std,xOf,PXb,PXc,PXn,AB]
 unfold eqL
 cases hm:(L.length:Int)==(M.length:Int) with
 | false=>rfl
 | true =>
  simp only [PXb,PXc,PXn,AB]
  refine AL (CU (len:=L.length) (fun i => !(atI L i 0==atI M i 0)) [.bool false] ?_ ?_ N (by omega)) ?_
  ·intro self
   simp only [PXb,PXc,PXn,AB,Au]
  ·intro i self hi
   simp only [PXb,PXc,PXn,AB,AX (show i≤1099511627776 by omega),Ao hi,AP hi,AAL hm hi,A6]
  ·cases Aw (fun i => !(atI L i 0==atI M i 0)) L.length 0<;>rfl
theorem Ig (r:Rul) (side t p:Int):(BZ r side t p).1.Fit∧(BZ r side t p).1.before=[]∧(BZ r side t p).1.bowlers=[]:=by
 unfold BZ
 cases hc:A1 r==0 with
 | false=>exact ⟨⟨by show 0≤1048576;omega,by show 0≤1048576;omega,by show 0≤1048576;omega,by show 0≤1048576;omega,by show 0≤1048576;omega⟩,rfl,rfl⟩
 | true =>
  have hs:=(Dn (beq_iff_eq.1 hc)).side
  have hl:∀ x:List PV,(List.replicate r.side.toNat x).length≤1048576:=fun x=>by rw [List.length_replicate];omega
  cases (!btw side 1 2 || !btw t 0 1000000 || !btw p 0 1000000) with
  | true=>exact ⟨⟨by show 0≤1048576;omega,by show 0≤1048576;omega,by show 0≤1048576;omega,by show 0≤1048576;omega,by show 0≤1048576;omega⟩,rfl,rfl⟩
  | false=>exact ⟨⟨hl _,by show 0≤1048576;omega,by show 0≤1048576;omega,hl _,hl _⟩,rfl,rfl⟩
theorem AAH {s:Inn} (h:s.Fit):(JW s).Fit:=⟨h.bt,h.bw,h.bf,h.bd,h.sb⟩
end Go.Px
end
section
namespace Go.Px
set_option maxRecDepth 100000
structure BatOk (L:Rows) (s n wk:Int):Prop where
 le:∀ i,i<L.length→atI L i 0≤3
 at1:∀ i,i<L.length→(atI L i 0=1↔(s=(i:Int)+1∨n=(i:Int)+1))
 here:Bp L=true→s≠0∨n≠0
 ne:s≠0→s≠n
 wk:wk=eC L
end Go.Px
end
section
namespace Go.Px
set_option maxRecDepth 100000
theorem AAa {r:Rul} {s:Inn} (h:InnOk r s):2≤r.side∧r.side≤11:=(Dn h.code).side
end Go.Px
end
section
namespace Go.Px
set_option maxRecDepth 100000
structure Small (s:Inn):Prop where
 target:s.target≤999999900
 runs:s.runs≤999999900
 wides:s.wides≤999999900
 noballs:s.noballs≤999999900
 byes:s.byes≤999999900
 legbyes:s.legbyes≤999999900
 pens:s.pens≤999999900
 complete:s.complete≤999999900
 ballage:s.ballage≤999999900
 rev1:s.rev1≤999999900
 rev2:s.rev2≤999999900
 bowled:∀ j,j<s.bowled.length→atI s.bowled j 0≤999999900
end Go.Px
end
section
namespace Go.Px
def AR (xs:List Inn):Rows:=xs.map Inn.ls
def dI:Inn:=⟨0,0,0,0,0,0,0,0,0,0,0,0,0,0,[],0,[],[],false,[],false,0,0,0,[],0,0,0⟩
def inn (xs:List Inn) (i:Nat):Inn:=xs.getD i dI
structure Mat where
 rules:Rul
 stage:Int
 first:Int
 follow:Bool
 inns:List Inn
 pen1:Int
 pen2:Int
 win:Int
 wside:Int
 margin:Int
def Mat.ls (m:Mat):List PV:=[.str m.rules.name,.int m.rules.side,.int m.rules.innings,.int m.rules.overs,.int m.rules.balls,.int m.rules.quota,.int m.rules.wide,.int m.rules.noball,.bool m.rules.freehit,.int m.rules.newball,.int m.rules.followon,.int m.rules.reviews,.int m.rules.outside,.rows m.rules.power,.int m.stage,.int m.first,.bool m.follow,.rows (AR m.inns),.int m.pen1,.int m.pen2,.int m.win,.int m.wside,.int m.margin]
def Gz (x:Mat×Int):List PV:=[.str x.1.rules.name,.int x.1.rules.side,.int x.1.rules.innings,.int x.1.rules.overs,.int x.1.rules.balls,.int x.1.rules.quota,.int x.1.rules.wide,.int x.1.rules.noball,.bool x.1.rules.freehit,.int x.1.rules.newball,.int x.1.rules.followon,.int x.1.rules.reviews,.int x.1.rules.outside,.rows x.1.rules.power,.int x.1.stage,.int x.1.first,.bool x.1.follow,.rows (AR x.1.inns),.int x.1.pen1,.int x.1.pen2,.int x.1.win,.int x.1.wside,.int x.1.margin,.int x.2]
theorem mY (xs:List Inn) (i:Nat):Ad (AR xs) i=(match xs[i]? with | some s=>s.ls | none=>[]):=by
 unfold Ad AR
 rw [List.getD_eq_getElem?_getD,List.getElem?_map]
 cases xs[i]?<;>rfl
theorem Pi (xs:List Inn) (i:Nat):inn xs i=(match xs[i]? with | some s=>s | none=>dI):=by
 unfold inn
 rw [List.getD_eq_getElem?_getD]
 cases xs[i]?<;>rfl
theorem ib (xs:List Inn):(AR xs).length=xs.length:=List.length_map _
theorem PXi : (∀ xs : List Inn, (AR xs).length = xs.length) ∧ (∀ (xs : List Inn) (i : Nat), pvI (AK (AR xs) i 0) = (inn xs i).side) ∧ (∀ (xs : List Inn) (i : Nat), pvI (AK (AR xs) i 1) = (inn xs i).target) ∧ (∀ (xs : List Inn) (i : Nat), pvI (AK (AR xs) i 2) = (inn xs i).overs) ∧ (∀ (xs : List Inn) (i : Nat), pvI (AK (AR xs) i 3) = (inn xs i).runs) ∧
    (∀ (xs:List Inn) (i:Nat),pvI (AK (AR xs) i 4)=(inn xs i).wickets)∧(∀ (xs:List Inn) (i:Nat),pvI (AK (AR xs) i 5)=(inn xs i).wides)∧(∀ (xs:List Inn) (i:Nat),pvI (AK (AR xs) i 6)=(inn xs i).noballs)∧(∀ (xs:List Inn) (i:Nat),pvI (AK (AR xs) i 7)=(inn xs i).byes)∧(∀ (xs:List Inn) (i:Nat),pvI (AK (AR xs) i 8)=(inn xs i).legbyes) ∧
    (∀ (xs:List Inn) (i:Nat),pvI (AK (AR xs) i 9)=(inn xs i).pens)∧(∀ (xs:List Inn) (i:Nat),pvI (AK (AR xs) i 10)=(inn xs i).complete)∧(∀ (xs:List Inn) (i:Nat),pvI (AK (AR xs) i 11)=(inn xs i).inover)∧(∀ (xs:List Inn) (i:Nat),pvI (AK (AR xs) i 12)=(inn xs i).striker)∧(∀ (xs:List Inn) (i:Nat),pvI (AK (AR xs) i 13)=(inn xs i).other) ∧
    (∀ (xs:List Inn) (i:Nat),pvL (AK (AR xs) i 14)=(inn xs i).batters)∧(∀ (xs:List Inn) (i:Nat),pvI (AK (AR xs) i 15)=(inn xs i).bowler)∧(∀ (xs:List Inn) (i:Nat),pvL (AK (AR xs) i 16)=(inn xs i).bowlers)∧(∀ (xs:List Inn) (i:Nat),pvL (AK (AR xs) i 17)=(inn xs i).before)∧(∀ (xs:List Inn) (i:Nat),pvB (AK (AR xs) i 18)=(inn xs i).fresh) ∧
    (∀ (xs:List Inn) (i:Nat),pvL (AK (AR xs) i 19)=(inn xs i).bowled)∧(∀ (xs:List Inn) (i:Nat),pvB (AK (AR xs) i 20)=(inn xs i).freehit)∧(∀ (xs:List Inn) (i:Nat),pvI (AK (AR xs) i 21)=(inn xs i).ballage)∧(∀ (xs:List Inn) (i:Nat),pvI (AK (AR xs) i 22)=(inn xs i).keeper)∧(∀ (xs:List Inn) (i:Nat),pvI (AK (AR xs) i 23)=(inn xs i).outside) ∧
    (∀ (xs:List Inn) (i:Nat),pvL (AK (AR xs) i 24)=(inn xs i).subs)∧(∀ (xs:List Inn) (i:Nat),pvI (AK (AR xs) i 25)=(inn xs i).rev1)∧(∀ (xs:List Inn) (i:Nat),pvI (AK (AR xs) i 26)=(inn xs i).rev2)∧(∀ (xs:List Inn) (i:Nat),pvI (AK (AR xs) i 27)=(inn xs i).ending):=by
  refine ⟨ib,?_,?_,?_,?_,?_,?_,?_,?_,?_,?_,?_,?_,?_,?_,?_,?_,?_,?_,?_,?_,?_,?_,?_,?_,?_,?_,?_,?_⟩
  all_goals (intro xs i;rw [Pi];unfold AK;rw [mY];cases xs[i]?<;>rfl)
theorem Mat.eta (m:Mat):Mat.mk m.rules m.stage m.first m.follow m.inns m.pen1 m.pen2 m.win m.wside m.margin=m:=rfl
theorem PXk : (∀ m : Mat, m.ls = [.str m.rules.name, .int m.rules.side, .int m.rules.innings, .int m.rules.overs, .int m.rules.balls, .int m.rules.quota, .int m.rules.wide, .int m.rules.noball, .bool m.rules.freehit, .int m.rules.newball, .int m.rules.followon, .int m.rules.reviews, .int m.rules.outside, .rows m.rules.power, .int m.stage, .int m.first, .bool m.follow, .rows (AR m.inns), .int m.pen1, .int m.pen2, .int m.win, .int m.wside, .int m.margin]) ∧
    (∀ x:Mat×Int,Gz x=[.str x.1.rules.name,.int x.1.rules.side,.int x.1.rules.innings,.int x.1.rules.overs,.int x.1.rules.balls,.int x.1.rules.quota,.int x.1.rules.wide,.int x.1.rules.noball,.bool x.1.rules.freehit,.int x.1.rules.newball,.int x.1.rules.followon,.int x.1.rules.reviews,.int x.1.rules.outside,.rows x.1.rules.power,.int x.1.stage,.int x.1.first,.bool x.1.follow,.rows (AR x.1.inns),.int x.1.pen1,.int x.1.pen2,.int x.1.win,.int x.1.wside,.int x.1.margin,.int x.2]) ∧
    (∀ m:Mat,Mat.mk m.rules m.stage m.first m.follow m.inns m.pen1 m.pen2 m.win m.wside m.margin=m):=⟨fun _=>rfl,fun _=>rfl,fun _=>rfl⟩
theorem vB:∀ (ps r pre:List PV),r.length=ps.length→Bw (pre++r) pre.length ps=pre++ps
 | [],r,pre,h=>by
  have:r=[]:=List.eq_nil_of_length_eq_zero h
  subst this
  rfl
 | p::ps,[],pre,h=>by cases h
 | p::ps,a::r,pre,h=>by
  have ih:=vB ps r (pre++[p]) (by simpa using h)
  simp only [List.length_append,List.length_cons,List.length_nil,List.append_assoc,List.cons_append,List.nil_append] at ih
  unfold Bw
  rw [List.set_append_right _ _ (Nat.le_refl _),Nat.sub_self]
  exact ih
theorem ABG (a s:Inn):Bw a.ls 0 s.ls=s.ls:=vB s.ls a.ls [] rfl
theorem z5 (a:Inn) (e:Int):Bw a.ls 27 [.int e]=Inn.ls { a with ending:=e }:=by
 show a.ls.set 27 (.int e)=_
 rfl
theorem AAY {xs:List Inn} {i:Nat} (h:i<xs.length) (s:Inn):(AR xs).set i (Bw (Ad (AR xs) i) 0 s.ls)=AR (xs.set i s):=by
 have e:Ad (AR xs) i=(xs[i]).ls:=by rw [mY,List.getElem?_eq_getElem h]
 rw [e,ABG]
 exact List.map_set.symm
theorem AAe {xs:List Inn} {i:Nat} (h:i<xs.length) (e:Int):(AR xs).set i (Bw (Ad (AR xs) i) 27 [.int e])=AR (xs.set i { inn xs i with ending:=e }):=by
 have e1:Ad (AR xs) i=(inn xs i).ls:=by rw [mY,Pi,List.getElem?_eq_getElem h]
 rw [e1,z5]
 exact List.map_set.symm
theorem AAT (xs:List Inn) (s:Inn):AR xs++[s.ls]=AR (xs++[s]):=by
 show List.map Inn.ls xs++List.map Inn.ls [s]=List.map Inn.ls (xs++[s])
 exact List.map_append.symm
theorem AAF (xs:List Inn) (i:Nat) (s:Inn):(AR xs).set i (Bw (Ad (AR xs) i) 0 s.ls)=AR (xs.set i s):=by
 by_cases h:i<xs.length
 ·exact AAY h s
 ·rw [List.set_eq_of_length_le (by rw [ib];omega),List.set_eq_of_length_le (by omega)]
theorem uK (xs:List Inn) (i:Nat) (e:Int):(AR xs).set i (Bw (Ad (AR xs) i) 27 [.int e])=AR (xs.set i { inn xs i with ending:=e }):=by
 by_cases h:i<xs.length
 ·exact AAe h e
 ·rw [List.set_eq_of_length_le (by rw [ib];omega),List.set_eq_of_length_le (by omega)]
theorem PXr : (∀ (xs : List Inn) (x0 x1 x2 x3 x4 x5 x6 x7 x8 x9 x10 x11 x12 x13 x15 x21 x22 x23 x25 x26 x27 : Int) (x18 x20 : Bool) (x14 x16 x17 x19 x24 : Rows), AR xs ++ [([.int x0, .int x1, .int x2, .int x3, .int x4, .int x5, .int x6, .int x7, .int x8, .int x9, .int x10, .int x11, .int x12, .int x13, .rows x14, .int x15, .rows x16, .rows x17, .bool x18, .rows x19, .bool x20, .int x21, .int x22, .int x23, .rows x24, .int x25, .int x26, .int x27] : List PV)] = AR (xs ++ [⟨x0, x1, x2, x3, x4, x5, x6, x7, x8, x9, x10, x11, x12, x13, x14, x15, x16, x17, x18, x19, x20, x21, x22, x23, x24, x25, x26, x27⟩])) ∧ (∀ (xs : List Inn) (i : Nat) (x0 x1 x2 x3 x4 x5 x6 x7 x8 x9 x10 x11 x12 x13 x15 x21 x22 x23 x25 x26 x27 : Int) (x18 x20 : Bool) (x14 x16 x17 x19 x24 : Rows), (AR xs).set i (Bw (Ad (AR xs) i) 0 [.int x0, .int x1, .int x2, .int x3, .int x4, .int x5, .int x6, .int x7, .int x8, .int x9, .int x10, .int x11, .int x12, .int x13, .rows x14, .int x15, .rows x16, .rows x17, .bool x18, .rows x19, .bool x20, .int x21, .int x22, .int x23, .rows x24, .int x25, .int x26, .int x27]) = AR (xs.set i ⟨x0, x1, x2, x3, x4, x5, x6, x7, x8, x9, x10, x11, x12, x13, x14, x15, x16, x17, x18, x19, x20, x21, x22, x23, x24, x25, x26, x27⟩)) ∧
    (∀ (xs:List Inn) (i:Nat) (e:Int),(AR xs).set i (Bw (Ad (AR xs) i) 27 [.int e])=AR (xs.set i { inn xs i with ending:=e })) :=
  ⟨fun xs x0 x1 x2 x3 x4 x5 x6 x7 x8 x9 x10 x11 x12 x13 x15 x21 x22 x23 x25 x26 x27 x18 x20 x14 x16 x17 x19 x24=>AAT xs ⟨x0,x1,x2,x3,x4,x5,x6,x7,x8,x9,x10,x11,x12,x13,x14,x15,x16,x17,x18,x19,x20,x21,x22,x23,x24,x25,x26,x27⟩,fun xs i x0 x1 x2 x3 x4 x5 x6 x7 x8 x9 x10 x11 x12 x13 x15 x21 x22 x23 x25 x26 x27 x18 x20 x14 x16 x17 x19 x24=>AAF xs i ⟨x0,x1,x2,x3,x4,x5,x6,x7,x8,x9,x10,x11,x12,x13,x14,x15,x16,x17,x18,x19,x20,x21,x22,x23,x24,x25,x26,x27⟩,uK⟩
end Go.Px
end
section
namespace Go.Px
set_option maxRecDepth 100000
def BR (n:Int):Int:=IntKind.i64.wrap (3 - n)
theorem Ii {N:Nat} {n:Int}  : BP N [.int n]=some [.int (BR n)]:=by
 show MV (std (WX N) N) (xOf _)=_
 simp only [MV,std,xOf,PXb,PXc,PXn,PXm,Nat.reduceAdd,Int.reduceBEq,BR]
theorem Gq {N:Nat} {n:Int}  : B7 N [.int n]=some [.int (BR n)]:=by
 show Q0 (std (aq N) N) (xOf _)=_
 simp only [Q0,std,xOf,PXb,PXc,PXn,PXm,Nat.reduceAdd,Int.reduceBEq,BR]
def CO (m:Mat) (i:Int):Int:=cond (cond (m.follow&&iLe 2 i) (i==2) (i.tmod 2==1)) (BR m.first) m.first
theorem Se {N:Nat} {m1 m2 m3 m4 m5 m6 m7 m9 m10 m11 m12 m14 m15 m18 m19 m20 m21 m22:Int} {m8 m16:Bool} {m0:ByteArray} {m13:Rows} {m17:List Inn} {i:Int}  : DW N [.str m0,.int m1,.int m2,.int m3,.int m4,.int m5,.int m6,.int m7,.bool m8,.int m9,.int m10,.int m11,.int m12,.rows m13,.int m14,.int m15,.bool m16,.rows (AR m17),.int m18,.int m19,.int m20,.int m21,.int m22,.int i]=some [.int (CO (⟨⟨m0,m1,m2,m3,m4,m5,m6,m7,m8,m9,m10,m11,m12,m13⟩,m14,m15,m16,m17,m18,m19,m20,m21,m22⟩:Mat) i)]:=by
 show MP (std (PA N) N) (xOf _)=_
 generalize hres:(some [.int (CO (⟨⟨m0,m1,m2,m3,m4,m5,m6,m7,m8,m9,m10,m11,m12,m13⟩,m14,m15,m16,m17,m18,m19,m20,m21,m22⟩:Mat) i)]:Option (List PV))=RR
 simp only [MP,Tg,std,xOf,PXb,PXc,PXn,PXm,Nat.reduceAdd,Int.reduceBEq,Ii]
 subst hres;simp only [CO]
theorem cp {N:Nat} {m1 m2 m3 m4 m5 m6 m7 m9 m10 m11 m12 m14 m15 m18 m19 m20 m21 m22:Int} {m8 m16:Bool} {m0:ByteArray} {m13:Rows} {m17:List Inn} {i:Int} (hi:0≤i∧i≤3):FF N [.str m0,.int m1,.int m2,.int m3,.int m4,.int m5,.int m6,.int m7,.bool m8,.int m9,.int m10,.int m11,.int m12,.rows m13,.int m14,.int m15,.bool m16,.rows (AR m17),.int m18,.int m19,.int m20,.int m21,.int m22,.int i]=some [.int (CO (⟨⟨m0,m1,m2,m3,m4,m5,m6,m7,m8,m9,m10,m11,m12,m13⟩,m14,m15,m16,m17,m18,m19,m20,m21,m22⟩:Mat) i)]:=by
 show O8 (std (Qb N) N) (xOf _)=_
 generalize hres:(some [.int (CO (⟨⟨m0,m1,m2,m3,m4,m5,m6,m7,m8,m9,m10,m11,m12,m13⟩,m14,m15,m16,m17,m18,m19,m20,m21,m22⟩:Mat) i)]:Option (List PV))=RR
 simp only [O8,W5,std,xOf,PXb,PXc,PXn,PXm,Nat.reduceAdd,Int.reduceBEq,Gq]
 subst hres;simp only [CO]
 have:i=0∨i=1∨i=2∨i=3:=by omega
 rcases this with h | h | h | h<;>subst h<;>cases m16<;>rfl
def Gh (xs:List Inn) (side:Int):Nat→Int
 | 0=>0
 | i+1=>cond ((inn xs i).side==side) (IntKind.i64.wrap (Gh xs side i+(inn xs i).runs)) (Gh xs side i)
def BB (m:Mat) (side:Int):Int:=Gh m.inns side m.inns.length
theorem Sj {N:Nat} {m1 m2 m3 m4 m5 m6 m7 m9 m10 m11 m12 m14 m15 m18 m19 m20 m21 m22:Int} {m8 m16:Bool} {m0:ByteArray} {m13:Rows} {m17:List Inn} {n:Int} (hN:2097152<N) (hl:m17.length≤1048576):B5 N [.str m0,.int m1,.int m2,.int m3,.int m4,.int m5,.int m6,.int m7,.bool m8,.int m9,.int m10,.int m11,.int m12,.rows m13,.int m14,.int m15,.bool m16,.rows (AR m17),.int m18,.int m19,.int m20,.int m21,.int m22,.int n]=some [.int (BB (⟨⟨m0,m1,m2,m3,m4,m5,m6,m7,m8,m9,m10,m11,m12,m13⟩,m14,m15,m16,m17,m18,m19,m20,m21,m22⟩:Mat) n)]:=by
 show My (std (Wm N) N) (xOf _)=_
 generalize hres:(some [.int (BB (⟨⟨m0,m1,m2,m3,m4,m5,m6,m7,m8,m9,m10,m11,m12,m13⟩,m14,m15,m16,m17,m18,m19,m20,m21,m22⟩:Mat) n)]:Option (List PV))=RR
 simp only [My,std,xOf,PXb,PXi]
 subst hres;simp only [BB]
 refine AL (Ce (len:=m17.length) (fun i=>[.int (Gh m17 n i),.int (i:Int)]) [.int (Gh m17 n m17.length)] ?_ ?_ N (by omega)) rfl
 ·intro self
  simp only [PXb,PXc,PXn,AB,Au]
 ·intro i self hi
  simp only [PXb,PXc,AB,AX (show i≤1099511627776 by omega),Ao hi,AP hi,PXi,Gh]
  cases (inn m17 i).side==n<;>rfl
theorem MB {N:Nat} {m1 m2 m3 m4 m5 m6 m7 m9 m10 m11 m12 m14 m15 m18 m19 m20 m21 m22:Int} {m8 m16:Bool} {m0:ByteArray} {m13:Rows} {m17:List Inn} {n:Int} (hN:2097152<N) (hl:m17.length≤1048576):E3 N [.str m0,.int m1,.int m2,.int m3,.int m4,.int m5,.int m6,.int m7,.bool m8,.int m9,.int m10,.int m11,.int m12,.rows m13,.int m14,.int m15,.bool m16,.rows (AR m17),.int m18,.int m19,.int m20,.int m21,.int m22,.int n]=some [.int (BB (⟨⟨m0,m1,m2,m3,m4,m5,m6,m7,m8,m9,m10,m11,m12,m13⟩,m14,m15,m16,m17,m18,m19,m20,m21,m22⟩:Mat) n)]:=by
 show Q7 (std (aY N) N) (xOf _)=_
 generalize hres:(some [.int (BB (⟨⟨m0,m1,m2,m3,m4,m5,m6,m7,m8,m9,m10,m11,m12,m13⟩,m14,m15,m16,m17,m18,m19,m20,m21,m22⟩:Mat) n)]:Option (List PV))=RR
 simp only [Q7,std,xOf,PXb,PXi]
 subst hres;simp only [BB]
 refine AL (Ce (len:=m17.length) (fun i=>[.int (Gh m17 n i),.int (i:Int)]) [.int (Gh m17 n m17.length)] ?_ ?_ N (by omega)) rfl
 ·intro self
  simp only [PXb,PXc,PXn,AB,Au]
 ·intro i self hi
  simp only [PXb,PXc,AB,AX (show i≤1099511627776 by omega),Ao hi,AP hi,PXi,Gh]
  cases (inn m17 i).side==n<;>rfl
def E6 (m:Mat) (side:Int):Int :=
 cond (iLt (IntKind.i64.wrap ((m.inns.length:Int)+1)) (IntKind.i64.wrap (2 * m.rules.innings))) 0 (IntKind.i64.wrap (IntKind.i64.wrap (BB m (BR side) - BB m side)+1))
theorem YO {N:Nat} {m1 m2 m3 m4 m5 m6 m7 m9 m10 m11 m12 m14 m15 m18 m19 m20 m21 m22:Int} {m8 m16:Bool} {m0:ByteArray} {m13:Rows} {m17:List Inn} {n:Int} (hN:2097152<N) (hl:m17.length≤1048576):G9 N [.str m0,.int m1,.int m2,.int m3,.int m4,.int m5,.int m6,.int m7,.bool m8,.int m9,.int m10,.int m11,.int m12,.rows m13,.int m14,.int m15,.bool m16,.rows (AR m17),.int m18,.int m19,.int m20,.int m21,.int m22,.int n]=some [.int (E6 (⟨⟨m0,m1,m2,m3,m4,m5,m6,m7,m8,m9,m10,m11,m12,m13⟩,m14,m15,m16,m17,m18,m19,m20,m21,m22⟩:Mat) n)]:=by
 show K4 (std (IW N) N) (xOf _)=_
 generalize hres:(some [.int (E6 (⟨⟨m0,m1,m2,m3,m4,m5,m6,m7,m8,m9,m10,m11,m12,m13⟩,m14,m15,m16,m17,m18,m19,m20,m21,m22⟩:Mat) n)]:Option (List PV))=RR
 simp only [K4,SG,Sh,std,xOf,PXb,PXc,PXn,PXm,Nat.reduceAdd,Int.reduceBEq,PXi,Ii,Sj hN hl]
 subst hres;simp only [E6]
def MF (stage:Int) (xs:List Inn) (i:Nat):Bool := !(((inn xs i).ending==0)==(stage==3&&((i:Int)==IntKind.i64.wrap ((xs.length:Int) - 1))))
def Yj (m:Mat):Bool := !Aw (MF m.stage m.inns) m.inns.length 0&&(!(m.stage==3)||iLt 0 (m.inns.length:Int))
theorem pf {N:Nat} {m1 m2 m3 m4 m5 m6 m7 m9 m10 m11 m12 m14 m15 m18 m19 m20 m21 m22:Int} {m8 m16:Bool} {m0:ByteArray} {m13:Rows} {m17:List Inn} (hN:2097152<N) (hl:m17.length≤1048576):Ix N [.str m0,.int m1,.int m2,.int m3,.int m4,.int m5,.int m6,.int m7,.bool m8,.int m9,.int m10,.int m11,.int m12,.rows m13,.int m14,.int m15,.bool m16,.rows (AR m17),.int m18,.int m19,.int m20,.int m21,.int m22]=some [.bool (Yj (⟨⟨m0,m1,m2,m3,m4,m5,m6,m7,m8,m9,m10,m11,m12,m13⟩,m14,m15,m16,m17,m18,m19,m20,m21,m22⟩:Mat))]:=by
 show Mr (std (Wl N) N) (xOf _)=_
 generalize hres:(some [.bool (Yj (⟨⟨m0,m1,m2,m3,m4,m5,m6,m7,m8,m9,m10,m11,m12,m13⟩,m14,m15,m16,m17,m18,m19,m20,m21,m22⟩:Mat))]:Option (List PV))=RR
 simp only [Mr,std,xOf,PXb,PXi]
 subst hres;simp only [Yj]
 refine AL (CU (len:=m17.length) (MF m14 m17) [.bool false] ?_ ?_ N (by omega)) ?_
 ·intro self
  simp only [PXb,PXc,PXn,AB,Au]
 ·intro i self hi
  simp only [PXb,PXc,AB,AX (show i≤1099511627776 by omega),Ao hi,AP hi,PXi,MF]
 ·cases Aw (MF m14 m17) m17.length 0 with
  | true=>rfl
  | false=>simp only [PXb,PXc,PXn,PXm,Nat.reduceAdd,Int.reduceBEq]
end Go.Px
end
section
namespace Go.Px
set_option maxRecDepth 100000
def Dp (xs:List Inn):Prop:=∀ i,i<xs.length→(inn xs i).Fit
theorem bm {N:Nat} {r1 r2 r3 r4 r5 r6 r7 r9 r10 r11 r12:Int} {r8:Bool} {r0:ByteArray} {r13:Rows} (hl:r13.length≤1048576):DY N [.str r0,.int r1,.int r2,.int r3,.int r4,.int r5,.int r6,.int r7,.bool r8,.int r9,.int r10,.int r11,.int r12,.rows r13]=some [.str r0,.int r1,.int r2,.int r3,.int r4,.int r5,.int r6,.int r7,.bool r8,.int r9,.int r10,.int r11,.int r12,.rows r13]:=by
 show Mo (std (N4 N) N) (xOf _)=_
 simp only [Mo,NJ,std,xOf,PXb,PXc,PXn,PXm,Nat.reduceAdd,Int.reduceBEq,DS,Bi hl (show 24≤4096 by omega)]
theorem iM {N:Nat} {r1 r2 r3 r4 r5 r6 r7 r9 r10 r11 r12:Int} {r8:Bool} {r0:ByteArray} {r13:Rows} (hl:r13.length≤1048576):E0 N [.str r0,.int r1,.int r2,.int r3,.int r4,.int r5,.int r6,.int r7,.bool r8,.int r9,.int r10,.int r11,.int r12,.rows r13]=some [.str r0,.int r1,.int r2,.int r3,.int r4,.int r5,.int r6,.int r7,.bool r8,.int r9,.int r10,.int r11,.int r12,.rows r13]:=by
 show RG (std (ax N) N) (xOf _)=_
 simp only [RG,std,xOf,PXb,PXc,PXn,PXm,Nat.reduceAdd,Int.reduceBEq,J9 hl (show 24≤4096 by omega)]
theorem bI {xs:List Inn} {i:Nat} (h:i<xs.length):xs.take i++[inn xs i]=xs.take (i+1):=by
 rw [List.take_add_one,Pi,List.getElem?_eq_getElem h]
 rfl
theorem pC {N:Nat} {m1 m2 m3 m4 m5 m6 m7 m9 m10 m11 m12 m14 m15 m18 m19 m20 m21 m22:Int} {m8 m16:Bool} {m0:ByteArray} {m13:Rows} {m17:List Inn} (hf:Dp m17) (hN:2097152<N) (hl:m17.length≤1000000) (h13:m13.length≤1048576):I6 N [.str m0,.int m1,.int m2,.int m3,.int m4,.int m5,.int m6,.int m7,.bool m8,.int m9,.int m10,.int m11,.int m12,.rows m13,.int m14,.int m15,.bool m16,.rows (AR m17),.int m18,.int m19,.int m20,.int m21,.int m22]=some [.str m0,.int m1,.int m2,.int m3,.int m4,.int m5,.int m6,.int m7,.bool m8,.int m9,.int m10,.int m11,.int m12,.rows m13,.int m14,.int m15,.bool m16,.rows (AR m17),.int m18,.int m19,.int m20,.int m21,.int m22]:=by
 show M1 (std (Jp N) N) (xOf _)=_
 simp only [M1,Tm,H8,std,xOf,PXb,bm h13,PXi]
 refine AL (Ce (len:=m17.length) (fun i=>[.rows (AR (m17.take i)),.int (i:Int)]) [.rows (AR m17)] ?_ ?_ N (by omega)) rfl
 ·intro self
  simp only [PXb,PXc,PXn,AB,Au,List.take_length]
 ·intro i self hi
  have h2:(m17.take (i+1)).length≤1048576:=by rw [List.length_take];omega
  have h3:iSm ((m17.take (i+1)).length:Int) 304=true:=DF (by omega) (by omega)
  simp only [PXb,PXc,AB,AX (show i≤1099511627776 by omega),Ao hi,AP hi,PXi,H8,CK (hf i hi),PXr,Inn.eta,h3,bI hi,Nat.reduceAdd]
  rfl
theorem gC {N:Nat} {m1 m2 m3 m4 m5 m6 m7 m9 m10 m11 m12 m14 m15 m18 m19 m20 m21 m22:Int} {m8 m16:Bool} {m0:ByteArray} {m13:Rows} {m17:List Inn} (hf:Dp m17) (hN:2097152<N) (hl:m17.length≤1000000) (h13:m13.length≤1048576):RJ N [.str m0,.int m1,.int m2,.int m3,.int m4,.int m5,.int m6,.int m7,.bool m8,.int m9,.int m10,.int m11,.int m12,.rows m13,.int m14,.int m15,.bool m16,.rows (AR m17),.int m18,.int m19,.int m20,.int m21,.int m22]=some [.str m0,.int m1,.int m2,.int m3,.int m4,.int m5,.int m6,.int m7,.bool m8,.int m9,.int m10,.int m11,.int m12,.rows m13,.int m14,.int m15,.bool m16,.rows (AR m17),.int m18,.int m19,.int m20,.int m21,.int m22]:=by
 show Qx (std (Me N) N) (xOf _)=_
 simp only [Qx,Xm,Na,std,xOf,PXb,iM h13,PXi]
 refine AL (Ce (len:=m17.length) (fun i=>[.rows (AR (m17.take i)),.int (i:Int)]) [.rows (AR m17)] ?_ ?_ N (by omega)) rfl
 ·intro self
  simp only [PXb,PXc,PXn,AB,Au,List.take_length]
 ·intro i self hi
  have h2:(m17.take (i+1)).length≤1048576:=by rw [List.length_take];omega
  have h3:iSm ((m17.take (i+1)).length:Int) 304=true:=DF (by omega) (by omega)
  simp only [PXb,PXc,AB,AX (show i≤1099511627776 by omega),Ao hi,AP hi,PXi,Na,Xa (hf i hi),PXr,Inn.eta,h3,bI hi,Nat.reduceAdd]
  rfl
def ABY:Rul:=⟨⟨#[]⟩,0,0,0,0,0,0,0,false,0,0,0,0,[]⟩
def wP:Mat:=⟨ABY,0,0,false,[],0,0,0,0,0⟩
def AW (r:Rul):Mat×Int:=cond (!(A1 r==0)) (wP,A1 r) (⟨r,1,0,false,[],0,0,0,0,0⟩,0)
theorem uC {N:Nat} {r1 r2 r3 r4 r5 r6 r7 r9 r10 r11 r12:Int} {r8:Bool} {r0:ByteArray} {r13:Rows} (hN:2097152<N) (hs:r0.size≤1048576) (h13:r13.length≤1048576):Qj N [.str r0,.int r1,.int r2,.int r3,.int r4,.int r5,.int r6,.int r7,.bool r8,.int r9,.int r10,.int r11,.int r12,.rows r13]=some (Gz (AW (⟨r0,r1,r2,r3,r4,r5,r6,r7,r8,r9,r10,r11,r12,r13⟩:Rul))):=by
 show Qu (std (Mm N) N) (xOf _)=_
 generalize hres:(some (Gz (AW (⟨r0,r1,r2,r3,r4,r5,r6,r7,r8,r9,r10,r11,r12,r13⟩:Rul))):Option (List PV))=RR
 simp only [Qu,Vi,Vj,std,xOf,PXb,PXc,PXn,PXm,Nat.reduceAdd,Int.reduceBEq,DX hN hs,bm h13]
 subst hres;simp only [AW]
 cases A1 (⟨r0,r1,r2,r3,r4,r5,r6,r7,r8,r9,r10,r11,r12,r13⟩:Rul)==0<;>rfl
theorem ob {N:Nat} {r1 r2 r3 r4 r5 r6 r7 r9 r10 r11 r12:Int} {r8:Bool} {r0:ByteArray} {r13:Rows} (hN:2097152<N) (hs:r0.size≤1048576) (h13:r13.length≤1048576):NZ N [.str r0,.int r1,.int r2,.int r3,.int r4,.int r5,.int r6,.int r7,.bool r8,.int r9,.int r10,.int r11,.int r12,.rows r13]=some (Gz (AW (⟨r0,r1,r2,r3,r4,r5,r6,r7,r8,r9,r10,r11,r12,r13⟩:Rul))):=by
 show WN (std (Q1 N) N) (xOf _)=_
 generalize hres:(some (Gz (AW (⟨r0,r1,r2,r3,r4,r5,r6,r7,r8,r9,r10,r11,r12,r13⟩:Rul))):Option (List PV))=RR
 simp only [WN,cC,br,std,xOf,PXb,PXc,PXn,PXm,Nat.reduceAdd,Int.reduceBEq,Ew hN hs,iM h13]
 subst hres;simp only [AW]
 cases A1 (⟨r0,r1,r2,r3,r4,r5,r6,r7,r8,r9,r10,r11,r12,r13⟩:Rul)==0<;>rfl
def Xx (m:Mat):Bool:=(iLt m.pen1 0||iLt 1000000 m.pen1)||(iLt m.pen2 0||iLt 1000000 m.pen2)
def KJ (m:Mat) (i:Nat):Bool := !EX m.rules (inn m.inns i) || !((inn m.inns i).side==CO m (i:Int))
def j9 (m:Mat):Bool :=
  let n:Int:=m.inns.length
  let most:=IntKind.i64.wrap (2 * m.rules.innings)
  A1 m.rules==0&&(!(iLt m.stage 1)&&(!(iLt 5 m.stage)&&(!Xx m&&(!(iLt m.first 0||iLt 2 m.first||iLt most n)&&(!(m.first==0&&(iLt 0 n||(!(m.stage==1) && !(m.stage==5)))) &&
    (!(m.stage==1 && !(m.first==0))&&(!(m.stage==2&&n==most)&&(!(m.stage==4&&(!(m.rules.innings==2) || !(n==2))) && !(m.follow&&(!(m.rules.innings==2)||iLt n 2))))))))))
def CW (m:Mat):Bool:=j9 m&&(!Aw (KJ m) m.inns.length 0&&Yj m)
set_option maxHeartbeats 4000000 in
theorem bB {N:Nat} {m1 m2 m3 m4 m5 m6 m7 m9 m10 m11 m12 m14 m15 m18 m19 m20 m21 m22:Int} {m8 m16:Bool} {m0:ByteArray} {m13:Rows} {m17:List Inn} (hf:Dp m17) (hN:2097152<N) (hl:m17.length≤1000000) (hs:m0.size≤1048576):Da N [.str m0,.int m1,.int m2,.int m3,.int m4,.int m5,.int m6,.int m7,.bool m8,.int m9,.int m10,.int m11,.int m12,.rows m13,.int m14,.int m15,.bool m16,.rows (AR m17),.int m18,.int m19,.int m20,.int m21,.int m22]=some [.bool (CW (⟨⟨m0,m1,m2,m3,m4,m5,m6,m7,m8,m9,m10,m11,m12,m13⟩,m14,m15,m16,m17,m18,m19,m20,m21,m22⟩:Mat))]:=by
 show Md (std (EG N) N) (xOf _)=_
 generalize hres:(some [.bool (CW (⟨⟨m0,m1,m2,m3,m4,m5,m6,m7,m8,m9,m10,m11,m12,m13⟩,m14,m15,m16,m17,m18,m19,m20,m21,m22⟩:Mat))]:Option (List PV))=RR
 simp only [Md,TO,H7,Jt,Jm,std,xOf,PXb,DX hN hs,PXi]
 subst hres;simp only [CW,j9]
 cases hc:A1 (⟨⟨m0,m1,m2,m3,m4,m5,m6,m7,m8,m9,m10,m11,m12,m13⟩,m14,m15,m16,m17,m18,m19,m20,m21,m22⟩:Mat).rules==0<;>(try rfl)
 cases h1:iLt m14 1<;>(try rfl)
 cases h5:iLt 5 m14<;>(try rfl)
 simp only [PXb]
 refine AL (CU (len:=2) (fun i=>iLt (cond ((i:Int)==1) m19 m18) 0||iLt 1000000 (cond ((i:Int)==1) m19 m18)) [.bool false] ?_ ?_ N (by omega)) ?_
 ·intro self
  rfl
 ·intro i self hi
  simp only [PXb,AX (show i≤1099511627776 by omega),show iLt (i:Int) 2=true from Ao (len:=2) hi,show iIn (i:Int) 2=true from AP (len:=2) hi]
 ·have hp:Aw (fun i=>iLt (cond ((i:Int)==1) m19 m18) 0||iLt 1000000 (cond ((i:Int)==1) m19 m18)) 2 0=Xx (⟨⟨m0,m1,m2,m3,m4,m5,m6,m7,m8,m9,m10,m11,m12,m13⟩,m14,m15,m16,m17,m18,m19,m20,m21,m22⟩:Mat):=by
   simp only [BU,H5,Bool.or_false]
   rfl
  rw [hp]
  cases Xx (⟨⟨m0,m1,m2,m3,m4,m5,m6,m7,m8,m9,m10,m11,m12,m13⟩,m14,m15,m16,m17,m18,m19,m20,m21,m22⟩:Mat)
  case true=>rfl
  simp only [PXb,Cj,Int.reduceBEq]
  cases iLt m15 0<;>try rfl
  cases iLt 2 m15<;>try rfl
  cases iLt (IntKind.i64.wrap (2 * m2)) (m17.length:Int)<;>try rfl
  cases (m15==0&&(iLt 0 (m17.length:Int)||(!(m14==1) && !(m14==5))))<;>try rfl
  cases (m14==1 && !(m15==0))<;>try rfl
  cases (m14==2&&(m17.length:Int)==IntKind.i64.wrap (2 * m2))<;>try rfl
  cases (m14==4&&(!(m2==2) || !((m17.length:Int)==2)))<;>try rfl
  cases (m16&&(!(m2==2)||iLt (m17.length:Int) 2))<;>try rfl
  simp only [PXb]
  refine AL (CU (len:=m17.length) (KJ (⟨⟨m0,m1,m2,m3,m4,m5,m6,m7,m8,m9,m10,m11,m12,m13⟩,m14,m15,m16,m17,m18,m19,m20,m21,m22⟩:Mat)) [.bool false] ?_ ?_ N (by omega)) ?_
  ·intro self
   simp only [PXb,PXc,PXn,AB,Au]
  ·intro i self hi
   simp only [PXb,PXc,PXn,PXm,Nat.reduceAdd,Int.reduceBEq,AX (show i≤1099511627776 by omega),Ao hi,AP hi,PXi,H7,Jt,WT (hf i hi) hN hs,Se,KJ]
   cases EX (⟨⟨m0,m1,m2,m3,m4,m5,m6,m7,m8,m9,m10,m11,m12,m13⟩,m14,m15,m16,m17,m18,m19,m20,m21,m22⟩:Mat).rules (inn m17 i)<;>first | rfl | simp only [PXb,PXc,PXn,PXm,Nat.reduceAdd,Int.reduceBEq]
  ·cases Aw (KJ (⟨⟨m0,m1,m2,m3,m4,m5,m6,m7,m8,m9,m10,m11,m12,m13⟩,m14,m15,m16,m17,m18,m19,m20,m21,m22⟩:Mat)) m17.length 0
   case true=>rfl
   simp only [PXb,PXc,PXn,PXm,Nat.reduceAdd,Int.reduceBEq,Jm,pf hN (show m17.length≤1048576 by omega)]
theorem vW (f g:Nat→Bool):∀ k i,Aw (fun j=>f j||g j) k i=(Aw f k i||Aw g k i)
 | 0,i=>rfl
 | k+1,i=>by
  rw [BU,BU,BU,vW f g k (i+1)]
  cases f i<;>cases g i<;>cases Aw f k (i+1)<;>cases Aw g k (i+1)<;>rfl
theorem mH {N:Nat} {m1 m2 m3 m4 m5 m6 m7 m9 m10 m11 m12 m14 m15 m18 m19 m20 m21 m22:Int} {m8 m16:Bool} {m0:ByteArray} {m13:Rows} {m17:List Inn} (hf:Dp m17) (hN:2097152<N) (hl:m17.length≤4) (hs:m0.size≤1048576):GL N [.str m0,.int m1,.int m2,.int m3,.int m4,.int m5,.int m6,.int m7,.bool m8,.int m9,.int m10,.int m11,.int m12,.rows m13,.int m14,.int m15,.bool m16,.rows (AR m17),.int m18,.int m19,.int m20,.int m21,.int m22]=some [.bool (!Aw (KJ (⟨⟨m0,m1,m2,m3,m4,m5,m6,m7,m8,m9,m10,m11,m12,m13⟩,m14,m15,m16,m17,m18,m19,m20,m21,m22⟩:Mat)) m17.length 0 && !Aw (MF m14 m17) m17.length 0)]:=by
 show Jn (std (G4 N) N) (xOf _)=_
 generalize hres:(some [.bool (!Aw (KJ (⟨⟨m0,m1,m2,m3,m4,m5,m6,m7,m8,m9,m10,m11,m12,m13⟩,m14,m15,m16,m17,m18,m19,m20,m21,m22⟩:Mat)) m17.length 0 && !Aw (MF m14 m17) m17.length 0)]:Option (List PV))=RR
 simp only [Jn,Ja,Iz,std,xOf,PXb,PXi]
 subst hres
 rw [← Bool.not_or,← vW]
 refine AL (CU (len:=m17.length) (fun j=>KJ (⟨⟨m0,m1,m2,m3,m4,m5,m6,m7,m8,m9,m10,m11,m12,m13⟩,m14,m15,m16,m17,m18,m19,m20,m21,m22⟩:Mat) j||MF m14 m17 j) [.bool false] ?_ ?_ N (by omega)) ?_
 ·intro self
  simp only [PXb,PXc,PXn,AB,Au]
 ·intro i self hi
  have hi3:0≤(i:Int)∧(i:Int)≤3:=by omega
  simp only [PXb,PXc,PXn,PXm,Nat.reduceAdd,Int.reduceBEq,AX (show i≤1099511627776 by omega),Ao hi,AP hi,PXi,Ja,Iz,iA (hf i hi) hN hs,cp hi3,KJ,MF]
  cases EX (⟨⟨m0,m1,m2,m3,m4,m5,m6,m7,m8,m9,m10,m11,m12,m13⟩,m14,m15,m16,m17,m18,m19,m20,m21,m22⟩:Mat).rules (inn m17 i)<;>rfl
 ·cases Aw (fun j=>KJ (⟨⟨m0,m1,m2,m3,m4,m5,m6,m7,m8,m9,m10,m11,m12,m13⟩,m14,m15,m16,m17,m18,m19,m20,m21,m22⟩:Mat) j||MF m14 m17 j) m17.length 0<;>rfl
set_option maxHeartbeats 4000000 in
theorem Xe {N:Nat} {m1 m2 m3 m4 m5 m6 m7 m9 m10 m11 m12 m14 m15 m18 m19 m20 m21 m22:Int} {m8 m16:Bool} {m0:ByteArray} {m13:Rows} {m17:List Inn} (hf:Dp m17) (hN:2097152<N) (hl:m17.length≤1000000) (hs:m0.size≤1048576):Eu N [.str m0,.int m1,.int m2,.int m3,.int m4,.int m5,.int m6,.int m7,.bool m8,.int m9,.int m10,.int m11,.int m12,.rows m13,.int m14,.int m15,.bool m16,.rows (AR m17),.int m18,.int m19,.int m20,.int m21,.int m22]=some [.bool (CW (⟨⟨m0,m1,m2,m3,m4,m5,m6,m7,m8,m9,m10,m11,m12,m13⟩,m14,m15,m16,m17,m18,m19,m20,m21,m22⟩:Mat))]:=by
 show RS (std (ML N) N) (xOf _)=_
 generalize hres:(some [.bool (CW (⟨⟨m0,m1,m2,m3,m4,m5,m6,m7,m8,m9,m10,m11,m12,m13⟩,m14,m15,m16,m17,m18,m19,m20,m21,m22⟩:Mat))]:Option (List PV))=RR
 simp only [RS,X8,Jf,std,xOf,PXb,Ew hN hs,PXi]
 subst hres;simp only [CW,j9]
 cases hc:A1 (⟨⟨m0,m1,m2,m3,m4,m5,m6,m7,m8,m9,m10,m11,m12,m13⟩,m14,m15,m16,m17,m18,m19,m20,m21,m22⟩:Mat).rules==0
 case false=>simp only [PXb,PXc,PXn,PXm,Nat.reduceAdd,Int.reduceBEq]
 have rk:=(Dn (beq_iff_eq.1 hc)).innings
 simp only at rk
 have e2:IntKind.i64.wrap (2 * m2)=2 * m2:=Bs (by omega) (by omega)
 have e4:(2 * m2==4)=(m2==2):=by rw [Bool.eq_iff_iff,beq_iff_eq,beq_iff_eq];omega
 simp only [e2,e4]
 cases h1:iLt m14 1
 case true=>simp only [PXb,PXc,PXn,PXm,Nat.reduceAdd,Int.reduceBEq]
 cases h5:iLt 5 m14
 case true=>simp only [PXb,PXc,PXn,PXm,Nat.reduceAdd,Int.reduceBEq]
 cases hm:iLt (2 * m2) (m17.length:Int)
 case true=>simp only [PXb,PXc,PXn,PXm,Nat.reduceAdd,Int.reduceBEq]
 have h4:m17.length≤4:=by
  simp only [iLt,decide_eq_false_iff_not] at hm
  omega
 simp only [PXb]
 refine AL (CU (len:=2) (fun i=>iLt (cond ((i:Int)==1) m19 m18) 0||iLt 1000000 (cond ((i:Int)==1) m19 m18)) [.bool false] ?_ ?_ N (by omega)) ?_
 ·intro self
  rfl
 ·intro i self hi
  simp only [PXb,AX (show i≤1099511627776 by omega),show iLt (i:Int) 2=true from Ao (len:=2) hi,show iIn (i:Int) 2=true from AP (len:=2) hi]
 ·have hp:Aw (fun i=>iLt (cond ((i:Int)==1) m19 m18) 0||iLt 1000000 (cond ((i:Int)==1) m19 m18)) 2 0=Xx (⟨⟨m0,m1,m2,m3,m4,m5,m6,m7,m8,m9,m10,m11,m12,m13⟩,m14,m15,m16,m17,m18,m19,m20,m21,m22⟩:Mat):=by
   simp only [BU,H5,Bool.or_false]
   rfl
  rw [hp]
  cases Xx (⟨⟨m0,m1,m2,m3,m4,m5,m6,m7,m8,m9,m10,m11,m12,m13⟩,m14,m15,m16,m17,m18,m19,m20,m21,m22⟩:Mat)
  case true=>rfl
  simp only [PXb,Cj,Int.reduceBEq,Jf,mH hf hN h4 hs,Yj,nB (show (0:Int)≤(m17.length:Int) by omega)]
  generalize Aw (KJ (⟨⟨m0,m1,m2,m3,m4,m5,m6,m7,m8,m9,m10,m11,m12,m13⟩,m14,m15,m16,m17,m18,m19,m20,m21,m22⟩:Mat)) m17.length 0=q1
  generalize Aw (MF m14 m17) m17.length 0=q2
  generalize (m15==0&&(!((m17.length:Int)==0)||(!(m14==1) && !(m14==5))))=q3
  generalize (m14==1 && !(m15==0))=q4
  generalize (m14==2&&(m17.length:Int)==2 * m2)=q5
  cases iLt m15 0<;>cases iLt 2 m15<;>cases q3<;>cases q4<;>cases q5<;>try (simp only [PXb,PXc,PXn,PXm,Nat.reduceAdd,Int.reduceBEq];done)
  cases m14==3<;>cases (m17.length:Int)==0<;>cases m14==4<;>cases m2==2<;>cases (m17.length:Int)==2<;>cases m16<;>cases iLt (m17.length:Int) 2<;>cases q1<;>cases q2<;>rfl
end Go.Px
end
