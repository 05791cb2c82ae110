/- Part 12. -/
import Derived.Test.YteolngdncakekaaGreatPart11
import Derived.Test.YteolngdncakekaaGreatPart07
set_option linter.unusedVariables false
set_option linter.unusedSimpArgs false
section
namespace Go.Px
set_option maxRecDepth 100000
set_option maxHeartbeats 4000000 in
theorem Ym {N:Nat} {r1 r2 r3 r4 r5 r6 r7 r9 r10 r11 r12:Int} {r8:Bool} {r0:ByteArray} {r13:Rows} {s0 s1 s2 s3 s4 s5 s6 s7 s8 s9 s10 s11 s12 s13 s15 s21 s22 s23 s25 s26 s27:Int} {s18 s20:Bool} {s14 s16 s17 s19 s24:Rows} {e0 e1 e2 e3 e5 e6 e7 e8 e9 e10 e11 e13 e14 e15 e16 e18:Int} {e4 e12 e17:Bool} (h:Fit s14 s16 s17 s19 s24) (hw:s17.length+s16.length≤1000000) (hN:2097152<N) (hs:r0.size≤1048576) (h13:r13.length≤1048576):ID N [.str r0,.int r1,.int r2,.int r3,.int r4,.int r5,.int r6,.int r7,.bool r8,.int r9,.int r10,.int r11,.int r12,.rows r13,.int s0,.int s1,.int s2,.int s3,.int s4,.int s5,.int s6,.int s7,.int s8,.int s9,.int s10,.int s11,.int s12,.int s13,.rows s14,.int s15,.rows s16,.rows s17,.bool s18,.rows s19,.bool s20,.int s21,.int s22,.int s23,.rows s24,.int s25,.int s26,.int s27,.int e0,.int e1,.int e2,.int e3,.bool e4,.int e5,.int e6,.int e7,.int e8,.int e9,.int e10,.int e11,.bool e12,.int e13,.int e14,.int e15,.int e16,.bool e17,.int e18]=some (AY (B7 (⟨r0,r1,r2,r3,r4,r5,r6,r7,r8,r9,r10,r11,r12,r13⟩:Rul) (⟨s0,s1,s2,s3,s4,s5,s6,s7,s8,s9,s10,s11,s12,s13,s14,s15,s16,s17,s18,s19,s20,s21,s22,s23,s24,s25,s26,s27⟩:Inn) (⟨e0,e1,e2,e3,e4,e5,e6,⟨e7,e8,e9,e10,e11,e12,e13,e14,e15,e16,e17,e18⟩⟩:Ev))):=by
 show PE (std (CW N) N) (xOf _)=_
 generalize hres:(some (AY (B7 (⟨r0,r1,r2,r3,r4,r5,r6,r7,r8,r9,r10,r11,r12,r13⟩:Rul) (⟨s0,s1,s2,s3,s4,s5,s6,s7,s8,s9,s10,s11,s12,s13,s14,s15,s16,s17,s18,s19,s20,s21,s22,s23,s24,s25,s26,s27⟩:Inn) (⟨e0,e1,e2,e3,e4,e5,e6,⟨e7,e8,e9,e10,e11,e12,e13,e14,e15,e16,e17,e18⟩⟩:Ev))):Option (List PV))=RR
 have l1:=Tu (⟨r0,r1,r2,r3,r4,r5,r6,r7,r8,r9,r10,r11,r12,r13⟩:Rul) (⟨s0,s1,s2,s3,s4,s5,s6,s7,s8,s9,s10,s11,s12,s13,s14,s15,s16,s17,s18,s19,s20,s21,s22,s23,s24,s25,s26,s27⟩:Inn) (⟨e0,e1,e2,e3,e4,e5,e6,⟨e7,e8,e9,e10,e11,e12,e13,e14,e15,e16,e17,e18⟩⟩:Ev)
 have f1:=LN l1 h (by simp only;omega)
 simp only [PE,Yl,YV,ZL,Yy,J3,NA,std,xOf,PXb,Wo h,eZ h hN hs,fR,Wv h.bt hN]
 subst hres;simp only [B7,j5]
 cases FO (⟨r0,r1,r2,r3,r4,r5,r6,r7,r8,r9,r10,r11,r12,r13⟩:Rul) (⟨s0,s1,s2,s3,s4,s5,s6,s7,s8,s9,s10,s11,s12,s13,s14,s15,s16,s17,s18,s19,s20,s21,s22,s23,s24,s25,s26,s27⟩:Inn)
 ·rfl
 cases he:evS (⟨e0,e1,e2,e3,e4,e5,e6,⟨e7,e8,e9,e10,e11,e12,e13,e14,e15,e16,e17,e18⟩⟩:Ev)==0
 ·simp only [PXb,PXc,PXn,PXm,Nat.reduceAdd,Int.reduceBEq,he]
 simp only [PXb,PXc,PXn,PXm,Nat.reduceAdd,Int.reduceBEq,he]
 cases s27==0<;>try rfl
 cases h2:e0==2<;>cases h1:e0==1<;>cases hc:e0==12<;>cases hd:e0==16<;>cases Cg s14<;>try rfl
 all_goals first
  | (rw [P9 h2 (c:=1) rfl] at h1;exact absurd h1 (by decide))
  | (rw [P9 h2 (c:=12) rfl] at hc;exact absurd hc (by decide))
  | (rw [P9 h2 (c:=16) rfl] at hd;exact absurd hd (by decide))
  | (simp only [PXb,PXc,PXn,PXm,Nat.reduceAdd,Int.reduceBEq,J3,mE h hw hN hs h13 he,km,h1,hc,hd];done)
  | skip
 all_goals (simp only [PXb,PXc,PXn,PXm,Nat.reduceAdd,Int.reduceBEq,J3,NA,mE h hw hN hs h13 he,km,h1,hc,hd,nS f1 hN hs])
 all_goals (unfold Xp jN;cases (Bs (⟨r0,r1,r2,r3,r4,r5,r6,r7,r8,r9,r10,r11,r12,r13⟩:Rul) (⟨s0,s1,s2,s3,s4,s5,s6,s7,s8,s9,s10,s11,s12,s13,s14,s15,s16,s17,s18,s19,s20,s21,s22,s23,s24,s25,s26,s27⟩:Inn) (⟨e0,e1,e2,e3,e4,e5,e6,⟨e7,e8,e9,e10,e11,e12,e13,e14,e15,e16,e17,e18⟩⟩:Ev)).2==0<;>cases (Bs (⟨r0,r1,r2,r3,r4,r5,r6,r7,r8,r9,r10,r11,r12,r13⟩:Rul) (⟨s0,s1,s2,s3,s4,s5,s6,s7,s8,s9,s10,s11,s12,s13,s14,s15,s16,s17,s18,s19,s20,s21,s22,s23,s24,s25,s26,s27⟩:Inn) (⟨e0,e1,e2,e3,e4,e5,e6,⟨e7,e8,e9,e10,e11,e12,e13,e14,e15,e16,e17,e18⟩⟩:Ev)).1.ending==0<;>rfl)
def Yp (r:Rul):Rul:={ r with name:=wD r.name 20,power:=cut r.power 10 }
def Yo (s:Inn):Inn:={ s with batters:=cut s.batters 13,bowlers:=cut s.bowlers 13,before:=cut s.before 13,bowled:=cut s.bowled 13,subs:=cut s.subs 13 }
theorem XN (L:Rows) (c:Nat):(cut L c).length≤c:=by
 unfold cut
 rw [List.length_drop,List.length_take]
 cases h:iLt (c:Int) (L.length:Int) with
 | true=>simp only [cond_true];omega
 | false=>simp only [iLt,decide_eq_false_iff_not] at h;simp only [cond_false];omega
theorem xZ (s:Inn):(Yo s).Fit:=⟨Nat.le_trans (XN _ 13) (by omega),Nat.le_trans (XN _ 13) (by omega),Nat.le_trans (XN _ 13) (by omega),Nat.le_trans (XN _ 13) (by omega),Nat.le_trans (XN _ 13) (by omega)⟩
theorem oE (r:Rul) (h:r.name.size≤1048576):(Yp r).name.size≤1048576:=Nat.le_trans (vl _ _) h
theorem mc (r:Rul):(Yp r).power.length≤1048576:=Nat.le_trans (XN _ 10) (by omega)
theorem qN {s t:Inn} (r:Rul) (b:Bool) (h:Lens s t):Lens s (Xp r t b):=⟨h.bt,h.bd,h.sb,h.bw,h.bf⟩
theorem Ve (r:Rul) (s:Inn) (e:Ev):Lens s (B7 r s e).1:=by
 unfold B7
 exact L_c _ _ _ (Lens.refl s) (L_c _ _ _ (Lens.refl s) (L_c _ _ _ (Lens.refl s) (L_c _ _ _ (Lens.refl s) (qN r _ (Tu r s e)))))
end Go.Px
end
section
namespace Go.Px
set_option maxRecDepth 100000
theorem ra {r : Rul} {s : Inn} {e : Ev} (h : ((B7 r s e).2 == 0) = true) :
    FO r s=true∧(evS e==0)=true∧(s.ending==0)=true∧j5 s e=false∧((Bs r s e).2==0)=true∧(B7 r s e).1=Xp r (Bs r s e).1 (e.kind==4):=by
  unfold B7 at h ⊢
  cases hv:FO r s with
  | false=>rw [hv] at h;cases h
  | true =>
    cases he:evS e==0 with
    | false=>rw [hv,he] at h;cases h
    | true =>
      cases hn:s.ending==0 with
      | false=>rw [hv,he,hn] at h;cases h
      | true =>
        cases hw:j5 s e with
        | true=>rw [hv,he,hn,hw] at h;cases h
        | false =>
          cases hp:(Bs r s e).2==0 with
          | false=>rw [hv,he,hn,hw,hp] at h;exact absurd (hp▸h) (by decide)
          | true=>exact ⟨rfl,rfl,rfl,rfl,rfl,rfl⟩
end Go.Px
end
section
namespace Go.Px
set_option maxRecDepth 100000
theorem dY {x a b:Int}:btw x a b=true↔a≤x∧x≤b:=by simp [btw,iLe]
structure RulOk (r:Rul):Prop where
 side:2≤r.side∧r.side≤11
 innings:1≤r.innings∧r.innings≤2
 overs:0≤r.overs∧r.overs≤90
 balls:4≤r.balls∧r.balls≤8
 quota:0≤r.quota∧r.quota≤90
 wide:1≤r.wide∧r.wide≤5
 noball:1≤r.noball∧r.noball≤5
 newball:0≤r.newball∧r.newball≤200
 followon:0≤r.followon∧r.followon≤1000
 reviews:0≤r.reviews∧r.reviews≤9
 outside:0≤r.outside∧r.outside≤11
theorem Kv {r:Rul} (h:Bj r=0):RulOk r:=by
 unfold Bj D9 at h
 cases hn:Lj r.name with
 | false=>rw [hn] at h;cases h
 | true =>
  cases hr:GV r.side r.innings r.overs r.balls r.quota r.wide r.noball r.newball r.followon r.reviews r.outside with
  | false=>rw [hn,hr] at h;cases h
  | true =>
   unfold GV at hr
   simp only [Bool.and_eq_true,dY] at hr
   obtain ⟨⟨⟨⟨⟨⟨⟨⟨⟨⟨h1,h2⟩,h3⟩,h4⟩,h5⟩,h6⟩,h7⟩,h8⟩,h9⟩,h10⟩,h11⟩:=hr
   exact ⟨h1,h2,h3,h4,h5,h6,h7,h8,h9,h10,h11⟩
def Co (x:Int):Prop:=0≤x∧x≤1000000000
structure InnOk (r:Rul) (s:Inn):Prop where
 code:Bj r=0
 side:1≤s.side∧s.side≤2
 lb:(s.batters.length:Int)=r.side
 ld:(s.bowled.length:Int)=r.side
 lz:(s.subs.length:Int)=r.side
 ending:s.ending≤5
 st:0≤s.striker∧s.striker≤r.side
 ot:0≤s.other∧s.other≤r.side
 bat:Vs s.batters s.striker s.other s.wickets=true
 bow:0≤s.bowler∧s.bowler≤r.side
 kee:0≤s.keeper∧s.keeper≤r.side
 dw:GK s.bowlers r.side=true
 df:GK s.before r.side=true
 ov:NB r.overs s.overs=true
 io:0≤s.inover∧s.inover≤r.balls - 1
 target:Co s.target
 runs:Co s.runs
 wides:Co s.wides
 noballs:Co s.noballs
 byes:Co s.byes
 legbyes:Co s.legbyes
 pens:Co s.pens
 complete:Co s.complete
 ballage:Co s.ballage
 outside:Co s.outside
 rev1:Co s.rev1
 rev2:Co s.rev2
 bowled:K7 DH s.bowled=false
theorem xm {x:Int}:DH x=false↔Co x:=by
 unfold DH Co
 rw [Bool.not_eq_false',dY]
theorem v6 (a b c d e f g h i j k l:Int):K7 DH (YG a b c d e f g h i j k l)=false↔Co a∧Co b∧Co c∧Co d∧Co e∧Co f∧Co g∧Co h∧Co i∧Co j∧Co k∧Co l:=by
 rw [Pz]
 simp only [YG,List.any_cons,List.any_nil,Bool.or_false,mK,xl,Bool.or_eq_false_iff,xm]
theorem iK {r:Rul} (h:RulOk r):IntKind.i64.wrap (r.balls - 1)=r.balls - 1:=by
 have:=h.balls
 exact FJ (by omega) (by omega)
theorem rU {x:Int}:(!iLt 5 x)=true↔x≤5:=by
 rw [Bool.not_eq_true']
 simp only [iLt,decide_eq_false_iff_not]
 omega
theorem vC {r:Rul} {s:Inn}:FO r s=true↔InnOk r s:=by
 unfold FO Ld
 simp only [Bool.and_eq_true,Bool.not_eq_true',v6,dY]
 constructor
 ·intro ⟨h1,h2,h3,h4,h5,h6,h7,h8,h9,h10,h11,h12,h13,h14,h15,⟨n1,n2,n3,n4,n5,n6,n7,n8,n9,n10,n11,n12⟩,h17⟩
  have hc:Bj r=0:=beq_iff_eq.1 h1
  exact ⟨hc,h2,beq_iff_eq.1 h3,beq_iff_eq.1 h4,beq_iff_eq.1 h5,rU.1 (by rw [h6];rfl),h7,h8,h9,h10,h11,h12,h13,h14,by rw [iK (Kv hc)] at h15;exact h15,n1,n2,n3,n4,n5,n6,n7,n8,n9,n10,n11,n12,h17⟩
 ·intro h
  have h6:=rU.2 h.ending
  rw [Bool.not_eq_true'] at h6
  exact ⟨beq_iff_eq.2 h.code,h.side,beq_iff_eq.2 h.lb,beq_iff_eq.2 h.ld,beq_iff_eq.2 h.lz,h6,h.st,h.ot,h.bat,h.bow,h.kee,h.dw,h.df,h.ov,by rw [iK (Kv h.code)];exact h.io,
   ⟨h.target,h.runs,h.wides,h.noballs,h.byes,h.legbyes,h.pens,h.complete,h.ballage,h.outside,h.rev1,h.rev2⟩,h.bowled⟩
theorem wd (s:Inn) (d:Del):(BV s d).runs=s.runs∧(BV s d).wides=s.wides∧(BV s d).noballs=s.noballs∧(BV s d).byes=s.byes∧(BV s d).legbyes=s.legbyes∧(BV s d).pens=s.pens∧(BV s d).complete=s.complete∧(BV s d).inover=s.inover∧(BV s d).bowler=s.bowler∧(BV s d).bowled=s.bowled:=by
  unfold BV
  cases (!(d.runs.tmod 2==0) != d.crossed)<;>exact P_c (P:=fun x:Inn=>x.runs=s.runs∧x.wides=s.wides∧x.noballs=s.noballs∧x.byes=s.byes∧x.legbyes=s.legbyes∧x.pens=s.pens∧x.complete=s.complete∧x.inover=s.inover∧x.bowler=s.bowler∧x.bowled=s.bowled) _ _ _ ⟨rfl,rfl,rfl,rfl,rfl,rfl,rfl,rfl,rfl,rfl⟩
    (P_c (P:=fun x:Inn=>x.runs=s.runs∧x.wides=s.wides∧x.noballs=s.noballs∧x.byes=s.byes∧x.legbyes=s.legbyes∧x.pens=s.pens∧x.complete=s.complete∧x.inover=s.inover∧x.bowler=s.bowler∧x.bowled=s.bowled) _ _ _ ⟨rfl,rfl,rfl,rfl,rfl,rfl,rfl,rfl,rfl,rfl⟩ ⟨rfl,rfl,rfl,rfl,rfl,rfl,rfl,rfl,rfl,rfl⟩)
def yI (r:Rul) (s:Inn) (d:Del):Inn :=
 let o:=DB r (BV s d) (Bk r d).counts
 let t:Inn:=cond o.2 (Xr o.1) o.1
 { t with runs:=IntKind.i64.wrap (s.runs+cc (Bk r d)),wides:=IntKind.i64.wrap (s.wides+(Bk r d).wides),noballs:=IntKind.i64.wrap (s.noballs+(Bk r d).noballs),byes:=IntKind.i64.wrap (s.byes+(Bk r d).byes),legbyes:=IntKind.i64.wrap (s.legbyes+(Bk r d).legbyes),freehit:=cond (d.type==1) false (cond (d.type==3&&r.freehit) true o.1.freehit) }
theorem xL {r:Rul} {s:Inn} {d:Del} (h:((KW r s d).2==0)=true):(Hi r s d==0)=true∧(KW r s d).1=yI r s d:=by
 unfold KW at h ⊢
 cases hr:Hi r s d==0 with
 | false=>rw [hr] at h;exact absurd (hr▸h) (by decide)
 | true =>
  refine ⟨rfl,?_⟩
  obtain ⟨k1,k2,k3,k4,k5,_⟩:=wd s d
  simp only [Bool.not_true,cond_false,gd,k1,k2,k3,k4,k5,yI]
  generalize DB r (BV s d) (Bk r d).counts=o
  obtain ⟨o1,o2⟩:=o
  cases o2<;>rfl
theorem ue {r:Rul} {s:Inn} {d:Del} (h:(Hi r s d==0)=true):EC s.batters s.striker s.other=false∧(s.bowler==0)=false∧(Jn r s==0)=true∧(Ax d==0)=true∧(BA d s.freehit==0)=true∧(J0 s d==0)=true:=by
 unfold Hi at h
 cases h1:EC s.batters s.striker s.other with
 | true=>rw [h1] at h;cases h
 | false =>
  cases h2:s.bowler==0 with
  | true=>rw [h1,h2] at h;cases h
  | false =>
   rw [h1,h2] at h
   change (bh _ _ _ _==0)=true at h
   unfold bh at h
   cases h3:Jn r s==0 with
   | false=>rw [h3] at h;exact absurd (h3▸h) (by decide)
   | true =>
    cases h4:Ax d==0 with
    | false=>rw [h3,h4] at h;exact absurd (h4▸h) (by decide)
    | true =>
     cases h5:BA d s.freehit==0 with
     | false=>rw [h3,h4,h5] at h;exact absurd (h5▸h) (by decide)
     | true =>
      cases h6:J0 s d==0 with
      | false=>rw [h3,h4,h5,h6] at h;exact absurd (h6▸h) (by decide)
      | true=>exact ⟨rfl,rfl,rfl,rfl,rfl,rfl⟩
end Go.Px
end
section
namespace Go.Px
set_option maxRecDepth 100000
def xA:Inn:=⟨0,0,0,0,0,0,0,0,0,0,0,0,0,0,[],0,[],[],false,[],false,0,0,0,[],0,0,0⟩
def wz (n:Nat) (overs side t p:Int):Inn:=⟨side,t,overs,p,0,0,0,0,0,p,0,0,0,0,List.replicate n [.int 0],0,[],[],false,List.replicate n [.int 0],false,0,0,0,List.replicate n [.bool false],0,0,0⟩
def B3 (r:Rul) (side t p:Int):Inn×Int :=
 cond (!(Bj r==0)) (xA,Bj r) (cond (!btw side 1 2 || !btw t 0 1000000 || !btw p 0 1000000) (xA,2) (wz r.side.toNat r.overs side t p,0))
theorem Vy {N:Nat} {r1 r2 r3 r4 r5 r6 r7 r9 r10 r11 r12:Int} {r8:Bool} {r0:ByteArray} {r13:Rows} {a:Int} {b:Int} {c:Int} (hN:2097152<N) (hs:r0.size≤1048576):Fr N [.str r0,.int r1,.int r2,.int r3,.int r4,.int r5,.int r6,.int r7,.bool r8,.int r9,.int r10,.int r11,.int r12,.rows r13,.int a,.int b,.int c]=some (AY (B3 (⟨r0,r1,r2,r3,r4,r5,r6,r7,r8,r9,r10,r11,r12,r13⟩:Rul) a b c)):=by
 show JO (std (Gn N) N) (xOf _)=_
 generalize hres:(some (AY (B3 (⟨r0,r1,r2,r3,r4,r5,r6,r7,r8,r9,r10,r11,r12,r13⟩:Rul) a b c)):Option (List PV))=RR
 simp only [JO,Rr,NQ,std,xOf,PXb,EP hN hs,D6]
 subst hres;simp only [B3]
 cases hc:Bj (⟨r0,r1,r2,r3,r4,r5,r6,r7,r8,r9,r10,r11,r12,r13⟩:Rul)==0 with
 | false=>rfl
 | true =>
  have rk:=(Kv (beq_iff_eq.1 hc)).side
  obtain ⟨k,hk⟩:∃ k:Nat,r1=k:=⟨r1.toNat,by simp only at rk;omega⟩
  subst hk
  simp only at rk
  have h1:iSm (k:Int) 1=true:=DM (by omega) (by omega)
  have h8:iSm (k:Int) 8=true:=DM (by omega) (by omega)
  simp only [PXb,PXc,PXn,PXm,Nat.reduceAdd,Int.reduceBEq,h1,h8]
  cases btw a 1 2<;>cases btw b 0 1000000<;>cases btw c 0 1000000<;>rfl
theorem fc {N:Nat} {r1 r2 r3 r4 r5 r6 r7 r9 r10 r11 r12:Int} {r8:Bool} {r0:ByteArray} {r13:Rows} {a:Int} {b:Int} {c:Int} (hN:2097152<N) (hs:r0.size≤1048576):QZ N [.str r0,.int r1,.int r2,.int r3,.int r4,.int r5,.int r6,.int r7,.bool r8,.int r9,.int r10,.int r11,.int r12,.rows r13,.int a,.int b,.int c]=some (AY (B3 (⟨r0,r1,r2,r3,r4,r5,r6,r7,r8,r9,r10,r11,r12,r13⟩:Rul) a b c)):=by
 show QO (std (ML N) N) (xOf _)=_
 generalize hres:(some (AY (B3 (⟨r0,r1,r2,r3,r4,r5,r6,r7,r8,r9,r10,r11,r12,r13⟩:Rul) a b c)):Option (List PV))=RR
 simp only [QO,YA,br,std,xOf,PXb,Iw hN hs,aV]
 subst hres;simp only [B3]
 cases hc:Bj (⟨r0,r1,r2,r3,r4,r5,r6,r7,r8,r9,r10,r11,r12,r13⟩:Rul)==0 with
 | false=>rfl
 | true =>
  have rk:=(Kv (beq_iff_eq.1 hc)).side
  obtain ⟨k,hk⟩:∃ k:Nat,r1=k:=⟨r1.toNat,by simp only at rk;omega⟩
  subst hk
  simp only at rk
  simp only [PXb]
  cases btw a 1 2<;>try rfl
  cases btw b 0 1000000<;>try rfl
  cases btw c 0 1000000<;>try rfl
  simp only [PXb]
  refine AH (Al (len:=k) (fun i=>[.int (i:Int),.int a,.int b,.int r3,.int c,.int 0,.int 0,.int 0,.int 0,.int 0,.int c,.int 0,.int 0,.int 0,.int 0,.rows (List.replicate i [.int 0]),.int 0,.rows [],.rows [],.bool false,.rows (List.replicate i [.int 0]),.bool false,.int 0,.int 0,.int 0,.rows (List.replicate i [.bool false]),.int 0,.int 0,.int 0]) (wz k r3 a b c).ls ?_ ?_ N (by omega)) rfl
  ·intro self
   simp only [PXb,PXc,PXn,PXm,Nat.reduceAdd,Int.reduceBEq,Au]
   rfl
  ·intro i self hi
   have l1:(List.replicate i [PV.int 0]++[[PV.int 0]]).length≤1048576:=by simp;omega
   have l2:(List.replicate i [PV.bool false]++[[PV.bool false]]).length≤1048576:=by simp;omega
   simp only [PXb,PXc,PXn,PXm,Nat.reduceAdd,Int.reduceBEq,Aa (show i≤1099511627776 by omega),Aj hi,Ju l1 (show 1≤4096 by omega),Ju l1 (show 8≤4096 by omega),Ju l2 (show 1≤4096 by omega)]
   rw [List.replicate_succ',List.replicate_succ']
   rfl
theorem H7 (r:Rul) (side t p:Int):(B3 r side t p).1.Fit∧(B3 r side t p).1.before=[]∧(B3 r side t p).1.bowlers=[]:=by
 unfold B3
 cases hc:Bj r==0 with
 | false=>exact ⟨⟨by show 0≤1048576;omega,by show 0≤1048576;omega,by show 0≤1048576;omega,by show 0≤1048576;omega,by show 0≤1048576;omega⟩,rfl,rfl⟩
 | true =>
  have hs:=(Kv (beq_iff_eq.1 hc)).side
  have hl:∀ x:List PV,(List.replicate r.side.toNat x).length≤1048576:=fun x=>by rw [List.length_replicate];omega
  cases (!btw side 1 2 || !btw t 0 1000000 || !btw p 0 1000000) with
  | true=>exact ⟨⟨by show 0≤1048576;omega,by show 0≤1048576;omega,by show 0≤1048576;omega,by show 0≤1048576;omega,by show 0≤1048576;omega⟩,rfl,rfl⟩
  | false=>exact ⟨⟨hl _,by show 0≤1048576;omega,by show 0≤1048576;omega,hl _,hl _⟩,rfl,rfl⟩
theorem xQ {s:Inn} (h:s.Fit):(Oq s).Fit:=⟨h.bt,h.bw,h.bf,h.bd,h.sb⟩
end Go.Px
end
section
namespace Go.Px
set_option maxRecDepth 100000
structure BatOk (L:Rows) (s n wk:Int):Prop where
 le:∀ i,i<L.length→atI L i 0≤3
 at1:∀ i,i<L.length→(atI L i 0=1↔(s=(i:Int)+1∨n=(i:Int)+1))
 here:Cg L=true→s≠0∨n≠0
 ne:s≠0→s≠n
 wk:wk=gV L
end Go.Px
end
section
namespace Go.Px
set_option maxRecDepth 100000
theorem xF {r:Rul} {s:Inn} (h:InnOk r s):2≤r.side∧r.side≤11:=(Kv h.code).side
end Go.Px
end
section
namespace Go.Px
set_option maxRecDepth 100000
structure Small (s:Inn):Prop where
 target:s.target≤999999900
 runs:s.runs≤999999900
 wides:s.wides≤999999900
 noballs:s.noballs≤999999900
 byes:s.byes≤999999900
 legbyes:s.legbyes≤999999900
 pens:s.pens≤999999900
 complete:s.complete≤999999900
 ballage:s.ballage≤999999900
 rev1:s.rev1≤999999900
 rev2:s.rev2≤999999900
 bowled:∀ j,j<s.bowled.length→atI s.bowled j 0≤999999900
end Go.Px
end
section
namespace Go.Px
def AM (xs:List Inn):Rows:=xs.map Inn.ls
def dI:Inn:=⟨0,0,0,0,0,0,0,0,0,0,0,0,0,0,[],0,[],[],false,[],false,0,0,0,[],0,0,0⟩
def inn (xs:List Inn) (i:Nat):Inn:=xs.getD i dI
structure Mat where
 rules:Rul
 stage:Int
 first:Int
 follow:Bool
 inns:List Inn
 pen1:Int
 pen2:Int
 win:Int
 wside:Int
 margin:Int
def Mat.ls (m:Mat):List PV:=[.str m.rules.name,.int m.rules.side,.int m.rules.innings,.int m.rules.overs,.int m.rules.balls,.int m.rules.quota,.int m.rules.wide,.int m.rules.noball,.bool m.rules.freehit,.int m.rules.newball,.int m.rules.followon,.int m.rules.reviews,.int m.rules.outside,.rows m.rules.power,.int m.stage,.int m.first,.bool m.follow,.rows (AM m.inns),.int m.pen1,.int m.pen2,.int m.win,.int m.wside,.int m.margin]
def Ma (x:Mat×Int):List PV:=[.str x.1.rules.name,.int x.1.rules.side,.int x.1.rules.innings,.int x.1.rules.overs,.int x.1.rules.balls,.int x.1.rules.quota,.int x.1.rules.wide,.int x.1.rules.noball,.bool x.1.rules.freehit,.int x.1.rules.newball,.int x.1.rules.followon,.int x.1.rules.reviews,.int x.1.rules.outside,.rows x.1.rules.power,.int x.1.stage,.int x.1.first,.bool x.1.follow,.rows (AM x.1.inns),.int x.1.pen1,.int x.1.pen2,.int x.1.win,.int x.1.wside,.int x.1.margin,.int x.2]
theorem lM (xs:List Inn) (i:Nat):Ai (AM xs) i=(match xs[i]? with | some s=>s.ls | none=>[]):=by
 unfold Ai AM
 rw [List.getD_eq_getElem?_getD,List.getElem?_map]
 cases xs[i]?<;>rfl
theorem LT (xs:List Inn) (i:Nat):inn xs i=(match xs[i]? with | some s=>s | none=>dI):=by
 unfold inn
 rw [List.getD_eq_getElem?_getD]
 cases xs[i]?<;>rfl
theorem gb (xs:List Inn):(AM xs).length=xs.length:=List.length_map _
theorem PXi : (∀ xs : List Inn, (AM xs).length = xs.length) ∧ (∀ (xs : List Inn) (i : Nat), pvI (AE (AM xs) i 0) = (inn xs i).side) ∧ (∀ (xs : List Inn) (i : Nat), pvI (AE (AM xs) i 1) = (inn xs i).target) ∧ (∀ (xs : List Inn) (i : Nat), pvI (AE (AM xs) i 2) = (inn xs i).overs) ∧ (∀ (xs : List Inn) (i : Nat), pvI (AE (AM xs) i 3) = (inn xs i).runs) ∧
    (∀ (xs:List Inn) (i:Nat),pvI (AE (AM xs) i 4)=(inn xs i).wickets)∧(∀ (xs:List Inn) (i:Nat),pvI (AE (AM xs) i 5)=(inn xs i).wides)∧(∀ (xs:List Inn) (i:Nat),pvI (AE (AM xs) i 6)=(inn xs i).noballs)∧(∀ (xs:List Inn) (i:Nat),pvI (AE (AM xs) i 7)=(inn xs i).byes)∧(∀ (xs:List Inn) (i:Nat),pvI (AE (AM xs) i 8)=(inn xs i).legbyes) ∧
    (∀ (xs:List Inn) (i:Nat),pvI (AE (AM xs) i 9)=(inn xs i).pens)∧(∀ (xs:List Inn) (i:Nat),pvI (AE (AM xs) i 10)=(inn xs i).complete)∧(∀ (xs:List Inn) (i:Nat),pvI (AE (AM xs) i 11)=(inn xs i).inover)∧(∀ (xs:List Inn) (i:Nat),pvI (AE (AM xs) i 12)=(inn xs i).striker)∧(∀ (xs:List Inn) (i:Nat),pvI (AE (AM xs) i 13)=(inn xs i).other) ∧
    (∀ (xs:List Inn) (i:Nat),pvL (AE (AM xs) i 14)=(inn xs i).batters)∧(∀ (xs:List Inn) (i:Nat),pvI (AE (AM xs) i 15)=(inn xs i).bowler)∧(∀ (xs:List Inn) (i:Nat),pvL (AE (AM xs) i 16)=(inn xs i).bowlers)∧(∀ (xs:List Inn) (i:Nat),pvL (AE (AM xs) i 17)=(inn xs i).before)∧(∀ (xs:List Inn) (i:Nat),pvB (AE (AM xs) i 18)=(inn xs i).fresh) ∧
    (∀ (xs:List Inn) (i:Nat),pvL (AE (AM xs) i 19)=(inn xs i).bowled)∧(∀ (xs:List Inn) (i:Nat),pvB (AE (AM xs) i 20)=(inn xs i).freehit)∧(∀ (xs:List Inn) (i:Nat),pvI (AE (AM xs) i 21)=(inn xs i).ballage)∧(∀ (xs:List Inn) (i:Nat),pvI (AE (AM xs) i 22)=(inn xs i).keeper)∧(∀ (xs:List Inn) (i:Nat),pvI (AE (AM xs) i 23)=(inn xs i).outside) ∧
    (∀ (xs:List Inn) (i:Nat),pvL (AE (AM xs) i 24)=(inn xs i).subs)∧(∀ (xs:List Inn) (i:Nat),pvI (AE (AM xs) i 25)=(inn xs i).rev1)∧(∀ (xs:List Inn) (i:Nat),pvI (AE (AM xs) i 26)=(inn xs i).rev2)∧(∀ (xs:List Inn) (i:Nat),pvI (AE (AM xs) i 27)=(inn xs i).ending):=by
  refine ⟨gb,?_,?_,?_,?_,?_,?_,?_,?_,?_,?_,?_,?_,?_,?_,?_,?_,?_,?_,?_,?_,?_,?_,?_,?_,?_,?_,?_,?_⟩
  all_goals (intro xs i;rw [LT];unfold AE;rw [lM];cases xs[i]?<;>rfl)
theorem Mat.eta (m:Mat):Mat.mk m.rules m.stage m.first m.follow m.inns m.pen1 m.pen2 m.win m.wside m.margin=m:=rfl
theorem PXk : (∀ m : Mat, m.ls = [.str m.rules.name, .int m.rules.side, .int m.rules.innings, .int m.rules.overs, .int m.rules.balls, .int m.rules.quota, .int m.rules.wide, .int m.rules.noball, .bool m.rules.freehit, .int m.rules.newball, .int m.rules.followon, .int m.rules.reviews, .int m.rules.outside, .rows m.rules.power, .int m.stage, .int m.first, .bool m.follow, .rows (AM m.inns), .int m.pen1, .int m.pen2, .int m.win, .int m.wside, .int m.margin]) ∧
    (∀ x:Mat×Int,Ma x=[.str x.1.rules.name,.int x.1.rules.side,.int x.1.rules.innings,.int x.1.rules.overs,.int x.1.rules.balls,.int x.1.rules.quota,.int x.1.rules.wide,.int x.1.rules.noball,.bool x.1.rules.freehit,.int x.1.rules.newball,.int x.1.rules.followon,.int x.1.rules.reviews,.int x.1.rules.outside,.rows x.1.rules.power,.int x.1.stage,.int x.1.first,.bool x.1.follow,.rows (AM x.1.inns),.int x.1.pen1,.int x.1.pen2,.int x.1.win,.int x.1.wside,.int x.1.margin,.int x.2]) ∧
    (∀ m:Mat,Mat.mk m.rules m.stage m.first m.follow m.inns m.pen1 m.pen2 m.win m.wside m.margin=m):=⟨fun _=>rfl,fun _=>rfl,fun _=>rfl⟩
theorem rX:∀ (ps r pre:List PV),r.length=ps.length→CO (pre++r) pre.length ps=pre++ps
 | [],r,pre,h=>by
  have:r=[]:=List.eq_nil_of_length_eq_zero h
  subst this
  rfl
 | p::ps,[],pre,h=>by cases h
 | p::ps,a::r,pre,h=>by
  have ih:=rX ps r (pre++[p]) (by simpa using h)
  simp only [List.length_append,List.length_cons,List.length_nil,List.append_assoc,List.cons_append,List.nil_append] at ih
  unfold CO
  rw [List.set_append_right _ _ (Nat.le_refl _),Nat.sub_self]
  exact ih
theorem xx (a s:Inn):CO a.ls 0 s.ls=s.ls:=rX s.ls a.ls [] rfl
theorem xK (a:Inn) (e:Int):CO a.ls 27 [.int e]=Inn.ls { a with ending:=e }:=by
 show a.ls.set 27 (.int e)=_
 rfl
theorem xq {xs:List Inn} {i:Nat} (h:i<xs.length) (s:Inn):(AM xs).set i (CO (Ai (AM xs) i) 0 s.ls)=AM (xs.set i s):=by
 have e:Ai (AM xs) i=(xs[i]).ls:=by rw [lM,List.getElem?_eq_getElem h]
 rw [e,xx]
 exact List.map_set.symm
theorem xf {xs:List Inn} {i:Nat} (h:i<xs.length) (e:Int):(AM xs).set i (CO (Ai (AM xs) i) 27 [.int e])=AM (xs.set i { inn xs i with ending:=e }):=by
 have e1:Ai (AM xs) i=(inn xs i).ls:=by rw [lM,LT,List.getElem?_eq_getElem h]
 rw [e1,xK]
 exact List.map_set.symm
theorem xe (xs:List Inn) (s:Inn):AM xs++[s.ls]=AM (xs++[s]):=by
 show List.map Inn.ls xs++List.map Inn.ls [s]=List.map Inn.ls (xs++[s])
 exact List.map_append.symm
theorem xp (xs:List Inn) (i:Nat) (s:Inn):(AM xs).set i (CO (Ai (AM xs) i) 0 s.ls)=AM (xs.set i s):=by
 by_cases h:i<xs.length
 ·exact xq h s
 ·rw [List.set_eq_of_length_le (by rw [gb];omega),List.set_eq_of_length_le (by omega)]
theorem qq (xs:List Inn) (i:Nat) (e:Int):(AM xs).set i (CO (Ai (AM xs) i) 27 [.int e])=AM (xs.set i { inn xs i with ending:=e }):=by
 by_cases h:i<xs.length
 ·exact xf h e
 ·rw [List.set_eq_of_length_le (by rw [gb];omega),List.set_eq_of_length_le (by omega)]
theorem PXr : (∀ (xs : List Inn) (x0 x1 x2 x3 x4 x5 x6 x7 x8 x9 x10 x11 x12 x13 x15 x21 x22 x23 x25 x26 x27 : Int) (x18 x20 : Bool) (x14 x16 x17 x19 x24 : Rows), AM xs ++ [([.int x0, .int x1, .int x2, .int x3, .int x4, .int x5, .int x6, .int x7, .int x8, .int x9, .int x10, .int x11, .int x12, .int x13, .rows x14, .int x15, .rows x16, .rows x17, .bool x18, .rows x19, .bool x20, .int x21, .int x22, .int x23, .rows x24, .int x25, .int x26, .int x27] : List PV)] = AM (xs ++ [⟨x0, x1, x2, x3, x4, x5, x6, x7, x8, x9, x10, x11, x12, x13, x14, x15, x16, x17, x18, x19, x20, x21, x22, x23, x24, x25, x26, x27⟩])) ∧ (∀ (xs : List Inn) (i : Nat) (x0 x1 x2 x3 x4 x5 x6 x7 x8 x9 x10 x11 x12 x13 x15 x21 x22 x23 x25 x26 x27 : Int) (x18 x20 : Bool) (x14 x16 x17 x19 x24 : Rows), (AM xs).set i (CO (Ai (AM xs) i) 0 [.int x0, .int x1, .int x2, .int x3, .int x4, .int x5, .int x6, .int x7, .int x8, .int x9, .int x10, .int x11, .int x12, .int x13, .rows x14, .int x15, .rows x16, .rows x17, .bool x18, .rows x19, .bool x20, .int x21, .int x22, .int x23, .rows x24, .int x25, .int x26, .int x27]) = AM (xs.set i ⟨x0, x1, x2, x3, x4, x5, x6, x7, x8, x9, x10, x11, x12, x13, x14, x15, x16, x17, x18, x19, x20, x21, x22, x23, x24, x25, x26, x27⟩)) ∧
    (∀ (xs:List Inn) (i:Nat) (e:Int),(AM xs).set i (CO (Ai (AM xs) i) 27 [.int e])=AM (xs.set i { inn xs i with ending:=e })) :=
  ⟨fun xs x0 x1 x2 x3 x4 x5 x6 x7 x8 x9 x10 x11 x12 x13 x15 x21 x22 x23 x25 x26 x27 x18 x20 x14 x16 x17 x19 x24=>xe xs ⟨x0,x1,x2,x3,x4,x5,x6,x7,x8,x9,x10,x11,x12,x13,x14,x15,x16,x17,x18,x19,x20,x21,x22,x23,x24,x25,x26,x27⟩,fun xs i x0 x1 x2 x3 x4 x5 x6 x7 x8 x9 x10 x11 x12 x13 x15 x21 x22 x23 x25 x26 x27 x18 x20 x14 x16 x17 x19 x24=>xp xs i ⟨x0,x1,x2,x3,x4,x5,x6,x7,x8,x9,x10,x11,x12,x13,x14,x15,x16,x17,x18,x19,x20,x21,x22,x23,x24,x25,x26,x27⟩,qq⟩
end Go.Px
end
section
namespace Go.Px
set_option maxRecDepth 100000
def Bv (n:Int):Int:=IntKind.i64.wrap (3 - n)
theorem Ig {N:Nat} {n:Int}  : BQ N [.int n]=some [.int (Bv n)]:=by
 show Lt (std (U3 N) N) (xOf _)=_
 simp only [Lt,std,xOf,PXb,PXc,PXn,PXm,Nat.reduceAdd,Int.reduceBEq,Bv]
theorem GZ {N:Nat} {n:Int}  : CD N [.int n]=some [.int (Bv n)]:=by
 show QQ (std (Zt N) N) (xOf _)=_
 simp only [QQ,std,xOf,PXb,PXc,PXn,PXm,Nat.reduceAdd,Int.reduceBEq,Bv]
def Dz (m:Mat) (i:Int):Int:=cond (cond (m.follow&&iLe 2 i) (i==2) (i.tmod 2==1)) (Bv m.first) m.first
theorem SM {N:Nat} {m1 m2 m3 m4 m5 m6 m7 m9 m10 m11 m12 m14 m15 m18 m19 m20 m21 m22:Int} {m8 m16:Bool} {m0:ByteArray} {m13:Rows} {m17:List Inn} {i:Int}  : DX N [.str m0,.int m1,.int m2,.int m3,.int m4,.int m5,.int m6,.int m7,.bool m8,.int m9,.int m10,.int m11,.int m12,.rows m13,.int m14,.int m15,.bool m16,.rows (AM m17),.int m18,.int m19,.int m20,.int m21,.int m22,.int i]=some [.int (Dz (⟨⟨m0,m1,m2,m3,m4,m5,m6,m7,m8,m9,m10,m11,m12,m13⟩,m14,m15,m16,m17,m18,m19,m20,m21,m22⟩:Mat) i)]:=by
 show MS (std (Nk N) N) (xOf _)=_
 generalize hres:(some [.int (Dz (⟨⟨m0,m1,m2,m3,m4,m5,m6,m7,m8,m9,m10,m11,m12,m13⟩,m14,m15,m16,m17,m18,m19,m20,m21,m22⟩:Mat) i)]:Option (List PV))=RR
 simp only [MS,TS,std,xOf,PXb,PXc,PXn,PXm,Nat.reduceAdd,Int.reduceBEq,Ig]
 subst hres;simp only [Dz]
theorem aX {N:Nat} {m1 m2 m3 m4 m5 m6 m7 m9 m10 m11 m12 m14 m15 m18 m19 m20 m21 m22:Int} {m8 m16:Bool} {m0:ByteArray} {m13:Rows} {m17:List Inn} {i:Int} (hi:0≤i∧i≤3):E7 N [.str m0,.int m1,.int m2,.int m3,.int m4,.int m5,.int m6,.int m7,.bool m8,.int m9,.int m10,.int m11,.int m12,.rows m13,.int m14,.int m15,.bool m16,.rows (AM m17),.int m18,.int m19,.int m20,.int m21,.int m22,.int i]=some [.int (Dz (⟨⟨m0,m1,m2,m3,m4,m5,m6,m7,m8,m9,m10,m11,m12,m13⟩,m14,m15,m16,m17,m18,m19,m20,m21,m22⟩:Mat) i)]:=by
 show N4 (std (Pf N) N) (xOf _)=_
 generalize hres:(some [.int (Dz (⟨⟨m0,m1,m2,m3,m4,m5,m6,m7,m8,m9,m10,m11,m12,m13⟩,m14,m15,m16,m17,m18,m19,m20,m21,m22⟩:Mat) i)]:Option (List PV))=RR
 simp only [N4,Ws,std,xOf,PXb,PXc,PXn,PXm,Nat.reduceAdd,Int.reduceBEq,GZ]
 subst hres;simp only [Dz]
 have:i=0∨i=1∨i=2∨i=3:=by omega
 rcases this with h | h | h | h<;>subst h<;>cases m16<;>rfl
def Ga (xs:List Inn) (side:Int):Nat→Int
 | 0=>0
 | i+1=>cond ((inn xs i).side==side) (IntKind.i64.wrap (Ga xs side i+(inn xs i).runs)) (Ga xs side i)
def BK (m:Mat) (side:Int):Int:=Ga m.inns side m.inns.length
theorem Rw {N:Nat} {m1 m2 m3 m4 m5 m6 m7 m9 m10 m11 m12 m14 m15 m18 m19 m20 m21 m22:Int} {m8 m16:Bool} {m0:ByteArray} {m13:Rows} {m17:List Inn} {n:Int} (hN:2097152<N) (hl:m17.length≤1048576):B4 N [.str m0,.int m1,.int m2,.int m3,.int m4,.int m5,.int m6,.int m7,.bool m8,.int m9,.int m10,.int m11,.int m12,.rows m13,.int m14,.int m15,.bool m16,.rows (AM m17),.int m18,.int m19,.int m20,.int m21,.int m22,.int n]=some [.int (BK (⟨⟨m0,m1,m2,m3,m4,m5,m6,m7,m8,m9,m10,m11,m12,m13⟩,m14,m15,m16,m17,m18,m19,m20,m21,m22⟩:Mat) n)]:=by
 show MI (std (U7 N) N) (xOf _)=_
 generalize hres:(some [.int (BK (⟨⟨m0,m1,m2,m3,m4,m5,m6,m7,m8,m9,m10,m11,m12,m13⟩,m14,m15,m16,m17,m18,m19,m20,m21,m22⟩:Mat) n)]:Option (List PV))=RR
 simp only [MI,std,xOf,PXb,PXi]
 subst hres;simp only [BK]
 refine AH (Al (len:=m17.length) (fun i=>[.int (Ga m17 n i),.int (i:Int)]) [.int (Ga m17 n m17.length)] ?_ ?_ N (by omega)) rfl
 ·intro self
  simp only [PXb,PXc,PXn,AB,Au]
 ·intro i self hi
  simp only [PXb,PXc,AB,Aa (show i≤1099511627776 by omega),Aj hi,AQ hi,PXi,Ga]
  cases (inn m17 i).side==n<;>rfl
theorem LC {N:Nat} {m1 m2 m3 m4 m5 m6 m7 m9 m10 m11 m12 m14 m15 m18 m19 m20 m21 m22:Int} {m8 m16:Bool} {m0:ByteArray} {m13:Rows} {m17:List Inn} {n:Int} (hN:2097152<N) (hl:m17.length≤1048576):En N [.str m0,.int m1,.int m2,.int m3,.int m4,.int m5,.int m6,.int m7,.bool m8,.int m9,.int m10,.int m11,.int m12,.rows m13,.int m14,.int m15,.bool m16,.rows (AM m17),.int m18,.int m19,.int m20,.int m21,.int m22,.int n]=some [.int (BK (⟨⟨m0,m1,m2,m3,m4,m5,m6,m7,m8,m9,m10,m11,m12,m13⟩,m14,m15,m16,m17,m18,m19,m20,m21,m22⟩:Mat) n)]:=by
 show Qj (std (ZW N) N) (xOf _)=_
 generalize hres:(some [.int (BK (⟨⟨m0,m1,m2,m3,m4,m5,m6,m7,m8,m9,m10,m11,m12,m13⟩,m14,m15,m16,m17,m18,m19,m20,m21,m22⟩:Mat) n)]:Option (List PV))=RR
 simp only [Qj,std,xOf,PXb,PXi]
 subst hres;simp only [BK]
 refine AH (Al (len:=m17.length) (fun i=>[.int (Ga m17 n i),.int (i:Int)]) [.int (Ga m17 n m17.length)] ?_ ?_ N (by omega)) rfl
 ·intro self
  simp only [PXb,PXc,PXn,AB,Au]
 ·intro i self hi
  simp only [PXb,PXc,AB,Aa (show i≤1099511627776 by omega),Aj hi,AQ hi,PXi,Ga]
  cases (inn m17 i).side==n<;>rfl
def G2 (m:Mat) (side:Int):Int :=
 cond (iLt (IntKind.i64.wrap ((m.inns.length:Int)+1)) (IntKind.i64.wrap (2 * m.rules.innings))) 0 (IntKind.i64.wrap (IntKind.i64.wrap (BK m (Bv side) - BK m side)+1))
theorem XW {N:Nat} {m1 m2 m3 m4 m5 m6 m7 m9 m10 m11 m12 m14 m15 m18 m19 m20 m21 m22:Int} {m8 m16:Bool} {m0:ByteArray} {m13:Rows} {m17:List Inn} {n:Int} (hN:2097152<N) (hl:m17.length≤1048576):HA N [.str m0,.int m1,.int m2,.int m3,.int m4,.int m5,.int m6,.int m7,.bool m8,.int m9,.int m10,.int m11,.int m12,.rows m13,.int m14,.int m15,.bool m16,.rows (AM m17),.int m18,.int m19,.int m20,.int m21,.int m22,.int n]=some [.int (G2 (⟨⟨m0,m1,m2,m3,m4,m5,m6,m7,m8,m9,m10,m11,m12,m13⟩,m14,m15,m16,m17,m18,m19,m20,m21,m22⟩:Mat) n)]:=by
 show Kk (std (Hy N) N) (xOf _)=_
 generalize hres:(some [.int (G2 (⟨⟨m0,m1,m2,m3,m4,m5,m6,m7,m8,m9,m10,m11,m12,m13⟩,m14,m15,m16,m17,m18,m19,m20,m21,m22⟩:Mat) n)]:Option (List PV))=RR
 simp only [Kk,R5,Rx,std,xOf,PXb,PXc,PXn,PXm,Nat.reduceAdd,Int.reduceBEq,PXi,Ig,Rw hN hl]
 subst hres;simp only [G2]
def Ln (stage:Int) (xs:List Inn) (i:Nat):Bool := !(((inn xs i).ending==0)==(stage==3&&((i:Int)==IntKind.i64.wrap ((xs.length:Int) - 1))))
def X1 (m:Mat):Bool := !Ao (Ln m.stage m.inns) m.inns.length 0&&(!(m.stage==3)||iLt 0 (m.inns.length:Int))
theorem mZ {N:Nat} {m1 m2 m3 m4 m5 m6 m7 m9 m10 m11 m12 m14 m15 m18 m19 m20 m21 m22:Int} {m8 m16:Bool} {m0:ByteArray} {m13:Rows} {m17:List Inn} (hN:2097152<N) (hl:m17.length≤1048576):Ic N [.str m0,.int m1,.int m2,.int m3,.int m4,.int m5,.int m6,.int m7,.bool m8,.int m9,.int m10,.int m11,.int m12,.rows m13,.int m14,.int m15,.bool m16,.rows (AM m17),.int m18,.int m19,.int m20,.int m21,.int m22]=some [.bool (X1 (⟨⟨m0,m1,m2,m3,m4,m5,m6,m7,m8,m9,m10,m11,m12,m13⟩,m14,m15,m16,m17,m18,m19,m20,m21,m22⟩:Mat))]:=by
 show MZ (std (Vl N) N) (xOf _)=_
 generalize hres:(some [.bool (X1 (⟨⟨m0,m1,m2,m3,m4,m5,m6,m7,m8,m9,m10,m11,m12,m13⟩,m14,m15,m16,m17,m18,m19,m20,m21,m22⟩:Mat))]:Option (List PV))=RR
 simp only [MZ,std,xOf,PXb,PXi]
 subst hres;simp only [X1]
 refine AH (Cj (len:=m17.length) (Ln m14 m17) [.bool false] ?_ ?_ N (by omega)) ?_
 ·intro self
  simp only [PXb,PXc,PXn,AB,Au]
 ·intro i self hi
  simp only [PXb,PXc,AB,Aa (show i≤1099511627776 by omega),Aj hi,AQ hi,PXi,Ln]
 ·cases Ao (Ln m14 m17) m17.length 0 with
  | true=>rfl
  | false=>simp only [PXb,PXc,PXn,PXm,Nat.reduceAdd,Int.reduceBEq]
end Go.Px
end
section
namespace Go.Px
set_option maxRecDepth 100000
def CX (xs:List Inn):Prop:=∀ i,i<xs.length→(inn xs i).Fit
theorem Z4 {N:Nat} {r1 r2 r3 r4 r5 r6 r7 r9 r10 r11 r12:Int} {r8:Bool} {r0:ByteArray} {r13:Rows} (hl:r13.length≤1048576):DW N [.str r0,.int r1,.int r2,.int r3,.int r4,.int r5,.int r6,.int r7,.bool r8,.int r9,.int r10,.int r11,.int r12,.rows r13]=some [.str r0,.int r1,.int r2,.int r3,.int r4,.int r5,.int r6,.int r7,.bool r8,.int r9,.int r10,.int r11,.int r12,.rows r13]:=by
 show MP (std (Nq N) N) (xOf _)=_
 simp only [MP,Mu,std,xOf,PXb,PXc,PXn,PXm,Nat.reduceAdd,Int.reduceBEq,DI,Bi hl (show 24≤4096 by omega)]
theorem q9 {N:Nat} {r1 r2 r3 r4 r5 r6 r7 r9 r10 r11 r12:Int} {r8:Bool} {r0:ByteArray} {r13:Rows} (hl:r13.length≤1048576):LI N [.str r0,.int r1,.int r2,.int r3,.int r4,.int r5,.int r6,.int r7,.bool r8,.int r9,.int r10,.int r11,.int r12,.rows r13]=some [.str r0,.int r1,.int r2,.int r3,.int r4,.int r5,.int r6,.int r7,.bool r8,.int r9,.int r10,.int r11,.int r12,.rows r13]:=by
 show QX (std (Zk N) N) (xOf _)=_
 simp only [QX,std,xOf,PXb,PXc,PXn,PXm,Nat.reduceAdd,Int.reduceBEq,Ju hl (show 24≤4096 by omega)]
theorem ZU {xs:List Inn} {i:Nat} (h:i<xs.length):xs.take i++[inn xs i]=xs.take (i+1):=by
 rw [List.take_add_one,LT,List.getElem?_eq_getElem h]
 rfl
theorem mn {N:Nat} {m1 m2 m3 m4 m5 m6 m7 m9 m10 m11 m12 m14 m15 m18 m19 m20 m21 m22:Int} {m8 m16:Bool} {m0:ByteArray} {m13:Rows} {m17:List Inn} (hf:CX m17) (hN:2097152<N) (hl:m17.length≤1000000) (h13:m13.length≤1048576):Iv N [.str m0,.int m1,.int m2,.int m3,.int m4,.int m5,.int m6,.int m7,.bool m8,.int m9,.int m10,.int m11,.int m12,.rows m13,.int m14,.int m15,.bool m16,.rows (AM m17),.int m18,.int m19,.int m20,.int m21,.int m22]=some [.str m0,.int m1,.int m2,.int m3,.int m4,.int m5,.int m6,.int m7,.bool m8,.int m9,.int m10,.int m11,.int m12,.rows m13,.int m14,.int m15,.bool m16,.rows (AM m17),.int m18,.int m19,.int m20,.int m21,.int m22]:=by
 show MN (std (JK N) N) (xOf _)=_
 simp only [MN,S7,Hq,std,xOf,PXb,Z4 h13,PXi]
 refine AH (Al (len:=m17.length) (fun i=>[.rows (AM (m17.take i)),.int (i:Int)]) [.rows (AM m17)] ?_ ?_ N (by omega)) rfl
 ·intro self
  simp only [PXb,PXc,PXn,AB,Au,List.take_length]
 ·intro i self hi
  have h2:(m17.take (i+1)).length≤1048576:=by rw [List.length_take];omega
  have h3:iSm ((m17.take (i+1)).length:Int) 304=true:=DM (by omega) (by omega)
  simp only [PXb,PXc,AB,Aa (show i≤1099511627776 by omega),Aj hi,AQ hi,PXi,Hq,CN (hf i hi),PXr,Inn.eta,h3,ZU hi,Nat.reduceAdd]
  rfl
theorem fB {N:Nat} {m1 m2 m3 m4 m5 m6 m7 m9 m10 m11 m12 m14 m15 m18 m19 m20 m21 m22:Int} {m8 m16:Bool} {m0:ByteArray} {m13:Rows} {m17:List Inn} (hf:CX m17) (hN:2097152<N) (hl:m17.length≤1000000) (h13:m13.length≤1048576):Qe N [.str m0,.int m1,.int m2,.int m3,.int m4,.int m5,.int m6,.int m7,.bool m8,.int m9,.int m10,.int m11,.int m12,.rows m13,.int m14,.int m15,.bool m16,.rows (AM m17),.int m18,.int m19,.int m20,.int m21,.int m22]=some [.str m0,.int m1,.int m2,.int m3,.int m4,.int m5,.int m6,.int m7,.bool m8,.int m9,.int m10,.int m11,.int m12,.rows m13,.int m14,.int m15,.bool m16,.rows (AM m17),.int m18,.int m19,.int m20,.int m21,.int m22]:=by
 show Qu (std (ME N) N) (xOf _)=_
 simp only [Qu,Xs,NK,std,xOf,PXb,q9 h13,PXi]
 refine AH (Al (len:=m17.length) (fun i=>[.rows (AM (m17.take i)),.int (i:Int)]) [.rows (AM m17)] ?_ ?_ N (by omega)) rfl
 ·intro self
  simp only [PXb,PXc,PXn,AB,Au,List.take_length]
 ·intro i self hi
  have h2:(m17.take (i+1)).length≤1048576:=by rw [List.length_take];omega
  have h3:iSm ((m17.take (i+1)).length:Int) 304=true:=DM (by omega) (by omega)
  simp only [PXb,PXc,AB,Aa (show i≤1099511627776 by omega),Aj hi,AQ hi,PXi,NK,Wo (hf i hi),PXr,Inn.eta,h3,ZU hi,Nat.reduceAdd]
  rfl
def y6:Rul:=⟨⟨#[]⟩,0,0,0,0,0,0,0,false,0,0,0,0,[]⟩
def zD:Mat:=⟨y6,0,0,false,[],0,0,0,0,0⟩
def oa (r:Rul):Mat×Int:=cond (!(Bj r==0)) (zD,Bj r) (⟨r,1,0,false,[],0,0,0,0,0⟩,0)
theorem qy {N:Nat} {r1 r2 r3 r4 r5 r6 r7 r9 r10 r11 r12:Int} {r8:Bool} {r0:ByteArray} {r13:Rows} (hN:2097152<N) (hs:r0.size≤1048576) (h13:r13.length≤1048576):GY N [.str r0,.int r1,.int r2,.int r3,.int r4,.int r5,.int r6,.int r7,.bool r8,.int r9,.int r10,.int r11,.int r12,.rows r13]=some (Ma (oa (⟨r0,r1,r2,r3,r4,r5,r6,r7,r8,r9,r10,r11,r12,r13⟩:Rul))):=by
 show Qf (std (Ly N) N) (xOf _)=_
 generalize hres:(some (Ma (oa (⟨r0,r1,r2,r3,r4,r5,r6,r7,r8,r9,r10,r11,r12,r13⟩:Rul))):Option (List PV))=RR
 simp only [Qf,Uj,Uv,std,xOf,PXb,PXc,PXn,PXm,Nat.reduceAdd,Int.reduceBEq,EP hN hs,Z4 h13]
 subst hres;simp only [oa]
 cases Bj (⟨r0,r1,r2,r3,r4,r5,r6,r7,r8,r9,r10,r11,r12,r13⟩:Rul)==0<;>rfl
def ab (m:Mat):Bool:=(iLt m.pen1 0||iLt 1000000 m.pen1)||(iLt m.pen2 0||iLt 1000000 m.pen2)
def J7 (m:Mat) (i:Nat):Bool := !FO m.rules (inn m.inns i) || !((inn m.inns i).side==Dz m (i:Int))
def nQ (m:Mat):Bool :=
  let n:Int:=m.inns.length
  let most:=IntKind.i64.wrap (2 * m.rules.innings)
  Bj m.rules==0&&(!(iLt m.stage 1)&&(!(iLt 5 m.stage)&&(!ab m&&(!(iLt m.first 0||iLt 2 m.first||iLt most n)&&(!(m.first==0&&(iLt 0 n||(!(m.stage==1) && !(m.stage==5)))) &&
    (!(m.stage==1 && !(m.first==0))&&(!(m.stage==2&&n==most)&&(!(m.stage==4&&(!(m.rules.innings==2) || !(n==2))) && !(m.follow&&(!(m.rules.innings==2)||iLt n 2))))))))))
def BZ (m:Mat):Bool:=nQ m&&(!Ao (J7 m) m.inns.length 0&&X1 m)
set_option maxHeartbeats 4000000 in
theorem Lp {N:Nat} {m1 m2 m3 m4 m5 m6 m7 m9 m10 m11 m12 m14 m15 m18 m19 m20 m21 m22:Int} {m8 m16:Bool} {m0:ByteArray} {m13:Rows} {m17:List Inn} (hf:CX m17) (hN:2097152<N) (hl:m17.length≤1000000) (hs:m0.size≤1048576):Bq N [.str m0,.int m1,.int m2,.int m3,.int m4,.int m5,.int m6,.int m7,.bool m8,.int m9,.int m10,.int m11,.int m12,.rows m13,.int m14,.int m15,.bool m16,.rows (AM m17),.int m18,.int m19,.int m20,.int m21,.int m22]=some [.bool (BZ (⟨⟨m0,m1,m2,m3,m4,m5,m6,m7,m8,m9,m10,m11,m12,m13⟩,m14,m15,m16,m17,m18,m19,m20,m21,m22⟩:Mat))]:=by
 show Lu (std (EF N) N) (xOf _)=_
 generalize hres:(some [.bool (BZ (⟨⟨m0,m1,m2,m3,m4,m5,m6,m7,m8,m9,m10,m11,m12,m13⟩,m14,m15,m16,m17,m18,m19,m20,m21,m22⟩:Mat))]:Option (List PV))=RR
 simp only [Lu,S1,Hp,JH,Jb,std,xOf,PXb,EP hN hs,PXi]
 subst hres;simp only [BZ,nQ]
 cases hc:Bj (⟨⟨m0,m1,m2,m3,m4,m5,m6,m7,m8,m9,m10,m11,m12,m13⟩,m14,m15,m16,m17,m18,m19,m20,m21,m22⟩:Mat).rules==0<;>(try rfl)
 cases h1:iLt m14 1<;>(try rfl)
 cases h5:iLt 5 m14<;>(try rfl)
 simp only [PXb]
 refine AH (Cj (len:=2) (fun i=>iLt (cond ((i:Int)==1) m19 m18) 0||iLt 1000000 (cond ((i:Int)==1) m19 m18)) [.bool false] ?_ ?_ N (by omega)) ?_
 ·intro self
  rfl
 ·intro i self hi
  simp only [PXb,Aa (show i≤1099511627776 by omega),show iLt (i:Int) 2=true from Aj (len:=2) hi,show iIn (i:Int) 2=true from AQ (len:=2) hi]
 ·have hp:Ao (fun i=>iLt (cond ((i:Int)==1) m19 m18) 0||iLt 1000000 (cond ((i:Int)==1) m19 m18)) 2 0=ab (⟨⟨m0,m1,m2,m3,m4,m5,m6,m7,m8,m9,m10,m11,m12,m13⟩,m14,m15,m16,m17,m18,m19,m20,m21,m22⟩:Mat):=by
   simp only [BU,Hs,Bool.or_false]
   rfl
  rw [hp]
  cases ab (⟨⟨m0,m1,m2,m3,m4,m5,m6,m7,m8,m9,m10,m11,m12,m13⟩,m14,m15,m16,m17,m18,m19,m20,m21,m22⟩:Mat)
  case true=>rfl
  simp only [PXb,Ch,Int.reduceBEq]
  cases iLt m15 0<;>try rfl
  cases iLt 2 m15<;>try rfl
  cases iLt (IntKind.i64.wrap (2 * m2)) (m17.length:Int)<;>try rfl
  cases (m15==0&&(iLt 0 (m17.length:Int)||(!(m14==1) && !(m14==5))))<;>try rfl
  cases (m14==1 && !(m15==0))<;>try rfl
  cases (m14==2&&(m17.length:Int)==IntKind.i64.wrap (2 * m2))<;>try rfl
  cases (m14==4&&(!(m2==2) || !((m17.length:Int)==2)))<;>try rfl
  cases (m16&&(!(m2==2)||iLt (m17.length:Int) 2))<;>try rfl
  simp only [PXb]
  refine AH (Cj (len:=m17.length) (J7 (⟨⟨m0,m1,m2,m3,m4,m5,m6,m7,m8,m9,m10,m11,m12,m13⟩,m14,m15,m16,m17,m18,m19,m20,m21,m22⟩:Mat)) [.bool false] ?_ ?_ N (by omega)) ?_
  ·intro self
   simp only [PXb,PXc,PXn,AB,Au]
  ·intro i self hi
   simp only [PXb,PXc,PXn,PXm,Nat.reduceAdd,Int.reduceBEq,Aa (show i≤1099511627776 by omega),Aj hi,AQ hi,PXi,Hp,JH,Vn (hf i hi) hN hs,SM,J7]
   cases FO (⟨⟨m0,m1,m2,m3,m4,m5,m6,m7,m8,m9,m10,m11,m12,m13⟩,m14,m15,m16,m17,m18,m19,m20,m21,m22⟩:Mat).rules (inn m17 i)<;>first | rfl | simp only [PXb,PXc,PXn,PXm,Nat.reduceAdd,Int.reduceBEq]
  ·cases Ao (J7 (⟨⟨m0,m1,m2,m3,m4,m5,m6,m7,m8,m9,m10,m11,m12,m13⟩,m14,m15,m16,m17,m18,m19,m20,m21,m22⟩:Mat)) m17.length 0
   case true=>rfl
   simp only [PXb,PXc,PXn,PXm,Nat.reduceAdd,Int.reduceBEq,Jb,mZ hN (show m17.length≤1048576 by omega)]
theorem rN (f g:Nat→Bool):∀ k i,Ao (fun j=>f j||g j) k i=(Ao f k i||Ao g k i)
 | 0,i=>rfl
 | k+1,i=>by
  rw [BU,BU,BU,rN f g k (i+1)]
  cases f i<;>cases g i<;>cases Ao f k (i+1)<;>cases Ao g k (i+1)<;>rfl
theorem iH {N:Nat} {m1 m2 m3 m4 m5 m6 m7 m9 m10 m11 m12 m14 m15 m18 m19 m20 m21 m22:Int} {m8 m16:Bool} {m0:ByteArray} {m13:Rows} {m17:List Inn} (hf:CX m17) (hN:2097152<N) (hl:m17.length≤4) (hs:m0.size≤1048576):GT N [.str m0,.int m1,.int m2,.int m3,.int m4,.int m5,.int m6,.int m7,.bool m8,.int m9,.int m10,.int m11,.int m12,.rows m13,.int m14,.int m15,.bool m16,.rows (AM m17),.int m18,.int m19,.int m20,.int m21,.int m22]=some [.bool (!Ao (J7 (⟨⟨m0,m1,m2,m3,m4,m5,m6,m7,m8,m9,m10,m11,m12,m13⟩,m14,m15,m16,m17,m18,m19,m20,m21,m22⟩:Mat)) m17.length 0 && !Ao (Ln m14 m17) m17.length 0)]:=by
 show JP (std (Gk N) N) (xOf _)=_
 generalize hres:(some [.bool (!Ao (J7 (⟨⟨m0,m1,m2,m3,m4,m5,m6,m7,m8,m9,m10,m11,m12,m13⟩,m14,m15,m16,m17,m18,m19,m20,m21,m22⟩:Mat)) m17.length 0 && !Ao (Ln m14 m17) m17.length 0)]:Option (List PV))=RR
 simp only [JP,JF,Ih,std,xOf,PXb,PXi]
 subst hres
 rw [← Bool.not_or,← rN]
 refine AH (Cj (len:=m17.length) (fun j=>J7 (⟨⟨m0,m1,m2,m3,m4,m5,m6,m7,m8,m9,m10,m11,m12,m13⟩,m14,m15,m16,m17,m18,m19,m20,m21,m22⟩:Mat) j||Ln m14 m17 j) [.bool false] ?_ ?_ N (by omega)) ?_
 ·intro self
  simp only [PXb,PXc,PXn,AB,Au]
 ·intro i self hi
  have hi3:0≤(i:Int)∧(i:Int)≤3:=by omega
  simp only [PXb,PXc,PXn,PXm,Nat.reduceAdd,Int.reduceBEq,Aa (show i≤1099511627776 by omega),Aj hi,AQ hi,PXi,JF,Ih,eZ (hf i hi) hN hs,aX hi3,J7,Ln]
  cases FO (⟨⟨m0,m1,m2,m3,m4,m5,m6,m7,m8,m9,m10,m11,m12,m13⟩,m14,m15,m16,m17,m18,m19,m20,m21,m22⟩:Mat).rules (inn m17 i)<;>rfl
 ·cases Ao (fun j=>J7 (⟨⟨m0,m1,m2,m3,m4,m5,m6,m7,m8,m9,m10,m11,m12,m13⟩,m14,m15,m16,m17,m18,m19,m20,m21,m22⟩:Mat) j||Ln m14 m17 j) m17.length 0<;>rfl
set_option maxHeartbeats 4000000 in
theorem WE {N:Nat} {m1 m2 m3 m4 m5 m6 m7 m9 m10 m11 m12 m14 m15 m18 m19 m20 m21 m22:Int} {m8 m16:Bool} {m0:ByteArray} {m13:Rows} {m17:List Inn} (hf:CX m17) (hN:2097152<N) (hl:m17.length≤1000000) (hs:m0.size≤1048576):Ep N [.str m0,.int m1,.int m2,.int m3,.int m4,.int m5,.int m6,.int m7,.bool m8,.int m9,.int m10,.int m11,.int m12,.rows m13,.int m14,.int m15,.bool m16,.rows (AM m17),.int m18,.int m19,.int m20,.int m21,.int m22]=some [.bool (BZ (⟨⟨m0,m1,m2,m3,m4,m5,m6,m7,m8,m9,m10,m11,m12,m13⟩,m14,m15,m16,m17,m18,m19,m20,m21,m22⟩:Mat))]:=by
 show QS (std (MG N) N) (xOf _)=_
 generalize hres:(some [.bool (BZ (⟨⟨m0,m1,m2,m3,m4,m5,m6,m7,m8,m9,m10,m11,m12,m13⟩,m14,m15,m16,m17,m18,m19,m20,m21,m22⟩:Mat))]:Option (List PV))=RR
 simp only [QS,XM,JE,std,xOf,PXb,Iw hN hs,PXi]
 subst hres;simp only [BZ,nQ]
 cases hc:Bj (⟨⟨m0,m1,m2,m3,m4,m5,m6,m7,m8,m9,m10,m11,m12,m13⟩,m14,m15,m16,m17,m18,m19,m20,m21,m22⟩:Mat).rules==0
 case false=>simp only [PXb,PXc,PXn,PXm,Nat.reduceAdd,Int.reduceBEq]
 have rk:=(Kv (beq_iff_eq.1 hc)).innings
 simp only at rk
 have e2:IntKind.i64.wrap (2 * m2)=2 * m2:=FJ (by omega) (by omega)
 have e4:(2 * m2==4)=(m2==2):=by rw [Bool.eq_iff_iff,beq_iff_eq,beq_iff_eq];omega
 simp only [e2,e4]
 cases h1:iLt m14 1
 case true=>simp only [PXb,PXc,PXn,PXm,Nat.reduceAdd,Int.reduceBEq]
 cases h5:iLt 5 m14
 case true=>simp only [PXb,PXc,PXn,PXm,Nat.reduceAdd,Int.reduceBEq]
 cases hm:iLt (2 * m2) (m17.length:Int)
 case true=>simp only [PXb,PXc,PXn,PXm,Nat.reduceAdd,Int.reduceBEq]
 have h4:m17.length≤4:=by
  simp only [iLt,decide_eq_false_iff_not] at hm
  omega
 simp only [PXb]
 refine AH (Cj (len:=2) (fun i=>iLt (cond ((i:Int)==1) m19 m18) 0||iLt 1000000 (cond ((i:Int)==1) m19 m18)) [.bool false] ?_ ?_ N (by omega)) ?_
 ·intro self
  rfl
 ·intro i self hi
  simp only [PXb,Aa (show i≤1099511627776 by omega),show iLt (i:Int) 2=true from Aj (len:=2) hi,show iIn (i:Int) 2=true from AQ (len:=2) hi]
 ·have hp:Ao (fun i=>iLt (cond ((i:Int)==1) m19 m18) 0||iLt 1000000 (cond ((i:Int)==1) m19 m18)) 2 0=ab (⟨⟨m0,m1,m2,m3,m4,m5,m6,m7,m8,m9,m10,m11,m12,m13⟩,m14,m15,m16,m17,m18,m19,m20,m21,m22⟩:Mat):=by
   simp only [BU,Hs,Bool.or_false]
   rfl
  rw [hp]
  cases ab (⟨⟨m0,m1,m2,m3,m4,m5,m6,m7,m8,m9,m10,m11,m12,m13⟩,m14,m15,m16,m17,m18,m19,m20,m21,m22⟩:Mat)
  case true=>rfl
  simp only [PXb,Ch,Int.reduceBEq,JE,iH hf hN h4 hs,X1,kP (show (0:Int)≤(m17.length:Int) by omega)]
  generalize Ao (J7 (⟨⟨m0,m1,m2,m3,m4,m5,m6,m7,m8,m9,m10,m11,m12,m13⟩,m14,m15,m16,m17,m18,m19,m20,m21,m22⟩:Mat)) m17.length 0=q1
  generalize Ao (Ln m14 m17) m17.length 0=q2
  generalize (m15==0&&(!((m17.length:Int)==0)||(!(m14==1) && !(m14==5))))=q3
  generalize (m14==1 && !(m15==0))=q4
  generalize (m14==2&&(m17.length:Int)==2 * m2)=q5
  cases iLt m15 0<;>cases iLt 2 m15<;>cases q3<;>cases q4<;>cases q5<;>try (simp only [PXb,PXc,PXn,PXm,Nat.reduceAdd,Int.reduceBEq];done)
  cases m14==3<;>cases (m17.length:Int)==0<;>cases m14==4<;>cases m2==2<;>cases (m17.length:Int)==2<;>cases m16<;>cases iLt (m17.length:Int) 2<;>cases q1<;>cases q2<;>rfl
end Go.Px
end
