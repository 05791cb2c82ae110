/- Part 13. -/
import Derived.Test.YtejjoflbpnjohaaGreatDoorPart12
set_option linter.unusedVariables false
set_option linter.unusedSimpArgs false
section
namespace Go.Px
set_option maxRecDepth 100000
structure SumSt (D:Rows) (n i:Nat) (s:List Int×List Int×Int):Prop where
 l1:s.1.length=n
 l2:s.2.1.length=n
 r:∀ k,k<n→s.1.getD k 0=wr (rS D k i)
 b:∀ k,k<n→s.2.1.getD k 0=wr (bS D k i)
 h:s.2.2=wr (hS D i)
structure Sco where
 side:Int
 runs:Int
 wickets:Int
 balls:Int
 wides:Int
 noballs:Int
 byes:Int
 legbyes:Int
 pens:Int
 ending:Int
theorem C9 {n:Int} (h1 : -1000000000000≤n) (h2:n≤1000000000000):IntKind.i64.wrap n=n:=CE (by omega) (by omega)
theorem jJ {d:Del} (h:(EZ d==0)=true):(0≤d.runs∧d.runs≤7)∧(0≤d.short∧d.short≤d.runs)∧(d.boundary=0∨d.boundary=4∨d.boundary=6):=by
 unfold EZ at h;cases h1:(iLt d.type 1||iLt 3 d.type||iLt 3 d.source||iLt 10 d.how || !btw d.sector 0 8) with
 | true=>rw [h1] at h;cases h
 | false =>
  cases h2:(!btw d.runs 0 7 || !btw d.short 0 d.runs||(!(d.boundary==0) && !(d.boundary==4) && !(d.boundary==6))) with
  | true=>rw [h1,h2] at h;cases h
  | false =>
   simp only [btw,iLe,Bool.or_eq_false_iff,Bool.not_eq_false',zzj,Bool.and_eq_false_iff,decide_eq_true_eq,beq_iff_eq] at h2;omega
structure CreOk (c:Cre):Prop where
 ba:0≤c.batter∧c.batter≤13
 wi:0≤c.wides∧c.wides≤18
 no:0≤c.noballs∧c.noballs≤5
 bb:0≤c.byes∧c.byes≤13
 lb:0≤c.legbyes∧c.legbyes≤13
 bo:c.bowler=c.batter+c.wides+c.noballs
 tot:Dv c=c.batter+c.wides+c.noballs+c.byes+c.legbyes
theorem nL {b w o y l bo:Int} {x1 x2 x3 x4:Bool} (hb:0≤b∧b≤13) (hw:0≤w∧w≤18) (ho:0≤o∧o≤5) (hy:0≤y∧y≤13) (hl:0≤l∧l≤13) (hbo:bo=IntKind.i64.wrap (IntKind.i64.wrap (b+w)+o)):CreOk ⟨b,w,o,y,l,bo,x1,x2,x3,x4⟩:=by
 refine ⟨hb,hw,ho,hy,hl,?_,?_⟩
 ·show bo=b+w+o;rw [hbo,C9 (n:=b+w) (by omega) (by omega),C9 (by omega) (by omega)]
 ·show IntKind.i64.wrap (IntKind.i64.wrap (IntKind.i64.wrap (IntKind.i64.wrap (b+w)+o)+y)+l)=b+w+o+y+l;rw [C9 (n:=b+w) (by omega) (by omega),C9 (n:=b+w+o) (by omega) (by omega),C9 (n:=b+w+o+y) (by omega) (by omega),C9 (by omega) (by omega)]
def ZO:Cre:=⟨0,0,0,0,0,0,false,false,false,false⟩
theorem oz:CreOk ZO:=nL (by decide) (by decide) (by decide) (by decide) (by decide) rfl
theorem sE {r:Rul} (h:RulOk r) (d:Del):CreOk (AD r d):=by
 unfold AD;cases hl:EZ d==0 with
 | false=>exact oz
 | true =>
  obtain ⟨⟨a1,a2⟩,⟨a3,a4⟩,a5⟩:=jJ hl;have hw:=h.wide;have hn:=h.noball;have e1:IntKind.i64.wrap (IntKind.i64.wrap (d.runs - d.short)+d.boundary)=d.runs - d.short+d.boundary:=by
   rw [C9 (n:=d.runs - d.short) (by omega) (by omega),C9 (by omega) (by omega)]
  have n0:0≤d.runs - d.short+d.boundary∧d.runs - d.short+d.boundary≤13:=by omega
  simp only [Bool.not_true,cond_false,R2,e1];generalize d.runs - d.short+d.boundary=n at n0;have e2:IntKind.i64.wrap (r.wide+n)=r.wide+n:=C9 (by omega) (by omega);have c13:∀ b:Bool,0≤cond b n 0∧cond b n 0≤13:=fun b=>by cases b<;>simp<;>omega
  refine nL (c13 _) ?_ ?_ (c13 _) (c13 _) rfl
  ·rw [e2];cases d.type==2<;>simp<;>omega
  ·cases d.type==3<;>simp<;>omega
def JS (r:Rul) (e:Ev):Cre:=cond (e.kind==4) (AD r e.ball) ZO
def Bc (q:Int) (s:Inn):Sco:=⟨s.side,s.runs,s.wickets,Cf q s.complete s.inover,s.wides,s.noballs,s.byes,s.legbyes,s.pens,0⟩
def UA (r:Rul) (e:Ev) (x:Sco):Sco:=⟨x.side,x.runs+Dv (JS r e),x.wickets+YM e,x.balls+cond (JS r e).counts 1 0,x.wides+(JS r e).wides,x.noballs+(JS r e).noballs,x.byes+(JS r e).byes,x.legbyes+(JS r e).legbyes,x.pens,x.ending⟩
def J4 (n:Int) (x:Sco):Sco:=⟨x.side,x.runs+n,x.wickets,x.balls,x.wides,x.noballs,x.byes,x.legbyes,x.pens+n,x.ending⟩
theorem Dr (x:Sco):J4 0 x=x:=by
 obtain ⟨x0,x1,x2,x3,x4,x5,x6,x7,x8,x9⟩:=x;simp only [J4,Int.add_zero]
theorem fY {r:Rul} {e:Ev} (x:Sco) (hk:(e.kind==4)=false):UA r e x={ x with wickets:=x.wickets+Cl e }:=by
 have c0:JS r e=ZO:=by unfold JS;rw [hk];rfl
 have o0:YM e=Cl e:=by unfold YM;rw [hk];rfl
 have t0:Dv ZO=0:=rfl;unfold UA;rw [c0,o0,t0];simp only [ZO,cond_false,Int.add_zero]
theorem SH {r:Rul} {e:Ev} (x:Sco) (hk:(e.kind==4)=false) (ho:Cl e=0):UA r e x=x:=by
 rw [fY x hk,ho,Int.add_zero]
theorem sH {r:Rul} {s:Inn} (ok:InnOk r s):0≤s.wickets∧s.wickets≤11:=by
 have h:=ok.bat;unfold XG at h;simp only [zzj] at h;have h1:=beq_iff_eq.1 h.2.2;have h2:=ia (pIs s.batters 2) s.batters.length;have h3:=(DV ok.code).side;have h4:=ok.lb;unfold V4 at h1;omega
theorem tY {c q:Int} (hc:0≤c∧c≤1000000000) (hq:0≤q∧q≤8):0≤c * q∧c * q≤8000000000:=by
 refine ⟨Int.mul_nonneg hc.1 hq.1,?_⟩;have h1:=Int.mul_le_mul_of_nonneg_right hc.2 hq.1;have h2:=Int.mul_le_mul_of_nonneg_left hq.2 (show (0:Int)≤1000000000 by omega);omega
theorem gx {r:Rul} {s:Inn} (ok:InnOk r s):Cf r.balls s.complete s.inover=s.complete * r.balls+s.inover∧0≤Cf r.balls s.complete s.inover∧Cf r.balls s.complete s.inover≤9000000000:=by
 have h1:=(DV ok.code).balls;have h2:=ok.io;have h3:=tY ok.complete (show 0≤r.balls∧r.balls≤8 by omega);rw [Q1];have:wr (s.complete * r.balls+s.inover)=s.complete * r.balls+s.inover:=C9 (by omega) (by omega);rw [this];omega
theorem tS {x a d:Int} (h:wr (x - a)=d) (hx:wr x=x) (ha:0≤a∧a≤9000000000) (hd:0≤d∧d≤1000):x=a+d:=by
 simp only [wr,NL] at h hx;omega
theorem rV (q:Int) (r:Rul) (t:Inn) (b:Bool):Bc q (Bq r t b)=Bc q t:=rfl
theorem oJ {r:Rul} {s:Inn} {e:Ev} (hk:(e.kind==4)=true) (h:((Ao r s e).2==0)=true):Bc r.balls (Ao r s e).1=UA r e (Bc r.balls s):=by
 obtain ⟨g1,g2,g3,g4,g5,g6,g7,g8,g9,g10⟩:=mz hk h;obtain ⟨hv,he,hn,hw,hp,hs⟩:=P4 h;have ok:=JA.1 hv;have rk:=DV ok.code;have co:=sE rk e.ball;have k4:=beq_iff_eq.1 hk;have hpb:Be r s e=Kv r s e.ball:=by unfold Be;rw [k4];rfl
 rw [hpb] at hp hs;obtain ⟨hr,hb⟩:=cn hp;obtain ⟨q1,q2,q3,q4,q5,q6⟩:=Ve hr;have ce:JS r e=AD r e.ball:=by unfold JS;rw [hk];rfl
 have od:YM e=cond (e.ball.how==0) 0 1:=by unfold YM;rw [hk];rfl
 have hx:=gx ok;have r0:=ok.runs;have w0:=ok.wides;have n0:=ok.noballs;have b0:=ok.byes;have l0:=ok.legbyes;have wk:=sH ok;unfold Bj at r0 w0 n0 b0 l0;have f0:=co.ba;have f1:=co.wi;have f2:=co.no;have f3:=co.bb;have f4:=co.lb;have f5:=co.tot;rw [hs,hb] at g1 g7 g8 ⊢;have e1:(Bq r (IH r s e.ball) (e.kind==4)).runs=IntKind.i64.wrap (s.runs+Dv (AD r e.ball)):=rfl;have e2:(Bq r (IH r s e.ball) (e.kind==4)).wides=IntKind.i64.wrap (s.wides+(AD r e.ball).wides):=rfl;have e3:(Bq r (IH r s e.ball) (e.kind==4)).noballs=IntKind.i64.wrap (s.noballs+(AD r e.ball).noballs):=rfl;have e4:(Bq r (IH r s e.ball) (e.kind==4)).byes=IntKind.i64.wrap (s.byes+(AD r e.ball).byes):=rfl;have e5:(Bq r (IH r s e.ball) (e.kind==4)).legbyes=IntKind.i64.wrap (s.legbyes+(AD r e.ball).legbyes):=rfl;have e6:(Bq r (IH r s e.ball) (e.kind==4)).side=s.side∧(Bq r (IH r s e.ball) (e.kind==4)).pens=s.pens∧(Bq r (IH r s e.ball) (e.kind==4)).wickets=(Ak s e.ball).wickets:=by
  obtain ⟨w1,w2⟩:=jz r (Ak s e.ball) (AD r e.ball).counts;obtain ⟨k1,k2,k3,k4,k5,k6,k7,k8,k9,k10⟩:=YY s e.ball;have w3:(Ap r (Ak s e.ball) (AD r e.ball).counts).1.side=s.side:=by
   have s1:(Ak s e.ball).side=s.side:=by
    unfold Ak;cases (!(e.ball.runs.tmod 2==0) != e.ball.crossed)<;>exact P_c (P:=fun x:Inn=>x.side=s.side) _ _ _ rfl (P_c (P:=fun x:Inn=>x.side=s.side) _ _ _ rfl rfl)
   unfold Ap;exact P_c (P:=fun x:Inn×Bool=>x.1.side=s.side) _ _ _ s1 (P_c (P:=fun x:Inn×Bool=>x.1.side=s.side) _ _ _ s1 s1)
  refine ⟨?_,?_,?_⟩
  ·show (cond (Ap r (Ak s e.ball) (AD r e.ball).counts).2 (IA (Ap r (Ak s e.ball) (AD r e.ball).counts).1) (Ap r (Ak s e.ball) (AD r e.ball).counts).1).side=_;rw [← w3];cases (Ap r (Ak s e.ball) (AD r e.ball).counts).2<;>rfl
  ·show (cond (Ap r (Ak s e.ball) (AD r e.ball).counts).2 (IA (Ap r (Ak s e.ball) (AD r e.ball).counts).1) (Ap r (Ak s e.ball) (AD r e.ball).counts).1).pens=_;rw [← k6,← w2];cases (Ap r (Ak s e.ball) (AD r e.ball).counts).2<;>rfl
  ·show (cond (Ap r (Ak s e.ball) (AD r e.ball).counts).2 (IA (Ap r (Ak s e.ball) (AD r e.ball).counts).1) (Ap r (Ak s e.ball) (AD r e.ball).counts).1).wickets=_;rw [← w1];cases (Ap r (Ak s e.ball) (AD r e.ball).counts).2<;>rfl
 obtain ⟨z1,z2⟩:=Yu q1 (Yy hw (by rw [k4];rfl));have hout:=kQ (d:=e.ball) z1 z2 (fun hd=>Xz q5 hd);have wv:IntKind.i64.wrap (Cf r.balls (Bq r (IH r s e.ball) (e.kind==4)).complete (Bq r (IH r s e.ball) (e.kind==4)).inover)=Cf r.balls (Bq r (IH r s e.ball) (e.kind==4)).complete (Bq r (IH r s e.ball) (e.kind==4)).inover:=HG _;have hb7:=tS g7 wv (by omega) (by cases (AD r e.ball).counts<;>simp);unfold Bc UA;rw [e1,e2,e3,e4,e5,e6.1,e6.2.1,e6.2.2,hb7,ce,od,hout];have i1:IntKind.i64.wrap (s.runs+Dv (AD r e.ball))=s.runs+Dv (AD r e.ball):=C9 (by omega) (by omega);have i2:IntKind.i64.wrap (s.wides+(AD r e.ball).wides)=s.wides+(AD r e.ball).wides:=C9 (by omega) (by omega);have i3:IntKind.i64.wrap (s.noballs+(AD r e.ball).noballs)=s.noballs+(AD r e.ball).noballs:=C9 (by omega) (by omega);have i4:IntKind.i64.wrap (s.byes+(AD r e.ball).byes)=s.byes+(AD r e.ball).byes:=C9 (by omega) (by omega);have i5:IntKind.i64.wrap (s.legbyes+(AD r e.ball).legbyes)=s.legbyes+(AD r e.ball).legbyes:=C9 (by omega) (by omega);have i6:inc s.wickets=s.wickets+1:=C9 (by omega) (by omega);rw [i1,i2,i3,i4,i5,i6];cases e.ball.how==0 with
 | false=>rfl
 | true=>simp only [cond_true,Int.add_zero]
def Kz (q:Int) (s:Inn) (x:Inn×Int):Prop:=(x.2==0)=true→Bc q x.1=Bc q s
theorem Di {q:Int} {s:Inn} (b:Bool) (x y:Inn×Int) (hx:Kz q s x) (hy:Kz q s y):Kz q s (cond b x y):=by cases b<;>assumption
theorem hY {r:Rul} {s:Inn} {e:Ev} (h:((Ao r s e).2==0)=true):Bc r.balls (Ao r s e).1=J4 (cond (e.kind==13&&e.side==s.side) 5 0) (UA r e (Bc r.balls s)):=by
 cases hk:e.kind==4 with
 | true =>
  rw [oJ hk h,beq_iff_eq.1 hk];exact (Dr _).symm
 | false =>
  obtain ⟨hv,he,hn,hw,hp,hs⟩:=P4 h;have ok:=JA.1 hv;have wk:=sH ok;have iw:IntKind.i64.wrap (s.wickets+1)=s.wickets+1:=C9 (by omega) (by omega);rw [hs,rV,fY _ hk];have z:∀ {x:Inn×Int},Kz r.balls s x→(x.2==0)=true→Cl e=0→Bc r.balls x.1=J4 (cond (false&&e.side==s.side) 5 0) { Bc r.balls s with wickets:=(Bc r.balls s).wickets+Cl e }:=fun k hx h0=>by
   rw [k hx,h0,Int.add_zero];exact (Dr _).symm
  have kn:∀ {t:Inn} {n:Int},(n==0)=false→Kz r.balls s (t,n):=fun hn hx=>by rw [hn] at hx;cases hx
  have ks:∀ {n:Int},Kz r.balls s (s,n):=fun _=>rfl
  revert hp
  unfold Be;rw [hk];cases h5:e.kind==5 with
  | true =>
   have h5':=beq_iff_eq.1 h5;have ho:Cl e=cond e.yes 1 0:=by unfold Cl;rw [h5'];cases e.yes<;>rfl
   rw [ho,h5'];cases e.yes with
   | false =>
    intro hp;refine Eq.trans (b:=Bc r.balls s) ?_ ?_
    ·exact (show Kz r.balls s (KX s e.player) by unfold KX;exact Di _ _ _ (fun _=>rfl) (fun _=>rfl)) hp
    ·simp only [cond_false,Int.add_zero];exact (Dr _).symm
   | true =>
    intro hp;change ((E7 s e.player).2==0)=true at hp;show Bc r.balls (E7 s e.player).1=_;unfold E7 at hp ⊢;cases hm:JG s e.player==0 with
    | false=>rw [hm] at hp;exact absurd (show (JG s e.player==0)=true from hp) (by rw [hm];decide)
    | true =>
     simp only [cond_true];unfold Bc J4;simp only [iw,cond_true,Int.reduceBEq,Bool.false_and,cond_false,Int.add_zero]
  | false =>
   cases h6:e.kind==6 with
   | true =>
    have h6':=beq_iff_eq.1 h6;have ho:Cl e=cond e.yes 0 1:=by unfold Cl;rw [h6'];cases e.yes<;>rfl
    rw [ho,h6'];intro hp;change ((FX s e.player e.yes).2==0)=true at hp;show Bc r.balls (FX s e.player e.yes).1=_;unfold FX at hp ⊢;cases hm1:(!inR e.player s.batters.length) with
    | true=>rw [hm1] at hp;cases hp
    | false =>
     cases hm2:(s.striker==0||s.other==0) with
     | true=>rw [hm1,hm2] at hp;cases hp
     | false =>
      cases hm3:(!(e.player==s.striker) && !(e.player==s.other)) with
      | true=>rw [hm1,hm2,hm3] at hp;cases hp
      | false =>
       cases hm4:(e.yes&&((De s.batters s.batters.length).length:Int)==0) with
       | true=>rw [hm1,hm2,hm3,hm4] at hp;cases hp
       | false =>
        simp only [cond_false];cases e.yes with
        | true=>unfold Bc J4;simp only [cond_true,Int.reduceBEq,Bool.false_and,cond_false,Int.add_zero]
        | false=>unfold Bc J4;simp only [iw,cond_false,Int.reduceBEq,Bool.false_and,Int.add_zero]
   | false =>
    have ho:Cl e=0:=by unfold Cl;rw [h5,h6];rfl
    cases h13:e.kind==13 with
    | true =>
     have k13:=beq_iff_eq.1 h13;rw [k13,ho];intro hp;change ((He s e.side e.runs).2==0)=true at hp;show Bc r.balls (He s e.side e.runs).1=_;have rn:=ok.runs;have pn:=ok.pens;unfold Bj at rn pn;have i1:IntKind.i64.wrap (s.runs+5)=s.runs+5:=C9 (by omega) (by omega);have i2:IntKind.i64.wrap (s.pens+5)=s.pens+5:=C9 (by omega) (by omega);unfold He at hp ⊢;cases hr5:e.runs==5 with
     | false=>rw [hr5] at hp;cases hp
     | true =>
      cases hsd:e.side==s.side with
      | true =>
       simp only [Bool.not_true,cond_false,cond_true];unfold Bc J4 Oi;simp only [i1,i2,Bool.and_self,cond_true,Int.reduceBEq,Bool.true_and,Int.add_zero]
      | false =>
       simp only [Bool.not_true,cond_false,Bool.and_false,Int.add_zero];exact (Dr _).symm
    | false =>
     simp only [cond_false];intro hp;refine z ?_ hp ho;refine Di _ _ _ ?_ (Di _ _ _ ?_ (Di _ _ _ ?_ (Di _ _ _ ?_ (Di _ _ _ ?_ (Di _ _ _ ?_ (Di _ _ _ ?_ (Di _ _ _ ?_ ?_)))))))
     ·unfold N2;exact Di _ _ _ ks (Di _ _ _ ks (Di _ _ _ ks (fun _=>rfl)))
     ·unfold UE;cases NM r s e.player==0
      ·exact ks
      ·exact fun _=>rfl
     ·unfold LN;exact Di _ _ _ ks (fun _=>rfl)
     ·unfold NW;exact Di _ _ _ ks (Di _ _ _ ks (Di _ _ _ ks (fun _=>rfl)))
     ·unfold Qw;exact Di _ _ _ ks (Di _ _ _ ks (fun _=>rfl))
     ·unfold LP;exact Di _ _ _ ks (fun _=>rfl)
     ·unfold LE;exact Di _ _ _ ks (Di _ _ _ ks (fun _=>rfl))
     ·unfold Ll;exact Di _ _ _ ks (Di _ _ _ (fun _=>rfl) ks)
     ·unfold Nb;exact Di _ _ _ ks (Di _ _ _ ks (Di _ _ _ ks (fun _=>rfl)))
def sco (xs:List Sco) (i:Nat):Sco:=xs.getD i ⟨0,0,0,0,0,0,0,0,0,0⟩
theorem Qq (xs:List Sco) (i:Nat):sco xs i=(match xs[i]? with | some s=>s | none=>⟨0,0,0,0,0,0,0,0,0,0⟩):=by
 unfold sco;rw [zzk];cases xs[i]?<;>rfl
theorem kF (xs:List Sco) (k:Nat) (s:Sco) (i:Nat) (hi:i<xs.length):sco (xs.set k s) i=(if k=i then s else sco xs i):=by
 rw [Qq,Qq,List.getElem?_set]
 by_cases h:k=i
 ·subst h;rw [if_pos rfl,if_pos rfl,if_pos hi]
 ·rw [if_neg h,if_neg h]
theorem qi (xs:List Sco) (s:Sco) (i:Nat) (hi:i<xs.length+1):sco (xs++[s]) i=(if i<xs.length then sco xs i else s):=by
 rw [Qq,Qq]
 by_cases h:i<xs.length
 ·rw [if_pos h,List.getElem?_append_left h]
 ·have:i=xs.length:=by omega
  subst this;rw [if_neg h,List.getElem?_append_right (Nat.le_refl _),Nat.sub_self];rfl
structure TS where
 xs:List Sco
 p1:Int
 p2:Int
 first:Int
 follow:Bool
def FR (m:Mat):TS:=⟨m.inns.map (Bc m.rules.balls),m.pen1,m.pen2,m.first,m.follow⟩
theorem P5 (q:Int) (xs:List Inn) {i:Nat} (h:i<xs.length):sco (xs.map (Bc q)) i=Bc q (inn xs i):=by
 rw [Qq,MN,List.getElem?_map,zzn h];rfl
theorem oT (q:Int) (xs:List Inn) (i:Nat):(sco (xs.map (Bc q)) i).side=(inn xs i).side:=by
 rw [Qq,MN,List.getElem?_map];cases xs[i]?<;>rfl
def Ki (first:Int) (follow:Bool) (i:Int):Int:=cond (cond (follow&&iLe 2 i) (i==2) (i.tmod 2==1)) (CS first) first
theorem lQ (m:Mat) (i:Int):C3 m i=Ki m.first m.follow i:=rfl
def fg (sd p:Int):Sco:=⟨sd,p,0,0,0,0,0,0,p,0⟩
def Bu (sd:Nat→Int) (s:Int):Nat→Option Nat
 | 0=>none
 | k+1=>cond (sd k==s) (some k) (Bu sd s k)
theorem Ug {f g:Nat→Int} {s:Int}:∀ n,(∀ k,k<n→f k=g k)→Bu f s n=Bu g s n
 | 0,_=>rfl
 | n+1,h=>by
  unfold Bu;rw [h n (Nat.lt_succ_self n),Ug n (fun k hk=>h k (by omega))]
theorem JM {f:Nat→Int} {s:Int} {j:Nat}:∀ n,Bu f s n=some j→j<n∧f j=s
 | 0,h=>by cases h
 | n+1,h=>by
  unfold Bu at h;cases hq:f n==s with
  | true =>
   rw [hq] at h;cases h;exact ⟨Nat.lt_succ_self _,beq_iff_eq.1 hq⟩
  | false =>
   rw [hq] at h;obtain ⟨h1,h2⟩:=JM n h;exact ⟨by omega,h2⟩
theorem Vh {f:Nat→Int} {s:Int}:∀ n,Bu f s n=none→∀ j,j<n→¬ f j=s
 | 0,_,j,hj=>absurd hj (Nat.not_lt_zero j)
 | n+1,h,j,hj=>by
  unfold Bu at h;cases hq:f n==s with
  | true=>rw [hq] at h;cases h
  | false =>
   rw [hq] at h
   by_cases e:j=n
   ·subst e;exact beq_eq_false_iff_ne.1 hq
   ·exact Vh n h j (by omega)
theorem jg (xs:List Inn) (sd:Int):∀ n,Mk xs sd n=Bu (fun k=>(inn xs k).side) sd n
 | 0=>rfl
 | n+1=>by
  unfold Mk Bu;rw [jg xs sd n]
def ej (T:TS):TS :=
 let sd:=Ki T.first T.follow (T.xs.length:Int)
 { T with xs:=T.xs++[fg sd (cond (sd==2) T.p2 T.p1)],p1:=cond (sd==1) 0 T.p1,p2:=cond (sd==2) 0 T.p2 }
def Tt (s:Int) (T:TS):TS:=match Bu (fun k=>(sco T.xs k).side) s T.xs.length with
 | some k=>{ T with xs:=T.xs.set k (J4 5 (sco T.xs k)) }
 | none=>{ T with p1:=cond (s==1) (T.p1+5) T.p1,p2:=cond (s==2) (T.p2+5) T.p2 }
def fA (r:Rul) (e:Ev) (T:TS):TS:={ T with xs:=T.xs.set (T.xs.length - 1) (UA r e (sco T.xs (T.xs.length - 1))) }
def Zt (e:Ev):Int:=cond e.yes e.side (CS e.side)
def R4 (r:Rul) (e:Ev) (T:TS):TS :=
 cond (e.kind==1) { T with first:=Zt e } (cond (e.kind==2) (ej T) (cond (e.kind==12) { T with follow:=e.yes } (cond (e.kind==16) T (cond (e.kind==13) (Tt e.side T) (fA r e T)))))
theorem mv (x:Mat):FR (CC x)=FR x∧(CC x).inns=x.inns∧((CC x).stage=x.stage∨(x.stage=3∧((CC x).stage=5∨((CC x).stage=4∧x.inns.length=2)∨(CC x).stage=2))):=by
 unfold CC;cases h3:(x.stage==3 && !((AR x).ending==0)) with
 | false=>exact ⟨rfl,rfl,Or.inl rfl⟩
 | true =>
  rw [zzj] at h3;have s3:=beq_iff_eq.1 h3.1;simp only [cond_true];unfold P9
  dsimp only
  cases ((x.inns.length:Int)==IntKind.i64.wrap (2 * x.rules.innings)||((x.inns.length:Int)==3&&iLt (CG x (AR x).side) (CG x (CS (AR x).side)))) with
  | true=>exact ⟨rfl,rfl,Or.inr ⟨s3,Or.inl rfl⟩⟩
  | false =>
   cases h4:((x.inns.length:Int)==2&&iLt 0 x.rules.followon&&iLe x.rules.followon (IntKind.i64.wrap (CG x x.first - CG x (CS x.first)))) with
   | true =>
    simp only [zzj,beq_iff_eq] at h4;exact ⟨rfl,rfl,Or.inr ⟨s3,Or.inr (Or.inl ⟨rfl,by omega⟩)⟩⟩
   | false=>exact ⟨rfl,rfl,Or.inr ⟨s3,Or.inr (Or.inr rfl)⟩⟩
theorem ZL {m:Mat} (h:Fr m=true):(0≤m.pen1∧m.pen1≤1000000)∧(0≤m.pen2∧m.pen2≤1000000)∧((m.stage==1)=true→m.first=0)∧((m.stage==4)=true→m.inns.length=2)∧0≤m.first∧m.first≤2:=by
 unfold Fr ef at h;simp only [zzj,Bool.not_eq_true'] at h;obtain ⟨⟨h1,h2,h3,h4,h5,h6,h7,h8,h9,h10⟩,h11,h12⟩:=h;unfold Za at h4;simp only [Bool.or_eq_false_iff,iLt,decide_eq_false_iff_not] at h4;simp only [Bool.or_eq_false_iff,iLt,decide_eq_false_iff_not] at h5;refine ⟨by omega,by omega,fun hs=>?_,fun hs=>?_,by omega,by omega⟩
 ·rw [hs,Bool.true_and,Bool.not_eq_false',beq_iff_eq] at h7;exact h7
 ·rw [hs,Bool.true_and,Bool.or_eq_false_iff,Bool.not_eq_false',Bool.not_eq_false',beq_iff_eq,beq_iff_eq] at h9;omega
theorem ny {r:Rul} {a b c:Int} (h:((Cg r a b c).2==0)=true):Bc r.balls (Cg r a b c).1=fg a c∧(a=1∨a=2):=by
 unfold Cg at h ⊢;cases h1:BD r==0 with
 | false=>rw [h1] at h;exact absurd (show (BD r==0)=true from h) (by rw [h1];decide)
 | true =>
  cases h2:(!btw a 1 2 || !btw b 0 1000000 || !btw c 0 1000000) with
  | true=>rw [h1,h2] at h;cases h
  | false =>
   rw [Bool.or_eq_false_iff,Bool.or_eq_false_iff,Bool.not_eq_false'] at h2;have:=Sp.1 h2.1.1;refine ⟨?_,by omega⟩;show Sco.mk a c 0 (Cf r.balls 0 0) 0 0 0 0 c 0=_;rw [Q1,Int.zero_mul];rfl
theorem Ka (q:Int) (xs:List Inn) (k:Nat) (t:Inn):(xs.set k t).map (Bc q)=(xs.map (Bc q)).set k (Bc q t):=List.map_set
theorem gC (xs:List Sco) (k:Nat) (h:k<xs.length):xs.set k (sco xs k)=xs:=by
 apply List.ext_getElem?;intro i;rw [List.getElem?_set]
 by_cases e:k=i
 ·subst e;rw [if_pos rfl,if_pos h,Qq,zzn h]
 ·rw [if_neg e]
theorem qy {r:Rul} {s:Inn} (hv:Gr r s=true) (q:Int):Bc q (Oi s)=J4 5 (Bc q s):=by
 have ok:=JA.1 hv;have rn:=ok.runs;have pn:=ok.pens;unfold Bj at rn pn;have i1:IntKind.i64.wrap (s.runs+5)=s.runs+5:=C9 (by omega) (by omega);have i2:IntKind.i64.wrap (s.pens+5)=s.pens+5:=C9 (by omega) (by omega);unfold Bc J4 Oi;simp only [i1,i2]
structure Stg (m:Mat) (e:Ev) (t:Mat):Prop where
 k1:(e.kind==1)=true→m.stage=1∧t.stage=2
 k2:(e.kind==2)=true→m.stage=2∧m.inns.length≤3
 k12:(e.kind==12)=true→m.stage=4∧m.inns.length=2∧t.stage=2
 k16:(e.kind==16)=true→t.stage=5
 play:(e.kind==1)=false→(e.kind==2)=false→(e.kind==12)=false→(e.kind==16)=false→m.stage=3∧1≤m.inns.length
 not1:¬ t.stage=1
 four:t.stage=4→t.inns.length=2
set_option maxHeartbeats 4000000 in
theorem fi {m:Mat} {e:Ev} (h:((DL m e).2==0)=true):FR (DL m e).1=R4 m.rules e (FR m)∧Stg m e (DL m e).1:=by
 obtain ⟨hv,he,h5,hp,hs⟩:=Tz h;have ok:=Wx hv;obtain ⟨v1,v2,v3,v4,v5,v6⟩:=ZL hv;obtain ⟨c1,c2,c3⟩:=mv (HY m e).1;rw [hs,c1];have len4:=ok.len;unfold R4;unfold HY at hp c2 c3 ⊢;cases k1:e.kind==1 with
 | true =>
  have e1:=beq_iff_eq.1 k1;rw [k1] at hp c2 c3;cases s1:m.stage==1 with
  | false=>rw [s1] at hp;cases hp
  | true =>
   rw [s1] at c2 c3;simp only [Bool.not_true,cond_false,cond_true] at c2 c3 ⊢;refine ⟨rfl,?_⟩;have st:(CC { m with first:=cond e.yes e.side (CS e.side),stage:=2 }).stage=2:=by
    rcases c3 with c3 | c3
    ·exact c3
    ·exact absurd c3.1 (by decide)
   exact ⟨fun _=>⟨beq_iff_eq.1 s1,st⟩,fun k=>(by rw [e1] at k;cases k),fun k=>(by rw [e1] at k;cases k),fun k=>(by rw [e1] at k;cases k),fun k=>(by rw [e1] at k;cases k),by rw [st];decide,(by rw [st];intro k;cases k)⟩
 | false =>
  rw [k1] at hp c2 c3;cases k2:e.kind==2 with
  | true =>
   have e2:=beq_iff_eq.1 k2;rw [k2] at hp c2 c3;cases s2:m.stage==2 with
   | false=>rw [s2] at hp;cases hp
   | true =>
    rw [s2] at hp c2 c3;simp only [Bool.not_true,cond_false,cond_true] at hp c2 c3 ⊢;have room:=ok.room s2;have inn2:=(DV ok.code).innings;unfold T1 at hp c2 c3 ⊢;cases hb:(Cg m.rules (C3 m (m.inns.length:Int)) (Gi m (C3 m (m.inns.length:Int))) (cond (C3 m (m.inns.length:Int)==2) m.pen2 m.pen1)).2==0 with
    | false=>simp only [hb,Bool.not_false,cond_true] at hp;cases hp
    | true =>
     simp only [hb,Bool.not_true,cond_false] at hp c2 c3 ⊢;cases ht:(Ao m.rules (Cg m.rules (C3 m (m.inns.length:Int)) (Gi m (C3 m (m.inns.length:Int))) (cond (C3 m (m.inns.length:Int)==2) m.pen2 m.pen1)).1 e).2==0 with
     | false=>simp only [ht,Bool.not_false,cond_true] at hp;exact absurd hp Bool.false_ne_true
     | true =>
      simp only [ht,Bool.not_true,cond_false] at c2 c3 ⊢;have n1:=hY ht;have o0:Cl e=0:=by unfold Cl;rw [e2];rfl
      rw [SH _ (by rw [e2];rfl) o0,e2] at n1;have n2:=n1.trans (Dr _);rw [(ny hb).1] at n2;refine ⟨?_,?_⟩
      ·unfold FR ej;rw [← lQ] at *
       simp only [List.map_append,List.map_cons,List.map_nil,n2,List.length_map]
      ·refine ⟨fun k=>(by rw [k1] at k;cases k),fun _=>⟨beq_iff_eq.1 s2,by omega⟩,fun k=>(by rw [e2] at k;cases k),fun k=>(by rw [e2] at k;cases k),fun _ k=>(by rw [k2] at k;cases k),?_,?_⟩
       ·rcases c3 with c3 | ⟨_,c3 | c3 | c3⟩
        ·rw [c3];decide
        ·rw [c3];decide
        ·rw [c3.1];decide
        ·rw [c3];decide
       ·intro k;rw [c2]
        rcases c3 with c3 | ⟨_,c3 | c3 | c3⟩
        ·rw [c3] at k;cases k
        ·rw [c3] at k;cases k
        ·exact c3.2
        ·rw [c3] at k;cases k
  | false =>
   rw [k2] at hp c2 c3;cases k12:e.kind==12 with
   | true =>
    have e12:=beq_iff_eq.1 k12;rw [k12] at hp c2 c3;cases s4:m.stage==4 with
    | false=>rw [s4] at hp;cases hp
    | true =>
     rw [s4] at hp c2 c3;cases sf:e.side==m.first with
     | false=>rw [sf] at hp;cases hp
     | true =>
      rw [sf] at c2 c3;simp only [Bool.not_true,cond_false,cond_true] at c2 c3 ⊢;refine ⟨rfl,?_⟩;have st:(CC { m with follow:=e.yes,stage:=2 }).stage=2:=by
       rcases c3 with c3 | c3
       ·exact c3
       ·exact absurd c3.1 (by decide)
      exact ⟨fun k=>(by rw [k1] at k;cases k),fun k=>(by rw [k2] at k;cases k),fun _=>⟨beq_iff_eq.1 s4,v4 s4,st⟩,fun k=>(by rw [e12] at k;cases k),fun _ _ k=>(by rw [k12] at k;cases k),by rw [st];decide,(by rw [st];intro k;cases k)⟩
   | false =>
    rw [k12] at hp c2 c3;cases k16:e.kind==16 with
    | true =>
     rw [k16] at hp c2 c3;simp only [cond_false,cond_true] at c2 c3 ⊢;have st:(CC (aU m)).stage=5:=by
      rcases c3 with c3 | c3
      ·exact c3
      ·exact absurd c3.1 (by show ¬ ((5:Int)=3);decide)
     refine ⟨?_,⟨fun k=>(by rw [k1] at k;cases k),fun k=>(by rw [k2] at k;cases k),fun k=>(by rw [k12] at k;cases k),fun _=>st,fun _ _ _ k=>(by rw [k16] at k;cases k),by rw [st];decide,(by rw [st];intro k;cases k)⟩⟩;unfold FR aU;simp only;cases s3:m.stage==3 with
     | false=>rfl
     | true =>
      have hl:=WO (ok.begun s3) (by omega);simp only [cond_true,Ka];rw [show Bc m.rules.balls { AR m with ending:=5 }=sco (m.inns.map (Bc m.rules.balls)) (lnx m.inns) from (P5 _ _ hl).symm,gC _ _ (by rw [List.length_map];exact hl)]
    | false =>
     rw [k16] at hp c2 c3;simp only [cond_false] at hp c2 c3 ⊢;cases s3:m.stage==3 with
     | false=>rw [s3] at hp;exact absurd (show ((1:Int)==0)=true from hp) (by decide)
     | true =>
      rw [s3] at hp c2 c3;simp only [Bool.not_true,cond_false] at hp c2 c3 ⊢;have h0:=ok.begun s3;have hl:=WO h0 (by omega);have hlen:m.inns.length - 1=lnx m.inns:=by
       rw [beq_eq_false_iff_ne] at h0;unfold lnx;rw [CE (by omega) (by omega)];omega
      have stg:(CC (D1 m e).1).inns.length=m.inns.length→((CC (D1 m e).1).stage=3∨((CC (D1 m e).1).stage=5∨((CC (D1 m e).1).stage=4∧m.inns.length=2)∨(CC (D1 m e).1).stage=2))→Stg m e (CC (D1 m e).1):=fun hn hq =>
       ⟨fun k=>(by rw [k1] at k;cases k),fun k=>(by rw [k2] at k;cases k),fun k=>(by rw [k12] at k;cases k),fun k=>(by rw [k16] at k;cases k),fun _ _ _ _=>⟨beq_iff_eq.1 s3,by omega⟩,by
        rcases hq with q | q | q | q
        ·rw [q];decide
        ·rw [q];decide
        ·rw [q.1];decide
        ·rw [q];decide,by
        intro k;rw [hn]
        rcases hq with q | q | q | q
        ·rw [q] at k;cases k
        ·rw [q] at k;cases k
        ·exact q.2
        ·rw [q] at k;cases k⟩
      have xl:(m.inns.map (Bc m.rules.balls)).length=m.inns.length:=List.length_map _;cases hq:(Ao m.rules (AR m) e).2==0 with
      | false=>unfold D1 at hp;simp only [hq,Bool.not_false,cond_true] at hp;exact absurd hp Bool.false_ne_true
      | true =>
       have n1:=hY hq;have sd1:(Ao m.rules (AR m) e).1.side=(AR m).side:=congrArg Sco.side n1;have s3':=beq_iff_eq.1 s3;cases k13:e.kind==13 with
       | false =>
        rw [k13] at n1;have n2:=n1.trans (Dr _);have pm:D1 m e=({ m with inns:=m.inns.set (lnx m.inns) (Ao m.rules (AR m) e).1 },0):=by
         unfold D1;simp only [hq,k13,Bool.not_true,Bool.false_and,cond_false]
        rw [pm] at c2 c3 stg ⊢;refine ⟨?_,stg (by rw [c2];exact List.length_set) ?_⟩
        ·unfold FR fA;simp only [cond_false,Ka,n2,xl,hlen,P5 _ _ hl];rfl
        ·rcases c3 with c3 | ⟨_,c3 | c3 | c3⟩
         ·exact Or.inl (c3.trans s3')
         ·exact Or.inr (Or.inl c3)
         ·exact Or.inr (Or.inr (Or.inl ⟨c3.1,by have:=c3.2;change (m.inns.set _ _).length=2 at this;rw [List.length_set] at this;exact this⟩))
         ·exact Or.inr (Or.inr (Or.inr c3))
       | true =>
        have e13:=beq_iff_eq.1 k13;have o0:Cl e=0:=by unfold Cl;rw [e13];rfl
        rw [SH _ (by rw [e13];rfl) o0,k13,Bool.true_and] at n1;have bk:Bu (fun k=>(sco (m.inns.map (Bc m.rules.balls)) k).side) e.side m.inns.length=cond (e.side==(AR m).side) (some (lnx m.inns)) (Bu (fun k=>(inn m.inns k).side) e.side (lnx m.inns)):=by
         have:m.inns.length=lnx m.inns+1:=by omega
         rw [this];show cond ((sco (m.inns.map (Bc m.rules.balls)) (lnx m.inns)).side==e.side) _ (Bu (fun k=>(sco (m.inns.map (Bc m.rules.balls)) k).side) e.side (lnx m.inns))=_;simp only [oT];have sy:((inn m.inns (lnx m.inns)).side==e.side)=(e.side==(AR m).side):=by
          show ((AR m).side==e.side)=_;rw [Bool.eq_iff_iff,beq_iff_eq,beq_iff_eq];exact eq_comm
         rw [sy]
        cases hsd:e.side==(AR m).side with
        | true =>
         rw [hsd] at n1 bk;simp only [cond_true] at n1 bk;have pm:D1 m e=({ m with inns:=m.inns.set (lnx m.inns) (Ao m.rules (AR m) e).1 },0):=by
          unfold D1;simp only [hq,k13,sd1,hsd,Bool.not_true,Bool.and_false,cond_false]
         rw [pm] at c2 c3 stg ⊢;refine ⟨?_,stg (by rw [c2];exact List.length_set) ?_⟩
         ·unfold FR Tt;simp only [cond_true,Ka,n1,xl,bk,P5 _ _ hl];rfl
         ·rcases c3 with c3 | ⟨_,c3 | c3 | c3⟩
          ·exact Or.inl (c3.trans s3')
          ·exact Or.inr (Or.inl c3)
          ·exact Or.inr (Or.inr (Or.inl ⟨c3.1,by have:=c3.2;change (m.inns.set _ _).length=2 at this;rw [List.length_set] at this;exact this⟩))
          ·exact Or.inr (Or.inr (Or.inr c3))
        | false =>
         rw [hsd] at n1 bk;simp only [cond_false] at n1 bk;have n2:=n1.trans (Dr _);have pm:D1 m e=(Hw { m with inns:=m.inns.set (lnx m.inns) (Ao m.rules (AR m) e).1 } e.side,0):=by
          unfold D1;simp only [hq,k13,sd1,hsd,Bool.not_true,Bool.not_false,Bool.and_true,cond_true,cond_false]
         have ab:Mk (m.inns.set (lnx m.inns) (Ao m.rules (AR m) e).1) e.side (m.inns.set (lnx m.inns) (Ao m.rules (AR m) e).1).length=Bu (fun k=>(inn m.inns k).side) e.side (lnx m.inns):=by
          rw [jg,List.length_set,show m.inns.length=lnx m.inns+1 by omega];show cond ((inn (m.inns.set (lnx m.inns) (Ao m.rules (AR m) e).1) (lnx m.inns)).side==e.side) (some (lnx m.inns)) (Bu (fun k=>(inn (m.inns.set (lnx m.inns) (Ao m.rules (AR m) e).1) k).side) e.side (lnx m.inns))=Bu (fun k=>(inn m.inns k).side) e.side (lnx m.inns);rw [XE _ _ _ _ hl,if_pos rfl,sd1];have sy:((AR m).side==e.side)=false:=by
           rw [← hsd,Bool.eq_iff_iff,beq_iff_eq,beq_iff_eq];exact eq_comm
          rw [sy];exact Ug _ (fun k hk=>by rw [XE _ _ _ _ (by omega),if_neg (by omega)])
         have mx:(m.inns.set (lnx m.inns) (Ao m.rules (AR m) e).1).map (Bc m.rules.balls)=m.inns.map (Bc m.rules.balls):=by
          rw [Ka,n2,show Bc m.rules.balls (AR m)=sco (m.inns.map (Bc m.rules.balls)) (lnx m.inns) from (P5 _ _ hl).symm];exact gC _ _ (by rw [xl];exact hl)
         obtain ⟨a1,a2,a3,a4⟩:=iV (m:={ m with inns:=m.inns.set (lnx m.inns) (Ao m.rules (AR m) e).1 }) e.side (Qp (lnx m.inns) (dp ok) (by
          have lv:=Pc (ok.innv (lnx m.inns) hl).1;have l1:=lv.1;have l2:=lv.2.1;exact QW (Rl m.rules (AR m) e) lv.2.2 (show (inn m.inns (lnx m.inns)).before.length+(inn m.inns (lnx m.inns)).bowlers.length≤1048575 by omega)))
         have a3':(Hw { m with inns:=m.inns.set (lnx m.inns) (Ao m.rules (AR m) e).1 } e.side).inns.length=m.inns.length:=a3.trans List.length_set;rw [pm] at c2 c3 stg ⊢;refine ⟨?_,stg (by rw [c2];exact a3') ?_⟩
         ·simp only [cond_true];unfold Hw;simp only [ab];unfold Tt;show FR _=match Bu (fun k=>(sco (m.inns.map (Bc m.rules.balls)) k).side) e.side (m.inns.map (Bc m.rules.balls)).length with
           | some k=>_
           | none=>_
          rw [xl,bk];cases hk:Bu (fun k=>(inn m.inns k).side) e.side (lnx m.inns) with
          | none =>
           have i1:IntKind.i64.wrap (m.pen1+5)=m.pen1+5:=C9 (by omega) (by omega);have i2:IntKind.i64.wrap (m.pen2+5)=m.pen2+5:=C9 (by omega) (by omega);unfold FR;simp only [mx,i1,i2]
          | some k =>
           have hk2:=(JM _ hk).1;have hki:inn (m.inns.set (lnx m.inns) (Ao m.rules (AR m) e).1) k=inn m.inns k:=by rw [XE _ _ _ _ (by omega),if_neg (by omega)]
           unfold FR;simp only [hki,Ka (k:=k),mx,qy (ok.innv k (by omega)).1,P5 _ _ (show k<m.inns.length by omega)]
         ·rcases c3 with c3 | ⟨_,c3 | c3 | c3⟩
          ·exact Or.inl (c3.trans (a4.trans s3'))
          ·exact Or.inr (Or.inl c3)
          ·exact Or.inr (Or.inr (Or.inl ⟨c3.1,a3'.symm.trans c3.2⟩))
          ·exact Or.inr (Or.inr (Or.inr c3))
def opn (L:Rows):Nat→Nat
 | 0=>0
 | n+1=>opn L n+cond ((evR L n).kind==2) 1 0
theorem Qa (L:Rows) (n:Nat):opn L n≤opn L (n+1):=by
 show opn L n≤opn L n+_;exact Nat.le_add_right _ _
theorem ED (L:Rows) {i:Nat}:∀ {j:Nat},i≤j→opn L i≤opn L j
 | 0,h=>by rw [Nat.le_zero.1 h];exact Nat.le_refl _
 | j+1,h=>by
  by_cases e:i=j+1
  ·rw [e];exact Nat.le_refl _
  ·exact Nat.le_trans (ED L (by omega)) (Qa L j)
def HC (L:Rows):Nat→Option Int
 | 0=>none
 | n+1=>match HC L n with
  | some v=>some v
  | none=>cond ((evR L n).kind==1) (some (Zt (evR L n))) none
theorem Xv {L:Rows} {v:Int} {i:Nat} (h:HC L i=some v):∀ {j:Nat},i≤j→HC L j=some v
 | 0,hj=>by rw [Nat.le_zero.1 hj] at h;exact h
 | j+1,hj=>by
  by_cases e:i=j+1
  ·rw [← e];exact h
  ·unfold HC;rw [Xv h (show i≤j by omega)]
def RA (L:Rows):Nat→Bool
 | 0=>false
 | n+1=>RA L n||((evR L n).kind==12&&(evR L n).yes)
def had (L:Rows):Nat→Bool
 | 0=>false
 | n+1=>had L n||(evR L n).kind==12
theorem kG {L:Rows}:∀ n,had L n=false→RA L n=false
 | 0,_=>rfl
 | n+1,h=>by
  unfold had at h;unfold RA;rw [Bool.or_eq_false_iff] at h;rw [kG n h.1,h.2];rfl
structure LogI (L:Rows) (i:Nat) (m:Mat):Prop where
 len:m.inns.length=opn L i
 fs:∀ v,HC L i=some v→m.first=v∧¬ m.stage=1
 fn:HC L i=none→m.first=0
 fol:m.follow=RA L i
 k12:had L i=true→(m.inns.length=2∧(m.stage=2∨m.stage=5))∨3≤m.inns.length
structure EvF (L:Rows) (i:Nat):Prop where
 two:((evR L i).kind==2)=true→opn L i≤3∧∃ v,HC L i=some v∧(v=1∨v=2)
 twelve:((evR L i).kind==12)=true→opn L i=2
 play:((evR L i).kind==1)=false→((evR L i).kind==2)=false→((evR L i).kind==12)=false→((evR L i).kind==16)=false→1≤opn L i
theorem nz (s:Int) (T:TS):(Tt s T).xs.length=T.xs.length∧(Tt s T).first=T.first∧(Tt s T).follow=T.follow:=by
 unfold Tt;cases Bu (fun k=>(sco T.xs k).side) s T.xs.length with
 | none=>exact ⟨rfl,rfl,rfl⟩
 | some k=>exact ⟨List.length_set,rfl,rfl⟩
theorem kb (r:Rul) (e:Ev) (T:TS):(R4 r e T).xs.length=T.xs.length+cond (e.kind==2) 1 0∧(R4 r e T).first=cond (e.kind==1) (Zt e) T.first∧(R4 r e T).follow=cond (e.kind==12) e.yes T.follow:=by
 unfold R4;cases k1:e.kind==1 with
 | true =>
  rw [beq_iff_eq.1 k1];exact ⟨rfl,rfl,rfl⟩
 | false =>
  cases k2:e.kind==2 with
  | true =>
   rw [beq_iff_eq.1 k2];refine ⟨?_,rfl,rfl⟩;show (T.xs++[_]).length=_;rw [List.length_append];rfl
  | false =>
   cases k12:e.kind==12 with
   | true=>exact ⟨rfl,rfl,rfl⟩
   | false =>
    cases k16:e.kind==16 with
    | true=>exact ⟨rfl,rfl,rfl⟩
    | false =>
     cases k13:e.kind==13 with
     | true=>exact nz e.side T
     | false=>exact ⟨List.length_set,rfl,rfl⟩
theorem pe {L:Rows} {i:Nat} {m:Mat} (h:LogI L i m) (ha:((DL m (evR L i)).2==0)=true):LogI L (i+1) (DL m (evR L i)).1∧EvF L i:=by
 obtain ⟨ab,sg⟩:=fi ha;obtain ⟨hv,he,h5,hp,hs⟩:=Tz ha;have vp:=ZL hv;obtain ⟨t1,t2,t3⟩:=kb m.rules (evR L i) (FR m);rw [← ab] at t1 t2 t3;have x1:∀ z:Mat,(FR z).xs.length=z.inns.length:=fun z=>List.length_map _
 rw [x1,x1] at t1;change (DL m (evR L i)).1.first=cond ((evR L i).kind==1) (Zt (evR L i)) m.first at t2;change (DL m (evR L i)).1.follow=cond ((evR L i).kind==12) (evR L i).yes m.follow at t3;have no12:((evR L i).kind==12)=true→had L i=false:=fun k=>by
  obtain ⟨s1,s2,s3⟩:=sg.k12 k;cases hh:had L i with
  | false=>rfl
  | true=>rcases h.k12 hh with ⟨_,q | q⟩ | q<;>omega
 have no5:¬ m.stage=5:=beq_eq_false_iff_ne.1 h5;refine ⟨⟨?_,?_,?_,?_,?_⟩,⟨?_,?_,?_⟩⟩
 ·rw [t1,h.len];rfl
 ·intro v hv2;refine ⟨?_,sg.not1⟩;rw [t2];unfold HC at hv2;cases hf:HC L i with
  | some w =>
   rw [hf] at hv2;cases hv2;obtain ⟨f1,f2⟩:=h.fs _ hf;cases k1:(evR L i).kind==1 with
   | true=>exact absurd (sg.k1 k1).1 f2
   | false=>exact f1
  | none =>
   rw [hf] at hv2;cases k1:(evR L i).kind==1 with
   | true =>
    simp only [k1,cond_true] at hv2;cases hv2;rfl
   | false =>
    simp only [k1,cond_false] at hv2;cases hv2
 ·intro hn;rw [t2];unfold HC at hn;cases hf:HC L i with
  | some w=>rw [hf] at hn;cases hn
  | none =>
   rw [hf] at hn;cases k1:(evR L i).kind==1 with
   | true =>
    simp only [k1,cond_true] at hn;cases hn
   | false=>exact h.fn hf
 ·rw [t3];unfold RA;cases k12:(evR L i).kind==12 with
  | true=>rw [kG i (no12 k12)];rfl
  | false=>rw [h.fol,Bool.false_and,Bool.or_false];rfl
 ·intro hh;rw [t1];unfold had at hh;cases k12:(evR L i).kind==12 with
  | true =>
   obtain ⟨s1,s2,s3⟩:=sg.k12 k12;rw [beq_iff_eq.1 k12];exact Or.inl ⟨s2,Or.inl s3⟩
  | false =>
   rw [k12,Bool.or_false] at hh
   rcases h.k12 hh with ⟨q1,q2⟩ | q
   ·cases k2:(evR L i).kind==2 with
    | true=>exact Or.inr (by simp only [cond_true];omega)
    | false =>
     refine Or.inl ⟨q1,?_⟩;cases k16:(evR L i).kind==16 with
     | true=>exact Or.inr (sg.k16 k16)
     | false =>
      cases k1:(evR L i).kind==1 with
      | true=>have:=(sg.k1 k1).1;omega
      | false=>have:=(sg.play k1 k2 k12 k16).1;omega
   ·exact Or.inr (Nat.le_trans q (Nat.le_add_right _ _))
 ·intro k2;obtain ⟨s1,s2⟩:=sg.k2 k2;refine ⟨by rw [← h.len];exact s2,?_⟩;have tk:=(Wx hv).toss (by rw [s1];rfl);cases hf:HC L i with
  | none=>have:=h.fn hf;omega
  | some w=>exact ⟨w,rfl,by rw [← (h.fs w hf).1];exact tk⟩
 ·intro k;rw [← h.len];exact (sg.k12 k).2.1
 ·intro a b c d;rw [← h.len];exact (sg.play a b c d).2
theorem j9 {r:Rul} (h:((AO r).2==0)=true):(AO r).1=⟨r,1,0,false,[],0,0,0,0,0⟩∧BD r=0:=by
 unfold AO at h ⊢;cases hc:BD r==0 with
 | false=>rw [hc] at h;exact absurd (show (BD r==0)=true from h) (by rw [hc];decide)
 | true=>exact ⟨rfl,beq_iff_eq.1 hc⟩
theorem NO {r:Rul} {L:Rows} {n:Nat} (hc:((AO r).2==0)=true) (ha:acc L n 0 (AO r).1):∀ i,i≤n→LogI L i (stM L i 0 (AO r).1)∧StepOk r (stM L i 0 (AO r).1)∧∀ j,j<i→FR (stM L (j+1) 0 (AO r).1)=R4 r (evR L j) (FR (stM L j 0 (AO r).1))∧EvF L j
 | 0,_=>by
  refine ⟨?_,kZ r hc,fun j hj=>absurd hj (Nat.not_lt_zero j)⟩;show LogI L 0 (AO r).1;rw [(j9 hc).1];exact ⟨rfl,fun v h=>(by cases h),fun _=>rfl,rfl,fun h=>(by cases h)⟩
 | i+1,hi=>by
  obtain ⟨h1,h2,h3⟩:=NO hc ha i (by omega);have a0:=RK n 0 _ ha i (by omega);have s0:=RB (L:=L) i 0 (AO r).1;rw [Nat.zero_add] at a0 s0;have q:=(WY a0).1;rw [q] at s0 a0;obtain ⟨l1,l2⟩:=pe h1 a0;rw [s0];refine ⟨l1,by rw [← q];exact gp h2 _ _,fun j hj=>?_⟩
  by_cases e:j=i
  ·subst e;rw [s0];refine ⟨?_,l2⟩;rw [(fi a0).1,h2.rules]
  ·exact h3 j (by omega)
def sdF (L:Rows) (n:Nat) (j:Nat):Int:=Ki ((HC L n).getD 1) (RA L n) (j:Int)
theorem fL {L:Rows} {i:Nat}:∀ n,i≤n→(∀ j,i≤j→j<n→((evR L j).kind==12)=false)→RA L n=RA L i
 | 0,h,_=>by rw [Nat.le_zero.1 h]
 | n+1,h,hk=>by
  by_cases e:i=n+1
  ·rw [e]
  ·have:RA L (n+1)=RA L n:=by
    show (RA L n||((evR L n).kind==12&&_))=_;rw [hk n (by omega) (Nat.lt_succ_self n),Bool.false_and,Bool.or_false]
   rw [this];exact fL n (by omega) (fun j h1 h2=>hk j h1 (by omega))
theorem oY (f:Int) (a b:Bool) {j:Nat} (h:j<2):Ki f a (j:Int)=Ki f b (j:Int):=by
 have:iLe 2 (j:Int)=false:=by simp only [iLe,decide_eq_false_iff_not];omega
 unfold Ki;rw [this,Bool.and_false,Bool.and_false]
theorem qq {r : Rul} {L : Rows} {n i : Nat} (hc : ((AO r).2 == 0) = true) (ha : acc L n 0 (AO r).1) (hi : i < n) (hk : ((evR L i).kind == 2) = true) :
    Ki (stM L i 0 (AO r).1).first (stM L i 0 (AO r).1).follow (opn L i:Int)=sdF L n (opn L i)∧(sdF L n (opn L i)=1∨sdF L n (opn L i)=2):=by
  obtain ⟨h1,_,_⟩:=NO hc ha i (by omega);obtain ⟨_,_,h3⟩:=NO hc ha n (Nat.le_refl n);obtain ⟨e1,v,e2,e3⟩:=(h3 i hi).2.two hk;have f1:=(h1.fs v e2).1;have f2:=Xv e2 (show i≤n by omega);have main:Ki (stM L i 0 (AO r).1).first (stM L i 0 (AO r).1).follow (opn L i:Int)=sdF L n (opn L i):=by
    unfold sdF;rw [f1,f2,h1.fol];show Ki v _ _=Ki v _ _
    by_cases h2:opn L i<2
    · exact oY _ _ _ h2
    · rw [fL (i:=i) n (by omega)];intro j j1 j2;cases k12:(evR L j).kind==12 with
      | false=>rfl
      | true =>
        have o2:=(h3 j j2).2.twelve k12
        by_cases e:j=i
        · subst e;rw [beq_iff_eq.1 hk] at k12;cases k12
        · have:=ED L (show i+1≤j by omega);have o3:opn L (i+1)=opn L i+1:=by show opn L i+cond ((evR L i).kind==2) 1 0=_;rw [hk];rfl
          omega
  refine ⟨main,?_⟩;rw [← main,f1];unfold Ki;cases cond ((stM L i 0 (AO r).1).follow&&iLe 2 (opn L i:Int)) ((opn L i:Int)==2) ((opn L i:Int).tmod 2==1) with
  | false=>exact e3
  | true=>rcases e3 with h | h<;>rw [h]<;>decide
def smi (L:Rows) (f:Ev→Int) (j:Nat):Nat→Int
 | 0=>0
 | n+1=>smi L f j n+cond (Nat.beq (opn L (n+1)) (j+1)) (f (evR L n)) 0
theorem gG (L:Rows) (f:Ev→Int) (j n:Nat):smi L f j (n+1)=smi L f j n+cond (Nat.beq (opn L (n+1)) (j+1)) (f (evR L n)) 0:=rfl
theorem S7 {a b:Nat} (h:¬ a=b):Nat.beq a b=false:=by
 cases hq:Nat.beq a b with
 | false=>rfl
 | true=>exact absurd (Nat.eq_of_beq_eq_true hq) h
theorem TQ (a:Nat):Nat.beq a a=true:=Nat.beq_refl a
theorem fX {L:Rows} {f:Ev→Int} {j:Nat}:∀ n,opn L n≤j→smi L f j n=0
 | 0,_=>rfl
 | n+1,h=>by
  have:=Qa L n;unfold smi;rw [fX n (by omega),S7 (by omega)];rfl
def YS (sd:Nat→Int) (s:Int):Nat→Nat→Option Nat
 | 0,_=>none
 | c+1,i=>cond (sd i==s) (some i) (YS sd s c (i+1))
theorem QQ {sd:Nat→Int} {s:Int} {j:Nat}:∀ c i,YS sd s c i=some j→i≤j∧j<i+c∧sd j=s∧∀ k,i≤k→k<j→¬ sd k=s
 | 0,_,h=>by cases h
 | c+1,i,h=>by
  unfold YS at h;cases hq:sd i==s with
  | true =>
   rw [hq] at h;cases h;exact ⟨Nat.le_refl _,by omega,beq_iff_eq.1 hq,fun k h1 h2=>by omega⟩
  | false =>
   rw [hq] at h;obtain ⟨h1,h2,h3,h4⟩:=QQ c (i+1) h;refine ⟨by omega,by omega,h3,fun k k1 k2=>?_⟩
   by_cases e:k=i
   ·subst e;exact beq_eq_false_iff_ne.1 hq
   ·exact h4 k (by omega) k2
theorem mM {sd:Nat→Int} {s:Int} {k:Nat} (hs:sd k=s):∀ c i,i≤k→k<i+c→∃ j,YS sd s c i=some j∧j≤k
 | 0,_,h1,h2=>absurd h2 (by omega)
 | c+1,i,h1,h2=>by
  unfold YS;cases hq:sd i==s with
  | true=>exact ⟨i,rfl,h1⟩
  | false =>
   have:¬ i=k:=fun e=>by subst e;exact beq_eq_false_iff_ne.1 hq hs
   exact mM hs c (i+1) (by omega) (by omega)
def IE (sd:Nat→Int) (n k:Nat) (s:Int):Option Nat:=match Bu sd s (k+1) with
 | some j=>some j
 | none=>YS sd s (n - (k+1)) (k+1)
theorem oK {sd:Nat→Int} {n k j:Nat} {s:Int} (h:IE sd n k s=some j):sd j=s∧(j≤k∨(k<j∧j<n∧Bu sd s (k+1)=none)):=by
 unfold IE at h;cases hb:Bu sd s (k+1) with
 | some w =>
  rw [hb] at h;cases h;have:=JM _ hb;exact ⟨this.2,Or.inl (by omega)⟩
 | none =>
  rw [hb] at h;obtain ⟨h1,h2,h3,h4⟩:=QQ _ _ h;exact ⟨h3,Or.inr ⟨by omega,by omega,rfl⟩⟩
def isS (o:Option Nat) (j:Nat):Bool:=match o with
 | some k=>Nat.beq k j
 | none=>false
theorem W5 {o:Option Nat} {j:Nat}:isS o j=true↔o=some j:=by
 cases o with
 | none=>exact ⟨fun h=>(by cases h),fun h=>(by cases h)⟩
 | some k=>exact ⟨fun h=>(by rw [Nat.eq_of_beq_eq_true h]),fun h=>(by cases h;exact TQ j)⟩
def pnS (L:Rows) (sd:Nat→Int) (n j:Nat):Nat→Int
 | 0=>0
 | i+1=>pnS L sd n j i+cond ((evR L i).kind==13&&isS (IE sd n (opn L (i+1) - 1) (evR L i).side) j) 5 0
theorem rW (L:Rows) (sd:Nat→Int) (n j i:Nat):pnS L sd n j (i+1)=pnS L sd n j i+cond ((evR L i).kind==13&&isS (IE sd n (opn L (i+1) - 1) (evR L i).side) j) 5 0:=rfl
def pcS (L:Rows) (s:Int):Nat→Int
 | 0=>0
 | i+1=>pcS L s i+cond ((evR L i).kind==13&&(evR L i).side==s) 5 0
def Ec (L:Rows) (sd:Nat→Int) (s:Int) (k i:Nat):Int:=match Bu sd s k with
 | some _=>0
 | none=>pcS L s i
theorem kU {L:Rows} {sd:Nat→Int} {n k:Nat} (hn:k<n):∀ i,(∀ j,j<i→((evR L j).kind==13)=true→1≤opn L (j+1))→opn L i≤k→pnS L sd n k i=Ec L sd (sd k) k i
 | 0,_,_=>by unfold Ec;cases Bu sd (sd k) k<;>rfl
 | i+1,h,hk=>by
  have ih:=kU (sd:=sd) hn i (fun j hj=>h j (by omega)) (Nat.le_trans (Qa L i) hk);unfold pnS;rw [ih];unfold Ec;cases k13:(evR L i).kind==13 with
  | false =>
   rw [Bool.false_and,cond_false,Int.add_zero];cases Bu sd (sd k) k with
   | some _=>rfl
   | none =>
    show pcS L (sd k) i=pcS L (sd k) i+cond ((evR L i).kind==13&&_) 5 0;rw [k13,Bool.false_and,cond_false,Int.add_zero]
  | true =>
   have o1:=h i (Nat.lt_succ_self i) k13;rw [Bool.true_and]
   by_cases es:(evR L i).side=sd k
   ·cases hb:Bu sd (sd k) k with
    | some w =>
     have bw:=JM _ hb;have:isS (IE sd n (opn L (i+1) - 1) (evR L i).side) k=false:=by
      cases hq:isS (IE sd n (opn L (i+1) - 1) (evR L i).side) k with
      | false=>rfl
      | true =>
       exfalso
       have hd:=W5.1 hq;rw [es] at hd;unfold IE at hd;rw [show opn L (i+1) - 1+1=opn L (i+1) by omega] at hd;cases hb2:Bu sd (sd k) (opn L (i+1)) with
       | some z =>
        rw [hb2] at hd;cases hd;have:=(JM _ hb2).1;omega
       | none =>
        rw [hb2] at hd;have nb:=Vh _ hb2;have f4:=(QQ _ _ hd).2.2.2 w
        by_cases hw:w<opn L (i+1)
        ·exact nb w hw bw.2
        ·exact f4 (by omega) bw.1 bw.2
     rw [this];rfl
    | none =>
     have nb:=Vh _ hb;have:isS (IE sd n (opn L (i+1) - 1) (evR L i).side) k=true:=by
      rw [W5,es];unfold IE;rw [show opn L (i+1) - 1+1=opn L (i+1) by omega];cases hb2:Bu sd (sd k) (opn L (i+1)) with
      | some z =>
       have:=JM _ hb2;exact absurd this.2 (nb z (by omega))
      | none =>
       obtain ⟨j,j1,j2⟩:=mM (sd:=sd) (s:=sd k) (k:=k) rfl (n - opn L (i+1)) (opn L (i+1)) hk (by omega);have:=QQ _ _ j1
       by_cases e:j=k
       ·subst e;exact j1
       ·exact absurd this.2.2.1 (nb j (by omega))
     rw [this];show pcS L (sd k) i+_=pcS L (sd k) i+cond ((evR L i).kind==13&&(evR L i).side==sd k) 5 0;rw [k13,es,beq_self_eq_true];rfl
   ·have:isS (IE sd n (opn L (i+1) - 1) (evR L i).side) k=false:=by
     cases hq:isS (IE sd n (opn L (i+1) - 1) (evR L i).side) k with
     | false=>rfl
     | true=>exact absurd (oK (W5.1 hq)).1.symm es
    rw [this,cond_false,Int.add_zero];cases Bu sd (sd k) k with
    | some _=>rfl
    | none =>
     show pcS L (sd k) i=pcS L (sd k) i+cond ((evR L i).kind==13&&(evR L i).side==sd k) 5 0;rw [beq_false_of_ne es,Bool.and_false,cond_false,Int.add_zero]
def sQ (r:Rul) (e:Ev):Int:=Dv (JS r e)
def kr (r:Rul) (e:Ev):Int:=cond (JS r e).counts 1 0
def Sb (r:Rul) (L:Rows) (sd:Nat→Int) (n j i:Nat):Sco:=⟨sd j,smi L (sQ r) j i+pnS L sd n j i,smi L YM j i,smi L (kr r) j i,smi L (fun e=>(JS r e).wides) j i,smi L (fun e=>(JS r e).noballs) j i,smi L (fun e=>(JS r e).byes) j i,smi L (fun e=>(JS r e).legbyes) j i,pnS L sd n j i,0⟩
theorem YX (r:Rul) (L:Rows) (sd:Nat→Int) (n j i:Nat):Sb r L sd n j (i+1)=J4 (cond ((evR L i).kind==13&&isS (IE sd n (opn L (i+1) - 1) (evR L i).side) j) 5 0) (cond (Nat.beq (opn L (i+1)) (j+1)) (UA r (evR L i) (Sb r L sd n j i)) (Sb r L sd n j i)):=by
 unfold Sb;simp only [gG,rW];generalize (cond ((evR L i).kind==13&&isS (IE sd n (opn L (i+1) - 1) (evR L i).side) j) 5 0:Int)=p;cases Nat.beq (opn L (i+1)) (j+1) with
 | false =>
  unfold J4;simp only [cond_false,Int.add_zero,Int.add_assoc]
 | true =>
  unfold J4 UA;simp only [cond_true];rw [Sco.mk.injEq];refine ⟨rfl,?_,rfl,rfl,rfl,rfl,rfl,rfl,rfl,rfl⟩;unfold sQ;omega
theorem dX {r:Rul} {L:Rows} {sd:Nat→Int} {n j i:Nat} (h4:((evR L i).kind==4)=false) (h13:((evR L i).kind==13)=false) (ho:Cl (evR L i)=0):Sb r L sd n j (i+1)=Sb r L sd n j i:=by
 rw [YX,h13,Bool.false_and,cond_false,Dr,SH _ h4 ho];cases Nat.beq (opn L (i+1)) (j+1)<;>rfl
structure Clo (r:Rul) (L:Rows) (sd:Nat→Int) (n i:Nat) (T:TS):Prop where
 len:T.xs.length=opn L i
 at':∀ j,j<opn L i→sco T.xs j=Sb r L sd n j i
 p1:T.p1=Ec L sd 1 (opn L i) i
 p2:T.p2=Ec L sd 2 (opn L i) i
theorem F4 {L:Rows} {sd:Nat→Int} {s:Int} {k i:Nat} (h:((evR L i).kind==13&&(evR L i).side==s)=false):Ec L sd s k (i+1)=Ec L sd s k i:=by
 unfold Ec;cases Bu sd s k with
 | some _=>rfl
 | none =>
  show pcS L s i+cond ((evR L i).kind==13&&(evR L i).side==s) 5 0=_;rw [h,cond_false,Int.add_zero]
theorem nA {r:Rul} {L:Rows} {n:Nat} (hc:((AO r).2==0)=true) (ha:acc L n 0 (AO r).1):∀ i,i≤n→Clo r L (sdF L n) (opn L n) i (FR (stM L i 0 (AO r).1))
 | 0,_=>by
  show Clo r L _ _ 0 (FR (AO r).1);rw [(j9 hc).1];exact ⟨rfl,fun j hj=>absurd hj (Nat.not_lt_zero j),rfl,rfl⟩
 | i+1,hi=>by
  have ih:=nA hc ha i (by omega);obtain ⟨_,_,h3⟩:=NO hc ha n (Nat.le_refl n);obtain ⟨hst,hev⟩:=h3 i (by omega);have sat:=qq hc ha (show i<n by omega);have o13:∀ j,j<i→((evR L j).kind==13)=true→1≤opn L (j+1):=fun j hj k13=>by
   have e:=beq_iff_eq.1 k13;have:=(h3 j (by omega)).2.play (by rw [e];rfl) (by rw [e];rfl) (by rw [e];rfl) (by rw [e];rfl);exact Nat.le_trans this (Qa L j)
  rw [hst];change ((evR L i).kind==2)=true→Ki (FR (stM L i 0 (AO r).1)).first (FR (stM L i 0 (AO r).1)).follow (opn L i:Int)=_∧_ at sat;generalize FR (stM L i 0 (AO r).1)=T at ih sat;have onx:opn L (i+1)=opn L i+cond ((evR L i).kind==2) 1 0:=rfl;have quiet:((evR L i).kind==2)=false→((evR L i).kind==4)=false→((evR L i).kind==13)=false→Cl (evR L i)=0→∀ T':TS,T'.xs=T.xs→T'.p1=T.p1→T'.p2=T.p2→Clo r L (sdF L n) (opn L n) (i+1) T':=by
   intro a b c d T' t1 t2 t3;rw [a] at onx;change opn L (i+1)=opn L i at onx;have z:∀ s:Int,((evR L i).kind==13&&(evR L i).side==s)=false:=fun s=>by rw [c];rfl
   refine ⟨by rw [onx,t1];exact ih.len,fun j hj=>?_,?_,?_⟩
   ·rw [t1,dX b c d];exact ih.at' j (by omega)
   ·rw [onx,t2,F4 (z 1)];exact ih.p1
   ·rw [onx,t3,F4 (z 2)];exact ih.p2
  unfold R4;cases k1:(evR L i).kind==1 with
  | true =>
   have e:=beq_iff_eq.1 k1;exact quiet (by rw [e];rfl) (by rw [e];rfl) (by rw [e];rfl) (by unfold Cl;rw [e];rfl) _ rfl rfl rfl
  | false =>
   cases k2:(evR L i).kind==2 with
   | true =>
    have e:=beq_iff_eq.1 k2;have h4:((evR L i).kind==4)=false:=by rw [e];rfl
    have h13:((evR L i).kind==13)=false:=by rw [e];rfl
    have ho:Cl (evR L i)=0:=by unfold Cl;rw [e];rfl
    have z:∀ s:Int,((evR L i).kind==13&&(evR L i).side==s)=false:=fun s=>by rw [h13];rfl
    rw [k2] at onx;change opn L (i+1)=opn L i+1 at onx;obtain ⟨sa,sb⟩:=sat k2;have kn:opn L i<opn L n:=by have:=ED L (show i+1≤n by omega);omega
    have pp:=kU (L:=L) (sd:=sdF L n) kn i o13 (Nat.le_refl _);show Clo r L (sdF L n) (opn L n) (i+1) (ej T);unfold ej;simp only [ih.len,sa];refine ⟨by rw [List.length_append,ih.len,onx];rfl,fun j hj=>?_,?_,?_⟩
    ·rw [qi _ _ _ (by rw [ih.len];omega),ih.len,dX h4 h13 ho]
     by_cases hjk:j<opn L i
     ·rw [if_pos hjk];exact ih.at' j hjk
     ·have:j=opn L i:=by omega
      subst this;rw [if_neg hjk];unfold Sb fg;simp only [fX i (Nat.le_refl _),Int.zero_add,pp]
      rcases sb with sb | sb<;>rw [sb]
      ·rw [← ih.p1];rfl
      ·rw [← ih.p2];rfl
    ·rw [onx];show cond (sdF L n (opn L i)==1) 0 T.p1=Ec L (sdF L n) 1 (opn L i+1) (i+1);rw [F4 (z 1)];unfold Ec Bu;cases sdF L n (opn L i)==1 with
     | true=>rfl
     | false=>exact ih.p1
    ·rw [onx];show cond (sdF L n (opn L i)==2) 0 T.p2=Ec L (sdF L n) 2 (opn L i+1) (i+1);rw [F4 (z 2)];unfold Ec Bu;cases sdF L n (opn L i)==2 with
     | true=>rfl
     | false=>exact ih.p2
   | false =>
    cases k12:(evR L i).kind==12 with
    | true =>
     have e:=beq_iff_eq.1 k12;exact quiet (by rw [e];rfl) (by rw [e];rfl) (by rw [e];rfl) (by unfold Cl;rw [e];rfl) _ rfl rfl rfl
    | false =>
     cases k16:(evR L i).kind==16 with
     | true =>
      have e:=beq_iff_eq.1 k16;exact quiet (by rw [e];rfl) (by rw [e];rfl) (by rw [e];rfl) (by unfold Cl;rw [e];rfl) _ rfl rfl rfl
     | false =>
      have pl:=hev.play k1 k2 k12 k16;rw [k2] at onx;change opn L (i+1)=opn L i at onx;simp only [cond_false];cases k13:(evR L i).kind==13 with
      | true =>
       have e:=beq_iff_eq.1 k13;have h4:((evR L i).kind==4)=false:=by rw [e];rfl
       have ho:Cl (evR L i)=0:=by unfold Cl;rw [e];rfl
       have bk:Bu (fun k=>(sco T.xs k).side) (evR L i).side T.xs.length=Bu (sdF L n) (evR L i).side (opn L i):=by
        rw [ih.len];exact Ug _ (fun k hk=>by rw [ih.at' k hk];rfl)
       have du:IE (sdF L n) (opn L n) (opn L (i+1) - 1) (evR L i).side=match Bu (sdF L n) (evR L i).side (opn L i) with
        | some j=>some j
        | none=>YS (sdF L n) (evR L i).side (opn L n - opn L i) (opn L i):=by
        unfold IE;rw [onx,show opn L i - 1+1=opn L i by omega]
       have cs:∀ j,Sb r L (sdF L n) (opn L n) j (i+1)=J4 (cond (isS (IE (sdF L n) (opn L n) (opn L (i+1) - 1) (evR L i).side) j) 5 0) (Sb r L (sdF L n) (opn L n) j i):=fun j=>by
        rw [YX,k13,Bool.true_and,SH _ h4 ho];cases Nat.beq (opn L (i+1)) (j+1)<;>rfl
       have pq:∀ s:Int,Bu (sdF L n) (evR L i).side (opn L i)≠none→Ec L (sdF L n) s (opn L i) (i+1)=Ec L (sdF L n) s (opn L i) i:=fun s hs=>by
        by_cases es:(evR L i).side=s
        ·rw [es] at hs;unfold Ec;cases hb:Bu (sdF L n) s (opn L i) with
         | none=>exact absurd hb hs
         | some w=>rfl
        ·exact F4 (by rw [beq_false_of_ne es,Bool.and_false])
       show Clo r L (sdF L n) (opn L n) (i+1) (Tt (evR L i).side T);unfold Tt;rw [bk];cases hb:Bu (sdF L n) (evR L i).side (opn L i) with
       | some w =>
        have wl:=(JM _ hb).1;rw [hb] at du pq;simp only at du;refine ⟨by rw [onx];exact List.length_set.trans ih.len,fun j hj=>?_,?_,?_⟩
        ·rw [cs,du];show sco (T.xs.set w (J4 5 (sco T.xs w))) j=_;rw [kF _ _ _ _ (by rw [ih.len];omega)]
         by_cases ew:w=j
         ·subst ew;rw [if_pos rfl,ih.at' w wl,show isS (some w) w=true from TQ w];rfl
         ·rw [if_neg ew,show isS (some w) j=false from S7 ew,ih.at' j (by omega),cond_false,Dr]
        ·rw [onx,pq 1 (by simp)];exact ih.p1
        ·rw [onx,pq 2 (by simp)];exact ih.p2
       | none =>
        rw [hb] at du;simp only at du;have pc:∀ s:Int,Ec L (sdF L n) s (opn L i) (i+1)=cond ((evR L i).side==s) (Ec L (sdF L n) s (opn L i) i+5) (Ec L (sdF L n) s (opn L i) i):=fun s=>by
         cases es:(evR L i).side==s with
         | false=>rw [F4 (by rw [es,Bool.and_false])];rfl
         | true =>
          have e2:=beq_iff_eq.1 es;rw [e2] at hb;unfold Ec;rw [hb];show pcS L s i+cond ((evR L i).kind==13&&(evR L i).side==s) 5 0=_;rw [k13,es];rfl
        refine ⟨by rw [onx];exact ih.len,fun j hj=>?_,?_,?_⟩
        ·have nj:isS (IE (sdF L n) (opn L n) (opn L (i+1) - 1) (evR L i).side) j=false:=by
          cases hq:isS (IE (sdF L n) (opn L n) (opn L (i+1) - 1) (evR L i).side) j with
          | false=>rfl
          | true =>
           have:=W5.1 hq;rw [du] at this;have:=(QQ _ _ this).1;omega
         rw [cs,nj,cond_false,Dr];exact ih.at' j (by omega)
        ·rw [onx,pc 1,← ih.p1]
        ·rw [onx,pc 2,← ih.p2]
      | false =>
       have z:∀ s:Int,((evR L i).kind==13&&(evR L i).side==s)=false:=fun s=>by rw [k13];rfl
       show Clo r L (sdF L n) (opn L n) (i+1) (fA r (evR L i) T);unfold fA;refine ⟨by rw [onx];exact List.length_set.trans ih.len,fun j hj=>?_,?_,?_⟩
       ·show sco (T.xs.set _ _) j=_;rw [kF _ _ _ _ (by rw [ih.len];omega),YX,k13,Bool.false_and,cond_false,Dr,onx,ih.len]
        by_cases ew:opn L i - 1=j
        ·rw [if_pos ew,show opn L i=j+1 by omega,TQ,show j+1 - 1=j by omega,ih.at' j (by omega)];rfl
        ·rw [if_neg ew,S7 (by omega)];exact ih.at' j (by omega)
       ·rw [onx,F4 (z 1)];exact ih.p1
       ·rw [onx,F4 (z 2)];exact ih.p2
def Sco.ls (s:Sco):List PV:=[.int s.side,.int s.runs,.int s.wickets,.int s.balls,.int s.wides,.int s.noballs,.int s.byes,.int s.legbyes,.int s.pens,.int s.ending]
def GF (xs:List (Int×Int)):Rows:=xs.map fun x=>[.int x.1,.int x.2]
def pr (xs:List (Int×Int)) (i:Nat):Int×Int:=xs.getD i (0,0)
theorem Ty (xs:List (Int×Int)) (i:Nat):pr xs i=(match xs[i]? with | some s=>s | none=>(0,0)):=by
 unfold pr;rw [zzk];cases xs[i]?<;>rfl
theorem fN (xs:List (Int×Int)) (i:Nat):AL (GF xs) i=(match xs[i]? with | some s=>[.int s.1,.int s.2] | none=>[]):=by
 unfold AL GF;rw [zzk,List.getElem?_map];cases xs[i]?<;>rfl
theorem iI (xs:List (Int×Int)):(GF xs).length=xs.length:=List.length_map _
theorem PXp : (∀ xs : List (Int × Int), (GF xs).length = xs.length) ∧ (∀ (xs : List (Int × Int)) (i : Nat), pvI (AF (GF xs) i 0) = (pr xs i).1) ∧ (∀ (xs : List (Int × Int)) (i : Nat), pvI (AF (GF xs) i 1) = (pr xs i).2) ∧
    (∀ (xs:List (Int×Int)) (i:Nat) (v:Int),(GF xs).set i (BB (AL (GF xs) i) 1 [.int v])=GF (xs.set i ((pr xs i).1,v)))∧(∀ (xs:List (Int×Int)) (a b:Int),GF xs++[([.int a,.int b]:List PV)]=GF (xs++[(a,b)])):=by
  refine ⟨iI,?_,?_,?_,?_⟩
  · intro xs i;rw [Ty];unfold AF;rw [fN];cases xs[i]?<;>rfl
  · intro xs i;rw [Ty];unfold AF;rw [fN];cases xs[i]?<;>rfl
  · intro xs i v
    by_cases hi:i<xs.length
    · have e:AL (GF xs) i=[.int (pr xs i).1,.int (pr xs i).2]:=by rw [fN,Ty,zzn hi]
      rw [e];exact (List.map_set (f:=fun x:Int×Int=>[PV.int x.1,PV.int x.2]) (l:=xs) (i:=i) (a:=((pr xs i).1,v))).symm
    · rw [List.set_eq_of_length_le (by rw [iI];omega),List.set_eq_of_length_le (by omega)]
  · intro xs a b;exact (List.map_append (f:=fun x:Int×Int=>[PV.int x.1,PV.int x.2]) (l₁:=xs) (l₂:=[(a,b)])).symm
theorem aH (L:Rows):∀ i,opn L i≤i
 | 0=>Nat.le_refl _
 | i+1=>by
  have:=aH L i;show opn L i+cond _ 1 0≤_;cases (evR L i).kind==2<;>simp only [cond_true,cond_false]<;>omega
def G9 (xs:List (Int×Int)) (v:Int):List (Int×Int):=cond (iLt 0 (xs.length:Int)) (xs.set (IntKind.i64.wrap ((xs.length:Int) - 1)).toNat ((pr xs (IntKind.i64.wrap ((xs.length:Int) - 1)).toNat).1,v)) xs
def Bv (L:Rows):Nat→List (Int×Int)
 | 0=>[]
 | i+1=>cond ((evR L i).kind==2) (G9 (Bv L i) (i:Int)++[((i:Int),(L.length:Int))]) (Bv L i)
theorem SR (xs:List (Int×Int)) (v:Int):(G9 xs v).length=xs.length:=by
 unfold G9;cases iLt 0 (xs.length:Int)
 ·rfl
 ·exact List.length_set
theorem Tc (L:Rows):∀ i,(Bv L i).length=opn L i
 | 0=>rfl
 | i+1=>by
  have ih:=Tc L i;show (cond ((evR L i).kind==2) _ (Bv L i)).length=opn L i+cond ((evR L i).kind==2) 1 0;cases (evR L i).kind==2 with
  | false=>exact ih
  | true=>rw [cond_true,cond_true,List.length_append,SR,ih];rfl
theorem jy {n:Nat} (h:0<n) (h2:n≤1048576):(IntKind.i64.wrap ((n:Int) - 1)).toNat=n - 1∧iIn (IntKind.i64.wrap ((n:Int) - 1)) (n:Int)=true:=by
 rw [CE (by omega) (by omega)];refine ⟨by omega,?_⟩;simp only [iIn,decide_eq_true_eq];omega
theorem pZ {N : Nat} {L : Rows} (hN : 2097152 < N) (hL : L.length ≤ 1048576) {F : (List AX → Option (List PV)) → List PV → Option (List PV)}
    (h0:∀ self,F self [.rows (GF (Bv L L.length)),.int (L.length:Int)]=some [.rows (GF (Bv L L.length))])
    (h1:∀ i self,i<L.length→(Bv L i).length≤1048575→F self [.rows (GF (Bv L i)),.int (i:Int)]=self [.rows (GF (Bv L (i+1))),.int (((i+1:Nat)):Int)]):DW F N [.rows (GF []),.int 0]=some [.rows (GF (Bv L L.length))]:=by
  have:=C8 (F:=F) (len:=L.length) (fun i=>[.rows (GF (Bv L i)),.int (i:Int)]) [.rows (GF (Bv L L.length))] h0 (fun i self hi=>h1 i self hi (by rw [Tc];have:=aH L i;omega)) N (by omega);exact this
theorem DF {i:Nat} (h:i≤1099511627776):IntKind.i64.wrap ((i:Int)+1)=((i+1:Nat):Int):=BG h
theorem og {L:Rows} {i:Nat} {xs:List (Int×Int)} (hk:((evR L i).kind==2)=true) (he:Bv L i=xs) (h:iLt 0 (xs.length:Int)=true):Bv L (i+1)=xs.set (IntKind.i64.wrap ((xs.length:Int) - 1)).toNat ((pr xs (IntKind.i64.wrap ((xs.length:Int) - 1)).toNat).1,(i:Int))++[((i:Int),(L.length:Int))]:=by
 show cond ((evR L i).kind==2) (G9 (Bv L i) (i:Int)++[((i:Int),(L.length:Int))]) (Bv L i)=_;rw [hk,he];unfold G9;rw [h];rfl
theorem nX {L:Rows} {i:Nat} {xs:List (Int×Int)} (hk:((evR L i).kind==2)=true) (he:Bv L i=xs) (h:iLt 0 (xs.length:Int)=false):Bv L (i+1)=xs++[((i:Int),(L.length:Int))]:=by
 show cond ((evR L i).kind==2) (G9 (Bv L i) (i:Int)++[((i:Int),(L.length:Int))]) (Bv L i)=_;rw [hk,he];unfold G9;rw [h];rfl
theorem fR {L:Rows} {i:Nat} (hk:((evR L i).kind==2)=false):Bv L (i+1)=Bv L i:=by
 show cond ((evR L i).kind==2) _ (Bv L i)=_;rw [hk];rfl
set_option maxHeartbeats 1000000 in
theorem Tm {N:Nat} {L:Rows} (hN:2097152<N) (hL:L.length≤1048576):Ei N [.rows L]=some [.rows (GF (Bv L L.length))]:=by
 show Jy (std (QN N) N) (xOf _)=_;simp only [Jy,lq9,std,xOf,PXb];refine Ae (pZ hN hL ?_ ?_) rfl
 ·intro self;simp only [PXb,PXc,PXn,AH,BC]
 ·intro i self hi hlen;have kk:(evR L i).kind=atI L i 0:=rfl;simp only [PXb,PXc,PXn,AH,DF (show i≤1099511627776 by omega),A5 hi,Ab hi,DX,PXp,← kk];cases hk:(evR L i).kind==2 with
  | false =>
   rw [fR hk];rfl
  | true =>
   simp only [PXb,Bool.not_true];generalize he:Bv L i=xs at hlen;cases h0:iLt 0 (xs.length:Int) with
   | false =>
    have sm:iSm ((xs.length+1:Nat):Int) 16=true:=Iq (by omega) (by omega);rw [nX hk he h0];simp only [PXb,PXc,PXn,AH,PXp,List.length_append,List.length_cons,List.length_nil,sm,Nat.reduceAdd]
   | true =>
    have h1:0<xs.length:=by simp only [iLt,decide_eq_true_eq] at h0;omega
    have sm:iSm ((xs.length+1:Nat):Int) 16=true:=Iq (by omega) (by omega);rw [og hk he h0];simp only [PXb,PXc,PXn,AH,PXp,List.length_append,List.length_cons,List.length_nil,List.length_set,sm,Nat.reduceAdd,(jy h1 (by omega)).2]
def zs (g:Nat→Int) (n:Nat):List Int:=(List.range n).map g
theorem sY (xs:List (Int×Int)) (k:Nat) (s:Int×Int) (i:Nat) (hi:i<xs.length):pr (xs.set k s) i=(if k=i then s else pr xs i):=by
 rw [Ty,Ty,List.getElem?_set]
 by_cases h:k=i
 ·subst h;rw [if_pos rfl,if_pos rfl,if_pos hi]
 ·rw [if_neg h,if_neg h]
theorem sU (xs:List (Int×Int)) (s:Int×Int) (i:Nat) (hi:i<xs.length+1):pr (xs++[s]) i=(if i<xs.length then pr xs i else s):=by
 rw [Ty,Ty]
 by_cases h:i<xs.length
 ·rw [if_pos h,List.getElem?_append_left h]
 ·have:i=xs.length:=by omega
  subst this;rw [if_neg h,List.getElem?_append_right (Nat.le_refl _),Nat.sub_self];rfl
theorem Qk {L:Rows} {i:Nat} (h:((evR L i).kind==2)=true):opn L (i+1)=opn L i+1:=by
 show opn L i+cond ((evR L i).kind==2) 1 0=_;rw [h];rfl
theorem iP {L:Rows} {i:Nat} (h:((evR L i).kind==2)=false):opn L (i+1)=opn L i:=by
 show opn L i+cond ((evR L i).kind==2) 1 0=_;rw [h];rfl
theorem bN {L : Rows} (hL : L.length ≤ 1048576) : ∀ i, i ≤ L.length → ∀ k, k < opn L i → ∃ a : Nat, (pr (Bv L i) k).1 = (a : Int) ∧ a < i ∧ opn L a = k ∧ ((evR L a).kind == 2) = true ∧
    ((k+1<opn L i∧∃ b:Nat,(pr (Bv L i) k).2=(b:Int)∧b<i∧opn L b=k+1∧((evR L b).kind==2)=true)∨(k+1=opn L i∧(pr (Bv L i) k).2=(L.length:Int)))
  | 0,_,k,hk=>absurd hk (Nat.not_lt_zero k)
  | i+1,hi,k,hk=>by
    have ih:=bN hL i (by omega);cases h2:(evR L i).kind==2 with
    | false =>
      rw [iP h2] at hk ⊢;rw [fR h2];obtain ⟨a,h3,h4,h5,h6,h7⟩:=ih k hk;refine ⟨a,h3,by omega,h5,h6,?_⟩
      rcases h7 with ⟨q,b,q1,q2,q3,q4⟩ | q
      · exact Or.inl ⟨q,b,q1,by omega,q3,q4⟩
      · exact Or.inr q
    | true =>
      rw [Qk h2] at hk ⊢;have sl:=Tc L i;have hle:=aH L i;have ha:=fun (j:Nat) (hj:j<opn L i+1)=>sU (G9 (Bv L i) (i:Int)) ((i:Int),(L.length:Int)) j (by rw [SR,sl];exact hj)
      have e:Bv L (i+1)=G9 (Bv L i) (i:Int)++[((i:Int),(L.length:Int))]:=by
        show cond ((evR L i).kind==2) _ _=_;rw [h2];rfl
      rw [e,ha k hk,SR,sl]
      by_cases hkn:k<opn L i
      · rw [if_pos hkn];obtain ⟨a,h3,h4,h5,h6,h7⟩:=ih k hkn;have hp:0<opn L i:=by omega
        have ix:=(jy hp (by omega)).1;have es:G9 (Bv L i) (i:Int)=(Bv L i).set (opn L i - 1) ((pr (Bv L i) (opn L i - 1)).1,(i:Int)):=by
          unfold G9;rw [sl,show iLt 0 (opn L i:Int)=true by simp only [iLt,decide_eq_true_eq];omega,ix];rfl
        rw [es,sY _ _ _ _ (by rw [sl];exact hkn)]
        by_cases hl:opn L i - 1=k
        · rw [if_pos hl,hl];exact ⟨a,h3,by omega,h5,h6,Or.inl ⟨by omega,i,rfl,by omega,by omega,h2⟩⟩
        · rw [if_neg hl];refine ⟨a,h3,by omega,h5,h6,Or.inl ⟨by omega,?_⟩⟩
          rcases h7 with ⟨q,b,q1,q2,q3,q4⟩ | q
          · exact ⟨b,q1,by omega,q3,q4⟩
          · omega
      · have hke:k=opn L i:=by omega
        rw [if_neg hkn];exact ⟨i,rfl,by omega,hke.symm,h2,Or.inr ⟨by omega,rfl⟩⟩
theorem o4 {L:Rows} {a b:Nat} (h:opn L a=opn L b) (ha:((evR L a).kind==2)=true) (hb:((evR L b).kind==2)=true):a=b:=by
 rcases Nat.lt_trichotomy a b with h1 | h1 | h1
 ·have:=ED L (show a+1≤b by omega);have:=Qk ha;omega
 ·exact h1
 ·have:=ED L (show b+1≤a by omega);have:=Qk hb;omega
def A6 (L:Rows) (k:Nat):Nat:=if k<opn L L.length then (pr (Bv L L.length) k).1.toNat else L.length
structure Seg (L:Rows) (k:Nat):Prop where
 x0:(pr (Bv L L.length) k).1=(A6 L k:Int)
 x1:(pr (Bv L L.length) k).2=(A6 L (k+1):Int)
 lt:A6 L k<A6 L (k+1)
 le:A6 L (k+1)≤L.length
 o0:opn L (A6 L k)=k
 o1:opn L (A6 L (k+1))=k+1
 mid:∀ j,A6 L k≤j→j<A6 L (k+1)→opn L (j+1)=k+1
theorem seg {L:Rows} (hL:L.length≤1048576) {k:Nat} (h:k<opn L L.length):Seg L k:=by
 obtain ⟨a,h1,h2,h3,h4,h5⟩:=bN hL L.length (Nat.le_refl _) k h;have p0:A6 L k=a:=by unfold A6;rw [if_pos h,h1];rfl
 have key:(pr (Bv L L.length) k).2=(A6 L (k+1):Int)∧a<A6 L (k+1)∧A6 L (k+1)≤L.length∧opn L (A6 L (k+1))=k+1:=by
  rcases h5 with ⟨q,b,q1,q2,q3,q4⟩ | ⟨q,q1⟩
  ·obtain ⟨a',g1,g2,g3,g4,_⟩:=bN hL L.length (Nat.le_refl _) (k+1) q;have e:a'=b:=o4 (g3.trans q3.symm) g4 q4;subst e;have p1:A6 L (k+1)=a':=by unfold A6;rw [if_pos q,g1];rfl
   rw [p1];refine ⟨q1,?_,by omega,q3⟩
   rcases Nat.lt_or_ge a a' with hl | hl
   ·exact hl
   ·have:=ED L hl;omega
  ·have p1:A6 L (k+1)=L.length:=by unfold A6;rw [if_neg (by omega)]
   rw [p1];exact ⟨q1,h2,Nat.le_refl _,q.symm⟩
 obtain ⟨k1,k2,k3,k4⟩:=key;refine ⟨by rw [h1,p0],k1,by rw [p0];exact k2,k3,by rw [p0];exact h3,k4,fun j j1 j2=>?_⟩;rw [p0] at j1;have m1:=ED L (show a+1≤j+1 by omega);have m2:=ED L (show j+1≤A6 L (k+1) by omega);rw [Qk h4] at m1;omega
theorem sI (L:Rows) {a b:Nat} (i j:Nat) (h:i<b - a):AF ((L.take b).drop a) i j=AF L (a+i) j:=by
 unfold AF AL;rw [zzk,zzk,List.getElem?_drop,List.getElem?_take,if_pos (by omega)]
theorem Zx (L:Rows) {a b:Nat} (i:Nat) (h:i<b - a):evR ((L.take b).drop a) i=evR L (a+i):=by
 unfold evR atI atB;simp only [sI L i _ h]
theorem qv {L:Rows} {a b:Nat} (h:b≤L.length):((L.take b).drop a).length=b - a:=by
 rw [List.length_drop,List.length_take];omega
theorem qD {L:Rows} {f:Ev→Int} {c:Int} (hf:∀ e,0≤f e∧f e≤c) (j:Nat):∀ i:Nat,0≤smi L f j i∧smi L f j i≤c * (i:Int)
 | 0=>by
  have:smi L f j 0=0:=rfl;rw [this];omega
 | i+1=>by
  have ih:=qD (L:=L) hf j i;have h1:=hf (evR L i);rw [gG,show c * ((i+1:Nat):Int)=c * (i:Int)+c by rw [show ((i+1:Nat):Int)=(i:Int)+1 by omega,Int.mul_add,Int.mul_one]];have h2:=hf (evR L i);generalize c * (i:Int)=z at ih ⊢;cases Nat.beq (opn L (i+1)) (j+1)<;>simp only [cond_true,cond_false]<;>omega
structure Sml (x:Sco):Prop where
 runs:0≤x.runs∧x.runs≤1000000
 wk:0≤x.wickets∧x.wickets≤1000000
 balls:0≤x.balls∧x.balls≤1000000
 wides:0≤x.wides∧x.wides≤1000000
 no:0≤x.noballs∧x.noballs≤1000000
 bb:0≤x.byes∧x.byes≤1000000
 lb:0≤x.legbyes∧x.legbyes≤1000000
 pens:0≤x.pens∧x.pens≤1000000
structure InLog (L:Rows):Prop where
 len:L.length≤4000
 pen:∀ j,j<L.length→((evR L j).kind==13)=true→1≤opn L (j+1)
end Go.Px
end
