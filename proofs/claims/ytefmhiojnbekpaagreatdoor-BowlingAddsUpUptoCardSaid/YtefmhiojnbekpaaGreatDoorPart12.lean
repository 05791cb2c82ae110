/- Part 12. -/
import Derived.Test.YtefmhiojnbekpaaGreatDoorPart11
set_option linter.unusedVariables false
set_option linter.unusedSimpArgs false
section
namespace Go.Px
set_option maxRecDepth 100000
def GS (xs:List Int):Rows:=xs.map fun x=>[.int x]
theorem NM (xs:List Int):(GS xs).length=xs.length:=List.length_map _
theorem rz (xs:List Int) (i:Nat):AB (GS xs) i=(match xs[i]? with | some x=>[.int x] | none=>[]):=by
 unfold AB GS
 rw [List.getD_eq_getElem?_getD,List.getElem?_map]
 cases xs[i]?<;>rfl
theorem sZ (xs:List Int) (i:Nat):atI (GS xs) i 0=xs.getD i 0:=by
 unfold atI AF
 rw [rz,List.getD_eq_getElem?_getD]
 cases xs[i]?<;>rfl
structure SumSt (D:Rows) (n i:Nat) (s:List Int×List Int×Int):Prop where
 l1:s.1.length=n
 l2:s.2.1.length=n
 r:∀ k,k<n→s.1.getD k 0=wr (rS D k i)
 b:∀ k,k<n→s.2.1.getD k 0=wr (bS D k i)
 h:s.2.2=wr (hS D i)
end Go.Px
end
section
namespace Go.Px
set_option maxRecDepth 100000
structure Sco where
 side:Int
 runs:Int
 wickets:Int
 balls:Int
 wides:Int
 noballs:Int
 byes:Int
 legbyes:Int
 pens:Int
 ending:Int
theorem BJ {n:Int} (h1 : -1000000000000≤n) (h2:n≤1000000000000):IntKind.i64.wrap n=n:=BA (by omega) (by omega)
theorem jU {d:Del} (h:(DM d==0)=true):(0≤d.runs∧d.runs≤7)∧(0≤d.short∧d.short≤d.runs)∧(d.boundary=0∨d.boundary=4∨d.boundary=6):=by
 unfold DM at h
 cases h1:(iLt d.type 1||iLt 3 d.type||iLt 3 d.source||iLt 10 d.how || !btw d.sector 0 8) with
 | true=>rw [h1] at h;cases h
 | false =>
  cases h2:(!btw d.runs 0 7 || !btw d.short 0 d.runs||(!(d.boundary==0) && !(d.boundary==4) && !(d.boundary==6))) with
  | true=>rw [h1,h2] at h;cases h
  | false =>
   simp only [btw,iLe,Bool.or_eq_false_iff,Bool.not_eq_false',Bool.and_eq_true,Bool.and_eq_false_iff,decide_eq_true_eq,beq_iff_eq] at h2
   omega
structure CreOk (c:Cre):Prop where
 ba:0≤c.batter∧c.batter≤13
 wi:0≤c.wides∧c.wides≤18
 no:0≤c.noballs∧c.noballs≤5
 bb:0≤c.byes∧c.byes≤13
 lb:0≤c.legbyes∧c.legbyes≤13
 bo:c.bowler=c.batter+c.wides+c.noballs
 tot:DK c=c.batter+c.wides+c.noballs+c.byes+c.legbyes
theorem mI {b w o y l bo:Int} {x1 x2 x3 x4:Bool} (hb:0≤b∧b≤13) (hw:0≤w∧w≤18) (ho:0≤o∧o≤5) (hy:0≤y∧y≤13) (hl:0≤l∧l≤13) (hbo:bo=IntKind.i64.wrap (IntKind.i64.wrap (b+w)+o)):CreOk ⟨b,w,o,y,l,bo,x1,x2,x3,x4⟩:=by
 refine ⟨hb,hw,ho,hy,hl,?_,?_⟩
 ·show bo=b+w+o
  rw [hbo,BJ (n:=b+w) (by omega) (by omega),BJ (by omega) (by omega)]
 ·show IntKind.i64.wrap (IntKind.i64.wrap (IntKind.i64.wrap (IntKind.i64.wrap (b+w)+o)+y)+l)=b+w+o+y+l
  rw [BJ (n:=b+w) (by omega) (by omega),BJ (n:=b+w+o) (by omega) (by omega),BJ (n:=b+w+o+y) (by omega) (by omega),BJ (by omega) (by omega)]
def Kt:Cre:=⟨0,0,0,0,0,0,false,false,false,false⟩
theorem gE:CreOk Kt:=mI (by decide) (by decide) (by decide) (by decide) (by decide) rfl
theorem hO {r:Rul} (h:RulOk r) (d:Del):CreOk (AD r d):=by
 unfold AD
 cases hl:DM d==0 with
 | false=>exact gE
 | true =>
  obtain ⟨⟨a1,a2⟩,⟨a3,a4⟩,a5⟩:=jU hl
  have hw:=h.wide
  have hn:=h.noball
  have e1:IntKind.i64.wrap (IntKind.i64.wrap (d.runs - d.short)+d.boundary)=d.runs - d.short+d.boundary:=by
   rw [BJ (n:=d.runs - d.short) (by omega) (by omega),BJ (by omega) (by omega)]
  have n0:0≤d.runs - d.short+d.boundary∧d.runs - d.short+d.boundary≤13:=by omega
  simp only [Bool.not_true,cond_false,Kg,e1]
  generalize d.runs - d.short+d.boundary=n at n0
  have e2:IntKind.i64.wrap (r.wide+n)=r.wide+n:=BJ (by omega) (by omega)
  have c13:∀ b:Bool,0≤cond b n 0∧cond b n 0≤13:=fun b=>by cases b<;>simp<;>omega
  refine mI (c13 _) ?_ ?_ (c13 _) (c13 _) rfl
  ·rw [e2];cases d.type==2<;>simp<;>omega
  ·cases d.type==3<;>simp<;>omega
def Ah (r:Rul) (e:Ev):Cre:=cond (e.kind==4) (AD r e.ball) Kt
theorem Dv {r:Rul} (h:RulOk r) (e:Ev):CreOk (Ah r e):=by
 unfold Ah
 cases e.kind==4
 ·exact gE
 ·exact hO h _
theorem mr (e:Ev):0≤HX e∧HX e≤1:=by
 unfold HX B4
 cases e.kind==4<;>cases e.ball.how==0<;>cases (e.kind==5&&e.yes||e.kind==6 && !e.yes)<;>decide
def Bd (q:Int) (s:Inn):Sco:=⟨s.side,s.runs,s.wickets,CX q s.complete s.inover,s.wides,s.noballs,s.byes,s.legbyes,s.pens,0⟩
def Nn (r:Rul) (e:Ev) (x:Sco):Sco:=⟨x.side,x.runs+DK (Ah r e),x.wickets+HX e,x.balls+cond (Ah r e).counts 1 0,x.wides+(Ah r e).wides,x.noballs+(Ah r e).noballs,x.byes+(Ah r e).byes,x.legbyes+(Ah r e).legbyes,x.pens,x.ending⟩
def JP (n:Int) (x:Sco):Sco:=⟨x.side,x.runs+n,x.wickets,x.balls,x.wides,x.noballs,x.byes,x.legbyes,x.pens+n,x.ending⟩
theorem CA (x:Sco):JP 0 x=x:=by
 obtain ⟨x0,x1,x2,x3,x4,x5,x6,x7,x8,x9⟩:=x
 simp only [JP,Int.add_zero]
theorem Yg {r:Rul} {e:Ev} (x:Sco) (hk:(e.kind==4)=false):Nn r e x={ x with wickets:=x.wickets+B4 e }:=by
 have c0:Ah r e=Kt:=by unfold Ah;rw [hk];rfl
 have o0:HX e=B4 e:=by unfold HX;rw [hk];rfl
 have t0:DK Kt=0:=rfl
 unfold Nn
 rw [c0,o0,t0]
 simp only [Kt,cond_false,Int.add_zero]
theorem Lk {r:Rul} {e:Ev} (x:Sco) (hk:(e.kind==4)=false) (ho:B4 e=0):Nn r e x=x:=by
 rw [Yg x hk,ho,Int.add_zero]
theorem qm {r:Rul} {s:Inn} (ok:InnOk r s):0≤s.wickets∧s.wickets≤11:=by
 have h:=ok.bat
 unfold W5 at h
 simp only [Bool.and_eq_true] at h
 have h1:=beq_iff_eq.1 h.2.2
 have h2:=gq (pIs s.batters 2) s.batters.length
 have h3:=(Ed ok.code).side
 have h4:=ok.lb
 unfold Yf at h1
 omega
theorem sT {c q:Int} (hc:0≤c∧c≤1000000000) (hq:0≤q∧q≤8):0≤c * q∧c * q≤8000000000:=by
 refine ⟨Int.mul_nonneg hc.1 hq.1,?_⟩
 have h1:=Int.mul_le_mul_of_nonneg_right hc.2 hq.1
 have h2:=Int.mul_le_mul_of_nonneg_left hq.2 (show (0:Int)≤1000000000 by omega)
 omega
theorem Yn {r:Rul} {s:Inn} (ok:InnOk r s):CX r.balls s.complete s.inover=s.complete * r.balls+s.inover∧0≤CX r.balls s.complete s.inover∧CX r.balls s.complete s.inover≤9000000000:=by
 have h1:=(Ed ok.code).balls
 have h2:=ok.io
 have h3:=sT ok.complete (show 0≤r.balls∧r.balls≤8 by omega)
 rw [Q3]
 have:wr (s.complete * r.balls+s.inover)=s.complete * r.balls+s.inover:=BJ (by omega) (by omega)
 rw [this]
 omega
theorem rx {x a d:Int} (h:wr (x - a)=d) (hx:wr x=x) (ha:0≤a∧a≤9000000000) (hd:0≤d∧d≤1000):x=a+d:=by
 simp only [wr,Nk] at h hx
 omega
theorem pg (q:Int) (r:Rul) (t:Inn) (b:Bool):Bd q (Bt r t b)=Bd q t:=rfl
theorem oI {r:Rul} {s:Inn} {e:Ev} (hk:(e.kind==4)=true) (h:((Au r s e).2==0)=true):Bd r.balls (Au r s e).1=Nn r e (Bd r.balls s):=by
 obtain ⟨g1,g2,g3,g4,g5,g6,g7,g8,g9,g10⟩:=mY hk h
 obtain ⟨hv,he,hn,hw,hp,hs⟩:=TW h
 have ok:=Ln.1 hv
 have rk:=Ed ok.code
 have co:=hO rk e.ball
 have k4:=beq_iff_eq.1 hk
 have hpb:Bw r s e=K4 r s e.ball:=by unfold Bw;rw [k4];rfl
 rw [hpb] at hp hs
 obtain ⟨hr,hb⟩:=cP hp
 obtain ⟨q1,q2,q3,q4,q5,q6⟩:=Ot hr
 have ce:Ah r e=AD r e.ball:=by unfold Ah;rw [hk];rfl
 have od:HX e=cond (e.ball.how==0) 0 1:=by unfold HX;rw [hk];rfl
 have hx:=Yn ok
 have r0:=ok.runs
 have w0:=ok.wides
 have n0:=ok.noballs
 have b0:=ok.byes
 have l0:=ok.legbyes
 have wk:=qm ok
 unfold Bl at r0 w0 n0 b0 l0
 have f0:=co.ba
 have f1:=co.wi
 have f2:=co.no
 have f3:=co.bb
 have f4:=co.lb
 have f5:=co.tot
 rw [hs,hb] at g1 g7 g8 ⊢
 have e1:(Bt r (IG r s e.ball) (e.kind==4)).runs=IntKind.i64.wrap (s.runs+DK (AD r e.ball)):=rfl
 have e2:(Bt r (IG r s e.ball) (e.kind==4)).wides=IntKind.i64.wrap (s.wides+(AD r e.ball).wides):=rfl
 have e3:(Bt r (IG r s e.ball) (e.kind==4)).noballs=IntKind.i64.wrap (s.noballs+(AD r e.ball).noballs):=rfl
 have e4:(Bt r (IG r s e.ball) (e.kind==4)).byes=IntKind.i64.wrap (s.byes+(AD r e.ball).byes):=rfl
 have e5:(Bt r (IG r s e.ball) (e.kind==4)).legbyes=IntKind.i64.wrap (s.legbyes+(AD r e.ball).legbyes):=rfl
 have e6:(Bt r (IG r s e.ball) (e.kind==4)).side=s.side∧(Bt r (IG r s e.ball) (e.kind==4)).pens=s.pens∧(Bt r (IG r s e.ball) (e.kind==4)).wickets=(Aj s e.ball).wickets:=by
  obtain ⟨w1,w2⟩:=jZ r (Aj s e.ball) (AD r e.ball).counts
  obtain ⟨k1,k2,k3,k4,k5,k6,k7,k8,k9,k10⟩:=Yt s e.ball
  have w3:(Aq r (Aj s e.ball) (AD r e.ball).counts).1.side=s.side:=by
   have s1:(Aj s e.ball).side=s.side:=by
    unfold Aj
    cases (!(e.ball.runs.tmod 2==0) != e.ball.crossed)<;>exact P_c (P:=fun x:Inn=>x.side=s.side) _ _ _ rfl (P_c (P:=fun x:Inn=>x.side=s.side) _ _ _ rfl rfl)
   unfold Aq
   exact P_c (P:=fun x:Inn×Bool=>x.1.side=s.side) _ _ _ s1 (P_c (P:=fun x:Inn×Bool=>x.1.side=s.side) _ _ _ s1 s1)
  refine ⟨?_,?_,?_⟩
  ·show (cond (Aq r (Aj s e.ball) (AD r e.ball).counts).2 (H0 (Aq r (Aj s e.ball) (AD r e.ball).counts).1) (Aq r (Aj s e.ball) (AD r e.ball).counts).1).side=_
   rw [← w3]
   cases (Aq r (Aj s e.ball) (AD r e.ball).counts).2<;>rfl
  ·show (cond (Aq r (Aj s e.ball) (AD r e.ball).counts).2 (H0 (Aq r (Aj s e.ball) (AD r e.ball).counts).1) (Aq r (Aj s e.ball) (AD r e.ball).counts).1).pens=_
   rw [← k6,← w2]
   cases (Aq r (Aj s e.ball) (AD r e.ball).counts).2<;>rfl
  ·show (cond (Aq r (Aj s e.ball) (AD r e.ball).counts).2 (H0 (Aq r (Aj s e.ball) (AD r e.ball).counts).1) (Aq r (Aj s e.ball) (AD r e.ball).counts).1).wickets=_
   rw [← w1]
   cases (Aq r (Aj s e.ball) (AD r e.ball).counts).2<;>rfl
 obtain ⟨z1,z2⟩:=Y1 q1 (Yc hw (by rw [k4];rfl))
 have hout:=jw (d:=e.ball) z1 z2 (fun hd=>Xs q5 hd)
 have wv:IntKind.i64.wrap (CX r.balls (Bt r (IG r s e.ball) (e.kind==4)).complete (Bt r (IG r s e.ball) (e.kind==4)).inover)=CX r.balls (Bt r (IG r s e.ball) (e.kind==4)).complete (Bt r (IG r s e.ball) (e.kind==4)).inover:=G1 _
 have hb7:=rx g7 wv (by omega) (by cases (AD r e.ball).counts<;>simp)
 unfold Bd Nn
 rw [e1,e2,e3,e4,e5,e6.1,e6.2.1,e6.2.2,hb7,ce,od,hout]
 have i1:IntKind.i64.wrap (s.runs+DK (AD r e.ball))=s.runs+DK (AD r e.ball):=BJ (by omega) (by omega)
 have i2:IntKind.i64.wrap (s.wides+(AD r e.ball).wides)=s.wides+(AD r e.ball).wides:=BJ (by omega) (by omega)
 have i3:IntKind.i64.wrap (s.noballs+(AD r e.ball).noballs)=s.noballs+(AD r e.ball).noballs:=BJ (by omega) (by omega)
 have i4:IntKind.i64.wrap (s.byes+(AD r e.ball).byes)=s.byes+(AD r e.ball).byes:=BJ (by omega) (by omega)
 have i5:IntKind.i64.wrap (s.legbyes+(AD r e.ball).legbyes)=s.legbyes+(AD r e.ball).legbyes:=BJ (by omega) (by omega)
 have i6:inc s.wickets=s.wickets+1:=BJ (by omega) (by omega)
 rw [i1,i2,i3,i4,i5,i6]
 cases e.ball.how==0 with
 | false=>rfl
 | true=>simp only [cond_true,Int.add_zero]
def Kz (q:Int) (s:Inn) (x:Inn×Int):Prop:=(x.2==0)=true→Bd q x.1=Bd q s
theorem Dq {q:Int} {s:Inn} (b:Bool) (x y:Inn×Int) (hx:Kz q s x) (hy:Kz q s y):Kz q s (cond b x y):=by cases b<;>assumption
theorem gR {r:Rul} {s:Inn} {e:Ev} (h:((Au r s e).2==0)=true):Bd r.balls (Au r s e).1=JP (cond (e.kind==13&&e.side==s.side) 5 0) (Nn r e (Bd r.balls s)):=by
 cases hk:e.kind==4 with
 | true =>
  rw [oI hk h,beq_iff_eq.1 hk]
  exact (CA _).symm
 | false =>
  obtain ⟨hv,he,hn,hw,hp,hs⟩:=TW h
  have ok:=Ln.1 hv
  have wk:=qm ok
  have iw:IntKind.i64.wrap (s.wickets+1)=s.wickets+1:=BJ (by omega) (by omega)
  rw [hs,pg,Yg _ hk]
  have z:∀ {x:Inn×Int},Kz r.balls s x→(x.2==0)=true→B4 e=0→Bd r.balls x.1=JP (cond (false&&e.side==s.side) 5 0) { Bd r.balls s with wickets:=(Bd r.balls s).wickets+B4 e }:=fun k hx h0=>by
   rw [k hx,h0,Int.add_zero]
   exact (CA _).symm
  have kn:∀ {t:Inn} {n:Int},(n==0)=false→Kz r.balls s (t,n):=fun hn hx=>by rw [hn] at hx;cases hx
  have ks:∀ {n:Int},Kz r.balls s (s,n):=fun _=>rfl
  revert hp
  unfold Bw
  rw [hk]
  cases h5:e.kind==5 with
  | true =>
   have h5':=beq_iff_eq.1 h5
   have ho:B4 e=cond e.yes 1 0:=by unfold B4;rw [h5'];cases e.yes<;>rfl
   rw [ho,h5']
   cases e.yes with
   | false =>
    intro hp
    refine Eq.trans (b:=Bd r.balls s) ?_ ?_
    ·exact (show Kz r.balls s (Ob s e.player) by unfold Ob;exact Dq _ _ _ (fun _=>rfl) (fun _=>rfl)) hp
    ·simp only [cond_false,Int.add_zero];exact (CA _).symm
   | true =>
    intro hp
    change ((G9 s e.player).2==0)=true at hp
    show Bd r.balls (G9 s e.player).1=_
    unfold G9 at hp ⊢
    cases hm:Na s e.player==0 with
    | false=>rw [hm] at hp;exact absurd (show (Na s e.player==0)=true from hp) (by rw [hm];decide)
    | true =>
     simp only [cond_true]
     unfold Bd JP
     simp only [iw,cond_true,Int.reduceBEq,Bool.false_and,cond_false,Int.add_zero]
  | false =>
   cases h6:e.kind==6 with
   | true =>
    have h6':=beq_iff_eq.1 h6
    have ho:B4 e=cond e.yes 0 1:=by unfold B4;rw [h6'];cases e.yes<;>rfl
    rw [ho,h6']
    intro hp
    change ((Jo s e.player e.yes).2==0)=true at hp
    show Bd r.balls (Jo s e.player e.yes).1=_
    unfold Jo at hp ⊢
    cases hm1:(!inR e.player s.batters.length) with
    | true=>rw [hm1] at hp;cases hp
    | false =>
     cases hm2:(s.striker==0||s.other==0) with
     | true=>rw [hm1,hm2] at hp;cases hp
     | false =>
      cases hm3:(!(e.player==s.striker) && !(e.player==s.other)) with
      | true=>rw [hm1,hm2,hm3] at hp;cases hp
      | false =>
       cases hm4:(e.yes&&((ET s.batters s.batters.length).length:Int)==0) with
       | true=>rw [hm1,hm2,hm3,hm4] at hp;cases hp
       | false =>
        simp only [cond_false]
        cases e.yes with
        | true=>unfold Bd JP;simp only [cond_true,Int.reduceBEq,Bool.false_and,cond_false,Int.add_zero]
        | false=>unfold Bd JP;simp only [iw,cond_false,Int.reduceBEq,Bool.false_and,Int.add_zero]
   | false =>
    have ho:B4 e=0:=by unfold B4;rw [h5,h6];rfl
    cases h13:e.kind==13 with
    | true =>
     have k13:=beq_iff_eq.1 h13
     rw [k13,ho]
     intro hp
     change ((HU s e.side e.runs).2==0)=true at hp
     show Bd r.balls (HU s e.side e.runs).1=_
     have rn:=ok.runs
     have pn:=ok.pens
     unfold Bl at rn pn
     have i1:IntKind.i64.wrap (s.runs+5)=s.runs+5:=BJ (by omega) (by omega)
     have i2:IntKind.i64.wrap (s.pens+5)=s.pens+5:=BJ (by omega) (by omega)
     unfold HU at hp ⊢
     cases hr5:e.runs==5 with
     | false=>rw [hr5] at hp;cases hp
     | true =>
      cases hsd:e.side==s.side with
      | true =>
       simp only [Bool.not_true,cond_false,cond_true]
       unfold Bd JP PH
       simp only [i1,i2,Bool.and_self,cond_true,Int.reduceBEq,Bool.true_and,Int.add_zero]
      | false =>
       simp only [Bool.not_true,cond_false,Bool.and_false,Int.add_zero]
       exact (CA _).symm
    | false =>
     simp only [cond_false]
     intro hp
     refine z ?_ hp ho
     refine Dq _ _ _ ?_ (Dq _ _ _ ?_ (Dq _ _ _ ?_ (Dq _ _ _ ?_ (Dq _ _ _ ?_ (Dq _ _ _ ?_ (Dq _ _ _ ?_ (Dq _ _ _ ?_ ?_)))))))
     ·unfold T7
      exact Dq _ _ _ ks (Dq _ _ _ ks (Dq _ _ _ ks (fun _=>rfl)))
     ·unfold UJ
      cases NP r s e.player==0
      ·exact ks
      ·exact fun _=>rfl
     ·unfold LR
      exact Dq _ _ _ ks (fun _=>rfl)
     ·unfold Nv
      exact Dq _ _ _ ks (Dq _ _ _ ks (Dq _ _ _ ks (fun _=>rfl)))
     ·unfold Q5
      exact Dq _ _ _ ks (Dq _ _ _ ks (fun _=>rfl))
     ·unfold LP
      exact Dq _ _ _ ks (fun _=>rfl)
     ·unfold LN
      exact Dq _ _ _ ks (Dq _ _ _ ks (fun _=>rfl))
     ·unfold LY
      exact Dq _ _ _ ks (Dq _ _ _ (fun _=>rfl) ks)
     ·unfold NI
      exact Dq _ _ _ ks (Dq _ _ _ ks (Dq _ _ _ ks (fun _=>rfl)))
end Go.Px
end
section
namespace Go.Px
set_option maxRecDepth 100000
def sco (xs:List Sco) (i:Nat):Sco:=xs.getD i ⟨0,0,0,0,0,0,0,0,0,0⟩
theorem Em (xs:List Sco) (i:Nat):sco xs i=(match xs[i]? with | some s=>s | none=>⟨0,0,0,0,0,0,0,0,0,0⟩):=by
 unfold sco
 rw [List.getD_eq_getElem?_getD]
 cases xs[i]?<;>rfl
theorem TR (xs:List Sco) (k:Nat) (s:Sco) (i:Nat) (hi:i<xs.length):sco (xs.set k s) i=(if k=i then s else sco xs i):=by
 rw [Em,Em,List.getElem?_set]
 by_cases h:k=i
 ·subst h
  rw [if_pos rfl,if_pos rfl,if_pos hi]
 ·rw [if_neg h,if_neg h]
theorem pL (xs:List Sco) (s:Sco) (i:Nat) (hi:i<xs.length+1):sco (xs++[s]) i=(if i<xs.length then sco xs i else s):=by
 rw [Em,Em]
 by_cases h:i<xs.length
 ·rw [if_pos h,List.getElem?_append_left h]
 ·have:i=xs.length:=by omega
  subst this
  rw [if_neg h,List.getElem?_append_right (Nat.le_refl _),Nat.sub_self]
  rfl
structure TS where
 xs:List Sco
 p1:Int
 p2:Int
 first:Int
 follow:Bool
def EP (m:Mat):TS:=⟨m.inns.map (Bd m.rules.balls),m.pen1,m.pen2,m.first,m.follow⟩
theorem NK (q:Int) (xs:List Inn) {i:Nat} (h:i<xs.length):sco (xs.map (Bd q)) i=Bd q (inn xs i):=by
 rw [Em,Mu,List.getElem?_map,List.getElem?_eq_getElem h]
 rfl
theorem oW (q:Int) (xs:List Inn) (i:Nat):(sco (xs.map (Bd q)) i).side=(inn xs i).side:=by
 rw [Em,Mu,List.getElem?_map]
 cases xs[i]?<;>rfl
def Kp (first:Int) (follow:Bool) (i:Int):Int:=cond (cond (follow&&iLe 2 i) (i==2) (i.tmod 2==1)) (Bo first) first
theorem lK (m:Mat) (i:Int):C3 m i=Kp m.first m.follow i:=rfl
def gC (sd p:Int):Sco:=⟨sd,p,0,0,0,0,0,0,p,0⟩
def Bh (sd:Nat→Int) (s:Int):Nat→Option Nat
 | 0=>none
 | k+1=>cond (sd k==s) (some k) (Bh sd s k)
theorem UT {f g:Nat→Int} {s:Int}:∀ n,(∀ k,k<n→f k=g k)→Bh f s n=Bh g s n
 | 0,_=>rfl
 | n+1,h=>by
  unfold Bh
  rw [h n (Nat.lt_succ_self n),UT n (fun k hk=>h k (by omega))]
theorem I8 {f:Nat→Int} {s:Int} {j:Nat}:∀ n,Bh f s n=some j→j<n∧f j=s
 | 0,h=>by cases h
 | n+1,h=>by
  unfold Bh at h
  cases hq:f n==s with
  | true =>
   rw [hq] at h
   cases h
   exact ⟨Nat.lt_succ_self _,beq_iff_eq.1 hq⟩
  | false =>
   rw [hq] at h
   obtain ⟨h1,h2⟩:=I8 n h
   exact ⟨by omega,h2⟩
theorem Vw {f:Nat→Int} {s:Int}:∀ n,Bh f s n=none→∀ j,j<n→¬ f j=s
 | 0,_,j,hj=>absurd hj (Nat.not_lt_zero j)
 | n+1,h,j,hj=>by
  unfold Bh at h
  cases hq:f n==s with
  | true=>rw [hq] at h;cases h
  | false =>
   rw [hq] at h
   by_cases e:j=n
   ·subst e;exact beq_eq_false_iff_ne.1 hq
   ·exact Vw n h j (by omega)
theorem jg (xs:List Inn) (sd:Int):∀ n,Mr xs sd n=Bh (fun k=>(inn xs k).side) sd n
 | 0=>rfl
 | n+1=>by
  unfold Mr Bh
  rw [jg xs sd n]
def eX (T:TS):TS :=
 let sd:=Kp T.first T.follow (T.xs.length:Int)
 { T with xs:=T.xs++[gC sd (cond (sd==2) T.p2 T.p1)],p1:=cond (sd==1) 0 T.p1,p2:=cond (sd==2) 0 T.p2 }
def UQ (s:Int) (T:TS):TS:=match Bh (fun k=>(sco T.xs k).side) s T.xs.length with
 | some k=>{ T with xs:=T.xs.set k (JP 5 (sco T.xs k)) }
 | none=>{ T with p1:=cond (s==1) (T.p1+5) T.p1,p2:=cond (s==2) (T.p2+5) T.p2 }
def eU (r:Rul) (e:Ev) (T:TS):TS:={ T with xs:=T.xs.set (T.xs.length - 1) (Nn r e (sco T.xs (T.xs.length - 1))) }
def Q6 (e:Ev):Int:=cond e.yes e.side (Bo e.side)
def Ry (r:Rul) (e:Ev) (T:TS):TS :=
 cond (e.kind==1) { T with first:=Q6 e } (cond (e.kind==2) (eX T) (cond (e.kind==12) { T with follow:=e.yes } (cond (e.kind==16) T (cond (e.kind==13) (UQ e.side T) (eU r e T)))))
theorem mu (x:Mat):EP (CH x)=EP x∧(CH x).inns=x.inns∧((CH x).stage=x.stage∨(x.stage=3∧((CH x).stage=5∨((CH x).stage=4∧x.inns.length=2)∨(CH x).stage=2))):=by
 unfold CH
 cases h3:(x.stage==3 && !((AW x).ending==0)) with
 | false=>exact ⟨rfl,rfl,Or.inl rfl⟩
 | true =>
  rw [Bool.and_eq_true] at h3
  have s3:=beq_iff_eq.1 h3.1
  simp only [cond_true]
  unfold QH
  dsimp only
  cases ((x.inns.length:Int)==IntKind.i64.wrap (2 * x.rules.innings)||((x.inns.length:Int)==3&&iLt (CF x (AW x).side) (CF x (Bo (AW x).side)))) with
  | true=>exact ⟨rfl,rfl,Or.inr ⟨s3,Or.inl rfl⟩⟩
  | false =>
   cases h4:((x.inns.length:Int)==2&&iLt 0 x.rules.followon&&iLe x.rules.followon (IntKind.i64.wrap (CF x x.first - CF x (Bo x.first)))) with
   | true =>
    simp only [Bool.and_eq_true,beq_iff_eq] at h4
    exact ⟨rfl,rfl,Or.inr ⟨s3,Or.inr (Or.inl ⟨rfl,by omega⟩)⟩⟩
   | false=>exact ⟨rfl,rfl,Or.inr ⟨s3,Or.inr (Or.inr rfl)⟩⟩
theorem Zy {m:Mat} (h:Fj m=true):(0≤m.pen1∧m.pen1≤1000000)∧(0≤m.pen2∧m.pen2≤1000000)∧((m.stage==1)=true→m.first=0)∧((m.stage==4)=true→m.inns.length=2)∧0≤m.first∧m.first≤2:=by
 unfold Fj eW at h
 simp only [Bool.and_eq_true,Bool.not_eq_true'] at h
 obtain ⟨⟨h1,h2,h3,h4,h5,h6,h7,h8,h9,h10⟩,h11,h12⟩:=h
 unfold ZN at h4
 simp only [Bool.or_eq_false_iff,iLt,decide_eq_false_iff_not] at h4
 simp only [Bool.or_eq_false_iff,iLt,decide_eq_false_iff_not] at h5
 refine ⟨by omega,by omega,fun hs=>?_,fun hs=>?_,by omega,by omega⟩
 ·rw [hs,Bool.true_and,Bool.not_eq_false',beq_iff_eq] at h7
  exact h7
 ·rw [hs,Bool.true_and,Bool.or_eq_false_iff,Bool.not_eq_false',Bool.not_eq_false',beq_iff_eq,beq_iff_eq] at h9
  omega
theorem mS {r:Rul} {a b c:Int} (h:((Cl r a b c).2==0)=true):Bd r.balls (Cl r a b c).1=gC a c∧(a=1∨a=2):=by
 unfold Cl at h ⊢
 cases h1:BK r==0 with
 | false=>rw [h1] at h;exact absurd (show (BK r==0)=true from h) (by rw [h1];decide)
 | true =>
  cases h2:(!btw a 1 2 || !btw b 0 1000000 || !btw c 0 1000000) with
  | true=>rw [h1,h2] at h;cases h
  | false =>
   rw [Bool.or_eq_false_iff,Bool.or_eq_false_iff,Bool.not_eq_false'] at h2
   have:=TJ.1 h2.1.1
   refine ⟨?_,by omega⟩
   show Sco.mk a c 0 (CX r.balls 0 0) 0 0 0 0 c 0=_
   rw [Q3,Int.zero_mul]
   rfl
theorem KR (q:Int) (xs:List Inn) (k:Nat) (t:Inn):(xs.set k t).map (Bd q)=(xs.map (Bd q)).set k (Bd q t):=List.map_set
theorem fD (xs:List Sco) (k:Nat) (h:k<xs.length):xs.set k (sco xs k)=xs:=by
 apply List.ext_getElem?
 intro i
 rw [List.getElem?_set]
 by_cases e:k=i
 ·subst e
  rw [if_pos rfl,if_pos h,Em,List.getElem?_eq_getElem h]
 ·rw [if_neg e]
theorem pX {r:Rul} {s:Inn} (hv:Gm r s=true) (q:Int):Bd q (PH s)=JP 5 (Bd q s):=by
 have ok:=Ln.1 hv
 have rn:=ok.runs
 have pn:=ok.pens
 unfold Bl at rn pn
 have i1:IntKind.i64.wrap (s.runs+5)=s.runs+5:=BJ (by omega) (by omega)
 have i2:IntKind.i64.wrap (s.pens+5)=s.pens+5:=BJ (by omega) (by omega)
 unfold Bd JP PH
 simp only [i1,i2]
structure Stg (m:Mat) (e:Ev) (t:Mat):Prop where
 k1:(e.kind==1)=true→m.stage=1∧t.stage=2
 k2:(e.kind==2)=true→m.stage=2∧m.inns.length≤3
 k12:(e.kind==12)=true→m.stage=4∧m.inns.length=2∧t.stage=2
 k16:(e.kind==16)=true→t.stage=5
 play:(e.kind==1)=false→(e.kind==2)=false→(e.kind==12)=false→(e.kind==16)=false→m.stage=3∧1≤m.inns.length
 not1:¬ t.stage=1
 four:t.stage=4→t.inns.length=2
set_option maxHeartbeats 4000000 in
theorem iU {m:Mat} {e:Ev} (h:((DX m e).2==0)=true):EP (DX m e).1=Ry m.rules e (EP m)∧Stg m e (DX m e).1:=by
 obtain ⟨hv,he,h5,hp,hs⟩:=Yx h
 have ok:=Wd hv
 obtain ⟨v1,v2,v3,v4,v5,v6⟩:=Zy hv
 obtain ⟨c1,c2,c3⟩:=mu (IB m e).1
 rw [hs,c1]
 have len4:=ok.len
 unfold Ry
 unfold IB at hp c2 c3 ⊢
 cases k1:e.kind==1 with
 | true =>
  have e1:=beq_iff_eq.1 k1
  rw [k1] at hp c2 c3
  cases s1:m.stage==1 with
  | false=>rw [s1] at hp;cases hp
  | true =>
   rw [s1] at c2 c3
   simp only [Bool.not_true,cond_false,cond_true] at c2 c3 ⊢
   refine ⟨rfl,?_⟩
   have st:(CH { m with first:=cond e.yes e.side (Bo e.side),stage:=2 }).stage=2:=by
    rcases c3 with c3 | c3
    ·exact c3
    ·exact absurd c3.1 (by decide)
   exact ⟨fun _=>⟨beq_iff_eq.1 s1,st⟩,fun k=>(by rw [e1] at k;cases k),fun k=>(by rw [e1] at k;cases k),fun k=>(by rw [e1] at k;cases k),fun k=>(by rw [e1] at k;cases k),by rw [st];decide,(by rw [st];intro k;cases k)⟩
 | false =>
  rw [k1] at hp c2 c3
  cases k2:e.kind==2 with
  | true =>
   have e2:=beq_iff_eq.1 k2
   rw [k2] at hp c2 c3
   cases s2:m.stage==2 with
   | false=>rw [s2] at hp;cases hp
   | true =>
    rw [s2] at hp c2 c3
    simp only [Bool.not_true,cond_false,cond_true] at hp c2 c3 ⊢
    have room:=ok.room s2
    have inn2:=(Ed ok.code).innings
    unfold aW at hp c2 c3 ⊢
    cases hb:(Cl m.rules (C3 m (m.inns.length:Int)) (Gk m (C3 m (m.inns.length:Int))) (cond (C3 m (m.inns.length:Int)==2) m.pen2 m.pen1)).2==0 with
    | false=>simp only [hb,Bool.not_false,cond_true] at hp;cases hp
    | true =>
     simp only [hb,Bool.not_true,cond_false] at hp c2 c3 ⊢
     cases ht:(Au m.rules (Cl m.rules (C3 m (m.inns.length:Int)) (Gk m (C3 m (m.inns.length:Int))) (cond (C3 m (m.inns.length:Int)==2) m.pen2 m.pen1)).1 e).2==0 with
     | false=>simp only [ht,Bool.not_false,cond_true] at hp;exact absurd hp Bool.false_ne_true
     | true =>
      simp only [ht,Bool.not_true,cond_false] at c2 c3 ⊢
      have n1:=gR ht
      have o0:B4 e=0:=by unfold B4;rw [e2];rfl
      rw [Lk _ (by rw [e2];rfl) o0,e2] at n1
      have n2:=n1.trans (CA _)
      rw [(mS hb).1] at n2
      refine ⟨?_,?_⟩
      ·unfold EP eX
       rw [← lK] at *
       simp only [List.map_append,List.map_cons,List.map_nil,n2,List.length_map]
      ·refine ⟨fun k=>(by rw [k1] at k;cases k),fun _=>⟨beq_iff_eq.1 s2,by omega⟩,fun k=>(by rw [e2] at k;cases k),fun k=>(by rw [e2] at k;cases k),fun _ k=>(by rw [k2] at k;cases k),?_,?_⟩
       ·rcases c3 with c3 | ⟨_,c3 | c3 | c3⟩
        ·rw [c3];decide
        ·rw [c3];decide
        ·rw [c3.1];decide
        ·rw [c3];decide
       ·intro k
        rw [c2]
        rcases c3 with c3 | ⟨_,c3 | c3 | c3⟩
        ·rw [c3] at k;cases k
        ·rw [c3] at k;cases k
        ·exact c3.2
        ·rw [c3] at k;cases k
  | false =>
   rw [k2] at hp c2 c3
   cases k12:e.kind==12 with
   | true =>
    have e12:=beq_iff_eq.1 k12
    rw [k12] at hp c2 c3
    cases s4:m.stage==4 with
    | false=>rw [s4] at hp;cases hp
    | true =>
     rw [s4] at hp c2 c3
     cases sf:e.side==m.first with
     | false=>rw [sf] at hp;cases hp
     | true =>
      rw [sf] at c2 c3
      simp only [Bool.not_true,cond_false,cond_true] at c2 c3 ⊢
      refine ⟨rfl,?_⟩
      have st:(CH { m with follow:=e.yes,stage:=2 }).stage=2:=by
       rcases c3 with c3 | c3
       ·exact c3
       ·exact absurd c3.1 (by decide)
      exact ⟨fun k=>(by rw [k1] at k;cases k),fun k=>(by rw [k2] at k;cases k),fun _=>⟨beq_iff_eq.1 s4,v4 s4,st⟩,fun k=>(by rw [e12] at k;cases k),fun _ _ k=>(by rw [k12] at k;cases k),by rw [st];decide,(by rw [st];intro k;cases k)⟩
   | false =>
    rw [k12] at hp c2 c3
    cases k16:e.kind==16 with
    | true =>
     rw [k16] at hp c2 c3
     simp only [cond_false,cond_true] at c2 c3 ⊢
     have st:(CH (ZZ m)).stage=5:=by
      rcases c3 with c3 | c3
      ·exact c3
      ·exact absurd c3.1 (by show ¬ ((5:Int)=3);decide)
     refine ⟨?_,⟨fun k=>(by rw [k1] at k;cases k),fun k=>(by rw [k2] at k;cases k),fun k=>(by rw [k12] at k;cases k),fun _=>st,fun _ _ _ k=>(by rw [k16] at k;cases k),by rw [st];decide,(by rw [st];intro k;cases k)⟩⟩
     unfold EP ZZ
     simp only
     cases s3:m.stage==3 with
     | false=>rfl
     | true =>
      have hl:=Wg (ok.begun s3) (by omega)
      simp only [cond_true,KR]
      rw [show Bd m.rules.balls { AW m with ending:=5 }=sco (m.inns.map (Bd m.rules.balls)) (lnx m.inns) from (NK _ _ hl).symm,fD _ _ (by rw [List.length_map];exact hl)]
    | false =>
     rw [k16] at hp c2 c3
     simp only [cond_false] at hp c2 c3 ⊢
     cases s3:m.stage==3 with
     | false=>rw [s3] at hp;exact absurd (show ((1:Int)==0)=true from hp) (by decide)
     | true =>
      rw [s3] at hp c2 c3
      simp only [Bool.not_true,cond_false] at hp c2 c3 ⊢
      have h0:=ok.begun s3
      have hl:=Wg h0 (by omega)
      have hlen:m.inns.length - 1=lnx m.inns:=by
       rw [beq_eq_false_iff_ne] at h0
       unfold lnx
       rw [BA (by omega) (by omega)]
       omega
      have stg:(CH (Fv m e).1).inns.length=m.inns.length→((CH (Fv m e).1).stage=3∨((CH (Fv m e).1).stage=5∨((CH (Fv m e).1).stage=4∧m.inns.length=2)∨(CH (Fv m e).1).stage=2))→Stg m e (CH (Fv m e).1):=fun hn hq =>
       ⟨fun k=>(by rw [k1] at k;cases k),fun k=>(by rw [k2] at k;cases k),fun k=>(by rw [k12] at k;cases k),fun k=>(by rw [k16] at k;cases k),fun _ _ _ _=>⟨beq_iff_eq.1 s3,by omega⟩,by
        rcases hq with q | q | q | q
        ·rw [q];decide
        ·rw [q];decide
        ·rw [q.1];decide
        ·rw [q];decide,by
        intro k
        rw [hn]
        rcases hq with q | q | q | q
        ·rw [q] at k;cases k
        ·rw [q] at k;cases k
        ·exact q.2
        ·rw [q] at k;cases k⟩
      have xl:(m.inns.map (Bd m.rules.balls)).length=m.inns.length:=List.length_map _
      cases hq:(Au m.rules (AW m) e).2==0 with
      | false=>unfold Fv at hp;simp only [hq,Bool.not_false,cond_true] at hp;exact absurd hp Bool.false_ne_true
      | true =>
       have n1:=gR hq
       have sd1:(Au m.rules (AW m) e).1.side=(AW m).side:=congrArg Sco.side n1
       have s3':=beq_iff_eq.1 s3
       cases k13:e.kind==13 with
       | false =>
        rw [k13] at n1
        have n2:=n1.trans (CA _)
        have pm:Fv m e=({ m with inns:=m.inns.set (lnx m.inns) (Au m.rules (AW m) e).1 },0):=by
         unfold Fv
         simp only [hq,k13,Bool.not_true,Bool.false_and,cond_false]
        rw [pm] at c2 c3 stg ⊢
        refine ⟨?_,stg (by rw [c2];exact List.length_set) ?_⟩
        ·unfold EP eU
         simp only [cond_false,KR,n2,xl,hlen,NK _ _ hl]
         rfl
        ·rcases c3 with c3 | ⟨_,c3 | c3 | c3⟩
         ·exact Or.inl (c3.trans s3')
         ·exact Or.inr (Or.inl c3)
         ·exact Or.inr (Or.inr (Or.inl ⟨c3.1,by have:=c3.2;change (m.inns.set _ _).length=2 at this;rw [List.length_set] at this;exact this⟩))
         ·exact Or.inr (Or.inr (Or.inr c3))
       | true =>
        have e13:=beq_iff_eq.1 k13
        have o0:B4 e=0:=by unfold B4;rw [e13];rfl
        rw [Lk _ (by rw [e13];rfl) o0,k13,Bool.true_and] at n1
        have bk:Bh (fun k=>(sco (m.inns.map (Bd m.rules.balls)) k).side) e.side m.inns.length=cond (e.side==(AW m).side) (some (lnx m.inns)) (Bh (fun k=>(inn m.inns k).side) e.side (lnx m.inns)):=by
         have:m.inns.length=lnx m.inns+1:=by omega
         rw [this]
         show cond ((sco (m.inns.map (Bd m.rules.balls)) (lnx m.inns)).side==e.side) _ (Bh (fun k=>(sco (m.inns.map (Bd m.rules.balls)) k).side) e.side (lnx m.inns))=_
         simp only [oW]
         have sy:((inn m.inns (lnx m.inns)).side==e.side)=(e.side==(AW m).side):=by
          show ((AW m).side==e.side)=_
          rw [Bool.eq_iff_iff,beq_iff_eq,beq_iff_eq]
          exact eq_comm
         rw [sy]
        cases hsd:e.side==(AW m).side with
        | true =>
         rw [hsd] at n1 bk
         simp only [cond_true] at n1 bk
         have pm:Fv m e=({ m with inns:=m.inns.set (lnx m.inns) (Au m.rules (AW m) e).1 },0):=by
          unfold Fv
          simp only [hq,k13,sd1,hsd,Bool.not_true,Bool.and_false,cond_false]
         rw [pm] at c2 c3 stg ⊢
         refine ⟨?_,stg (by rw [c2];exact List.length_set) ?_⟩
         ·unfold EP UQ
          simp only [cond_true,KR,n1,xl,bk,NK _ _ hl]
          rfl
         ·rcases c3 with c3 | ⟨_,c3 | c3 | c3⟩
          ·exact Or.inl (c3.trans s3')
          ·exact Or.inr (Or.inl c3)
          ·exact Or.inr (Or.inr (Or.inl ⟨c3.1,by have:=c3.2;change (m.inns.set _ _).length=2 at this;rw [List.length_set] at this;exact this⟩))
          ·exact Or.inr (Or.inr (Or.inr c3))
        | false =>
         rw [hsd] at n1 bk
         simp only [cond_false] at n1 bk
         have n2:=n1.trans (CA _)
         have pm:Fv m e=(Hr { m with inns:=m.inns.set (lnx m.inns) (Au m.rules (AW m) e).1 } e.side,0):=by
          unfold Fv
          simp only [hq,k13,sd1,hsd,Bool.not_true,Bool.not_false,Bool.and_true,cond_true,cond_false]
         have ab:Mr (m.inns.set (lnx m.inns) (Au m.rules (AW m) e).1) e.side (m.inns.set (lnx m.inns) (Au m.rules (AW m) e).1).length=Bh (fun k=>(inn m.inns k).side) e.side (lnx m.inns):=by
          rw [jg,List.length_set,show m.inns.length=lnx m.inns+1 by omega]
          show cond ((inn (m.inns.set (lnx m.inns) (Au m.rules (AW m) e).1) (lnx m.inns)).side==e.side) (some (lnx m.inns)) (Bh (fun k=>(inn (m.inns.set (lnx m.inns) (Au m.rules (AW m) e).1) k).side) e.side (lnx m.inns))=Bh (fun k=>(inn m.inns k).side) e.side (lnx m.inns)
          rw [XB _ _ _ _ hl,if_pos rfl,sd1]
          have sy:((AW m).side==e.side)=false:=by
           rw [← hsd,Bool.eq_iff_iff,beq_iff_eq,beq_iff_eq]
           exact eq_comm
          rw [sy]
          exact UT _ (fun k hk=>by rw [XB _ _ _ _ (by omega),if_neg (by omega)])
         have mx:(m.inns.set (lnx m.inns) (Au m.rules (AW m) e).1).map (Bd m.rules.balls)=m.inns.map (Bd m.rules.balls):=by
          rw [KR,n2,show Bd m.rules.balls (AW m)=sco (m.inns.map (Bd m.rules.balls)) (lnx m.inns) from (NK _ _ hl).symm]
          exact fD _ _ (by rw [xl];exact hl)
         obtain ⟨a1,a2,a3,a4⟩:=hC (m:={ m with inns:=m.inns.set (lnx m.inns) (Au m.rules (AW m) e).1 }) e.side (RN (lnx m.inns) (ct ok) (by
          have lv:=Py (ok.innv (lnx m.inns) hl).1
          have l1:=lv.1
          have l2:=lv.2.1
          exact QN (SG m.rules (AW m) e) lv.2.2 (show (inn m.inns (lnx m.inns)).before.length+(inn m.inns (lnx m.inns)).bowlers.length≤1048575 by omega)))
         have a3':(Hr { m with inns:=m.inns.set (lnx m.inns) (Au m.rules (AW m) e).1 } e.side).inns.length=m.inns.length:=a3.trans List.length_set
         rw [pm] at c2 c3 stg ⊢
         refine ⟨?_,stg (by rw [c2];exact a3') ?_⟩
         ·simp only [cond_true]
          unfold Hr
          simp only [ab]
          unfold UQ
          show EP _=match Bh (fun k=>(sco (m.inns.map (Bd m.rules.balls)) k).side) e.side (m.inns.map (Bd m.rules.balls)).length with
           | some k=>_
           | none=>_
          rw [xl,bk]
          cases hk:Bh (fun k=>(inn m.inns k).side) e.side (lnx m.inns) with
          | none =>
           have i1:IntKind.i64.wrap (m.pen1+5)=m.pen1+5:=BJ (by omega) (by omega)
           have i2:IntKind.i64.wrap (m.pen2+5)=m.pen2+5:=BJ (by omega) (by omega)
           unfold EP
           simp only [mx,i1,i2]
          | some k =>
           have hk2:=(I8 _ hk).1
           have hki:inn (m.inns.set (lnx m.inns) (Au m.rules (AW m) e).1) k=inn m.inns k:=by rw [XB _ _ _ _ (by omega),if_neg (by omega)]
           unfold EP
           simp only [hki,KR (k:=k),mx,pX (ok.innv k (by omega)).1,NK _ _ (show k<m.inns.length by omega)]
         ·rcases c3 with c3 | ⟨_,c3 | c3 | c3⟩
          ·exact Or.inl (c3.trans (a4.trans s3'))
          ·exact Or.inr (Or.inl c3)
          ·exact Or.inr (Or.inr (Or.inl ⟨c3.1,a3'.symm.trans c3.2⟩))
          ·exact Or.inr (Or.inr (Or.inr c3))
end Go.Px
end
section
namespace Go.Px
set_option maxRecDepth 100000
def opn (L:Rows):Nat→Nat
 | 0=>0
 | n+1=>opn L n+cond ((evR L n).kind==2) 1 0
theorem RF (L:Rows) (n:Nat):opn L n≤opn L (n+1):=by
 show opn L n≤opn L n+_
 exact Nat.le_add_right _ _
theorem F2 (L:Rows) {i:Nat}:∀ {j:Nat},i≤j→opn L i≤opn L j
 | 0,h=>by rw [Nat.le_zero.1 h];exact Nat.le_refl _
 | j+1,h=>by
  by_cases e:i=j+1
  ·rw [e];exact Nat.le_refl _
  ·exact Nat.le_trans (F2 L (by omega)) (RF L j)
def DT (L:Rows):Nat→Option Int
 | 0=>none
 | n+1=>match DT L n with
  | some v=>some v
  | none=>cond ((evR L n).kind==1) (some (Q6 (evR L n))) none
theorem Xy {L:Rows} {v:Int} {i:Nat} (h:DT L i=some v):∀ {j:Nat},i≤j→DT L j=some v
 | 0,hj=>by rw [Nat.le_zero.1 hj] at h;exact h
 | j+1,hj=>by
  by_cases e:i=j+1
  ·rw [← e];exact h
  ·unfold DT
   rw [Xy h (show i≤j by omega)]
def D6 (L:Rows):Nat→Bool
 | 0=>false
 | n+1=>D6 L n||((evR L n).kind==12&&(evR L n).yes)
def had (L:Rows):Nat→Bool
 | 0=>false
 | n+1=>had L n||(evR L n).kind==12
theorem ji {L:Rows}:∀ n,had L n=false→D6 L n=false
 | 0,_=>rfl
 | n+1,h=>by
  unfold had at h
  unfold D6
  rw [Bool.or_eq_false_iff] at h
  rw [ji n h.1,h.2]
  rfl
structure LogI (L:Rows) (i:Nat) (m:Mat):Prop where
 len:m.inns.length=opn L i
 fs:∀ v,DT L i=some v→m.first=v∧¬ m.stage=1
 fn:DT L i=none→m.first=0
 fol:m.follow=D6 L i
 k12:had L i=true→(m.inns.length=2∧(m.stage=2∨m.stage=5))∨3≤m.inns.length
structure EvF (L:Rows) (i:Nat):Prop where
 two:((evR L i).kind==2)=true→opn L i≤3∧∃ v,DT L i=some v∧(v=1∨v=2)
 twelve:((evR L i).kind==12)=true→opn L i=2
 play:((evR L i).kind==1)=false→((evR L i).kind==2)=false→((evR L i).kind==12)=false→((evR L i).kind==16)=false→1≤opn L i
theorem nv (s:Int) (T:TS):(UQ s T).xs.length=T.xs.length∧(UQ s T).first=T.first∧(UQ s T).follow=T.follow:=by
 unfold UQ
 cases Bh (fun k=>(sco T.xs k).side) s T.xs.length with
 | none=>exact ⟨rfl,rfl,rfl⟩
 | some k=>exact ⟨List.length_set,rfl,rfl⟩
theorem kP (r:Rul) (e:Ev) (T:TS):(Ry r e T).xs.length=T.xs.length+cond (e.kind==2) 1 0∧(Ry r e T).first=cond (e.kind==1) (Q6 e) T.first∧(Ry r e T).follow=cond (e.kind==12) e.yes T.follow:=by
 unfold Ry
 cases k1:e.kind==1 with
 | true =>
  rw [beq_iff_eq.1 k1]
  exact ⟨rfl,rfl,rfl⟩
 | false =>
  cases k2:e.kind==2 with
  | true =>
   rw [beq_iff_eq.1 k2]
   refine ⟨?_,rfl,rfl⟩
   show (T.xs++[_]).length=_
   rw [List.length_append]
   rfl
  | false =>
   cases k12:e.kind==12 with
   | true=>exact ⟨rfl,rfl,rfl⟩
   | false =>
    cases k16:e.kind==16 with
    | true=>exact ⟨rfl,rfl,rfl⟩
    | false =>
     cases k13:e.kind==13 with
     | true=>exact nv e.side T
     | false=>exact ⟨List.length_set,rfl,rfl⟩
theorem nr {L:Rows} {i:Nat} {m:Mat} (h:LogI L i m) (ha:((DX m (evR L i)).2==0)=true):LogI L (i+1) (DX m (evR L i)).1∧EvF L i:=by
 obtain ⟨ab,sg⟩:=iU ha
 obtain ⟨hv,he,h5,hp,hs⟩:=Yx ha
 have vp:=Zy hv
 obtain ⟨t1,t2,t3⟩:=kP m.rules (evR L i) (EP m)
 rw [← ab] at t1 t2 t3
 have x1:∀ z:Mat,(EP z).xs.length=z.inns.length:=fun z=>List.length_map _
 rw [x1,x1] at t1
 change (DX m (evR L i)).1.first=cond ((evR L i).kind==1) (Q6 (evR L i)) m.first at t2
 change (DX m (evR L i)).1.follow=cond ((evR L i).kind==12) (evR L i).yes m.follow at t3
 have no12:((evR L i).kind==12)=true→had L i=false:=fun k=>by
  obtain ⟨s1,s2,s3⟩:=sg.k12 k
  cases hh:had L i with
  | false=>rfl
  | true=>rcases h.k12 hh with ⟨_,q | q⟩ | q<;>omega
 have no5:¬ m.stage=5:=beq_eq_false_iff_ne.1 h5
 refine ⟨⟨?_,?_,?_,?_,?_⟩,⟨?_,?_,?_⟩⟩
 ·rw [t1,h.len];rfl
 ·intro v hv2
  refine ⟨?_,sg.not1⟩
  rw [t2]
  unfold DT at hv2
  cases hf:DT L i with
  | some w =>
   rw [hf] at hv2
   cases hv2
   obtain ⟨f1,f2⟩:=h.fs _ hf
   cases k1:(evR L i).kind==1 with
   | true=>exact absurd (sg.k1 k1).1 f2
   | false=>exact f1
  | none =>
   rw [hf] at hv2
   cases k1:(evR L i).kind==1 with
   | true =>
    simp only [k1,cond_true] at hv2
    cases hv2
    rfl
   | false =>
    simp only [k1,cond_false] at hv2
    cases hv2
 ·intro hn
  rw [t2]
  unfold DT at hn
  cases hf:DT L i with
  | some w=>rw [hf] at hn;cases hn
  | none =>
   rw [hf] at hn
   cases k1:(evR L i).kind==1 with
   | true =>
    simp only [k1,cond_true] at hn
    cases hn
   | false=>exact h.fn hf
 ·rw [t3]
  unfold D6
  cases k12:(evR L i).kind==12 with
  | true=>rw [ji i (no12 k12)];rfl
  | false=>rw [h.fol,Bool.false_and,Bool.or_false];rfl
 ·intro hh
  rw [t1]
  unfold had at hh
  cases k12:(evR L i).kind==12 with
  | true =>
   obtain ⟨s1,s2,s3⟩:=sg.k12 k12
   rw [beq_iff_eq.1 k12]
   exact Or.inl ⟨s2,Or.inl s3⟩
  | false =>
   rw [k12,Bool.or_false] at hh
   rcases h.k12 hh with ⟨q1,q2⟩ | q
   ·cases k2:(evR L i).kind==2 with
    | true=>exact Or.inr (by simp only [cond_true];omega)
    | false =>
     refine Or.inl ⟨q1,?_⟩
     cases k16:(evR L i).kind==16 with
     | true=>exact Or.inr (sg.k16 k16)
     | false =>
      cases k1:(evR L i).kind==1 with
      | true=>have:=(sg.k1 k1).1;omega
      | false=>have:=(sg.play k1 k2 k12 k16).1;omega
   ·exact Or.inr (Nat.le_trans q (Nat.le_add_right _ _))
 ·intro k2
  obtain ⟨s1,s2⟩:=sg.k2 k2
  refine ⟨by rw [← h.len];exact s2,?_⟩
  have tk:=(Wd hv).toss (by rw [s1];rfl)
  cases hf:DT L i with
  | none=>have:=h.fn hf;omega
  | some w=>exact ⟨w,rfl,by rw [← (h.fs w hf).1];exact tk⟩
 ·intro k
  rw [← h.len]
  exact (sg.k12 k).2.1
 ·intro a b c d
  rw [← h.len]
  exact (sg.play a b c d).2
theorem jY {r:Rul} (h:((AN r).2==0)=true):(AN r).1=⟨r,1,0,false,[],0,0,0,0,0⟩∧BK r=0:=by
 unfold AN at h ⊢
 cases hc:BK r==0 with
 | false=>rw [hc] at h;exact absurd (show (BK r==0)=true from h) (by rw [hc];decide)
 | true=>exact ⟨rfl,beq_iff_eq.1 hc⟩
theorem Lc {r:Rul} {L:Rows} {n:Nat} (hc:((AN r).2==0)=true) (ha:acc L n 0 (AN r).1):∀ i,i≤n→LogI L i (stM L i 0 (AN r).1)∧StepOk r (stM L i 0 (AN r).1)∧∀ j,j<i→EP (stM L (j+1) 0 (AN r).1)=Ry r (evR L j) (EP (stM L j 0 (AN r).1))∧EvF L j
 | 0,_=>by
  refine ⟨?_,jh r hc,fun j hj=>absurd hj (Nat.not_lt_zero j)⟩
  show LogI L 0 (AN r).1
  rw [(jY hc).1]
  exact ⟨rfl,fun v h=>(by cases h),fun _=>rfl,rfl,fun h=>(by cases h)⟩
 | i+1,hi=>by
  obtain ⟨h1,h2,h3⟩:=Lc hc ha i (by omega)
  have a0:=Tc n 0 _ ha i (by omega)
  have s0:=YN (L:=L) i 0 (AN r).1
  rw [Nat.zero_add] at a0 s0
  have q:=(Zq a0).1
  rw [q] at s0 a0
  obtain ⟨l1,l2⟩:=nr h1 a0
  rw [s0]
  refine ⟨l1,by rw [← q];exact gG h2 _ _,fun j hj=>?_⟩
  by_cases e:j=i
  ·subst e
   rw [s0]
   refine ⟨?_,l2⟩
   rw [(iU a0).1,h2.rules]
  ·exact h3 j (by omega)
def sdF (L:Rows) (n:Nat) (j:Nat):Int:=Kp ((DT L n).getD 1) (D6 L n) (j:Int)
theorem gb {L:Rows} {i:Nat}:∀ n,i≤n→(∀ j,i≤j→j<n→((evR L j).kind==12)=false)→D6 L n=D6 L i
 | 0,h,_=>by rw [Nat.le_zero.1 h]
 | n+1,h,hk=>by
  by_cases e:i=n+1
  ·rw [e]
  ·have:D6 L (n+1)=D6 L n:=by
    show (D6 L n||((evR L n).kind==12&&_))=_
    rw [hk n (by omega) (Nat.lt_succ_self n),Bool.false_and,Bool.or_false]
   rw [this]
   exact gb n (by omega) (fun j h1 h2=>hk j h1 (by omega))
theorem nR (f:Int) (a b:Bool) {j:Nat} (h:j<2):Kp f a (j:Int)=Kp f b (j:Int):=by
 have:iLe 2 (j:Int)=false:=by simp only [iLe,decide_eq_false_iff_not];omega
 unfold Kp
 rw [this,Bool.and_false,Bool.and_false]
theorem qe {r : Rul} {L : Rows} {n i : Nat} (hc : ((AN r).2 == 0) = true) (ha : acc L n 0 (AN r).1) (hi : i < n) (hk : ((evR L i).kind == 2) = true) :
    Kp (stM L i 0 (AN r).1).first (stM L i 0 (AN r).1).follow (opn L i:Int)=sdF L n (opn L i)∧(sdF L n (opn L i)=1∨sdF L n (opn L i)=2):=by
  obtain ⟨h1,_,_⟩:=Lc hc ha i (by omega)
  obtain ⟨_,_,h3⟩:=Lc hc ha n (Nat.le_refl n)
  obtain ⟨e1,v,e2,e3⟩:=(h3 i hi).2.two hk
  have f1:=(h1.fs v e2).1
  have f2:=Xy e2 (show i≤n by omega)
  have main:Kp (stM L i 0 (AN r).1).first (stM L i 0 (AN r).1).follow (opn L i:Int)=sdF L n (opn L i):=by
    unfold sdF
    rw [f1,f2,h1.fol]
    show Kp v _ _=Kp v _ _
    by_cases h2:opn L i<2
    · exact nR _ _ _ h2
    · rw [gb (i:=i) n (by omega)]
      intro j j1 j2
      cases k12:(evR L j).kind==12 with
      | false=>rfl
      | true =>
        have o2:=(h3 j j2).2.twelve k12
        by_cases e:j=i
        · subst e
          rw [beq_iff_eq.1 hk] at k12
          cases k12
        · have:=F2 L (show i+1≤j by omega)
          have o3:opn L (i+1)=opn L i+1:=by show opn L i+cond ((evR L i).kind==2) 1 0=_;rw [hk];rfl
          omega
  refine ⟨main,?_⟩
  rw [← main,f1]
  unfold Kp
  cases cond ((stM L i 0 (AN r).1).follow&&iLe 2 (opn L i:Int)) ((opn L i:Int)==2) ((opn L i:Int).tmod 2==1) with
  | false=>exact e3
  | true=>rcases e3 with h | h<;>rw [h]<;>decide
def smi (L:Rows) (f:Ev→Int) (j:Nat):Nat→Int
 | 0=>0
 | n+1=>smi L f j n+cond (Nat.beq (opn L (n+1)) (j+1)) (f (evR L n)) 0
theorem CM (L:Rows) (f:Ev→Int) (j n:Nat):smi L f j (n+1)=smi L f j n+cond (Nat.beq (opn L (n+1)) (j+1)) (f (evR L n)) 0:=rfl
theorem RG {a b:Nat} (h:¬ a=b):Nat.beq a b=false:=by
 cases hq:Nat.beq a b with
 | false=>rfl
 | true=>exact absurd (Nat.eq_of_beq_eq_true hq) h
theorem Nd (a:Nat):Nat.beq a a=true:=Nat.beq_refl a
theorem Ug {L:Rows} {f:Ev→Int} {j:Nat}:∀ n,opn L n≤j→smi L f j n=0
 | 0,_=>rfl
 | n+1,h=>by
  have:=RF L n
  unfold smi
  rw [Ug n (by omega),RG (by omega)]
  rfl
def SY (sd:Nat→Int) (s:Int):Nat→Nat→Option Nat
 | 0,_=>none
 | c+1,i=>cond (sd i==s) (some i) (SY sd s c (i+1))
theorem Qw {sd:Nat→Int} {s:Int} {j:Nat}:∀ c i,SY sd s c i=some j→i≤j∧j<i+c∧sd j=s∧∀ k,i≤k→k<j→¬ sd k=s
 | 0,_,h=>by cases h
 | c+1,i,h=>by
  unfold SY at h
  cases hq:sd i==s with
  | true =>
   rw [hq] at h
   cases h
   exact ⟨Nat.le_refl _,by omega,beq_iff_eq.1 hq,fun k h1 h2=>by omega⟩
  | false =>
   rw [hq] at h
   obtain ⟨h1,h2,h3,h4⟩:=Qw c (i+1) h
   refine ⟨by omega,by omega,h3,fun k k1 k2=>?_⟩
   by_cases e:k=i
   ·subst e;exact beq_eq_false_iff_ne.1 hq
   ·exact h4 k (by omega) k2
theorem lk {sd:Nat→Int} {s:Int} {k:Nat} (hs:sd k=s):∀ c i,i≤k→k<i+c→∃ j,SY sd s c i=some j∧j≤k
 | 0,_,h1,h2=>absurd h2 (by omega)
 | c+1,i,h1,h2=>by
  unfold SY
  cases hq:sd i==s with
  | true=>exact ⟨i,rfl,h1⟩
  | false =>
   have:¬ i=k:=fun e=>by subst e;exact beq_eq_false_iff_ne.1 hq hs
   exact lk hs c (i+1) (by omega) (by omega)
def DH (sd:Nat→Int) (n k:Nat) (s:Int):Option Nat:=match Bh sd s (k+1) with
 | some j=>some j
 | none=>SY sd s (n - (k+1)) (k+1)
theorem fK {sd:Nat→Int} {n k j:Nat} {s:Int} (h:DH sd n k s=some j):sd j=s∧(j≤k∨(k<j∧j<n∧Bh sd s (k+1)=none)):=by
 unfold DH at h
 cases hb:Bh sd s (k+1) with
 | some w =>
  rw [hb] at h
  cases h
  have:=I8 _ hb
  exact ⟨this.2,Or.inl (by omega)⟩
 | none =>
  rw [hb] at h
  obtain ⟨h1,h2,h3,h4⟩:=Qw _ _ h
  exact ⟨h3,Or.inr ⟨by omega,by omega,rfl⟩⟩
def isS (o:Option Nat) (j:Nat):Bool:=match o with
 | some k=>Nat.beq k j
 | none=>false
theorem XN {o:Option Nat} {j:Nat}:isS o j=true↔o=some j:=by
 cases o with
 | none=>exact ⟨fun h=>(by cases h),fun h=>(by cases h)⟩
 | some k=>exact ⟨fun h=>(by rw [Nat.eq_of_beq_eq_true h]),fun h=>(by cases h;exact Nd j)⟩
def pnS (L:Rows) (sd:Nat→Int) (n j:Nat):Nat→Int
 | 0=>0
 | i+1=>pnS L sd n j i+cond ((evR L i).kind==13&&isS (DH sd n (opn L (i+1) - 1) (evR L i).side) j) 5 0
theorem bg (L:Rows) (sd:Nat→Int) (n j i:Nat):pnS L sd n j (i+1)=pnS L sd n j i+cond ((evR L i).kind==13&&isS (DH sd n (opn L (i+1) - 1) (evR L i).side) j) 5 0:=rfl
def pcS (L:Rows) (s:Int):Nat→Int
 | 0=>0
 | i+1=>pcS L s i+cond ((evR L i).kind==13&&(evR L i).side==s) 5 0
def EW (L:Rows) (sd:Nat→Int) (s:Int) (k i:Nat):Int:=match Bh sd s k with
 | some _=>0
 | none=>pcS L s i
theorem jt {L:Rows} {sd:Nat→Int} {n k:Nat} (hn:k<n):∀ i,(∀ j,j<i→((evR L j).kind==13)=true→1≤opn L (j+1))→opn L i≤k→pnS L sd n k i=EW L sd (sd k) k i
 | 0,_,_=>by unfold EW;cases Bh sd (sd k) k<;>rfl
 | i+1,h,hk=>by
  have ih:=jt (sd:=sd) hn i (fun j hj=>h j (by omega)) (Nat.le_trans (RF L i) hk)
  unfold pnS
  rw [ih]
  unfold EW
  cases k13:(evR L i).kind==13 with
  | false =>
   rw [Bool.false_and,cond_false,Int.add_zero]
   cases Bh sd (sd k) k with
   | some _=>rfl
   | none =>
    show pcS L (sd k) i=pcS L (sd k) i+cond ((evR L i).kind==13&&_) 5 0
    rw [k13,Bool.false_and,cond_false,Int.add_zero]
  | true =>
   have o1:=h i (Nat.lt_succ_self i) k13
   rw [Bool.true_and]
   by_cases es:(evR L i).side=sd k
   ·cases hb:Bh sd (sd k) k with
    | some w =>
     have bw:=I8 _ hb
     have:isS (DH sd n (opn L (i+1) - 1) (evR L i).side) k=false:=by
      cases hq:isS (DH sd n (opn L (i+1) - 1) (evR L i).side) k with
      | false=>rfl
      | true =>
       exfalso
       have hd:=XN.1 hq
       rw [es] at hd
       unfold DH at hd
       rw [show opn L (i+1) - 1+1=opn L (i+1) by omega] at hd
       cases hb2:Bh sd (sd k) (opn L (i+1)) with
       | some z =>
        rw [hb2] at hd
        cases hd
        have:=(I8 _ hb2).1
        omega
       | none =>
        rw [hb2] at hd
        have nb:=Vw _ hb2
        have f4:=(Qw _ _ hd).2.2.2 w
        by_cases hw:w<opn L (i+1)
        ·exact nb w hw bw.2
        ·exact f4 (by omega) bw.1 bw.2
     rw [this]
     rfl
    | none =>
     have nb:=Vw _ hb
     have:isS (DH sd n (opn L (i+1) - 1) (evR L i).side) k=true:=by
      rw [XN,es]
      unfold DH
      rw [show opn L (i+1) - 1+1=opn L (i+1) by omega]
      cases hb2:Bh sd (sd k) (opn L (i+1)) with
      | some z =>
       have:=I8 _ hb2
       exact absurd this.2 (nb z (by omega))
      | none =>
       obtain ⟨j,j1,j2⟩:=lk (sd:=sd) (s:=sd k) (k:=k) rfl (n - opn L (i+1)) (opn L (i+1)) hk (by omega)
       have:=Qw _ _ j1
       by_cases e:j=k
       ·subst e;exact j1
       ·exact absurd this.2.2.1 (nb j (by omega))
     rw [this]
     show pcS L (sd k) i+_=pcS L (sd k) i+cond ((evR L i).kind==13&&(evR L i).side==sd k) 5 0
     rw [k13,es,beq_self_eq_true]
     rfl
   ·have:isS (DH sd n (opn L (i+1) - 1) (evR L i).side) k=false:=by
     cases hq:isS (DH sd n (opn L (i+1) - 1) (evR L i).side) k with
     | false=>rfl
     | true=>exact absurd (fK (XN.1 hq)).1.symm es
    rw [this,cond_false,Int.add_zero]
    cases Bh sd (sd k) k with
    | some _=>rfl
    | none =>
     show pcS L (sd k) i=pcS L (sd k) i+cond ((evR L i).kind==13&&(evR L i).side==sd k) 5 0
     rw [beq_false_of_ne es,Bool.and_false,cond_false,Int.add_zero]
def cO (r:Rul) (e:Ev):Int:=DK (Ah r e)
def L9 (r:Rul) (e:Ev):Int:=cond (Ah r e).counts 1 0
def BB (r:Rul) (L:Rows) (sd:Nat→Int) (n j i:Nat):Sco:=⟨sd j,smi L (cO r) j i+pnS L sd n j i,smi L HX j i,smi L (L9 r) j i,smi L (fun e=>(Ah r e).wides) j i,smi L (fun e=>(Ah r e).noballs) j i,smi L (fun e=>(Ah r e).byes) j i,smi L (fun e=>(Ah r e).legbyes) j i,pnS L sd n j i,0⟩
theorem UI (r:Rul) (L:Rows) (sd:Nat→Int) (n j i:Nat):BB r L sd n j (i+1)=JP (cond ((evR L i).kind==13&&isS (DH sd n (opn L (i+1) - 1) (evR L i).side) j) 5 0) (cond (Nat.beq (opn L (i+1)) (j+1)) (Nn r (evR L i) (BB r L sd n j i)) (BB r L sd n j i)):=by
 unfold BB
 simp only [CM,bg]
 generalize (cond ((evR L i).kind==13&&isS (DH sd n (opn L (i+1) - 1) (evR L i).side) j) 5 0:Int)=p
 cases Nat.beq (opn L (i+1)) (j+1) with
 | false =>
  unfold JP
  simp only [cond_false,Int.add_zero,Int.add_assoc]
 | true =>
  unfold JP Nn
  simp only [cond_true]
  rw [Sco.mk.injEq]
  refine ⟨rfl,?_,rfl,rfl,rfl,rfl,rfl,rfl,rfl,rfl⟩
  unfold cO
  omega
theorem dT {r:Rul} {L:Rows} {sd:Nat→Int} {n j i:Nat} (h4:((evR L i).kind==4)=false) (h13:((evR L i).kind==13)=false) (ho:B4 (evR L i)=0):BB r L sd n j (i+1)=BB r L sd n j i:=by
 rw [UI,h13,Bool.false_and,cond_false,CA,Lk _ h4 ho]
 cases Nat.beq (opn L (i+1)) (j+1)<;>rfl
structure Clo (r:Rul) (L:Rows) (sd:Nat→Int) (n i:Nat) (T:TS):Prop where
 len:T.xs.length=opn L i
 at':∀ j,j<opn L i→sco T.xs j=BB r L sd n j i
 p1:T.p1=EW L sd 1 (opn L i) i
 p2:T.p2=EW L sd 2 (opn L i) i
theorem FO {L:Rows} {sd:Nat→Int} {s:Int} {k i:Nat} (h:((evR L i).kind==13&&(evR L i).side==s)=false):EW L sd s k (i+1)=EW L sd s k i:=by
 unfold EW
 cases Bh sd s k with
 | some _=>rfl
 | none =>
  show pcS L s i+cond ((evR L i).kind==13&&(evR L i).side==s) 5 0=_
  rw [h,cond_false,Int.add_zero]
theorem eu {r:Rul} {L:Rows} {n:Nat} (hc:((AN r).2==0)=true) (ha:acc L n 0 (AN r).1):∀ i,i≤n→Clo r L (sdF L n) (opn L n) i (EP (stM L i 0 (AN r).1))
 | 0,_=>by
  show Clo r L _ _ 0 (EP (AN r).1)
  rw [(jY hc).1]
  exact ⟨rfl,fun j hj=>absurd hj (Nat.not_lt_zero j),rfl,rfl⟩
 | i+1,hi=>by
  have ih:=eu hc ha i (by omega)
  obtain ⟨_,_,h3⟩:=Lc hc ha n (Nat.le_refl n)
  obtain ⟨hst,hev⟩:=h3 i (by omega)
  have sat:=qe hc ha (show i<n by omega)
  have o13:∀ j,j<i→((evR L j).kind==13)=true→1≤opn L (j+1):=fun j hj k13=>by
   have e:=beq_iff_eq.1 k13
   have:=(h3 j (by omega)).2.play (by rw [e];rfl) (by rw [e];rfl) (by rw [e];rfl) (by rw [e];rfl)
   exact Nat.le_trans this (RF L j)
  rw [hst]
  change ((evR L i).kind==2)=true→Kp (EP (stM L i 0 (AN r).1)).first (EP (stM L i 0 (AN r).1)).follow (opn L i:Int)=_∧_ at sat
  generalize EP (stM L i 0 (AN r).1)=T at ih sat
  have onx:opn L (i+1)=opn L i+cond ((evR L i).kind==2) 1 0:=rfl
  have quiet:((evR L i).kind==2)=false→((evR L i).kind==4)=false→((evR L i).kind==13)=false→B4 (evR L i)=0→∀ T':TS,T'.xs=T.xs→T'.p1=T.p1→T'.p2=T.p2→Clo r L (sdF L n) (opn L n) (i+1) T':=by
   intro a b c d T' t1 t2 t3
   rw [a] at onx
   change opn L (i+1)=opn L i at onx
   have z:∀ s:Int,((evR L i).kind==13&&(evR L i).side==s)=false:=fun s=>by rw [c];rfl
   refine ⟨by rw [onx,t1];exact ih.len,fun j hj=>?_,?_,?_⟩
   ·rw [t1,dT b c d]
    exact ih.at' j (by omega)
   ·rw [onx,t2,FO (z 1)];exact ih.p1
   ·rw [onx,t3,FO (z 2)];exact ih.p2
  unfold Ry
  cases k1:(evR L i).kind==1 with
  | true =>
   have e:=beq_iff_eq.1 k1
   exact quiet (by rw [e];rfl) (by rw [e];rfl) (by rw [e];rfl) (by unfold B4;rw [e];rfl) _ rfl rfl rfl
  | false =>
   cases k2:(evR L i).kind==2 with
   | true =>
    have e:=beq_iff_eq.1 k2
    have h4:((evR L i).kind==4)=false:=by rw [e];rfl
    have h13:((evR L i).kind==13)=false:=by rw [e];rfl
    have ho:B4 (evR L i)=0:=by unfold B4;rw [e];rfl
    have z:∀ s:Int,((evR L i).kind==13&&(evR L i).side==s)=false:=fun s=>by rw [h13];rfl
    rw [k2] at onx
    change opn L (i+1)=opn L i+1 at onx
    obtain ⟨sa,sb⟩:=sat k2
    have kn:opn L i<opn L n:=by have:=F2 L (show i+1≤n by omega);omega
    have pp:=jt (L:=L) (sd:=sdF L n) kn i o13 (Nat.le_refl _)
    show Clo r L (sdF L n) (opn L n) (i+1) (eX T)
    unfold eX
    simp only [ih.len,sa]
    refine ⟨by rw [List.length_append,ih.len,onx];rfl,fun j hj=>?_,?_,?_⟩
    ·rw [pL _ _ _ (by rw [ih.len];omega),ih.len,dT h4 h13 ho]
     by_cases hjk:j<opn L i
     ·rw [if_pos hjk];exact ih.at' j hjk
     ·have:j=opn L i:=by omega
      subst this
      rw [if_neg hjk]
      unfold BB gC
      simp only [Ug i (Nat.le_refl _),Int.zero_add,pp]
      rcases sb with sb | sb<;>rw [sb]
      ·rw [← ih.p1];rfl
      ·rw [← ih.p2];rfl
    ·rw [onx]
     show cond (sdF L n (opn L i)==1) 0 T.p1=EW L (sdF L n) 1 (opn L i+1) (i+1)
     rw [FO (z 1)]
     unfold EW Bh
     cases sdF L n (opn L i)==1 with
     | true=>rfl
     | false=>exact ih.p1
    ·rw [onx]
     show cond (sdF L n (opn L i)==2) 0 T.p2=EW L (sdF L n) 2 (opn L i+1) (i+1)
     rw [FO (z 2)]
     unfold EW Bh
     cases sdF L n (opn L i)==2 with
     | true=>rfl
     | false=>exact ih.p2
   | false =>
    cases k12:(evR L i).kind==12 with
    | true =>
     have e:=beq_iff_eq.1 k12
     exact quiet (by rw [e];rfl) (by rw [e];rfl) (by rw [e];rfl) (by unfold B4;rw [e];rfl) _ rfl rfl rfl
    | false =>
     cases k16:(evR L i).kind==16 with
     | true =>
      have e:=beq_iff_eq.1 k16
      exact quiet (by rw [e];rfl) (by rw [e];rfl) (by rw [e];rfl) (by unfold B4;rw [e];rfl) _ rfl rfl rfl
     | false =>
      have pl:=hev.play k1 k2 k12 k16
      rw [k2] at onx
      change opn L (i+1)=opn L i at onx
      simp only [cond_false]
      cases k13:(evR L i).kind==13 with
      | true =>
       have e:=beq_iff_eq.1 k13
       have h4:((evR L i).kind==4)=false:=by rw [e];rfl
       have ho:B4 (evR L i)=0:=by unfold B4;rw [e];rfl
       have bk:Bh (fun k=>(sco T.xs k).side) (evR L i).side T.xs.length=Bh (sdF L n) (evR L i).side (opn L i):=by
        rw [ih.len]
        exact UT _ (fun k hk=>by rw [ih.at' k hk];rfl)
       have du:DH (sdF L n) (opn L n) (opn L (i+1) - 1) (evR L i).side=match Bh (sdF L n) (evR L i).side (opn L i) with
        | some j=>some j
        | none=>SY (sdF L n) (evR L i).side (opn L n - opn L i) (opn L i):=by
        unfold DH
        rw [onx,show opn L i - 1+1=opn L i by omega]
       have cs:∀ j,BB r L (sdF L n) (opn L n) j (i+1)=JP (cond (isS (DH (sdF L n) (opn L n) (opn L (i+1) - 1) (evR L i).side) j) 5 0) (BB r L (sdF L n) (opn L n) j i):=fun j=>by
        rw [UI,k13,Bool.true_and,Lk _ h4 ho]
        cases Nat.beq (opn L (i+1)) (j+1)<;>rfl
       have pq:∀ s:Int,Bh (sdF L n) (evR L i).side (opn L i)≠none→EW L (sdF L n) s (opn L i) (i+1)=EW L (sdF L n) s (opn L i) i:=fun s hs=>by
        by_cases es:(evR L i).side=s
        ·rw [es] at hs
         unfold EW
         cases hb:Bh (sdF L n) s (opn L i) with
         | none=>exact absurd hb hs
         | some w=>rfl
        ·exact FO (by rw [beq_false_of_ne es,Bool.and_false])
       show Clo r L (sdF L n) (opn L n) (i+1) (UQ (evR L i).side T)
       unfold UQ
       rw [bk]
       cases hb:Bh (sdF L n) (evR L i).side (opn L i) with
       | some w =>
        have wl:=(I8 _ hb).1
        rw [hb] at du pq
        simp only at du
        refine ⟨by rw [onx];exact List.length_set.trans ih.len,fun j hj=>?_,?_,?_⟩
        ·rw [cs,du]
         show sco (T.xs.set w (JP 5 (sco T.xs w))) j=_
         rw [TR _ _ _ _ (by rw [ih.len];omega)]
         by_cases ew:w=j
         ·subst ew
          rw [if_pos rfl,ih.at' w wl,show isS (some w) w=true from Nd w]
          rfl
         ·rw [if_neg ew,show isS (some w) j=false from RG ew,ih.at' j (by omega),cond_false,CA]
        ·rw [onx,pq 1 (by simp)];exact ih.p1
        ·rw [onx,pq 2 (by simp)];exact ih.p2
       | none =>
        rw [hb] at du
        simp only at du
        have pc:∀ s:Int,EW L (sdF L n) s (opn L i) (i+1)=cond ((evR L i).side==s) (EW L (sdF L n) s (opn L i) i+5) (EW L (sdF L n) s (opn L i) i):=fun s=>by
         cases es:(evR L i).side==s with
         | false=>rw [FO (by rw [es,Bool.and_false])];rfl
         | true =>
          have e2:=beq_iff_eq.1 es
          rw [e2] at hb
          unfold EW
          rw [hb]
          show pcS L s i+cond ((evR L i).kind==13&&(evR L i).side==s) 5 0=_
          rw [k13,es]
          rfl
        refine ⟨by rw [onx];exact ih.len,fun j hj=>?_,?_,?_⟩
        ·have nj:isS (DH (sdF L n) (opn L n) (opn L (i+1) - 1) (evR L i).side) j=false:=by
          cases hq:isS (DH (sdF L n) (opn L n) (opn L (i+1) - 1) (evR L i).side) j with
          | false=>rfl
          | true =>
           have:=XN.1 hq
           rw [du] at this
           have:=(Qw _ _ this).1
           omega
         rw [cs,nj,cond_false,CA]
         exact ih.at' j (by omega)
        ·rw [onx,pc 1,← ih.p1]
        ·rw [onx,pc 2,← ih.p2]
      | false =>
       have z:∀ s:Int,((evR L i).kind==13&&(evR L i).side==s)=false:=fun s=>by rw [k13];rfl
       show Clo r L (sdF L n) (opn L n) (i+1) (eU r (evR L i) T)
       unfold eU
       refine ⟨by rw [onx];exact List.length_set.trans ih.len,fun j hj=>?_,?_,?_⟩
       ·show sco (T.xs.set _ _) j=_
        rw [TR _ _ _ _ (by rw [ih.len];omega),UI,k13,Bool.false_and,cond_false,CA,onx,ih.len]
        by_cases ew:opn L i - 1=j
        ·rw [if_pos ew,show opn L i=j+1 by omega,Nd,show j+1 - 1=j by omega,ih.at' j (by omega)]
         rfl
        ·rw [if_neg ew,RG (by omega)]
         exact ih.at' j (by omega)
       ·rw [onx,FO (z 1)];exact ih.p1
       ·rw [onx,FO (z 2)];exact ih.p2
end Go.Px
end
section
namespace Go.Px
set_option maxRecDepth 100000
def Sco.ls (s:Sco):List PV:=[.int s.side,.int s.runs,.int s.wickets,.int s.balls,.int s.wides,.int s.noballs,.int s.byes,.int s.legbyes,.int s.pens,.int s.ending]
def Aw (xs:List Sco):Rows:=xs.map Sco.ls
def dS:Sco:=⟨0,0,0,0,0,0,0,0,0,0⟩
theorem jx (xs:List Sco) (i:Nat):AB (Aw xs) i=(match xs[i]? with | some s=>s.ls | none=>[]):=by
 unfold AB Aw
 rw [List.getD_eq_getElem?_getD,List.getElem?_map]
 cases xs[i]?<;>rfl
theorem gN (xs:List Sco):(Aw xs).length=xs.length:=List.length_map _
theorem PXs : (∀ xs : List Sco, (Aw xs).length = xs.length) ∧ (∀ (xs : List Sco) (i : Nat), pvI (AF (Aw xs) i 0) = (sco xs i).side) ∧ (∀ (xs : List Sco) (i : Nat), pvI (AF (Aw xs) i 1) = (sco xs i).runs) ∧ (∀ (xs : List Sco) (i : Nat), pvI (AF (Aw xs) i 2) = (sco xs i).wickets) ∧ (∀ (xs : List Sco) (i : Nat), pvI (AF (Aw xs) i 3) = (sco xs i).balls) ∧
    (∀ (xs:List Sco) (i:Nat),pvI (AF (Aw xs) i 4)=(sco xs i).wides)∧(∀ (xs:List Sco) (i:Nat),pvI (AF (Aw xs) i 5)=(sco xs i).noballs)∧(∀ (xs:List Sco) (i:Nat),pvI (AF (Aw xs) i 6)=(sco xs i).byes)∧(∀ (xs:List Sco) (i:Nat),pvI (AF (Aw xs) i 7)=(sco xs i).legbyes)∧(∀ (xs:List Sco) (i:Nat),pvI (AF (Aw xs) i 8)=(sco xs i).pens)∧(∀ (xs:List Sco) (i:Nat),pvI (AF (Aw xs) i 9)=(sco xs i).ending):=by
  refine ⟨gN,?_,?_,?_,?_,?_,?_,?_,?_,?_,?_⟩
  all_goals (intro xs i;rw [Em];unfold AF;rw [jx];cases xs[i]?<;>rfl)
theorem C1 {xs:List Sco} {i j:Nat} {v:Int} (f:Sco→Sco) (h:∀ s:Sco,Am s.ls j [.int v]=(f s).ls):(Aw xs).set i (Am (AB (Aw xs) i) j [.int v])=Aw (xs.set i (f (sco xs i))):=by
 by_cases hi:i<xs.length
 ·have e:AB (Aw xs) i=(sco xs i).ls:=by rw [jx,Em,List.getElem?_eq_getElem hi]
  rw [e,h]
  exact List.map_set.symm
 ·rw [List.set_eq_of_length_le (by rw [gN];omega),List.set_eq_of_length_le (by omega)]
theorem PXt : (∀ (xs : List Sco) (i : Nat) (v : Int), (Aw xs).set i (Am (AB (Aw xs) i) 0 [.int v]) = Aw (xs.set i { sco xs i with side := v })) ∧ (∀ (xs : List Sco) (i : Nat) (v : Int), (Aw xs).set i (Am (AB (Aw xs) i) 1 [.int v]) = Aw (xs.set i { sco xs i with runs := v })) ∧
    (∀ (xs:List Sco) (i:Nat) (v:Int),(Aw xs).set i (Am (AB (Aw xs) i) 2 [.int v])=Aw (xs.set i { sco xs i with wickets:=v }))∧(∀ (xs:List Sco) (i:Nat) (v:Int),(Aw xs).set i (Am (AB (Aw xs) i) 3 [.int v])=Aw (xs.set i { sco xs i with balls:=v })) ∧
    (∀ (xs:List Sco) (i:Nat) (v:Int),(Aw xs).set i (Am (AB (Aw xs) i) 4 [.int v])=Aw (xs.set i { sco xs i with wides:=v }))∧(∀ (xs:List Sco) (i:Nat) (v:Int),(Aw xs).set i (Am (AB (Aw xs) i) 5 [.int v])=Aw (xs.set i { sco xs i with noballs:=v })) ∧
    (∀ (xs:List Sco) (i:Nat) (v:Int),(Aw xs).set i (Am (AB (Aw xs) i) 6 [.int v])=Aw (xs.set i { sco xs i with byes:=v }))∧(∀ (xs:List Sco) (i:Nat) (v:Int),(Aw xs).set i (Am (AB (Aw xs) i) 7 [.int v])=Aw (xs.set i { sco xs i with legbyes:=v })) ∧
    (∀ (xs:List Sco) (i:Nat) (v:Int),(Aw xs).set i (Am (AB (Aw xs) i) 8 [.int v])=Aw (xs.set i { sco xs i with pens:=v }))∧(∀ (xs:List Sco) (i:Nat) (v:Int),(Aw xs).set i (Am (AB (Aw xs) i) 9 [.int v])=Aw (xs.set i { sco xs i with ending:=v })) ∧
    (∀ (xs:List Sco) (a b c d e f g h i j:Int),Aw xs++[([.int a,.int b,.int c,.int d,.int e,.int f,.int g,.int h,.int i,.int j]:List PV)]=Aw (xs++[⟨a,b,c,d,e,f,g,h,i,j⟩])):=by
  exact ⟨fun xs i v=>C1 (j:=0) (v:=v) (fun s=>{ s with side:=v }) (fun s=>rfl),fun xs i v=>C1 (j:=1) (v:=v) (fun s=>{ s with runs:=v }) (fun s=>rfl),fun xs i v=>C1 (j:=2) (v:=v) (fun s=>{ s with wickets:=v }) (fun s=>rfl),fun xs i v=>C1 (j:=3) (v:=v) (fun s=>{ s with balls:=v }) (fun s=>rfl),fun xs i v=>C1 (j:=4) (v:=v) (fun s=>{ s with wides:=v }) (fun s=>rfl),fun xs i v=>C1 (j:=5) (v:=v) (fun s=>{ s with noballs:=v }) (fun s=>rfl),fun xs i v=>C1 (j:=6) (v:=v) (fun s=>{ s with byes:=v }) (fun s=>rfl),fun xs i v=>C1 (j:=7) (v:=v) (fun s=>{ s with legbyes:=v }) (fun s=>rfl),fun xs i v=>C1 (j:=8) (v:=v) (fun s=>{ s with pens:=v }) (fun s=>rfl),fun xs i v=>C1 (j:=9) (v:=v) (fun s=>{ s with ending:=v }) (fun s=>rfl),
    fun xs a b c d e f g h i j=>(List.map_append (f:=Sco.ls) (l₁:=xs) (l₂:=[⟨a,b,c,d,e,f,g,h,i,j⟩])).symm⟩
theorem pt (n:Nat):List.replicate n ([.int 0,.int 0,.int 0,.int 0,.int 0,.int 0,.int 0,.int 0,.int 0,.int 0]:List PV)=Aw (List.replicate n dS):=by
 unfold Aw
 rw [List.map_replicate]
 rfl
def Fy (xs:List (Int×Int)):Rows:=xs.map fun x=>[.int x.1,.int x.2]
def pr (xs:List (Int×Int)) (i:Nat):Int×Int:=xs.getD i (0,0)
theorem UG (xs:List (Int×Int)) (i:Nat):pr xs i=(match xs[i]? with | some s=>s | none=>(0,0)):=by
 unfold pr
 rw [List.getD_eq_getElem?_getD]
 cases xs[i]?<;>rfl
theorem iY (xs:List (Int×Int)) (i:Nat):AB (Fy xs) i=(match xs[i]? with | some s=>[.int s.1,.int s.2] | none=>[]):=by
 unfold AB Fy
 rw [List.getD_eq_getElem?_getD,List.getElem?_map]
 cases xs[i]?<;>rfl
theorem ep (xs:List (Int×Int)):(Fy xs).length=xs.length:=List.length_map _
theorem PXp : (∀ xs : List (Int × Int), (Fy xs).length = xs.length) ∧ (∀ (xs : List (Int × Int)) (i : Nat), pvI (AF (Fy xs) i 0) = (pr xs i).1) ∧ (∀ (xs : List (Int × Int)) (i : Nat), pvI (AF (Fy xs) i 1) = (pr xs i).2) ∧
    (∀ (xs:List (Int×Int)) (i:Nat) (v:Int),(Fy xs).set i (Am (AB (Fy xs) i) 1 [.int v])=Fy (xs.set i ((pr xs i).1,v)))∧(∀ (xs:List (Int×Int)) (a b:Int),Fy xs++[([.int a,.int b]:List PV)]=Fy (xs++[(a,b)])):=by
  refine ⟨ep,?_,?_,?_,?_⟩
  · intro xs i;rw [UG];unfold AF;rw [iY];cases xs[i]?<;>rfl
  · intro xs i;rw [UG];unfold AF;rw [iY];cases xs[i]?<;>rfl
  · intro xs i v
    by_cases hi:i<xs.length
    · have e:AB (Fy xs) i=[.int (pr xs i).1,.int (pr xs i).2]:=by rw [iY,UG,List.getElem?_eq_getElem hi]
      rw [e]
      exact (List.map_set (f:=fun x:Int×Int=>[PV.int x.1,PV.int x.2]) (l:=xs) (i:=i) (a:=((pr xs i).1,v))).symm
    · rw [List.set_eq_of_length_le (by rw [ep];omega),List.set_eq_of_length_le (by omega)]
  · intro xs a b;exact (List.map_append (f:=fun x:Int×Int=>[PV.int x.1,PV.int x.2]) (l₁:=xs) (l₂:=[(a,b)])).symm
end Go.Px
end
section
namespace Go.Px
set_option maxRecDepth 100000
theorem Tg (L:Rows):∀ i,opn L i≤i
 | 0=>Nat.le_refl _
 | i+1=>by
  have:=Tg L i
  show opn L i+cond _ 1 0≤_
  cases (evR L i).kind==2<;>simp only [cond_true,cond_false]<;>omega
def Gf (xs:List (Int×Int)) (v:Int):List (Int×Int):=cond (iLt 0 (xs.length:Int)) (xs.set (IntKind.i64.wrap ((xs.length:Int) - 1)).toNat ((pr xs (IntKind.i64.wrap ((xs.length:Int) - 1)).toNat).1,v)) xs
def B3 (L:Rows):Nat→List (Int×Int)
 | 0=>[]
 | i+1=>cond ((evR L i).kind==2) (Gf (B3 L i) (i:Int)++[((i:Int),(L.length:Int))]) (B3 L i)
theorem So (xs:List (Int×Int)) (v:Int):(Gf xs v).length=xs.length:=by
 unfold Gf
 cases iLt 0 (xs.length:Int)
 ·rfl
 ·exact List.length_set
theorem Ll (L:Rows):∀ i,(B3 L i).length=opn L i
 | 0=>rfl
 | i+1=>by
  have ih:=Ll L i
  show (cond ((evR L i).kind==2) _ (B3 L i)).length=opn L i+cond ((evR L i).kind==2) 1 0
  cases (evR L i).kind==2 with
  | false=>exact ih
  | true=>rw [cond_true,cond_true,List.length_append,So,ih];rfl
theorem jd {n:Nat} (h:0<n) (h2:n≤1048576):(IntKind.i64.wrap ((n:Int) - 1)).toNat=n - 1∧iIn (IntKind.i64.wrap ((n:Int) - 1)) (n:Int)=true:=by
 rw [BA (by omega) (by omega)]
 refine ⟨by omega,?_⟩
 simp only [iIn,decide_eq_true_eq]
 omega
theorem nO {N : Nat} {L : Rows} (hN : 2097152 < N) (hL : L.length ≤ 1048576) {F : (List AY → Option (List PV)) → List PV → Option (List PV)}
    (h0:∀ self,F self [.rows (Fy (B3 L L.length)),.int (L.length:Int)]=some [.rows (Fy (B3 L L.length))])
    (h1:∀ i self,i<L.length→(B3 L i).length≤1048575→F self [.rows (Fy (B3 L i)),.int (i:Int)]=self [.rows (Fy (B3 L (i+1))),.int (((i+1:Nat)):Int)]):Cv F N [.rows (Fy []),.int 0]=some [.rows (Fy (B3 L L.length))]:=by
  have:=Cb (F:=F) (len:=L.length) (fun i=>[.rows (Fy (B3 L i)),.int (i:Int)]) [.rows (Fy (B3 L L.length))] h0 (fun i self hi=>h1 i self hi (by rw [Ll];have:=Tg L i;omega)) N (by omega)
  exact this
theorem CO {i:Nat} (h:i≤1099511627776):IntKind.i64.wrap ((i:Int)+1)=((i+1:Nat):Int):=A6 h
theorem nM {L:Rows} {i:Nat} {xs:List (Int×Int)} (hk:((evR L i).kind==2)=true) (he:B3 L i=xs) (h:iLt 0 (xs.length:Int)=true):B3 L (i+1)=xs.set (IntKind.i64.wrap ((xs.length:Int) - 1)).toNat ((pr xs (IntKind.i64.wrap ((xs.length:Int) - 1)).toNat).1,(i:Int))++[((i:Int),(L.length:Int))]:=by
 show cond ((evR L i).kind==2) (Gf (B3 L i) (i:Int)++[((i:Int),(L.length:Int))]) (B3 L i)=_
 rw [hk,he]
 unfold Gf
 rw [h]
 rfl
theorem mX {L:Rows} {i:Nat} {xs:List (Int×Int)} (hk:((evR L i).kind==2)=true) (he:B3 L i=xs) (h:iLt 0 (xs.length:Int)=false):B3 L (i+1)=xs++[((i:Int),(L.length:Int))]:=by
 show cond ((evR L i).kind==2) (Gf (B3 L i) (i:Int)++[((i:Int),(L.length:Int))]) (B3 L i)=_
 rw [hk,he]
 unfold Gf
 rw [h]
 rfl
theorem iA {L:Rows} {i:Nat} (hk:((evR L i).kind==2)=false):B3 L (i+1)=B3 L i:=by
 show cond ((evR L i).kind==2) _ (B3 L i)=_
 rw [hk]
 rfl
set_option maxHeartbeats 1000000 in
theorem Jt {N:Nat} {L:Rows} (hN:2097152<N) (hL:L.length≤1048576):BR N [.rows L]=some [.rows (Fy (B3 L L.length))]:=by
 show Jg (std (Qn N) N) (xOf _)=_
 simp only [Jg,std,xOf,PXb]
 refine Ab (nO hN hL ?_ ?_) rfl
 ·intro self
  simp only [PXb,PXc,PXn,AH,BC]
 ·intro i self hi hlen
  have kk:(evR L i).kind=atI L i 0:=rfl
  simp only [PXb,PXc,PXn,AH,CO (show i≤1099511627776 by omega),Ay hi,AR hi,CT,PXp,← kk]
  cases hk:(evR L i).kind==2 with
  | false =>
   rw [iA hk]
   rfl
  | true =>
   simp only [PXb,Bool.not_true]
   generalize he:B3 L i=xs at hlen
   cases h0:iLt 0 (xs.length:Int) with
   | false =>
    have sm:iSm ((xs.length+1:Nat):Int) 16=true:=GE (by omega) (by omega)
    rw [mX hk he h0]
    simp only [PXb,PXc,PXn,AH,PXp,List.length_append,List.length_cons,List.length_nil,sm,Nat.reduceAdd]
   | true =>
    have h1:0<xs.length:=by simp only [iLt,decide_eq_true_eq] at h0;omega
    have sm:iSm ((xs.length+1:Nat):Int) 16=true:=GE (by omega) (by omega)
    rw [nM hk he h0]
    simp only [PXb,PXc,PXn,AH,PXp,List.length_append,List.length_cons,List.length_nil,List.length_set,sm,Nat.reduceAdd,(jd h1 (by omega)).2]
theorem aC (ans:Nat→Option (List PV)):∀ k i,BH ans (k+1) i=match BH ans k i with | some r=>some r | none=>ans (i+k)
 | 0,i=>by
  simp only [BH]
  cases ans i<;>rfl
 | k+1,i=>by
  have ih:=aC ans k (i+1)
  have e1:BH ans (k+1+1) i=match ans i with | some r=>some r | none=>BH ans (k+1) (i+1):=rfl
  have e2:BH ans (k+1) i=match ans i with | some r=>some r | none=>BH ans k (i+1):=rfl
  rw [e1,e2,ih,show i+(k+1)=i+1+k by omega]
  cases ans i<;>rfl
def cd (L:Rows) (i:Nat):Option (List PV):=cond ((evR L i).kind==1) (some [.int (Q6 (evR L i))]) none
theorem gl (L:Rows):∀ n,BH (cd L) n 0=(DT L n).map fun v=>[.int v]
 | 0=>rfl
 | n+1=>by
  rw [aC,gl L n,Nat.zero_add]
  show _=(match DT L n with | some v=>some v | none=>cond ((evR L n).kind==1) (some (Q6 (evR L n))) none).map fun v=>[PV.int v]
  cases DT L n with
  | some v=>rfl
  | none =>
   show cd L n=_
   unfold cd
   cases (evR L n).kind==1<;>rfl
def bA (L:Rows):Int:=(DT L L.length).getD 1
theorem oM {N : Nat} {L : Rows} (hN : 2097152 < N) (hL : L.length ≤ 1048576) {F : (List AY → Option (List PV)) → List PV → Option (List PV)} (h0 : ∀ self, F self [.int (L.length : Int)] = some [.int 1])
    (h1:∀ i self,i<L.length→F self [.int (i:Int)]=match cd L i with | some r=>some (.int 0::r) | none=>self [.int ((i:Int)+1)]):Cv F N [.int 0]=some (Pr ((DT L L.length).map fun v=>[.int v])):=by
  have:=Cf (F:=F) (len:=L.length) (cd L) h0 h1 L.length 0 N (by omega) (by omega)
  rw [gl] at this
  exact this
theorem qb (o:Option Int):cond (pvI (AA (Pr (o.map fun v=>[.int v])) 0)==((0:Nat):Int)) (some [PV.int (pvI (AA (Pr (o.map fun v=>[.int v])) 1))]) (some [PV.int 1])=some [.int (o.getD 1)]:=by
 cases o<;>rfl
theorem eJ {N:Nat} {L:Rows} (hN:2097152<N) (hL:L.length≤1048576):Ht N [.rows L]=some [.int (bA L)]:=by
 show Ks (std (R8 N) N) (xOf _)=_
 simp only [Ks,std,xOf,PXb]
 refine Ab (oM hN hL ?_ ?_) (qb _)
 ·intro self
  simp only [PXb,PXc,PXn,AH,BC]
 ·intro i self hi
  have kk:(evR L i).kind=atI L i 0:=rfl
  have ky:(evR L i).yes=atB L i 4:=rfl
  have ks:(evR L i).side=atI L i 1:=rfl
  simp only [PXb,PXc,PXn,AH,A6 (show i≤1099511627776 by omega),Ay hi,AR hi,CT,cD,cd,Q6,Bo,kk,ky,ks]
  cases atI L i 0==1<;>cases atB L i 4<;>rfl
def XC (f:Int) (en:Bool) (k:Nat):Int:=cond (en&&((k:Int)==2||(k:Int)==3)) (Bo (cond ((k:Int).tmod 2==1) (Bo f) f)) (cond ((k:Int).tmod 2==1) (Bo f) f)
def zs (g:Nat→Int) (n:Nat):List Int:=(List.range n).map g
theorem Td (g:Nat→Int) (n:Nat):(zs g n).length=n:=by unfold zs;rw [List.length_map,List.length_range]
theorem pR (g:Nat→Int) (n:Nat):GS (zs g n)++[[.int (g n)]]=GS (zs g (n+1)):=by
 unfold zs GS
 rw [List.range_succ,List.map_append,List.map_append]
 rfl
theorem kf (g:Nat→Int) {n k:Nat} (h:k<n):atI (GS (zs g n)) k 0=g k:=by
 rw [sZ,List.getD_eq_getElem?_getD]
 unfold zs
 rw [List.getElem?_map,List.getElem?_range h]
 rfl
theorem oh {N : Nat} {L : Rows} (hN : 2097152 < N) (hL : L.length ≤ 1048576) {F : (List AY → Option (List PV)) → List PV → Option (List PV)} (h0 : ∀ self, F self [.bool (D6 L L.length), .int (L.length : Int)] = some [.bool (D6 L L.length)])
    (h1:∀ i self,i<L.length→F self [.bool (D6 L i),.int (i:Int)]=self [.bool (D6 L (i+1)),.int (((i+1:Nat)):Int)]):Cv F N [.bool false,.int 0]=some [.bool (D6 L L.length)] :=
  Cb (F:=F) (len:=L.length) (fun i=>[.bool (D6 L i),.int (i:Int)]) [.bool (D6 L L.length)] h0 h1 N (by omega)
theorem qE {N n : Nat} {g : Nat → Int} (hN : 2097152 < N) (hL : n ≤ 1048576) {F : (List AY → Option (List PV)) → List PV → Option (List PV)} (h0 : ∀ self, F self [.rows (GS (zs g n)), .int (n : Int)] = some [.rows (GS (zs g n))])
    (h1:∀ i self,i<n→F self [.rows (GS (zs g i)),.int (i:Int)]=self [.rows (GS (zs g (i+1))),.int (((i+1:Nat)):Int)]):Cv F N [.rows [],.int 0]=some [.rows (GS (zs g n))] :=
  Cb (F:=F) (len:=n) (fun i=>[.rows (GS (zs g i)),.int (i:Int)]) [.rows (GS (zs g n))] h0 h1 N (by omega)
set_option maxHeartbeats 1000000 in
theorem dz {N:Nat} {L:Rows} (hN:2097152<N) (hL:L.length≤1048576):He N [.rows L]=some [.rows (GS (zs (XC (bA L) (D6 L L.length)) (opn L L.length)))]:=by
 show K5 (std (IR N) N) (xOf _)=_
 simp only [K5,PI,Ps,std,xOf,PXb,eJ hN hL]
 refine Ab (oh hN hL ?_ ?_) ?_
 ·intro self
  simp only [PXb,PXc,PXn,AH,BC]
 ·intro i self hi
  have kk:(evR L i).kind=atI L i 0:=rfl
  have ky:(evR L i).yes=atB L i 4:=rfl
  have e:D6 L (i+1)=(D6 L i||((evR L i).kind==12&&(evR L i).yes)):=rfl
  rw [e,kk,ky]
  simp only [PXb,PXc,PXn,AH,CO (show i≤1099511627776 by omega),Ay hi,AR hi,CT,cD]
 ·have ol:=Tg L L.length
  simp only [PXb,PXc,PXn,AH,Jt hN hL,PXp,Ll]
  generalize D6 L L.length=en
  generalize hn:opn L L.length=n at ol
  refine Ab (qE (n:=n) (g:=XC (bA L) en) hN (by omega) ?_ ?_) rfl
  ·intro self
   simp only [PXb,PXc,PXn,AH,BC]
  ·intro i self hi
   have sm:iSm ((i+1:Nat):Int) 8=true:=GE (by omega) (by omega)
   rw [← pR]
   unfold XC
   cases h1:(i:Int).tmod 2==1<;>cases h2:(en&&((i:Int)==2||(i:Int)==3)) <;>
    simp only [PXb,PXc,PXn,AH,CO (show i≤1099511627776 by omega),Ay hi,h1,h2,NM,Td,List.length_append,List.length_cons,List.length_nil,Nat.reduceAdd,sm,Bo]
end Go.Px
end
section
namespace Go.Px
set_option maxRecDepth 100000
theorem rY (xs:List (Int×Int)) (k:Nat) (s:Int×Int) (i:Nat) (hi:i<xs.length):pr (xs.set k s) i=(if k=i then s else pr xs i):=by
 rw [UG,UG,List.getElem?_set]
 by_cases h:k=i
 ·subst h
  rw [if_pos rfl,if_pos rfl,if_pos hi]
 ·rw [if_neg h,if_neg h]
theorem rA (xs:List (Int×Int)) (s:Int×Int) (i:Nat) (hi:i<xs.length+1):pr (xs++[s]) i=(if i<xs.length then pr xs i else s):=by
 rw [UG,UG]
 by_cases h:i<xs.length
 ·rw [if_pos h,List.getElem?_append_left h]
 ·have:i=xs.length:=by omega
  subst this
  rw [if_neg h,List.getElem?_append_right (Nat.le_refl _),Nat.sub_self]
  rfl
theorem RB {L:Rows} {i:Nat} (h:((evR L i).kind==2)=true):opn L (i+1)=opn L i+1:=by
 show opn L i+cond ((evR L i).kind==2) 1 0=_
 rw [h]
 rfl
theorem Y5 {L:Rows} {i:Nat} (h:((evR L i).kind==2)=false):opn L (i+1)=opn L i:=by
 show opn L i+cond ((evR L i).kind==2) 1 0=_
 rw [h]
 rfl
theorem aX {L : Rows} (hL : L.length ≤ 1048576) : ∀ i, i ≤ L.length → ∀ k, k < opn L i → ∃ a : Nat, (pr (B3 L i) k).1 = (a : Int) ∧ a < i ∧ opn L a = k ∧ ((evR L a).kind == 2) = true ∧
    ((k+1<opn L i∧∃ b:Nat,(pr (B3 L i) k).2=(b:Int)∧b<i∧opn L b=k+1∧((evR L b).kind==2)=true)∨(k+1=opn L i∧(pr (B3 L i) k).2=(L.length:Int)))
  | 0,_,k,hk=>absurd hk (Nat.not_lt_zero k)
  | i+1,hi,k,hk=>by
    have ih:=aX hL i (by omega)
    cases h2:(evR L i).kind==2 with
    | false =>
      rw [Y5 h2] at hk ⊢
      rw [iA h2]
      obtain ⟨a,h3,h4,h5,h6,h7⟩:=ih k hk
      refine ⟨a,h3,by omega,h5,h6,?_⟩
      rcases h7 with ⟨q,b,q1,q2,q3,q4⟩ | q
      · exact Or.inl ⟨q,b,q1,by omega,q3,q4⟩
      · exact Or.inr q
    | true =>
      rw [RB h2] at hk ⊢
      have sl:=Ll L i
      have hle:=Tg L i
      have ha:=fun (j:Nat) (hj:j<opn L i+1)=>rA (Gf (B3 L i) (i:Int)) ((i:Int),(L.length:Int)) j (by rw [So,sl];exact hj)
      have e:B3 L (i+1)=Gf (B3 L i) (i:Int)++[((i:Int),(L.length:Int))]:=by
        show cond ((evR L i).kind==2) _ _=_
        rw [h2]
        rfl
      rw [e,ha k hk,So,sl]
      by_cases hkn:k<opn L i
      · rw [if_pos hkn]
        obtain ⟨a,h3,h4,h5,h6,h7⟩:=ih k hkn
        have hp:0<opn L i:=by omega
        have ix:=(jd hp (by omega)).1
        have es:Gf (B3 L i) (i:Int)=(B3 L i).set (opn L i - 1) ((pr (B3 L i) (opn L i - 1)).1,(i:Int)):=by
          unfold Gf
          rw [sl,show iLt 0 (opn L i:Int)=true by simp only [iLt,decide_eq_true_eq];omega,ix]
          rfl
        rw [es,rY _ _ _ _ (by rw [sl];exact hkn)]
        by_cases hl:opn L i - 1=k
        · rw [if_pos hl,hl]
          exact ⟨a,h3,by omega,h5,h6,Or.inl ⟨by omega,i,rfl,by omega,by omega,h2⟩⟩
        · rw [if_neg hl]
          refine ⟨a,h3,by omega,h5,h6,Or.inl ⟨by omega,?_⟩⟩
          rcases h7 with ⟨q,b,q1,q2,q3,q4⟩ | q
          · exact ⟨b,q1,by omega,q3,q4⟩
          · omega
      · have hke:k=opn L i:=by omega
        rw [if_neg hkn]
        exact ⟨i,rfl,by omega,hke.symm,h2,Or.inr ⟨by omega,rfl⟩⟩
theorem nZ {L:Rows} {a b:Nat} (h:opn L a=opn L b) (ha:((evR L a).kind==2)=true) (hb:((evR L b).kind==2)=true):a=b:=by
 rcases Nat.lt_trichotomy a b with h1 | h1 | h1
 ·have:=F2 L (show a+1≤b by omega)
  have:=RB ha
  omega
 ·exact h1
 ·have:=F2 L (show b+1≤a by omega)
  have:=RB hb
  omega
def AK (L:Rows) (k:Nat):Nat:=if k<opn L L.length then (pr (B3 L L.length) k).1.toNat else L.length
structure Seg (L:Rows) (k:Nat):Prop where
 x0:(pr (B3 L L.length) k).1=(AK L k:Int)
 x1:(pr (B3 L L.length) k).2=(AK L (k+1):Int)
 lt:AK L k<AK L (k+1)
 le:AK L (k+1)≤L.length
 o0:opn L (AK L k)=k
 o1:opn L (AK L (k+1))=k+1
 mid:∀ j,AK L k≤j→j<AK L (k+1)→opn L (j+1)=k+1
theorem seg {L:Rows} (hL:L.length≤1048576) {k:Nat} (h:k<opn L L.length):Seg L k:=by
 obtain ⟨a,h1,h2,h3,h4,h5⟩:=aX hL L.length (Nat.le_refl _) k h
 have p0:AK L k=a:=by unfold AK;rw [if_pos h,h1];rfl
 have key:(pr (B3 L L.length) k).2=(AK L (k+1):Int)∧a<AK L (k+1)∧AK L (k+1)≤L.length∧opn L (AK L (k+1))=k+1:=by
  rcases h5 with ⟨q,b,q1,q2,q3,q4⟩ | ⟨q,q1⟩
  ·obtain ⟨a',g1,g2,g3,g4,_⟩:=aX hL L.length (Nat.le_refl _) (k+1) q
   have e:a'=b:=nZ (g3.trans q3.symm) g4 q4
   subst e
   have p1:AK L (k+1)=a':=by unfold AK;rw [if_pos q,g1];rfl
   rw [p1]
   refine ⟨q1,?_,by omega,q3⟩
   rcases Nat.lt_or_ge a a' with hl | hl
   ·exact hl
   ·have:=F2 L hl
    omega
  ·have p1:AK L (k+1)=L.length:=by unfold AK;rw [if_neg (by omega)]
   rw [p1]
   exact ⟨q1,h2,Nat.le_refl _,q.symm⟩
 obtain ⟨k1,k2,k3,k4⟩:=key
 refine ⟨by rw [h1,p0],k1,by rw [p0];exact k2,k3,by rw [p0];exact h3,k4,fun j j1 j2=>?_⟩
 rw [p0] at j1
 have m1:=F2 L (show a+1≤j+1 by omega)
 have m2:=F2 L (show j+1≤AK L (k+1) by omega)
 rw [RB h4] at m1
 omega
theorem pK (L:Rows):AK L (opn L L.length)=L.length:=by unfold AK;rw [if_neg (Nat.lt_irrefl _)]
theorem qt (L:Rows) {a b:Nat} (i j:Nat) (h:i<b - a):AF ((L.take b).drop a) i j=AF L (a+i) j:=by
 unfold AF AB
 rw [List.getD_eq_getElem?_getD,List.getD_eq_getElem?_getD,List.getElem?_drop,List.getElem?_take,if_pos (by omega)]
theorem mZ (L:Rows) {a b:Nat} (i:Nat) (h:i<b - a):evR ((L.take b).drop a) i=evR L (a+i):=by
 unfold evR atI atB
 simp only [qt L i _ h]
theorem jy {L:Rows} {a b:Nat} (h:b≤L.length):((L.take b).drop a).length=b - a:=by
 rw [List.length_drop,List.length_take]
 omega
def Sq (e:Ev):Bool:=cond (e.kind==4) (!(e.ball.how==0)) (cond (e.kind==5) e.yes (cond (e.kind==6) (!e.yes) false))
theorem mp (e:Ev):HX e=cond (Sq e) 1 0:=by
 unfold HX Sq B4
 cases h4:e.kind==4
 ·cases h5:e.kind==5
  ·cases h6:e.kind==6<;>cases e.yes<;>rfl
  ·rw [beq_iff_eq.1 h5];cases e.yes<;>rfl
 ·cases e.ball.how==0<;>rfl
theorem ib {N:Nat} {e0 e1 e2 e3 e5 e6 e7 e8 e9 e10 e11 e13 e14 e15 e16 e18:Int} {e4 e12 e17:Bool}  : KI N [.int e0,.int e1,.int e2,.int e3,.bool e4,.int e5,.int e6,.int e7,.int e8,.int e9,.int e10,.int e11,.bool e12,.int e13,.int e14,.int e15,.int e16,.bool e17,.int e18]=some [.bool (Sq (⟨e0,e1,e2,e3,e4,e5,e6,⟨e7,e8,e9,e10,e11,e12,e13,e14,e15,e16,e17,e18⟩⟩:Ev))]:=by
 show N7 (std (U1 N) N) (xOf _)=_
 simp only [N7,std,xOf,PXb,PXc,PXn,PXm,Nat.reduceAdd,Int.reduceBEq]
 unfold Sq
 simp only
 cases e0==4<;>cases e0==5<;>cases e0==6<;>rfl
def kS:Option Nat→Int
 | some j=>(j:Int)
 | none => -1
theorem cw (sd:Nat→Int) (s:Int) (k:Nat):∀ c,c≤k+1→BH (fun i=>cond (sd (k - i)==s) (some [.int ((k - i:Nat):Int)]) none) c (k+1 - c)=(Bh sd s c).map fun j:Nat=>[PV.int (j:Int)]
 | 0,_=>rfl
 | c+1,h=>by
  have ih:=cw sd s k c (by omega)
  have e1:k - (k+1 - (c+1))=c:=by omega
  have e2:k+1 - (c+1)+1=k+1 - c:=by omega
  simp only [BH,Bh,e1,e2,ih]
  cases sd c==s<;>rfl
theorem gz (sd:Nat→Int) (s:Int):∀ c i,BH (fun i=>cond (sd i==s) (some [.int (i:Int)]) none) c i=(SY sd s c i).map fun j:Nat=>[PV.int (j:Int)]
 | 0,_=>rfl
 | c+1,i=>by
  simp only [BH,SY,gz sd s c (i+1)]
  cases sd i==s<;>rfl
theorem mC {N : Nat} {sd : Nat → Int} {n k : Nat} {s : Int} (hN : 2097152 < N) (hn : n ≤ 1048576) (hk : k < n) {F G : (List AY → Option (List PV)) → List PV → Option (List PV)}
    (f0:∀ self,F self [.int (-1)]=some [.int 1]) (f1:∀ (j:Nat) self,j<n→F self [.int (j:Int)]=cond (sd j==s) (some [.int 0,.int (j:Int)]) (self [.int ((j:Int) - 1)]))
    (g0:∀ self,G self [.int (n:Int)]=some [.int 1]) (g1:∀ (j:Nat) self,j<n→G self [.int (j:Int)]=cond (sd j==s) (some [.int 0,.int (j:Int)]) (self [.int ((j:Int)+1)])) :
    ((Cv F N [.int (k:Int)]).bind fun c=>cond (pvI (AA c 0)==((0:Nat):Int)) (some [PV.int (pvI (AA c 1))]) ((Cv G N [.int (IntKind.i64.wrap ((k:Int)+1))]).bind fun c=>cond (pvI (AA c 0)==((0:Nat):Int)) (some [PV.int (pvI (AA c 1))]) (some [PV.int (-1)])))=some [.int (kS (DH sd n k s))]:=by
  have a1:=Tz (F:=F) (len:=k+1) (fun i=>[.int ((k:Int) - (i:Int))]) (fun i=>cond (sd (k - i)==s) (some [.int ((k - i:Nat):Int)]) none)
    (fun self=>by
      show F self [.int ((k:Int) - ((k+1:Nat):Int))]=_
      rw [show (k:Int) - ((k+1:Nat):Int) = -1 by omega]
      exact f0 self)
    (fun i self hi=>by
      show F self [.int ((k:Int) - (i:Int))]=_
      rw [show (k:Int) - (i:Int)=((k - i:Nat):Int) by omega,f1 (k - i) self (by omega),show ((k - i:Nat):Int) - 1=(k:Int) - ((i+1:Nat):Int) by omega]
      cases sd (k - i)==s<;>rfl) (k+1) 0 N (by omega) (by omega)
  have fb:=cw sd s k (k+1) (Nat.le_refl _)
  rw [Nat.sub_self] at fb
  rw [fb] at a1
  have a1:Cv F N [.int ((k:Int) - ((0:Nat):Int))]=_:=a1
  rw [show (k:Int) - ((0:Nat):Int)=(k:Int) by omega] at a1
  rw [a1,A6 (show k≤1099511627776 by omega)]
  unfold DH
  cases Bh sd s (k+1) with
  | some j=>rfl
  | none =>
    have a2:=Cf (F:=G) (len:=n) (fun i=>cond (sd i==s) (some [.int (i:Int)]) none) g0 (fun i self hi=>by rw [g1 i self hi];cases sd i==s<;>rfl) (n - (k+1)) (k+1) N (by omega) (by omega)
    rw [gz] at a2
    rw [show ((k:Int)+1)=((k+1:Nat):Int) by omega,a2]
    cases SY sd s (n - (k+1)) (k+1)<;>rfl
theorem rG (n:Int):iLe 0 (-1)=false:=rfl
theorem mg (j:Nat):iLe 0 (j:Int)=true:=by simp only [iLe,decide_eq_true_eq];omega
theorem mz {j:Nat} (h:j≤1048576):IntKind.i64.wrap ((j:Int) - 1)=(j:Int) - 1:=BA (by omega) (by omega)
set_option maxHeartbeats 1000000 in
theorem jL {N:Nat} {sd:Nat→Int} {n k:Nat} {s:Int} (hN:2097152<N) (hn:n≤1048576) (hk:k<n):Hw N [.rows (GS (zs sd n)),.int (k:Int),.int s]=some [.int (kS (DH sd n k s))]:=by
 show N8 (std (U9 N) N) (xOf _)=_
 simp only [N8,std,xOf,PXb]
 refine mC hN hn hk ?_ ?_ ?_ ?_
 ·intro self
  simp only [PXb,PXc,PXn,AH,rG 0]
 ·intro j self hj
  simp only [PXb,PXc,PXn,AH,mg,NM,Td,AR hj,CT,kf _ hj,mz (show j≤1048576 by omega)]
 ·intro self
  simp only [PXb,PXc,PXn,AH,NM,Td,BC]
 ·intro j self hj
  simp only [PXb,PXc,PXn,AH,NM,Td,Ay hj,AR hj,CT,kf _ hj,A6 (show j≤1099511627776 by omega)]
theorem GG {L:Rows} {f:Ev→Int} {c:Int} (hf:∀ e,0≤f e∧f e≤c) (j:Nat):∀ i:Nat,0≤smi L f j i∧smi L f j i≤c * (i:Int)
 | 0=>by
  have:smi L f j 0=0:=rfl
  rw [this]
  omega
 | i+1=>by
  have ih:=GG (L:=L) hf j i
  have h1:=hf (evR L i)
  rw [CM,show c * ((i+1:Nat):Int)=c * (i:Int)+c by rw [show ((i+1:Nat):Int)=(i:Int)+1 by omega,Int.mul_add,Int.mul_one]]
  have h2:=hf (evR L i)
  generalize c * (i:Int)=z at ih ⊢
  cases Nat.beq (opn L (i+1)) (j+1)<;>simp only [cond_true,cond_false]<;>omega
theorem qn (L:Rows) (sd:Nat→Int) (n j:Nat):∀ i:Nat,0≤pnS L sd n j i∧pnS L sd n j i≤5 * (i:Int)
 | 0=>by
  have:pnS L sd n j 0=0:=rfl
  rw [this]
  omega
 | i+1=>by
  have ih:=qn L sd n j i
  rw [bg]
  cases ((evR L i).kind==13&&isS (DH sd n (opn L (i+1) - 1) (evR L i).side) j)<;>simp only [cond_true,cond_false]<;>omega
structure Sml (x:Sco):Prop where
 runs:0≤x.runs∧x.runs≤1000000
 wk:0≤x.wickets∧x.wickets≤1000000
 balls:0≤x.balls∧x.balls≤1000000
 wides:0≤x.wides∧x.wides≤1000000
 no:0≤x.noballs∧x.noballs≤1000000
 bb:0≤x.byes∧x.byes≤1000000
 lb:0≤x.legbyes∧x.legbyes≤1000000
 pens:0≤x.pens∧x.pens≤1000000
theorem o6 {r:Rul} (h:RulOk r) (e:Ev):0≤cO r e∧cO r e≤62:=by
 have c:=Dv h e
 have h0:=c.ba
 have h1:=c.wi
 have h2:=c.no
 have h3:=c.bb
 have h4:=c.lb
 have h5:=c.tot
 unfold cO
 omega
theorem pT {r:Rul} (h:RulOk r) (L:Rows) (sd:Nat→Int) (n j:Nat) {i:Nat} (hi:i≤4000):Sml (BB r L sd n j i):=by
 have p:=qn L sd n j i
 have b1:=GG (L:=L) (o6 h) j i
 have b2:=GG (L:=L) mr j i
 have b3:=GG (L:=L) (f:=L9 r) (c:=1) (fun e=>by unfold L9;cases (Ah r e).counts<;>simp) j i
 have b4:=GG (L:=L) (f:=fun e=>(Ah r e).wides) (fun e=>(Dv h e).wi) j i
 have b5:=GG (L:=L) (f:=fun e=>(Ah r e).noballs) (fun e=>(Dv h e).no) j i
 have b6:=GG (L:=L) (f:=fun e=>(Ah r e).byes) (fun e=>(Dv h e).bb) j i
 have b7:=GG (L:=L) (f:=fun e=>(Ah r e).legbyes) (fun e=>(Dv h e).lb) j i
 unfold BB
 constructor<;>(simp only;omega)
end Go.Px
end
