/- Part 14. -/
import Derived.Test.YtmpgkalgfmnpjaaGreatPart13
set_option linter.unusedVariables false
set_option linter.unusedSimpArgs false
section
namespace Go.Px
set_option maxRecDepth 100000
def He (xs:List Int):Rows:=xs.map fun x=>[.int x]
theorem QO (xs:List Int):(He xs).length=xs.length:=List.length_map _
theorem ABD (xs:List Int) (i:Nat):Ap (He xs) i=(match xs[i]? with | some x=>[.int x] | none=>[]):=by
 unfold Ap He
 rw [List.getD_eq_getElem?_getD,List.getElem?_map]
 cases xs[i]?<;>rfl
theorem ABP (xs:List Int) (i:Nat):atI (He xs) i 0=xs.getD i 0:=by
 unfold atI AE
 rw [ABD,List.getD_eq_getElem?_getD]
 cases xs[i]?<;>rfl
structure SumSt (D:Rows) (n i:Nat) (s:List Int×List Int×Int):Prop where
 l1:s.1.length=n
 l2:s.2.1.length=n
 r:∀ k,k<n→s.1.getD k 0=wr (rS D k i)
 b:∀ k,k<n→s.2.1.getD k 0=wr (bS D k i)
 h:s.2.2=wr (hS D i)
end Go.Px
end
section
namespace Go.Px
set_option maxRecDepth 100000
structure Sco where
 side:Int
 runs:Int
 wickets:Int
 balls:Int
 wides:Int
 noballs:Int
 byes:Int
 legbyes:Int
 pens:Int
 ending:Int
theorem BL {n:Int} (h1 : -1000000000000≤n) (h2:n≤1000000000000):IntKind.i64.wrap n=n:=Ct (by omega) (by omega)
theorem tO {d:Del} (h:(DM d==0)=true):(0≤d.runs∧d.runs≤7)∧(0≤d.short∧d.short≤d.runs)∧(d.boundary=0∨d.boundary=4∨d.boundary=6):=by
 unfold DM at h
 cases h1:(iLt d.type 1||iLt 3 d.type||iLt 3 d.source||iLt 10 d.how || !btw d.sector 0 8) with
 | true=>rw [h1] at h;cases h
 | false =>
  cases h2:(!btw d.runs 0 7 || !btw d.short 0 d.runs||(!(d.boundary==0) && !(d.boundary==4) && !(d.boundary==6))) with
  | true=>rw [h1,h2] at h;cases h
  | false =>
   simp only [btw,iLe,Bool.or_eq_false_iff,Bool.not_eq_false',Bool.and_eq_true,Bool.and_eq_false_iff,decide_eq_true_eq,beq_iff_eq] at h2
   omega
structure CreOk (c:Cre):Prop where
 ba:0≤c.batter∧c.batter≤13
 wi:0≤c.wides∧c.wides≤18
 no:0≤c.noballs∧c.noballs≤5
 bb:0≤c.byes∧c.byes≤13
 lb:0≤c.legbyes∧c.legbyes≤13
 bo:c.bowler=c.batter+c.wides+c.noballs
 tot:DT c=c.batter+c.wides+c.noballs+c.byes+c.legbyes
theorem wh {b w o y l bo:Int} {x1 x2 x3 x4:Bool} (hb:0≤b∧b≤13) (hw:0≤w∧w≤18) (ho:0≤o∧o≤5) (hy:0≤y∧y≤13) (hl:0≤l∧l≤13) (hbo:bo=IntKind.i64.wrap (IntKind.i64.wrap (b+w)+o)):CreOk ⟨b,w,o,y,l,bo,x1,x2,x3,x4⟩:=by
 refine ⟨hb,hw,ho,hy,hl,?_,?_⟩
 ·show bo=b+w+o
  rw [hbo,BL (n:=b+w) (by omega) (by omega),BL (by omega) (by omega)]
 ·show IntKind.i64.wrap (IntKind.i64.wrap (IntKind.i64.wrap (IntKind.i64.wrap (b+w)+o)+y)+l)=b+w+o+y+l
  rw [BL (n:=b+w) (by omega) (by omega),BL (n:=b+w+o) (by omega) (by omega),BL (n:=b+w+o+y) (by omega) (by omega),BL (by omega) (by omega)]
def Jo:Cre:=⟨0,0,0,0,0,0,false,false,false,false⟩
theorem qo:CreOk Jo:=wh (by decide) (by decide) (by decide) (by decide) (by decide) rfl
theorem wa {r:Rul} (h:RulOk r) (d:Del):CreOk (AD r d):=by
 unfold AD
 cases hl:DM d==0 with
 | false=>exact qo
 | true =>
  obtain ⟨⟨a1,a2⟩,⟨a3,a4⟩,a5⟩:=tO hl
  have hw:=h.wide
  have hn:=h.noball
  have e1:IntKind.i64.wrap (IntKind.i64.wrap (d.runs - d.short)+d.boundary)=d.runs - d.short+d.boundary:=by
   rw [BL (n:=d.runs - d.short) (by omega) (by omega),BL (by omega) (by omega)]
  have n0:0≤d.runs - d.short+d.boundary∧d.runs - d.short+d.boundary≤13:=by omega
  simp only [Bool.not_true,cond_false,TX,e1]
  generalize d.runs - d.short+d.boundary=n at n0
  have e2:IntKind.i64.wrap (r.wide+n)=r.wide+n:=BL (by omega) (by omega)
  have c13:∀ b:Bool,0≤cond b n 0∧cond b n 0≤13:=fun b=>by cases b<;>simp<;>omega
  refine wh (c13 _) ?_ ?_ (c13 _) (c13 _) rfl
  ·rw [e2];cases d.type==2<;>simp<;>omega
  ·cases d.type==3<;>simp<;>omega
def Av (r:Rul) (e:Ev):Cre:=cond (e.kind==4) (AD r e.ball) Jo
theorem E7 {r:Rul} (h:RulOk r) (e:Ev):CreOk (Av r e):=by
 unfold Av
 cases e.kind==4
 ·exact qo
 ·exact wa h _
theorem AAy (e:Ev):0≤Qt e∧Qt e≤1:=by
 unfold Qt Du
 cases e.kind==4<;>cases e.ball.how==0<;>cases (e.kind==5&&e.yes||e.kind==6 && !e.yes)<;>decide
def Bk (q:Int) (s:Inn):Sco:=⟨s.side,s.runs,s.wickets,Ch q s.complete s.inover,s.wides,s.noballs,s.byes,s.legbyes,s.pens,0⟩
def QJ (r:Rul) (e:Ev) (x:Sco):Sco:=⟨x.side,x.runs+DT (Av r e),x.wickets+Qt e,x.balls+cond (Av r e).counts 1 0,x.wides+(Av r e).wides,x.noballs+(Av r e).noballs,x.byes+(Av r e).byes,x.legbyes+(Av r e).legbyes,x.pens,x.ending⟩
def NK (n:Int) (x:Sco):Sco:=⟨x.side,x.runs+n,x.wickets,x.balls,x.wides,x.noballs,x.byes,x.legbyes,x.pens+n,x.ending⟩
theorem DY (x:Sco):NK 0 x=x:=by
 obtain ⟨x0,x1,x2,x3,x4,x5,x6,x7,x8,x9⟩:=x
 simp only [NK,Int.add_zero]
theorem ia {r:Rul} {e:Ev} (x:Sco) (hk:(e.kind==4)=false):QJ r e x={ x with wickets:=x.wickets+Du e }:=by
 have c0:Av r e=Jo:=by unfold Av;rw [hk];rfl
 have o0:Qt e=Du e:=by unfold Qt;rw [hk];rfl
 have t0:DT Jo=0:=rfl
 unfold QJ
 rw [c0,o0,t0]
 simp only [Jo,cond_false,Int.add_zero]
theorem V5 {r:Rul} {e:Ev} (x:Sco) (hk:(e.kind==4)=false) (ho:Du e=0):QJ r e x=x:=by
 rw [ia x hk,ho,Int.add_zero]
theorem AAW {r:Rul} {s:Inn} (ok:InnOk r s):0≤s.wickets∧s.wickets≤11:=by
 have h:=ok.bat
 unfold Tv at h
 simp only [Bool.and_eq_true] at h
 have h1:=beq_iff_eq.1 h.2.2
 have h2:=rY (pIs s.batters 2) s.batters.length
 have h3:=(Dq ok.code).side
 have h4:=ok.lb
 unfold eT at h1
 omega
theorem ABF {c q:Int} (hc:0≤c∧c≤1000000000) (hq:0≤q∧q≤8):0≤c * q∧c * q≤8000000000:=by
 refine ⟨Int.mul_nonneg hc.1 hq.1,?_⟩
 have h1:=Int.mul_le_mul_of_nonneg_right hc.2 hq.1
 have h2:=Int.mul_le_mul_of_nonneg_left hq.2 (show (0:Int)≤1000000000 by omega)
 omega
theorem yf {r:Rul} {s:Inn} (ok:InnOk r s):Ch r.balls s.complete s.inover=s.complete * r.balls+s.inover∧0≤Ch r.balls s.complete s.inover∧Ch r.balls s.complete s.inover≤9000000000:=by
 have h1:=(Dq ok.code).balls
 have h2:=ok.io
 have h3:=ABF ok.complete (show 0≤r.balls∧r.balls≤8 by omega)
 rw [VD]
 have:wr (s.complete * r.balls+s.inover)=s.complete * r.balls+s.inover:=BL (by omega) (by omega)
 rw [this]
 omega
theorem AA7 {x a d:Int} (h:wr (x - a)=d) (hx:wr x=x) (ha:0≤a∧a≤9000000000) (hd:0≤d∧d≤1000):x=a+d:=by
 simp only [wr,QY] at h hx
 omega
theorem AAO (q:Int) (r:Rul) (t:Inn) (b:Bool):Bk q (Bq r t b)=Bk q t:=rfl
theorem yG {r:Rul} {s:Inn} {e:Ev} (hk:(e.kind==4)=true) (h:((Aq r s e).2==0)=true):Bk r.balls (Aq r s e).1=QJ r e (Bk r.balls s):=by
 obtain ⟨g1,g2,g3,g4,g5,g6,g7,g8,g9,g10⟩:=wQ hk h
 obtain ⟨hv,he,hn,hw,hp,hs⟩:=lm h
 have ok:=Rv.1 hv
 have rk:=Dq ok.code
 have co:=wa rk e.ball
 have k4:=beq_iff_eq.1 hk
 have hpb:Bb r s e=Jr r s e.ball:=by unfold Bb;rw [k4];rfl
 rw [hpb] at hp hs
 obtain ⟨hr,hb⟩:=uN hp
 obtain ⟨q1,q2,q3,q4,q5,q6⟩:=nW hr
 have ce:Av r e=AD r e.ball:=by unfold Av;rw [hk];rfl
 have od:Qt e=cond (e.ball.how==0) 0 1:=by unfold Qt;rw [hk];rfl
 have hx:=yf ok
 have r0:=ok.runs
 have w0:=ok.wides
 have n0:=ok.noballs
 have b0:=ok.byes
 have l0:=ok.legbyes
 have wk:=AAW ok
 unfold B1 at r0 w0 n0 b0 l0
 have f0:=co.ba
 have f1:=co.wi
 have f2:=co.no
 have f3:=co.bb
 have f4:=co.lb
 have f5:=co.tot
 rw [hs,hb] at g1 g7 g8 ⊢
 have e1:(Bq r (JY r s e.ball) (e.kind==4)).runs=IntKind.i64.wrap (s.runs+DT (AD r e.ball)):=rfl
 have e2:(Bq r (JY r s e.ball) (e.kind==4)).wides=IntKind.i64.wrap (s.wides+(AD r e.ball).wides):=rfl
 have e3:(Bq r (JY r s e.ball) (e.kind==4)).noballs=IntKind.i64.wrap (s.noballs+(AD r e.ball).noballs):=rfl
 have e4:(Bq r (JY r s e.ball) (e.kind==4)).byes=IntKind.i64.wrap (s.byes+(AD r e.ball).byes):=rfl
 have e5:(Bq r (JY r s e.ball) (e.kind==4)).legbyes=IntKind.i64.wrap (s.legbyes+(AD r e.ball).legbyes):=rfl
 have e6:(Bq r (JY r s e.ball) (e.kind==4)).side=s.side∧(Bq r (JY r s e.ball) (e.kind==4)).pens=s.pens∧(Bq r (JY r s e.ball) (e.kind==4)).wickets=(Ab s e.ball).wickets:=by
  obtain ⟨w1,w2⟩:=ud r (Ab s e.ball) (AD r e.ball).counts
  obtain ⟨k1,k2,k3,k4,k5,k6,k7,k8,k9,k10⟩:=ip s e.ball
  have w3:(Aj r (Ab s e.ball) (AD r e.ball).counts).1.side=s.side:=by
   have s1:(Ab s e.ball).side=s.side:=by
    unfold Ab
    cases (!(e.ball.runs.tmod 2==0) != e.ball.crossed)<;>exact P_c (P:=fun x:Inn=>x.side=s.side) _ _ _ rfl (P_c (P:=fun x:Inn=>x.side=s.side) _ _ _ rfl rfl)
   unfold Aj
   exact P_c (P:=fun x:Inn×Bool=>x.1.side=s.side) _ _ _ s1 (P_c (P:=fun x:Inn×Bool=>x.1.side=s.side) _ _ _ s1 s1)
  refine ⟨?_,?_,?_⟩
  ·show (cond (Aj r (Ab s e.ball) (AD r e.ball).counts).2 (Fv (Aj r (Ab s e.ball) (AD r e.ball).counts).1) (Aj r (Ab s e.ball) (AD r e.ball).counts).1).side=_
   rw [← w3]
   cases (Aj r (Ab s e.ball) (AD r e.ball).counts).2<;>rfl
  ·show (cond (Aj r (Ab s e.ball) (AD r e.ball).counts).2 (Fv (Aj r (Ab s e.ball) (AD r e.ball).counts).1) (Aj r (Ab s e.ball) (AD r e.ball).counts).1).pens=_
   rw [← k6,← w2]
   cases (Aj r (Ab s e.ball) (AD r e.ball).counts).2<;>rfl
  ·show (cond (Aj r (Ab s e.ball) (AD r e.ball).counts).2 (Fv (Aj r (Ab s e.ball) (AD r e.ball).counts).1) (Aj r (Ab s e.ball) (AD r e.ball).counts).1).wickets=_
   rw [← w1]
   cases (Aj r (Ab s e.ball) (AD r e.ball).counts).2<;>rfl
 obtain ⟨z1,z2⟩:=rK q1 (ri hw (by rw [k4];rfl))
 have hout:=ue (d:=e.ball) z1 z2 (fun hd=>go q5 hd)
 have wv:IntKind.i64.wrap (Ch r.balls (Bq r (JY r s e.ball) (e.kind==4)).complete (Bq r (JY r s e.ball) (e.kind==4)).inover)=Ch r.balls (Bq r (JY r s e.ball) (e.kind==4)).complete (Bq r (JY r s e.ball) (e.kind==4)).inover:=H9 _
 have hb7:=AA7 g7 wv (by omega) (by cases (AD r e.ball).counts<;>simp)
 unfold Bk QJ
 rw [e1,e2,e3,e4,e5,e6.1,e6.2.1,e6.2.2,hb7,ce,od,hout]
 have i1:IntKind.i64.wrap (s.runs+DT (AD r e.ball))=s.runs+DT (AD r e.ball):=BL (by omega) (by omega)
 have i2:IntKind.i64.wrap (s.wides+(AD r e.ball).wides)=s.wides+(AD r e.ball).wides:=BL (by omega) (by omega)
 have i3:IntKind.i64.wrap (s.noballs+(AD r e.ball).noballs)=s.noballs+(AD r e.ball).noballs:=BL (by omega) (by omega)
 have i4:IntKind.i64.wrap (s.byes+(AD r e.ball).byes)=s.byes+(AD r e.ball).byes:=BL (by omega) (by omega)
 have i5:IntKind.i64.wrap (s.legbyes+(AD r e.ball).legbyes)=s.legbyes+(AD r e.ball).legbyes:=BL (by omega) (by omega)
 have i6:inc s.wickets=s.wickets+1:=BL (by omega) (by omega)
 rw [i1,i2,i3,i4,i5,i6]
 cases e.ball.how==0 with
 | false=>rfl
 | true=>simp only [cond_true,Int.add_zero]
def Kz (q:Int) (s:Inn) (x:Inn×Int):Prop:=(x.2==0)=true→Bk q x.1=Bk q s
theorem ED {q:Int} {s:Inn} (b:Bool) (x y:Inn×Int) (hx:Kz q s x) (hy:Kz q s y):Kz q s (cond b x y):=by cases b<;>assumption
theorem rX {r:Rul} {s:Inn} {e:Ev} (h:((Aq r s e).2==0)=true):Bk r.balls (Aq r s e).1=NK (cond (e.kind==13&&e.side==s.side) 5 0) (QJ r e (Bk r.balls s)):=by
 cases hk:e.kind==4 with
 | true =>
  rw [yG hk h,beq_iff_eq.1 hk]
  exact (DY _).symm
 | false =>
  obtain ⟨hv,he,hn,hw,hp,hs⟩:=lm h
  have ok:=Rv.1 hv
  have wk:=AAW ok
  have iw:IntKind.i64.wrap (s.wickets+1)=s.wickets+1:=BL (by omega) (by omega)
  rw [hs,AAO,ia _ hk]
  have z:∀ {x:Inn×Int},Kz r.balls s x→(x.2==0)=true→Du e=0→Bk r.balls x.1=NK (cond (false&&e.side==s.side) 5 0) { Bk r.balls s with wickets:=(Bk r.balls s).wickets+Du e }:=fun k hx h0=>by
   rw [k hx,h0,Int.add_zero]
   exact (DY _).symm
  have kn:∀ {t:Inn} {n:Int},(n==0)=false→Kz r.balls s (t,n):=fun hn hx=>by rw [hn] at hx;cases hx
  have ks:∀ {n:Int},Kz r.balls s (s,n):=fun _=>rfl
  revert hp
  unfold Bb
  rw [hk]
  cases h5:e.kind==5 with
  | true =>
   have h5':=beq_iff_eq.1 h5
   have ho:Du e=cond e.yes 1 0:=by unfold Du;rw [h5'];cases e.yes<;>rfl
   rw [ho,h5']
   cases e.yes with
   | false =>
    intro hp
    refine Eq.trans (b:=Bk r.balls s) ?_ ?_
    ·exact (show Kz r.balls s (J8 s e.player) by unfold J8;exact ED _ _ _ (fun _=>rfl) (fun _=>rfl)) hp
    ·simp only [cond_false,Int.add_zero];exact (DY _).symm
   | true =>
    intro hp
    change ((EU s e.player).2==0)=true at hp
    show Bk r.balls (EU s e.player).1=_
    unfold EU at hp ⊢
    cases hm:JT s e.player==0 with
    | false=>rw [hm] at hp;exact absurd (show (JT s e.player==0)=true from hp) (by rw [hm];decide)
    | true =>
     simp only [cond_true]
     unfold Bk NK
     simp only [iw,cond_true,Int.reduceBEq,Bool.false_and,cond_false,Int.add_zero]
  | false =>
   cases h6:e.kind==6 with
   | true =>
    have h6':=beq_iff_eq.1 h6
    have ho:Du e=cond e.yes 0 1:=by unfold Du;rw [h6'];cases e.yes<;>rfl
    rw [ho,h6']
    intro hp
    change ((Ft s e.player e.yes).2==0)=true at hp
    show Bk r.balls (Ft s e.player e.yes).1=_
    unfold Ft at hp ⊢
    cases hm1:(!inR e.player s.batters.length) with
    | true=>rw [hm1] at hp;cases hp
    | false =>
     cases hm2:(s.striker==0||s.other==0) with
     | true=>rw [hm1,hm2] at hp;cases hp
     | false =>
      cases hm3:(!(e.player==s.striker) && !(e.player==s.other)) with
      | true=>rw [hm1,hm2,hm3] at hp;cases hp
      | false =>
       cases hm4:(e.yes&&((Bz s.batters s.batters.length).length:Int)==0) with
       | true=>rw [hm1,hm2,hm3,hm4] at hp;cases hp
       | false =>
        simp only [cond_false]
        cases e.yes with
        | true=>unfold Bk NK;simp only [cond_true,Int.reduceBEq,Bool.false_and,cond_false,Int.add_zero]
        | false=>unfold Bk NK;simp only [iw,cond_false,Int.reduceBEq,Bool.false_and,Int.add_zero]
   | false =>
    have ho:Du e=0:=by unfold Du;rw [h5,h6];rfl
    cases h13:e.kind==13 with
    | true =>
     have k13:=beq_iff_eq.1 h13
     rw [k13,ho]
     intro hp
     change ((Gq s e.side e.runs).2==0)=true at hp
     show Bk r.balls (Gq s e.side e.runs).1=_
     have rn:=ok.runs
     have pn:=ok.pens
     unfold B1 at rn pn
     have i1:IntKind.i64.wrap (s.runs+5)=s.runs+5:=BL (by omega) (by omega)
     have i2:IntKind.i64.wrap (s.pens+5)=s.pens+5:=BL (by omega) (by omega)
     unfold Gq at hp ⊢
     cases hr5:e.runs==5 with
     | false=>rw [hr5] at hp;cases hp
     | true =>
      cases hsd:e.side==s.side with
      | true =>
       simp only [Bool.not_true,cond_false,cond_true]
       unfold Bk NK JQ
       simp only [i1,i2,Bool.and_self,cond_true,Int.reduceBEq,Bool.true_and,Int.add_zero]
      | false =>
       simp only [Bool.not_true,cond_false,Bool.and_false,Int.add_zero]
       exact (DY _).symm
    | false =>
     simp only [cond_false]
     intro hp
     refine z ?_ hp ho
     refine ED _ _ _ ?_ (ED _ _ _ ?_ (ED _ _ _ ?_ (ED _ _ _ ?_ (ED _ _ _ ?_ (ED _ _ _ ?_ (ED _ _ _ ?_ (ED _ _ _ ?_ ?_)))))))
     ·unfold Ra
      exact ED _ _ _ ks (ED _ _ _ ks (ED _ _ _ ks (fun _=>rfl)))
     ·unfold RC
      cases HZ r s e.player==0
      ·exact ks
      ·exact fun _=>rfl
     ·unfold Gk
      exact ED _ _ _ ks (fun _=>rfl)
     ·unfold JG
      exact ED _ _ _ ks (ED _ _ _ ks (ED _ _ _ ks (fun _=>rfl)))
     ·unfold Lt
      exact ED _ _ _ ks (ED _ _ _ ks (fun _=>rfl))
     ·unfold Gr
      exact ED _ _ _ ks (fun _=>rfl)
     ·unfold KA
      exact ED _ _ _ ks (ED _ _ _ ks (fun _=>rfl))
     ·unfold F4
      exact ED _ _ _ ks (ED _ _ _ (fun _=>rfl) ks)
     ·unfold JJ
      exact ED _ _ _ ks (ED _ _ _ ks (ED _ _ _ ks (fun _=>rfl)))
end Go.Px
end
section
namespace Go.Px
set_option maxRecDepth 100000
def sco (xs:List Sco) (i:Nat):Sco:=xs.getD i ⟨0,0,0,0,0,0,0,0,0,0⟩
theorem JC (xs:List Sco) (i:Nat):sco xs i=(match xs[i]? with | some s=>s | none=>⟨0,0,0,0,0,0,0,0,0,0⟩):=by
 unfold sco
 rw [List.getD_eq_getElem?_getD]
 cases xs[i]?<;>rfl
theorem mB (xs:List Sco) (k:Nat) (s:Sco) (i:Nat) (hi:i<xs.length):sco (xs.set k s) i=(if k=i then s else sco xs i):=by
 rw [JC,JC,List.getElem?_set]
 by_cases h:k=i
 ·subst h
  rw [if_pos rfl,if_pos rfl,if_pos hi]
 ·rw [if_neg h,if_neg h]
structure TS where
 xs:List Sco
 p1:Int
 p2:Int
 first:Int
 follow:Bool
def NW (m:Mat):TS:=⟨m.inns.map (Bk m.rules.balls),m.pen1,m.pen2,m.first,m.follow⟩
theorem X5 (q:Int) (xs:List Inn) {i:Nat} (h:i<xs.length):sco (xs.map (Bk q)) i=Bk q (inn xs i):=by
 rw [JC,PX,List.getElem?_map,List.getElem?_eq_getElem h]
 rfl
theorem yS (q:Int) (xs:List Inn) (i:Nat):(sco (xs.map (Bk q)) i).side=(inn xs i).side:=by
 rw [JC,PX,List.getElem?_map]
 cases xs[i]?<;>rfl
def zT (first:Int) (follow:Bool) (i:Int):Int:=cond (cond (follow&&iLe 2 i) (i==2) (i.tmod 2==1)) (BC first) first
theorem vY (m:Mat) (i:Int):CM m i=zT m.first m.follow i:=rfl
def wS (sd p:Int):Sco:=⟨sd,p,0,0,0,0,0,0,p,0⟩
def EV (sd:Nat→Int) (s:Int):Nat→Option Nat
 | 0=>none
 | k+1=>cond (sd k==s) (some k) (EV sd s k)
theorem j8 {f g:Nat→Int} {s:Int}:∀ n,(∀ k,k<n→f k=g k)→EV f s n=EV g s n
 | 0,_=>rfl
 | n+1,h=>by
  unfold EV
  rw [h n (Nat.lt_succ_self n),j8 n (fun k hk=>h k (by omega))]
theorem eK {f:Nat→Int} {s:Int} {j:Nat}:∀ n,EV f s n=some j→j<n∧f j=s
 | 0,h=>by cases h
 | n+1,h=>by
  unfold EV at h
  cases hq:f n==s with
  | true =>
   rw [hq] at h
   cases h
   exact ⟨Nat.lt_succ_self _,beq_iff_eq.1 hq⟩
  | false =>
   rw [hq] at h
   obtain ⟨h1,h2⟩:=eK n h
   exact ⟨by omega,h2⟩
theorem uM (xs:List Inn) (sd:Int):∀ n,MW xs sd n=EV (fun k=>(inn xs k).side) sd n
 | 0=>rfl
 | n+1=>by
  unfold MW EV
  rw [uM xs sd n]
def zQ (T:TS):TS :=
 let sd:=zT T.first T.follow (T.xs.length:Int)
 { T with xs:=T.xs++[wS sd (cond (sd==2) T.p2 T.p1)],p1:=cond (sd==1) 0 T.p1,p2:=cond (sd==2) 0 T.p2 }
def iL (s:Int) (T:TS):TS:=match EV (fun k=>(sco T.xs k).side) s T.xs.length with
 | some k=>{ T with xs:=T.xs.set k (NK 5 (sco T.xs k)) }
 | none=>{ T with p1:=cond (s==1) (T.p1+5) T.p1,p2:=cond (s==2) (T.p2+5) T.p2 }
def zR (r:Rul) (e:Ev) (T:TS):TS:={ T with xs:=T.xs.set (T.xs.length - 1) (QJ r e (sco T.xs (T.xs.length - 1))) }
def UD (e:Ev):Int:=cond e.yes e.side (BC e.side)
def ZA (r:Rul) (e:Ev) (T:TS):TS :=
 cond (e.kind==1) { T with first:=UD e } (cond (e.kind==2) (zQ T) (cond (e.kind==12) { T with follow:=e.yes } (cond (e.kind==16) T (cond (e.kind==13) (iL e.side T) (zR r e T)))))
theorem wx (x:Mat):NW (B5 x)=NW x∧(B5 x).inns=x.inns∧((B5 x).stage=x.stage∨(x.stage=3∧((B5 x).stage=5∨((B5 x).stage=4∧x.inns.length=2)∨(B5 x).stage=2))):=by
 unfold B5
 cases h3:(x.stage==3 && !((Ar x).ending==0)) with
 | false=>exact ⟨rfl,rfl,Or.inl rfl⟩
 | true =>
  rw [Bool.and_eq_true] at h3
  have s3:=beq_iff_eq.1 h3.1
  simp only [cond_true]
  unfold Nc
  dsimp only
  cases ((x.inns.length:Int)==IntKind.i64.wrap (2 * x.rules.innings)||((x.inns.length:Int)==3&&iLt (BB x (Ar x).side) (BB x (BC (Ar x).side)))) with
  | true=>exact ⟨rfl,rfl,Or.inr ⟨s3,Or.inl rfl⟩⟩
  | false =>
   cases h4:((x.inns.length:Int)==2&&iLt 0 x.rules.followon&&iLe x.rules.followon (IntKind.i64.wrap (BB x x.first - BB x (BC x.first)))) with
   | true =>
    simp only [Bool.and_eq_true,beq_iff_eq] at h4
    exact ⟨rfl,rfl,Or.inr ⟨s3,Or.inr (Or.inl ⟨rfl,by omega⟩)⟩⟩
   | false=>exact ⟨rfl,rfl,Or.inr ⟨s3,Or.inr (Or.inr rfl)⟩⟩
theorem lD {m:Mat} (h:CQ m=true):(0≤m.pen1∧m.pen1≤1000000)∧(0≤m.pen2∧m.pen2≤1000000)∧((m.stage==1)=true→m.first=0)∧((m.stage==4)=true→m.inns.length=2)∧0≤m.first∧m.first≤2:=by
 unfold CQ kF at h
 simp only [Bool.and_eq_true,Bool.not_eq_true'] at h
 obtain ⟨⟨h1,h2,h3,h4,h5,h6,h7,h8,h9,h10⟩,h11,h12⟩:=h
 unfold YS at h4
 simp only [Bool.or_eq_false_iff,iLt,decide_eq_false_iff_not] at h4
 simp only [Bool.or_eq_false_iff,iLt,decide_eq_false_iff_not] at h5
 refine ⟨by omega,by omega,fun hs=>?_,fun hs=>?_,by omega,by omega⟩
 ·rw [hs,Bool.true_and,Bool.not_eq_false',beq_iff_eq] at h7
  exact h7
 ·rw [hs,Bool.true_and,Bool.or_eq_false_iff,Bool.not_eq_false',Bool.not_eq_false',beq_iff_eq,beq_iff_eq] at h9
  omega
theorem wW {r:Rul} {a b c:Int} (h:((Ba r a b c).2==0)=true):Bk r.balls (Ba r a b c).1=wS a c∧(a=1∨a=2):=by
 unfold Ba at h ⊢
 cases h1:A1 r==0 with
 | false=>rw [h1] at h;exact absurd (show (A1 r==0)=true from h) (by rw [h1];decide)
 | true =>
  cases h2:(!btw a 1 2 || !btw b 0 1000000 || !btw c 0 1000000) with
  | true=>rw [h1,h2] at h;cases h
  | false =>
   rw [Bool.or_eq_false_iff,Bool.or_eq_false_iff,Bool.not_eq_false'] at h2
   have:=Xy.1 h2.1.1
   refine ⟨?_,by omega⟩
   show Sco.mk a c 0 (Ch r.balls 0 0) 0 0 0 0 c 0=_
   rw [VD,Int.zero_mul]
   rfl
theorem MN (q:Int) (xs:List Inn) (k:Nat) (t:Inn):(xs.set k t).map (Bk q)=(xs.map (Bk q)).set k (Bk q t):=List.map_set
theorem rl (xs:List Sco) (k:Nat) (h:k<xs.length):xs.set k (sco xs k)=xs:=by
 apply List.ext_getElem?
 intro i
 rw [List.getElem?_set]
 by_cases e:k=i
 ·subst e
  rw [if_pos rfl,if_pos h,JC,List.getElem?_eq_getElem h]
 ·rw [if_neg e]
theorem zp {r:Rul} {s:Inn} (hv:Ee r s=true) (q:Int):Bk q (JQ s)=NK 5 (Bk q s):=by
 have ok:=Rv.1 hv
 have rn:=ok.runs
 have pn:=ok.pens
 unfold B1 at rn pn
 have i1:IntKind.i64.wrap (s.runs+5)=s.runs+5:=BL (by omega) (by omega)
 have i2:IntKind.i64.wrap (s.pens+5)=s.pens+5:=BL (by omega) (by omega)
 unfold Bk NK JQ
 simp only [i1,i2]
structure Stg (m:Mat) (e:Ev) (t:Mat):Prop where
 k1:(e.kind==1)=true→m.stage=1∧t.stage=2
 k2:(e.kind==2)=true→m.stage=2∧m.inns.length≤3
 k12:(e.kind==12)=true→m.stage=4∧m.inns.length=2∧t.stage=2
 k16:(e.kind==16)=true→t.stage=5
 play:(e.kind==1)=false→(e.kind==2)=false→(e.kind==12)=false→(e.kind==16)=false→m.stage=3∧1≤m.inns.length
 not1:¬ t.stage=1
 four:t.stage=4→t.inns.length=2
set_option maxHeartbeats 4000000 in
theorem rh {m:Mat} {e:Ev} (h:((C5 m e).2==0)=true):NW (C5 m e).1=ZA m.rules e (NW m)∧Stg m e (C5 m e).1:=by
 obtain ⟨hv,he,h5,hp,hs⟩:=jR h
 have ok:=UT hv
 obtain ⟨v1,v2,v3,v4,v5,v6⟩:=lD hv
 obtain ⟨c1,c2,c3⟩:=wx (Gh m e).1
 rw [hs,c1]
 have len4:=ok.len
 unfold ZA
 unfold Gh at hp c2 c3 ⊢
 cases k1:e.kind==1 with
 | true =>
  have e1:=beq_iff_eq.1 k1
  rw [k1] at hp c2 c3
  cases s1:m.stage==1 with
  | false=>rw [s1] at hp;cases hp
  | true =>
   rw [s1] at c2 c3
   simp only [Bool.not_true,cond_false,cond_true] at c2 c3 ⊢
   refine ⟨rfl,?_⟩
   have st:(B5 { m with first:=cond e.yes e.side (BC e.side),stage:=2 }).stage=2:=by
    rcases c3 with c3 | c3
    ·exact c3
    ·exact absurd c3.1 (by decide)
   exact ⟨fun _=>⟨beq_iff_eq.1 s1,st⟩,fun k=>(by rw [e1] at k;cases k),fun k=>(by rw [e1] at k;cases k),fun k=>(by rw [e1] at k;cases k),fun k=>(by rw [e1] at k;cases k),by rw [st];decide,(by rw [st];intro k;cases k)⟩
 | false =>
  rw [k1] at hp c2 c3
  cases k2:e.kind==2 with
  | true =>
   have e2:=beq_iff_eq.1 k2
   rw [k2] at hp c2 c3
   cases s2:m.stage==2 with
   | false=>rw [s2] at hp;cases hp
   | true =>
    rw [s2] at hp c2 c3
    simp only [Bool.not_true,cond_false,cond_true] at hp c2 c3 ⊢
    have room:=ok.room s2
    have inn2:=(Dq ok.code).innings
    unfold WK at hp c2 c3 ⊢
    cases hb:(Ba m.rules (CM m (m.inns.length:Int)) (FA m (CM m (m.inns.length:Int))) (cond (CM m (m.inns.length:Int)==2) m.pen2 m.pen1)).2==0 with
    | false=>simp only [hb,Bool.not_false,cond_true] at hp;cases hp
    | true =>
     simp only [hb,Bool.not_true,cond_false] at hp c2 c3 ⊢
     cases ht:(Aq m.rules (Ba m.rules (CM m (m.inns.length:Int)) (FA m (CM m (m.inns.length:Int))) (cond (CM m (m.inns.length:Int)==2) m.pen2 m.pen1)).1 e).2==0 with
     | false=>simp only [ht,Bool.not_false,cond_true] at hp;exact absurd hp Bool.false_ne_true
     | true =>
      simp only [ht,Bool.not_true,cond_false] at c2 c3 ⊢
      have n1:=rX ht
      have o0:Du e=0:=by unfold Du;rw [e2];rfl
      rw [V5 _ (by rw [e2];rfl) o0,e2] at n1
      have n2:=n1.trans (DY _)
      rw [(wW hb).1] at n2
      refine ⟨?_,?_⟩
      ·unfold NW zQ
       rw [← vY] at *
       simp only [List.map_append,List.map_cons,List.map_nil,n2,List.length_map]
      ·refine ⟨fun k=>(by rw [k1] at k;cases k),fun _=>⟨beq_iff_eq.1 s2,by omega⟩,fun k=>(by rw [e2] at k;cases k),fun k=>(by rw [e2] at k;cases k),fun _ k=>(by rw [k2] at k;cases k),?_,?_⟩
       ·rcases c3 with c3 | ⟨_,c3 | c3 | c3⟩
        ·rw [c3];decide
        ·rw [c3];decide
        ·rw [c3.1];decide
        ·rw [c3];decide
       ·intro k
        rw [c2]
        rcases c3 with c3 | ⟨_,c3 | c3 | c3⟩
        ·rw [c3] at k;cases k
        ·rw [c3] at k;cases k
        ·exact c3.2
        ·rw [c3] at k;cases k
  | false =>
   rw [k2] at hp c2 c3
   cases k12:e.kind==12 with
   | true =>
    have e12:=beq_iff_eq.1 k12
    rw [k12] at hp c2 c3
    cases s4:m.stage==4 with
    | false=>rw [s4] at hp;cases hp
    | true =>
     rw [s4] at hp c2 c3
     cases sf:e.side==m.first with
     | false=>rw [sf] at hp;cases hp
     | true =>
      rw [sf] at c2 c3
      simp only [Bool.not_true,cond_false,cond_true] at c2 c3 ⊢
      refine ⟨rfl,?_⟩
      have st:(B5 { m with follow:=e.yes,stage:=2 }).stage=2:=by
       rcases c3 with c3 | c3
       ·exact c3
       ·exact absurd c3.1 (by decide)
      exact ⟨fun k=>(by rw [k1] at k;cases k),fun k=>(by rw [k2] at k;cases k),fun _=>⟨beq_iff_eq.1 s4,v4 s4,st⟩,fun k=>(by rw [e12] at k;cases k),fun _ _ k=>(by rw [k12] at k;cases k),by rw [st];decide,(by rw [st];intro k;cases k)⟩
   | false =>
    rw [k12] at hp c2 c3
    cases k16:e.kind==16 with
    | true =>
     rw [k16] at hp c2 c3
     simp only [cond_false,cond_true] at c2 c3 ⊢
     have st:(B5 (ek m)).stage=5:=by
      rcases c3 with c3 | c3
      ·exact c3
      ·exact absurd c3.1 (by show ¬ ((5:Int)=3);decide)
     refine ⟨?_,⟨fun k=>(by rw [k1] at k;cases k),fun k=>(by rw [k2] at k;cases k),fun k=>(by rw [k12] at k;cases k),fun _=>st,fun _ _ _ k=>(by rw [k16] at k;cases k),by rw [st];decide,(by rw [st];intro k;cases k)⟩⟩
     unfold NW ek
     simp only
     cases s3:m.stage==3 with
     | false=>rfl
     | true =>
      have hl:=Ym (ok.begun s3) (by omega)
      simp only [cond_true,MN]
      rw [show Bk m.rules.balls { Ar m with ending:=5 }=sco (m.inns.map (Bk m.rules.balls)) (lnx m.inns) from (X5 _ _ hl).symm,rl _ _ (by rw [List.length_map];exact hl)]
    | false =>
     rw [k16] at hp c2 c3
     simp only [cond_false] at hp c2 c3 ⊢
     cases s3:m.stage==3 with
     | false=>rw [s3] at hp;exact absurd (show ((1:Int)==0)=true from hp) (by decide)
     | true =>
      rw [s3] at hp c2 c3
      simp only [Bool.not_true,cond_false] at hp c2 c3 ⊢
      have h0:=ok.begun s3
      have hl:=Ym h0 (by omega)
      have hlen:m.inns.length - 1=lnx m.inns:=by
       rw [beq_eq_false_iff_ne] at h0
       unfold lnx
       rw [Ct (by omega) (by omega)]
       omega
      have stg:(B5 (Er m e).1).inns.length=m.inns.length→((B5 (Er m e).1).stage=3∨((B5 (Er m e).1).stage=5∨((B5 (Er m e).1).stage=4∧m.inns.length=2)∨(B5 (Er m e).1).stage=2))→Stg m e (B5 (Er m e).1):=fun hn hq =>
       ⟨fun k=>(by rw [k1] at k;cases k),fun k=>(by rw [k2] at k;cases k),fun k=>(by rw [k12] at k;cases k),fun k=>(by rw [k16] at k;cases k),fun _ _ _ _=>⟨beq_iff_eq.1 s3,by omega⟩,by
        rcases hq with q | q | q | q
        ·rw [q];decide
        ·rw [q];decide
        ·rw [q.1];decide
        ·rw [q];decide,by
        intro k
        rw [hn]
        rcases hq with q | q | q | q
        ·rw [q] at k;cases k
        ·rw [q] at k;cases k
        ·exact q.2
        ·rw [q] at k;cases k⟩
      have xl:(m.inns.map (Bk m.rules.balls)).length=m.inns.length:=List.length_map _
      cases hq:(Aq m.rules (Ar m) e).2==0 with
      | false=>unfold Er at hp;simp only [hq,Bool.not_false,cond_true] at hp;exact absurd hp Bool.false_ne_true
      | true =>
       have n1:=rX hq
       have sd1:(Aq m.rules (Ar m) e).1.side=(Ar m).side:=congrArg Sco.side n1
       have s3':=beq_iff_eq.1 s3
       cases k13:e.kind==13 with
       | false =>
        rw [k13] at n1
        have n2:=n1.trans (DY _)
        have pm:Er m e=({ m with inns:=m.inns.set (lnx m.inns) (Aq m.rules (Ar m) e).1 },0):=by
         unfold Er
         simp only [hq,k13,Bool.not_true,Bool.false_and,cond_false]
        rw [pm] at c2 c3 stg ⊢
        refine ⟨?_,stg (by rw [c2];exact List.length_set) ?_⟩
        ·unfold NW zR
         simp only [cond_false,MN,n2,xl,hlen,X5 _ _ hl]
         rfl
        ·rcases c3 with c3 | ⟨_,c3 | c3 | c3⟩
         ·exact Or.inl (c3.trans s3')
         ·exact Or.inr (Or.inl c3)
         ·exact Or.inr (Or.inr (Or.inl ⟨c3.1,by have:=c3.2;change (m.inns.set _ _).length=2 at this;rw [List.length_set] at this;exact this⟩))
         ·exact Or.inr (Or.inr (Or.inr c3))
       | true =>
        have e13:=beq_iff_eq.1 k13
        have o0:Du e=0:=by unfold Du;rw [e13];rfl
        rw [V5 _ (by rw [e13];rfl) o0,k13,Bool.true_and] at n1
        have bk:EV (fun k=>(sco (m.inns.map (Bk m.rules.balls)) k).side) e.side m.inns.length=cond (e.side==(Ar m).side) (some (lnx m.inns)) (EV (fun k=>(inn m.inns k).side) e.side (lnx m.inns)):=by
         have:m.inns.length=lnx m.inns+1:=by omega
         rw [this]
         show cond ((sco (m.inns.map (Bk m.rules.balls)) (lnx m.inns)).side==e.side) _ (EV (fun k=>(sco (m.inns.map (Bk m.rules.balls)) k).side) e.side (lnx m.inns))=_
         simp only [yS]
         have sy:((inn m.inns (lnx m.inns)).side==e.side)=(e.side==(Ar m).side):=by
          show ((Ar m).side==e.side)=_
          rw [Bool.eq_iff_iff,beq_iff_eq,beq_iff_eq]
          exact eq_comm
         rw [sy]
        cases hsd:e.side==(Ar m).side with
        | true =>
         rw [hsd] at n1 bk
         simp only [cond_true] at n1 bk
         have pm:Er m e=({ m with inns:=m.inns.set (lnx m.inns) (Aq m.rules (Ar m) e).1 },0):=by
          unfold Er
          simp only [hq,k13,sd1,hsd,Bool.not_true,Bool.and_false,cond_false]
         rw [pm] at c2 c3 stg ⊢
         refine ⟨?_,stg (by rw [c2];exact List.length_set) ?_⟩
         ·unfold NW iL
          simp only [cond_true,MN,n1,xl,bk,X5 _ _ hl]
          rfl
         ·rcases c3 with c3 | ⟨_,c3 | c3 | c3⟩
          ·exact Or.inl (c3.trans s3')
          ·exact Or.inr (Or.inl c3)
          ·exact Or.inr (Or.inr (Or.inl ⟨c3.1,by have:=c3.2;change (m.inns.set _ _).length=2 at this;rw [List.length_set] at this;exact this⟩))
          ·exact Or.inr (Or.inr (Or.inr c3))
        | false =>
         rw [hsd] at n1 bk
         simp only [cond_false] at n1 bk
         have n2:=n1.trans (DY _)
         have pm:Er m e=(Hn { m with inns:=m.inns.set (lnx m.inns) (Aq m.rules (Ar m) e).1 } e.side,0):=by
          unfold Er
          simp only [hq,k13,sd1,hsd,Bool.not_true,Bool.not_false,Bool.and_true,cond_true,cond_false]
         have ab:MW (m.inns.set (lnx m.inns) (Aq m.rules (Ar m) e).1) e.side (m.inns.set (lnx m.inns) (Aq m.rules (Ar m) e).1).length=EV (fun k=>(inn m.inns k).side) e.side (lnx m.inns):=by
          rw [uM,List.length_set,show m.inns.length=lnx m.inns+1 by omega]
          show cond ((inn (m.inns.set (lnx m.inns) (Aq m.rules (Ar m) e).1) (lnx m.inns)).side==e.side) (some (lnx m.inns)) (EV (fun k=>(inn (m.inns.set (lnx m.inns) (Aq m.rules (Ar m) e).1) k).side) e.side (lnx m.inns))=EV (fun k=>(inn m.inns k).side) e.side (lnx m.inns)
          rw [ew _ _ _ _ hl,if_pos rfl,sd1]
          have sy:((Ar m).side==e.side)=false:=by
           rw [← hsd,Bool.eq_iff_iff,beq_iff_eq,beq_iff_eq]
           exact eq_comm
          rw [sy]
          exact j8 _ (fun k hk=>by rw [ew _ _ _ _ (by omega),if_neg (by omega)])
         have mx:(m.inns.set (lnx m.inns) (Aq m.rules (Ar m) e).1).map (Bk m.rules.balls)=m.inns.map (Bk m.rules.balls):=by
          rw [MN,n2,show Bk m.rules.balls (Ar m)=sco (m.inns.map (Bk m.rules.balls)) (lnx m.inns) from (X5 _ _ hl).symm]
          exact rl _ _ (by rw [xl];exact hl)
         obtain ⟨a1,a2,a3,a4⟩:=qF (m:={ m with inns:=m.inns.set (lnx m.inns) (Aq m.rules (Ar m) e).1 }) e.side (Qp (lnx m.inns) (nT ok) (by
          have lv:=Pp (ok.innv (lnx m.inns) hl).1
          have l1:=lv.1
          have l2:=lv.2.1
          exact KE (SO m.rules (Ar m) e) lv.2.2 (show (inn m.inns (lnx m.inns)).before.length+(inn m.inns (lnx m.inns)).bowlers.length≤1048575 by omega)))
         have a3':(Hn { m with inns:=m.inns.set (lnx m.inns) (Aq m.rules (Ar m) e).1 } e.side).inns.length=m.inns.length:=a3.trans List.length_set
         rw [pm] at c2 c3 stg ⊢
         refine ⟨?_,stg (by rw [c2];exact a3') ?_⟩
         ·simp only [cond_true]
          unfold Hn
          simp only [ab]
          unfold iL
          show NW _=match EV (fun k=>(sco (m.inns.map (Bk m.rules.balls)) k).side) e.side (m.inns.map (Bk m.rules.balls)).length with
           | some k=>_
           | none=>_
          rw [xl,bk]
          cases hk:EV (fun k=>(inn m.inns k).side) e.side (lnx m.inns) with
          | none =>
           have i1:IntKind.i64.wrap (m.pen1+5)=m.pen1+5:=BL (by omega) (by omega)
           have i2:IntKind.i64.wrap (m.pen2+5)=m.pen2+5:=BL (by omega) (by omega)
           unfold NW
           simp only [mx,i1,i2]
          | some k =>
           have hk2:=(eK _ hk).1
           have hki:inn (m.inns.set (lnx m.inns) (Aq m.rules (Ar m) e).1) k=inn m.inns k:=by rw [ew _ _ _ _ (by omega),if_neg (by omega)]
           unfold NW
           simp only [hki,MN (k:=k),mx,zp (ok.innv k (by omega)).1,X5 _ _ (show k<m.inns.length by omega)]
         ·rcases c3 with c3 | ⟨_,c3 | c3 | c3⟩
          ·exact Or.inl (c3.trans (a4.trans s3'))
          ·exact Or.inr (Or.inl c3)
          ·exact Or.inr (Or.inr (Or.inl ⟨c3.1,a3'.symm.trans c3.2⟩))
          ·exact Or.inr (Or.inr (Or.inr c3))
end Go.Px
end
section
namespace Go.Px
set_option maxRecDepth 100000
def opn (L:Rows):Nat→Nat
 | 0=>0
 | n+1=>opn L n+cond ((evR L n).kind==2) 1 0
theorem iC (L:Rows) (n:Nat):opn L n≤opn L (n+1):=by
 show opn L n≤opn L n+_
 exact Nat.le_add_right _ _
theorem Ko (L:Rows) {i:Nat}:∀ {j:Nat},i≤j→opn L i≤opn L j
 | 0,h=>by rw [Nat.le_zero.1 h];exact Nat.le_refl _
 | j+1,h=>by
  by_cases e:i=j+1
  ·rw [e];exact Nat.le_refl _
  ·exact Nat.le_trans (Ko L (by omega)) (iC L j)
def Ga (L:Rows):Nat→Option Int
 | 0=>none
 | n+1=>match Ga L n with
  | some v=>some v
  | none=>cond ((evR L n).kind==1) (some (UD (evR L n))) none
def IP (L:Rows):Nat→Bool
 | 0=>false
 | n+1=>IP L n||((evR L n).kind==12&&(evR L n).yes)
def had (L:Rows):Nat→Bool
 | 0=>false
 | n+1=>had L n||(evR L n).kind==12
theorem uh {L:Rows}:∀ n,had L n=false→IP L n=false
 | 0,_=>rfl
 | n+1,h=>by
  unfold had at h
  unfold IP
  rw [Bool.or_eq_false_iff] at h
  rw [uh n h.1,h.2]
  rfl
structure LogI (L:Rows) (i:Nat) (m:Mat):Prop where
 len:m.inns.length=opn L i
 fs:∀ v,Ga L i=some v→m.first=v∧¬ m.stage=1
 fn:Ga L i=none→m.first=0
 fol:m.follow=IP L i
 k12:had L i=true→(m.inns.length=2∧(m.stage=2∨m.stage=5))∨3≤m.inns.length
structure EvF (L:Rows) (i:Nat):Prop where
 two:((evR L i).kind==2)=true→opn L i≤3∧∃ v,Ga L i=some v∧(v=1∨v=2)
 twelve:((evR L i).kind==12)=true→opn L i=2
 play:((evR L i).kind==1)=false→((evR L i).kind==2)=false→((evR L i).kind==12)=false→((evR L i).kind==16)=false→1≤opn L i
theorem y9 (s:Int) (T:TS):(iL s T).xs.length=T.xs.length∧(iL s T).first=T.first∧(iL s T).follow=T.follow:=by
 unfold iL
 cases EV (fun k=>(sco T.xs k).side) s T.xs.length with
 | none=>exact ⟨rfl,rfl,rfl⟩
 | some k=>exact ⟨List.length_set,rfl,rfl⟩
theorem vw (r:Rul) (e:Ev) (T:TS):(ZA r e T).xs.length=T.xs.length+cond (e.kind==2) 1 0∧(ZA r e T).first=cond (e.kind==1) (UD e) T.first∧(ZA r e T).follow=cond (e.kind==12) e.yes T.follow:=by
 unfold ZA
 cases k1:e.kind==1 with
 | true =>
  rw [beq_iff_eq.1 k1]
  exact ⟨rfl,rfl,rfl⟩
 | false =>
  cases k2:e.kind==2 with
  | true =>
   rw [beq_iff_eq.1 k2]
   refine ⟨?_,rfl,rfl⟩
   show (T.xs++[_]).length=_
   rw [List.length_append]
   rfl
  | false =>
   cases k12:e.kind==12 with
   | true=>exact ⟨rfl,rfl,rfl⟩
   | false =>
    cases k16:e.kind==16 with
    | true=>exact ⟨rfl,rfl,rfl⟩
    | false =>
     cases k13:e.kind==13 with
     | true=>exact y9 e.side T
     | false=>exact ⟨List.length_set,rfl,rfl⟩
theorem yP {L:Rows} {i:Nat} {m:Mat} (h:LogI L i m) (ha:((C5 m (evR L i)).2==0)=true):LogI L (i+1) (C5 m (evR L i)).1∧EvF L i:=by
 obtain ⟨ab,sg⟩:=rh ha
 obtain ⟨hv,he,h5,hp,hs⟩:=jR ha
 have vp:=lD hv
 obtain ⟨t1,t2,t3⟩:=vw m.rules (evR L i) (NW m)
 rw [← ab] at t1 t2 t3
 have x1:∀ z:Mat,(NW z).xs.length=z.inns.length:=fun z=>List.length_map _
 rw [x1,x1] at t1
 change (C5 m (evR L i)).1.first=cond ((evR L i).kind==1) (UD (evR L i)) m.first at t2
 change (C5 m (evR L i)).1.follow=cond ((evR L i).kind==12) (evR L i).yes m.follow at t3
 have no12:((evR L i).kind==12)=true→had L i=false:=fun k=>by
  obtain ⟨s1,s2,s3⟩:=sg.k12 k
  cases hh:had L i with
  | false=>rfl
  | true=>rcases h.k12 hh with ⟨_,q | q⟩ | q<;>omega
 have no5:¬ m.stage=5:=beq_eq_false_iff_ne.1 h5
 refine ⟨⟨?_,?_,?_,?_,?_⟩,⟨?_,?_,?_⟩⟩
 ·rw [t1,h.len];rfl
 ·intro v hv2
  refine ⟨?_,sg.not1⟩
  rw [t2]
  unfold Ga at hv2
  cases hf:Ga L i with
  | some w =>
   rw [hf] at hv2
   cases hv2
   obtain ⟨f1,f2⟩:=h.fs _ hf
   cases k1:(evR L i).kind==1 with
   | true=>exact absurd (sg.k1 k1).1 f2
   | false=>exact f1
  | none =>
   rw [hf] at hv2
   cases k1:(evR L i).kind==1 with
   | true =>
    simp only [k1,cond_true] at hv2
    cases hv2
    rfl
   | false =>
    simp only [k1,cond_false] at hv2
    cases hv2
 ·intro hn
  rw [t2]
  unfold Ga at hn
  cases hf:Ga L i with
  | some w=>rw [hf] at hn;cases hn
  | none =>
   rw [hf] at hn
   cases k1:(evR L i).kind==1 with
   | true =>
    simp only [k1,cond_true] at hn
    cases hn
   | false=>exact h.fn hf
 ·rw [t3]
  unfold IP
  cases k12:(evR L i).kind==12 with
  | true=>rw [uh i (no12 k12)];rfl
  | false=>rw [h.fol,Bool.false_and,Bool.or_false];rfl
 ·intro hh
  rw [t1]
  unfold had at hh
  cases k12:(evR L i).kind==12 with
  | true =>
   obtain ⟨s1,s2,s3⟩:=sg.k12 k12
   rw [beq_iff_eq.1 k12]
   exact Or.inl ⟨s2,Or.inl s3⟩
  | false =>
   rw [k12,Bool.or_false] at hh
   rcases h.k12 hh with ⟨q1,q2⟩ | q
   ·cases k2:(evR L i).kind==2 with
    | true=>exact Or.inr (by simp only [cond_true];omega)
    | false =>
     refine Or.inl ⟨q1,?_⟩
     cases k16:(evR L i).kind==16 with
     | true=>exact Or.inr (sg.k16 k16)
     | false =>
      cases k1:(evR L i).kind==1 with
      | true=>have:=(sg.k1 k1).1;omega
      | false=>have:=(sg.play k1 k2 k12 k16).1;omega
   ·exact Or.inr (Nat.le_trans q (Nat.le_add_right _ _))
 ·intro k2
  obtain ⟨s1,s2⟩:=sg.k2 k2
  refine ⟨by rw [← h.len];exact s2,?_⟩
  have tk:=(UT hv).toss (by rw [s1];rfl)
  cases hf:Ga L i with
  | none=>have:=h.fn hf;omega
  | some w=>exact ⟨w,rfl,by rw [← (h.fs w hf).1];exact tk⟩
 ·intro k
  rw [← h.len]
  exact (sg.k12 k).2.1
 ·intro a b c d
  rw [← h.len]
  exact (sg.play a b c d).2
theorem AAP {r:Rul} (h:((Cd r).2==0)=true):(Cd r).1=⟨r,1,0,false,[],0,0,0,0,0⟩∧A1 r=0:=by
 unfold Cd at h ⊢
 cases hc:A1 r==0 with
 | false=>rw [hc] at h;exact absurd (show (A1 r==0)=true from h) (by rw [hc];decide)
 | true=>exact ⟨rfl,beq_iff_eq.1 hc⟩
theorem uf {r:Rul} {L:Rows} {n:Nat} (hc:((Cd r).2==0)=true) (ha:acc L n 0 (Cd r).1):∀ i,i≤n→LogI L i (stM L i 0 (Cd r).1)∧StepOk r (stM L i 0 (Cd r).1)∧∀ j,j<i→NW (stM L (j+1) 0 (Cd r).1)=ZA r (evR L j) (NW (stM L j 0 (Cd r).1))∧EvF L j
 | 0,_=>by
  refine ⟨?_,mS r hc,fun j hj=>absurd hj (Nat.not_lt_zero j)⟩
  show LogI L 0 (Cd r).1
  rw [(AAP hc).1]
  exact ⟨rfl,fun v h=>(by cases h),fun _=>rfl,rfl,fun h=>(by cases h)⟩
 | i+1,hi=>by
  obtain ⟨h1,h2,h3⟩:=uf hc ha i (by omega)
  have a0:=xx n 0 _ ha i (by omega)
  have s0:=qB (L:=L) i 0 (Cd r).1
  rw [Nat.zero_add] at a0 s0
  have q:=(xB a0).1
  rw [q] at s0 a0
  obtain ⟨l1,l2⟩:=yP h1 a0
  rw [s0]
  refine ⟨l1,by rw [← q];exact jH h2 _ _,fun j hj=>?_⟩
  by_cases e:j=i
  ·subst e
   rw [s0]
   refine ⟨?_,l2⟩
   rw [(rh a0).1,h2.rules]
  ·exact h3 j (by omega)
def smi (L:Rows) (f:Ev→Int) (j:Nat):Nat→Int
 | 0=>0
 | n+1=>smi L f j n+cond (Nat.beq (opn L (n+1)) (j+1)) (f (evR L n)) 0
theorem Qv (L:Rows) (f:Ev→Int) (j n:Nat):smi L f j (n+1)=smi L f j n+cond (Nat.beq (opn L (n+1)) (j+1)) (f (evR L n)) 0:=rfl
theorem jc {a b:Nat} (h:¬ a=b):Nat.beq a b=false:=by
 cases hq:Nat.beq a b with
 | false=>rfl
 | true=>exact absurd (Nat.eq_of_beq_eq_true hq) h
theorem ez (a:Nat):Nat.beq a a=true:=Nat.beq_refl a
theorem Yz {L:Rows} {f:Ev→Int} {j:Nat}:∀ n,opn L n≤j→smi L f j n=0
 | 0,_=>rfl
 | n+1,h=>by
  have:=iC L n
  unfold smi
  rw [Yz n (by omega),jc (by omega)]
  rfl
def jB (sd:Nat→Int) (s:Int):Nat→Nat→Option Nat
 | 0,_=>none
 | c+1,i=>cond (sd i==s) (some i) (jB sd s c (i+1))
theorem pe {sd:Nat→Int} {s:Int} {j:Nat}:∀ c i,jB sd s c i=some j→i≤j∧j<i+c∧sd j=s∧∀ k,i≤k→k<j→¬ sd k=s
 | 0,_,h=>by cases h
 | c+1,i,h=>by
  unfold jB at h
  cases hq:sd i==s with
  | true =>
   rw [hq] at h
   cases h
   exact ⟨Nat.le_refl _,by omega,beq_iff_eq.1 hq,fun k h1 h2=>by omega⟩
  | false =>
   rw [hq] at h
   obtain ⟨h1,h2,h3,h4⟩:=pe c (i+1) h
   refine ⟨by omega,by omega,h3,fun k k1 k2=>?_⟩
   by_cases e:k=i
   ·subst e;exact beq_eq_false_iff_ne.1 hq
   ·exact h4 k (by omega) k2
def Lg (sd:Nat→Int) (n k:Nat) (s:Int):Option Nat:=match EV sd s (k+1) with
 | some j=>some j
 | none=>jB sd s (n - (k+1)) (k+1)
theorem yu {sd:Nat→Int} {n k j:Nat} {s:Int} (h:Lg sd n k s=some j):sd j=s∧(j≤k∨(k<j∧j<n∧EV sd s (k+1)=none)):=by
 unfold Lg at h
 cases hb:EV sd s (k+1) with
 | some w =>
  rw [hb] at h
  cases h
  have:=eK _ hb
  exact ⟨this.2,Or.inl (by omega)⟩
 | none =>
  rw [hb] at h
  obtain ⟨h1,h2,h3,h4⟩:=pe _ _ h
  exact ⟨h3,Or.inr ⟨by omega,by omega,rfl⟩⟩
def isS (o:Option Nat) (j:Nat):Bool:=match o with
 | some k=>Nat.beq k j
 | none=>false
def pnS (L:Rows) (sd:Nat→Int) (n j:Nat):Nat→Int
 | 0=>0
 | i+1=>pnS L sd n j i+cond ((evR L i).kind==13&&isS (Lg sd n (opn L (i+1) - 1) (evR L i).side) j) 5 0
theorem ma (L:Rows) (sd:Nat→Int) (n j i:Nat):pnS L sd n j (i+1)=pnS L sd n j i+cond ((evR L i).kind==13&&isS (Lg sd n (opn L (i+1) - 1) (evR L i).side) j) 5 0:=rfl
def pcS (L:Rows) (s:Int):Nat→Int
 | 0=>0
 | i+1=>pcS L s i+cond ((evR L i).kind==13&&(evR L i).side==s) 5 0
def zZ (L:Rows) (sd:Nat→Int) (s:Int) (k i:Nat):Int:=match EV sd s k with
 | some _=>0
 | none=>pcS L s i
def lZ (r:Rul) (e:Ev):Int:=DT (Av r e)
def Ll (r:Rul) (e:Ev):Int:=cond (Av r e).counts 1 0
def Bc (r:Rul) (L:Rows) (sd:Nat→Int) (n j i:Nat):Sco:=⟨sd j,smi L (lZ r) j i+pnS L sd n j i,smi L Qt j i,smi L (Ll r) j i,smi L (fun e=>(Av r e).wides) j i,smi L (fun e=>(Av r e).noballs) j i,smi L (fun e=>(Av r e).byes) j i,smi L (fun e=>(Av r e).legbyes) j i,pnS L sd n j i,0⟩
theorem yl (r:Rul) (L:Rows) (sd:Nat→Int) (n j i:Nat):Bc r L sd n j (i+1)=NK (cond ((evR L i).kind==13&&isS (Lg sd n (opn L (i+1) - 1) (evR L i).side) j) 5 0) (cond (Nat.beq (opn L (i+1)) (j+1)) (QJ r (evR L i) (Bc r L sd n j i)) (Bc r L sd n j i)):=by
 unfold Bc
 simp only [Qv,ma]
 generalize (cond ((evR L i).kind==13&&isS (Lg sd n (opn L (i+1) - 1) (evR L i).side) j) 5 0:Int)=p
 cases Nat.beq (opn L (i+1)) (j+1) with
 | false =>
  unfold NK
  simp only [cond_false,Int.add_zero,Int.add_assoc]
 | true =>
  unfold NK QJ
  simp only [cond_true]
  rw [Sco.mk.injEq]
  refine ⟨rfl,?_,rfl,rfl,rfl,rfl,rfl,rfl,rfl,rfl⟩
  unfold lZ
  omega
structure Clo (r:Rul) (L:Rows) (sd:Nat→Int) (n i:Nat) (T:TS):Prop where
 len:T.xs.length=opn L i
 at':∀ j,j<opn L i→sco T.xs j=Bc r L sd n j i
 p1:T.p1=zZ L sd 1 (opn L i) i
 p2:T.p2=zZ L sd 2 (opn L i) i
end Go.Px
end
section
namespace Go.Px
set_option maxRecDepth 100000
def Sco.ls (s:Sco):List PV:=[.int s.side,.int s.runs,.int s.wickets,.int s.balls,.int s.wides,.int s.noballs,.int s.byes,.int s.legbyes,.int s.pens,.int s.ending]
def Au (xs:List Sco):Rows:=xs.map Sco.ls
def dS:Sco:=⟨0,0,0,0,0,0,0,0,0,0⟩
theorem ul (xs:List Sco) (i:Nat):Ap (Au xs) i=(match xs[i]? with | some s=>s.ls | none=>[]):=by
 unfold Ap Au
 rw [List.getD_eq_getElem?_getD,List.getElem?_map]
 cases xs[i]?<;>rfl
theorem rU (xs:List Sco):(Au xs).length=xs.length:=List.length_map _
theorem PXs : (∀ xs : List Sco, (Au xs).length = xs.length) ∧ (∀ (xs : List Sco) (i : Nat), pvI (AE (Au xs) i 0) = (sco xs i).side) ∧ (∀ (xs : List Sco) (i : Nat), pvI (AE (Au xs) i 1) = (sco xs i).runs) ∧ (∀ (xs : List Sco) (i : Nat), pvI (AE (Au xs) i 2) = (sco xs i).wickets) ∧ (∀ (xs : List Sco) (i : Nat), pvI (AE (Au xs) i 3) = (sco xs i).balls) ∧
    (∀ (xs:List Sco) (i:Nat),pvI (AE (Au xs) i 4)=(sco xs i).wides)∧(∀ (xs:List Sco) (i:Nat),pvI (AE (Au xs) i 5)=(sco xs i).noballs)∧(∀ (xs:List Sco) (i:Nat),pvI (AE (Au xs) i 6)=(sco xs i).byes)∧(∀ (xs:List Sco) (i:Nat),pvI (AE (Au xs) i 7)=(sco xs i).legbyes)∧(∀ (xs:List Sco) (i:Nat),pvI (AE (Au xs) i 8)=(sco xs i).pens)∧(∀ (xs:List Sco) (i:Nat),pvI (AE (Au xs) i 9)=(sco xs i).ending):=by
  refine ⟨rU,?_,?_,?_,?_,?_,?_,?_,?_,?_,?_⟩
  all_goals (intro xs i;rw [JC];unfold AE;rw [ul];cases xs[i]?<;>rfl)
theorem DE {xs:List Sco} {i j:Nat} {v:Int} (f:Sco→Sco) (h:∀ s:Sco,BA s.ls j [.int v]=(f s).ls):(Au xs).set i (BA (Ap (Au xs) i) j [.int v])=Au (xs.set i (f (sco xs i))):=by
 by_cases hi:i<xs.length
 ·have e:Ap (Au xs) i=(sco xs i).ls:=by rw [ul,JC,List.getElem?_eq_getElem hi]
  rw [e,h]
  exact List.map_set.symm
 ·rw [List.set_eq_of_length_le (by rw [rU];omega),List.set_eq_of_length_le (by omega)]
theorem PXt : (∀ (xs : List Sco) (i : Nat) (v : Int), (Au xs).set i (BA (Ap (Au xs) i) 0 [.int v]) = Au (xs.set i { sco xs i with side := v })) ∧ (∀ (xs : List Sco) (i : Nat) (v : Int), (Au xs).set i (BA (Ap (Au xs) i) 1 [.int v]) = Au (xs.set i { sco xs i with runs := v })) ∧
    (∀ (xs:List Sco) (i:Nat) (v:Int),(Au xs).set i (BA (Ap (Au xs) i) 2 [.int v])=Au (xs.set i { sco xs i with wickets:=v }))∧(∀ (xs:List Sco) (i:Nat) (v:Int),(Au xs).set i (BA (Ap (Au xs) i) 3 [.int v])=Au (xs.set i { sco xs i with balls:=v })) ∧
    (∀ (xs:List Sco) (i:Nat) (v:Int),(Au xs).set i (BA (Ap (Au xs) i) 4 [.int v])=Au (xs.set i { sco xs i with wides:=v }))∧(∀ (xs:List Sco) (i:Nat) (v:Int),(Au xs).set i (BA (Ap (Au xs) i) 5 [.int v])=Au (xs.set i { sco xs i with noballs:=v })) ∧
    (∀ (xs:List Sco) (i:Nat) (v:Int),(Au xs).set i (BA (Ap (Au xs) i) 6 [.int v])=Au (xs.set i { sco xs i with byes:=v }))∧(∀ (xs:List Sco) (i:Nat) (v:Int),(Au xs).set i (BA (Ap (Au xs) i) 7 [.int v])=Au (xs.set i { sco xs i with legbyes:=v })) ∧
    (∀ (xs:List Sco) (i:Nat) (v:Int),(Au xs).set i (BA (Ap (Au xs) i) 8 [.int v])=Au (xs.set i { sco xs i with pens:=v }))∧(∀ (xs:List Sco) (i:Nat) (v:Int),(Au xs).set i (BA (Ap (Au xs) i) 9 [.int v])=Au (xs.set i { sco xs i with ending:=v })) ∧
    (∀ (xs:List Sco) (a b c d e f g h i j:Int),Au xs++[([.int a,.int b,.int c,.int d,.int e,.int f,.int g,.int h,.int i,.int j]:List PV)]=Au (xs++[⟨a,b,c,d,e,f,g,h,i,j⟩])):=by
  exact ⟨fun xs i v=>DE (j:=0) (v:=v) (fun s=>{ s with side:=v }) (fun s=>rfl),fun xs i v=>DE (j:=1) (v:=v) (fun s=>{ s with runs:=v }) (fun s=>rfl),fun xs i v=>DE (j:=2) (v:=v) (fun s=>{ s with wickets:=v }) (fun s=>rfl),fun xs i v=>DE (j:=3) (v:=v) (fun s=>{ s with balls:=v }) (fun s=>rfl),fun xs i v=>DE (j:=4) (v:=v) (fun s=>{ s with wides:=v }) (fun s=>rfl),fun xs i v=>DE (j:=5) (v:=v) (fun s=>{ s with noballs:=v }) (fun s=>rfl),fun xs i v=>DE (j:=6) (v:=v) (fun s=>{ s with byes:=v }) (fun s=>rfl),fun xs i v=>DE (j:=7) (v:=v) (fun s=>{ s with legbyes:=v }) (fun s=>rfl),fun xs i v=>DE (j:=8) (v:=v) (fun s=>{ s with pens:=v }) (fun s=>rfl),fun xs i v=>DE (j:=9) (v:=v) (fun s=>{ s with ending:=v }) (fun s=>rfl),
    fun xs a b c d e f g h i j=>(List.map_append (f:=Sco.ls) (l₁:=xs) (l₂:=[⟨a,b,c,d,e,f,g,h,i,j⟩])).symm⟩
theorem z9 (n:Nat):List.replicate n ([.int 0,.int 0,.int 0,.int 0,.int 0,.int 0,.int 0,.int 0,.int 0,.int 0]:List PV)=Au (List.replicate n dS):=by
 unfold Au
 rw [List.map_replicate]
 rfl
def FR (xs:List (Int×Int)):Rows:=xs.map fun x=>[.int x.1,.int x.2]
def pr (xs:List (Int×Int)) (i:Nat):Int×Int:=xs.getD i (0,0)
theorem ZR (xs:List (Int×Int)) (i:Nat):pr xs i=(match xs[i]? with | some s=>s | none=>(0,0)):=by
 unfold pr
 rw [List.getD_eq_getElem?_getD]
 cases xs[i]?<;>rfl
theorem pu (xs:List (Int×Int)) (i:Nat):Ap (FR xs) i=(match xs[i]? with | some s=>[.int s.1,.int s.2] | none=>[]):=by
 unfold Ap FR
 rw [List.getD_eq_getElem?_getD,List.getElem?_map]
 cases xs[i]?<;>rfl
theorem qr (xs:List (Int×Int)):(FR xs).length=xs.length:=List.length_map _
theorem PXp : (∀ xs : List (Int × Int), (FR xs).length = xs.length) ∧ (∀ (xs : List (Int × Int)) (i : Nat), pvI (AE (FR xs) i 0) = (pr xs i).1) ∧ (∀ (xs : List (Int × Int)) (i : Nat), pvI (AE (FR xs) i 1) = (pr xs i).2) ∧
    (∀ (xs:List (Int×Int)) (i:Nat) (v:Int),(FR xs).set i (BA (Ap (FR xs) i) 1 [.int v])=FR (xs.set i ((pr xs i).1,v)))∧(∀ (xs:List (Int×Int)) (a b:Int),FR xs++[([.int a,.int b]:List PV)]=FR (xs++[(a,b)])):=by
  refine ⟨qr,?_,?_,?_,?_⟩
  · intro xs i;rw [ZR];unfold AE;rw [pu];cases xs[i]?<;>rfl
  · intro xs i;rw [ZR];unfold AE;rw [pu];cases xs[i]?<;>rfl
  · intro xs i v
    by_cases hi:i<xs.length
    · have e:Ap (FR xs) i=[.int (pr xs i).1,.int (pr xs i).2]:=by rw [pu,ZR,List.getElem?_eq_getElem hi]
      rw [e]
      exact (List.map_set (f:=fun x:Int×Int=>[PV.int x.1,PV.int x.2]) (l:=xs) (i:=i) (a:=((pr xs i).1,v))).symm
    · rw [List.set_eq_of_length_le (by rw [qr];omega),List.set_eq_of_length_le (by omega)]
  · intro xs a b;exact (List.map_append (f:=fun x:Int×Int=>[PV.int x.1,PV.int x.2]) (l₁:=xs) (l₂:=[(a,b)])).symm
end Go.Px
end
section
namespace Go.Px
set_option maxRecDepth 100000
theorem cc (L:Rows):∀ i,opn L i≤i
 | 0=>Nat.le_refl _
 | i+1=>by
  have:=cc L i
  show opn L i+cond _ 1 0≤_
  cases (evR L i).kind==2<;>simp only [cond_true,cond_false]<;>omega
def HD (xs:List (Int×Int)) (v:Int):List (Int×Int):=cond (iLt 0 (xs.length:Int)) (xs.set (IntKind.i64.wrap ((xs.length:Int) - 1)).toNat ((pr xs (IntKind.i64.wrap ((xs.length:Int) - 1)).toNat).1,v)) xs
def Bs (L:Rows):Nat→List (Int×Int)
 | 0=>[]
 | i+1=>cond ((evR L i).kind==2) (HD (Bs L i) (i:Int)++[((i:Int),(L.length:Int))]) (Bs L i)
theorem Wn (xs:List (Int×Int)) (v:Int):(HD xs v).length=xs.length:=by
 unfold HD
 cases iLt 0 (xs.length:Int)
 ·rfl
 ·exact List.length_set
theorem Nk (L:Rows):∀ i,(Bs L i).length=opn L i
 | 0=>rfl
 | i+1=>by
  have ih:=Nk L i
  show (cond ((evR L i).kind==2) _ (Bs L i)).length=opn L i+cond ((evR L i).kind==2) 1 0
  cases (evR L i).kind==2 with
  | false=>exact ih
  | true=>rw [cond_true,cond_true,List.length_append,Wn,ih];rfl
theorem mN {n:Nat} (h:0<n) (h2:n≤1048576):(IntKind.i64.wrap ((n:Int) - 1)).toNat=n - 1∧iIn (IntKind.i64.wrap ((n:Int) - 1)) (n:Int)=true:=by
 rw [Ct (by omega) (by omega)]
 refine ⟨by omega,?_⟩
 simp only [iIn,decide_eq_true_eq]
 omega
theorem rm {N : Nat} {L : Rows} (hN : 2097152 < N) (hL : L.length ≤ 1048576) {F : (List AY → Option (List PV)) → List PV → Option (List PV)}
    (h0:∀ self,F self [.rows (FR (Bs L L.length)),.int (L.length:Int)]=some [.rows (FR (Bs L L.length))])
    (h1:∀ i self,i<L.length→(Bs L i).length≤1048575→F self [.rows (FR (Bs L i)),.int (i:Int)]=self [.rows (FR (Bs L (i+1))),.int (((i+1:Nat)):Int)]):DL F N [.rows (FR []),.int 0]=some [.rows (FR (Bs L L.length))]:=by
  have:=B3 (F:=F) (len:=L.length) (fun i=>[.rows (FR (Bs L i)),.int (i:Int)]) [.rows (FR (Bs L L.length))] h0 (fun i self hi=>h1 i self hi (by rw [Nk];have:=cc L i;omega)) N (by omega)
  exact this
theorem IB {i:Nat} (h:i≤1099511627776):IntKind.i64.wrap ((i:Int)+1)=((i+1:Nat):Int):=AS h
theorem rQ {L:Rows} {i:Nat} {xs:List (Int×Int)} (hk:((evR L i).kind==2)=true) (he:Bs L i=xs) (h:iLt 0 (xs.length:Int)=true):Bs L (i+1)=xs.set (IntKind.i64.wrap ((xs.length:Int) - 1)).toNat ((pr xs (IntKind.i64.wrap ((xs.length:Int) - 1)).toNat).1,(i:Int))++[((i:Int),(L.length:Int))]:=by
 show cond ((evR L i).kind==2) (HD (Bs L i) (i:Int)++[((i:Int),(L.length:Int))]) (Bs L i)=_
 rw [hk,he]
 unfold HD
 rw [h]
 rfl
theorem nN {L:Rows} {i:Nat} {xs:List (Int×Int)} (hk:((evR L i).kind==2)=true) (he:Bs L i=xs) (h:iLt 0 (xs.length:Int)=false):Bs L (i+1)=xs++[((i:Int),(L.length:Int))]:=by
 show cond ((evR L i).kind==2) (HD (Bs L i) (i:Int)++[((i:Int),(L.length:Int))]) (Bs L i)=_
 rw [hk,he]
 unfold HD
 rw [h]
 rfl
theorem ic {L:Rows} {i:Nat} (hk:((evR L i).kind==2)=false):Bs L (i+1)=Bs L i:=by
 show cond ((evR L i).kind==2) _ (Bs L i)=_
 rw [hk]
 rfl
set_option maxHeartbeats 1000000 in
theorem LV {N:Nat} {L:Rows} (hN:2097152<N) (hL:L.length≤1048576):BG N [.rows L]=some [.rows (FR (Bs L L.length))]:=by
 show LS (std (UV N) N) (xOf _)=_
 simp only [LS,std,xOf,PXb]
 refine AM (rm hN hL ?_ ?_) rfl
 ·intro self
  simp only [PXb,PXc,PXn,AA,Ao]
 ·intro i self hi hlen
  have kk:(evR L i).kind=atI L i 0:=rfl
  simp only [PXb,PXc,PXn,AA,IB (show i≤1099511627776 by omega),Ah hi,AP hi,BD,PXp,← kk]
  cases hk:(evR L i).kind==2 with
  | false =>
   rw [ic hk]
   rfl
  | true =>
   simp only [PXb,Bool.not_true]
   generalize he:Bs L i=xs at hlen
   cases h0:iLt 0 (xs.length:Int) with
   | false =>
    have sm:iSm ((xs.length+1:Nat):Int) 16=true:=Dt (by omega) (by omega)
    rw [nN hk he h0]
    simp only [PXb,PXc,PXn,AA,PXp,List.length_append,List.length_cons,List.length_nil,sm,Nat.reduceAdd]
   | true =>
    have h1:0<xs.length:=by simp only [iLt,decide_eq_true_eq] at h0;omega
    have sm:iSm ((xs.length+1:Nat):Int) 16=true:=Dt (by omega) (by omega)
    rw [rQ hk he h0]
    simp only [PXb,PXc,PXn,AA,PXp,List.length_append,List.length_cons,List.length_nil,List.length_set,sm,Nat.reduceAdd,(mN h1 (by omega)).2]
set_option maxHeartbeats 1000000 in
theorem pg {N:Nat} {L:Rows} (hN:2097152<N) (hL:L.length≤1048576):Kv N [.rows L]=some [.rows (FR (Bs L L.length))]:=by
 show Pm (std (Xr N) N) (xOf _)=_
 simp only [Pm,std,xOf,PXb]
 refine AM (rm hN hL ?_ ?_) rfl
 ·intro self
  simp only [PXb,PXc,PXn,AA,Ao]
 ·intro i self hi hlen
  have kk:(evR L i).kind=atI L i 0:=rfl
  simp only [PXb,PXc,PXn,AA,IB (show i≤1099511627776 by omega),Ah hi,AP hi,BD,PXp,← kk]
  cases hk:(evR L i).kind==2 with
  | false =>
   rw [ic hk]
   rfl
  | true =>
   simp only [PXb,Bool.not_true]
   generalize he:Bs L i=xs at hlen
   cases h0:iLt 0 (xs.length:Int) with
   | false =>
    have sm:iSm ((xs.length+1:Nat):Int) 16=true:=Dt (by omega) (by omega)
    rw [nN hk he h0]
    simp only [PXb,PXc,PXn,AA,PXp,List.length_append,List.length_cons,List.length_nil,sm,Nat.reduceAdd]
   | true =>
    have h1:0<xs.length:=by simp only [iLt,decide_eq_true_eq] at h0;omega
    have sm:iSm ((xs.length+1:Nat):Int) 16=true:=Dt (by omega) (by omega)
    rw [rQ hk he h0]
    simp only [PXb,PXc,PXn,AA,PXp,List.length_append,List.length_cons,List.length_nil,List.length_set,sm,Nat.reduceAdd,(mN h1 (by omega)).2]
theorem j5 (ans:Nat→Option (List PV)):∀ k i,BI ans (k+1) i=match BI ans k i with | some r=>some r | none=>ans (i+k)
 | 0,i=>by
  simp only [BI]
  cases ans i<;>rfl
 | k+1,i=>by
  have ih:=j5 ans k (i+1)
  have e1:BI ans (k+1+1) i=match ans i with | some r=>some r | none=>BI ans (k+1) (i+1):=rfl
  have e2:BI ans (k+1) i=match ans i with | some r=>some r | none=>BI ans k (i+1):=rfl
  rw [e1,e2,ih,show i+(k+1)=i+1+k by omega]
  cases ans i<;>rfl
def mK (L:Rows) (i:Nat):Option (List PV):=cond ((evR L i).kind==1) (some [.int (UD (evR L i))]) none
theorem pZ (L:Rows):∀ n,BI (mK L) n 0=(Ga L n).map fun v=>[.int v]
 | 0=>rfl
 | n+1=>by
  rw [j5,pZ L n,Nat.zero_add]
  show _=(match Ga L n with | some v=>some v | none=>cond ((evR L n).kind==1) (some (UD (evR L n))) none).map fun v=>[PV.int v]
  cases Ga L n with
  | some v=>rfl
  | none =>
   show mK L n=_
   unfold mK
   cases (evR L n).kind==1<;>rfl
def lu (L:Rows):Int:=(Ga L L.length).getD 1
theorem yc {N : Nat} {L : Rows} (hN : 2097152 < N) (hL : L.length ≤ 1048576) {F : (List AY → Option (List PV)) → List PV → Option (List PV)} (h0 : ∀ self, F self [.int (L.length : Int)] = some [.int 1])
    (h1:∀ i self,i<L.length→F self [.int (i:Int)]=match mK L i with | some r=>some (.int 0::r) | none=>self [.int ((i:Int)+1)]):DL F N [.int 0]=some (NA ((Ga L L.length).map fun v=>[.int v])):=by
  have:=CH (F:=F) (len:=L.length) (mK L) h0 h1 L.length 0 N (by omega) (by omega)
  rw [pZ] at this
  exact this
theorem AAD (o:Option Int):cond (pvI (AL (NA (o.map fun v=>[.int v])) 0)==((0:Nat):Int)) (some [PV.int (pvI (AL (NA (o.map fun v=>[.int v])) 1))]) (some [PV.int 1])=some [.int (o.getD 1)]:=by
 cases o<;>rfl
theorem oG {N:Nat} {L:Rows} (hN:2097152<N) (hL:L.length≤1048576):Iy N [.rows L]=some [.int (lu L)]:=by
 show M5 (std (WA N) N) (xOf _)=_
 simp only [M5,std,xOf,PXb]
 refine AM (yc hN hL ?_ ?_) (AAD _)
 ·intro self
  simp only [PXb,PXc,PXn,AA,Ao]
 ·intro i self hi
  have kk:(evR L i).kind=atI L i 0:=rfl
  have ky:(evR L i).yes=atB L i 4:=rfl
  have ks:(evR L i).side=atI L i 1:=rfl
  simp only [PXb,PXc,PXn,AA,AS (show i≤1099511627776 by omega),Ah hi,AP hi,BD,fB,mK,UD,BC,kk,ky,ks]
  cases atI L i 0==1<;>cases atB L i 4<;>rfl
def eu (f:Int) (en:Bool) (k:Nat):Int:=cond (en&&((k:Int)==2||(k:Int)==3)) (BC (cond ((k:Int).tmod 2==1) (BC f) f)) (cond ((k:Int).tmod 2==1) (BC f) f)
def zs (g:Nat→Int) (n:Nat):List Int:=(List.range n).map g
theorem Xi (g:Nat→Int) (n:Nat):(zs g n).length=n:=by unfold zs;rw [List.length_map,List.length_range]
theorem AAT (g:Nat→Int) (n:Nat):He (zs g n)++[[.int (g n)]]=He (zs g (n+1)):=by
 unfold zs He
 rw [List.range_succ,List.map_append,List.map_append]
 rfl
theorem vB (g:Nat→Int) {n k:Nat} (h:k<n):atI (He (zs g n)) k 0=g k:=by
 rw [ABP,List.getD_eq_getElem?_getD]
 unfold zs
 rw [List.getElem?_map,List.getElem?_range h]
 rfl
theorem y3 {N : Nat} {L : Rows} (hN : 2097152 < N) (hL : L.length ≤ 1048576) {F : (List AY → Option (List PV)) → List PV → Option (List PV)} (h0 : ∀ self, F self [.bool (IP L L.length), .int (L.length : Int)] = some [.bool (IP L L.length)])
    (h1:∀ i self,i<L.length→F self [.bool (IP L i),.int (i:Int)]=self [.bool (IP L (i+1)),.int (((i+1:Nat)):Int)]):DL F N [.bool false,.int 0]=some [.bool (IP L L.length)] :=
  B3 (F:=F) (len:=L.length) (fun i=>[.bool (IP L i),.int (i:Int)]) [.bool (IP L L.length)] h0 h1 N (by omega)
theorem AAJ {N n : Nat} {g : Nat → Int} (hN : 2097152 < N) (hL : n ≤ 1048576) {F : (List AY → Option (List PV)) → List PV → Option (List PV)} (h0 : ∀ self, F self [.rows (He (zs g n)), .int (n : Int)] = some [.rows (He (zs g n))])
    (h1:∀ i self,i<n→F self [.rows (He (zs g i)),.int (i:Int)]=self [.rows (He (zs g (i+1))),.int (((i+1:Nat)):Int)]):DL F N [.rows [],.int 0]=some [.rows (He (zs g n))] :=
  B3 (F:=F) (len:=n) (fun i=>[.rows (He (zs g i)),.int (i:Int)]) [.rows (He (zs g n))] h0 h1 N (by omega)
set_option maxHeartbeats 1000000 in
theorem oj {N:Nat} {L:Rows} (hN:2097152<N) (hL:L.length≤1048576):I9 N [.rows L]=some [.rows (He (zs (eu (lu L) (IP L L.length)) (opn L L.length)))]:=by
 show Mt (std (Jt N) N) (xOf _)=_
 simp only [Mt,Sm,Tg,std,xOf,PXb,oG hN hL]
 refine AM (y3 hN hL ?_ ?_) ?_
 ·intro self
  simp only [PXb,PXc,PXn,AA,Ao]
 ·intro i self hi
  have kk:(evR L i).kind=atI L i 0:=rfl
  have ky:(evR L i).yes=atB L i 4:=rfl
  have e:IP L (i+1)=(IP L i||((evR L i).kind==12&&(evR L i).yes)):=rfl
  rw [e,kk,ky]
  simp only [PXb,PXc,PXn,AA,IB (show i≤1099511627776 by omega),Ah hi,AP hi,BD,fB]
 ·have ol:=cc L L.length
  simp only [PXb,PXc,PXn,AA,LV hN hL,PXp,Nk]
  generalize IP L L.length=en
  generalize hn:opn L L.length=n at ol
  refine AM (AAJ (n:=n) (g:=eu (lu L) en) hN (by omega) ?_ ?_) rfl
  ·intro self
   simp only [PXb,PXc,PXn,AA,Ao]
  ·intro i self hi
   have sm:iSm ((i+1:Nat):Int) 8=true:=Dt (by omega) (by omega)
   rw [← AAT]
   unfold eu
   cases h1:(i:Int).tmod 2==1<;>cases h2:(en&&((i:Int)==2||(i:Int)==3)) <;>
    simp only [PXb,PXc,PXn,AA,IB (show i≤1099511627776 by omega),Ah hi,h1,h2,QO,Xi,List.length_append,List.length_cons,List.length_nil,Nat.reduceAdd,sm,BC]
end Go.Px
end
section
namespace Go.Px
set_option maxRecDepth 100000
theorem AAh (xs:List (Int×Int)) (k:Nat) (s:Int×Int) (i:Nat) (hi:i<xs.length):pr (xs.set k s) i=(if k=i then s else pr xs i):=by
 rw [ZR,ZR,List.getElem?_set]
 by_cases h:k=i
 ·subst h
  rw [if_pos rfl,if_pos rfl,if_pos hi]
 ·rw [if_neg h,if_neg h]
theorem AAj (xs:List (Int×Int)) (s:Int×Int) (i:Nat) (hi:i<xs.length+1):pr (xs++[s]) i=(if i<xs.length then pr xs i else s):=by
 rw [ZR,ZR]
 by_cases h:i<xs.length
 ·rw [if_pos h,List.getElem?_append_left h]
 ·have:i=xs.length:=by omega
  subst this
  rw [if_neg h,List.getElem?_append_right (Nat.le_refl _),Nat.sub_self]
  rfl
theorem U1 {L:Rows} {i:Nat} (h:((evR L i).kind==2)=true):opn L (i+1)=opn L i+1:=by
 show opn L i+cond ((evR L i).kind==2) 1 0=_
 rw [h]
 rfl
theorem yB {L:Rows} {i:Nat} (h:((evR L i).kind==2)=false):opn L (i+1)=opn L i:=by
 show opn L i+cond ((evR L i).kind==2) 1 0=_
 rw [h]
 rfl
theorem jU {L : Rows} (hL : L.length ≤ 1048576) : ∀ i, i ≤ L.length → ∀ k, k < opn L i → ∃ a : Nat, (pr (Bs L i) k).1 = (a : Int) ∧ a < i ∧ opn L a = k ∧ ((evR L a).kind == 2) = true ∧
    ((k+1<opn L i∧∃ b:Nat,(pr (Bs L i) k).2=(b:Int)∧b<i∧opn L b=k+1∧((evR L b).kind==2)=true)∨(k+1=opn L i∧(pr (Bs L i) k).2=(L.length:Int)))
  | 0,_,k,hk=>absurd hk (Nat.not_lt_zero k)
  | i+1,hi,k,hk=>by
    have ih:=jU hL i (by omega)
    cases h2:(evR L i).kind==2 with
    | false =>
      rw [yB h2] at hk ⊢
      rw [ic h2]
      obtain ⟨a,h3,h4,h5,h6,h7⟩:=ih k hk
      refine ⟨a,h3,by omega,h5,h6,?_⟩
      rcases h7 with ⟨q,b,q1,q2,q3,q4⟩ | q
      · exact Or.inl ⟨q,b,q1,by omega,q3,q4⟩
      · exact Or.inr q
    | true =>
      rw [U1 h2] at hk ⊢
      have sl:=Nk L i
      have hle:=cc L i
      have ha:=fun (j:Nat) (hj:j<opn L i+1)=>AAj (HD (Bs L i) (i:Int)) ((i:Int),(L.length:Int)) j (by rw [Wn,sl];exact hj)
      have e:Bs L (i+1)=HD (Bs L i) (i:Int)++[((i:Int),(L.length:Int))]:=by
        show cond ((evR L i).kind==2) _ _=_
        rw [h2]
        rfl
      rw [e,ha k hk,Wn,sl]
      by_cases hkn:k<opn L i
      · rw [if_pos hkn]
        obtain ⟨a,h3,h4,h5,h6,h7⟩:=ih k hkn
        have hp:0<opn L i:=by omega
        have ix:=(mN hp (by omega)).1
        have es:HD (Bs L i) (i:Int)=(Bs L i).set (opn L i - 1) ((pr (Bs L i) (opn L i - 1)).1,(i:Int)):=by
          unfold HD
          rw [sl,show iLt 0 (opn L i:Int)=true by simp only [iLt,decide_eq_true_eq];omega,ix]
          rfl
        rw [es,AAh _ _ _ _ (by rw [sl];exact hkn)]
        by_cases hl:opn L i - 1=k
        · rw [if_pos hl,hl]
          exact ⟨a,h3,by omega,h5,h6,Or.inl ⟨by omega,i,rfl,by omega,by omega,h2⟩⟩
        · rw [if_neg hl]
          refine ⟨a,h3,by omega,h5,h6,Or.inl ⟨by omega,?_⟩⟩
          rcases h7 with ⟨q,b,q1,q2,q3,q4⟩ | q
          · exact ⟨b,q1,by omega,q3,q4⟩
          · omega
      · have hke:k=opn L i:=by omega
        rw [if_neg hkn]
        exact ⟨i,rfl,by omega,hke.symm,h2,Or.inr ⟨by omega,rfl⟩⟩
theorem yx {L:Rows} {a b:Nat} (h:opn L a=opn L b) (ha:((evR L a).kind==2)=true) (hb:((evR L b).kind==2)=true):a=b:=by
 rcases Nat.lt_trichotomy a b with h1 | h1 | h1
 ·have:=Ko L (show a+1≤b by omega)
  have:=U1 ha
  omega
 ·exact h1
 ·have:=Ko L (show b+1≤a by omega)
  have:=U1 hb
  omega
def AF (L:Rows) (k:Nat):Nat:=if k<opn L L.length then (pr (Bs L L.length) k).1.toNat else L.length
structure Seg (L:Rows) (k:Nat):Prop where
 x0:(pr (Bs L L.length) k).1=(AF L k:Int)
 x1:(pr (Bs L L.length) k).2=(AF L (k+1):Int)
 lt:AF L k<AF L (k+1)
 le:AF L (k+1)≤L.length
 o0:opn L (AF L k)=k
 o1:opn L (AF L (k+1))=k+1
 mid:∀ j,AF L k≤j→j<AF L (k+1)→opn L (j+1)=k+1
theorem seg {L:Rows} (hL:L.length≤1048576) {k:Nat} (h:k<opn L L.length):Seg L k:=by
 obtain ⟨a,h1,h2,h3,h4,h5⟩:=jU hL L.length (Nat.le_refl _) k h
 have p0:AF L k=a:=by unfold AF;rw [if_pos h,h1];rfl
 have key:(pr (Bs L L.length) k).2=(AF L (k+1):Int)∧a<AF L (k+1)∧AF L (k+1)≤L.length∧opn L (AF L (k+1))=k+1:=by
  rcases h5 with ⟨q,b,q1,q2,q3,q4⟩ | ⟨q,q1⟩
  ·obtain ⟨a',g1,g2,g3,g4,_⟩:=jU hL L.length (Nat.le_refl _) (k+1) q
   have e:a'=b:=yx (g3.trans q3.symm) g4 q4
   subst e
   have p1:AF L (k+1)=a':=by unfold AF;rw [if_pos q,g1];rfl
   rw [p1]
   refine ⟨q1,?_,by omega,q3⟩
   rcases Nat.lt_or_ge a a' with hl | hl
   ·exact hl
   ·have:=Ko L hl
    omega
  ·have p1:AF L (k+1)=L.length:=by unfold AF;rw [if_neg (by omega)]
   rw [p1]
   exact ⟨q1,h2,Nat.le_refl _,q.symm⟩
 obtain ⟨k1,k2,k3,k4⟩:=key
 refine ⟨by rw [h1,p0],k1,by rw [p0];exact k2,k3,by rw [p0];exact h3,k4,fun j j1 j2=>?_⟩
 rw [p0] at j1
 have m1:=Ko L (show a+1≤j+1 by omega)
 have m2:=Ko L (show j+1≤AF L (k+1) by omega)
 rw [U1 h4] at m1
 omega
theorem AAA (L:Rows):AF L (opn L L.length)=L.length:=by unfold AF;rw [if_neg (Nat.lt_irrefl _)]
theorem AAn (L:Rows) {a b:Nat} (i j:Nat) (h:i<b - a):AE ((L.take b).drop a) i j=AE L (a+i) j:=by
 unfold AE Ap
 rw [List.getD_eq_getElem?_getD,List.getD_eq_getElem?_getD,List.getElem?_drop,List.getElem?_take,if_pos (by omega)]
theorem qg (L:Rows) {a b:Nat} (i:Nat) (h:i<b - a):evR ((L.take b).drop a) i=evR L (a+i):=by
 unfold evR atI atB
 simp only [AAn L i _ h]
theorem mG {L:Rows} {a b:Nat} (h:b≤L.length):((L.take b).drop a).length=b - a:=by
 rw [List.length_drop,List.length_take]
 omega
def W0 (e:Ev):Bool:=cond (e.kind==4) (!(e.ball.how==0)) (cond (e.kind==5) e.yes (cond (e.kind==6) (!e.yes) false))
theorem xW (e:Ev):Qt e=cond (W0 e) 1 0:=by
 unfold Qt W0 Du
 cases h4:e.kind==4
 ·cases h5:e.kind==5
  ·cases h6:e.kind==6<;>cases e.yes<;>rfl
  ·rw [beq_iff_eq.1 h5];cases e.yes<;>rfl
 ·cases e.ball.how==0<;>rfl
theorem so {N:Nat} {e0 e1 e2 e3 e5 e6 e7 e8 e9 e10 e11 e13 e14 e15 e16 e18:Int} {e4 e12 e17:Bool}  : MQ N [.int e0,.int e1,.int e2,.int e3,.bool e4,.int e5,.int e6,.int e7,.int e8,.int e9,.int e10,.int e11,.bool e12,.int e13,.int e14,.int e15,.int e16,.bool e17,.int e18]=some [.bool (W0 (⟨e0,e1,e2,e3,e4,e5,e6,⟨e7,e8,e9,e10,e11,e12,e13,e14,e15,e16,e17,e18⟩⟩:Ev))]:=by
 show Q7 (std (aI N) N) (xOf _)=_
 simp only [Q7,std,xOf,PXb,PXc,PXn,PXm,Nat.reduceAdd,Int.reduceBEq]
 unfold W0
 simp only
 cases e0==4<;>cases e0==5<;>cases e0==6<;>rfl
def vk:Option Nat→Int
 | some j=>(j:Int)
 | none => -1
theorem ng (sd:Nat→Int) (s:Int) (k:Nat):∀ c,c≤k+1→BI (fun i=>cond (sd (k - i)==s) (some [.int ((k - i:Nat):Int)]) none) c (k+1 - c)=(EV sd s c).map fun j:Nat=>[PV.int (j:Int)]
 | 0,_=>rfl
 | c+1,h=>by
  have ih:=ng sd s k c (by omega)
  have e1:k - (k+1 - (c+1))=c:=by omega
  have e2:k+1 - (c+1)+1=k+1 - c:=by omega
  simp only [BI,EV,e1,e2,ih]
  cases sd c==s<;>rfl
theorem qm (sd:Nat→Int) (s:Int):∀ c i,BI (fun i=>cond (sd i==s) (some [.int (i:Int)]) none) c i=(jB sd s c i).map fun j:Nat=>[PV.int (j:Int)]
 | 0,_=>rfl
 | c+1,i=>by
  simp only [BI,jB,qm sd s c (i+1)]
  cases sd i==s<;>rfl
theorem xQ {N : Nat} {sd : Nat → Int} {n k : Nat} {s : Int} (hN : 2097152 < N) (hn : n ≤ 1048576) (hk : k < n) {F G : (List AY → Option (List PV)) → List PV → Option (List PV)}
    (f0:∀ self,F self [.int (-1)]=some [.int 1]) (f1:∀ (j:Nat) self,j<n→F self [.int (j:Int)]=cond (sd j==s) (some [.int 0,.int (j:Int)]) (self [.int ((j:Int) - 1)]))
    (g0:∀ self,G self [.int (n:Int)]=some [.int 1]) (g1:∀ (j:Nat) self,j<n→G self [.int (j:Int)]=cond (sd j==s) (some [.int 0,.int (j:Int)]) (self [.int ((j:Int)+1)])) :
    ((DL F N [.int (k:Int)]).bind fun c=>cond (pvI (AL c 0)==((0:Nat):Int)) (some [PV.int (pvI (AL c 1))]) ((DL G N [.int (IntKind.i64.wrap ((k:Int)+1))]).bind fun c=>cond (pvI (AL c 0)==((0:Nat):Int)) (some [PV.int (pvI (AL c 1))]) (some [PV.int (-1)])))=some [.int (vk (Lg sd n k s))]:=by
  have a1:=Tw (F:=F) (len:=k+1) (fun i=>[.int ((k:Int) - (i:Int))]) (fun i=>cond (sd (k - i)==s) (some [.int ((k - i:Nat):Int)]) none)
    (fun self=>by
      show F self [.int ((k:Int) - ((k+1:Nat):Int))]=_
      rw [show (k:Int) - ((k+1:Nat):Int) = -1 by omega]
      exact f0 self)
    (fun i self hi=>by
      show F self [.int ((k:Int) - (i:Int))]=_
      rw [show (k:Int) - (i:Int)=((k - i:Nat):Int) by omega,f1 (k - i) self (by omega),show ((k - i:Nat):Int) - 1=(k:Int) - ((i+1:Nat):Int) by omega]
      cases sd (k - i)==s<;>rfl) (k+1) 0 N (by omega) (by omega)
  have fb:=ng sd s k (k+1) (Nat.le_refl _)
  rw [Nat.sub_self] at fb
  rw [fb] at a1
  have a1:DL F N [.int ((k:Int) - ((0:Nat):Int))]=_:=a1
  rw [show (k:Int) - ((0:Nat):Int)=(k:Int) by omega] at a1
  rw [a1,AS (show k≤1099511627776 by omega)]
  unfold Lg
  cases EV sd s (k+1) with
  | some j=>rfl
  | none =>
    have a2:=CH (F:=G) (len:=n) (fun i=>cond (sd i==s) (some [.int (i:Int)]) none) g0 (fun i self hi=>by rw [g1 i self hi];cases sd i==s<;>rfl) (n - (k+1)) (k+1) N (by omega) (by omega)
    rw [qm] at a2
    rw [show ((k:Int)+1)=((k+1:Nat):Int) by omega,a2]
    cases jB sd s (n - (k+1)) (k+1)<;>rfl
theorem AAx (n:Int):iLe 0 (-1)=false:=rfl
theorem w9 (j:Nat):iLe 0 (j:Int)=true:=by simp only [iLe,decide_eq_true_eq];omega
theorem xE {j:Nat} (h:j≤1048576):IntKind.i64.wrap ((j:Int) - 1)=(j:Int) - 1:=Ct (by omega) (by omega)
set_option maxHeartbeats 1000000 in
theorem tZ {N:Nat} {sd:Nat→Int} {n k:Nat} {s:Int} (hN:2097152<N) (hn:n≤1048576) (hk:k<n):JI N [.rows (He (zs sd n)),.int (k:Int),.int s]=some [.int (vk (Lg sd n k s))]:=by
 show Q0 (std (aK N) N) (xOf _)=_
 simp only [Q0,std,xOf,PXb]
 refine xQ hN hn hk ?_ ?_ ?_ ?_
 ·intro self
  simp only [PXb,PXc,PXn,AA,AAx 0]
 ·intro j self hj
  simp only [PXb,PXc,PXn,AA,w9,QO,Xi,AP hj,BD,vB _ hj,xE (show j≤1048576 by omega)]
 ·intro self
  simp only [PXb,PXc,PXn,AA,QO,Xi,Ao]
 ·intro j self hj
  simp only [PXb,PXc,PXn,AA,QO,Xi,Ah hj,AP hj,BD,vB _ hj,AS (show j≤1099511627776 by omega)]
theorem Ig {L:Rows} {f:Ev→Int} {c:Int} (hf:∀ e,0≤f e∧f e≤c) (j:Nat):∀ i:Nat,0≤smi L f j i∧smi L f j i≤c * (i:Int)
 | 0=>by
  have:smi L f j 0=0:=rfl
  rw [this]
  omega
 | i+1=>by
  have ih:=Ig (L:=L) hf j i
  have h1:=hf (evR L i)
  rw [Qv,show c * ((i+1:Nat):Int)=c * (i:Int)+c by rw [show ((i+1:Nat):Int)=(i:Int)+1 by omega,Int.mul_add,Int.mul_one]]
  have h2:=hf (evR L i)
  generalize c * (i:Int)=z at ih ⊢
  cases Nat.beq (opn L (i+1)) (j+1)<;>simp only [cond_true,cond_false]<;>omega
theorem AAt (L:Rows) (sd:Nat→Int) (n j:Nat):∀ i:Nat,0≤pnS L sd n j i∧pnS L sd n j i≤5 * (i:Int)
 | 0=>by
  have:pnS L sd n j 0=0:=rfl
  rw [this]
  omega
 | i+1=>by
  have ih:=AAt L sd n j i
  rw [ma]
  cases ((evR L i).kind==13&&isS (Lg sd n (opn L (i+1) - 1) (evR L i).side) j)<;>simp only [cond_true,cond_false]<;>omega
structure Sml (x:Sco):Prop where
 runs:0≤x.runs∧x.runs≤1000000
 wk:0≤x.wickets∧x.wickets≤1000000
 balls:0≤x.balls∧x.balls≤1000000
 wides:0≤x.wides∧x.wides≤1000000
 no:0≤x.noballs∧x.noballs≤1000000
 bb:0≤x.byes∧x.byes≤1000000
 lb:0≤x.legbyes∧x.legbyes≤1000000
 pens:0≤x.pens∧x.pens≤1000000
theorem zY {r:Rul} (h:RulOk r) (e:Ev):0≤lZ r e∧lZ r e≤62:=by
 have c:=E7 h e
 have h0:=c.ba
 have h1:=c.wi
 have h2:=c.no
 have h3:=c.bb
 have h4:=c.lb
 have h5:=c.tot
 unfold lZ
 omega
theorem AAQ {r:Rul} (h:RulOk r) (L:Rows) (sd:Nat→Int) (n j:Nat) {i:Nat} (hi:i≤4000):Sml (Bc r L sd n j i):=by
 have p:=AAt L sd n j i
 have b1:=Ig (L:=L) (zY h) j i
 have b2:=Ig (L:=L) AAy j i
 have b3:=Ig (L:=L) (f:=Ll r) (c:=1) (fun e=>by unfold Ll;cases (Av r e).counts<;>simp) j i
 have b4:=Ig (L:=L) (f:=fun e=>(Av r e).wides) (fun e=>(E7 h e).wi) j i
 have b5:=Ig (L:=L) (f:=fun e=>(Av r e).noballs) (fun e=>(E7 h e).no) j i
 have b6:=Ig (L:=L) (f:=fun e=>(Av r e).byes) (fun e=>(E7 h e).bb) j i
 have b7:=Ig (L:=L) (f:=fun e=>(Av r e).legbyes) (fun e=>(E7 h e).lb) j i
 unfold Bc
 constructor<;>(simp only;omega)
end Go.Px
end
