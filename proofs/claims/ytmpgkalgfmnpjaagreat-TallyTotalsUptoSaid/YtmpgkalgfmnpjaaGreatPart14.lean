/- Part 14. -/
import Derived.Test.YtmpgkalgfmnpjaaGreatPart13
set_option linter.unusedVariables false
set_option linter.unusedSimpArgs false
section
namespace Go.Px
set_option maxRecDepth 100000
def Ez (xs:List Int):Rows:=xs.map fun x=>[.int x]
theorem FY (xs:List Int):(Ez xs).length=xs.length:=List.length_map _
theorem AB9 (xs:List Int) (i:Nat):Ar (Ez xs) i=(match xs[i]? with | some x=>[.int x] | none=>[]):=by
 unfold Ar Ez
 rw [List.getD_eq_getElem?_getD,List.getElem?_map]
 cases xs[i]?<;>rfl
theorem ACS (xs:List Int) (i:Nat):atI (Ez xs) i 0=xs.getD i 0:=by
 unfold atI AD
 rw [AB9,List.getD_eq_getElem?_getD]
 cases xs[i]?<;>rfl
structure SumSt (D:Rows) (n i:Nat) (s:List Int×List Int×Int):Prop where
 l1:s.1.length=n
 l2:s.2.1.length=n
 r:∀ k,k<n→s.1.getD k 0=wr (rS D k i)
 b:∀ k,k<n→s.2.1.getD k 0=wr (bS D k i)
 h:s.2.2=wr (hS D i)
end Go.Px
end
section
namespace Go.Px
set_option maxRecDepth 100000
structure Sco where
 side:Int
 runs:Int
 wickets:Int
 balls:Int
 wides:Int
 noballs:Int
 byes:Int
 legbyes:Int
 pens:Int
 ending:Int
theorem A9 {n:Int} (h1 : -1000000000000≤n) (h2:n≤1000000000000):IntKind.i64.wrap n=n:=C0 (by omega) (by omega)
theorem ue {d:Del} (h:(DW d==0)=true):(0≤d.runs∧d.runs≤7)∧(0≤d.short∧d.short≤d.runs)∧(d.boundary=0∨d.boundary=4∨d.boundary=6):=by
 unfold DW at h
 cases h1:(iLt d.type 1||iLt 3 d.type||iLt 3 d.source||iLt 10 d.how || !btw d.sector 0 8) with
 | true=>rw [h1] at h;cases h
 | false =>
  cases h2:(!btw d.runs 0 7 || !btw d.short 0 d.runs||(!(d.boundary==0) && !(d.boundary==4) && !(d.boundary==6))) with
  | true=>rw [h1,h2] at h;cases h
  | false =>
   simp only [btw,iLe,Bool.or_eq_false_iff,Bool.not_eq_false',Bool.and_eq_true,Bool.and_eq_false_iff,decide_eq_true_eq,beq_iff_eq] at h2
   omega
structure CreOk (c:Cre):Prop where
 ba:0≤c.batter∧c.batter≤13
 wi:0≤c.wides∧c.wides≤18
 no:0≤c.noballs∧c.noballs≤5
 bb:0≤c.byes∧c.byes≤13
 lb:0≤c.legbyes∧c.legbyes≤13
 bo:c.bowler=c.batter+c.wides+c.noballs
 tot:DB c=c.batter+c.wides+c.noballs+c.byes+c.legbyes
theorem yY {b w o y l bo:Int} {x1 x2 x3 x4:Bool} (hb:0≤b∧b≤13) (hw:0≤w∧w≤18) (ho:0≤o∧o≤5) (hy:0≤y∧y≤13) (hl:0≤l∧l≤13) (hbo:bo=IntKind.i64.wrap (IntKind.i64.wrap (b+w)+o)):CreOk ⟨b,w,o,y,l,bo,x1,x2,x3,x4⟩:=by
 refine ⟨hb,hw,ho,hy,hl,?_,?_⟩
 ·show bo=b+w+o
  rw [hbo,A9 (n:=b+w) (by omega) (by omega),A9 (by omega) (by omega)]
 ·show IntKind.i64.wrap (IntKind.i64.wrap (IntKind.i64.wrap (IntKind.i64.wrap (b+w)+o)+y)+l)=b+w+o+y+l
  rw [A9 (n:=b+w) (by omega) (by omega),A9 (n:=b+w+o) (by omega) (by omega),A9 (n:=b+w+o+y) (by omega) (by omega),A9 (by omega) (by omega)]
def KF:Cre:=⟨0,0,0,0,0,0,false,false,false,false⟩
theorem qu:CreOk KF:=yY (by decide) (by decide) (by decide) (by decide) (by decide) rfl
theorem y9 {r:Rul} (h:RulOk r) (d:Del):CreOk (AF r d):=by
 unfold AF
 cases hl:DW d==0 with
 | false=>exact qu
 | true =>
  obtain ⟨⟨a1,a2⟩,⟨a3,a4⟩,a5⟩:=ue hl
  have hw:=h.wide
  have hn:=h.noball
  have e1:IntKind.i64.wrap (IntKind.i64.wrap (d.runs - d.short)+d.boundary)=d.runs - d.short+d.boundary:=by
   rw [A9 (n:=d.runs - d.short) (by omega) (by omega),A9 (by omega) (by omega)]
  have n0:0≤d.runs - d.short+d.boundary∧d.runs - d.short+d.boundary≤13:=by omega
  simp only [Bool.not_true,cond_false,Tu,e1]
  generalize d.runs - d.short+d.boundary=n at n0
  have e2:IntKind.i64.wrap (r.wide+n)=r.wide+n:=A9 (by omega) (by omega)
  have c13:∀ b:Bool,0≤cond b n 0∧cond b n 0≤13:=fun b=>by cases b<;>simp<;>omega
  refine yY (c13 _) ?_ ?_ (c13 _) (c13 _) rfl
  ·rw [e2];cases d.type==2<;>simp<;>omega
  ·cases d.type==3<;>simp<;>omega
def Ao (r:Rul) (e:Ev):Cre:=cond (e.kind==4) (AF r e.ball) KF
theorem Ch {r:Rul} (h:RulOk r) (e:Ev):CreOk (Ao r e):=by
 unfold Ao
 cases e.kind==4
 ·exact qu
 ·exact y9 h _
theorem ym (e:Ev):0≤F1 e∧F1 e≤1:=by
 unfold F1 D2
 cases e.kind==4<;>cases e.ball.how==0<;>cases (e.kind==5&&e.yes||e.kind==6 && !e.yes)<;>decide
def Bm (q:Int) (s:Inn):Sco:=⟨s.side,s.runs,s.wickets,Cj q s.complete s.inover,s.wides,s.noballs,s.byes,s.legbyes,s.pens,0⟩
def Q0 (r:Rul) (e:Ev) (x:Sco):Sco:=⟨x.side,x.runs+DB (Ao r e),x.wickets+F1 e,x.balls+cond (Ao r e).counts 1 0,x.wides+(Ao r e).wides,x.noballs+(Ao r e).noballs,x.byes+(Ao r e).byes,x.legbyes+(Ao r e).legbyes,x.pens,x.ending⟩
def H0 (n:Int) (x:Sco):Sco:=⟨x.side,x.runs+n,x.wickets,x.balls,x.wides,x.noballs,x.byes,x.legbyes,x.pens+n,x.ending⟩
theorem DG (x:Sco):H0 0 x=x:=by
 obtain ⟨x0,x1,x2,x3,x4,x5,x6,x7,x8,x9⟩:=x
 simp only [H0,Int.add_zero]
theorem jV {r:Rul} {e:Ev} (x:Sco) (hk:(e.kind==4)=false):Q0 r e x={ x with wickets:=x.wickets+D2 e }:=by
 have c0:Ao r e=KF:=by unfold Ao;rw [hk];rfl
 have o0:F1 e=D2 e:=by unfold F1;rw [hk];rfl
 have t0:DB KF=0:=rfl
 unfold Q0
 rw [c0,o0,t0]
 simp only [KF,cond_false,Int.add_zero]
theorem Wm {r:Rul} {e:Ev} (x:Sco) (hk:(e.kind==4)=false) (ho:D2 e=0):Q0 r e x=x:=by
 rw [jV x hk,ho,Int.add_zero]
theorem ABl {r:Rul} {s:Inn} (ok:InnOk r s):0≤s.wickets∧s.wickets≤11:=by
 have h:=ok.bat
 unfold Tm at h
 simp only [Bool.and_eq_true] at h
 have h1:=beq_iff_eq.1 h.2.2
 have h2:=tc (pIs s.batters 2) s.batters.length
 have h3:=(Dv ok.code).side
 have h4:=ok.lb
 unfold eM at h1
 omega
theorem AB3 {c q:Int} (hc:0≤c∧c≤1000000000) (hq:0≤q∧q≤8):0≤c * q∧c * q≤8000000000:=by
 refine ⟨Int.mul_nonneg hc.1 hq.1,?_⟩
 have h1:=Int.mul_le_mul_of_nonneg_right hc.2 hq.1
 have h2:=Int.mul_le_mul_of_nonneg_left hq.2 (show (0:Int)≤1000000000 by omega)
 omega
theorem AAP {r:Rul} {s:Inn} (ok:InnOk r s):Cj r.balls s.complete s.inover=s.complete * r.balls+s.inover∧0≤Cj r.balls s.complete s.inover∧Cj r.balls s.complete s.inover≤9000000000:=by
 have h1:=(Dv ok.code).balls
 have h2:=ok.io
 have h3:=AB3 ok.complete (show 0≤r.balls∧r.balls≤8 by omega)
 rw [Uq]
 have:wr (s.complete * r.balls+s.inover)=s.complete * r.balls+s.inover:=A9 (by omega) (by omega)
 rw [this]
 omega
theorem ACB {x a d:Int} (h:wr (x - a)=d) (hx:wr x=x) (ha:0≤a∧a≤9000000000) (hd:0≤d∧d≤1000):x=a+d:=by
 simp only [wr,RG] at h hx
 omega
theorem ABR (q:Int) (r:Rul) (t:Inn) (b:Bool):Bm q (Bt r t b)=Bm q t:=rfl
theorem AAR {r:Rul} {s:Inn} {e:Ev} (hk:(e.kind==4)=true) (h:((Au r s e).2==0)=true):Bm r.balls (Au r s e).1=Q0 r e (Bm r.balls s):=by
 obtain ⟨g1,g2,g3,g4,g5,g6,g7,g8,g9,g10⟩:=yZ hk h
 obtain ⟨hv,he,hn,hw,hp,hs⟩:=my h
 have ok:=SO.1 hv
 have rk:=Dv ok.code
 have co:=y9 rk e.ball
 have k4:=beq_iff_eq.1 hk
 have hpb:Bd r s e=Jx r s e.ball:=by unfold Bd;rw [k4];rfl
 rw [hpb] at hp hs
 obtain ⟨hr,hb⟩:=vz hp
 obtain ⟨q1,q2,q3,q4,q5,q6⟩:=o5 hr
 have ce:Ao r e=AF r e.ball:=by unfold Ao;rw [hk];rfl
 have od:F1 e=cond (e.ball.how==0) 0 1:=by unfold F1;rw [hk];rfl
 have hx:=AAP ok
 have r0:=ok.runs
 have w0:=ok.wides
 have n0:=ok.noballs
 have b0:=ok.byes
 have l0:=ok.legbyes
 have wk:=ABl ok
 unfold B5 at r0 w0 n0 b0 l0
 have f0:=co.ba
 have f1:=co.wi
 have f2:=co.no
 have f3:=co.bb
 have f4:=co.lb
 have f5:=co.tot
 rw [hs,hb] at g1 g7 g8 ⊢
 have e1:(Bt r (Jh r s e.ball) (e.kind==4)).runs=IntKind.i64.wrap (s.runs+DB (AF r e.ball)):=rfl
 have e2:(Bt r (Jh r s e.ball) (e.kind==4)).wides=IntKind.i64.wrap (s.wides+(AF r e.ball).wides):=rfl
 have e3:(Bt r (Jh r s e.ball) (e.kind==4)).noballs=IntKind.i64.wrap (s.noballs+(AF r e.ball).noballs):=rfl
 have e4:(Bt r (Jh r s e.ball) (e.kind==4)).byes=IntKind.i64.wrap (s.byes+(AF r e.ball).byes):=rfl
 have e5:(Bt r (Jh r s e.ball) (e.kind==4)).legbyes=IntKind.i64.wrap (s.legbyes+(AF r e.ball).legbyes):=rfl
 have e6:(Bt r (Jh r s e.ball) (e.kind==4)).side=s.side∧(Bt r (Jh r s e.ball) (e.kind==4)).pens=s.pens∧(Bt r (Jh r s e.ball) (e.kind==4)).wickets=(Ad s e.ball).wickets:=by
  obtain ⟨w1,w2⟩:=vf r (Ad s e.ball) (AF r e.ball).counts
  obtain ⟨k1,k2,k3,k4,k5,k6,k7,k8,k9,k10⟩:=kL s e.ball
  have w3:(Ak r (Ad s e.ball) (AF r e.ball).counts).1.side=s.side:=by
   have s1:(Ad s e.ball).side=s.side:=by
    unfold Ad
    cases (!(e.ball.runs.tmod 2==0) != e.ball.crossed)<;>exact P_c (P:=fun x:Inn=>x.side=s.side) _ _ _ rfl (P_c (P:=fun x:Inn=>x.side=s.side) _ _ _ rfl rfl)
   unfold Ak
   exact P_c (P:=fun x:Inn×Bool=>x.1.side=s.side) _ _ _ s1 (P_c (P:=fun x:Inn×Bool=>x.1.side=s.side) _ _ _ s1 s1)
  refine ⟨?_,?_,?_⟩
  ·show (cond (Ak r (Ad s e.ball) (AF r e.ball).counts).2 (F8 (Ak r (Ad s e.ball) (AF r e.ball).counts).1) (Ak r (Ad s e.ball) (AF r e.ball).counts).1).side=_
   rw [← w3]
   cases (Ak r (Ad s e.ball) (AF r e.ball).counts).2<;>rfl
  ·show (cond (Ak r (Ad s e.ball) (AF r e.ball).counts).2 (F8 (Ak r (Ad s e.ball) (AF r e.ball).counts).1) (Ak r (Ad s e.ball) (AF r e.ball).counts).1).pens=_
   rw [← k6,← w2]
   cases (Ak r (Ad s e.ball) (AF r e.ball).counts).2<;>rfl
  ·show (cond (Ak r (Ad s e.ball) (AF r e.ball).counts).2 (F8 (Ak r (Ad s e.ball) (AF r e.ball).counts).1) (Ak r (Ad s e.ball) (AF r e.ball).counts).1).wickets=_
   rw [← w1]
   cases (Ak r (Ad s e.ball) (AF r e.ball).counts).2<;>rfl
 obtain ⟨z1,z2⟩:=tp q1 (sM hw (by rw [k4];rfl))
 have hout:=vS (d:=e.ball) z1 z2 (fun hd=>iG q5 hd)
 have wv:IntKind.i64.wrap (Cj r.balls (Bt r (Jh r s e.ball) (e.kind==4)).complete (Bt r (Jh r s e.ball) (e.kind==4)).inover)=Cj r.balls (Bt r (Jh r s e.ball) (e.kind==4)).complete (Bt r (Jh r s e.ball) (e.kind==4)).inover:=IG _
 have hb7:=ACB g7 wv (by omega) (by cases (AF r e.ball).counts<;>simp)
 unfold Bm Q0
 rw [e1,e2,e3,e4,e5,e6.1,e6.2.1,e6.2.2,hb7,ce,od,hout]
 have i1:IntKind.i64.wrap (s.runs+DB (AF r e.ball))=s.runs+DB (AF r e.ball):=A9 (by omega) (by omega)
 have i2:IntKind.i64.wrap (s.wides+(AF r e.ball).wides)=s.wides+(AF r e.ball).wides:=A9 (by omega) (by omega)
 have i3:IntKind.i64.wrap (s.noballs+(AF r e.ball).noballs)=s.noballs+(AF r e.ball).noballs:=A9 (by omega) (by omega)
 have i4:IntKind.i64.wrap (s.byes+(AF r e.ball).byes)=s.byes+(AF r e.ball).byes:=A9 (by omega) (by omega)
 have i5:IntKind.i64.wrap (s.legbyes+(AF r e.ball).legbyes)=s.legbyes+(AF r e.ball).legbyes:=A9 (by omega) (by omega)
 have i6:inc s.wickets=s.wickets+1:=A9 (by omega) (by omega)
 rw [i1,i2,i3,i4,i5,i6]
 cases e.ball.how==0 with
 | false=>rfl
 | true=>simp only [cond_true,Int.add_zero]
def Kz (q:Int) (s:Inn) (x:Inn×Int):Prop:=(x.2==0)=true→Bm q x.1=Bm q s
theorem D7 {q:Int} {s:Inn} (b:Bool) (x y:Inn×Int) (hx:Kz q s x) (hy:Kz q s y):Kz q s (cond b x y):=by cases b<;>assumption
theorem si {r:Rul} {s:Inn} {e:Ev} (h:((Au r s e).2==0)=true):Bm r.balls (Au r s e).1=H0 (cond (e.kind==13&&e.side==s.side) 5 0) (Q0 r e (Bm r.balls s)):=by
 cases hk:e.kind==4 with
 | true =>
  rw [AAR hk h,beq_iff_eq.1 hk]
  exact (DG _).symm
 | false =>
  obtain ⟨hv,he,hn,hw,hp,hs⟩:=my h
  have ok:=SO.1 hv
  have wk:=ABl ok
  have iw:IntKind.i64.wrap (s.wickets+1)=s.wickets+1:=A9 (by omega) (by omega)
  rw [hs,ABR,jV _ hk]
  have z:∀ {x:Inn×Int},Kz r.balls s x→(x.2==0)=true→D2 e=0→Bm r.balls x.1=H0 (cond (false&&e.side==s.side) 5 0) { Bm r.balls s with wickets:=(Bm r.balls s).wickets+D2 e }:=fun k hx h0=>by
   rw [k hx,h0,Int.add_zero]
   exact (DG _).symm
  have kn:∀ {t:Inn} {n:Int},(n==0)=false→Kz r.balls s (t,n):=fun hn hx=>by rw [hn] at hx;cases hx
  have ks:∀ {n:Int},Kz r.balls s (s,n):=fun _=>rfl
  revert hp
  unfold Bd
  rw [hk]
  cases h5:e.kind==5 with
  | true =>
   have h5':=beq_iff_eq.1 h5
   have ho:D2 e=cond e.yes 1 0:=by unfold D2;rw [h5'];cases e.yes<;>rfl
   rw [ho,h5']
   cases e.yes with
   | false =>
    intro hp
    refine Eq.trans (b:=Bm r.balls s) ?_ ?_
    ·exact (show Kz r.balls s (KZ s e.player) by unfold KZ;exact D7 _ _ _ (fun _=>rfl) (fun _=>rfl)) hp
    ·simp only [cond_false,Int.add_zero];exact (DG _).symm
   | true =>
    intro hp
    change ((Ed s e.player).2==0)=true at hp
    show Bm r.balls (Ed s e.player).1=_
    unfold Ed at hp ⊢
    cases hm:Jj s e.player==0 with
    | false=>rw [hm] at hp;exact absurd (show (Jj s e.player==0)=true from hp) (by rw [hm];decide)
    | true =>
     simp only [cond_true]
     unfold Bm H0
     simp only [iw,cond_true,Int.reduceBEq,Bool.false_and,cond_false,Int.add_zero]
  | false =>
   cases h6:e.kind==6 with
   | true =>
    have h6':=beq_iff_eq.1 h6
    have ho:D2 e=cond e.yes 0 1:=by unfold D2;rw [h6'];cases e.yes<;>rfl
    rw [ho,h6']
    intro hp
    change ((F6 s e.player e.yes).2==0)=true at hp
    show Bm r.balls (F6 s e.player e.yes).1=_
    unfold F6 at hp ⊢
    cases hm1:(!inR e.player s.batters.length) with
    | true=>rw [hm1] at hp;cases hp
    | false =>
     cases hm2:(s.striker==0||s.other==0) with
     | true=>rw [hm1,hm2] at hp;cases hp
     | false =>
      cases hm3:(!(e.player==s.striker) && !(e.player==s.other)) with
      | true=>rw [hm1,hm2,hm3] at hp;cases hp
      | false =>
       cases hm4:(e.yes&&((B3 s.batters s.batters.length).length:Int)==0) with
       | true=>rw [hm1,hm2,hm3,hm4] at hp;cases hp
       | false =>
        simp only [cond_false]
        cases e.yes with
        | true=>unfold Bm H0;simp only [cond_true,Int.reduceBEq,Bool.false_and,cond_false,Int.add_zero]
        | false=>unfold Bm H0;simp only [iw,cond_false,Int.reduceBEq,Bool.false_and,Int.add_zero]
   | false =>
    have ho:D2 e=0:=by unfold D2;rw [h5,h6];rfl
    cases h13:e.kind==13 with
    | true =>
     have k13:=beq_iff_eq.1 h13
     rw [k13,ho]
     intro hp
     change ((Gv s e.side e.runs).2==0)=true at hp
     show Bm r.balls (Gv s e.side e.runs).1=_
     have rn:=ok.runs
     have pn:=ok.pens
     unfold B5 at rn pn
     have i1:IntKind.i64.wrap (s.runs+5)=s.runs+5:=A9 (by omega) (by omega)
     have i2:IntKind.i64.wrap (s.pens+5)=s.pens+5:=A9 (by omega) (by omega)
     unfold Gv at hp ⊢
     cases hr5:e.runs==5 with
     | false=>rw [hr5] at hp;cases hp
     | true =>
      cases hsd:e.side==s.side with
      | true =>
       simp only [Bool.not_true,cond_false,cond_true]
       unfold Bm H0 Jc
       simp only [i1,i2,Bool.and_self,cond_true,Int.reduceBEq,Bool.true_and,Int.add_zero]
      | false =>
       simp only [Bool.not_true,cond_false,Bool.and_false,Int.add_zero]
       exact (DG _).symm
    | false =>
     simp only [cond_false]
     intro hp
     refine z ?_ hp ho
     refine D7 _ _ _ ?_ (D7 _ _ _ ?_ (D7 _ _ _ ?_ (D7 _ _ _ ?_ (D7 _ _ _ ?_ (D7 _ _ _ ?_ (D7 _ _ _ ?_ (D7 _ _ _ ?_ ?_)))))))
     ·unfold Rr
      exact D7 _ _ _ ks (D7 _ _ _ ks (D7 _ _ _ ks (fun _=>rfl)))
     ·unfold Rq
      cases H6 r s e.player==0
      ·exact ks
      ·exact fun _=>rfl
     ·unfold Gu
      exact D7 _ _ _ ks (fun _=>rfl)
     ·unfold JQ
      exact D7 _ _ _ ks (D7 _ _ _ ks (D7 _ _ _ ks (fun _=>rfl)))
     ·unfold MC
      exact D7 _ _ _ ks (D7 _ _ _ ks (fun _=>rfl))
     ·unfold G1
      exact D7 _ _ _ ks (fun _=>rfl)
     ·unfold KH
      exact D7 _ _ _ ks (D7 _ _ _ ks (fun _=>rfl))
     ·unfold GH
      exact D7 _ _ _ ks (D7 _ _ _ (fun _=>rfl) ks)
     ·unfold JP
      exact D7 _ _ _ ks (D7 _ _ _ ks (D7 _ _ _ ks (fun _=>rfl)))
end Go.Px
end
section
namespace Go.Px
set_option maxRecDepth 100000
def sco (xs:List Sco) (i:Nat):Sco:=xs.getD i ⟨0,0,0,0,0,0,0,0,0,0⟩
theorem FK (xs:List Sco) (i:Nat):sco xs i=(match xs[i]? with | some s=>s | none=>⟨0,0,0,0,0,0,0,0,0,0⟩):=by
 unfold sco
 rw [List.getD_eq_getElem?_getD]
 cases xs[i]?<;>rfl
theorem fi (xs:List Sco) (k:Nat) (s:Sco) (i:Nat) (hi:i<xs.length):sco (xs.set k s) i=(if k=i then s else sco xs i):=by
 rw [FK,FK,List.getElem?_set]
 by_cases h:k=i
 ·subst h
  rw [if_pos rfl,if_pos rfl,if_pos hi]
 ·rw [if_neg h,if_neg h]
structure TS where
 xs:List Sco
 p1:Int
 p2:Int
 first:Int
 follow:Bool
def Nc (m:Mat):TS:=⟨m.inns.map (Bm m.rules.balls),m.pen1,m.pen2,m.first,m.follow⟩
theorem YZ (q:Int) (xs:List Inn) {i:Nat} (h:i<xs.length):sco (xs.map (Bm q)) i=Bm q (inn xs i):=by
 rw [FK,OZ,List.getElem?_map,List.getElem?_eq_getElem h]
 rfl
theorem zn (q:Int) (xs:List Inn) (i:Nat):(sco (xs.map (Bm q)) i).side=(inn xs i).side:=by
 rw [FK,OZ,List.getElem?_map]
 cases xs[i]?<;>rfl
def qN (first:Int) (follow:Bool) (i:Int):Int:=cond (cond (follow&&iLe 2 i) (i==2) (i.tmod 2==1)) (Ay first) first
theorem wK (m:Mat) (i:Int):CO m i=qN m.first m.follow i:=rfl
def xm (sd p:Int):Sco:=⟨sd,p,0,0,0,0,0,0,p,0⟩
def Ea (sd:Nat→Int) (s:Int):Nat→Option Nat
 | 0=>none
 | k+1=>cond (sd k==s) (some k) (Ea sd s k)
theorem kV {f g:Nat→Int} {s:Int}:∀ n,(∀ k,k<n→f k=g k)→Ea f s n=Ea g s n
 | 0,_=>rfl
 | n+1,h=>by
  unfold Ea
  rw [h n (Nat.lt_succ_self n),kV n (fun k hk=>h k (by omega))]
theorem cq {f:Nat→Int} {s:Int} {j:Nat}:∀ n,Ea f s n=some j→j<n∧f j=s
 | 0,h=>by cases h
 | n+1,h=>by
  unfold Ea at h
  cases hq:f n==s with
  | true =>
   rw [hq] at h
   cases h
   exact ⟨Nat.lt_succ_self _,beq_iff_eq.1 hq⟩
  | false =>
   rw [hq] at h
   obtain ⟨h1,h2⟩:=cq n h
   exact ⟨by omega,h2⟩
theorem vj (xs:List Inn) (sd:Int):∀ n,NB xs sd n=Ea (fun k=>(inn xs k).side) sd n
 | 0=>rfl
 | n+1=>by
  unfold NB Ea
  rw [vj xs sd n]
def AAe (T:TS):TS :=
 let sd:=qN T.first T.follow (T.xs.length:Int)
 { T with xs:=T.xs++[xm sd (cond (sd==2) T.p2 T.p1)],p1:=cond (sd==1) 0 T.p1,p2:=cond (sd==2) 0 T.p2 }
def jF (s:Int) (T:TS):TS:=match Ea (fun k=>(sco T.xs k).side) s T.xs.length with
 | some k=>{ T with xs:=T.xs.set k (H0 5 (sco T.xs k)) }
 | none=>{ T with p1:=cond (s==1) (T.p1+5) T.p1,p2:=cond (s==2) (T.p2+5) T.p2 }
def AAg (r:Rul) (e:Ev) (T:TS):TS:={ T with xs:=T.xs.set (T.xs.length - 1) (Q0 r e (sco T.xs (T.xs.length - 1))) }
def SP (e:Ev):Int:=cond e.yes e.side (Ay e.side)
def aa (r:Rul) (e:Ev) (T:TS):TS :=
 cond (e.kind==1) { T with first:=SP e } (cond (e.kind==2) (AAe T) (cond (e.kind==12) { T with follow:=e.yes } (cond (e.kind==16) T (cond (e.kind==13) (jF e.side T) (AAg r e T)))))
theorem yS (x:Mat):Nc (B7 x)=Nc x∧(B7 x).inns=x.inns∧((B7 x).stage=x.stage∨(x.stage=3∧((B7 x).stage=5∨((B7 x).stage=4∧x.inns.length=2)∨(B7 x).stage=2))):=by
 unfold B7
 cases h3:(x.stage==3 && !((As x).ending==0)) with
 | false=>exact ⟨rfl,rfl,Or.inl rfl⟩
 | true =>
  rw [Bool.and_eq_true] at h3
  have s3:=beq_iff_eq.1 h3.1
  simp only [cond_true]
  unfold N2
  dsimp only
  cases ((x.inns.length:Int)==IntKind.i64.wrap (2 * x.rules.innings)||((x.inns.length:Int)==3&&iLt (BE x (As x).side) (BE x (Ay (As x).side)))) with
  | true=>exact ⟨rfl,rfl,Or.inr ⟨s3,Or.inl rfl⟩⟩
  | false =>
   cases h4:((x.inns.length:Int)==2&&iLt 0 x.rules.followon&&iLe x.rules.followon (IntKind.i64.wrap (BE x x.first - BE x (Ay x.first)))) with
   | true =>
    simp only [Bool.and_eq_true,beq_iff_eq] at h4
    exact ⟨rfl,rfl,Or.inr ⟨s3,Or.inr (Or.inl ⟨rfl,by omega⟩)⟩⟩
   | false=>exact ⟨rfl,rfl,Or.inr ⟨s3,Or.inr (Or.inr rfl)⟩⟩
theorem lT {m:Mat} (h:CU m=true):(0≤m.pen1∧m.pen1≤1000000)∧(0≤m.pen2∧m.pen2≤1000000)∧((m.stage==1)=true→m.first=0)∧((m.stage==4)=true→m.inns.length=2)∧0≤m.first∧m.first≤2:=by
 unfold CU kU at h
 simp only [Bool.and_eq_true,Bool.not_eq_true'] at h
 obtain ⟨⟨h1,h2,h3,h4,h5,h6,h7,h8,h9,h10⟩,h11,h12⟩:=h
 unfold Yg at h4
 simp only [Bool.or_eq_false_iff,iLt,decide_eq_false_iff_not] at h4
 simp only [Bool.or_eq_false_iff,iLt,decide_eq_false_iff_not] at h5
 refine ⟨by omega,by omega,fun hs=>?_,fun hs=>?_,by omega,by omega⟩
 ·rw [hs,Bool.true_and,Bool.not_eq_false',beq_iff_eq] at h7
  exact h7
 ·rw [hs,Bool.true_and,Bool.or_eq_false_iff,Bool.not_eq_false',Bool.not_eq_false',beq_iff_eq,beq_iff_eq] at h9
  omega
theorem xu {r:Rul} {a b c:Int} (h:((Bb r a b c).2==0)=true):Bm r.balls (Bb r a b c).1=xm a c∧(a=1∨a=2):=by
 unfold Bb at h ⊢
 cases h1:A2 r==0 with
 | false=>rw [h1] at h;exact absurd (show (A2 r==0)=true from h) (by rw [h1];decide)
 | true =>
  cases h2:(!btw a 1 2 || !btw b 0 1000000 || !btw c 0 1000000) with
  | true=>rw [h1,h2] at h;cases h
  | false =>
   rw [Bool.or_eq_false_iff,Bool.or_eq_false_iff,Bool.not_eq_false'] at h2
   have:=Y5.1 h2.1.1
   refine ⟨?_,by omega⟩
   show Sco.mk a c 0 (Cj r.balls 0 0) 0 0 0 0 c 0=_
   rw [Uq,Int.zero_mul]
   rfl
theorem MK (q:Int) (xs:List Inn) (k:Nat) (t:Inn):(xs.set k t).map (Bm q)=(xs.map (Bm q)).set k (Bm q t):=List.map_set
theorem tR (xs:List Sco) (k:Nat) (h:k<xs.length):xs.set k (sco xs k)=xs:=by
 apply List.ext_getElem?
 intro i
 rw [List.getElem?_set]
 by_cases e:k=i
 ·subst e
  rw [if_pos rfl,if_pos h,FK,List.getElem?_eq_getElem h]
 ·rw [if_neg e]
theorem AAq {r:Rul} {s:Inn} (hv:Ej r s=true) (q:Int):Bm q (Jc s)=H0 5 (Bm q s):=by
 have ok:=SO.1 hv
 have rn:=ok.runs
 have pn:=ok.pens
 unfold B5 at rn pn
 have i1:IntKind.i64.wrap (s.runs+5)=s.runs+5:=A9 (by omega) (by omega)
 have i2:IntKind.i64.wrap (s.pens+5)=s.pens+5:=A9 (by omega) (by omega)
 unfold Bm H0 Jc
 simp only [i1,i2]
structure Stg (m:Mat) (e:Ev) (t:Mat):Prop where
 k1:(e.kind==1)=true→m.stage=1∧t.stage=2
 k2:(e.kind==2)=true→m.stage=2∧m.inns.length≤3
 k12:(e.kind==12)=true→m.stage=4∧m.inns.length=2∧t.stage=2
 k16:(e.kind==16)=true→t.stage=5
 play:(e.kind==1)=false→(e.kind==2)=false→(e.kind==12)=false→(e.kind==16)=false→m.stage=3∧1≤m.inns.length
 not1:¬ t.stage=1
 four:t.stage=4→t.inns.length=2
set_option maxHeartbeats 4000000 in
theorem rA {m:Mat} {e:Ev} (h:((C8 m e).2==0)=true):Nc (C8 m e).1=aa m.rules e (Nc m)∧Stg m e (C8 m e).1:=by
 obtain ⟨hv,he,h5,hp,hs⟩:=j0 h
 have ok:=Ur hv
 obtain ⟨v1,v2,v3,v4,v5,v6⟩:=lT hv
 obtain ⟨c1,c2,c3⟩:=yS (Gz m e).1
 rw [hs,c1]
 have len4:=ok.len
 unfold aa
 unfold Gz at hp c2 c3 ⊢
 cases k1:e.kind==1 with
 | true =>
  have e1:=beq_iff_eq.1 k1
  rw [k1] at hp c2 c3
  cases s1:m.stage==1 with
  | false=>rw [s1] at hp;cases hp
  | true =>
   rw [s1] at c2 c3
   simp only [Bool.not_true,cond_false,cond_true] at c2 c3 ⊢
   refine ⟨rfl,?_⟩
   have st:(B7 { m with first:=cond e.yes e.side (Ay e.side),stage:=2 }).stage=2:=by
    rcases c3 with c3 | c3
    ·exact c3
    ·exact absurd c3.1 (by decide)
   exact ⟨fun _=>⟨beq_iff_eq.1 s1,st⟩,fun k=>(by rw [e1] at k;cases k),fun k=>(by rw [e1] at k;cases k),fun k=>(by rw [e1] at k;cases k),fun k=>(by rw [e1] at k;cases k),by rw [st];decide,(by rw [st];intro k;cases k)⟩
 | false =>
  rw [k1] at hp c2 c3
  cases k2:e.kind==2 with
  | true =>
   have e2:=beq_iff_eq.1 k2
   rw [k2] at hp c2 c3
   cases s2:m.stage==2 with
   | false=>rw [s2] at hp;cases hp
   | true =>
    rw [s2] at hp c2 c3
    simp only [Bool.not_true,cond_false,cond_true] at hp c2 c3 ⊢
    have room:=ok.room s2
    have inn2:=(Dv ok.code).innings
    unfold Wz at hp c2 c3 ⊢
    cases hb:(Bb m.rules (CO m (m.inns.length:Int)) (FG m (CO m (m.inns.length:Int))) (cond (CO m (m.inns.length:Int)==2) m.pen2 m.pen1)).2==0 with
    | false=>simp only [hb,Bool.not_false,cond_true] at hp;cases hp
    | true =>
     simp only [hb,Bool.not_true,cond_false] at hp c2 c3 ⊢
     cases ht:(Au m.rules (Bb m.rules (CO m (m.inns.length:Int)) (FG m (CO m (m.inns.length:Int))) (cond (CO m (m.inns.length:Int)==2) m.pen2 m.pen1)).1 e).2==0 with
     | false=>simp only [ht,Bool.not_false,cond_true] at hp;exact absurd hp Bool.false_ne_true
     | true =>
      simp only [ht,Bool.not_true,cond_false] at c2 c3 ⊢
      have n1:=si ht
      have o0:D2 e=0:=by unfold D2;rw [e2];rfl
      rw [Wm _ (by rw [e2];rfl) o0,e2] at n1
      have n2:=n1.trans (DG _)
      rw [(xu hb).1] at n2
      refine ⟨?_,?_⟩
      ·unfold Nc AAe
       rw [← wK] at *
       simp only [List.map_append,List.map_cons,List.map_nil,n2,List.length_map]
      ·refine ⟨fun k=>(by rw [k1] at k;cases k),fun _=>⟨beq_iff_eq.1 s2,by omega⟩,fun k=>(by rw [e2] at k;cases k),fun k=>(by rw [e2] at k;cases k),fun _ k=>(by rw [k2] at k;cases k),?_,?_⟩
       ·rcases c3 with c3 | ⟨_,c3 | c3 | c3⟩
        ·rw [c3];decide
        ·rw [c3];decide
        ·rw [c3.1];decide
        ·rw [c3];decide
       ·intro k
        rw [c2]
        rcases c3 with c3 | ⟨_,c3 | c3 | c3⟩
        ·rw [c3] at k;cases k
        ·rw [c3] at k;cases k
        ·exact c3.2
        ·rw [c3] at k;cases k
  | false =>
   rw [k2] at hp c2 c3
   cases k12:e.kind==12 with
   | true =>
    have e12:=beq_iff_eq.1 k12
    rw [k12] at hp c2 c3
    cases s4:m.stage==4 with
    | false=>rw [s4] at hp;cases hp
    | true =>
     rw [s4] at hp c2 c3
     cases sf:e.side==m.first with
     | false=>rw [sf] at hp;cases hp
     | true =>
      rw [sf] at c2 c3
      simp only [Bool.not_true,cond_false,cond_true] at c2 c3 ⊢
      refine ⟨rfl,?_⟩
      have st:(B7 { m with follow:=e.yes,stage:=2 }).stage=2:=by
       rcases c3 with c3 | c3
       ·exact c3
       ·exact absurd c3.1 (by decide)
      exact ⟨fun k=>(by rw [k1] at k;cases k),fun k=>(by rw [k2] at k;cases k),fun _=>⟨beq_iff_eq.1 s4,v4 s4,st⟩,fun k=>(by rw [e12] at k;cases k),fun _ _ k=>(by rw [k12] at k;cases k),by rw [st];decide,(by rw [st];intro k;cases k)⟩
   | false =>
    rw [k12] at hp c2 c3
    cases k16:e.kind==16 with
    | true =>
     rw [k16] at hp c2 c3
     simp only [cond_false,cond_true] at c2 c3 ⊢
     have st:(B7 (fa m)).stage=5:=by
      rcases c3 with c3 | c3
      ·exact c3
      ·exact absurd c3.1 (by show ¬ ((5:Int)=3);decide)
     refine ⟨?_,⟨fun k=>(by rw [k1] at k;cases k),fun k=>(by rw [k2] at k;cases k),fun k=>(by rw [k12] at k;cases k),fun _=>st,fun _ _ _ k=>(by rw [k16] at k;cases k),by rw [st];decide,(by rw [st];intro k;cases k)⟩⟩
     unfold Nc fa
     simp only
     cases s3:m.stage==3 with
     | false=>rfl
     | true =>
      have hl:=YY (ok.begun s3) (by omega)
      simp only [cond_true,MK]
      rw [show Bm m.rules.balls { As m with ending:=5 }=sco (m.inns.map (Bm m.rules.balls)) (lnx m.inns) from (YZ _ _ hl).symm,tR _ _ (by rw [List.length_map];exact hl)]
    | false =>
     rw [k16] at hp c2 c3
     simp only [cond_false] at hp c2 c3 ⊢
     cases s3:m.stage==3 with
     | false=>rw [s3] at hp;exact absurd (show ((1:Int)==0)=true from hp) (by decide)
     | true =>
      rw [s3] at hp c2 c3
      simp only [Bool.not_true,cond_false] at hp c2 c3 ⊢
      have h0:=ok.begun s3
      have hl:=YY h0 (by omega)
      have hlen:m.inns.length - 1=lnx m.inns:=by
       rw [beq_eq_false_iff_ne] at h0
       unfold lnx
       rw [C0 (by omega) (by omega)]
       omega
      have stg:(B7 (E0 m e).1).inns.length=m.inns.length→((B7 (E0 m e).1).stage=3∨((B7 (E0 m e).1).stage=5∨((B7 (E0 m e).1).stage=4∧m.inns.length=2)∨(B7 (E0 m e).1).stage=2))→Stg m e (B7 (E0 m e).1):=fun hn hq =>
       ⟨fun k=>(by rw [k1] at k;cases k),fun k=>(by rw [k2] at k;cases k),fun k=>(by rw [k12] at k;cases k),fun k=>(by rw [k16] at k;cases k),fun _ _ _ _=>⟨beq_iff_eq.1 s3,by omega⟩,by
        rcases hq with q | q | q | q
        ·rw [q];decide
        ·rw [q];decide
        ·rw [q.1];decide
        ·rw [q];decide,by
        intro k
        rw [hn]
        rcases hq with q | q | q | q
        ·rw [q] at k;cases k
        ·rw [q] at k;cases k
        ·exact q.2
        ·rw [q] at k;cases k⟩
      have xl:(m.inns.map (Bm m.rules.balls)).length=m.inns.length:=List.length_map _
      cases hq:(Au m.rules (As m) e).2==0 with
      | false=>unfold E0 at hp;simp only [hq,Bool.not_false,cond_true] at hp;exact absurd hp Bool.false_ne_true
      | true =>
       have n1:=si hq
       have sd1:(Au m.rules (As m) e).1.side=(As m).side:=congrArg Sco.side n1
       have s3':=beq_iff_eq.1 s3
       cases k13:e.kind==13 with
       | false =>
        rw [k13] at n1
        have n2:=n1.trans (DG _)
        have pm:E0 m e=({ m with inns:=m.inns.set (lnx m.inns) (Au m.rules (As m) e).1 },0):=by
         unfold E0
         simp only [hq,k13,Bool.not_true,Bool.false_and,cond_false]
        rw [pm] at c2 c3 stg ⊢
        refine ⟨?_,stg (by rw [c2];exact List.length_set) ?_⟩
        ·unfold Nc AAg
         simp only [cond_false,MK,n2,xl,hlen,YZ _ _ hl]
         rfl
        ·rcases c3 with c3 | ⟨_,c3 | c3 | c3⟩
         ·exact Or.inl (c3.trans s3')
         ·exact Or.inr (Or.inl c3)
         ·exact Or.inr (Or.inr (Or.inl ⟨c3.1,by have:=c3.2;change (m.inns.set _ _).length=2 at this;rw [List.length_set] at this;exact this⟩))
         ·exact Or.inr (Or.inr (Or.inr c3))
       | true =>
        have e13:=beq_iff_eq.1 k13
        have o0:D2 e=0:=by unfold D2;rw [e13];rfl
        rw [Wm _ (by rw [e13];rfl) o0,k13,Bool.true_and] at n1
        have bk:Ea (fun k=>(sco (m.inns.map (Bm m.rules.balls)) k).side) e.side m.inns.length=cond (e.side==(As m).side) (some (lnx m.inns)) (Ea (fun k=>(inn m.inns k).side) e.side (lnx m.inns)):=by
         have:m.inns.length=lnx m.inns+1:=by omega
         rw [this]
         show cond ((sco (m.inns.map (Bm m.rules.balls)) (lnx m.inns)).side==e.side) _ (Ea (fun k=>(sco (m.inns.map (Bm m.rules.balls)) k).side) e.side (lnx m.inns))=_
         simp only [zn]
         have sy:((inn m.inns (lnx m.inns)).side==e.side)=(e.side==(As m).side):=by
          show ((As m).side==e.side)=_
          rw [Bool.eq_iff_iff,beq_iff_eq,beq_iff_eq]
          exact eq_comm
         rw [sy]
        cases hsd:e.side==(As m).side with
        | true =>
         rw [hsd] at n1 bk
         simp only [cond_true] at n1 bk
         have pm:E0 m e=({ m with inns:=m.inns.set (lnx m.inns) (Au m.rules (As m) e).1 },0):=by
          unfold E0
          simp only [hq,k13,sd1,hsd,Bool.not_true,Bool.and_false,cond_false]
         rw [pm] at c2 c3 stg ⊢
         refine ⟨?_,stg (by rw [c2];exact List.length_set) ?_⟩
         ·unfold Nc jF
          simp only [cond_true,MK,n1,xl,bk,YZ _ _ hl]
          rfl
         ·rcases c3 with c3 | ⟨_,c3 | c3 | c3⟩
          ·exact Or.inl (c3.trans s3')
          ·exact Or.inr (Or.inl c3)
          ·exact Or.inr (Or.inr (Or.inl ⟨c3.1,by have:=c3.2;change (m.inns.set _ _).length=2 at this;rw [List.length_set] at this;exact this⟩))
          ·exact Or.inr (Or.inr (Or.inr c3))
        | false =>
         rw [hsd] at n1 bk
         simp only [cond_false] at n1 bk
         have n2:=n1.trans (DG _)
         have pm:E0 m e=(He { m with inns:=m.inns.set (lnx m.inns) (Au m.rules (As m) e).1 } e.side,0):=by
          unfold E0
          simp only [hq,k13,sd1,hsd,Bool.not_true,Bool.not_false,Bool.and_true,cond_true,cond_false]
         have ab:NB (m.inns.set (lnx m.inns) (Au m.rules (As m) e).1) e.side (m.inns.set (lnx m.inns) (Au m.rules (As m) e).1).length=Ea (fun k=>(inn m.inns k).side) e.side (lnx m.inns):=by
          rw [vj,List.length_set,show m.inns.length=lnx m.inns+1 by omega]
          show cond ((inn (m.inns.set (lnx m.inns) (Au m.rules (As m) e).1) (lnx m.inns)).side==e.side) (some (lnx m.inns)) (Ea (fun k=>(inn (m.inns.set (lnx m.inns) (Au m.rules (As m) e).1) k).side) e.side (lnx m.inns))=Ea (fun k=>(inn m.inns k).side) e.side (lnx m.inns)
          rw [fp _ _ _ _ hl,if_pos rfl,sd1]
          have sy:((As m).side==e.side)=false:=by
           rw [← hsd,Bool.eq_iff_iff,beq_iff_eq,beq_iff_eq]
           exact eq_comm
          rw [sy]
          exact kV _ (fun k hk=>by rw [fp _ _ _ _ (by omega),if_neg (by omega)])
         have mx:(m.inns.set (lnx m.inns) (Au m.rules (As m) e).1).map (Bm m.rules.balls)=m.inns.map (Bm m.rules.balls):=by
          rw [MK,n2,show Bm m.rules.balls (As m)=sco (m.inns.map (Bm m.rules.balls)) (lnx m.inns) from (YZ _ _ hl).symm]
          exact tR _ _ (by rw [xl];exact hl)
         obtain ⟨a1,a2,a3,a4⟩:=qr (m:={ m with inns:=m.inns.set (lnx m.inns) (Au m.rules (As m) e).1 }) e.side (RB (lnx m.inns) (oY ok) (by
          have lv:=PK (ok.innv (lnx m.inns) hl).1
          have l1:=lv.1
          have l2:=lv.2.1
          exact KO (Sb m.rules (As m) e) lv.2.2 (show (inn m.inns (lnx m.inns)).before.length+(inn m.inns (lnx m.inns)).bowlers.length≤1048575 by omega)))
         have a3':(He { m with inns:=m.inns.set (lnx m.inns) (Au m.rules (As m) e).1 } e.side).inns.length=m.inns.length:=a3.trans List.length_set
         rw [pm] at c2 c3 stg ⊢
         refine ⟨?_,stg (by rw [c2];exact a3') ?_⟩
         ·simp only [cond_true]
          unfold He
          simp only [ab]
          unfold jF
          show Nc _=match Ea (fun k=>(sco (m.inns.map (Bm m.rules.balls)) k).side) e.side (m.inns.map (Bm m.rules.balls)).length with
           | some k=>_
           | none=>_
          rw [xl,bk]
          cases hk:Ea (fun k=>(inn m.inns k).side) e.side (lnx m.inns) with
          | none =>
           have i1:IntKind.i64.wrap (m.pen1+5)=m.pen1+5:=A9 (by omega) (by omega)
           have i2:IntKind.i64.wrap (m.pen2+5)=m.pen2+5:=A9 (by omega) (by omega)
           unfold Nc
           simp only [mx,i1,i2]
          | some k =>
           have hk2:=(cq _ hk).1
           have hki:inn (m.inns.set (lnx m.inns) (Au m.rules (As m) e).1) k=inn m.inns k:=by rw [fp _ _ _ _ (by omega),if_neg (by omega)]
           unfold Nc
           simp only [hki,MK (k:=k),mx,AAq (ok.innv k (by omega)).1,YZ _ _ (show k<m.inns.length by omega)]
         ·rcases c3 with c3 | ⟨_,c3 | c3 | c3⟩
          ·exact Or.inl (c3.trans (a4.trans s3'))
          ·exact Or.inr (Or.inl c3)
          ·exact Or.inr (Or.inr (Or.inl ⟨c3.1,a3'.symm.trans c3.2⟩))
          ·exact Or.inr (Or.inr (Or.inr c3))
end Go.Px
end
section
namespace Go.Px
set_option maxRecDepth 100000
def opn (L:Rows):Nat→Nat
 | 0=>0
 | n+1=>opn L n+cond ((evR L n).kind==2) 1 0
theorem jY (L:Rows) (n:Nat):opn L n≤opn L (n+1):=by
 show opn L n≤opn L n+_
 exact Nat.le_add_right _ _
theorem Ir (L:Rows) {i:Nat}:∀ {j:Nat},i≤j→opn L i≤opn L j
 | 0,h=>by rw [Nat.le_zero.1 h];exact Nat.le_refl _
 | j+1,h=>by
  by_cases e:i=j+1
  ·rw [e];exact Nat.le_refl _
  ·exact Nat.le_trans (Ir L (by omega)) (jY L j)
def Dm (L:Rows):Nat→Option Int
 | 0=>none
 | n+1=>match Dm L n with
  | some v=>some v
  | none=>cond ((evR L n).kind==1) (some (SP (evR L n))) none
theorem gw {L:Rows} {v:Int} {i:Nat} (h:Dm L i=some v):∀ {j:Nat},i≤j→Dm L j=some v
 | 0,hj=>by rw [Nat.le_zero.1 hj] at h;exact h
 | j+1,hj=>by
  by_cases e:i=j+1
  ·rw [← e];exact h
  ·unfold Dm
   rw [gw h (show i≤j by omega)]
def Dx (L:Rows):Nat→Bool
 | 0=>false
 | n+1=>Dx L n||((evR L n).kind==12&&(evR L n).yes)
def had (L:Rows):Nat→Bool
 | 0=>false
 | n+1=>had L n||(evR L n).kind==12
theorem vd {L:Rows}:∀ n,had L n=false→Dx L n=false
 | 0,_=>rfl
 | n+1,h=>by
  unfold had at h
  unfold Dx
  rw [Bool.or_eq_false_iff] at h
  rw [vd n h.1,h.2]
  rfl
structure LogI (L:Rows) (i:Nat) (m:Mat):Prop where
 len:m.inns.length=opn L i
 fs:∀ v,Dm L i=some v→m.first=v∧¬ m.stage=1
 fn:Dm L i=none→m.first=0
 fol:m.follow=Dx L i
 k12:had L i=true→(m.inns.length=2∧(m.stage=2∨m.stage=5))∨3≤m.inns.length
structure EvF (L:Rows) (i:Nat):Prop where
 two:((evR L i).kind==2)=true→opn L i≤3∧∃ v,Dm L i=some v∧(v=1∨v=2)
 twelve:((evR L i).kind==12)=true→opn L i=2
 play:((evR L i).kind==1)=false→((evR L i).kind==2)=false→((evR L i).kind==12)=false→((evR L i).kind==16)=false→1≤opn L i
theorem zi (s:Int) (T:TS):(jF s T).xs.length=T.xs.length∧(jF s T).first=T.first∧(jF s T).follow=T.follow:=by
 unfold jF
 cases Ea (fun k=>(sco T.xs k).side) s T.xs.length with
 | none=>exact ⟨rfl,rfl,rfl⟩
 | some k=>exact ⟨List.length_set,rfl,rfl⟩
theorem xG (r:Rul) (e:Ev) (T:TS):(aa r e T).xs.length=T.xs.length+cond (e.kind==2) 1 0∧(aa r e T).first=cond (e.kind==1) (SP e) T.first∧(aa r e T).follow=cond (e.kind==12) e.yes T.follow:=by
 unfold aa
 cases k1:e.kind==1 with
 | true =>
  rw [beq_iff_eq.1 k1]
  exact ⟨rfl,rfl,rfl⟩
 | false =>
  cases k2:e.kind==2 with
  | true =>
   rw [beq_iff_eq.1 k2]
   refine ⟨?_,rfl,rfl⟩
   show (T.xs++[_]).length=_
   rw [List.length_append]
   rfl
  | false =>
   cases k12:e.kind==12 with
   | true=>exact ⟨rfl,rfl,rfl⟩
   | false =>
    cases k16:e.kind==16 with
    | true=>exact ⟨rfl,rfl,rfl⟩
    | false =>
     cases k13:e.kind==13 with
     | true=>exact zi e.side T
     | false=>exact ⟨List.length_set,rfl,rfl⟩
theorem zl {L:Rows} {i:Nat} {m:Mat} (h:LogI L i m) (ha:((C8 m (evR L i)).2==0)=true):LogI L (i+1) (C8 m (evR L i)).1∧EvF L i:=by
 obtain ⟨ab,sg⟩:=rA ha
 obtain ⟨hv,he,h5,hp,hs⟩:=j0 ha
 have vp:=lT hv
 obtain ⟨t1,t2,t3⟩:=xG m.rules (evR L i) (Nc m)
 rw [← ab] at t1 t2 t3
 have x1:∀ z:Mat,(Nc z).xs.length=z.inns.length:=fun z=>List.length_map _
 rw [x1,x1] at t1
 change (C8 m (evR L i)).1.first=cond ((evR L i).kind==1) (SP (evR L i)) m.first at t2
 change (C8 m (evR L i)).1.follow=cond ((evR L i).kind==12) (evR L i).yes m.follow at t3
 have no12:((evR L i).kind==12)=true→had L i=false:=fun k=>by
  obtain ⟨s1,s2,s3⟩:=sg.k12 k
  cases hh:had L i with
  | false=>rfl
  | true=>rcases h.k12 hh with ⟨_,q | q⟩ | q<;>omega
 have no5:¬ m.stage=5:=beq_eq_false_iff_ne.1 h5
 refine ⟨⟨?_,?_,?_,?_,?_⟩,⟨?_,?_,?_⟩⟩
 ·rw [t1,h.len];rfl
 ·intro v hv2
  refine ⟨?_,sg.not1⟩
  rw [t2]
  unfold Dm at hv2
  cases hf:Dm L i with
  | some w =>
   rw [hf] at hv2
   cases hv2
   obtain ⟨f1,f2⟩:=h.fs _ hf
   cases k1:(evR L i).kind==1 with
   | true=>exact absurd (sg.k1 k1).1 f2
   | false=>exact f1
  | none =>
   rw [hf] at hv2
   cases k1:(evR L i).kind==1 with
   | true =>
    simp only [k1,cond_true] at hv2
    cases hv2
    rfl
   | false =>
    simp only [k1,cond_false] at hv2
    cases hv2
 ·intro hn
  rw [t2]
  unfold Dm at hn
  cases hf:Dm L i with
  | some w=>rw [hf] at hn;cases hn
  | none =>
   rw [hf] at hn
   cases k1:(evR L i).kind==1 with
   | true =>
    simp only [k1,cond_true] at hn
    cases hn
   | false=>exact h.fn hf
 ·rw [t3]
  unfold Dx
  cases k12:(evR L i).kind==12 with
  | true=>rw [vd i (no12 k12)];rfl
  | false=>rw [h.fol,Bool.false_and,Bool.or_false];rfl
 ·intro hh
  rw [t1]
  unfold had at hh
  cases k12:(evR L i).kind==12 with
  | true =>
   obtain ⟨s1,s2,s3⟩:=sg.k12 k12
   rw [beq_iff_eq.1 k12]
   exact Or.inl ⟨s2,Or.inl s3⟩
  | false =>
   rw [k12,Bool.or_false] at hh
   rcases h.k12 hh with ⟨q1,q2⟩ | q
   ·cases k2:(evR L i).kind==2 with
    | true=>exact Or.inr (by simp only [cond_true];omega)
    | false =>
     refine Or.inl ⟨q1,?_⟩
     cases k16:(evR L i).kind==16 with
     | true=>exact Or.inr (sg.k16 k16)
     | false =>
      cases k1:(evR L i).kind==1 with
      | true=>have:=(sg.k1 k1).1;omega
      | false=>have:=(sg.play k1 k2 k12 k16).1;omega
   ·exact Or.inr (Nat.le_trans q (Nat.le_add_right _ _))
 ·intro k2
  obtain ⟨s1,s2⟩:=sg.k2 k2
  refine ⟨by rw [← h.len];exact s2,?_⟩
  have tk:=(Ur hv).toss (by rw [s1];rfl)
  cases hf:Dm L i with
  | none=>have:=h.fn hf;omega
  | some w=>exact ⟨w,rfl,by rw [← (h.fs w hf).1];exact tk⟩
 ·intro k
  rw [← h.len]
  exact (sg.k12 k).2.1
 ·intro a b c d
  rw [← h.len]
  exact (sg.play a b c d).2
theorem ABH {r:Rul} (h:((Cf r).2==0)=true):(Cf r).1=⟨r,1,0,false,[],0,0,0,0,0⟩∧A2 r=0:=by
 unfold Cf at h ⊢
 cases hc:A2 r==0 with
 | false=>rw [hc] at h;exact absurd (show (A2 r==0)=true from h) (by rw [hc];decide)
 | true=>exact ⟨rfl,beq_iff_eq.1 hc⟩
theorem nj {r:Rul} {L:Rows} {n:Nat} (hc:((Cf r).2==0)=true) (ha:acc L n 0 (Cf r).1):∀ i,i≤n→LogI L i (stM L i 0 (Cf r).1)∧StepOk r (stM L i 0 (Cf r).1)∧∀ j,j<i→Nc (stM L (j+1) 0 (Cf r).1)=aa r (evR L j) (Nc (stM L j 0 (Cf r).1))∧EvF L j
 | 0,_=>by
  refine ⟨?_,nD r hc,fun j hj=>absurd hj (Nat.not_lt_zero j)⟩
  show LogI L 0 (Cf r).1
  rw [(ABH hc).1]
  exact ⟨rfl,fun v h=>(by cases h),fun _=>rfl,rfl,fun h=>(by cases h)⟩
 | i+1,hi=>by
  obtain ⟨h1,h2,h3⟩:=nj hc ha i (by omega)
  have a0:=xi n 0 _ ha i (by omega)
  have s0:=rJ (L:=L) i 0 (Cf r).1
  rw [Nat.zero_add] at a0 s0
  have q:=(yE a0).1
  rw [q] at s0 a0
  obtain ⟨l1,l2⟩:=zl h1 a0
  rw [s0]
  refine ⟨l1,by rw [← q];exact jo h2 _ _,fun j hj=>?_⟩
  by_cases e:j=i
  ·subst e
   rw [s0]
   refine ⟨?_,l2⟩
   rw [(rA a0).1,h2.rules]
  ·exact h3 j (by omega)
def sdF (L:Rows) (n:Nat) (j:Nat):Int:=qN ((Dm L n).getD 1) (Dx L n) (j:Int)
def smi (L:Rows) (f:Ev→Int) (j:Nat):Nat→Int
 | 0=>0
 | n+1=>smi L f j n+cond (Nat.beq (opn L (n+1)) (j+1)) (f (evR L n)) 0
theorem Kj (L:Rows) (f:Ev→Int) (j n:Nat):smi L f j (n+1)=smi L f j n+cond (Nat.beq (opn L (n+1)) (j+1)) (f (evR L n)) 0:=rfl
theorem eu {a b:Nat} (h:¬ a=b):Nat.beq a b=false:=by
 cases hq:Nat.beq a b with
 | false=>rfl
 | true=>exact absurd (Nat.eq_of_beq_eq_true hq) h
theorem UV (a:Nat):Nat.beq a a=true:=Nat.beq_refl a
theorem VQ {L:Rows} {f:Ev→Int} {j:Nat}:∀ n,opn L n≤j→smi L f j n=0
 | 0,_=>rfl
 | n+1,h=>by
  have:=jY L n
  unfold smi
  rw [VQ n (by omega),eu (by omega)]
  rfl
def kJ (sd:Nat→Int) (s:Int):Nat→Nat→Option Nat
 | 0,_=>none
 | c+1,i=>cond (sd i==s) (some i) (kJ sd s c (i+1))
theorem tf {sd:Nat→Int} {s:Int} {j:Nat}:∀ c i,kJ sd s c i=some j→i≤j∧j<i+c∧sd j=s∧∀ k,i≤k→k<j→¬ sd k=s
 | 0,_,h=>by cases h
 | c+1,i,h=>by
  unfold kJ at h
  cases hq:sd i==s with
  | true =>
   rw [hq] at h
   cases h
   exact ⟨Nat.le_refl _,by omega,beq_iff_eq.1 hq,fun k h1 h2=>by omega⟩
  | false =>
   rw [hq] at h
   obtain ⟨h1,h2,h3,h4⟩:=tf c (i+1) h
   refine ⟨by omega,by omega,h3,fun k k1 k2=>?_⟩
   by_cases e:k=i
   ·subst e;exact beq_eq_false_iff_ne.1 hq
   ·exact h4 k (by omega) k2
def G3 (sd:Nat→Int) (n k:Nat) (s:Int):Option Nat:=match Ea sd s (k+1) with
 | some j=>some j
 | none=>kJ sd s (n - (k+1)) (k+1)
theorem zt {sd:Nat→Int} {n k j:Nat} {s:Int} (h:G3 sd n k s=some j):sd j=s∧(j≤k∨(k<j∧j<n∧Ea sd s (k+1)=none)):=by
 unfold G3 at h
 cases hb:Ea sd s (k+1) with
 | some w =>
  rw [hb] at h
  cases h
  have:=cq _ hb
  exact ⟨this.2,Or.inl (by omega)⟩
 | none =>
  rw [hb] at h
  obtain ⟨h1,h2,h3,h4⟩:=tf _ _ h
  exact ⟨h3,Or.inr ⟨by omega,by omega,rfl⟩⟩
def isS (o:Option Nat) (j:Nat):Bool:=match o with
 | some k=>Nat.beq k j
 | none=>false
def pnS (L:Rows) (sd:Nat→Int) (n j:Nat):Nat→Int
 | 0=>0
 | i+1=>pnS L sd n j i+cond ((evR L i).kind==13&&isS (G3 sd n (opn L (i+1) - 1) (evR L i).side) j) 5 0
theorem YP (L:Rows) (sd:Nat→Int) (n j i:Nat):pnS L sd n j (i+1)=pnS L sd n j i+cond ((evR L i).kind==13&&isS (G3 sd n (opn L (i+1) - 1) (evR L i).side) j) 5 0:=rfl
def pcS (L:Rows) (s:Int):Nat→Int
 | 0=>0
 | i+1=>pcS L s i+cond ((evR L i).kind==13&&(evR L i).side==s) 5 0
def AAi (L:Rows) (sd:Nat→Int) (s:Int) (k i:Nat):Int:=match Ea sd s k with
 | some _=>0
 | none=>pcS L s i
def Qz (r:Rul) (e:Ev):Int:=DB (Ao r e)
def K1 (r:Rul) (e:Ev):Int:=cond (Ao r e).counts 1 0
def BU (r:Rul) (L:Rows) (sd:Nat→Int) (n j i:Nat):Sco:=⟨sd j,smi L (Qz r) j i+pnS L sd n j i,smi L F1 j i,smi L (K1 r) j i,smi L (fun e=>(Ao r e).wides) j i,smi L (fun e=>(Ao r e).noballs) j i,smi L (fun e=>(Ao r e).byes) j i,smi L (fun e=>(Ao r e).legbyes) j i,pnS L sd n j i,0⟩
theorem AAB (r:Rul) (L:Rows) (sd:Nat→Int) (n j i:Nat):BU r L sd n j (i+1)=H0 (cond ((evR L i).kind==13&&isS (G3 sd n (opn L (i+1) - 1) (evR L i).side) j) 5 0) (cond (Nat.beq (opn L (i+1)) (j+1)) (Q0 r (evR L i) (BU r L sd n j i)) (BU r L sd n j i)):=by
 unfold BU
 simp only [Kj,YP]
 generalize (cond ((evR L i).kind==13&&isS (G3 sd n (opn L (i+1) - 1) (evR L i).side) j) 5 0:Int)=p
 cases Nat.beq (opn L (i+1)) (j+1) with
 | false =>
  unfold H0
  simp only [cond_false,Int.add_zero,Int.add_assoc]
 | true =>
  unfold H0 Q0
  simp only [cond_true]
  rw [Sco.mk.injEq]
  refine ⟨rfl,?_,rfl,rfl,rfl,rfl,rfl,rfl,rfl,rfl⟩
  unfold Qz
  omega
structure Clo (r:Rul) (L:Rows) (sd:Nat→Int) (n i:Nat) (T:TS):Prop where
 len:T.xs.length=opn L i
 at':∀ j,j<opn L i→sco T.xs j=BU r L sd n j i
 p1:T.p1=AAi L sd 1 (opn L i) i
 p2:T.p2=AAi L sd 2 (opn L i) i
end Go.Px
end
section
namespace Go.Px
set_option maxRecDepth 100000
def Sco.ls (s:Sco):List PV:=[.int s.side,.int s.runs,.int s.wickets,.int s.balls,.int s.wides,.int s.noballs,.int s.byes,.int s.legbyes,.int s.pens,.int s.ending]
def Ap (xs:List Sco):Rows:=xs.map Sco.ls
def dS:Sco:=⟨0,0,0,0,0,0,0,0,0,0⟩
theorem vg (xs:List Sco) (i:Nat):Ar (Ap xs) i=(match xs[i]? with | some s=>s.ls | none=>[]):=by
 unfold Ar Ap
 rw [List.getD_eq_getElem?_getD,List.getElem?_map]
 cases xs[i]?<;>rfl
theorem kG (xs:List Sco):(Ap xs).length=xs.length:=List.length_map _
theorem PXs : (∀ xs : List Sco, (Ap xs).length = xs.length) ∧ (∀ (xs : List Sco) (i : Nat), pvI (AD (Ap xs) i 0) = (sco xs i).side) ∧ (∀ (xs : List Sco) (i : Nat), pvI (AD (Ap xs) i 1) = (sco xs i).runs) ∧ (∀ (xs : List Sco) (i : Nat), pvI (AD (Ap xs) i 2) = (sco xs i).wickets) ∧ (∀ (xs : List Sco) (i : Nat), pvI (AD (Ap xs) i 3) = (sco xs i).balls) ∧
    (∀ (xs:List Sco) (i:Nat),pvI (AD (Ap xs) i 4)=(sco xs i).wides)∧(∀ (xs:List Sco) (i:Nat),pvI (AD (Ap xs) i 5)=(sco xs i).noballs)∧(∀ (xs:List Sco) (i:Nat),pvI (AD (Ap xs) i 6)=(sco xs i).byes)∧(∀ (xs:List Sco) (i:Nat),pvI (AD (Ap xs) i 7)=(sco xs i).legbyes)∧(∀ (xs:List Sco) (i:Nat),pvI (AD (Ap xs) i 8)=(sco xs i).pens)∧(∀ (xs:List Sco) (i:Nat),pvI (AD (Ap xs) i 9)=(sco xs i).ending):=by
  refine ⟨kG,?_,?_,?_,?_,?_,?_,?_,?_,?_,?_⟩
  all_goals (intro xs i;rw [FK];unfold AD;rw [vg];cases xs[i]?<;>rfl)
theorem DL {xs:List Sco} {i j:Nat} {v:Int} (f:Sco→Sco) (h:∀ s:Sco,BD s.ls j [.int v]=(f s).ls):(Ap xs).set i (BD (Ar (Ap xs) i) j [.int v])=Ap (xs.set i (f (sco xs i))):=by
 by_cases hi:i<xs.length
 ·have e:Ar (Ap xs) i=(sco xs i).ls:=by rw [vg,FK,List.getElem?_eq_getElem hi]
  rw [e,h]
  exact List.map_set.symm
 ·rw [List.set_eq_of_length_le (by rw [kG];omega),List.set_eq_of_length_le (by omega)]
theorem PXt : (∀ (xs : List Sco) (i : Nat) (v : Int), (Ap xs).set i (BD (Ar (Ap xs) i) 0 [.int v]) = Ap (xs.set i { sco xs i with side := v })) ∧ (∀ (xs : List Sco) (i : Nat) (v : Int), (Ap xs).set i (BD (Ar (Ap xs) i) 1 [.int v]) = Ap (xs.set i { sco xs i with runs := v })) ∧
    (∀ (xs:List Sco) (i:Nat) (v:Int),(Ap xs).set i (BD (Ar (Ap xs) i) 2 [.int v])=Ap (xs.set i { sco xs i with wickets:=v }))∧(∀ (xs:List Sco) (i:Nat) (v:Int),(Ap xs).set i (BD (Ar (Ap xs) i) 3 [.int v])=Ap (xs.set i { sco xs i with balls:=v })) ∧
    (∀ (xs:List Sco) (i:Nat) (v:Int),(Ap xs).set i (BD (Ar (Ap xs) i) 4 [.int v])=Ap (xs.set i { sco xs i with wides:=v }))∧(∀ (xs:List Sco) (i:Nat) (v:Int),(Ap xs).set i (BD (Ar (Ap xs) i) 5 [.int v])=Ap (xs.set i { sco xs i with noballs:=v })) ∧
    (∀ (xs:List Sco) (i:Nat) (v:Int),(Ap xs).set i (BD (Ar (Ap xs) i) 6 [.int v])=Ap (xs.set i { sco xs i with byes:=v }))∧(∀ (xs:List Sco) (i:Nat) (v:Int),(Ap xs).set i (BD (Ar (Ap xs) i) 7 [.int v])=Ap (xs.set i { sco xs i with legbyes:=v })) ∧
    (∀ (xs:List Sco) (i:Nat) (v:Int),(Ap xs).set i (BD (Ar (Ap xs) i) 8 [.int v])=Ap (xs.set i { sco xs i with pens:=v }))∧(∀ (xs:List Sco) (i:Nat) (v:Int),(Ap xs).set i (BD (Ar (Ap xs) i) 9 [.int v])=Ap (xs.set i { sco xs i with ending:=v })) ∧
    (∀ (xs:List Sco) (a b c d e f g h i j:Int),Ap xs++[([.int a,.int b,.int c,.int d,.int e,.int f,.int g,.int h,.int i,.int j]:List PV)]=Ap (xs++[⟨a,b,c,d,e,f,g,h,i,j⟩])):=by
  exact ⟨fun xs i v=>DL (j:=0) (v:=v) (fun s=>{ s with side:=v }) (fun s=>rfl),fun xs i v=>DL (j:=1) (v:=v) (fun s=>{ s with runs:=v }) (fun s=>rfl),fun xs i v=>DL (j:=2) (v:=v) (fun s=>{ s with wickets:=v }) (fun s=>rfl),fun xs i v=>DL (j:=3) (v:=v) (fun s=>{ s with balls:=v }) (fun s=>rfl),fun xs i v=>DL (j:=4) (v:=v) (fun s=>{ s with wides:=v }) (fun s=>rfl),fun xs i v=>DL (j:=5) (v:=v) (fun s=>{ s with noballs:=v }) (fun s=>rfl),fun xs i v=>DL (j:=6) (v:=v) (fun s=>{ s with byes:=v }) (fun s=>rfl),fun xs i v=>DL (j:=7) (v:=v) (fun s=>{ s with legbyes:=v }) (fun s=>rfl),fun xs i v=>DL (j:=8) (v:=v) (fun s=>{ s with pens:=v }) (fun s=>rfl),fun xs i v=>DL (j:=9) (v:=v) (fun s=>{ s with ending:=v }) (fun s=>rfl),
    fun xs a b c d e f g h i j=>(List.map_append (f:=Sco.ls) (l₁:=xs) (l₂:=[⟨a,b,c,d,e,f,g,h,i,j⟩])).symm⟩
theorem AA7 (n:Nat):List.replicate n ([.int 0,.int 0,.int 0,.int 0,.int 0,.int 0,.int 0,.int 0,.int 0,.int 0]:List PV)=Ap (List.replicate n dS):=by
 unfold Ap
 rw [List.map_replicate]
 rfl
def FT (xs:List (Int×Int)):Rows:=xs.map fun x=>[.int x.1,.int x.2]
def pr (xs:List (Int×Int)) (i:Nat):Int×Int:=xs.getD i (0,0)
theorem Z8 (xs:List (Int×Int)) (i:Nat):pr xs i=(match xs[i]? with | some s=>s | none=>(0,0)):=by
 unfold pr
 rw [List.getD_eq_getElem?_getD]
 cases xs[i]?<;>rfl
theorem sE (xs:List (Int×Int)) (i:Nat):Ar (FT xs) i=(match xs[i]? with | some s=>[.int s.1,.int s.2] | none=>[]):=by
 unfold Ar FT
 rw [List.getD_eq_getElem?_getD,List.getElem?_map]
 cases xs[i]?<;>rfl
theorem qZ (xs:List (Int×Int)):(FT xs).length=xs.length:=List.length_map _
theorem PXp : (∀ xs : List (Int × Int), (FT xs).length = xs.length) ∧ (∀ (xs : List (Int × Int)) (i : Nat), pvI (AD (FT xs) i 0) = (pr xs i).1) ∧ (∀ (xs : List (Int × Int)) (i : Nat), pvI (AD (FT xs) i 1) = (pr xs i).2) ∧
    (∀ (xs:List (Int×Int)) (i:Nat) (v:Int),(FT xs).set i (BD (Ar (FT xs) i) 1 [.int v])=FT (xs.set i ((pr xs i).1,v)))∧(∀ (xs:List (Int×Int)) (a b:Int),FT xs++[([.int a,.int b]:List PV)]=FT (xs++[(a,b)])):=by
  refine ⟨qZ,?_,?_,?_,?_⟩
  · intro xs i;rw [Z8];unfold AD;rw [sE];cases xs[i]?<;>rfl
  · intro xs i;rw [Z8];unfold AD;rw [sE];cases xs[i]?<;>rfl
  · intro xs i v
    by_cases hi:i<xs.length
    · have e:Ar (FT xs) i=[.int (pr xs i).1,.int (pr xs i).2]:=by rw [sE,Z8,List.getElem?_eq_getElem hi]
      rw [e]
      exact (List.map_set (f:=fun x:Int×Int=>[PV.int x.1,PV.int x.2]) (l:=xs) (i:=i) (a:=((pr xs i).1,v))).symm
    · rw [List.set_eq_of_length_le (by rw [qZ];omega),List.set_eq_of_length_le (by omega)]
  · intro xs a b;exact (List.map_append (f:=fun x:Int×Int=>[PV.int x.1,PV.int x.2]) (l₁:=xs) (l₂:=[(a,b)])).symm
end Go.Px
end
section
namespace Go.Px
set_option maxRecDepth 100000
theorem Se (L:Rows):∀ i,opn L i≤i
 | 0=>Nat.le_refl _
 | i+1=>by
  have:=Se L i
  show opn L i+cond _ 1 0≤_
  cases (evR L i).kind==2<;>simp only [cond_true,cond_false]<;>omega
def Ha (xs:List (Int×Int)) (v:Int):List (Int×Int):=cond (iLt 0 (xs.length:Int)) (xs.set (IntKind.i64.wrap ((xs.length:Int) - 1)).toNat ((pr xs (IntKind.i64.wrap ((xs.length:Int) - 1)).toNat).1,v)) xs
def Bu (L:Rows):Nat→List (Int×Int)
 | 0=>[]
 | i+1=>cond ((evR L i).kind==2) (Ha (Bu L i) (i:Int)++[((i:Int),(L.length:Int))]) (Bu L i)
theorem XP (xs:List (Int×Int)) (v:Int):(Ha xs v).length=xs.length:=by
 unfold Ha
 cases iLt 0 (xs.length:Int)
 ·rfl
 ·exact List.length_set
theorem F7 (L:Rows):∀ i,(Bu L i).length=opn L i
 | 0=>rfl
 | i+1=>by
  have ih:=F7 L i
  show (cond ((evR L i).kind==2) _ (Bu L i)).length=opn L i+cond ((evR L i).kind==2) 1 0
  cases (evR L i).kind==2 with
  | false=>exact ih
  | true=>rw [cond_true,cond_true,List.length_append,XP,ih];rfl
theorem na {n:Nat} (h:0<n) (h2:n≤1048576):(IntKind.i64.wrap ((n:Int) - 1)).toNat=n - 1∧iIn (IntKind.i64.wrap ((n:Int) - 1)) (n:Int)=true:=by
 rw [C0 (by omega) (by omega)]
 refine ⟨by omega,?_⟩
 simp only [iIn,decide_eq_true_eq]
 omega
theorem tE {N : Nat} {L : Rows} (hN : 2097152 < N) (hL : L.length ≤ 1048576) {F : (List AZ → Option (List PV)) → List PV → Option (List PV)}
    (h0:∀ self,F self [.rows (FT (Bu L L.length)),.int (L.length:Int)]=some [.rows (FT (Bu L L.length))])
    (h1:∀ i self,i<L.length→(Bu L i).length≤1048575→F self [.rows (FT (Bu L i)),.int (i:Int)]=self [.rows (FT (Bu L (i+1))),.int (((i+1:Nat)):Int)]):DR F N [.rows (FT []),.int 0]=some [.rows (FT (Bu L L.length))]:=by
  have:=Bk (F:=F) (len:=L.length) (fun i=>[.rows (FT (Bu L i)),.int (i:Int)]) [.rows (FT (Bu L L.length))] h0 (fun i self hi=>h1 i self hi (by rw [F7];have:=Se L i;omega)) N (by omega)
  exact this
theorem Cp {i:Nat} (h:i≤1099511627776):IntKind.i64.wrap ((i:Int)+1)=((i+1:Nat):Int):=AR h
theorem tP {L:Rows} {i:Nat} {xs:List (Int×Int)} (hk:((evR L i).kind==2)=true) (he:Bu L i=xs) (h:iLt 0 (xs.length:Int)=true):Bu L (i+1)=xs.set (IntKind.i64.wrap ((xs.length:Int) - 1)).toNat ((pr xs (IntKind.i64.wrap ((xs.length:Int) - 1)).toNat).1,(i:Int))++[((i:Int),(L.length:Int))]:=by
 show cond ((evR L i).kind==2) (Ha (Bu L i) (i:Int)++[((i:Int),(L.length:Int))]) (Bu L i)=_
 rw [hk,he]
 unfold Ha
 rw [h]
 rfl
theorem oH {L:Rows} {i:Nat} {xs:List (Int×Int)} (hk:((evR L i).kind==2)=true) (he:Bu L i=xs) (h:iLt 0 (xs.length:Int)=false):Bu L (i+1)=xs++[((i:Int),(L.length:Int))]:=by
 show cond ((evR L i).kind==2) (Ha (Bu L i) (i:Int)++[((i:Int),(L.length:Int))]) (Bu L i)=_
 rw [hk,he]
 unfold Ha
 rw [h]
 rfl
theorem jR {L:Rows} {i:Nat} (hk:((evR L i).kind==2)=false):Bu L (i+1)=Bu L i:=by
 show cond ((evR L i).kind==2) _ (Bu L i)=_
 rw [hk]
 rfl
set_option maxHeartbeats 1000000 in
theorem LN {N:Nat} {L:Rows} (hN:2097152<N) (hL:L.length≤1048576):BI N [.rows L]=some [.rows (FT (Bu L L.length))]:=by
 show Ll (std (Uc N) N) (xOf _)=_
 simp only [Ll,std,xOf,PXb]
 refine AM (tE hN hL ?_ ?_) rfl
 ·intro self
  simp only [PXb,PXc,PXn,AA,Ac]
 ·intro i self hi hlen
  have kk:(evR L i).kind=atI L i 0:=rfl
  simp only [PXb,PXc,PXn,AA,Cp (show i≤1099511627776 by omega),AX hi,AN hi,A8,PXp,← kk]
  cases hk:(evR L i).kind==2 with
  | false =>
   rw [jR hk]
   rfl
  | true =>
   simp only [PXb,Bool.not_true]
   generalize he:Bu L i=xs at hlen
   cases h0:iLt 0 (xs.length:Int) with
   | false =>
    have sm:iSm ((xs.length+1:Nat):Int) 16=true:=DP (by omega) (by omega)
    rw [oH hk he h0]
    simp only [PXb,PXc,PXn,AA,PXp,List.length_append,List.length_cons,List.length_nil,sm,Nat.reduceAdd]
   | true =>
    have h1:0<xs.length:=by simp only [iLt,decide_eq_true_eq] at h0;omega
    have sm:iSm ((xs.length+1:Nat):Int) 16=true:=DP (by omega) (by omega)
    rw [tP hk he h0]
    simp only [PXb,PXc,PXn,AA,PXp,List.length_append,List.length_cons,List.length_nil,List.length_set,sm,Nat.reduceAdd,(na h1 (by omega)).2]
set_option maxHeartbeats 1000000 in
theorem fA {N:Nat} {L:Rows} (hN:2097152<N) (hL:L.length≤1048576):D9 N [.rows L]=some [.rows (FT (Bu L L.length))]:=by
 show Pz (std (Y8 N) N) (xOf _)=_
 simp only [Pz,std,xOf,PXb]
 refine AM (tE hN hL ?_ ?_) rfl
 ·intro self
  simp only [PXb,PXc,PXn,AA,Ac]
 ·intro i self hi hlen
  have kk:(evR L i).kind=atI L i 0:=rfl
  simp only [PXb,PXc,PXn,AA,Cp (show i≤1099511627776 by omega),AX hi,AN hi,A8,PXp,← kk]
  cases hk:(evR L i).kind==2 with
  | false =>
   rw [jR hk]
   rfl
  | true =>
   simp only [PXb,Bool.not_true]
   generalize he:Bu L i=xs at hlen
   cases h0:iLt 0 (xs.length:Int) with
   | false =>
    have sm:iSm ((xs.length+1:Nat):Int) 16=true:=DP (by omega) (by omega)
    rw [oH hk he h0]
    simp only [PXb,PXc,PXn,AA,PXp,List.length_append,List.length_cons,List.length_nil,sm,Nat.reduceAdd]
   | true =>
    have h1:0<xs.length:=by simp only [iLt,decide_eq_true_eq] at h0;omega
    have sm:iSm ((xs.length+1:Nat):Int) 16=true:=DP (by omega) (by omega)
    rw [tP hk he h0]
    simp only [PXb,PXc,PXn,AA,PXp,List.length_append,List.length_cons,List.length_nil,List.length_set,sm,Nat.reduceAdd,(na h1 (by omega)).2]
theorem l8 (ans:Nat→Option (List PV)):∀ k i,BJ ans (k+1) i=match BJ ans k i with | some r=>some r | none=>ans (i+k)
 | 0,i=>by
  simp only [BJ]
  cases ans i<;>rfl
 | k+1,i=>by
  have ih:=l8 ans k (i+1)
  have e1:BJ ans (k+1+1) i=match ans i with | some r=>some r | none=>BJ ans (k+1) (i+1):=rfl
  have e2:BJ ans (k+1) i=match ans i with | some r=>some r | none=>BJ ans k (i+1):=rfl
  rw [e1,e2,ih,show i+(k+1)=i+1+k by omega]
  cases ans i<;>rfl
def kA (L:Rows) (i:Nat):Option (List PV):=cond ((evR L i).kind==1) (some [.int (SP (evR L i))]) none
theorem sA (L:Rows):∀ n,BJ (kA L) n 0=(Dm L n).map fun v=>[.int v]
 | 0=>rfl
 | n+1=>by
  rw [l8,sA L n,Nat.zero_add]
  show _=(match Dm L n with | some v=>some v | none=>cond ((evR L n).kind==1) (some (SP (evR L n))) none).map fun v=>[PV.int v]
  cases Dm L n with
  | some v=>rfl
  | none =>
   show kA L n=_
   unfold kA
   cases (evR L n).kind==1<;>rfl
def Ja (L:Rows):Int:=(Dm L L.length).getD 1
theorem tX {N : Nat} {L : Rows} (hN : 2097152 < N) (hL : L.length ≤ 1048576) {F : (List AZ → Option (List PV)) → List PV → Option (List PV)} (h0 : ∀ self, F self [.int (L.length : Int)] = some [.int 1])
    (h1:∀ i self,i<L.length→F self [.int (i:Int)]=match kA L i with | some r=>some (.int 0::r) | none=>self [.int ((i:Int)+1)]):DR F N [.int 0]=some (NN ((Dm L L.length).map fun v=>[.int v])):=by
  have:=CK (F:=F) (len:=L.length) (kA L) h0 h1 L.length 0 N (by omega) (by omega)
  rw [sA] at this
  exact this
theorem vV (o:Option Int):cond (pvI (AL (NN (o.map fun v=>[.int v])) 0)==((0:Nat):Int)) (some [PV.int (pvI (AL (NN (o.map fun v=>[.int v])) 1))]) (some [PV.int 1])=some [.int (o.getD 1)]:=by
 cases o<;>rfl
theorem pR {N:Nat} {L:Rows} (hN:2097152<N) (hL:L.length≤1048576):Iu N [.rows L]=some [.int (Ja L)]:=by
 show Mu (std (WX N) N) (xOf _)=_
 simp only [Mu,std,xOf,PXb]
 refine AM (tX hN hL ?_ ?_) (vV _)
 ·intro self
  simp only [PXb,PXc,PXn,AA,Ac]
 ·intro i self hi
  have kk:(evR L i).kind=atI L i 0:=rfl
  have ky:(evR L i).yes=atB L i 4:=rfl
  have ks:(evR L i).side=atI L i 1:=rfl
  simp only [PXb,PXc,PXn,AA,AR (show i≤1099511627776 by omega),AX hi,AN hi,A8,UX,kA,SP,Ay,kk,ky,ks]
  cases atI L i 0==1<;>cases atB L i 4<;>rfl
theorem iJ {N:Nat} {L:Rows} (hN:2097152<N) (hL:L.length≤1048576):MV N [.rows L]=some [.int (Ja L)]:=by
 show RS (std (cG N) N) (xOf _)=_
 simp only [RS,std,xOf,PXb]
 refine AM (tX hN hL ?_ ?_) (vV _)
 ·intro self
  simp only [PXb,PXc,PXn,AA,Ac]
 ·intro i self hi
  have kk:(evR L i).kind=atI L i 0:=rfl
  have ky:(evR L i).yes=atB L i 4:=rfl
  have ks:(evR L i).side=atI L i 1:=rfl
  simp only [PXb,PXc,PXn,AA,AR (show i≤1099511627776 by omega),AX hi,AN hi,A8,UX,kA,SP,Ay,kk,ky,ks]
  cases atI L i 0==1<;>cases atB L i 4<;>rfl
def WI (f:Int) (en:Bool) (k:Nat):Int:=cond (en&&((k:Int)==2||(k:Int)==3)) (Ay (cond ((k:Int).tmod 2==1) (Ay f) f)) (cond ((k:Int).tmod 2==1) (Ay f) f)
def WT (f:Int) (en:Bool) (k:Nat):Int:=cond (cond (en&&((k:Int)==2||(k:Int)==3)) ((k:Int)==2) ((k:Int).tmod 2==1)) (Ay f) f
theorem AA3 {f:Int} (h:Ay (Ay f)=f) (en:Bool) (k:Nat):WI f en k=WT f en k:=by
 unfold WI WT
 cases h2:((k:Int)==2) with
 | true =>
  have:=beq_iff_eq.1 h2
  rw [this]
  cases en<;>rfl
 | false =>
  cases h3:((k:Int)==3) with
  | true =>
   have:=beq_iff_eq.1 h3
   rw [this]
   cases en
   ·rfl
   ·exact h
  | false=>rw [Bool.or_false,Bool.and_false];rfl
theorem ABM (f:Int) (en:Bool) {k:Nat} (h:k≤3):WT f en k=qN f en (k:Int):=by
 have:k=0∨k=1∨k=2∨k=3:=by omega
 rcases this with h | h | h | h<;>subst h<;>cases en<;>rfl
def zs (g:Nat→Int) (n:Nat):List Int:=(List.range n).map g
theorem KI (g:Nat→Int) (n:Nat):(zs g n).length=n:=by unfold zs;rw [List.length_map,List.length_range]
theorem vU (g:Nat→Int) (n:Nat):Ez (zs g n)++[[.int (g n)]]=Ez (zs g (n+1)):=by
 unfold zs Ez
 rw [List.range_succ,List.map_append,List.map_append]
 rfl
theorem fg (g:Nat→Int) {n k:Nat} (h:k<n):atI (Ez (zs g n)) k 0=g k:=by
 rw [ACS,List.getD_eq_getElem?_getD]
 unfold zs
 rw [List.getElem?_map,List.getElem?_range h]
 rfl
theorem qw {N : Nat} {L : Rows} (hN : 2097152 < N) (hL : L.length ≤ 1048576) {F : (List AZ → Option (List PV)) → List PV → Option (List PV)} (h0 : ∀ self, F self [.bool (Dx L L.length), .int (L.length : Int)] = some [.bool (Dx L L.length)])
    (h1:∀ i self,i<L.length→F self [.bool (Dx L i),.int (i:Int)]=self [.bool (Dx L (i+1)),.int (((i+1:Nat)):Int)]):DR F N [.bool false,.int 0]=some [.bool (Dx L L.length)] :=
  Bk (F:=F) (len:=L.length) (fun i=>[.bool (Dx L i),.int (i:Int)]) [.bool (Dx L L.length)] h0 h1 N (by omega)
theorem vT {N n : Nat} {g : Nat → Int} (hN : 2097152 < N) (hL : n ≤ 1048576) {F : (List AZ → Option (List PV)) → List PV → Option (List PV)} (h0 : ∀ self, F self [.rows (Ez (zs g n)), .int (n : Int)] = some [.rows (Ez (zs g n))])
    (h1:∀ i self,i<n→F self [.rows (Ez (zs g i)),.int (i:Int)]=self [.rows (Ez (zs g (i+1))),.int (((i+1:Nat)):Int)]):DR F N [.rows [],.int 0]=some [.rows (Ez (zs g n))] :=
  Bk (F:=F) (len:=n) (fun i=>[.rows (Ez (zs g i)),.int (i:Int)]) [.rows (Ez (zs g n))] h0 h1 N (by omega)
set_option maxHeartbeats 1000000 in
theorem pK {N:Nat} {L:Rows} (hN:2097152<N) (hL:L.length≤1048576):I1 N [.rows L]=some [.rows (Ez (zs (WI (Ja L) (Dx L L.length)) (opn L L.length)))]:=by
 show Mr (std (J2 N) N) (xOf _)=_
 simp only [Mr,S0,UN,std,xOf,PXb,pR hN hL]
 refine AM (qw hN hL ?_ ?_) ?_
 ·intro self
  simp only [PXb,PXc,PXn,AA,Ac]
 ·intro i self hi
  have kk:(evR L i).kind=atI L i 0:=rfl
  have ky:(evR L i).yes=atB L i 4:=rfl
  have e:Dx L (i+1)=(Dx L i||((evR L i).kind==12&&(evR L i).yes)):=rfl
  rw [e,kk,ky]
  simp only [PXb,PXc,PXn,AA,Cp (show i≤1099511627776 by omega),AX hi,AN hi,A8,UX]
 ·have ol:=Se L L.length
  simp only [PXb,PXc,PXn,AA,LN hN hL,PXp,F7]
  generalize Dx L L.length=en
  generalize hn:opn L L.length=n at ol
  refine AM (vT (n:=n) (g:=WI (Ja L) en) hN (by omega) ?_ ?_) rfl
  ·intro self
   simp only [PXb,PXc,PXn,AA,Ac]
  ·intro i self hi
   have sm:iSm ((i+1:Nat):Int) 8=true:=DP (by omega) (by omega)
   rw [← vU]
   unfold WI
   cases h1:(i:Int).tmod 2==1<;>cases h2:(en&&((i:Int)==2||(i:Int)==3)) <;>
    simp only [PXb,PXc,PXn,AA,Cp (show i≤1099511627776 by omega),AX hi,h1,h2,FY,KI,List.length_append,List.length_cons,List.length_nil,Nat.reduceAdd,sm,Ay]
set_option maxHeartbeats 1000000 in
theorem vA {N:Nat} {L:Rows} (hN:2097152<N) (hL:L.length≤1048576):ML N [.rows L]=some [.rows (Ez (zs (WT (Ja L) (Dx L L.length)) (opn L L.length)))]:=by
 show Rv (std (Mk N) N) (xOf _)=_
 simp only [Rv,Xo,ZD,std,xOf,PXb,iJ hN hL]
 refine AM (qw hN hL ?_ ?_) ?_
 ·intro self
  simp only [PXb,PXc,PXn,AA,Ac]
 ·intro i self hi
  have kk:(evR L i).kind=atI L i 0:=rfl
  have ky:(evR L i).yes=atB L i 4:=rfl
  have e:Dx L (i+1)=(Dx L i||((evR L i).kind==12&&(evR L i).yes)):=rfl
  rw [e,kk,ky]
  simp only [PXb,PXc,PXn,AA,Cp (show i≤1099511627776 by omega),AX hi,AN hi,A8,UX]
 ·have ol:=Se L L.length
  simp only [PXb,PXc,PXn,AA,iJ hN hL,fA hN hL,PXp,F7]
  generalize Dx L L.length=en
  generalize hn:opn L L.length=n at ol
  refine AM (vT (n:=n) (g:=WT (Ja L) en) hN (by omega) ?_ ?_) rfl
  ·intro self
   simp only [PXb,PXc,PXn,AA,Ac]
  ·intro i self hi
   have sm:iSm ((i+1:Nat):Int) 8=true:=DP (by omega) (by omega)
   rw [← vU]
   unfold WT
   cases h1:(i:Int).tmod 2==1<;>cases en<;>cases h2:(i:Int)==3<;>cases h3:(i:Int)==2 <;>
    simp only [PXb,PXc,PXn,AA,Cp (show i≤1099511627776 by omega),AX hi,h1,h2,h3,FY,KI,List.length_append,List.length_cons,List.length_nil,Nat.reduceAdd,sm,Ay]
end Go.Px
end
section
namespace Go.Px
set_option maxRecDepth 100000
theorem ABx (xs:List (Int×Int)) (k:Nat) (s:Int×Int) (i:Nat) (hi:i<xs.length):pr (xs.set k s) i=(if k=i then s else pr xs i):=by
 rw [Z8,Z8,List.getElem?_set]
 by_cases h:k=i
 ·subst h
  rw [if_pos rfl,if_pos rfl,if_pos hi]
 ·rw [if_neg h,if_neg h]
theorem ABp (xs:List (Int×Int)) (s:Int×Int) (i:Nat) (hi:i<xs.length+1):pr (xs++[s]) i=(if i<xs.length then pr xs i else s):=by
 rw [Z8,Z8]
 by_cases h:i<xs.length
 ·rw [if_pos h,List.getElem?_append_left h]
 ·have:i=xs.length:=by omega
  subst this
  rw [if_neg h,List.getElem?_append_right (Nat.le_refl _),Nat.sub_self]
  rfl
theorem VD {L:Rows} {i:Nat} (h:((evR L i).kind==2)=true):opn L (i+1)=opn L i+1:=by
 show opn L i+cond ((evR L i).kind==2) 1 0=_
 rw [h]
 rfl
theorem AAH {L:Rows} {i:Nat} (h:((evR L i).kind==2)=false):opn L (i+1)=opn L i:=by
 show opn L i+cond ((evR L i).kind==2) 1 0=_
 rw [h]
 rfl
theorem dk {L : Rows} (hL : L.length ≤ 1048576) : ∀ i, i ≤ L.length → ∀ k, k < opn L i → ∃ a : Nat, (pr (Bu L i) k).1 = (a : Int) ∧ a < i ∧ opn L a = k ∧ ((evR L a).kind == 2) = true ∧
    ((k+1<opn L i∧∃ b:Nat,(pr (Bu L i) k).2=(b:Int)∧b<i∧opn L b=k+1∧((evR L b).kind==2)=true)∨(k+1=opn L i∧(pr (Bu L i) k).2=(L.length:Int)))
  | 0,_,k,hk=>absurd hk (Nat.not_lt_zero k)
  | i+1,hi,k,hk=>by
    have ih:=dk hL i (by omega)
    cases h2:(evR L i).kind==2 with
    | false =>
      rw [AAH h2] at hk ⊢
      rw [jR h2]
      obtain ⟨a,h3,h4,h5,h6,h7⟩:=ih k hk
      refine ⟨a,h3,by omega,h5,h6,?_⟩
      rcases h7 with ⟨q,b,q1,q2,q3,q4⟩ | q
      · exact Or.inl ⟨q,b,q1,by omega,q3,q4⟩
      · exact Or.inr q
    | true =>
      rw [VD h2] at hk ⊢
      have sl:=F7 L i
      have hle:=Se L i
      have ha:=fun (j:Nat) (hj:j<opn L i+1)=>ABp (Ha (Bu L i) (i:Int)) ((i:Int),(L.length:Int)) j (by rw [XP,sl];exact hj)
      have e:Bu L (i+1)=Ha (Bu L i) (i:Int)++[((i:Int),(L.length:Int))]:=by
        show cond ((evR L i).kind==2) _ _=_
        rw [h2]
        rfl
      rw [e,ha k hk,XP,sl]
      by_cases hkn:k<opn L i
      · rw [if_pos hkn]
        obtain ⟨a,h3,h4,h5,h6,h7⟩:=ih k hkn
        have hp:0<opn L i:=by omega
        have ix:=(na hp (by omega)).1
        have es:Ha (Bu L i) (i:Int)=(Bu L i).set (opn L i - 1) ((pr (Bu L i) (opn L i - 1)).1,(i:Int)):=by
          unfold Ha
          rw [sl,show iLt 0 (opn L i:Int)=true by simp only [iLt,decide_eq_true_eq];omega,ix]
          rfl
        rw [es,ABx _ _ _ _ (by rw [sl];exact hkn)]
        by_cases hl:opn L i - 1=k
        · rw [if_pos hl,hl]
          exact ⟨a,h3,by omega,h5,h6,Or.inl ⟨by omega,i,rfl,by omega,by omega,h2⟩⟩
        · rw [if_neg hl]
          refine ⟨a,h3,by omega,h5,h6,Or.inl ⟨by omega,?_⟩⟩
          rcases h7 with ⟨q,b,q1,q2,q3,q4⟩ | q
          · exact ⟨b,q1,by omega,q3,q4⟩
          · omega
      · have hke:k=opn L i:=by omega
        rw [if_neg hkn]
        exact ⟨i,rfl,by omega,hke.symm,h2,Or.inr ⟨by omega,rfl⟩⟩
theorem zy {L:Rows} {a b:Nat} (h:opn L a=opn L b) (ha:((evR L a).kind==2)=true) (hb:((evR L b).kind==2)=true):a=b:=by
 rcases Nat.lt_trichotomy a b with h1 | h1 | h1
 ·have:=Ir L (show a+1≤b by omega)
  have:=VD ha
  omega
 ·exact h1
 ·have:=Ir L (show b+1≤a by omega)
  have:=VD hb
  omega
def AB (L:Rows) (k:Nat):Nat:=if k<opn L L.length then (pr (Bu L L.length) k).1.toNat else L.length
structure Seg (L:Rows) (k:Nat):Prop where
 x0:(pr (Bu L L.length) k).1=(AB L k:Int)
 x1:(pr (Bu L L.length) k).2=(AB L (k+1):Int)
 lt:AB L k<AB L (k+1)
 le:AB L (k+1)≤L.length
 o0:opn L (AB L k)=k
 o1:opn L (AB L (k+1))=k+1
 mid:∀ j,AB L k≤j→j<AB L (k+1)→opn L (j+1)=k+1
theorem seg {L:Rows} (hL:L.length≤1048576) {k:Nat} (h:k<opn L L.length):Seg L k:=by
 obtain ⟨a,h1,h2,h3,h4,h5⟩:=dk hL L.length (Nat.le_refl _) k h
 have p0:AB L k=a:=by unfold AB;rw [if_pos h,h1];rfl
 have key:(pr (Bu L L.length) k).2=(AB L (k+1):Int)∧a<AB L (k+1)∧AB L (k+1)≤L.length∧opn L (AB L (k+1))=k+1:=by
  rcases h5 with ⟨q,b,q1,q2,q3,q4⟩ | ⟨q,q1⟩
  ·obtain ⟨a',g1,g2,g3,g4,_⟩:=dk hL L.length (Nat.le_refl _) (k+1) q
   have e:a'=b:=zy (g3.trans q3.symm) g4 q4
   subst e
   have p1:AB L (k+1)=a':=by unfold AB;rw [if_pos q,g1];rfl
   rw [p1]
   refine ⟨q1,?_,by omega,q3⟩
   rcases Nat.lt_or_ge a a' with hl | hl
   ·exact hl
   ·have:=Ir L hl
    omega
  ·have p1:AB L (k+1)=L.length:=by unfold AB;rw [if_neg (by omega)]
   rw [p1]
   exact ⟨q1,h2,Nat.le_refl _,q.symm⟩
 obtain ⟨k1,k2,k3,k4⟩:=key
 refine ⟨by rw [h1,p0],k1,by rw [p0];exact k2,k3,by rw [p0];exact h3,k4,fun j j1 j2=>?_⟩
 rw [p0] at j1
 have m1:=Ir L (show a+1≤j+1 by omega)
 have m2:=Ir L (show j+1≤AB L (k+1) by omega)
 rw [VD h4] at m1
 omega
theorem vx (L:Rows):AB L (opn L L.length)=L.length:=by unfold AB;rw [if_neg (Nat.lt_irrefl _)]
theorem AB0 (L:Rows) {a b:Nat} (i j:Nat) (h:i<b - a):AD ((L.take b).drop a) i j=AD L (a+i) j:=by
 unfold AD Ar
 rw [List.getD_eq_getElem?_getD,List.getD_eq_getElem?_getD,List.getElem?_drop,List.getElem?_take,if_pos (by omega)]
theorem db (L:Rows) {a b:Nat} (i:Nat) (h:i<b - a):evR ((L.take b).drop a) i=evR L (a+i):=by
 unfold evR atI atB
 simp only [AB0 L i _ h]
theorem mj {L:Rows} {a b:Nat} (h:b≤L.length):((L.take b).drop a).length=b - a:=by
 rw [List.length_drop,List.length_take]
 omega
def Q6 (e:Ev):Bool:=cond (e.kind==4) (!(e.ball.how==0)) (cond (e.kind==5) e.yes (cond (e.kind==6) (!e.yes) false))
theorem tn (e:Ev):F1 e=cond (Q6 e) 1 0:=by
 unfold F1 Q6 D2
 cases h4:e.kind==4
 ·cases h5:e.kind==5
  ·cases h6:e.kind==6<;>cases e.yes<;>rfl
  ·rw [beq_iff_eq.1 h5];cases e.yes<;>rfl
 ·cases e.ball.how==0<;>rfl
theorem ut {N:Nat} {e0 e1 e2 e3 e5 e6 e7 e8 e9 e10 e11 e13 e14 e15 e16 e18:Int} {e4 e12 e17:Bool}  : MT N [.int e0,.int e1,.int e2,.int e3,.bool e4,.int e5,.int e6,.int e7,.int e8,.int e9,.int e10,.int e11,.bool e12,.int e13,.int e14,.int e15,.int e16,.bool e17,.int e18]=some [.bool (Q6 (⟨e0,e1,e2,e3,e4,e5,e6,⟨e7,e8,e9,e10,e11,e12,e13,e14,e15,e16,e17,e18⟩⟩:Ev))]:=by
 show R4 (std (bp N) N) (xOf _)=_
 simp only [R4,std,xOf,PXb,PXc,PXn,PXm,Nat.reduceAdd,Int.reduceBEq]
 unfold Q6
 simp only
 cases e0==4<;>cases e0==5<;>cases e0==6<;>rfl
def jZ:Option Nat→Int
 | some j=>(j:Int)
 | none => -1
theorem oE (sd:Nat→Int) (s:Int) (k:Nat):∀ c,c≤k+1→BJ (fun i=>cond (sd (k - i)==s) (some [.int ((k - i:Nat):Int)]) none) c (k+1 - c)=(Ea sd s c).map fun j:Nat=>[PV.int (j:Int)]
 | 0,_=>rfl
 | c+1,h=>by
  have ih:=oE sd s k c (by omega)
  have e1:k - (k+1 - (c+1))=c:=by omega
  have e2:k+1 - (c+1)+1=k+1 - c:=by omega
  simp only [BJ,Ea,e1,e2,ih]
  cases sd c==s<;>rfl
theorem qp (sd:Nat→Int) (s:Int):∀ c i,BJ (fun i=>cond (sd i==s) (some [.int (i:Int)]) none) c i=(kJ sd s c i).map fun j:Nat=>[PV.int (j:Int)]
 | 0,_=>rfl
 | c+1,i=>by
  simp only [BJ,kJ,qp sd s c (i+1)]
  cases sd i==s<;>rfl
theorem oc {N : Nat} {sd : Nat → Int} {n k : Nat} {s : Int} (hN : 2097152 < N) (hn : n ≤ 1048576) (hk : k < n) {F G : (List AZ → Option (List PV)) → List PV → Option (List PV)}
    (f0:∀ self,F self [.int (-1)]=some [.int 1]) (f1:∀ (j:Nat) self,j<n→F self [.int (j:Int)]=cond (sd j==s) (some [.int 0,.int (j:Int)]) (self [.int ((j:Int) - 1)]))
    (g0:∀ self,G self [.int (n:Int)]=some [.int 1]) (g1:∀ (j:Nat) self,j<n→G self [.int (j:Int)]=cond (sd j==s) (some [.int 0,.int (j:Int)]) (self [.int ((j:Int)+1)])) :
    ((DR F N [.int (k:Int)]).bind fun c=>cond (pvI (AL c 0)==((0:Nat):Int)) (some [PV.int (pvI (AL c 1))]) ((DR G N [.int (IntKind.i64.wrap ((k:Int)+1))]).bind fun c=>cond (pvI (AL c 0)==((0:Nat):Int)) (some [PV.int (pvI (AL c 1))]) (some [PV.int (-1)])))=some [.int (jZ (G3 sd n k s))]:=by
  have a1:=Tt (F:=F) (len:=k+1) (fun i=>[.int ((k:Int) - (i:Int))]) (fun i=>cond (sd (k - i)==s) (some [.int ((k - i:Nat):Int)]) none)
    (fun self=>by
      show F self [.int ((k:Int) - ((k+1:Nat):Int))]=_
      rw [show (k:Int) - ((k+1:Nat):Int) = -1 by omega]
      exact f0 self)
    (fun i self hi=>by
      show F self [.int ((k:Int) - (i:Int))]=_
      rw [show (k:Int) - (i:Int)=((k - i:Nat):Int) by omega,f1 (k - i) self (by omega),show ((k - i:Nat):Int) - 1=(k:Int) - ((i+1:Nat):Int) by omega]
      cases sd (k - i)==s<;>rfl) (k+1) 0 N (by omega) (by omega)
  have fb:=oE sd s k (k+1) (Nat.le_refl _)
  rw [Nat.sub_self] at fb
  rw [fb] at a1
  have a1:DR F N [.int ((k:Int) - ((0:Nat):Int))]=_:=a1
  rw [show (k:Int) - ((0:Nat):Int)=(k:Int) by omega] at a1
  rw [a1,AR (show k≤1099511627776 by omega)]
  unfold G3
  cases Ea sd s (k+1) with
  | some j=>rfl
  | none =>
    have a2:=CK (F:=G) (len:=n) (fun i=>cond (sd i==s) (some [.int (i:Int)]) none) g0 (fun i self hi=>by rw [g1 i self hi];cases sd i==s<;>rfl) (n - (k+1)) (k+1) N (by omega) (by omega)
    rw [qp] at a2
    rw [show ((k:Int)+1)=((k+1:Nat):Int) by omega,a2]
    cases kJ sd s (n - (k+1)) (k+1)<;>rfl
theorem yC (n:Int):iLe 0 (-1)=false:=rfl
theorem kY (j:Nat):iLe 0 (j:Int)=true:=by simp only [iLe,decide_eq_true_eq];omega
theorem oD {j:Nat} (h:j≤1048576):IntKind.i64.wrap ((j:Int) - 1)=(j:Int) - 1:=C0 (by omega) (by omega)
set_option maxHeartbeats 1000000 in
theorem vM {N:Nat} {sd:Nat→Int} {n k:Nat} {s:Int} (hN:2097152<N) (hn:n≤1048576) (hk:k<n):JV N [.rows (Ez (zs sd n)),.int (k:Int),.int s]=some [.int (jZ (G3 sd n k s))]:=by
 show RO (std (bu N) N) (xOf _)=_
 simp only [RO,std,xOf,PXb]
 refine oc hN hn hk ?_ ?_ ?_ ?_
 ·intro self
  simp only [PXb,PXc,PXn,AA,yC 0]
 ·intro j self hj
  simp only [PXb,PXc,PXn,AA,kY,FY,KI,AN hj,A8,fg _ hj,oD (show j≤1048576 by omega)]
 ·intro self
  simp only [PXb,PXc,PXn,AA,FY,KI,Ac]
 ·intro j self hj
  simp only [PXb,PXc,PXn,AA,FY,KI,AX hj,AN hj,A8,fg _ hj,AR (show j≤1099511627776 by omega)]
set_option maxHeartbeats 1000000 in
theorem xk {N:Nat} {sd:Nat→Int} {n k:Nat} {s:Int} (hN:2097152<N) (hn:n≤1048576) (hk:k<n):Nu N [.rows (Ez (zs sd n)),.int (k:Int),.int s]=some [.int (jZ (G3 sd n k s))]:=by
 show Wj (std (gj N) N) (xOf _)=_
 simp only [Wj,std,xOf,PXb]
 refine oc hN hn hk ?_ ?_ ?_ ?_
 ·intro self
  simp only [PXb,PXc,PXn,AA,yC 0]
 ·intro j self hj
  simp only [PXb,PXc,PXn,AA,kY,FY,KI,AN hj,A8,fg _ hj,oD (show j≤1048576 by omega)]
 ·intro self
  simp only [PXb,PXc,PXn,AA,FY,KI,Ac]
 ·intro j self hj
  simp only [PXb,PXc,PXn,AA,FY,KI,AX hj,AN hj,A8,fg _ hj,AR (show j≤1099511627776 by omega)]
theorem Di {L:Rows} {f:Ev→Int} {c:Int} (hf:∀ e,0≤f e∧f e≤c) (j:Nat):∀ i:Nat,0≤smi L f j i∧smi L f j i≤c * (i:Int)
 | 0=>by
  have:smi L f j 0=0:=rfl
  rw [this]
  omega
 | i+1=>by
  have ih:=Di (L:=L) hf j i
  have h1:=hf (evR L i)
  rw [Kj,show c * ((i+1:Nat):Int)=c * (i:Int)+c by rw [show ((i+1:Nat):Int)=(i:Int)+1 by omega,Int.mul_add,Int.mul_one]]
  have h2:=hf (evR L i)
  generalize c * (i:Int)=z at ih ⊢
  cases Nat.beq (opn L (i+1)) (j+1)<;>simp only [cond_true,cond_false]<;>omega
theorem zm (L:Rows) (sd:Nat→Int) (n j:Nat):∀ i:Nat,0≤pnS L sd n j i∧pnS L sd n j i≤5 * (i:Int)
 | 0=>by
  have:pnS L sd n j 0=0:=rfl
  rw [this]
  omega
 | i+1=>by
  have ih:=zm L sd n j i
  rw [YP]
  cases ((evR L i).kind==13&&isS (G3 sd n (opn L (i+1) - 1) (evR L i).side) j)<;>simp only [cond_true,cond_false]<;>omega
structure Sml (x:Sco):Prop where
 runs:0≤x.runs∧x.runs≤1000000
 wk:0≤x.wickets∧x.wickets≤1000000
 balls:0≤x.balls∧x.balls≤1000000
 wides:0≤x.wides∧x.wides≤1000000
 no:0≤x.noballs∧x.noballs≤1000000
 bb:0≤x.byes∧x.byes≤1000000
 lb:0≤x.legbyes∧x.legbyes≤1000000
 pens:0≤x.pens∧x.pens≤1000000
theorem xZ {r:Rul} (h:RulOk r) (e:Ev):0≤Qz r e∧Qz r e≤62:=by
 have c:=Ch h e
 have h0:=c.ba
 have h1:=c.wi
 have h2:=c.no
 have h3:=c.bb
 have h4:=c.lb
 have h5:=c.tot
 unfold Qz
 omega
theorem ABD {r:Rul} (h:RulOk r) (L:Rows) (sd:Nat→Int) (n j:Nat) {i:Nat} (hi:i≤4000):Sml (BU r L sd n j i):=by
 have p:=zm L sd n j i
 have b1:=Di (L:=L) (xZ h) j i
 have b2:=Di (L:=L) ym j i
 have b3:=Di (L:=L) (f:=K1 r) (c:=1) (fun e=>by unfold K1;cases (Ao r e).counts<;>simp) j i
 have b4:=Di (L:=L) (f:=fun e=>(Ao r e).wides) (fun e=>(Ch h e).wi) j i
 have b5:=Di (L:=L) (f:=fun e=>(Ao r e).noballs) (fun e=>(Ch h e).no) j i
 have b6:=Di (L:=L) (f:=fun e=>(Ao r e).byes) (fun e=>(Ch h e).bb) j i
 have b7:=Di (L:=L) (f:=fun e=>(Ao r e).legbyes) (fun e=>(Ch h e).lb) j i
 unfold BU
 constructor<;>(simp only;omega)
end Go.Px
end
