/- Part 13. -/
import Derived.Test.YtefmhiojnbekpaaGreatDoorPart12
set_option linter.unusedVariables false
set_option linter.unusedSimpArgs false
section
namespace Go.Px
set_option maxRecDepth 100000
def Jo (xs:List Int):Rows:=xs.map fun x=>[.int x]
theorem fW (xs:List Int):(Jo xs).length=xs.length:=List.length_map _
theorem rx (xs:List Int) (i:Nat):AB (Jo xs) i=(match xs[i]? with | some x=>[.int x] | none=>[]):=by
 unfold AB Jo;rw [List.getD_eq_getElem?_getD,List.getElem?_map];cases xs[i]?<;>rfl
theorem sT (xs:List Int) (i:Nat):atI (Jo xs) i 0=xs.getD i 0:=by
 unfold atI AE;rw [rx,List.getD_eq_getElem?_getD];cases xs[i]?<;>rfl
structure SumSt (D:Rows) (n i:Nat) (s:List Int×List Int×Int):Prop where
 l1:s.1.length=n
 l2:s.2.1.length=n
 r:∀ k,k<n→s.1.getD k 0=wr (rS D k i)
 b:∀ k,k<n→s.2.1.getD k 0=wr (bS D k i)
 h:s.2.2=wr (hS D i)
end Go.Px
end
section
namespace Go.Px
set_option maxRecDepth 100000
structure Sco where
 side:Int
 runs:Int
 wickets:Int
 balls:Int
 wides:Int
 noballs:Int
 byes:Int
 legbyes:Int
 pens:Int
 ending:Int
theorem Cw {n:Int} (h1 : -1000000000000≤n) (h2:n≤1000000000000):IntKind.i64.wrap n=n:=CG (by omega) (by omega)
theorem jJ {d:Del} (h:(Eg d==0)=true):(0≤d.runs∧d.runs≤7)∧(0≤d.short∧d.short≤d.runs)∧(d.boundary=0∨d.boundary=4∨d.boundary=6):=by
 unfold Eg at h;cases h1:(iLt d.type 1||iLt 3 d.type||iLt 3 d.source||iLt 10 d.how || !btw d.sector 0 8) with
 | true=>rw [h1] at h;cases h
 | false =>
  cases h2:(!btw d.runs 0 7 || !btw d.short 0 d.runs||(!(d.boundary==0) && !(d.boundary==4) && !(d.boundary==6))) with
  | true=>rw [h1,h2] at h;cases h
  | false =>
   simp only [btw,iLe,Bool.or_eq_false_iff,Bool.not_eq_false',Bool.and_eq_true,Bool.and_eq_false_iff,decide_eq_true_eq,beq_iff_eq] at h2;omega
structure CreOk (c:Cre):Prop where
 ba:0≤c.batter∧c.batter≤13
 wi:0≤c.wides∧c.wides≤18
 no:0≤c.noballs∧c.noballs≤5
 bb:0≤c.byes∧c.byes≤13
 lb:0≤c.legbyes∧c.legbyes≤13
 bo:c.bowler=c.batter+c.wides+c.noballs
 tot:Ea c=c.batter+c.wides+c.noballs+c.byes+c.legbyes
theorem lw {b w o y l bo:Int} {x1 x2 x3 x4:Bool} (hb:0≤b∧b≤13) (hw:0≤w∧w≤18) (ho:0≤o∧o≤5) (hy:0≤y∧y≤13) (hl:0≤l∧l≤13) (hbo:bo=IntKind.i64.wrap (IntKind.i64.wrap (b+w)+o)):CreOk ⟨b,w,o,y,l,bo,x1,x2,x3,x4⟩:=by
 refine ⟨hb,hw,ho,hy,hl,?_,?_⟩
 ·show bo=b+w+o;rw [hbo,Cw (n:=b+w) (by omega) (by omega),Cw (by omega) (by omega)]
 ·show IntKind.i64.wrap (IntKind.i64.wrap (IntKind.i64.wrap (IntKind.i64.wrap (b+w)+o)+y)+l)=b+w+o+y+l;rw [Cw (n:=b+w) (by omega) (by omega),Cw (n:=b+w+o) (by omega) (by omega),Cw (n:=b+w+o+y) (by omega) (by omega),Cw (by omega) (by omega)]
def ZK:Cre:=⟨0,0,0,0,0,0,false,false,false,false⟩
theorem ox:CreOk ZK:=lw (by decide) (by decide) (by decide) (by decide) (by decide) rfl
theorem rW {r:Rul} (h:RulOk r) (d:Del):CreOk (AF r d):=by
 unfold AF;cases hl:Eg d==0 with
 | false=>exact ox
 | true =>
  obtain ⟨⟨a1,a2⟩,⟨a3,a4⟩,a5⟩:=jJ hl;have hw:=h.wide;have hn:=h.noball;have e1:IntKind.i64.wrap (IntKind.i64.wrap (d.runs - d.short)+d.boundary)=d.runs - d.short+d.boundary:=by
   rw [Cw (n:=d.runs - d.short) (by omega) (by omega),Cw (by omega) (by omega)]
  have n0:0≤d.runs - d.short+d.boundary∧d.runs - d.short+d.boundary≤13:=by omega
  simp only [Bool.not_true,cond_false,RW,e1];generalize d.runs - d.short+d.boundary=n at n0;have e2:IntKind.i64.wrap (r.wide+n)=r.wide+n:=Cw (by omega) (by omega);have c13:∀ b:Bool,0≤cond b n 0∧cond b n 0≤13:=fun b=>by cases b<;>simp<;>omega
  refine lw (c13 _) ?_ ?_ (c13 _) (c13 _) rfl
  ·rw [e2];cases d.type==2<;>simp<;>omega
  ·cases d.type==3<;>simp<;>omega
def IV (r:Rul) (e:Ev):Cre:=cond (e.kind==4) (AF r e.ball) ZK
def BU (q:Int) (s:Inn):Sco:=⟨s.side,s.runs,s.wickets,CV q s.complete s.inover,s.wides,s.noballs,s.byes,s.legbyes,s.pens,0⟩
def TT (r:Rul) (e:Ev) (x:Sco):Sco:=⟨x.side,x.runs+Ea (IV r e),x.wickets+cD e,x.balls+cond (IV r e).counts 1 0,x.wides+(IV r e).wides,x.noballs+(IV r e).noballs,x.byes+(IV r e).byes,x.legbyes+(IV r e).legbyes,x.pens,x.ending⟩
def Jf (n:Int) (x:Sco):Sco:=⟨x.side,x.runs+n,x.wickets,x.balls,x.wides,x.noballs,x.byes,x.legbyes,x.pens+n,x.ending⟩
theorem DU (x:Sco):Jf 0 x=x:=by
 obtain ⟨x0,x1,x2,x3,x4,x5,x6,x7,x8,x9⟩:=x;simp only [Jf,Int.add_zero]
theorem iG {r:Rul} {e:Ev} (x:Sco) (hk:(e.kind==4)=false):TT r e x={ x with wickets:=x.wickets+Cf e }:=by
 have c0:IV r e=ZK:=by unfold IV;rw [hk];rfl
 have o0:cD e=Cf e:=by unfold cD;rw [hk];rfl
 have t0:Ea ZK=0:=rfl;unfold TT;rw [c0,o0,t0];simp only [ZK,cond_false,Int.add_zero]
theorem RP {r:Rul} {e:Ev} (x:Sco) (hk:(e.kind==4)=false) (ho:Cf e=0):TT r e x=x:=by
 rw [iG x hk,ho,Int.add_zero]
theorem rA {r:Rul} {s:Inn} (ok:InnOk r s):0≤s.wickets∧s.wickets≤11:=by
 have h:=ok.bat;unfold Ww at h;simp only [Bool.and_eq_true] at h;have h1:=beq_iff_eq.1 h.2.2;have h2:=fL (pIs s.batters 2) s.batters.length;have h3:=(FF ok.code).side;have h4:=ok.lb;unfold Yp at h1;omega
theorem sJ {c q:Int} (hc:0≤c∧c≤1000000000) (hq:0≤q∧q≤8):0≤c * q∧c * q≤8000000000:=by
 refine ⟨Int.mul_nonneg hc.1 hq.1,?_⟩;have h1:=Int.mul_le_mul_of_nonneg_right hc.2 hq.1;have h2:=Int.mul_le_mul_of_nonneg_left hq.2 (show (0:Int)≤1000000000 by omega);omega
theorem gY {r:Rul} {s:Inn} (ok:InnOk r s):CV r.balls s.complete s.inover=s.complete * r.balls+s.inover∧0≤CV r.balls s.complete s.inover∧CV r.balls s.complete s.inover≤9000000000:=by
 have h1:=(FF ok.code).balls;have h2:=ok.io;have h3:=sJ ok.complete (show 0≤r.balls∧r.balls≤8 by omega);rw [QY];have:wr (s.complete * r.balls+s.inover)=s.complete * r.balls+s.inover:=Cw (by omega) (by omega);rw [this];omega
theorem sP {x a d:Int} (h:wr (x - a)=d) (hx:wr x=x) (ha:0≤a∧a≤9000000000) (hd:0≤d∧d≤1000):x=a+d:=by
 simp only [wr,My] at h hx;omega
theorem pX (q:Int) (r:Rul) (t:Inn) (b:Bool):BU q (Bh r t b)=BU q t:=rfl
theorem pD {r:Rul} {s:Inn} {e:Ev} (hk:(e.kind==4)=true) (h:((Aq r s e).2==0)=true):BU r.balls (Aq r s e).1=TT r e (BU r.balls s):=by
 obtain ⟨g1,g2,g3,g4,g5,g6,g7,g8,g9,g10⟩:=mD hk h;obtain ⟨hv,he,hn,hw,hp,hs⟩:=W9 h;have ok:=LM.1 hv;have rk:=FF ok.code;have co:=rW rk e.ball;have k4:=beq_iff_eq.1 hk;have hpb:Bm r s e=KX r s e.ball:=by unfold Bm;rw [k4];rfl
 rw [hpb] at hp hs;obtain ⟨hr,hb⟩:=cT hp;obtain ⟨q1,q2,q3,q4,q5,q6⟩:=cq hr;have ce:IV r e=AF r e.ball:=by unfold IV;rw [hk];rfl
 have od:cD e=cond (e.ball.how==0) 0 1:=by unfold cD;rw [hk];rfl
 have hx:=gY ok;have r0:=ok.runs;have w0:=ok.wides;have n0:=ok.noballs;have b0:=ok.byes;have l0:=ok.legbyes;have wk:=rA ok;unfold Be at r0 w0 n0 b0 l0;have f0:=co.ba;have f1:=co.wi;have f2:=co.no;have f3:=co.bb;have f4:=co.lb;have f5:=co.tot;rw [hs,hb] at g1 g7 g8 ⊢;have e1:(Bh r (Hr r s e.ball) (e.kind==4)).runs=IntKind.i64.wrap (s.runs+Ea (AF r e.ball)):=rfl;have e2:(Bh r (Hr r s e.ball) (e.kind==4)).wides=IntKind.i64.wrap (s.wides+(AF r e.ball).wides):=rfl;have e3:(Bh r (Hr r s e.ball) (e.kind==4)).noballs=IntKind.i64.wrap (s.noballs+(AF r e.ball).noballs):=rfl;have e4:(Bh r (Hr r s e.ball) (e.kind==4)).byes=IntKind.i64.wrap (s.byes+(AF r e.ball).byes):=rfl;have e5:(Bh r (Hr r s e.ball) (e.kind==4)).legbyes=IntKind.i64.wrap (s.legbyes+(AF r e.ball).legbyes):=rfl;have e6:(Bh r (Hr r s e.ball) (e.kind==4)).side=s.side∧(Bh r (Hr r s e.ball) (e.kind==4)).pens=s.pens∧(Bh r (Hr r s e.ball) (e.kind==4)).wickets=(Ag s e.ball).wickets:=by
  obtain ⟨w1,w2⟩:=jv r (Ag s e.ball) (AF r e.ball).counts;obtain ⟨k1,k2,k3,k4,k5,k6,k7,k8,k9,k10⟩:=Y8 s e.ball;have w3:(Ao r (Ag s e.ball) (AF r e.ball).counts).1.side=s.side:=by
   have s1:(Ag s e.ball).side=s.side:=by
    unfold Ag;cases (!(e.ball.runs.tmod 2==0) != e.ball.crossed)<;>exact P_c (P:=fun x:Inn=>x.side=s.side) _ _ _ rfl (P_c (P:=fun x:Inn=>x.side=s.side) _ _ _ rfl rfl)
   unfold Ao;exact P_c (P:=fun x:Inn×Bool=>x.1.side=s.side) _ _ _ s1 (P_c (P:=fun x:Inn×Bool=>x.1.side=s.side) _ _ _ s1 s1)
  refine ⟨?_,?_,?_⟩
  ·show (cond (Ao r (Ag s e.ball) (AF r e.ball).counts).2 (Hn (Ao r (Ag s e.ball) (AF r e.ball).counts).1) (Ao r (Ag s e.ball) (AF r e.ball).counts).1).side=_;rw [← w3];cases (Ao r (Ag s e.ball) (AF r e.ball).counts).2<;>rfl
  ·show (cond (Ao r (Ag s e.ball) (AF r e.ball).counts).2 (Hn (Ao r (Ag s e.ball) (AF r e.ball).counts).1) (Ao r (Ag s e.ball) (AF r e.ball).counts).1).pens=_;rw [← k6,← w2];cases (Ao r (Ag s e.ball) (AF r e.ball).counts).2<;>rfl
  ·show (cond (Ao r (Ag s e.ball) (AF r e.ball).counts).2 (Hn (Ao r (Ag s e.ball) (AF r e.ball).counts).1) (Ao r (Ag s e.ball) (AF r e.ball).counts).1).wickets=_;rw [← w1];cases (Ao r (Ag s e.ball) (AF r e.ball).counts).2<;>rfl
 obtain ⟨z1,z2⟩:=iY q1 (gz hw (by rw [k4];rfl));have hout:=j0 (d:=e.ball) z1 z2 (fun hd=>Xs q5 hd);have wv:IntKind.i64.wrap (CV r.balls (Bh r (Hr r s e.ball) (e.kind==4)).complete (Bh r (Hr r s e.ball) (e.kind==4)).inover)=CV r.balls (Bh r (Hr r s e.ball) (e.kind==4)).complete (Bh r (Hr r s e.ball) (e.kind==4)).inover:=Gp _;have hb7:=sP g7 wv (by omega) (by cases (AF r e.ball).counts<;>simp);unfold BU TT;rw [e1,e2,e3,e4,e5,e6.1,e6.2.1,e6.2.2,hb7,ce,od,hout];have i1:IntKind.i64.wrap (s.runs+Ea (AF r e.ball))=s.runs+Ea (AF r e.ball):=Cw (by omega) (by omega);have i2:IntKind.i64.wrap (s.wides+(AF r e.ball).wides)=s.wides+(AF r e.ball).wides:=Cw (by omega) (by omega);have i3:IntKind.i64.wrap (s.noballs+(AF r e.ball).noballs)=s.noballs+(AF r e.ball).noballs:=Cw (by omega) (by omega);have i4:IntKind.i64.wrap (s.byes+(AF r e.ball).byes)=s.byes+(AF r e.ball).byes:=Cw (by omega) (by omega);have i5:IntKind.i64.wrap (s.legbyes+(AF r e.ball).legbyes)=s.legbyes+(AF r e.ball).legbyes:=Cw (by omega) (by omega);have i6:inc s.wickets=s.wickets+1:=Cw (by omega) (by omega);rw [i1,i2,i3,i4,i5,i6];cases e.ball.how==0 with
 | false=>rfl
 | true=>simp only [cond_true,Int.add_zero]
def Kz (q:Int) (s:Inn) (x:Inn×Int):Prop:=(x.2==0)=true→BU q x.1=BU q s
theorem Dl {q:Int} {s:Inn} (b:Bool) (x y:Inn×Int) (hx:Kz q s x) (hy:Kz q s y):Kz q s (cond b x y):=by cases b<;>assumption
theorem hY {r:Rul} {s:Inn} {e:Ev} (h:((Aq r s e).2==0)=true):BU r.balls (Aq r s e).1=Jf (cond (e.kind==13&&e.side==s.side) 5 0) (TT r e (BU r.balls s)):=by
 cases hk:e.kind==4 with
 | true =>
  rw [pD hk h,beq_iff_eq.1 hk];exact (DU _).symm
 | false =>
  obtain ⟨hv,he,hn,hw,hp,hs⟩:=W9 h;have ok:=LM.1 hv;have wk:=rA ok;have iw:IntKind.i64.wrap (s.wickets+1)=s.wickets+1:=Cw (by omega) (by omega);rw [hs,pX,iG _ hk];have z:∀ {x:Inn×Int},Kz r.balls s x→(x.2==0)=true→Cf e=0→BU r.balls x.1=Jf (cond (false&&e.side==s.side) 5 0) { BU r.balls s with wickets:=(BU r.balls s).wickets+Cf e }:=fun k hx h0=>by
   rw [k hx,h0,Int.add_zero];exact (DU _).symm
  have kn:∀ {t:Inn} {n:Int},(n==0)=false→Kz r.balls s (t,n):=fun hn hx=>by rw [hn] at hx;cases hx
  have ks:∀ {n:Int},Kz r.balls s (s,n):=fun _=>rfl
  revert hp
  unfold Bm;rw [hk];cases h5:e.kind==5 with
  | true =>
   have h5':=beq_iff_eq.1 h5;have ho:Cf e=cond e.yes 1 0:=by unfold Cf;rw [h5'];cases e.yes<;>rfl
   rw [ho,h5'];cases e.yes with
   | false =>
    intro hp;refine Eq.trans (b:=BU r.balls s) ?_ ?_
    ·exact (show Kz r.balls s (OJ s e.player) by unfold OJ;exact Dl _ _ _ (fun _=>rfl) (fun _=>rfl)) hp
    ·simp only [cond_false,Int.add_zero];exact (DU _).symm
   | true =>
    intro hp;change ((Gx s e.player).2==0)=true at hp;show BU r.balls (Gx s e.player).1=_;unfold Gx at hp ⊢;cases hm:NA s e.player==0 with
    | false=>rw [hm] at hp;exact absurd (show (NA s e.player==0)=true from hp) (by rw [hm];decide)
    | true =>
     simp only [cond_true];unfold BU Jf;simp only [iw,cond_true,Int.reduceBEq,Bool.false_and,cond_false,Int.add_zero]
  | false =>
   cases h6:e.kind==6 with
   | true =>
    have h6':=beq_iff_eq.1 h6;have ho:Cf e=cond e.yes 0 1:=by unfold Cf;rw [h6'];cases e.yes<;>rfl
    rw [ho,h6'];intro hp;change ((JK s e.player e.yes).2==0)=true at hp;show BU r.balls (JK s e.player e.yes).1=_;unfold JK at hp ⊢;cases hm1:(!inR e.player s.batters.length) with
    | true=>rw [hm1] at hp;cases hp
    | false =>
     cases hm2:(s.striker==0||s.other==0) with
     | true=>rw [hm1,hm2] at hp;cases hp
     | false =>
      cases hm3:(!(e.player==s.striker) && !(e.player==s.other)) with
      | true=>rw [hm1,hm2,hm3] at hp;cases hp
      | false =>
       cases hm4:(e.yes&&((EK s.batters s.batters.length).length:Int)==0) with
       | true=>rw [hm1,hm2,hm3,hm4] at hp;cases hp
       | false =>
        simp only [cond_false];cases e.yes with
        | true=>unfold BU Jf;simp only [cond_true,Int.reduceBEq,Bool.false_and,cond_false,Int.add_zero]
        | false=>unfold BU Jf;simp only [iw,cond_false,Int.reduceBEq,Bool.false_and,Int.add_zero]
   | false =>
    have ho:Cf e=0:=by unfold Cf;rw [h5,h6];rfl
    cases h13:e.kind==13 with
    | true =>
     have k13:=beq_iff_eq.1 h13;rw [k13,ho];intro hp;change ((G0 s e.side e.runs).2==0)=true at hp;show BU r.balls (G0 s e.side e.runs).1=_;have rn:=ok.runs;have pn:=ok.pens;unfold Be at rn pn;have i1:IntKind.i64.wrap (s.runs+5)=s.runs+5:=Cw (by omega) (by omega);have i2:IntKind.i64.wrap (s.pens+5)=s.pens+5:=Cw (by omega) (by omega);unfold G0 at hp ⊢;cases hr5:e.runs==5 with
     | false=>rw [hr5] at hp;cases hp
     | true =>
      cases hsd:e.side==s.side with
      | true =>
       simp only [Bool.not_true,cond_false,cond_true];unfold BU Jf OT;simp only [i1,i2,Bool.and_self,cond_true,Int.reduceBEq,Bool.true_and,Int.add_zero]
      | false =>
       simp only [Bool.not_true,cond_false,Bool.and_false,Int.add_zero];exact (DU _).symm
    | false =>
     simp only [cond_false];intro hp;refine z ?_ hp ho;refine Dl _ _ _ ?_ (Dl _ _ _ ?_ (Dl _ _ _ ?_ (Dl _ _ _ ?_ (Dl _ _ _ ?_ (Dl _ _ _ ?_ (Dl _ _ _ ?_ (Dl _ _ _ ?_ ?_)))))))
     ·unfold TK;exact Dl _ _ _ ks (Dl _ _ _ ks (Dl _ _ _ ks (fun _=>rfl)))
     ·unfold UQ;cases NQ r s e.player==0
      ·exact ks
      ·exact fun _=>rfl
     ·unfold Kv;exact Dl _ _ _ ks (fun _=>rfl)
     ·unfold M1;exact Dl _ _ _ ks (Dl _ _ _ ks (Dl _ _ _ ks (fun _=>rfl)))
     ·unfold QC;exact Dl _ _ _ ks (Dl _ _ _ ks (fun _=>rfl))
     ·unfold Kr;exact Dl _ _ _ ks (fun _=>rfl)
     ·unfold Kt;exact Dl _ _ _ ks (Dl _ _ _ ks (fun _=>rfl))
     ·unfold LJ;exact Dl _ _ _ ks (Dl _ _ _ (fun _=>rfl) ks)
     ·unfold NC;exact Dl _ _ _ ks (Dl _ _ _ ks (Dl _ _ _ ks (fun _=>rfl)))
end Go.Px
end
section
namespace Go.Px
set_option maxRecDepth 100000
def sco (xs:List Sco) (i:Nat):Sco:=xs.getD i ⟨0,0,0,0,0,0,0,0,0,0⟩
theorem Qj (xs:List Sco) (i:Nat):sco xs i=(match xs[i]? with | some s=>s | none=>⟨0,0,0,0,0,0,0,0,0,0⟩):=by
 unfold sco;rw [List.getD_eq_getElem?_getD];cases xs[i]?<;>rfl
theorem jl (xs:List Sco) (k:Nat) (s:Sco) (i:Nat) (hi:i<xs.length):sco (xs.set k s) i=(if k=i then s else sco xs i):=by
 rw [Qj,Qj,List.getElem?_set]
 by_cases h:k=i
 ·subst h;rw [if_pos rfl,if_pos rfl,if_pos hi]
 ·rw [if_neg h,if_neg h]
theorem pY (xs:List Sco) (s:Sco) (i:Nat) (hi:i<xs.length+1):sco (xs++[s]) i=(if i<xs.length then sco xs i else s):=by
 rw [Qj,Qj]
 by_cases h:i<xs.length
 ·rw [if_pos h,List.getElem?_append_left h]
 ·have:i=xs.length:=by omega
  subst this;rw [if_neg h,List.getElem?_append_right (Nat.le_refl _),Nat.sub_self];rfl
structure TS where
 xs:List Sco
 p1:Int
 p2:Int
 first:Int
 follow:Bool
def E8 (m:Mat):TS:=⟨m.inns.map (BU m.rules.balls),m.pen1,m.pen2,m.first,m.follow⟩
theorem Po (q:Int) (xs:List Inn) {i:Nat} (h:i<xs.length):sco (xs.map (BU q)) i=BU q (inn xs i):=by
 rw [Qj,MQ,List.getElem?_map,List.getElem?_eq_getElem h];rfl
theorem oB (q:Int) (xs:List Inn) (i:Nat):(sco (xs.map (BU q)) i).side=(inn xs i).side:=by
 rw [Qj,MQ,List.getElem?_map];cases xs[i]?<;>rfl
def JL (first:Int) (follow:Bool) (i:Int):Int:=cond (cond (follow&&iLe 2 i) (i==2) (i.tmod 2==1)) (BD first) first
theorem lY (m:Mat) (i:Int):Cv m i=JL m.first m.follow i:=rfl
def iI (sd p:Int):Sco:=⟨sd,p,0,0,0,0,0,0,p,0⟩
def Bn (sd:Nat→Int) (s:Int):Nat→Option Nat
 | 0=>none
 | k+1=>cond (sd k==s) (some k) (Bn sd s k)
theorem TO {f g:Nat→Int} {s:Int}:∀ n,(∀ k,k<n→f k=g k)→Bn f s n=Bn g s n
 | 0,_=>rfl
 | n+1,h=>by
  unfold Bn;rw [h n (Nat.lt_succ_self n),TO n (fun k hk=>h k (by omega))]
theorem IY {f:Nat→Int} {s:Int} {j:Nat}:∀ n,Bn f s n=some j→j<n∧f j=s
 | 0,h=>by cases h
 | n+1,h=>by
  unfold Bn at h;cases hq:f n==s with
  | true =>
   rw [hq] at h;cases h;exact ⟨Nat.lt_succ_self _,beq_iff_eq.1 hq⟩
  | false =>
   rw [hq] at h;obtain ⟨h1,h2⟩:=IY n h;exact ⟨by omega,h2⟩
theorem WU {f:Nat→Int} {s:Int}:∀ n,Bn f s n=none→∀ j,j<n→¬ f j=s
 | 0,_,j,hj=>absurd hj (Nat.not_lt_zero j)
 | n+1,h,j,hj=>by
  unfold Bn at h;cases hq:f n==s with
  | true=>rw [hq] at h;cases h
  | false =>
   rw [hq] at h
   by_cases e:j=n
   ·subst e;exact beq_eq_false_iff_ne.1 hq
   ·exact WU n h j (by omega)
theorem jb (xs:List Inn) (sd:Int):∀ n,L7 xs sd n=Bn (fun k=>(inn xs k).side) sd n
 | 0=>rfl
 | n+1=>by
  unfold L7 Bn;rw [jb xs sd n]
def eS (T:TS):TS :=
 let sd:=JL T.first T.follow (T.xs.length:Int)
 { T with xs:=T.xs++[iI sd (cond (sd==2) T.p2 T.p1)],p1:=cond (sd==1) 0 T.p1,p2:=cond (sd==2) 0 T.p2 }
def T6 (s:Int) (T:TS):TS:=match Bn (fun k=>(sco T.xs k).side) s T.xs.length with
 | some k=>{ T with xs:=T.xs.set k (Jf 5 (sco T.xs k)) }
 | none=>{ T with p1:=cond (s==1) (T.p1+5) T.p1,p2:=cond (s==2) (T.p2+5) T.p2 }
def eN (r:Rul) (e:Ev) (T:TS):TS:={ T with xs:=T.xs.set (T.xs.length - 1) (TT r e (sco T.xs (T.xs.length - 1))) }
def Qi (e:Ev):Int:=cond e.yes e.side (BD e.side)
def RI (r:Rul) (e:Ev) (T:TS):TS :=
 cond (e.kind==1) { T with first:=Qi e } (cond (e.kind==2) (eS T) (cond (e.kind==12) { T with follow:=e.yes } (cond (e.kind==16) T (cond (e.kind==13) (T6 e.side T) (eN r e T)))))
theorem lk (x:Mat):E8 (B7 x)=E8 x∧(B7 x).inns=x.inns∧((B7 x).stage=x.stage∨(x.stage=3∧((B7 x).stage=5∨((B7 x).stage=4∧x.inns.length=2)∨(B7 x).stage=2))):=by
 unfold B7;cases h3:(x.stage==3 && !((Af x).ending==0)) with
 | false=>exact ⟨rfl,rfl,Or.inl rfl⟩
 | true =>
  rw [Bool.and_eq_true] at h3;have s3:=beq_iff_eq.1 h3.1;simp only [cond_true];unfold Ps
  dsimp only
  cases ((x.inns.length:Int)==IntKind.i64.wrap (2 * x.rules.innings)||((x.inns.length:Int)==3&&iLt (B8 x (Af x).side) (B8 x (BD (Af x).side)))) with
  | true=>exact ⟨rfl,rfl,Or.inr ⟨s3,Or.inl rfl⟩⟩
  | false =>
   cases h4:((x.inns.length:Int)==2&&iLt 0 x.rules.followon&&iLe x.rules.followon (IntKind.i64.wrap (B8 x x.first - B8 x (BD x.first)))) with
   | true =>
    simp only [Bool.and_eq_true,beq_iff_eq] at h4;exact ⟨rfl,rfl,Or.inr ⟨s3,Or.inr (Or.inl ⟨rfl,by omega⟩)⟩⟩
   | false=>exact ⟨rfl,rfl,Or.inr ⟨s3,Or.inr (Or.inr rfl)⟩⟩
theorem aX {m:Mat} (h:Fm m=true):(0≤m.pen1∧m.pen1≤1000000)∧(0≤m.pen2∧m.pen2≤1000000)∧((m.stage==1)=true→m.first=0)∧((m.stage==4)=true→m.inns.length=2)∧0≤m.first∧m.first≤2:=by
 unfold Fm eX at h;simp only [Bool.and_eq_true,Bool.not_eq_true'] at h;obtain ⟨⟨h1,h2,h3,h4,h5,h6,h7,h8,h9,h10⟩,h11,h12⟩:=h;unfold aO at h4;simp only [Bool.or_eq_false_iff,iLt,decide_eq_false_iff_not] at h4;simp only [Bool.or_eq_false_iff,iLt,decide_eq_false_iff_not] at h5;refine ⟨by omega,by omega,fun hs=>?_,fun hs=>?_,by omega,by omega⟩
 ·rw [hs,Bool.true_and,Bool.not_eq_false',beq_iff_eq] at h7;exact h7
 ·rw [hs,Bool.true_and,Bool.or_eq_false_iff,Bool.not_eq_false',Bool.not_eq_false',beq_iff_eq,beq_iff_eq] at h9;omega
theorem mU {r:Rul} {a b c:Int} (h:((CZ r a b c).2==0)=true):BU r.balls (CZ r a b c).1=iI a c∧(a=1∨a=2):=by
 unfold CZ at h ⊢;cases h1:BA r==0 with
 | false=>rw [h1] at h;exact absurd (show (BA r==0)=true from h) (by rw [h1];decide)
 | true =>
  cases h2:(!btw a 1 2 || !btw b 0 1000000 || !btw c 0 1000000) with
  | true=>rw [h1,h2] at h;cases h
  | false =>
   rw [Bool.or_eq_false_iff,Bool.or_eq_false_iff,Bool.not_eq_false'] at h2;have:=SX.1 h2.1.1;refine ⟨?_,by omega⟩;show Sco.mk a c 0 (CV r.balls 0 0) 0 0 0 0 c 0=_;rw [QY,Int.zero_mul];rfl
theorem KF (q:Int) (xs:List Inn) (k:Nat) (t:Inn):(xs.set k t).map (BU q)=(xs.map (BU q)).set k (BU q t):=List.map_set
theorem iH (xs:List Sco) (k:Nat) (h:k<xs.length):xs.set k (sco xs k)=xs:=by
 apply List.ext_getElem?;intro i;rw [List.getElem?_set]
 by_cases e:k=i
 ·subst e;rw [if_pos rfl,if_pos h,Qj,List.getElem?_eq_getElem h]
 ·rw [if_neg e]
theorem qJ {r:Rul} {s:Inn} (hv:GW r s=true) (q:Int):BU q (OT s)=Jf 5 (BU q s):=by
 have ok:=LM.1 hv;have rn:=ok.runs;have pn:=ok.pens;unfold Be at rn pn;have i1:IntKind.i64.wrap (s.runs+5)=s.runs+5:=Cw (by omega) (by omega);have i2:IntKind.i64.wrap (s.pens+5)=s.pens+5:=Cw (by omega) (by omega);unfold BU Jf OT;simp only [i1,i2]
structure Stg (m:Mat) (e:Ev) (t:Mat):Prop where
 k1:(e.kind==1)=true→m.stage=1∧t.stage=2
 k2:(e.kind==2)=true→m.stage=2∧m.inns.length≤3
 k12:(e.kind==12)=true→m.stage=4∧m.inns.length=2∧t.stage=2
 k16:(e.kind==16)=true→t.stage=5
 play:(e.kind==1)=false→(e.kind==2)=false→(e.kind==12)=false→(e.kind==16)=false→m.stage=3∧1≤m.inns.length
 not1:¬ t.stage=1
 four:t.stage=4→t.inns.length=2
set_option maxHeartbeats 4000000 in
theorem fc {m:Mat} {e:Ev} (h:((DP m e).2==0)=true):E8 (DP m e).1=RI m.rules e (E8 m)∧Stg m e (DP m e).1:=by
 obtain ⟨hv,he,h5,hp,hs⟩:=Yx h;have ok:=Vw hv;obtain ⟨v1,v2,v3,v4,v5,v6⟩:=aX hv;obtain ⟨c1,c2,c3⟩:=lk (Hu m e).1;rw [hs,c1];have len4:=ok.len;unfold RI;unfold Hu at hp c2 c3 ⊢;cases k1:e.kind==1 with
 | true =>
  have e1:=beq_iff_eq.1 k1;rw [k1] at hp c2 c3;cases s1:m.stage==1 with
  | false=>rw [s1] at hp;cases hp
  | true =>
   rw [s1] at c2 c3;simp only [Bool.not_true,cond_false,cond_true] at c2 c3 ⊢;refine ⟨rfl,?_⟩;have st:(B7 { m with first:=cond e.yes e.side (BD e.side),stage:=2 }).stage=2:=by
    rcases c3 with c3 | c3
    ·exact c3
    ·exact absurd c3.1 (by decide)
   exact ⟨fun _=>⟨beq_iff_eq.1 s1,st⟩,fun k=>(by rw [e1] at k;cases k),fun k=>(by rw [e1] at k;cases k),fun k=>(by rw [e1] at k;cases k),fun k=>(by rw [e1] at k;cases k),by rw [st];decide,(by rw [st];intro k;cases k)⟩
 | false =>
  rw [k1] at hp c2 c3;cases k2:e.kind==2 with
  | true =>
   have e2:=beq_iff_eq.1 k2;rw [k2] at hp c2 c3;cases s2:m.stage==2 with
   | false=>rw [s2] at hp;cases hp
   | true =>
    rw [s2] at hp c2 c3;simp only [Bool.not_true,cond_false,cond_true] at hp c2 c3 ⊢;have room:=ok.room s2;have inn2:=(FF ok.code).innings;unfold Zi at hp c2 c3 ⊢;cases hb:(CZ m.rules (Cv m (m.inns.length:Int)) (Gh m (Cv m (m.inns.length:Int))) (cond (Cv m (m.inns.length:Int)==2) m.pen2 m.pen1)).2==0 with
    | false=>simp only [hb,Bool.not_false,cond_true] at hp;cases hp
    | true =>
     simp only [hb,Bool.not_true,cond_false] at hp c2 c3 ⊢;cases ht:(Aq m.rules (CZ m.rules (Cv m (m.inns.length:Int)) (Gh m (Cv m (m.inns.length:Int))) (cond (Cv m (m.inns.length:Int)==2) m.pen2 m.pen1)).1 e).2==0 with
     | false=>simp only [ht,Bool.not_false,cond_true] at hp;exact absurd hp Bool.false_ne_true
     | true =>
      simp only [ht,Bool.not_true,cond_false] at c2 c3 ⊢;have n1:=hY ht;have o0:Cf e=0:=by unfold Cf;rw [e2];rfl
      rw [RP _ (by rw [e2];rfl) o0,e2] at n1;have n2:=n1.trans (DU _);rw [(mU hb).1] at n2;refine ⟨?_,?_⟩
      ·unfold E8 eS;rw [← lY] at *
       simp only [List.map_append,List.map_cons,List.map_nil,n2,List.length_map]
      ·refine ⟨fun k=>(by rw [k1] at k;cases k),fun _=>⟨beq_iff_eq.1 s2,by omega⟩,fun k=>(by rw [e2] at k;cases k),fun k=>(by rw [e2] at k;cases k),fun _ k=>(by rw [k2] at k;cases k),?_,?_⟩
       ·rcases c3 with c3 | ⟨_,c3 | c3 | c3⟩
        ·rw [c3];decide
        ·rw [c3];decide
        ·rw [c3.1];decide
        ·rw [c3];decide
       ·intro k;rw [c2]
        rcases c3 with c3 | ⟨_,c3 | c3 | c3⟩
        ·rw [c3] at k;cases k
        ·rw [c3] at k;cases k
        ·exact c3.2
        ·rw [c3] at k;cases k
  | false =>
   rw [k2] at hp c2 c3;cases k12:e.kind==12 with
   | true =>
    have e12:=beq_iff_eq.1 k12;rw [k12] at hp c2 c3;cases s4:m.stage==4 with
    | false=>rw [s4] at hp;cases hp
    | true =>
     rw [s4] at hp c2 c3;cases sf:e.side==m.first with
     | false=>rw [sf] at hp;cases hp
     | true =>
      rw [sf] at c2 c3;simp only [Bool.not_true,cond_false,cond_true] at c2 c3 ⊢;refine ⟨rfl,?_⟩;have st:(B7 { m with follow:=e.yes,stage:=2 }).stage=2:=by
       rcases c3 with c3 | c3
       ·exact c3
       ·exact absurd c3.1 (by decide)
      exact ⟨fun k=>(by rw [k1] at k;cases k),fun k=>(by rw [k2] at k;cases k),fun _=>⟨beq_iff_eq.1 s4,v4 s4,st⟩,fun k=>(by rw [e12] at k;cases k),fun _ _ k=>(by rw [k12] at k;cases k),by rw [st];decide,(by rw [st];intro k;cases k)⟩
   | false =>
    rw [k12] at hp c2 c3;cases k16:e.kind==16 with
    | true =>
     rw [k16] at hp c2 c3;simp only [cond_false,cond_true] at c2 c3 ⊢;have st:(B7 (ZR m)).stage=5:=by
      rcases c3 with c3 | c3
      ·exact c3
      ·exact absurd c3.1 (by show ¬ ((5:Int)=3);decide)
     refine ⟨?_,⟨fun k=>(by rw [k1] at k;cases k),fun k=>(by rw [k2] at k;cases k),fun k=>(by rw [k12] at k;cases k),fun _=>st,fun _ _ _ k=>(by rw [k16] at k;cases k),by rw [st];decide,(by rw [st];intro k;cases k)⟩⟩;unfold E8 ZR;simp only;cases s3:m.stage==3 with
     | false=>rfl
     | true =>
      have hl:=Wp (ok.begun s3) (by omega);simp only [cond_true,KF];rw [show BU m.rules.balls { Af m with ending:=5 }=sco (m.inns.map (BU m.rules.balls)) (lnx m.inns) from (Po _ _ hl).symm,iH _ _ (by rw [List.length_map];exact hl)]
    | false =>
     rw [k16] at hp c2 c3;simp only [cond_false] at hp c2 c3 ⊢;cases s3:m.stage==3 with
     | false=>rw [s3] at hp;exact absurd (show ((1:Int)==0)=true from hp) (by decide)
     | true =>
      rw [s3] at hp c2 c3;simp only [Bool.not_true,cond_false] at hp c2 c3 ⊢;have h0:=ok.begun s3;have hl:=Wp h0 (by omega);have hlen:m.inns.length - 1=lnx m.inns:=by
       rw [beq_eq_false_iff_ne] at h0;unfold lnx;rw [CG (by omega) (by omega)];omega
      have stg:(B7 (FR m e).1).inns.length=m.inns.length→((B7 (FR m e).1).stage=3∨((B7 (FR m e).1).stage=5∨((B7 (FR m e).1).stage=4∧m.inns.length=2)∨(B7 (FR m e).1).stage=2))→Stg m e (B7 (FR m e).1):=fun hn hq =>
       ⟨fun k=>(by rw [k1] at k;cases k),fun k=>(by rw [k2] at k;cases k),fun k=>(by rw [k12] at k;cases k),fun k=>(by rw [k16] at k;cases k),fun _ _ _ _=>⟨beq_iff_eq.1 s3,by omega⟩,by
        rcases hq with q | q | q | q
        ·rw [q];decide
        ·rw [q];decide
        ·rw [q.1];decide
        ·rw [q];decide,by
        intro k;rw [hn]
        rcases hq with q | q | q | q
        ·rw [q] at k;cases k
        ·rw [q] at k;cases k
        ·exact q.2
        ·rw [q] at k;cases k⟩
      have xl:(m.inns.map (BU m.rules.balls)).length=m.inns.length:=List.length_map _;cases hq:(Aq m.rules (Af m) e).2==0 with
      | false=>unfold FR at hp;simp only [hq,Bool.not_false,cond_true] at hp;exact absurd hp Bool.false_ne_true
      | true =>
       have n1:=hY hq;have sd1:(Aq m.rules (Af m) e).1.side=(Af m).side:=congrArg Sco.side n1;have s3':=beq_iff_eq.1 s3;cases k13:e.kind==13 with
       | false =>
        rw [k13] at n1;have n2:=n1.trans (DU _);have pm:FR m e=({ m with inns:=m.inns.set (lnx m.inns) (Aq m.rules (Af m) e).1 },0):=by
         unfold FR;simp only [hq,k13,Bool.not_true,Bool.false_and,cond_false]
        rw [pm] at c2 c3 stg ⊢;refine ⟨?_,stg (by rw [c2];exact List.length_set) ?_⟩
        ·unfold E8 eN;simp only [cond_false,KF,n2,xl,hlen,Po _ _ hl];rfl
        ·rcases c3 with c3 | ⟨_,c3 | c3 | c3⟩
         ·exact Or.inl (c3.trans s3')
         ·exact Or.inr (Or.inl c3)
         ·exact Or.inr (Or.inr (Or.inl ⟨c3.1,by have:=c3.2;change (m.inns.set _ _).length=2 at this;rw [List.length_set] at this;exact this⟩))
         ·exact Or.inr (Or.inr (Or.inr c3))
       | true =>
        have e13:=beq_iff_eq.1 k13;have o0:Cf e=0:=by unfold Cf;rw [e13];rfl
        rw [RP _ (by rw [e13];rfl) o0,k13,Bool.true_and] at n1;have bk:Bn (fun k=>(sco (m.inns.map (BU m.rules.balls)) k).side) e.side m.inns.length=cond (e.side==(Af m).side) (some (lnx m.inns)) (Bn (fun k=>(inn m.inns k).side) e.side (lnx m.inns)):=by
         have:m.inns.length=lnx m.inns+1:=by omega
         rw [this];show cond ((sco (m.inns.map (BU m.rules.balls)) (lnx m.inns)).side==e.side) _ (Bn (fun k=>(sco (m.inns.map (BU m.rules.balls)) k).side) e.side (lnx m.inns))=_;simp only [oB];have sy:((inn m.inns (lnx m.inns)).side==e.side)=(e.side==(Af m).side):=by
          show ((Af m).side==e.side)=_;rw [Bool.eq_iff_iff,beq_iff_eq,beq_iff_eq];exact eq_comm
         rw [sy]
        cases hsd:e.side==(Af m).side with
        | true =>
         rw [hsd] at n1 bk;simp only [cond_true] at n1 bk;have pm:FR m e=({ m with inns:=m.inns.set (lnx m.inns) (Aq m.rules (Af m) e).1 },0):=by
          unfold FR;simp only [hq,k13,sd1,hsd,Bool.not_true,Bool.and_false,cond_false]
         rw [pm] at c2 c3 stg ⊢;refine ⟨?_,stg (by rw [c2];exact List.length_set) ?_⟩
         ·unfold E8 T6;simp only [cond_true,KF,n1,xl,bk,Po _ _ hl];rfl
         ·rcases c3 with c3 | ⟨_,c3 | c3 | c3⟩
          ·exact Or.inl (c3.trans s3')
          ·exact Or.inr (Or.inl c3)
          ·exact Or.inr (Or.inr (Or.inl ⟨c3.1,by have:=c3.2;change (m.inns.set _ _).length=2 at this;rw [List.length_set] at this;exact this⟩))
          ·exact Or.inr (Or.inr (Or.inr c3))
        | false =>
         rw [hsd] at n1 bk;simp only [cond_false] at n1 bk;have n2:=n1.trans (DU _);have pm:FR m e=(HL { m with inns:=m.inns.set (lnx m.inns) (Aq m.rules (Af m) e).1 } e.side,0):=by
          unfold FR;simp only [hq,k13,sd1,hsd,Bool.not_true,Bool.not_false,Bool.and_true,cond_true,cond_false]
         have ab:L7 (m.inns.set (lnx m.inns) (Aq m.rules (Af m) e).1) e.side (m.inns.set (lnx m.inns) (Aq m.rules (Af m) e).1).length=Bn (fun k=>(inn m.inns k).side) e.side (lnx m.inns):=by
          rw [jb,List.length_set,show m.inns.length=lnx m.inns+1 by omega];show cond ((inn (m.inns.set (lnx m.inns) (Aq m.rules (Af m) e).1) (lnx m.inns)).side==e.side) (some (lnx m.inns)) (Bn (fun k=>(inn (m.inns.set (lnx m.inns) (Aq m.rules (Af m) e).1) k).side) e.side (lnx m.inns))=Bn (fun k=>(inn m.inns k).side) e.side (lnx m.inns);rw [Wu _ _ _ _ hl,if_pos rfl,sd1];have sy:((Af m).side==e.side)=false:=by
           rw [← hsd,Bool.eq_iff_iff,beq_iff_eq,beq_iff_eq];exact eq_comm
          rw [sy];exact TO _ (fun k hk=>by rw [Wu _ _ _ _ (by omega),if_neg (by omega)])
         have mx:(m.inns.set (lnx m.inns) (Aq m.rules (Af m) e).1).map (BU m.rules.balls)=m.inns.map (BU m.rules.balls):=by
          rw [KF,n2,show BU m.rules.balls (Af m)=sco (m.inns.map (BU m.rules.balls)) (lnx m.inns) from (Po _ _ hl).symm];exact iH _ _ (by rw [xl];exact hl)
         obtain ⟨a1,a2,a3,a4⟩:=fH (m:={ m with inns:=m.inns.set (lnx m.inns) (Aq m.rules (Af m) e).1 }) e.side (QA (lnx m.inns) (cw ok) (by
          have lv:=Pd (ok.innv (lnx m.inns) hl).1;have l1:=lv.1;have l2:=lv.2.1;exact Qs (RB m.rules (Af m) e) lv.2.2 (show (inn m.inns (lnx m.inns)).before.length+(inn m.inns (lnx m.inns)).bowlers.length≤1048575 by omega)))
         have a3':(HL { m with inns:=m.inns.set (lnx m.inns) (Aq m.rules (Af m) e).1 } e.side).inns.length=m.inns.length:=a3.trans List.length_set;rw [pm] at c2 c3 stg ⊢;refine ⟨?_,stg (by rw [c2];exact a3') ?_⟩
         ·simp only [cond_true];unfold HL;simp only [ab];unfold T6;show E8 _=match Bn (fun k=>(sco (m.inns.map (BU m.rules.balls)) k).side) e.side (m.inns.map (BU m.rules.balls)).length with
           | some k=>_
           | none=>_
          rw [xl,bk];cases hk:Bn (fun k=>(inn m.inns k).side) e.side (lnx m.inns) with
          | none =>
           have i1:IntKind.i64.wrap (m.pen1+5)=m.pen1+5:=Cw (by omega) (by omega);have i2:IntKind.i64.wrap (m.pen2+5)=m.pen2+5:=Cw (by omega) (by omega);unfold E8;simp only [mx,i1,i2]
          | some k =>
           have hk2:=(IY _ hk).1;have hki:inn (m.inns.set (lnx m.inns) (Aq m.rules (Af m) e).1) k=inn m.inns k:=by rw [Wu _ _ _ _ (by omega),if_neg (by omega)]
           unfold E8;simp only [hki,KF (k:=k),mx,qJ (ok.innv k (by omega)).1,Po _ _ (show k<m.inns.length by omega)]
         ·rcases c3 with c3 | ⟨_,c3 | c3 | c3⟩
          ·exact Or.inl (c3.trans (a4.trans s3'))
          ·exact Or.inr (Or.inl c3)
          ·exact Or.inr (Or.inr (Or.inl ⟨c3.1,a3'.symm.trans c3.2⟩))
          ·exact Or.inr (Or.inr (Or.inr c3))
end Go.Px
end
section
namespace Go.Px
set_option maxRecDepth 100000
def opn (L:Rows):Nat→Nat
 | 0=>0
 | n+1=>opn L n+cond ((evR L n).kind==2) 1 0
theorem Tj (L:Rows) (n:Nat):opn L n≤opn L (n+1):=by
 show opn L n≤opn L n+_;exact Nat.le_add_right _ _
theorem Ti (L:Rows) {i:Nat}:∀ {j:Nat},i≤j→opn L i≤opn L j
 | 0,h=>by rw [Nat.le_zero.1 h];exact Nat.le_refl _
 | j+1,h=>by
  by_cases e:i=j+1
  ·rw [e];exact Nat.le_refl _
  ·exact Nat.le_trans (Ti L (by omega)) (Tj L j)
def DF (L:Rows):Nat→Option Int
 | 0=>none
 | n+1=>match DF L n with
  | some v=>some v
  | none=>cond ((evR L n).kind==1) (some (Qi (evR L n))) none
theorem SK {L:Rows} {v:Int} {i:Nat} (h:DF L i=some v):∀ {j:Nat},i≤j→DF L j=some v
 | 0,hj=>by rw [Nat.le_zero.1 hj] at h;exact h
 | j+1,hj=>by
  by_cases e:i=j+1
  ·rw [← e];exact h
  ·unfold DF;rw [SK h (show i≤j by omega)]
def CB (L:Rows):Nat→Bool
 | 0=>false
 | n+1=>CB L n||((evR L n).kind==12&&(evR L n).yes)
def had (L:Rows):Nat→Bool
 | 0=>false
 | n+1=>had L n||(evR L n).kind==12
theorem jZ {L:Rows}:∀ n,had L n=false→CB L n=false
 | 0,_=>rfl
 | n+1,h=>by
  unfold had at h;unfold CB;rw [Bool.or_eq_false_iff] at h;rw [jZ n h.1,h.2];rfl
structure LogI (L:Rows) (i:Nat) (m:Mat):Prop where
 len:m.inns.length=opn L i
 fs:∀ v,DF L i=some v→m.first=v∧¬ m.stage=1
 fn:DF L i=none→m.first=0
 fol:m.follow=CB L i
 k12:had L i=true→(m.inns.length=2∧(m.stage=2∨m.stage=5))∨3≤m.inns.length
structure EvF (L:Rows) (i:Nat):Prop where
 two:((evR L i).kind==2)=true→opn L i≤3∧∃ v,DF L i=some v∧(v=1∨v=2)
 twelve:((evR L i).kind==12)=true→opn L i=2
 play:((evR L i).kind==1)=false→((evR L i).kind==2)=false→((evR L i).kind==12)=false→((evR L i).kind==16)=false→1≤opn L i
theorem oZ (s:Int) (T:TS):(T6 s T).xs.length=T.xs.length∧(T6 s T).first=T.first∧(T6 s T).follow=T.follow:=by
 unfold T6;cases Bn (fun k=>(sco T.xs k).side) s T.xs.length with
 | none=>exact ⟨rfl,rfl,rfl⟩
 | some k=>exact ⟨List.length_set,rfl,rfl⟩
theorem lT (r:Rul) (e:Ev) (T:TS):(RI r e T).xs.length=T.xs.length+cond (e.kind==2) 1 0∧(RI r e T).first=cond (e.kind==1) (Qi e) T.first∧(RI r e T).follow=cond (e.kind==12) e.yes T.follow:=by
 unfold RI;cases k1:e.kind==1 with
 | true =>
  rw [beq_iff_eq.1 k1];exact ⟨rfl,rfl,rfl⟩
 | false =>
  cases k2:e.kind==2 with
  | true =>
   rw [beq_iff_eq.1 k2];refine ⟨?_,rfl,rfl⟩;show (T.xs++[_]).length=_;rw [List.length_append];rfl
  | false =>
   cases k12:e.kind==12 with
   | true=>exact ⟨rfl,rfl,rfl⟩
   | false =>
    cases k16:e.kind==16 with
    | true=>exact ⟨rfl,rfl,rfl⟩
    | false =>
     cases k13:e.kind==13 with
     | true=>exact oZ e.side T
     | false=>exact ⟨List.length_set,rfl,rfl⟩
theorem oQ {L:Rows} {i:Nat} {m:Mat} (h:LogI L i m) (ha:((DP m (evR L i)).2==0)=true):LogI L (i+1) (DP m (evR L i)).1∧EvF L i:=by
 obtain ⟨ab,sg⟩:=fc ha;obtain ⟨hv,he,h5,hp,hs⟩:=Yx ha;have vp:=aX hv;obtain ⟨t1,t2,t3⟩:=lT m.rules (evR L i) (E8 m);rw [← ab] at t1 t2 t3;have x1:∀ z:Mat,(E8 z).xs.length=z.inns.length:=fun z=>List.length_map _
 rw [x1,x1] at t1;change (DP m (evR L i)).1.first=cond ((evR L i).kind==1) (Qi (evR L i)) m.first at t2;change (DP m (evR L i)).1.follow=cond ((evR L i).kind==12) (evR L i).yes m.follow at t3;have no12:((evR L i).kind==12)=true→had L i=false:=fun k=>by
  obtain ⟨s1,s2,s3⟩:=sg.k12 k;cases hh:had L i with
  | false=>rfl
  | true=>rcases h.k12 hh with ⟨_,q | q⟩ | q<;>omega
 have no5:¬ m.stage=5:=beq_eq_false_iff_ne.1 h5;refine ⟨⟨?_,?_,?_,?_,?_⟩,⟨?_,?_,?_⟩⟩
 ·rw [t1,h.len];rfl
 ·intro v hv2;refine ⟨?_,sg.not1⟩;rw [t2];unfold DF at hv2;cases hf:DF L i with
  | some w =>
   rw [hf] at hv2;cases hv2;obtain ⟨f1,f2⟩:=h.fs _ hf;cases k1:(evR L i).kind==1 with
   | true=>exact absurd (sg.k1 k1).1 f2
   | false=>exact f1
  | none =>
   rw [hf] at hv2;cases k1:(evR L i).kind==1 with
   | true =>
    simp only [k1,cond_true] at hv2;cases hv2;rfl
   | false =>
    simp only [k1,cond_false] at hv2;cases hv2
 ·intro hn;rw [t2];unfold DF at hn;cases hf:DF L i with
  | some w=>rw [hf] at hn;cases hn
  | none =>
   rw [hf] at hn;cases k1:(evR L i).kind==1 with
   | true =>
    simp only [k1,cond_true] at hn;cases hn
   | false=>exact h.fn hf
 ·rw [t3];unfold CB;cases k12:(evR L i).kind==12 with
  | true=>rw [jZ i (no12 k12)];rfl
  | false=>rw [h.fol,Bool.false_and,Bool.or_false];rfl
 ·intro hh;rw [t1];unfold had at hh;cases k12:(evR L i).kind==12 with
  | true =>
   obtain ⟨s1,s2,s3⟩:=sg.k12 k12;rw [beq_iff_eq.1 k12];exact Or.inl ⟨s2,Or.inl s3⟩
  | false =>
   rw [k12,Bool.or_false] at hh
   rcases h.k12 hh with ⟨q1,q2⟩ | q
   ·cases k2:(evR L i).kind==2 with
    | true=>exact Or.inr (by simp only [cond_true];omega)
    | false =>
     refine Or.inl ⟨q1,?_⟩;cases k16:(evR L i).kind==16 with
     | true=>exact Or.inr (sg.k16 k16)
     | false =>
      cases k1:(evR L i).kind==1 with
      | true=>have:=(sg.k1 k1).1;omega
      | false=>have:=(sg.play k1 k2 k12 k16).1;omega
   ·exact Or.inr (Nat.le_trans q (Nat.le_add_right _ _))
 ·intro k2;obtain ⟨s1,s2⟩:=sg.k2 k2;refine ⟨by rw [← h.len];exact s2,?_⟩;have tk:=(Vw hv).toss (by rw [s1];rfl);cases hf:DF L i with
  | none=>have:=h.fn hf;omega
  | some w=>exact ⟨w,rfl,by rw [← (h.fs w hf).1];exact tk⟩
 ·intro k;rw [← h.len];exact (sg.k12 k).2.1
 ·intro a b c d;rw [← h.len];exact (sg.play a b c d).2
theorem jf {r:Rul} (h:((Al r).2==0)=true):(Al r).1=⟨r,1,0,false,[],0,0,0,0,0⟩∧BA r=0:=by
 unfold Al at h ⊢;cases hc:BA r==0 with
 | false=>rw [hc] at h;exact absurd (show (BA r==0)=true from h) (by rw [hc];decide)
 | true=>exact ⟨rfl,beq_iff_eq.1 hc⟩
theorem NI {r:Rul} {L:Rows} {n:Nat} (hc:((Al r).2==0)=true) (ha:acc L n 0 (Al r).1):∀ i,i≤n→LogI L i (stM L i 0 (Al r).1)∧StepOk r (stM L i 0 (Al r).1)∧∀ j,j<i→E8 (stM L (j+1) 0 (Al r).1)=RI r (evR L j) (E8 (stM L j 0 (Al r).1))∧EvF L j
 | 0,_=>by
  refine ⟨?_,jz r hc,fun j hj=>absurd hj (Nat.not_lt_zero j)⟩;show LogI L 0 (Al r).1;rw [(jf hc).1];exact ⟨rfl,fun v h=>(by cases h),fun _=>rfl,rfl,fun h=>(by cases h)⟩
 | i+1,hi=>by
  obtain ⟨h1,h2,h3⟩:=NI hc ha i (by omega);have a0:=Vq n 0 _ ha i (by omega);have s0:=fU (L:=L) i 0 (Al r).1;rw [Nat.zero_add] at a0 s0;have q:=(fo a0).1;rw [q] at s0 a0;obtain ⟨l1,l2⟩:=oQ h1 a0;rw [s0];refine ⟨l1,by rw [← q];exact ga h2 _ _,fun j hj=>?_⟩
  by_cases e:j=i
  ·subst e;rw [s0];refine ⟨?_,l2⟩;rw [(fc a0).1,h2.rules]
  ·exact h3 j (by omega)
def sdF (L:Rows) (n:Nat) (j:Nat):Int:=JL ((DF L n).getD 1) (CB L n) (j:Int)
theorem iZ {L:Rows} {i:Nat}:∀ n,i≤n→(∀ j,i≤j→j<n→((evR L j).kind==12)=false)→CB L n=CB L i
 | 0,h,_=>by rw [Nat.le_zero.1 h]
 | n+1,h,hk=>by
  by_cases e:i=n+1
  ·rw [e]
  ·have:CB L (n+1)=CB L n:=by
    show (CB L n||((evR L n).kind==12&&_))=_;rw [hk n (by omega) (Nat.lt_succ_self n),Bool.false_and,Bool.or_false]
   rw [this];exact iZ n (by omega) (fun j h1 h2=>hk j h1 (by omega))
theorem oT (f:Int) (a b:Bool) {j:Nat} (h:j<2):JL f a (j:Int)=JL f b (j:Int):=by
 have:iLe 2 (j:Int)=false:=by simp only [iLe,decide_eq_false_iff_not];omega
 unfold JL;rw [this,Bool.and_false,Bool.and_false]
theorem pi {r : Rul} {L : Rows} {n i : Nat} (hc : ((Al r).2 == 0) = true) (ha : acc L n 0 (Al r).1) (hi : i < n) (hk : ((evR L i).kind == 2) = true) :
    JL (stM L i 0 (Al r).1).first (stM L i 0 (Al r).1).follow (opn L i:Int)=sdF L n (opn L i)∧(sdF L n (opn L i)=1∨sdF L n (opn L i)=2):=by
  obtain ⟨h1,_,_⟩:=NI hc ha i (by omega);obtain ⟨_,_,h3⟩:=NI hc ha n (Nat.le_refl n);obtain ⟨e1,v,e2,e3⟩:=(h3 i hi).2.two hk;have f1:=(h1.fs v e2).1;have f2:=SK e2 (show i≤n by omega);have main:JL (stM L i 0 (Al r).1).first (stM L i 0 (Al r).1).follow (opn L i:Int)=sdF L n (opn L i):=by
    unfold sdF;rw [f1,f2,h1.fol];show JL v _ _=JL v _ _
    by_cases h2:opn L i<2
    · exact oT _ _ _ h2
    · rw [iZ (i:=i) n (by omega)];intro j j1 j2;cases k12:(evR L j).kind==12 with
      | false=>rfl
      | true =>
        have o2:=(h3 j j2).2.twelve k12
        by_cases e:j=i
        · subst e;rw [beq_iff_eq.1 hk] at k12;cases k12
        · have:=Ti L (show i+1≤j by omega);have o3:opn L (i+1)=opn L i+1:=by show opn L i+cond ((evR L i).kind==2) 1 0=_;rw [hk];rfl
          omega
  refine ⟨main,?_⟩;rw [← main,f1];unfold JL;cases cond ((stM L i 0 (Al r).1).follow&&iLe 2 (opn L i:Int)) ((opn L i:Int)==2) ((opn L i:Int).tmod 2==1) with
  | false=>exact e3
  | true=>rcases e3 with h | h<;>rw [h]<;>decide
def smi (L:Rows) (f:Ev→Int) (j:Nat):Nat→Int
 | 0=>0
 | n+1=>smi L f j n+cond (Nat.beq (opn L (n+1)) (j+1)) (f (evR L n)) 0
theorem iW (L:Rows) (f:Ev→Int) (j n:Nat):smi L f j (n+1)=smi L f j n+cond (Nat.beq (opn L (n+1)) (j+1)) (f (evR L n)) 0:=rfl
theorem iJ {a b:Nat} (h:¬ a=b):Nat.beq a b=false:=by
 cases hq:Nat.beq a b with
 | false=>rfl
 | true=>exact absurd (Nat.eq_of_beq_eq_true hq) h
theorem bF (a:Nat):Nat.beq a a=true:=Nat.beq_refl a
theorem eu {L:Rows} {f:Ev→Int} {j:Nat}:∀ n,opn L n≤j→smi L f j n=0
 | 0,_=>rfl
 | n+1,h=>by
  have:=Tj L n;unfold smi;rw [eu n (by omega),iJ (by omega)];rfl
def Yv (sd:Nat→Int) (s:Int):Nat→Nat→Option Nat
 | 0,_=>none
 | c+1,i=>cond (sd i==s) (some i) (Yv sd s c (i+1))
theorem Qc {sd:Nat→Int} {s:Int} {j:Nat}:∀ c i,Yv sd s c i=some j→i≤j∧j<i+c∧sd j=s∧∀ k,i≤k→k<j→¬ sd k=s
 | 0,_,h=>by cases h
 | c+1,i,h=>by
  unfold Yv at h;cases hq:sd i==s with
  | true =>
   rw [hq] at h;cases h;exact ⟨Nat.le_refl _,by omega,beq_iff_eq.1 hq,fun k h1 h2=>by omega⟩
  | false =>
   rw [hq] at h;obtain ⟨h1,h2,h3,h4⟩:=Qc c (i+1) h;refine ⟨by omega,by omega,h3,fun k k1 k2=>?_⟩
   by_cases e:k=i
   ·subst e;exact beq_eq_false_iff_ne.1 hq
   ·exact h4 k (by omega) k2
theorem mJ {sd:Nat→Int} {s:Int} {k:Nat} (hs:sd k=s):∀ c i,i≤k→k<i+c→∃ j,Yv sd s c i=some j∧j≤k
 | 0,_,h1,h2=>absurd h2 (by omega)
 | c+1,i,h1,h2=>by
  unfold Yv;cases hq:sd i==s with
  | true=>exact ⟨i,rfl,h1⟩
  | false =>
   have:¬ i=k:=fun e=>by subst e;exact beq_eq_false_iff_ne.1 hq hs
   exact mJ hs c (i+1) (by omega) (by omega)
def Hq (sd:Nat→Int) (n k:Nat) (s:Int):Option Nat:=match Bn sd s (k+1) with
 | some j=>some j
 | none=>Yv sd s (n - (k+1)) (k+1)
theorem oU {sd:Nat→Int} {n k j:Nat} {s:Int} (h:Hq sd n k s=some j):sd j=s∧(j≤k∨(k<j∧j<n∧Bn sd s (k+1)=none)):=by
 unfold Hq at h;cases hb:Bn sd s (k+1) with
 | some w =>
  rw [hb] at h;cases h;have:=IY _ hb;exact ⟨this.2,Or.inl (by omega)⟩
 | none =>
  rw [hb] at h;obtain ⟨h1,h2,h3,h4⟩:=Qc _ _ h;exact ⟨h3,Or.inr ⟨by omega,by omega,rfl⟩⟩
def isS (o:Option Nat) (j:Nat):Bool:=match o with
 | some k=>Nat.beq k j
 | none=>false
theorem Wz {o:Option Nat} {j:Nat}:isS o j=true↔o=some j:=by
 cases o with
 | none=>exact ⟨fun h=>(by cases h),fun h=>(by cases h)⟩
 | some k=>exact ⟨fun h=>(by rw [Nat.eq_of_beq_eq_true h]),fun h=>(by cases h;exact bF j)⟩
def pnS (L:Rows) (sd:Nat→Int) (n j:Nat):Nat→Int
 | 0=>0
 | i+1=>pnS L sd n j i+cond ((evR L i).kind==13&&isS (Hq sd n (opn L (i+1) - 1) (evR L i).side) j) 5 0
theorem qi (L:Rows) (sd:Nat→Int) (n j i:Nat):pnS L sd n j (i+1)=pnS L sd n j i+cond ((evR L i).kind==13&&isS (Hq sd n (opn L (i+1) - 1) (evR L i).side) j) 5 0:=rfl
def pcS (L:Rows) (s:Int):Nat→Int
 | 0=>0
 | i+1=>pcS L s i+cond ((evR L i).kind==13&&(evR L i).side==s) 5 0
def ES (L:Rows) (sd:Nat→Int) (s:Int) (k i:Nat):Int:=match Bn sd s k with
 | some _=>0
 | none=>pcS L s i
theorem jy {L:Rows} {sd:Nat→Int} {n k:Nat} (hn:k<n):∀ i,(∀ j,j<i→((evR L j).kind==13)=true→1≤opn L (j+1))→opn L i≤k→pnS L sd n k i=ES L sd (sd k) k i
 | 0,_,_=>by unfold ES;cases Bn sd (sd k) k<;>rfl
 | i+1,h,hk=>by
  have ih:=jy (sd:=sd) hn i (fun j hj=>h j (by omega)) (Nat.le_trans (Tj L i) hk);unfold pnS;rw [ih];unfold ES;cases k13:(evR L i).kind==13 with
  | false =>
   rw [Bool.false_and,cond_false,Int.add_zero];cases Bn sd (sd k) k with
   | some _=>rfl
   | none =>
    show pcS L (sd k) i=pcS L (sd k) i+cond ((evR L i).kind==13&&_) 5 0;rw [k13,Bool.false_and,cond_false,Int.add_zero]
  | true =>
   have o1:=h i (Nat.lt_succ_self i) k13;rw [Bool.true_and]
   by_cases es:(evR L i).side=sd k
   ·cases hb:Bn sd (sd k) k with
    | some w =>
     have bw:=IY _ hb;have:isS (Hq sd n (opn L (i+1) - 1) (evR L i).side) k=false:=by
      cases hq:isS (Hq sd n (opn L (i+1) - 1) (evR L i).side) k with
      | false=>rfl
      | true =>
       exfalso
       have hd:=Wz.1 hq;rw [es] at hd;unfold Hq at hd;rw [show opn L (i+1) - 1+1=opn L (i+1) by omega] at hd;cases hb2:Bn sd (sd k) (opn L (i+1)) with
       | some z =>
        rw [hb2] at hd;cases hd;have:=(IY _ hb2).1;omega
       | none =>
        rw [hb2] at hd;have nb:=WU _ hb2;have f4:=(Qc _ _ hd).2.2.2 w
        by_cases hw:w<opn L (i+1)
        ·exact nb w hw bw.2
        ·exact f4 (by omega) bw.1 bw.2
     rw [this];rfl
    | none =>
     have nb:=WU _ hb;have:isS (Hq sd n (opn L (i+1) - 1) (evR L i).side) k=true:=by
      rw [Wz,es];unfold Hq;rw [show opn L (i+1) - 1+1=opn L (i+1) by omega];cases hb2:Bn sd (sd k) (opn L (i+1)) with
      | some z =>
       have:=IY _ hb2;exact absurd this.2 (nb z (by omega))
      | none =>
       obtain ⟨j,j1,j2⟩:=mJ (sd:=sd) (s:=sd k) (k:=k) rfl (n - opn L (i+1)) (opn L (i+1)) hk (by omega);have:=Qc _ _ j1
       by_cases e:j=k
       ·subst e;exact j1
       ·exact absurd this.2.2.1 (nb j (by omega))
     rw [this];show pcS L (sd k) i+_=pcS L (sd k) i+cond ((evR L i).kind==13&&(evR L i).side==sd k) 5 0;rw [k13,es,beq_self_eq_true];rfl
   ·have:isS (Hq sd n (opn L (i+1) - 1) (evR L i).side) k=false:=by
     cases hq:isS (Hq sd n (opn L (i+1) - 1) (evR L i).side) k with
     | false=>rfl
     | true=>exact absurd (oU (Wz.1 hq)).1.symm es
    rw [this,cond_false,Int.add_zero];cases Bn sd (sd k) k with
    | some _=>rfl
    | none =>
     show pcS L (sd k) i=pcS L (sd k) i+cond ((evR L i).kind==13&&(evR L i).side==sd k) 5 0;rw [beq_false_of_ne es,Bool.and_false,cond_false,Int.add_zero]
def rU (r:Rul) (e:Ev):Int:=Ea (IV r e)
def lN (r:Rul) (e:Ev):Int:=cond (IV r e).counts 1 0
def SN (r:Rul) (L:Rows) (sd:Nat→Int) (n j i:Nat):Sco:=⟨sd j,smi L (rU r) j i+pnS L sd n j i,smi L cD j i,smi L (lN r) j i,smi L (fun e=>(IV r e).wides) j i,smi L (fun e=>(IV r e).noballs) j i,smi L (fun e=>(IV r e).byes) j i,smi L (fun e=>(IV r e).legbyes) j i,pnS L sd n j i,0⟩
theorem Y0 (r:Rul) (L:Rows) (sd:Nat→Int) (n j i:Nat):SN r L sd n j (i+1)=Jf (cond ((evR L i).kind==13&&isS (Hq sd n (opn L (i+1) - 1) (evR L i).side) j) 5 0) (cond (Nat.beq (opn L (i+1)) (j+1)) (TT r (evR L i) (SN r L sd n j i)) (SN r L sd n j i)):=by
 unfold SN;simp only [iW,qi];generalize (cond ((evR L i).kind==13&&isS (Hq sd n (opn L (i+1) - 1) (evR L i).side) j) 5 0:Int)=p;cases Nat.beq (opn L (i+1)) (j+1) with
 | false =>
  unfold Jf;simp only [cond_false,Int.add_zero,Int.add_assoc]
 | true =>
  unfold Jf TT;simp only [cond_true];rw [Sco.mk.injEq];refine ⟨rfl,?_,rfl,rfl,rfl,rfl,rfl,rfl,rfl,rfl⟩;unfold rU;omega
theorem cm {r:Rul} {L:Rows} {sd:Nat→Int} {n j i:Nat} (h4:((evR L i).kind==4)=false) (h13:((evR L i).kind==13)=false) (ho:Cf (evR L i)=0):SN r L sd n j (i+1)=SN r L sd n j i:=by
 rw [Y0,h13,Bool.false_and,cond_false,DU,RP _ h4 ho];cases Nat.beq (opn L (i+1)) (j+1)<;>rfl
structure Clo (r:Rul) (L:Rows) (sd:Nat→Int) (n i:Nat) (T:TS):Prop where
 len:T.xs.length=opn L i
 at':∀ j,j<opn L i→sco T.xs j=SN r L sd n j i
 p1:T.p1=ES L sd 1 (opn L i) i
 p2:T.p2=ES L sd 2 (opn L i) i
theorem FK {L:Rows} {sd:Nat→Int} {s:Int} {k i:Nat} (h:((evR L i).kind==13&&(evR L i).side==s)=false):ES L sd s k (i+1)=ES L sd s k i:=by
 unfold ES;cases Bn sd s k with
 | some _=>rfl
 | none =>
  show pcS L s i+cond ((evR L i).kind==13&&(evR L i).side==s) 5 0=_;rw [h,cond_false,Int.add_zero]
theorem mb {r:Rul} {L:Rows} {n:Nat} (hc:((Al r).2==0)=true) (ha:acc L n 0 (Al r).1):∀ i,i≤n→Clo r L (sdF L n) (opn L n) i (E8 (stM L i 0 (Al r).1))
 | 0,_=>by
  show Clo r L _ _ 0 (E8 (Al r).1);rw [(jf hc).1];exact ⟨rfl,fun j hj=>absurd hj (Nat.not_lt_zero j),rfl,rfl⟩
 | i+1,hi=>by
  have ih:=mb hc ha i (by omega);obtain ⟨_,_,h3⟩:=NI hc ha n (Nat.le_refl n);obtain ⟨hst,hev⟩:=h3 i (by omega);have sat:=pi hc ha (show i<n by omega);have o13:∀ j,j<i→((evR L j).kind==13)=true→1≤opn L (j+1):=fun j hj k13=>by
   have e:=beq_iff_eq.1 k13;have:=(h3 j (by omega)).2.play (by rw [e];rfl) (by rw [e];rfl) (by rw [e];rfl) (by rw [e];rfl);exact Nat.le_trans this (Tj L j)
  rw [hst];change ((evR L i).kind==2)=true→JL (E8 (stM L i 0 (Al r).1)).first (E8 (stM L i 0 (Al r).1)).follow (opn L i:Int)=_∧_ at sat;generalize E8 (stM L i 0 (Al r).1)=T at ih sat;have onx:opn L (i+1)=opn L i+cond ((evR L i).kind==2) 1 0:=rfl;have quiet:((evR L i).kind==2)=false→((evR L i).kind==4)=false→((evR L i).kind==13)=false→Cf (evR L i)=0→∀ T':TS,T'.xs=T.xs→T'.p1=T.p1→T'.p2=T.p2→Clo r L (sdF L n) (opn L n) (i+1) T':=by
   intro a b c d T' t1 t2 t3;rw [a] at onx;change opn L (i+1)=opn L i at onx;have z:∀ s:Int,((evR L i).kind==13&&(evR L i).side==s)=false:=fun s=>by rw [c];rfl
   refine ⟨by rw [onx,t1];exact ih.len,fun j hj=>?_,?_,?_⟩
   ·rw [t1,cm b c d];exact ih.at' j (by omega)
   ·rw [onx,t2,FK (z 1)];exact ih.p1
   ·rw [onx,t3,FK (z 2)];exact ih.p2
  unfold RI;cases k1:(evR L i).kind==1 with
  | true =>
   have e:=beq_iff_eq.1 k1;exact quiet (by rw [e];rfl) (by rw [e];rfl) (by rw [e];rfl) (by unfold Cf;rw [e];rfl) _ rfl rfl rfl
  | false =>
   cases k2:(evR L i).kind==2 with
   | true =>
    have e:=beq_iff_eq.1 k2;have h4:((evR L i).kind==4)=false:=by rw [e];rfl
    have h13:((evR L i).kind==13)=false:=by rw [e];rfl
    have ho:Cf (evR L i)=0:=by unfold Cf;rw [e];rfl
    have z:∀ s:Int,((evR L i).kind==13&&(evR L i).side==s)=false:=fun s=>by rw [h13];rfl
    rw [k2] at onx;change opn L (i+1)=opn L i+1 at onx;obtain ⟨sa,sb⟩:=sat k2;have kn:opn L i<opn L n:=by have:=Ti L (show i+1≤n by omega);omega
    have pp:=jy (L:=L) (sd:=sdF L n) kn i o13 (Nat.le_refl _);show Clo r L (sdF L n) (opn L n) (i+1) (eS T);unfold eS;simp only [ih.len,sa];refine ⟨by rw [List.length_append,ih.len,onx];rfl,fun j hj=>?_,?_,?_⟩
    ·rw [pY _ _ _ (by rw [ih.len];omega),ih.len,cm h4 h13 ho]
     by_cases hjk:j<opn L i
     ·rw [if_pos hjk];exact ih.at' j hjk
     ·have:j=opn L i:=by omega
      subst this;rw [if_neg hjk];unfold SN iI;simp only [eu i (Nat.le_refl _),Int.zero_add,pp]
      rcases sb with sb | sb<;>rw [sb]
      ·rw [← ih.p1];rfl
      ·rw [← ih.p2];rfl
    ·rw [onx];show cond (sdF L n (opn L i)==1) 0 T.p1=ES L (sdF L n) 1 (opn L i+1) (i+1);rw [FK (z 1)];unfold ES Bn;cases sdF L n (opn L i)==1 with
     | true=>rfl
     | false=>exact ih.p1
    ·rw [onx];show cond (sdF L n (opn L i)==2) 0 T.p2=ES L (sdF L n) 2 (opn L i+1) (i+1);rw [FK (z 2)];unfold ES Bn;cases sdF L n (opn L i)==2 with
     | true=>rfl
     | false=>exact ih.p2
   | false =>
    cases k12:(evR L i).kind==12 with
    | true =>
     have e:=beq_iff_eq.1 k12;exact quiet (by rw [e];rfl) (by rw [e];rfl) (by rw [e];rfl) (by unfold Cf;rw [e];rfl) _ rfl rfl rfl
    | false =>
     cases k16:(evR L i).kind==16 with
     | true =>
      have e:=beq_iff_eq.1 k16;exact quiet (by rw [e];rfl) (by rw [e];rfl) (by rw [e];rfl) (by unfold Cf;rw [e];rfl) _ rfl rfl rfl
     | false =>
      have pl:=hev.play k1 k2 k12 k16;rw [k2] at onx;change opn L (i+1)=opn L i at onx;simp only [cond_false];cases k13:(evR L i).kind==13 with
      | true =>
       have e:=beq_iff_eq.1 k13;have h4:((evR L i).kind==4)=false:=by rw [e];rfl
       have ho:Cf (evR L i)=0:=by unfold Cf;rw [e];rfl
       have bk:Bn (fun k=>(sco T.xs k).side) (evR L i).side T.xs.length=Bn (sdF L n) (evR L i).side (opn L i):=by
        rw [ih.len];exact TO _ (fun k hk=>by rw [ih.at' k hk];rfl)
       have du:Hq (sdF L n) (opn L n) (opn L (i+1) - 1) (evR L i).side=match Bn (sdF L n) (evR L i).side (opn L i) with
        | some j=>some j
        | none=>Yv (sdF L n) (evR L i).side (opn L n - opn L i) (opn L i):=by
        unfold Hq;rw [onx,show opn L i - 1+1=opn L i by omega]
       have cs:∀ j,SN r L (sdF L n) (opn L n) j (i+1)=Jf (cond (isS (Hq (sdF L n) (opn L n) (opn L (i+1) - 1) (evR L i).side) j) 5 0) (SN r L (sdF L n) (opn L n) j i):=fun j=>by
        rw [Y0,k13,Bool.true_and,RP _ h4 ho];cases Nat.beq (opn L (i+1)) (j+1)<;>rfl
       have pq:∀ s:Int,Bn (sdF L n) (evR L i).side (opn L i)≠none→ES L (sdF L n) s (opn L i) (i+1)=ES L (sdF L n) s (opn L i) i:=fun s hs=>by
        by_cases es:(evR L i).side=s
        ·rw [es] at hs;unfold ES;cases hb:Bn (sdF L n) s (opn L i) with
         | none=>exact absurd hb hs
         | some w=>rfl
        ·exact FK (by rw [beq_false_of_ne es,Bool.and_false])
       show Clo r L (sdF L n) (opn L n) (i+1) (T6 (evR L i).side T);unfold T6;rw [bk];cases hb:Bn (sdF L n) (evR L i).side (opn L i) with
       | some w =>
        have wl:=(IY _ hb).1;rw [hb] at du pq;simp only at du;refine ⟨by rw [onx];exact List.length_set.trans ih.len,fun j hj=>?_,?_,?_⟩
        ·rw [cs,du];show sco (T.xs.set w (Jf 5 (sco T.xs w))) j=_;rw [jl _ _ _ _ (by rw [ih.len];omega)]
         by_cases ew:w=j
         ·subst ew;rw [if_pos rfl,ih.at' w wl,show isS (some w) w=true from bF w];rfl
         ·rw [if_neg ew,show isS (some w) j=false from iJ ew,ih.at' j (by omega),cond_false,DU]
        ·rw [onx,pq 1 (by simp)];exact ih.p1
        ·rw [onx,pq 2 (by simp)];exact ih.p2
       | none =>
        rw [hb] at du;simp only at du;have pc:∀ s:Int,ES L (sdF L n) s (opn L i) (i+1)=cond ((evR L i).side==s) (ES L (sdF L n) s (opn L i) i+5) (ES L (sdF L n) s (opn L i) i):=fun s=>by
         cases es:(evR L i).side==s with
         | false=>rw [FK (by rw [es,Bool.and_false])];rfl
         | true =>
          have e2:=beq_iff_eq.1 es;rw [e2] at hb;unfold ES;rw [hb];show pcS L s i+cond ((evR L i).kind==13&&(evR L i).side==s) 5 0=_;rw [k13,es];rfl
        refine ⟨by rw [onx];exact ih.len,fun j hj=>?_,?_,?_⟩
        ·have nj:isS (Hq (sdF L n) (opn L n) (opn L (i+1) - 1) (evR L i).side) j=false:=by
          cases hq:isS (Hq (sdF L n) (opn L n) (opn L (i+1) - 1) (evR L i).side) j with
          | false=>rfl
          | true =>
           have:=Wz.1 hq;rw [du] at this;have:=(Qc _ _ this).1;omega
         rw [cs,nj,cond_false,DU];exact ih.at' j (by omega)
        ·rw [onx,pc 1,← ih.p1]
        ·rw [onx,pc 2,← ih.p2]
      | false =>
       have z:∀ s:Int,((evR L i).kind==13&&(evR L i).side==s)=false:=fun s=>by rw [k13];rfl
       show Clo r L (sdF L n) (opn L n) (i+1) (eN r (evR L i) T);unfold eN;refine ⟨by rw [onx];exact List.length_set.trans ih.len,fun j hj=>?_,?_,?_⟩
       ·show sco (T.xs.set _ _) j=_;rw [jl _ _ _ _ (by rw [ih.len];omega),Y0,k13,Bool.false_and,cond_false,DU,onx,ih.len]
        by_cases ew:opn L i - 1=j
        ·rw [if_pos ew,show opn L i=j+1 by omega,bF,show j+1 - 1=j by omega,ih.at' j (by omega)];rfl
        ·rw [if_neg ew,iJ (by omega)];exact ih.at' j (by omega)
       ·rw [onx,FK (z 1)];exact ih.p1
       ·rw [onx,FK (z 2)];exact ih.p2
end Go.Px
end
section
namespace Go.Px
set_option maxRecDepth 100000
def Sco.ls (s:Sco):List PV:=[.int s.side,.int s.runs,.int s.wickets,.int s.balls,.int s.wides,.int s.noballs,.int s.byes,.int s.legbyes,.int s.pens,.int s.ending]
def Fq (xs:List (Int×Int)):Rows:=xs.map fun x=>[.int x.1,.int x.2]
def pr (xs:List (Int×Int)) (i:Nat):Int×Int:=xs.getD i (0,0)
theorem TY (xs:List (Int×Int)) (i:Nat):pr xs i=(match xs[i]? with | some s=>s | none=>(0,0)):=by
 unfold pr;rw [List.getD_eq_getElem?_getD];cases xs[i]?<;>rfl
theorem ej (xs:List (Int×Int)) (i:Nat):AB (Fq xs) i=(match xs[i]? with | some s=>[.int s.1,.int s.2] | none=>[]):=by
 unfold AB Fq;rw [List.getD_eq_getElem?_getD,List.getElem?_map];cases xs[i]?<;>rfl
theorem fI (xs:List (Int×Int)):(Fq xs).length=xs.length:=List.length_map _
theorem PXp : (∀ xs : List (Int × Int), (Fq xs).length = xs.length) ∧ (∀ (xs : List (Int × Int)) (i : Nat), pvI (AE (Fq xs) i 0) = (pr xs i).1) ∧ (∀ (xs : List (Int × Int)) (i : Nat), pvI (AE (Fq xs) i 1) = (pr xs i).2) ∧
    (∀ (xs:List (Int×Int)) (i:Nat) (v:Int),(Fq xs).set i (A6 (AB (Fq xs) i) 1 [.int v])=Fq (xs.set i ((pr xs i).1,v)))∧(∀ (xs:List (Int×Int)) (a b:Int),Fq xs++[([.int a,.int b]:List PV)]=Fq (xs++[(a,b)])):=by
  refine ⟨fI,?_,?_,?_,?_⟩
  · intro xs i;rw [TY];unfold AE;rw [ej];cases xs[i]?<;>rfl
  · intro xs i;rw [TY];unfold AE;rw [ej];cases xs[i]?<;>rfl
  · intro xs i v
    by_cases hi:i<xs.length
    · have e:AB (Fq xs) i=[.int (pr xs i).1,.int (pr xs i).2]:=by rw [ej,TY,List.getElem?_eq_getElem hi]
      rw [e];exact (List.map_set (f:=fun x:Int×Int=>[PV.int x.1,PV.int x.2]) (l:=xs) (i:=i) (a:=((pr xs i).1,v))).symm
    · rw [List.set_eq_of_length_le (by rw [fI];omega),List.set_eq_of_length_le (by omega)]
  · intro xs a b;exact (List.map_append (f:=fun x:Int×Int=>[PV.int x.1,PV.int x.2]) (l₁:=xs) (l₂:=[(a,b)])).symm
end Go.Px
end
section
namespace Go.Px
set_option maxRecDepth 100000
theorem Z7 (L:Rows):∀ i,opn L i≤i
 | 0=>Nat.le_refl _
 | i+1=>by
  have:=Z7 L i;show opn L i+cond _ 1 0≤_;cases (evR L i).kind==2<;>simp only [cond_true,cond_false]<;>omega
def Ge (xs:List (Int×Int)) (v:Int):List (Int×Int):=cond (iLt 0 (xs.length:Int)) (xs.set (IntKind.i64.wrap ((xs.length:Int) - 1)).toNat ((pr xs (IntKind.i64.wrap ((xs.length:Int) - 1)).toNat).1,v)) xs
def B4 (L:Rows):Nat→List (Int×Int)
 | 0=>[]
 | i+1=>cond ((evR L i).kind==2) (Ge (B4 L i) (i:Int)++[((i:Int),(L.length:Int))]) (B4 L i)
theorem SG (xs:List (Int×Int)) (v:Int):(Ge xs v).length=xs.length:=by
 unfold Ge;cases iLt 0 (xs.length:Int)
 ·rfl
 ·exact List.length_set
theorem SV (L:Rows):∀ i,(B4 L i).length=opn L i
 | 0=>rfl
 | i+1=>by
  have ih:=SV L i;show (cond ((evR L i).kind==2) _ (B4 L i)).length=opn L i+cond ((evR L i).kind==2) 1 0;cases (evR L i).kind==2 with
  | false=>exact ih
  | true=>rw [cond_true,cond_true,List.length_append,SG,ih];rfl
theorem jU {n:Nat} (h:0<n) (h2:n≤1048576):(IntKind.i64.wrap ((n:Int) - 1)).toNat=n - 1∧iIn (IntKind.i64.wrap ((n:Int) - 1)) (n:Int)=true:=by
 rw [CG (by omega) (by omega)];refine ⟨by omega,?_⟩;simp only [iIn,decide_eq_true_eq];omega
theorem nZ {N : Nat} {L : Rows} (hN : 2097152 < N) (hL : L.length ≤ 1048576) {F : (List AX → Option (List PV)) → List PV → Option (List PV)}
    (h0:∀ self,F self [.rows (Fq (B4 L L.length)),.int (L.length:Int)]=some [.rows (Fq (B4 L L.length))])
    (h1:∀ i self,i<L.length→(B4 L i).length≤1048575→F self [.rows (Fq (B4 L i)),.int (i:Int)]=self [.rows (Fq (B4 L (i+1))),.int (((i+1:Nat)):Int)]):Dy F N [.rows (Fq []),.int 0]=some [.rows (Fq (B4 L L.length))]:=by
  have:=D3 (F:=F) (len:=L.length) (fun i=>[.rows (Fq (B4 L i)),.int (i:Int)]) [.rows (Fq (B4 L L.length))] h0 (fun i self hi=>h1 i self hi (by rw [SV];have:=Z7 L i;omega)) N (by omega);exact this
theorem DT {i:Nat} (h:i≤1099511627776):IntKind.i64.wrap ((i:Int)+1)=((i+1:Nat):Int):=A7 h
theorem nf {L:Rows} {i:Nat} {xs:List (Int×Int)} (hk:((evR L i).kind==2)=true) (he:B4 L i=xs) (h:iLt 0 (xs.length:Int)=true):B4 L (i+1)=xs.set (IntKind.i64.wrap ((xs.length:Int) - 1)).toNat ((pr xs (IntKind.i64.wrap ((xs.length:Int) - 1)).toNat).1,(i:Int))++[((i:Int),(L.length:Int))]:=by
 show cond ((evR L i).kind==2) (Ge (B4 L i) (i:Int)++[((i:Int),(L.length:Int))]) (B4 L i)=_;rw [hk,he];unfold Ge;rw [h];rfl
theorem l8 {L:Rows} {i:Nat} {xs:List (Int×Int)} (hk:((evR L i).kind==2)=true) (he:B4 L i=xs) (h:iLt 0 (xs.length:Int)=false):B4 L (i+1)=xs++[((i:Int),(L.length:Int))]:=by
 show cond ((evR L i).kind==2) (Ge (B4 L i) (i:Int)++[((i:Int),(L.length:Int))]) (B4 L i)=_;rw [hk,he];unfold Ge;rw [h];rfl
theorem gq {L:Rows} {i:Nat} (hk:((evR L i).kind==2)=false):B4 L (i+1)=B4 L i:=by
 show cond ((evR L i).kind==2) _ (B4 L i)=_;rw [hk];rfl
set_option maxHeartbeats 1000000 in
theorem S5 {N:Nat} {L:Rows} (hN:2097152<N) (hL:L.length≤1048576):DM N [.rows L]=some [.rows (Fq (B4 L L.length))]:=by
 show JF (std (QJ N) N) (xOf _)=_;simp only [JF,q9,std,xOf,PXb];refine Ab (nZ hN hL ?_ ?_) rfl
 ·intro self;simp only [PXb,PXc,PXn,AH,BM]
 ·intro i self hi hlen;have kk:(evR L i).kind=atI L i 0:=rfl;simp only [PXb,PXc,PXn,AH,DT (show i≤1099511627776 by omega),Az hi,AY hi,Cl,PXp,← kk];cases hk:(evR L i).kind==2 with
  | false =>
   rw [gq hk];rfl
  | true =>
   simp only [PXb,Bool.not_true];generalize he:B4 L i=xs at hlen;cases h0:iLt 0 (xs.length:Int) with
   | false =>
    have sm:iSm ((xs.length+1:Nat):Int) 16=true:=GA (by omega) (by omega);rw [l8 hk he h0];simp only [PXb,PXc,PXn,AH,PXp,List.length_append,List.length_cons,List.length_nil,sm,Nat.reduceAdd]
   | true =>
    have h1:0<xs.length:=by simp only [iLt,decide_eq_true_eq] at h0;omega
    have sm:iSm ((xs.length+1:Nat):Int) 16=true:=GA (by omega) (by omega);rw [nf hk he h0];simp only [PXb,PXc,PXn,AH,PXp,List.length_append,List.length_cons,List.length_nil,List.length_set,sm,Nat.reduceAdd,(jU h1 (by omega)).2]
theorem Za (ans:Nat→Option (List PV)):∀ k i,BR ans (k+1) i=match BR ans k i with | some r=>some r | none=>ans (i+k)
 | 0,i=>by
  simp only [BR];cases ans i<;>rfl
 | k+1,i=>by
  have ih:=Za ans k (i+1);have e1:BR ans (k+1+1) i=match ans i with | some r=>some r | none=>BR ans (k+1) (i+1):=rfl
  have e2:BR ans (k+1) i=match ans i with | some r=>some r | none=>BR ans k (i+1):=rfl
  rw [e1,e2,ih,show i+(k+1)=i+1+k by omega];cases ans i<;>rfl
def aw (L:Rows) (i:Nat):Option (List PV):=cond ((evR L i).kind==1) (some [.int (Qi (evR L i))]) none
theorem fV (L:Rows):∀ n,BR (aw L) n 0=(DF L n).map fun v=>[.int v]
 | 0=>rfl
 | n+1=>by
  rw [Za,fV L n,Nat.zero_add];show _=(match DF L n with | some v=>some v | none=>cond ((evR L n).kind==1) (some (Qi (evR L n))) none).map fun v=>[PV.int v]
  cases DF L n with
  | some v=>rfl
  | none =>
   show aw L n=_;unfold aw;cases (evR L n).kind==1<;>rfl
def Fu (L:Rows):Int:=(DF L L.length).getD 1
theorem oy {N : Nat} {L : Rows} (hN : 2097152 < N) (hL : L.length ≤ 1048576) {F : (List AX → Option (List PV)) → List PV → Option (List PV)} (h0 : ∀ self, F self [.int (L.length : Int)] = some [.int 1])
    (h1:∀ i self,i<L.length→F self [.int (i:Int)]=match aw L i with | some r=>some (.int 0::r) | none=>self [.int ((i:Int)+1)]):Dy F N [.int 0]=some (PP ((DF L L.length).map fun v=>[.int v])):=by
  have:=Cp (F:=F) (len:=L.length) (aw L) h0 h1 L.length 0 N (by omega) (by omega);rw [fV] at this;exact this
theorem qE (o:Option Int):cond (pvI (AA (PP (o.map fun v=>[.int v])) 0)==((0:Nat):Int)) (some [PV.int (pvI (AA (PP (o.map fun v=>[.int v])) 1))]) (some [PV.int 1])=some [.int (o.getD 1)]:=by
 cases o<;>rfl
theorem dc {N:Nat} {L:Rows} (hN:2097152<N) (hL:L.length≤1048576):HU N [.rows L]=some [.int (Fu L)]:=by
 show KH (std (RH N) N) (xOf _)=_;simp only [KH,q9,std,xOf,PXb];refine Ab (oy hN hL ?_ ?_) (qE _)
 ·intro self;simp only [PXb,PXc,PXn,AH,BM]
 ·intro i self hi;have kk:(evR L i).kind=atI L i 0:=rfl;have ky:(evR L i).yes=atB L i 4:=rfl;have ks:(evR L i).side=atI L i 1:=rfl;simp only [PXb,PXc,PXn,AH,A7 (show i≤1099511627776 by omega),Az hi,AY hi,Cl,bI,aw,Qi,BD,kk,ky,ks];cases atI L i 0==1<;>cases atB L i 4<;>rfl
def Tg (f:Int) (en:Bool) (k:Nat):Int:=cond (en&&((k:Int)==2||(k:Int)==3)) (BD (cond ((k:Int).tmod 2==1) (BD f) f)) (cond ((k:Int).tmod 2==1) (BD f) f)
def JE (f:Int) (en:Bool) (k:Nat):Int:=cond (cond (en&&((k:Int)==2||(k:Int)==3)) ((k:Int)==2) ((k:Int).tmod 2==1)) (BD f) f
theorem jd {f:Int} (h:BD (BD f)=f) (en:Bool) (k:Nat):Tg f en k=JE f en k:=by
 unfold Tg JE;cases h2:((k:Int)==2) with
 | true =>
  have:=beq_iff_eq.1 h2;rw [this];cases en<;>rfl
 | false =>
  cases h3:((k:Int)==3) with
  | true =>
   have:=beq_iff_eq.1 h3;rw [this];cases en
   ·rfl
   ·exact h
  | false=>rw [Bool.or_false,Bool.and_false];rfl
theorem pj (f:Int) (en:Bool) {k:Nat} (h:k≤3):JE f en k=JL f en (k:Int):=by
 have:k=0∨k=1∨k=2∨k=3:=by omega
 rcases this with h | h | h | h<;>subst h<;>cases en<;>rfl
def zs (g:Nat→Int) (n:Nat):List Int:=(List.range n).map g
theorem nE (g:Nat→Int) (n:Nat):(zs g n).length=n:=by unfold zs;rw [List.length_map,List.length_range]
theorem qH (g:Nat→Int) (n:Nat):Jo (zs g n)++[[.int (g n)]]=Jo (zs g (n+1)):=by
 unfold zs Jo;rw [List.range_succ,List.map_append,List.map_append];rfl
theorem nO {N : Nat} {L : Rows} (hN : 2097152 < N) (hL : L.length ≤ 1048576) {F : (List AX → Option (List PV)) → List PV → Option (List PV)} (h0 : ∀ self, F self [.bool (CB L L.length), .int (L.length : Int)] = some [.bool (CB L L.length)])
    (h1:∀ i self,i<L.length→F self [.bool (CB L i),.int (i:Int)]=self [.bool (CB L (i+1)),.int (((i+1:Nat)):Int)]):Dy F N [.bool false,.int 0]=some [.bool (CB L L.length)] :=
  D3 (F:=F) (len:=L.length) (fun i=>[.bool (CB L i),.int (i:Int)]) [.bool (CB L L.length)] h0 h1 N (by omega)
theorem qO {N n : Nat} {g : Nat → Int} (hN : 2097152 < N) (hL : n ≤ 1048576) {F : (List AX → Option (List PV)) → List PV → Option (List PV)} (h0 : ∀ self, F self [.rows (Jo (zs g n)), .int (n : Int)] = some [.rows (Jo (zs g n))])
    (h1:∀ i self,i<n→F self [.rows (Jo (zs g i)),.int (i:Int)]=self [.rows (Jo (zs g (i+1))),.int (((i+1:Nat)):Int)]):Dy F N [.rows [],.int 0]=some [.rows (Jo (zs g n))] :=
  D3 (F:=F) (len:=n) (fun i=>[.rows (Jo (zs g i)),.int (i:Int)]) [.rows (Jo (zs g n))] h0 h1 N (by omega)
set_option maxHeartbeats 1000000 in
theorem eH {N:Nat} {L:Rows} (hN:2097152<N) (hL:L.length≤1048576):Kh N [.rows L]=some [.rows (Jo (zs (Tg (Fu L) (CB L L.length)) (opn L L.length)))]:=by
 show KK (std (H6 N) N) (xOf _)=_;simp only [KK,Om,PL,q9,std,xOf,PXb,dc hN hL];refine Ab (nO hN hL ?_ ?_) ?_
 ·intro self;simp only [PXb,PXc,PXn,AH,BM]
 ·intro i self hi;have kk:(evR L i).kind=atI L i 0:=rfl;have ky:(evR L i).yes=atB L i 4:=rfl;have e:CB L (i+1)=(CB L i||((evR L i).kind==12&&(evR L i).yes)):=rfl;rw [e,kk,ky];simp only [PXb,PXc,PXn,AH,DT (show i≤1099511627776 by omega),Az hi,AY hi,Cl,bI]
 ·have ol:=Z7 L L.length;simp only [PXb,PXc,PXn,AH,S5 hN hL,PXp,SV];generalize CB L L.length=en;generalize hn:opn L L.length=n at ol;refine Ab (qO (n:=n) (g:=Tg (Fu L) en) hN (by omega) ?_ ?_) rfl
  ·intro self;simp only [PXb,PXc,PXn,AH,BM]
  ·intro i self hi;have sm:iSm ((i+1:Nat):Int) 8=true:=GA (by omega) (by omega);rw [← qH];unfold Tg;cases h1:(i:Int).tmod 2==1<;>cases h2:(en&&((i:Int)==2||(i:Int)==3)) <;>
    simp only [PXb,PXc,PXn,AH,DT (show i≤1099511627776 by omega),Az hi,h1,h2,fW,nE,List.length_append,List.length_cons,List.length_nil,Nat.reduceAdd,sm,BD]
end Go.Px
end
section
namespace Go.Px
set_option maxRecDepth 100000
theorem rJ (xs:List (Int×Int)) (k:Nat) (s:Int×Int) (i:Nat) (hi:i<xs.length):pr (xs.set k s) i=(if k=i then s else pr xs i):=by
 rw [TY,TY,List.getElem?_set]
 by_cases h:k=i
 ·subst h;rw [if_pos rfl,if_pos rfl,if_pos hi]
 ·rw [if_neg h,if_neg h]
theorem qx (xs:List (Int×Int)) (s:Int×Int) (i:Nat) (hi:i<xs.length+1):pr (xs++[s]) i=(if i<xs.length then pr xs i else s):=by
 rw [TY,TY]
 by_cases h:i<xs.length
 ·rw [if_pos h,List.getElem?_append_left h]
 ·have:i=xs.length:=by omega
  subst this;rw [if_neg h,List.getElem?_append_right (Nat.le_refl _),Nat.sub_self];rfl
theorem nT {L:Rows} {i:Nat} (h:((evR L i).kind==2)=true):opn L (i+1)=opn L i+1:=by
 show opn L i+cond ((evR L i).kind==2) 1 0=_;rw [h];rfl
theorem nM {L:Rows} {i:Nat} (h:((evR L i).kind==2)=false):opn L (i+1)=opn L i:=by
 show opn L i+cond ((evR L i).kind==2) 1 0=_;rw [h];rfl
theorem mw {L : Rows} (hL : L.length ≤ 1048576) : ∀ i, i ≤ L.length → ∀ k, k < opn L i → ∃ a : Nat, (pr (B4 L i) k).1 = (a : Int) ∧ a < i ∧ opn L a = k ∧ ((evR L a).kind == 2) = true ∧
    ((k+1<opn L i∧∃ b:Nat,(pr (B4 L i) k).2=(b:Int)∧b<i∧opn L b=k+1∧((evR L b).kind==2)=true)∨(k+1=opn L i∧(pr (B4 L i) k).2=(L.length:Int)))
  | 0,_,k,hk=>absurd hk (Nat.not_lt_zero k)
  | i+1,hi,k,hk=>by
    have ih:=mw hL i (by omega);cases h2:(evR L i).kind==2 with
    | false =>
      rw [nM h2] at hk ⊢;rw [gq h2];obtain ⟨a,h3,h4,h5,h6,h7⟩:=ih k hk;refine ⟨a,h3,by omega,h5,h6,?_⟩
      rcases h7 with ⟨q,b,q1,q2,q3,q4⟩ | q
      · exact Or.inl ⟨q,b,q1,by omega,q3,q4⟩
      · exact Or.inr q
    | true =>
      rw [nT h2] at hk ⊢;have sl:=SV L i;have hle:=Z7 L i;have ha:=fun (j:Nat) (hj:j<opn L i+1)=>qx (Ge (B4 L i) (i:Int)) ((i:Int),(L.length:Int)) j (by rw [SG,sl];exact hj)
      have e:B4 L (i+1)=Ge (B4 L i) (i:Int)++[((i:Int),(L.length:Int))]:=by
        show cond ((evR L i).kind==2) _ _=_;rw [h2];rfl
      rw [e,ha k hk,SG,sl]
      by_cases hkn:k<opn L i
      · rw [if_pos hkn];obtain ⟨a,h3,h4,h5,h6,h7⟩:=ih k hkn;have hp:0<opn L i:=by omega
        have ix:=(jU hp (by omega)).1;have es:Ge (B4 L i) (i:Int)=(B4 L i).set (opn L i - 1) ((pr (B4 L i) (opn L i - 1)).1,(i:Int)):=by
          unfold Ge;rw [sl,show iLt 0 (opn L i:Int)=true by simp only [iLt,decide_eq_true_eq];omega,ix];rfl
        rw [es,rJ _ _ _ _ (by rw [sl];exact hkn)]
        by_cases hl:opn L i - 1=k
        · rw [if_pos hl,hl];exact ⟨a,h3,by omega,h5,h6,Or.inl ⟨by omega,i,rfl,by omega,by omega,h2⟩⟩
        · rw [if_neg hl];refine ⟨a,h3,by omega,h5,h6,Or.inl ⟨by omega,?_⟩⟩
          rcases h7 with ⟨q,b,q1,q2,q3,q4⟩ | q
          · exact ⟨b,q1,by omega,q3,q4⟩
          · omega
      · have hke:k=opn L i:=by omega
        rw [if_neg hkn];exact ⟨i,rfl,by omega,hke.symm,h2,Or.inr ⟨by omega,rfl⟩⟩
def UR (L:Rows) (k:Nat):Nat:=if k<opn L L.length then (pr (B4 L L.length) k).1.toNat else L.length
structure Seg (L:Rows) (k:Nat):Prop where
 x0:(pr (B4 L L.length) k).1=(UR L k:Int)
 x1:(pr (B4 L L.length) k).2=(UR L (k+1):Int)
 lt:UR L k<UR L (k+1)
 le:UR L (k+1)≤L.length
 o0:opn L (UR L k)=k
 o1:opn L (UR L (k+1))=k+1
 mid:∀ j,UR L k≤j→j<UR L (k+1)→opn L (j+1)=k+1
theorem pO {L:Rows} {f:Ev→Int} {c:Int} (hf:∀ e,0≤f e∧f e≤c) (j:Nat):∀ i:Nat,0≤smi L f j i∧smi L f j i≤c * (i:Int)
 | 0=>by
  have:smi L f j 0=0:=rfl;rw [this];omega
 | i+1=>by
  have ih:=pO (L:=L) hf j i;have h1:=hf (evR L i);rw [iW,show c * ((i+1:Nat):Int)=c * (i:Int)+c by rw [show ((i+1:Nat):Int)=(i:Int)+1 by omega,Int.mul_add,Int.mul_one]];have h2:=hf (evR L i);generalize c * (i:Int)=z at ih ⊢;cases Nat.beq (opn L (i+1)) (j+1)<;>simp only [cond_true,cond_false]<;>omega
structure Sml (x:Sco):Prop where
 runs:0≤x.runs∧x.runs≤1000000
 wk:0≤x.wickets∧x.wickets≤1000000
 balls:0≤x.balls∧x.balls≤1000000
 wides:0≤x.wides∧x.wides≤1000000
 no:0≤x.noballs∧x.noballs≤1000000
 bb:0≤x.byes∧x.byes≤1000000
 lb:0≤x.legbyes∧x.legbyes≤1000000
 pens:0≤x.pens∧x.pens≤1000000
end Go.Px
end
