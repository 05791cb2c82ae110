/- Part 15. -/
import Derived.Test.YtokmalmdcihogabGreatPart14
set_option linter.unusedVariables false
set_option linter.unusedSimpArgs false
section
namespace Go.Px
set_option maxRecDepth 100000
structure Sco where
 side:Int
 runs:Int
 wickets:Int
 balls:Int
 wides:Int
 noballs:Int
 byes:Int
 legbyes:Int
 pens:Int
 ending:Int
theorem Cx {n:Int} (h1 : -1000000000000≤n) (h2:n≤1000000000000):IntKind.i64.wrap n=n:=Bg (by omega) (by omega)
theorem ke {d:Del} (h:(FO d==0)=true):(0≤d.runs∧d.runs≤7)∧(0≤d.short∧d.short≤d.runs)∧(d.boundary=0∨d.boundary=4∨d.boundary=6):=by
 unfold FO at h;cases h1:(iLt d.type 1||iLt 3 d.type||iLt 3 d.source||iLt 10 d.how || !btw d.sector 0 8) with
 | true=>rw [h1] at h;cases h
 | false =>
  cases h2:(!btw d.runs 0 7 || !btw d.short 0 d.runs||(!(d.boundary==0) && !(d.boundary==4) && !(d.boundary==6))) with
  | true=>rw [h1,h2] at h;cases h
  | false =>
   simp only [btw,iLe,Bool.or_eq_false_iff,Bool.not_eq_false',zzk,Bool.and_eq_false_iff,decide_eq_true_eq,beq_iff_eq] at h2;omega
structure CreOk (c:Cre):Prop where
 ba:0≤c.batter∧c.batter≤13
 wi:0≤c.wides∧c.wides≤18
 no:0≤c.noballs∧c.noballs≤5
 bb:0≤c.byes∧c.byes≤13
 lb:0≤c.legbyes∧c.legbyes≤13
 bo:c.bowler=c.batter+c.wides+c.noballs
 tot:En c=c.batter+c.wides+c.noballs+c.byes+c.legbyes
theorem oy {b w o y l bo:Int} {x1 x2 x3 x4:Bool} (hb:0≤b∧b≤13) (hw:0≤w∧w≤18) (ho:0≤o∧o≤5) (hy:0≤y∧y≤13) (hl:0≤l∧l≤13) (hbo:bo=IntKind.i64.wrap (IntKind.i64.wrap (b+w)+o)):CreOk ⟨b,w,o,y,l,bo,x1,x2,x3,x4⟩:=by
 refine ⟨hb,hw,ho,hy,hl,?_,?_⟩
 ·show bo=b+w+o;rw [hbo,Cx (n:=b+w) (by omega) (by omega),Cx (by omega) (by omega)]
 ·show IntKind.i64.wrap (IntKind.i64.wrap (IntKind.i64.wrap (IntKind.i64.wrap (b+w)+o)+y)+l)=b+w+o+y+l;rw [Cx (n:=b+w) (by omega) (by omega),Cx (n:=b+w+o) (by omega) (by omega),Cx (n:=b+w+o+y) (by omega) (by omega),Cx (by omega) (by omega)]
def bm:Cre:=⟨0,0,0,0,0,0,false,false,false,false⟩
theorem jc:CreOk bm:=oy (by decide) (by decide) (by decide) (by decide) (by decide) rfl
theorem o7 {r:Rul} (h:RulOk r) (d:Del):CreOk (AE r d):=by
 unfold AE;cases hl:FO d==0 with
 | false=>exact jc
 | true =>
  obtain ⟨⟨a1,a2⟩,⟨a3,a4⟩,a5⟩:=ke hl;have hw:=h.wide;have hn:=h.noball;have e1:IntKind.i64.wrap (IntKind.i64.wrap (d.runs - d.short)+d.boundary)=d.runs - d.short+d.boundary:=by
   rw [Cx (n:=d.runs - d.short) (by omega) (by omega),Cx (by omega) (by omega)]
  have n0:0≤d.runs - d.short+d.boundary∧d.runs - d.short+d.boundary≤13:=by omega
  simp only [Bool.not_true,cond_false,S1,e1];generalize d.runs - d.short+d.boundary=n at n0;have e2:IntKind.i64.wrap (r.wide+n)=r.wide+n:=Cx (by omega) (by omega);have c13:∀ b:Bool,0≤cond b n 0∧cond b n 0≤13:=fun b=>by cases b<;>simp<;>omega
  refine oy (c13 _) ?_ ?_ (c13 _) (c13 _) rfl
  ·rw [e2];cases d.type==2<;>simp<;>omega
  ·cases d.type==3<;>simp<;>omega
def EH (r:Rul) (e:Ev):Cre:=cond (e.kind==4) (AE r e.ball) bm
theorem T7 {r:Rul} (h:RulOk r) (e:Ev):CreOk (EH r e):=by
 unfold EH;cases e.kind==4
 ·exact jc
 ·exact o7 h _
theorem tc (e:Ev):0≤Uv e∧Uv e≤1:=by
 unfold Uv CW;cases e.kind==4<;>cases e.ball.how==0<;>cases (e.kind==5&&e.yes||e.kind==6 && !e.yes)<;>decide
def BU (q:Int) (s:Inn):Sco:=⟨s.side,s.runs,s.wickets,Bv q s.complete s.inover,s.wides,s.noballs,s.byes,s.legbyes,s.pens,0⟩
def UT (r:Rul) (e:Ev) (x:Sco):Sco:=⟨x.side,x.runs+En (EH r e),x.wickets+Uv e,x.balls+cond (EH r e).counts 1 0,x.wides+(EH r e).wides,x.noballs+(EH r e).noballs,x.byes+(EH r e).byes,x.legbyes+(EH r e).legbyes,x.pens,x.ending⟩
def J0 (n:Int) (x:Sco):Sco:=⟨x.side,x.runs+n,x.wickets,x.balls,x.wides,x.noballs,x.byes,x.legbyes,x.pens+n,x.ending⟩
theorem DY (x:Sco):J0 0 x=x:=by
 obtain ⟨x0,x1,x2,x3,x4,x5,x6,x7,x8,x9⟩:=x;simp only [J0,Int.add_zero]
theorem je {r:Rul} {e:Ev} (x:Sco) (hk:(e.kind==4)=false):UT r e x={ x with wickets:=x.wickets+CW e }:=by
 have c0:EH r e=bm:=by unfold EH;rw [hk];rfl
 have o0:Uv e=CW e:=by unfold Uv;rw [hk];rfl
 have t0:En bm=0:=rfl;unfold UT;rw [c0,o0,t0];simp only [bm,cond_false,Int.add_zero]
theorem SA {r:Rul} {e:Ev} (x:Sco) (hk:(e.kind==4)=false) (ho:CW e=0):UT r e x=x:=by
 rw [je x hk,ho,Int.add_zero]
theorem uc {r:Rul} {s:Inn} (ok:InnOk r s):0≤s.wickets∧s.wickets≤11:=by
 have h:=ok.bat;unfold X3 at h;simp only [zzk] at h;have h1:=beq_iff_eq.1 h.2.2;have h2:=jR (pIs s.batters 2) s.batters.length;have h3:=(EX ok.code).side;have h4:=ok.lb;unfold Y5 at h1;omega
theorem um {c q:Int} (hc:0≤c∧c≤1000000000) (hq:0≤q∧q≤8):0≤c * q∧c * q≤8000000000:=by
 refine ⟨Int.mul_nonneg hc.1 hq.1,?_⟩;have h1:=Int.mul_le_mul_of_nonneg_right hc.2 hq.1;have h2:=Int.mul_le_mul_of_nonneg_left hq.2 (show (0:Int)≤1000000000 by omega);omega
theorem qF {r:Rul} {s:Inn} (ok:InnOk r s):Bv r.balls s.complete s.inover=s.complete * r.balls+s.inover∧0≤Bv r.balls s.complete s.inover∧Bv r.balls s.complete s.inover≤9000000000:=by
 have h1:=(EX ok.code).balls;have h2:=ok.io;have h3:=um ok.complete (show 0≤r.balls∧r.balls≤8 by omega);rw [RG];have:wr (s.complete * r.balls+s.inover)=s.complete * r.balls+s.inover:=Cx (by omega) (by omega);rw [this];omega
theorem vI {x a d:Int} (h:wr (x - a)=d) (hx:wr x=x) (ha:0≤a∧a≤9000000000) (hd:0≤d∧d≤1000):x=a+d:=by
 simp only [wr,Np] at h hx;omega
theorem tK (q:Int) (r:Rul) (t:Inn) (b:Bool):BU q (Bn r t b)=BU q t:=rfl
theorem rM {r:Rul} {s:Inn} {e:Ev} (hk:(e.kind==4)=true) (h:((Ar r s e).2==0)=true):BU r.balls (Ar r s e).1=UT r e (BU r.balls s):=by
 obtain ⟨g1,g2,g3,g4,g5,g6,g7,g8,g9,g10⟩:=pZ hk h;obtain ⟨hv,he,hn,hw,hp,hs⟩:=dy h;have ok:=LQ.1 hv;have rk:=EX ok.code;have co:=o7 rk e.ball;have k4:=beq_iff_eq.1 hk;have hpb:CD r s e=Mr r s e.ball:=by unfold CD;rw [k4];rfl
 rw [hpb] at hp hs;obtain ⟨hr,hb⟩:=lc hp;obtain ⟨q1,q2,q3,q4,q5,q6⟩:=fY hr;have ce:EH r e=AE r e.ball:=by unfold EH;rw [hk];rfl
 have od:Uv e=cond (e.ball.how==0) 0 1:=by unfold Uv;rw [hk];rfl
 have hx:=qF ok;have r0:=ok.runs;have w0:=ok.wides;have n0:=ok.noballs;have b0:=ok.byes;have l0:=ok.legbyes;have wk:=uc ok;unfold Br at r0 w0 n0 b0 l0;have f0:=co.ba;have f1:=co.wi;have f2:=co.no;have f3:=co.bb;have f4:=co.lb;have f5:=co.tot;rw [hs,hb] at g1 g7 g8 ⊢;have e1:(Bn r (H0 r s e.ball) (e.kind==4)).runs=IntKind.i64.wrap (s.runs+En (AE r e.ball)):=rfl;have e2:(Bn r (H0 r s e.ball) (e.kind==4)).wides=IntKind.i64.wrap (s.wides+(AE r e.ball).wides):=rfl;have e3:(Bn r (H0 r s e.ball) (e.kind==4)).noballs=IntKind.i64.wrap (s.noballs+(AE r e.ball).noballs):=rfl;have e4:(Bn r (H0 r s e.ball) (e.kind==4)).byes=IntKind.i64.wrap (s.byes+(AE r e.ball).byes):=rfl;have e5:(Bn r (H0 r s e.ball) (e.kind==4)).legbyes=IntKind.i64.wrap (s.legbyes+(AE r e.ball).legbyes):=rfl;have e6:(Bn r (H0 r s e.ball) (e.kind==4)).side=s.side∧(Bn r (H0 r s e.ball) (e.kind==4)).pens=s.pens∧(Bn r (H0 r s e.ball) (e.kind==4)).wickets=(Af s e.ball).wickets:=by
  obtain ⟨w1,w2⟩:=lQ r (Af s e.ball) (AE r e.ball).counts;obtain ⟨k1,k2,k3,k4,k5,k6,k7,k8,k9,k10⟩:=ZZ s e.ball;have w3:(Ao r (Af s e.ball) (AE r e.ball).counts).1.side=s.side:=by
   have s1:(Af s e.ball).side=s.side:=by
    unfold Af;cases (!(e.ball.runs.tmod 2==0) != e.ball.crossed)<;>exact P_c (P:=fun x:Inn=>x.side=s.side) _ _ _ rfl (P_c (P:=fun x:Inn=>x.side=s.side) _ _ _ rfl rfl)
   unfold Ao;exact P_c (P:=fun x:Inn×Bool=>x.1.side=s.side) _ _ _ s1 (P_c (P:=fun x:Inn×Bool=>x.1.side=s.side) _ _ _ s1 s1)
  refine ⟨?_,?_,?_⟩
  ·show (cond (Ao r (Af s e.ball) (AE r e.ball).counts).2 (Hy (Ao r (Af s e.ball) (AE r e.ball).counts).1) (Ao r (Af s e.ball) (AE r e.ball).counts).1).side=_;rw [← w3];cases (Ao r (Af s e.ball) (AE r e.ball).counts).2<;>rfl
  ·show (cond (Ao r (Af s e.ball) (AE r e.ball).counts).2 (Hy (Ao r (Af s e.ball) (AE r e.ball).counts).1) (Ao r (Af s e.ball) (AE r e.ball).counts).1).pens=_;rw [← k6,← w2];cases (Ao r (Af s e.ball) (AE r e.ball).counts).2<;>rfl
  ·show (cond (Ao r (Af s e.ball) (AE r e.ball).counts).2 (Hy (Ao r (Af s e.ball) (AE r e.ball).counts).1) (Ao r (Af s e.ball) (AE r e.ball).counts).1).wickets=_;rw [← w1];cases (Ao r (Af s e.ball) (AE r e.ball).counts).2<;>rfl
 obtain ⟨z1,z2⟩:=jq q1 (iI hw (by rw [k4];rfl));have hout:=lL (d:=e.ball) z1 z2 (fun hd=>Y2 q5 hd);have wv:IntKind.i64.wrap (Bv r.balls (Bn r (H0 r s e.ball) (e.kind==4)).complete (Bn r (H0 r s e.ball) (e.kind==4)).inover)=Bv r.balls (Bn r (H0 r s e.ball) (e.kind==4)).complete (Bn r (H0 r s e.ball) (e.kind==4)).inover:=G6 _;have hb7:=vI g7 wv (by omega) (by cases (AE r e.ball).counts<;>simp);unfold BU UT;rw [e1,e2,e3,e4,e5,e6.1,e6.2.1,e6.2.2,hb7,ce,od,hout];have i1:IntKind.i64.wrap (s.runs+En (AE r e.ball))=s.runs+En (AE r e.ball):=Cx (by omega) (by omega);have i2:IntKind.i64.wrap (s.wides+(AE r e.ball).wides)=s.wides+(AE r e.ball).wides:=Cx (by omega) (by omega);have i3:IntKind.i64.wrap (s.noballs+(AE r e.ball).noballs)=s.noballs+(AE r e.ball).noballs:=Cx (by omega) (by omega);have i4:IntKind.i64.wrap (s.byes+(AE r e.ball).byes)=s.byes+(AE r e.ball).byes:=Cx (by omega) (by omega);have i5:IntKind.i64.wrap (s.legbyes+(AE r e.ball).legbyes)=s.legbyes+(AE r e.ball).legbyes:=Cx (by omega) (by omega);have i6:inc s.wickets=s.wickets+1:=Cx (by omega) (by omega);rw [i1,i2,i3,i4,i5,i6];cases e.ball.how==0 with
 | false=>rfl
 | true=>simp only [cond_true,Int.add_zero]
def Kz (q:Int) (s:Inn) (x:Inn×Int):Prop:=(x.2==0)=true→BU q x.1=BU q s
theorem Db {q:Int} {s:Inn} (b:Bool) (x y:Inn×Int) (hx:Kz q s x) (hy:Kz q s y):Kz q s (cond b x y):=by cases b<;>assumption
theorem gh {r:Rul} {s:Inn} {e:Ev} (h:((Ar r s e).2==0)=true):BU r.balls (Ar r s e).1=J0 (cond (e.kind==13&&e.side==s.side) 5 0) (UT r e (BU r.balls s)):=by
 cases hk:e.kind==4 with
 | true =>
  rw [rM hk h,beq_iff_eq.1 hk];exact (DY _).symm
 | false =>
  obtain ⟨hv,he,hn,hw,hp,hs⟩:=dy h;have ok:=LQ.1 hv;have wk:=uc ok;have iw:IntKind.i64.wrap (s.wickets+1)=s.wickets+1:=Cx (by omega) (by omega);rw [hs,tK,je _ hk];have z:∀ {x:Inn×Int},Kz r.balls s x→(x.2==0)=true→CW e=0→BU r.balls x.1=J0 (cond (false&&e.side==s.side) 5 0) { BU r.balls s with wickets:=(BU r.balls s).wickets+CW e }:=fun k hx h0=>by
   rw [k hx,h0,Int.add_zero];exact (DY _).symm
  have kn:∀ {t:Inn} {n:Int},(n==0)=false→Kz r.balls s (t,n):=fun hn hx=>by rw [hn] at hx;cases hx
  have ks:∀ {n:Int},Kz r.balls s (s,n):=fun _=>rfl
  revert hp
  unfold CD;rw [hk];cases h5:e.kind==5 with
  | true =>
   have h5':=beq_iff_eq.1 h5;have ho:CW e=cond e.yes 1 0:=by unfold CW;rw [h5'];cases e.yes<;>rfl
   rw [ho,h5'];cases e.yes with
   | false =>
    intro hp;refine Eq.trans (b:=BU r.balls s) ?_ ?_
    ·exact (show Kz r.balls s (Ol s e.player) by unfold Ol;exact Db _ _ _ (fun _=>rfl) (fun _=>rfl)) hp
    ·simp only [cond_false,Int.add_zero];exact (DY _).symm
   | true =>
    intro hp;change ((HU s e.player).2==0)=true at hp;show BU r.balls (HU s e.player).1=_;unfold HU at hp ⊢;cases hm:Ny s e.player==0 with
    | false=>rw [hm] at hp;exact absurd (show (Ny s e.player==0)=true from hp) (by rw [hm];decide)
    | true =>
     simp only [cond_true];unfold BU J0;simp only [iw,cond_true,Int.reduceBEq,Bool.false_and,cond_false,Int.add_zero]
  | false =>
   cases h6:e.kind==6 with
   | true =>
    have h6':=beq_iff_eq.1 h6;have ho:CW e=cond e.yes 0 1:=by unfold CW;rw [h6'];cases e.yes<;>rfl
    rw [ho,h6'];intro hp;change ((Jk s e.player e.yes).2==0)=true at hp;show BU r.balls (Jk s e.player e.yes).1=_;unfold Jk at hp ⊢;cases hm1:(!inR e.player s.batters.length) with
    | true=>rw [hm1] at hp;cases hp
    | false =>
     cases hm2:(s.striker==0||s.other==0) with
     | true=>rw [hm1,hm2] at hp;cases hp
     | false =>
      cases hm3:(!(e.player==s.striker) && !(e.player==s.other)) with
      | true=>rw [hm1,hm2,hm3] at hp;cases hp
      | false =>
       cases hm4:(e.yes&&((EI s.batters s.batters.length).length:Int)==0) with
       | true=>rw [hm1,hm2,hm3,hm4] at hp;cases hp
       | false =>
        simp only [cond_false];cases e.yes with
        | true=>unfold BU J0;simp only [cond_true,Int.reduceBEq,Bool.false_and,cond_false,Int.add_zero]
        | false=>unfold BU J0;simp only [iw,cond_false,Int.reduceBEq,Bool.false_and,Int.add_zero]
   | false =>
    have ho:CW e=0:=by unfold CW;rw [h5,h6];rfl
    cases h13:e.kind==13 with
    | true =>
     have k13:=beq_iff_eq.1 h13;rw [k13,ho];intro hp;change ((HJ s e.side e.runs).2==0)=true at hp;show BU r.balls (HJ s e.side e.runs).1=_;have rn:=ok.runs;have pn:=ok.pens;unfold Br at rn pn;have i1:IntKind.i64.wrap (s.runs+5)=s.runs+5:=Cx (by omega) (by omega);have i2:IntKind.i64.wrap (s.pens+5)=s.pens+5:=Cx (by omega) (by omega);unfold HJ at hp ⊢;cases hr5:e.runs==5 with
     | false=>rw [hr5] at hp;cases hp
     | true =>
      cases hsd:e.side==s.side with
      | true =>
       simp only [Bool.not_true,cond_false,cond_true];unfold BU J0 O2;simp only [i1,i2,Bool.and_self,cond_true,Int.reduceBEq,Bool.true_and,Int.add_zero]
      | false =>
       simp only [Bool.not_true,cond_false,Bool.and_false,Int.add_zero];exact (DY _).symm
    | false =>
     simp only [cond_false];intro hp;refine z ?_ hp ho;refine Db _ _ _ ?_ (Db _ _ _ ?_ (Db _ _ _ ?_ (Db _ _ _ ?_ (Db _ _ _ ?_ (Db _ _ _ ?_ (Db _ _ _ ?_ (Db _ _ _ ?_ ?_)))))))
     ·unfold VH;exact Db _ _ _ ks (Db _ _ _ ks (Db _ _ _ ks (fun _=>rfl)))
     ·unfold Uf;cases NV r s e.player==0
      ·exact ks
      ·exact fun _=>rfl
     ·unfold K5;exact Db _ _ _ ks (fun _=>rfl)
     ·unfold NX;exact Db _ _ _ ks (Db _ _ _ ks (Db _ _ _ ks (fun _=>rfl)))
     ·unfold RD;exact Db _ _ _ ks (Db _ _ _ ks (fun _=>rfl))
     ·unfold K1;exact Db _ _ _ ks (fun _=>rfl)
     ·unfold K2;exact Db _ _ _ ks (Db _ _ _ ks (fun _=>rfl))
     ·unfold LU;exact Db _ _ _ ks (Db _ _ _ (fun _=>rfl) ks)
     ·unfold NT;exact Db _ _ _ ks (Db _ _ _ ks (Db _ _ _ ks (fun _=>rfl)))
def sco (xs:List Sco) (i:Nat):Sco:=xs.getD i ⟨0,0,0,0,0,0,0,0,0,0⟩
theorem KV (xs:List Sco) (i:Nat):sco xs i=(match xs[i]? with | some s=>s | none=>⟨0,0,0,0,0,0,0,0,0,0⟩):=by
 unfold sco;rw [zzl];cases xs[i]?<;>rfl
theorem lX (xs:List Sco) (k:Nat) (s:Sco) (i:Nat) (hi:i<xs.length):sco (xs.set k s) i=(if k=i then s else sco xs i):=by
 rw [KV,KV,List.getElem?_set]
 by_cases h:k=i
 ·subst h;rw [if_pos rfl,if_pos rfl,if_pos hi]
 ·rw [if_neg h,if_neg h]
theorem sj (xs:List Sco) (s:Sco) (i:Nat) (hi:i<xs.length+1):sco (xs++[s]) i=(if i<xs.length then sco xs i else s):=by
 rw [KV,KV]
 by_cases h:i<xs.length
 ·rw [if_pos h,List.getElem?_append_left h]
 ·have:i=xs.length:=by omega
  subst this;rw [if_neg h,List.getElem?_append_right (Nat.le_refl _),Nat.sub_self];rfl
structure TS where
 xs:List Sco
 p1:Int
 p2:Int
 first:Int
 follow:Bool
def FH (m:Mat):TS:=⟨m.inns.map (BU m.rules.balls),m.pen1,m.pen2,m.first,m.follow⟩
theorem Qj (q:Int) (xs:List Inn) {i:Nat} (h:i<xs.length):sco (xs.map (BU q)) i=BU q (inn xs i):=by
 rw [KV,KR,List.getElem?_map,zzo h];rfl
theorem ph (q:Int) (xs:List Inn) (i:Nat):(sco (xs.map (BU q)) i).side=(inn xs i).side:=by
 rw [KV,KR,List.getElem?_map];cases xs[i]?<;>rfl
def Kw (first:Int) (follow:Bool) (i:Int):Int:=cond (cond (follow&&iLe 2 i) (i==2) (i.tmod 2==1)) (CH first) first
theorem nF (m:Mat) (i:Int):C4 m i=Kw m.first m.follow i:=rfl
def iJ (sd p:Int):Sco:=⟨sd,p,0,0,0,0,0,0,p,0⟩
def Bo (sd:Nat→Int) (s:Int):Nat→Option Nat
 | 0=>none
 | k+1=>cond (sd k==s) (some k) (Bo sd s k)
theorem U5 {f g:Nat→Int} {s:Int}:∀ n,(∀ k,k<n→f k=g k)→Bo f s n=Bo g s n
 | 0,_=>rfl
 | n+1,h=>by
  unfold Bo;rw [h n (Nat.lt_succ_self n),U5 n (fun k hk=>h k (by omega))]
theorem Iu {f:Nat→Int} {s:Int} {j:Nat}:∀ n,Bo f s n=some j→j<n∧f j=s
 | 0,h=>by cases h
 | n+1,h=>by
  unfold Bo at h;cases hq:f n==s with
  | true =>
   rw [hq] at h;cases h;exact ⟨Nat.lt_succ_self _,beq_iff_eq.1 hq⟩
  | false =>
   rw [hq] at h;obtain ⟨h1,h2⟩:=Iu n h;exact ⟨by omega,h2⟩
theorem XH {f:Nat→Int} {s:Int}:∀ n,Bo f s n=none→∀ j,j<n→¬ f j=s
 | 0,_,j,hj=>absurd hj (Nat.not_lt_zero j)
 | n+1,h,j,hj=>by
  unfold Bo at h;cases hq:f n==s with
  | true=>rw [hq] at h;cases h
  | false =>
   rw [hq] at h
   by_cases e:j=n
   ·subst e;exact beq_eq_false_iff_ne.1 hq
   ·exact XH n h j (by omega)
theorem l7 (xs:List Inn) (sd:Int):∀ n,Ly xs sd n=Bo (fun k=>(inn xs k).side) sd n
 | 0=>rfl
 | n+1=>by
  unfold Ly Bo;rw [l7 xs sd n]
def ga (T:TS):TS :=
 let sd:=Kw T.first T.follow (T.xs.length:Int)
 { T with xs:=T.xs++[iJ sd (cond (sd==2) T.p2 T.p1)],p1:=cond (sd==1) 0 T.p1,p2:=cond (sd==2) 0 T.p2 }
def US (s:Int) (T:TS):TS:=match Bo (fun k=>(sco T.xs k).side) s T.xs.length with
 | some k=>{ T with xs:=T.xs.set k (J0 5 (sco T.xs k)) }
 | none=>{ T with p1:=cond (s==1) (T.p1+5) T.p1,p2:=cond (s==2) (T.p2+5) T.p2 }
def ge (r:Rul) (e:Ev) (T:TS):TS:={ T with xs:=T.xs.set (T.xs.length - 1) (UT r e (sco T.xs (T.xs.length - 1))) }
def bW (e:Ev):Int:=cond e.yes e.side (CH e.side)
def SX (r:Rul) (e:Ev) (T:TS):TS :=
 cond (e.kind==1) { T with first:=bW e } (cond (e.kind==2) (ga T) (cond (e.kind==12) { T with follow:=e.yes } (cond (e.kind==16) T (cond (e.kind==13) (US e.side T) (ge r e T)))))
theorem oC (x:Mat):FH (Bl x)=FH x∧(Bl x).inns=x.inns∧((Bl x).stage=x.stage∨(x.stage=3∧((Bl x).stage=5∨((Bl x).stage=4∧x.inns.length=2)∨(Bl x).stage=2))):=by
 unfold Bl;cases h3:(x.stage==3 && !((Ak x).ending==0)) with
 | false=>exact ⟨rfl,rfl,Or.inl rfl⟩
 | true =>
  rw [zzk] at h3;have s3:=beq_iff_eq.1 h3.1;simp only [cond_true];unfold Nk
  dsimp only
  cases ((x.inns.length:Int)==IntKind.i64.wrap (2 * x.rules.innings)||((x.inns.length:Int)==3&&iLt (B7 x (Ak x).side) (B7 x (CH (Ak x).side)))) with
  | true=>exact ⟨rfl,rfl,Or.inr ⟨s3,Or.inl rfl⟩⟩
  | false =>
   cases h4:((x.inns.length:Int)==2&&iLt 0 x.rules.followon&&iLe x.rules.followon (IntKind.i64.wrap (B7 x x.first - B7 x (CH x.first)))) with
   | true =>
    simp only [zzk,beq_iff_eq] at h4;exact ⟨rfl,rfl,Or.inr ⟨s3,Or.inr (Or.inl ⟨rfl,by omega⟩)⟩⟩
   | false=>exact ⟨rfl,rfl,Or.inr ⟨s3,Or.inr (Or.inr rfl)⟩⟩
theorem br {m:Mat} (h:Ec m=true):(0≤m.pen1∧m.pen1≤1000000)∧(0≤m.pen2∧m.pen2≤1000000)∧((m.stage==1)=true→m.first=0)∧((m.stage==4)=true→m.inns.length=2)∧0≤m.first∧m.first≤2:=by
 unfold Ec gU at h;simp only [zzk,Bool.not_eq_true'] at h;obtain ⟨⟨h1,h2,h3,h4,h5,h6,h7,h8,h9,h10⟩,h11,h12⟩:=h;unfold Z5 at h4;simp only [Bool.or_eq_false_iff,iLt,decide_eq_false_iff_not] at h4;simp only [Bool.or_eq_false_iff,iLt,decide_eq_false_iff_not] at h5;refine ⟨by omega,by omega,fun hs=>?_,fun hs=>?_,by omega,by omega⟩
 ·rw [hs,Bool.true_and,Bool.not_eq_false',beq_iff_eq] at h7;exact h7
 ·rw [hs,Bool.true_and,Bool.or_eq_false_iff,Bool.not_eq_false',Bool.not_eq_false',beq_iff_eq,beq_iff_eq] at h9;omega
theorem pW {r:Rul} {a b c:Int} (h:((Ci r a b c).2==0)=true):BU r.balls (Ci r a b c).1=iJ a c∧(a=1∨a=2):=by
 unfold Ci at h ⊢;cases h1:BE r==0 with
 | false=>rw [h1] at h;exact absurd (show (BE r==0)=true from h) (by rw [h1];decide)
 | true =>
  cases h2:(!btw a 1 2 || !btw b 0 1000000 || !btw c 0 1000000) with
  | true=>rw [h1,h2] at h;cases h
  | false =>
   rw [Bool.or_eq_false_iff,Bool.or_eq_false_iff,Bool.not_eq_false'] at h2;have:=UG.1 h2.1.1;refine ⟨?_,by omega⟩;show Sco.mk a c 0 (Bv r.balls 0 0) 0 0 0 0 c 0=_;rw [RG,Int.zero_mul];rfl
theorem KU (q:Int) (xs:List Inn) (k:Nat) (t:Inn):(xs.set k t).map (BU q)=(xs.map (BU q)).set k (BU q t):=List.map_set
theorem iv (xs:List Sco) (k:Nat) (h:k<xs.length):xs.set k (sco xs k)=xs:=by
 apply List.ext_getElem?;intro i;rw [List.getElem?_set]
 by_cases e:k=i
 ·subst e;rw [if_pos rfl,if_pos h,KV,zzo h]
 ·rw [if_neg e]
theorem se {r:Rul} {s:Inn} (hv:Gf r s=true) (q:Int):BU q (O2 s)=J0 5 (BU q s):=by
 have ok:=LQ.1 hv;have rn:=ok.runs;have pn:=ok.pens;unfold Br at rn pn;have i1:IntKind.i64.wrap (s.runs+5)=s.runs+5:=Cx (by omega) (by omega);have i2:IntKind.i64.wrap (s.pens+5)=s.pens+5:=Cx (by omega) (by omega);unfold BU J0 O2;simp only [i1,i2]
structure Stg (m:Mat) (e:Ev) (t:Mat):Prop where
 k1:(e.kind==1)=true→m.stage=1∧t.stage=2
 k2:(e.kind==2)=true→m.stage=2∧m.inns.length≤3
 k12:(e.kind==12)=true→m.stage=4∧m.inns.length=2∧t.stage=2
 k16:(e.kind==16)=true→t.stage=5
 play:(e.kind==1)=false→(e.kind==2)=false→(e.kind==12)=false→(e.kind==16)=false→m.stage=3∧1≤m.inns.length
 not1:¬ t.stage=1
 four:t.stage=4→t.inns.length=2
set_option maxHeartbeats 4000000 in
theorem jh {m:Mat} {e:Ev} (h:((C3 m e).2==0)=true):FH (C3 m e).1=SX m.rules e (FH m)∧Stg m e (C3 m e).1:=by
 obtain ⟨hv,he,h5,hp,hs⟩:=Zp h;have ok:=Th hv;obtain ⟨v1,v2,v3,v4,v5,v6⟩:=br hv;obtain ⟨c1,c2,c3⟩:=oC (F5 m e).1;rw [hs,c1];have len4:=ok.len;unfold SX;unfold F5 at hp c2 c3 ⊢;cases k1:e.kind==1 with
 | true =>
  have e1:=beq_iff_eq.1 k1;rw [k1] at hp c2 c3;cases s1:m.stage==1 with
  | false=>rw [s1] at hp;cases hp
  | true =>
   rw [s1] at c2 c3;simp only [Bool.not_true,cond_false,cond_true] at c2 c3 ⊢;refine ⟨rfl,?_⟩;have st:(Bl { m with first:=cond e.yes e.side (CH e.side),stage:=2 }).stage=2:=by
    rcases c3 with c3 | c3
    ·exact c3
    ·exact absurd c3.1 (by decide)
   exact ⟨fun _=>⟨beq_iff_eq.1 s1,st⟩,fun k=>(by rw [e1] at k;cases k),fun k=>(by rw [e1] at k;cases k),fun k=>(by rw [e1] at k;cases k),fun k=>(by rw [e1] at k;cases k),by rw [st];decide,(by rw [st];intro k;cases k)⟩
 | false =>
  rw [k1] at hp c2 c3;cases k2:e.kind==2 with
  | true =>
   have e2:=beq_iff_eq.1 k2;rw [k2] at hp c2 c3;cases s2:m.stage==2 with
   | false=>rw [s2] at hp;cases hp
   | true =>
    rw [s2] at hp c2 c3;simp only [Bool.not_true,cond_false,cond_true] at hp c2 c3 ⊢;have room:=ok.room s2;have inn2:=(EX ok.code).innings;unfold Xr at hp c2 c3 ⊢;cases hb:(Ci m.rules (C4 m (m.inns.length:Int)) (Gd m (C4 m (m.inns.length:Int))) (cond (C4 m (m.inns.length:Int)==2) m.pen2 m.pen1)).2==0 with
    | false=>simp only [hb,Bool.not_false,cond_true] at hp;cases hp
    | true =>
     simp only [hb,Bool.not_true,cond_false] at hp c2 c3 ⊢;cases ht:(Ar m.rules (Ci m.rules (C4 m (m.inns.length:Int)) (Gd m (C4 m (m.inns.length:Int))) (cond (C4 m (m.inns.length:Int)==2) m.pen2 m.pen1)).1 e).2==0 with
     | false=>simp only [ht,Bool.not_false,cond_true] at hp;exact absurd hp Bool.false_ne_true
     | true =>
      simp only [ht,Bool.not_true,cond_false] at c2 c3 ⊢;have n1:=gh ht;have o0:CW e=0:=by unfold CW;rw [e2];rfl
      rw [SA _ (by rw [e2];rfl) o0,e2] at n1;have n2:=n1.trans (DY _);rw [(pW hb).1] at n2;refine ⟨?_,?_⟩
      ·unfold FH ga;rw [← nF] at *
       simp only [List.map_append,List.map_cons,List.map_nil,n2,List.length_map]
      ·refine ⟨fun k=>(by rw [k1] at k;cases k),fun _=>⟨beq_iff_eq.1 s2,by omega⟩,fun k=>(by rw [e2] at k;cases k),fun k=>(by rw [e2] at k;cases k),fun _ k=>(by rw [k2] at k;cases k),?_,?_⟩
       ·rcases c3 with c3 | ⟨_,c3 | c3 | c3⟩
        ·rw [c3];decide
        ·rw [c3];decide
        ·rw [c3.1];decide
        ·rw [c3];decide
       ·intro k;rw [c2]
        rcases c3 with c3 | ⟨_,c3 | c3 | c3⟩
        ·rw [c3] at k;cases k
        ·rw [c3] at k;cases k
        ·exact c3.2
        ·rw [c3] at k;cases k
  | false =>
   rw [k2] at hp c2 c3;cases k12:e.kind==12 with
   | true =>
    have e12:=beq_iff_eq.1 k12;rw [k12] at hp c2 c3;cases s4:m.stage==4 with
    | false=>rw [s4] at hp;cases hp
    | true =>
     rw [s4] at hp c2 c3;cases sf:e.side==m.first with
     | false=>rw [sf] at hp;cases hp
     | true =>
      rw [sf] at c2 c3;simp only [Bool.not_true,cond_false,cond_true] at c2 c3 ⊢;refine ⟨rfl,?_⟩;have st:(Bl { m with follow:=e.yes,stage:=2 }).stage=2:=by
       rcases c3 with c3 | c3
       ·exact c3
       ·exact absurd c3.1 (by decide)
      exact ⟨fun k=>(by rw [k1] at k;cases k),fun k=>(by rw [k2] at k;cases k),fun _=>⟨beq_iff_eq.1 s4,v4 s4,st⟩,fun k=>(by rw [e12] at k;cases k),fun _ _ k=>(by rw [k12] at k;cases k),by rw [st];decide,(by rw [st];intro k;cases k)⟩
   | false =>
    rw [k12] at hp c2 c3;cases k16:e.kind==16 with
    | true =>
     rw [k16] at hp c2 c3;simp only [cond_false,cond_true] at c2 c3 ⊢;have st:(Bl (cW m)).stage=5:=by
      rcases c3 with c3 | c3
      ·exact c3
      ·exact absurd c3.1 (by show ¬ ((5:Int)=3);decide)
     refine ⟨?_,⟨fun k=>(by rw [k1] at k;cases k),fun k=>(by rw [k2] at k;cases k),fun k=>(by rw [k12] at k;cases k),fun _=>st,fun _ _ _ k=>(by rw [k16] at k;cases k),by rw [st];decide,(by rw [st];intro k;cases k)⟩⟩;unfold FH cW;simp only;cases s3:m.stage==3 with
     | false=>rfl
     | true =>
      have hl:=Tv (ok.begun s3) (by omega);simp only [cond_true,KU];rw [show BU m.rules.balls { Ak m with ending:=5 }=sco (m.inns.map (BU m.rules.balls)) (lnx m.inns) from (Qj _ _ hl).symm,iv _ _ (by rw [List.length_map];exact hl)]
    | false =>
     rw [k16] at hp c2 c3;simp only [cond_false] at hp c2 c3 ⊢;cases s3:m.stage==3 with
     | false=>rw [s3] at hp;exact absurd (show ((1:Int)==0)=true from hp) (by decide)
     | true =>
      rw [s3] at hp c2 c3;simp only [Bool.not_true,cond_false] at hp c2 c3 ⊢;have h0:=ok.begun s3;have hl:=Tv h0 (by omega);have hlen:m.inns.length - 1=lnx m.inns:=by
       rw [beq_eq_false_iff_ne] at h0;unfold lnx;rw [Bg (by omega) (by omega)];omega
      have stg:(Bl (E8 m e).1).inns.length=m.inns.length→((Bl (E8 m e).1).stage=3∨((Bl (E8 m e).1).stage=5∨((Bl (E8 m e).1).stage=4∧m.inns.length=2)∨(Bl (E8 m e).1).stage=2))→Stg m e (Bl (E8 m e).1):=fun hn hq =>
       ⟨fun k=>(by rw [k1] at k;cases k),fun k=>(by rw [k2] at k;cases k),fun k=>(by rw [k12] at k;cases k),fun k=>(by rw [k16] at k;cases k),fun _ _ _ _=>⟨beq_iff_eq.1 s3,by omega⟩,by
        rcases hq with q | q | q | q
        ·rw [q];decide
        ·rw [q];decide
        ·rw [q.1];decide
        ·rw [q];decide,by
        intro k;rw [hn]
        rcases hq with q | q | q | q
        ·rw [q] at k;cases k
        ·rw [q] at k;cases k
        ·exact q.2
        ·rw [q] at k;cases k⟩
      have xl:(m.inns.map (BU m.rules.balls)).length=m.inns.length:=List.length_map _;cases hq:(Ar m.rules (Ak m) e).2==0 with
      | false=>unfold E8 at hp;simp only [hq,Bool.not_false,cond_true] at hp;exact absurd hp Bool.false_ne_true
      | true =>
       have n1:=gh hq;have sd1:(Ar m.rules (Ak m) e).1.side=(Ak m).side:=congrArg Sco.side n1;have s3':=beq_iff_eq.1 s3;cases k13:e.kind==13 with
       | false =>
        rw [k13] at n1;have n2:=n1.trans (DY _);have pm:E8 m e=({ m with inns:=m.inns.set (lnx m.inns) (Ar m.rules (Ak m) e).1 },0):=by
         unfold E8;simp only [hq,k13,Bool.not_true,Bool.false_and,cond_false]
        rw [pm] at c2 c3 stg ⊢;refine ⟨?_,stg (by rw [c2];exact List.length_set) ?_⟩
        ·unfold FH ge;simp only [cond_false,KU,n2,xl,hlen,Qj _ _ hl];rfl
        ·rcases c3 with c3 | ⟨_,c3 | c3 | c3⟩
         ·exact Or.inl (c3.trans s3')
         ·exact Or.inr (Or.inl c3)
         ·exact Or.inr (Or.inr (Or.inl ⟨c3.1,by have:=c3.2;change (m.inns.set _ _).length=2 at this;rw [List.length_set] at this;exact this⟩))
         ·exact Or.inr (Or.inr (Or.inr c3))
       | true =>
        have e13:=beq_iff_eq.1 k13;have o0:CW e=0:=by unfold CW;rw [e13];rfl
        rw [SA _ (by rw [e13];rfl) o0,k13,Bool.true_and] at n1;have bk:Bo (fun k=>(sco (m.inns.map (BU m.rules.balls)) k).side) e.side m.inns.length=cond (e.side==(Ak m).side) (some (lnx m.inns)) (Bo (fun k=>(inn m.inns k).side) e.side (lnx m.inns)):=by
         have:m.inns.length=lnx m.inns+1:=by omega
         rw [this];show cond ((sco (m.inns.map (BU m.rules.balls)) (lnx m.inns)).side==e.side) _ (Bo (fun k=>(sco (m.inns.map (BU m.rules.balls)) k).side) e.side (lnx m.inns))=_;simp only [ph];have sy:((inn m.inns (lnx m.inns)).side==e.side)=(e.side==(Ak m).side):=by
          show ((Ak m).side==e.side)=_;rw [Bool.eq_iff_iff,beq_iff_eq,beq_iff_eq];exact eq_comm
         rw [sy]
        cases hsd:e.side==(Ak m).side with
        | true =>
         rw [hsd] at n1 bk;simp only [cond_true] at n1 bk;have pm:E8 m e=({ m with inns:=m.inns.set (lnx m.inns) (Ar m.rules (Ak m) e).1 },0):=by
          unfold E8;simp only [hq,k13,sd1,hsd,Bool.not_true,Bool.and_false,cond_false]
         rw [pm] at c2 c3 stg ⊢;refine ⟨?_,stg (by rw [c2];exact List.length_set) ?_⟩
         ·unfold FH US;simp only [cond_true,KU,n1,xl,bk,Qj _ _ hl];rfl
         ·rcases c3 with c3 | ⟨_,c3 | c3 | c3⟩
          ·exact Or.inl (c3.trans s3')
          ·exact Or.inr (Or.inl c3)
          ·exact Or.inr (Or.inr (Or.inl ⟨c3.1,by have:=c3.2;change (m.inns.set _ _).length=2 at this;rw [List.length_set] at this;exact this⟩))
          ·exact Or.inr (Or.inr (Or.inr c3))
        | false =>
         rw [hsd] at n1 bk;simp only [cond_false] at n1 bk;have n2:=n1.trans (DY _);have pm:E8 m e=(Gm { m with inns:=m.inns.set (lnx m.inns) (Ar m.rules (Ak m) e).1 } e.side,0):=by
          unfold E8;simp only [hq,k13,sd1,hsd,Bool.not_true,Bool.not_false,Bool.and_true,cond_true,cond_false]
         have ab:Ly (m.inns.set (lnx m.inns) (Ar m.rules (Ak m) e).1) e.side (m.inns.set (lnx m.inns) (Ar m.rules (Ak m) e).1).length=Bo (fun k=>(inn m.inns k).side) e.side (lnx m.inns):=by
          rw [l7,List.length_set,show m.inns.length=lnx m.inns+1 by omega];show cond ((inn (m.inns.set (lnx m.inns) (Ar m.rules (Ak m) e).1) (lnx m.inns)).side==e.side) (some (lnx m.inns)) (Bo (fun k=>(inn (m.inns.set (lnx m.inns) (Ar m.rules (Ak m) e).1) k).side) e.side (lnx m.inns))=Bo (fun k=>(inn m.inns k).side) e.side (lnx m.inns);rw [Xs _ _ _ _ hl,if_pos rfl,sd1];have sy:((Ak m).side==e.side)=false:=by
           rw [← hsd,Bool.eq_iff_iff,beq_iff_eq,beq_iff_eq];exact eq_comm
          rw [sy];exact U5 _ (fun k hk=>by rw [Xs _ _ _ _ (by omega),if_neg (by omega)])
         have mx:(m.inns.set (lnx m.inns) (Ar m.rules (Ak m) e).1).map (BU m.rules.balls)=m.inns.map (BU m.rules.balls):=by
          rw [KU,n2,show BU m.rules.balls (Ak m)=sco (m.inns.map (BU m.rules.balls)) (lnx m.inns) from (Qj _ _ hl).symm];exact iv _ _ (by rw [xl];exact hl)
         obtain ⟨a1,a2,a3,a4⟩:=jd (m:={ m with inns:=m.inns.set (lnx m.inns) (Ar m.rules (Ak m) e).1 }) e.side (Q6 (lnx m.inns) (fQ ok) (by
          have lv:=QL (ok.innv (lnx m.inns) hl).1;have l1:=lv.1;have l2:=lv.2.1;exact RP (Sf m.rules (Ak m) e) lv.2.2 (show (inn m.inns (lnx m.inns)).before.length+(inn m.inns (lnx m.inns)).bowlers.length≤1048575 by omega)))
         have a3':(Gm { m with inns:=m.inns.set (lnx m.inns) (Ar m.rules (Ak m) e).1 } e.side).inns.length=m.inns.length:=a3.trans List.length_set;rw [pm] at c2 c3 stg ⊢;refine ⟨?_,stg (by rw [c2];exact a3') ?_⟩
         ·simp only [cond_true];unfold Gm;simp only [ab];unfold US;show FH _=match Bo (fun k=>(sco (m.inns.map (BU m.rules.balls)) k).side) e.side (m.inns.map (BU m.rules.balls)).length with
           | some k=>_
           | none=>_
          rw [xl,bk];cases hk:Bo (fun k=>(inn m.inns k).side) e.side (lnx m.inns) with
          | none =>
           have i1:IntKind.i64.wrap (m.pen1+5)=m.pen1+5:=Cx (by omega) (by omega);have i2:IntKind.i64.wrap (m.pen2+5)=m.pen2+5:=Cx (by omega) (by omega);unfold FH;simp only [mx,i1,i2]
          | some k =>
           have hk2:=(Iu _ hk).1;have hki:inn (m.inns.set (lnx m.inns) (Ar m.rules (Ak m) e).1) k=inn m.inns k:=by rw [Xs _ _ _ _ (by omega),if_neg (by omega)]
           unfold FH;simp only [hki,KU (k:=k),mx,se (ok.innv k (by omega)).1,Qj _ _ (show k<m.inns.length by omega)]
         ·rcases c3 with c3 | ⟨_,c3 | c3 | c3⟩
          ·exact Or.inl (c3.trans (a4.trans s3'))
          ·exact Or.inr (Or.inl c3)
          ·exact Or.inr (Or.inr (Or.inl ⟨c3.1,a3'.symm.trans c3.2⟩))
          ·exact Or.inr (Or.inr (Or.inr c3))
def opn (L:Rows):Nat→Nat
 | 0=>0
 | n+1=>opn L n+cond ((evR L n).kind==2) 1 0
theorem Ui (L:Rows) (n:Nat):opn L n≤opn L (n+1):=by
 show opn L n≤opn L n+_;exact Nat.le_add_right _ _
theorem Zd (L:Rows) {i:Nat}:∀ {j:Nat},i≤j→opn L i≤opn L j
 | 0,h=>by rw [Nat.le_zero.1 h];exact Nat.le_refl _
 | j+1,h=>by
  by_cases e:i=j+1
  ·rw [e];exact Nat.le_refl _
  ·exact Nat.le_trans (Zd L (by omega)) (Ui L j)
def GS (L:Rows):Nat→Option Int
 | 0=>none
 | n+1=>match GS L n with
  | some v=>some v
  | none=>cond ((evR L n).kind==1) (some (bW (evR L n))) none
theorem YX {L:Rows} {v:Int} {i:Nat} (h:GS L i=some v):∀ {j:Nat},i≤j→GS L j=some v
 | 0,hj=>by rw [Nat.le_zero.1 hj] at h;exact h
 | j+1,hj=>by
  by_cases e:i=j+1
  ·rw [← e];exact h
  ·unfold GS;rw [YX h (show i≤j by omega)]
def RE (L:Rows):Nat→Bool
 | 0=>false
 | n+1=>RE L n||((evR L n).kind==12&&(evR L n).yes)
def had (L:Rows):Nat→Bool
 | 0=>false
 | n+1=>had L n||(evR L n).kind==12
theorem lW {L:Rows}:∀ n,had L n=false→RE L n=false
 | 0,_=>rfl
 | n+1,h=>by
  unfold had at h;unfold RE;rw [Bool.or_eq_false_iff] at h;rw [lW n h.1,h.2];rfl
structure LogI (L:Rows) (i:Nat) (m:Mat):Prop where
 len:m.inns.length=opn L i
 fs:∀ v,GS L i=some v→m.first=v∧¬ m.stage=1
 fn:GS L i=none→m.first=0
 fol:m.follow=RE L i
 k12:had L i=true→(m.inns.length=2∧(m.stage=2∨m.stage=5))∨3≤m.inns.length
structure EvF (L:Rows) (i:Nat):Prop where
 two:((evR L i).kind==2)=true→opn L i≤3∧∃ v,GS L i=some v∧(v=1∨v=2)
 twelve:((evR L i).kind==12)=true→opn L i=2
 play:((evR L i).kind==1)=false→((evR L i).kind==2)=false→((evR L i).kind==12)=false→((evR L i).kind==16)=false→1≤opn L i
theorem q9 (s:Int) (T:TS):(US s T).xs.length=T.xs.length∧(US s T).first=T.first∧(US s T).follow=T.follow:=by
 unfold US;cases Bo (fun k=>(sco T.xs k).side) s T.xs.length with
 | none=>exact ⟨rfl,rfl,rfl⟩
 | some k=>exact ⟨List.length_set,rfl,rfl⟩
theorem nA (r:Rul) (e:Ev) (T:TS):(SX r e T).xs.length=T.xs.length+cond (e.kind==2) 1 0∧(SX r e T).first=cond (e.kind==1) (bW e) T.first∧(SX r e T).follow=cond (e.kind==12) e.yes T.follow:=by
 unfold SX;cases k1:e.kind==1 with
 | true =>
  rw [beq_iff_eq.1 k1];exact ⟨rfl,rfl,rfl⟩
 | false =>
  cases k2:e.kind==2 with
  | true =>
   rw [beq_iff_eq.1 k2];refine ⟨?_,rfl,rfl⟩;show (T.xs++[_]).length=_;rw [List.length_append];rfl
  | false =>
   cases k12:e.kind==12 with
   | true=>exact ⟨rfl,rfl,rfl⟩
   | false =>
    cases k16:e.kind==16 with
    | true=>exact ⟨rfl,rfl,rfl⟩
    | false =>
     cases k13:e.kind==13 with
     | true=>exact q9 e.side T
     | false=>exact ⟨List.length_set,rfl,rfl⟩
theorem rH {L:Rows} {i:Nat} {m:Mat} (h:LogI L i m) (ha:((C3 m (evR L i)).2==0)=true):LogI L (i+1) (C3 m (evR L i)).1∧EvF L i:=by
 obtain ⟨ab,sg⟩:=jh ha;obtain ⟨hv,he,h5,hp,hs⟩:=Zp ha;have vp:=br hv;obtain ⟨t1,t2,t3⟩:=nA m.rules (evR L i) (FH m);rw [← ab] at t1 t2 t3;have x1:∀ z:Mat,(FH z).xs.length=z.inns.length:=fun z=>List.length_map _
 rw [x1,x1] at t1;change (C3 m (evR L i)).1.first=cond ((evR L i).kind==1) (bW (evR L i)) m.first at t2;change (C3 m (evR L i)).1.follow=cond ((evR L i).kind==12) (evR L i).yes m.follow at t3;have no12:((evR L i).kind==12)=true→had L i=false:=fun k=>by
  obtain ⟨s1,s2,s3⟩:=sg.k12 k;cases hh:had L i with
  | false=>rfl
  | true=>rcases h.k12 hh with ⟨_,q | q⟩ | q<;>omega
 have no5:¬ m.stage=5:=beq_eq_false_iff_ne.1 h5;refine ⟨⟨?_,?_,?_,?_,?_⟩,⟨?_,?_,?_⟩⟩
 ·rw [t1,h.len];rfl
 ·intro v hv2;refine ⟨?_,sg.not1⟩;rw [t2];unfold GS at hv2;cases hf:GS L i with
  | some w =>
   rw [hf] at hv2;cases hv2;obtain ⟨f1,f2⟩:=h.fs _ hf;cases k1:(evR L i).kind==1 with
   | true=>exact absurd (sg.k1 k1).1 f2
   | false=>exact f1
  | none =>
   rw [hf] at hv2;cases k1:(evR L i).kind==1 with
   | true =>
    simp only [k1,cond_true] at hv2;cases hv2;rfl
   | false =>
    simp only [k1,cond_false] at hv2;cases hv2
 ·intro hn;rw [t2];unfold GS at hn;cases hf:GS L i with
  | some w=>rw [hf] at hn;cases hn
  | none =>
   rw [hf] at hn;cases k1:(evR L i).kind==1 with
   | true =>
    simp only [k1,cond_true] at hn;cases hn
   | false=>exact h.fn hf
 ·rw [t3];unfold RE;cases k12:(evR L i).kind==12 with
  | true=>rw [lW i (no12 k12)];rfl
  | false=>rw [h.fol,Bool.false_and,Bool.or_false];rfl
 ·intro hh;rw [t1];unfold had at hh;cases k12:(evR L i).kind==12 with
  | true =>
   obtain ⟨s1,s2,s3⟩:=sg.k12 k12;rw [beq_iff_eq.1 k12];exact Or.inl ⟨s2,Or.inl s3⟩
  | false =>
   rw [k12,Bool.or_false] at hh
   rcases h.k12 hh with ⟨q1,q2⟩ | q
   ·cases k2:(evR L i).kind==2 with
    | true=>exact Or.inr (by simp only [cond_true];omega)
    | false =>
     refine Or.inl ⟨q1,?_⟩;cases k16:(evR L i).kind==16 with
     | true=>exact Or.inr (sg.k16 k16)
     | false =>
      cases k1:(evR L i).kind==1 with
      | true=>have:=(sg.k1 k1).1;omega
      | false=>have:=(sg.play k1 k2 k12 k16).1;omega
   ·exact Or.inr (Nat.le_trans q (Nat.le_add_right _ _))
 ·intro k2;obtain ⟨s1,s2⟩:=sg.k2 k2;refine ⟨by rw [← h.len];exact s2,?_⟩;have tk:=(Th hv).toss (by rw [s1];rfl);cases hf:GS L i with
  | none=>have:=h.fn hf;omega
  | some w=>exact ⟨w,rfl,by rw [← (h.fs w hf).1];exact tk⟩
 ·intro k;rw [← h.len];exact (sg.k12 k).2.1
 ·intro a b c d;rw [← h.len];exact (sg.play a b c d).2
theorem dc {r:Rul} (h:((BD r).2==0)=true):(BD r).1=⟨r,1,0,false,[],0,0,0,0,0⟩∧BE r=0:=by
 unfold BD at h ⊢;cases hc:BE r==0 with
 | false=>rw [hc] at h;exact absurd (show (BE r==0)=true from h) (by rw [hc];decide)
 | true=>exact ⟨rfl,beq_iff_eq.1 hc⟩
theorem To {r:Rul} {L:Rows} {n:Nat} (hc:((BD r).2==0)=true) (ha:acc L n 0 (BD r).1):∀ i,i≤n→LogI L i (stM L i 0 (BD r).1)∧StepOk r (stM L i 0 (BD r).1)∧∀ j,j<i→FH (stM L (j+1) 0 (BD r).1)=SX r (evR L j) (FH (stM L j 0 (BD r).1))∧EvF L j
 | 0,_=>by
  refine ⟨?_,eT r hc,fun j hj=>absurd hj (Nat.not_lt_zero j)⟩;show LogI L 0 (BD r).1;rw [(dc hc).1];exact ⟨rfl,fun v h=>(by cases h),fun _=>rfl,rfl,fun h=>(by cases h)⟩
 | i+1,hi=>by
  obtain ⟨h1,h2,h3⟩:=To hc ha i (by omega);have a0:=jx n 0 _ ha i (by omega);have s0:=ZQ (L:=L) i 0 (BD r).1;rw [Nat.zero_add] at a0 s0;have q:=(iM a0).1;rw [q] at s0 a0;obtain ⟨l1,l2⟩:=rH h1 a0;rw [s0];refine ⟨l1,by rw [← q];exact Zh h2 _ _,fun j hj=>?_⟩
  by_cases e:j=i
  ·subst e;rw [s0];refine ⟨?_,l2⟩;rw [(jh a0).1,h2.rules]
  ·exact h3 j (by omega)
def sdF (L:Rows) (n:Nat) (j:Nat):Int:=Kw ((GS L n).getD 1) (RE L n) (j:Int)
theorem ja {L:Rows} {i:Nat}:∀ n,i≤n→(∀ j,i≤j→j<n→((evR L j).kind==12)=false)→RE L n=RE L i
 | 0,h,_=>by rw [Nat.le_zero.1 h]
 | n+1,h,hk=>by
  by_cases e:i=n+1
  ·rw [e]
  ·have:RE L (n+1)=RE L n:=by
    show (RE L n||((evR L n).kind==12&&_))=_;rw [hk n (by omega) (Nat.lt_succ_self n),Bool.false_and,Bool.or_false]
   rw [this];exact ja n (by omega) (fun j h1 h2=>hk j h1 (by omega))
theorem qo (f:Int) (a b:Bool) {j:Nat} (h:j<2):Kw f a (j:Int)=Kw f b (j:Int):=by
 have:iLe 2 (j:Int)=false:=by simp only [iLe,decide_eq_false_iff_not];omega
 unfold Kw;rw [this,Bool.and_false,Bool.and_false]
theorem sQ {r : Rul} {L : Rows} {n i : Nat} (hc : ((BD r).2 == 0) = true) (ha : acc L n 0 (BD r).1) (hi : i < n) (hk : ((evR L i).kind == 2) = true) :
    Kw (stM L i 0 (BD r).1).first (stM L i 0 (BD r).1).follow (opn L i:Int)=sdF L n (opn L i)∧(sdF L n (opn L i)=1∨sdF L n (opn L i)=2):=by
  obtain ⟨h1,_,_⟩:=To hc ha i (by omega);obtain ⟨_,_,h3⟩:=To hc ha n (Nat.le_refl n);obtain ⟨e1,v,e2,e3⟩:=(h3 i hi).2.two hk;have f1:=(h1.fs v e2).1;have f2:=YX e2 (show i≤n by omega);have main:Kw (stM L i 0 (BD r).1).first (stM L i 0 (BD r).1).follow (opn L i:Int)=sdF L n (opn L i):=by
    unfold sdF;rw [f1,f2,h1.fol];show Kw v _ _=Kw v _ _
    by_cases h2:opn L i<2
    · exact qo _ _ _ h2
    · rw [ja (i:=i) n (by omega)];intro j j1 j2;cases k12:(evR L j).kind==12 with
      | false=>rfl
      | true =>
        have o2:=(h3 j j2).2.twelve k12
        by_cases e:j=i
        · subst e;rw [beq_iff_eq.1 hk] at k12;cases k12
        · have:=Zd L (show i+1≤j by omega);have o3:opn L (i+1)=opn L i+1:=by show opn L i+cond ((evR L i).kind==2) 1 0=_;rw [hk];rfl
          omega
  refine ⟨main,?_⟩;rw [← main,f1];unfold Kw;cases cond ((stM L i 0 (BD r).1).follow&&iLe 2 (opn L i:Int)) ((opn L i:Int)==2) ((opn L i:Int).tmod 2==1) with
  | false=>exact e3
  | true=>rcases e3 with h | h<;>rw [h]<;>decide
def smi (L:Rows) (f:Ev→Int) (j:Nat):Nat→Int
 | 0=>0
 | n+1=>smi L f j n+cond (Nat.beq (opn L (n+1)) (j+1)) (f (evR L n)) 0
theorem jQ (L:Rows) (f:Ev→Int) (j n:Nat):smi L f j (n+1)=smi L f j n+cond (Nat.beq (opn L (n+1)) (j+1)) (f (evR L n)) 0:=rfl
theorem jj {a b:Nat} (h:¬ a=b):Nat.beq a b=false:=by
 cases hq:Nat.beq a b with
 | false=>rfl
 | true=>exact absurd (Nat.eq_of_beq_eq_true hq) h
theorem de (a:Nat):Nat.beq a a=true:=Nat.beq_refl a
theorem js {L:Rows} {f:Ev→Int} {j:Nat}:∀ n,opn L n≤j→smi L f j n=0
 | 0,_=>rfl
 | n+1,h=>by
  have:=Ui L n;unfold smi;rw [js n (by omega),jj (by omega)];rfl
def ZL (sd:Nat→Int) (s:Int):Nat→Nat→Option Nat
 | 0,_=>none
 | c+1,i=>cond (sd i==s) (some i) (ZL sd s c (i+1))
theorem RZ {sd:Nat→Int} {s:Int} {j:Nat}:∀ c i,ZL sd s c i=some j→i≤j∧j<i+c∧sd j=s∧∀ k,i≤k→k<j→¬ sd k=s
 | 0,_,h=>by cases h
 | c+1,i,h=>by
  unfold ZL at h;cases hq:sd i==s with
  | true =>
   rw [hq] at h;cases h;exact ⟨Nat.le_refl _,by omega,beq_iff_eq.1 hq,fun k h1 h2=>by omega⟩
  | false =>
   rw [hq] at h;obtain ⟨h1,h2,h3,h4⟩:=RZ c (i+1) h;refine ⟨by omega,by omega,h3,fun k k1 k2=>?_⟩
   by_cases e:k=i
   ·subst e;exact beq_eq_false_iff_ne.1 hq
   ·exact h4 k (by omega) k2
theorem pR {sd:Nat→Int} {s:Int} {k:Nat} (hs:sd k=s):∀ c i,i≤k→k<i+c→∃ j,ZL sd s c i=some j∧j≤k
 | 0,_,h1,h2=>absurd h2 (by omega)
 | c+1,i,h1,h2=>by
  unfold ZL;cases hq:sd i==s with
  | true=>exact ⟨i,rfl,h1⟩
  | false =>
   have:¬ i=k:=fun e=>by subst e;exact beq_eq_false_iff_ne.1 hq hs
   exact pR hs c (i+1) (by omega) (by omega)
def HK (sd:Nat→Int) (n k:Nat) (s:Int):Option Nat:=match Bo sd s (k+1) with
 | some j=>some j
 | none=>ZL sd s (n - (k+1)) (k+1)
theorem qZ {sd:Nat→Int} {n k j:Nat} {s:Int} (h:HK sd n k s=some j):sd j=s∧(j≤k∨(k<j∧j<n∧Bo sd s (k+1)=none)):=by
 unfold HK at h;cases hb:Bo sd s (k+1) with
 | some w =>
  rw [hb] at h;cases h;have:=Iu _ hb;exact ⟨this.2,Or.inl (by omega)⟩
 | none =>
  rw [hb] at h;obtain ⟨h1,h2,h3,h4⟩:=RZ _ _ h;exact ⟨h3,Or.inr ⟨by omega,by omega,rfl⟩⟩
def isS (o:Option Nat) (j:Nat):Bool:=match o with
 | some k=>Nat.beq k j
 | none=>false
theorem X0 {o:Option Nat} {j:Nat}:isS o j=true↔o=some j:=by
 cases o with
 | none=>exact ⟨fun h=>(by cases h),fun h=>(by cases h)⟩
 | some k=>exact ⟨fun h=>(by rw [Nat.eq_of_beq_eq_true h]),fun h=>(by cases h;exact de j)⟩
def pnS (L:Rows) (sd:Nat→Int) (n j:Nat):Nat→Int
 | 0=>0
 | i+1=>pnS L sd n j i+cond ((evR L i).kind==13&&isS (HK sd n (opn L (i+1) - 1) (evR L i).side) j) 5 0
theorem lY (L:Rows) (sd:Nat→Int) (n j i:Nat):pnS L sd n j (i+1)=pnS L sd n j i+cond ((evR L i).kind==13&&isS (HK sd n (opn L (i+1) - 1) (evR L i).side) j) 5 0:=rfl
def pcS (L:Rows) (s:Int):Nat→Int
 | 0=>0
 | i+1=>pcS L s i+cond ((evR L i).kind==13&&(evR L i).side==s) 5 0
def EN (L:Rows) (sd:Nat→Int) (s:Int) (k i:Nat):Int:=match Bo sd s k with
 | some _=>0
 | none=>pcS L s i
theorem lh {L:Rows} {sd:Nat→Int} {n k:Nat} (hn:k<n):∀ i,(∀ j,j<i→((evR L j).kind==13)=true→1≤opn L (j+1))→opn L i≤k→pnS L sd n k i=EN L sd (sd k) k i
 | 0,_,_=>by unfold EN;cases Bo sd (sd k) k<;>rfl
 | i+1,h,hk=>by
  have ih:=lh (sd:=sd) hn i (fun j hj=>h j (by omega)) (Nat.le_trans (Ui L i) hk);unfold pnS;rw [ih];unfold EN;cases k13:(evR L i).kind==13 with
  | false =>
   rw [Bool.false_and,cond_false,Int.add_zero];cases Bo sd (sd k) k with
   | some _=>rfl
   | none =>
    show pcS L (sd k) i=pcS L (sd k) i+cond ((evR L i).kind==13&&_) 5 0;rw [k13,Bool.false_and,cond_false,Int.add_zero]
  | true =>
   have o1:=h i (Nat.lt_succ_self i) k13;rw [Bool.true_and]
   by_cases es:(evR L i).side=sd k
   ·cases hb:Bo sd (sd k) k with
    | some w =>
     have bw:=Iu _ hb;have:isS (HK sd n (opn L (i+1) - 1) (evR L i).side) k=false:=by
      cases hq:isS (HK sd n (opn L (i+1) - 1) (evR L i).side) k with
      | false=>rfl
      | true =>
       exfalso
       have hd:=X0.1 hq;rw [es] at hd;unfold HK at hd;rw [show opn L (i+1) - 1+1=opn L (i+1) by omega] at hd;cases hb2:Bo sd (sd k) (opn L (i+1)) with
       | some z =>
        rw [hb2] at hd;cases hd;have:=(Iu _ hb2).1;omega
       | none =>
        rw [hb2] at hd;have nb:=XH _ hb2;have f4:=(RZ _ _ hd).2.2.2 w
        by_cases hw:w<opn L (i+1)
        ·exact nb w hw bw.2
        ·exact f4 (by omega) bw.1 bw.2
     rw [this];rfl
    | none =>
     have nb:=XH _ hb;have:isS (HK sd n (opn L (i+1) - 1) (evR L i).side) k=true:=by
      rw [X0,es];unfold HK;rw [show opn L (i+1) - 1+1=opn L (i+1) by omega];cases hb2:Bo sd (sd k) (opn L (i+1)) with
      | some z =>
       have:=Iu _ hb2;exact absurd this.2 (nb z (by omega))
      | none =>
       obtain ⟨j,j1,j2⟩:=pR (sd:=sd) (s:=sd k) (k:=k) rfl (n - opn L (i+1)) (opn L (i+1)) hk (by omega);have:=RZ _ _ j1
       by_cases e:j=k
       ·subst e;exact j1
       ·exact absurd this.2.2.1 (nb j (by omega))
     rw [this];show pcS L (sd k) i+_=pcS L (sd k) i+cond ((evR L i).kind==13&&(evR L i).side==sd k) 5 0;rw [k13,es,beq_self_eq_true];rfl
   ·have:isS (HK sd n (opn L (i+1) - 1) (evR L i).side) k=false:=by
     cases hq:isS (HK sd n (opn L (i+1) - 1) (evR L i).side) k with
     | false=>rfl
     | true=>exact absurd (qZ (X0.1 hq)).1.symm es
    rw [this,cond_false,Int.add_zero];cases Bo sd (sd k) k with
    | some _=>rfl
    | none =>
     show pcS L (sd k) i=pcS L (sd k) i+cond ((evR L i).kind==13&&(evR L i).side==sd k) 5 0;rw [beq_false_of_ne es,Bool.and_false,cond_false,Int.add_zero]
def jN (r:Rul) (e:Ev):Int:=En (EH r e)
def Xl (r:Rul) (e:Ev):Int:=cond (EH r e).counts 1 0
def NY (r:Rul) (L:Rows) (sd:Nat→Int) (n j i:Nat):Sco:=⟨sd j,smi L (jN r) j i+pnS L sd n j i,smi L Uv j i,smi L (Xl r) j i,smi L (fun e=>(EH r e).wides) j i,smi L (fun e=>(EH r e).noballs) j i,smi L (fun e=>(EH r e).byes) j i,smi L (fun e=>(EH r e).legbyes) j i,pnS L sd n j i,0⟩
theorem Za (r:Rul) (L:Rows) (sd:Nat→Int) (n j i:Nat):NY r L sd n j (i+1)=J0 (cond ((evR L i).kind==13&&isS (HK sd n (opn L (i+1) - 1) (evR L i).side) j) 5 0) (cond (Nat.beq (opn L (i+1)) (j+1)) (UT r (evR L i) (NY r L sd n j i)) (NY r L sd n j i)):=by
 unfold NY;simp only [jQ,lY];generalize (cond ((evR L i).kind==13&&isS (HK sd n (opn L (i+1) - 1) (evR L i).side) j) 5 0:Int)=p;cases Nat.beq (opn L (i+1)) (j+1) with
 | false =>
  unfold J0;simp only [cond_false,Int.add_zero,Int.add_assoc]
 | true =>
  unfold J0 UT;simp only [cond_true];rw [Sco.mk.injEq];refine ⟨rfl,?_,rfl,rfl,rfl,rfl,rfl,rfl,rfl,rfl⟩;unfold jN;omega
theorem fN {r:Rul} {L:Rows} {sd:Nat→Int} {n j i:Nat} (h4:((evR L i).kind==4)=false) (h13:((evR L i).kind==13)=false) (ho:CW (evR L i)=0):NY r L sd n j (i+1)=NY r L sd n j i:=by
 rw [Za,h13,Bool.false_and,cond_false,DY,SA _ h4 ho];cases Nat.beq (opn L (i+1)) (j+1)<;>rfl
structure Clo (r:Rul) (L:Rows) (sd:Nat→Int) (n i:Nat) (T:TS):Prop where
 len:T.xs.length=opn L i
 at':∀ j,j<opn L i→sco T.xs j=NY r L sd n j i
 p1:T.p1=EN L sd 1 (opn L i) i
 p2:T.p2=EN L sd 2 (opn L i) i
theorem F0 {L:Rows} {sd:Nat→Int} {s:Int} {k i:Nat} (h:((evR L i).kind==13&&(evR L i).side==s)=false):EN L sd s k (i+1)=EN L sd s k i:=by
 unfold EN;cases Bo sd s k with
 | some _=>rfl
 | none =>
  show pcS L s i+cond ((evR L i).kind==13&&(evR L i).side==s) 5 0=_;rw [h,cond_false,Int.add_zero]
theorem oj {r:Rul} {L:Rows} {n:Nat} (hc:((BD r).2==0)=true) (ha:acc L n 0 (BD r).1):∀ i,i≤n→Clo r L (sdF L n) (opn L n) i (FH (stM L i 0 (BD r).1))
 | 0,_=>by
  show Clo r L _ _ 0 (FH (BD r).1);rw [(dc hc).1];exact ⟨rfl,fun j hj=>absurd hj (Nat.not_lt_zero j),rfl,rfl⟩
 | i+1,hi=>by
  have ih:=oj hc ha i (by omega);obtain ⟨_,_,h3⟩:=To hc ha n (Nat.le_refl n);obtain ⟨hst,hev⟩:=h3 i (by omega);have sat:=sQ hc ha (show i<n by omega);have o13:∀ j,j<i→((evR L j).kind==13)=true→1≤opn L (j+1):=fun j hj k13=>by
   have e:=beq_iff_eq.1 k13;have:=(h3 j (by omega)).2.play (by rw [e];rfl) (by rw [e];rfl) (by rw [e];rfl) (by rw [e];rfl);exact Nat.le_trans this (Ui L j)
  rw [hst];change ((evR L i).kind==2)=true→Kw (FH (stM L i 0 (BD r).1)).first (FH (stM L i 0 (BD r).1)).follow (opn L i:Int)=_∧_ at sat;generalize FH (stM L i 0 (BD r).1)=T at ih sat;have onx:opn L (i+1)=opn L i+cond ((evR L i).kind==2) 1 0:=rfl;have quiet:((evR L i).kind==2)=false→((evR L i).kind==4)=false→((evR L i).kind==13)=false→CW (evR L i)=0→∀ T':TS,T'.xs=T.xs→T'.p1=T.p1→T'.p2=T.p2→Clo r L (sdF L n) (opn L n) (i+1) T':=by
   intro a b c d T' t1 t2 t3;rw [a] at onx;change opn L (i+1)=opn L i at onx;have z:∀ s:Int,((evR L i).kind==13&&(evR L i).side==s)=false:=fun s=>by rw [c];rfl
   refine ⟨by rw [onx,t1];exact ih.len,fun j hj=>?_,?_,?_⟩
   ·rw [t1,fN b c d];exact ih.at' j (by omega)
   ·rw [onx,t2,F0 (z 1)];exact ih.p1
   ·rw [onx,t3,F0 (z 2)];exact ih.p2
  unfold SX;cases k1:(evR L i).kind==1 with
  | true =>
   have e:=beq_iff_eq.1 k1;exact quiet (by rw [e];rfl) (by rw [e];rfl) (by rw [e];rfl) (by unfold CW;rw [e];rfl) _ rfl rfl rfl
  | false =>
   cases k2:(evR L i).kind==2 with
   | true =>
    have e:=beq_iff_eq.1 k2;have h4:((evR L i).kind==4)=false:=by rw [e];rfl
    have h13:((evR L i).kind==13)=false:=by rw [e];rfl
    have ho:CW (evR L i)=0:=by unfold CW;rw [e];rfl
    have z:∀ s:Int,((evR L i).kind==13&&(evR L i).side==s)=false:=fun s=>by rw [h13];rfl
    rw [k2] at onx;change opn L (i+1)=opn L i+1 at onx;obtain ⟨sa,sb⟩:=sat k2;have kn:opn L i<opn L n:=by have:=Zd L (show i+1≤n by omega);omega
    have pp:=lh (L:=L) (sd:=sdF L n) kn i o13 (Nat.le_refl _);show Clo r L (sdF L n) (opn L n) (i+1) (ga T);unfold ga;simp only [ih.len,sa];refine ⟨by rw [List.length_append,ih.len,onx];rfl,fun j hj=>?_,?_,?_⟩
    ·rw [sj _ _ _ (by rw [ih.len];omega),ih.len,fN h4 h13 ho]
     by_cases hjk:j<opn L i
     ·rw [if_pos hjk];exact ih.at' j hjk
     ·have:j=opn L i:=by omega
      subst this;rw [if_neg hjk];unfold NY iJ;simp only [js i (Nat.le_refl _),Int.zero_add,pp]
      rcases sb with sb | sb<;>rw [sb]
      ·rw [← ih.p1];rfl
      ·rw [← ih.p2];rfl
    ·rw [onx];show cond (sdF L n (opn L i)==1) 0 T.p1=EN L (sdF L n) 1 (opn L i+1) (i+1);rw [F0 (z 1)];unfold EN Bo;cases sdF L n (opn L i)==1 with
     | true=>rfl
     | false=>exact ih.p1
    ·rw [onx];show cond (sdF L n (opn L i)==2) 0 T.p2=EN L (sdF L n) 2 (opn L i+1) (i+1);rw [F0 (z 2)];unfold EN Bo;cases sdF L n (opn L i)==2 with
     | true=>rfl
     | false=>exact ih.p2
   | false =>
    cases k12:(evR L i).kind==12 with
    | true =>
     have e:=beq_iff_eq.1 k12;exact quiet (by rw [e];rfl) (by rw [e];rfl) (by rw [e];rfl) (by unfold CW;rw [e];rfl) _ rfl rfl rfl
    | false =>
     cases k16:(evR L i).kind==16 with
     | true =>
      have e:=beq_iff_eq.1 k16;exact quiet (by rw [e];rfl) (by rw [e];rfl) (by rw [e];rfl) (by unfold CW;rw [e];rfl) _ rfl rfl rfl
     | false =>
      have pl:=hev.play k1 k2 k12 k16;rw [k2] at onx;change opn L (i+1)=opn L i at onx;simp only [cond_false];cases k13:(evR L i).kind==13 with
      | true =>
       have e:=beq_iff_eq.1 k13;have h4:((evR L i).kind==4)=false:=by rw [e];rfl
       have ho:CW (evR L i)=0:=by unfold CW;rw [e];rfl
       have bk:Bo (fun k=>(sco T.xs k).side) (evR L i).side T.xs.length=Bo (sdF L n) (evR L i).side (opn L i):=by
        rw [ih.len];exact U5 _ (fun k hk=>by rw [ih.at' k hk];rfl)
       have du:HK (sdF L n) (opn L n) (opn L (i+1) - 1) (evR L i).side=match Bo (sdF L n) (evR L i).side (opn L i) with
        | some j=>some j
        | none=>ZL (sdF L n) (evR L i).side (opn L n - opn L i) (opn L i):=by
        unfold HK;rw [onx,show opn L i - 1+1=opn L i by omega]
       have cs:∀ j,NY r L (sdF L n) (opn L n) j (i+1)=J0 (cond (isS (HK (sdF L n) (opn L n) (opn L (i+1) - 1) (evR L i).side) j) 5 0) (NY r L (sdF L n) (opn L n) j i):=fun j=>by
        rw [Za,k13,Bool.true_and,SA _ h4 ho];cases Nat.beq (opn L (i+1)) (j+1)<;>rfl
       have pq:∀ s:Int,Bo (sdF L n) (evR L i).side (opn L i)≠none→EN L (sdF L n) s (opn L i) (i+1)=EN L (sdF L n) s (opn L i) i:=fun s hs=>by
        by_cases es:(evR L i).side=s
        ·rw [es] at hs;unfold EN;cases hb:Bo (sdF L n) s (opn L i) with
         | none=>exact absurd hb hs
         | some w=>rfl
        ·exact F0 (by rw [beq_false_of_ne es,Bool.and_false])
       show Clo r L (sdF L n) (opn L n) (i+1) (US (evR L i).side T);unfold US;rw [bk];cases hb:Bo (sdF L n) (evR L i).side (opn L i) with
       | some w =>
        have wl:=(Iu _ hb).1;rw [hb] at du pq;simp only at du;refine ⟨by rw [onx];exact List.length_set.trans ih.len,fun j hj=>?_,?_,?_⟩
        ·rw [cs,du];show sco (T.xs.set w (J0 5 (sco T.xs w))) j=_;rw [lX _ _ _ _ (by rw [ih.len];omega)]
         by_cases ew:w=j
         ·subst ew;rw [if_pos rfl,ih.at' w wl,show isS (some w) w=true from de w];rfl
         ·rw [if_neg ew,show isS (some w) j=false from jj ew,ih.at' j (by omega),cond_false,DY]
        ·rw [onx,pq 1 (by simp)];exact ih.p1
        ·rw [onx,pq 2 (by simp)];exact ih.p2
       | none =>
        rw [hb] at du;simp only at du;have pc:∀ s:Int,EN L (sdF L n) s (opn L i) (i+1)=cond ((evR L i).side==s) (EN L (sdF L n) s (opn L i) i+5) (EN L (sdF L n) s (opn L i) i):=fun s=>by
         cases es:(evR L i).side==s with
         | false=>rw [F0 (by rw [es,Bool.and_false])];rfl
         | true =>
          have e2:=beq_iff_eq.1 es;rw [e2] at hb;unfold EN;rw [hb];show pcS L s i+cond ((evR L i).kind==13&&(evR L i).side==s) 5 0=_;rw [k13,es];rfl
        refine ⟨by rw [onx];exact ih.len,fun j hj=>?_,?_,?_⟩
        ·have nj:isS (HK (sdF L n) (opn L n) (opn L (i+1) - 1) (evR L i).side) j=false:=by
          cases hq:isS (HK (sdF L n) (opn L n) (opn L (i+1) - 1) (evR L i).side) j with
          | false=>rfl
          | true =>
           have:=X0.1 hq;rw [du] at this;have:=(RZ _ _ this).1;omega
         rw [cs,nj,cond_false,DY];exact ih.at' j (by omega)
        ·rw [onx,pc 1,← ih.p1]
        ·rw [onx,pc 2,← ih.p2]
      | false =>
       have z:∀ s:Int,((evR L i).kind==13&&(evR L i).side==s)=false:=fun s=>by rw [k13];rfl
       show Clo r L (sdF L n) (opn L n) (i+1) (ge r (evR L i) T);unfold ge;refine ⟨by rw [onx];exact List.length_set.trans ih.len,fun j hj=>?_,?_,?_⟩
       ·show sco (T.xs.set _ _) j=_;rw [lX _ _ _ _ (by rw [ih.len];omega),Za,k13,Bool.false_and,cond_false,DY,onx,ih.len]
        by_cases ew:opn L i - 1=j
        ·rw [if_pos ew,show opn L i=j+1 by omega,de,show j+1 - 1=j by omega,ih.at' j (by omega)];rfl
        ·rw [if_neg ew,jj (by omega)];exact ih.at' j (by omega)
       ·rw [onx,F0 (z 1)];exact ih.p1
       ·rw [onx,F0 (z 2)];exact ih.p2
def Sco.ls (s:Sco):List PV:=[.int s.side,.int s.runs,.int s.wickets,.int s.balls,.int s.wides,.int s.noballs,.int s.byes,.int s.legbyes,.int s.pens,.int s.ending]
def A5 (xs:List Sco):Rows:=xs.map Sco.ls
theorem lk (xs:List Sco) (i:Nat):AK (A5 xs) i=(match xs[i]? with | some s=>s.ls | none=>[]):=by
 unfold AK A5;rw [zzl,List.getElem?_map];cases xs[i]?<;>rfl
theorem iy (xs:List Sco):(A5 xs).length=xs.length:=List.length_map _
theorem PXs : (∀ xs : List Sco, (A5 xs).length = xs.length) ∧ (∀ (xs : List Sco) (i : Nat), pvI (AF (A5 xs) i 0) = (sco xs i).side) ∧ (∀ (xs : List Sco) (i : Nat), pvI (AF (A5 xs) i 1) = (sco xs i).runs) ∧ (∀ (xs : List Sco) (i : Nat), pvI (AF (A5 xs) i 2) = (sco xs i).wickets) ∧ (∀ (xs : List Sco) (i : Nat), pvI (AF (A5 xs) i 3) = (sco xs i).balls) ∧
    (∀ (xs:List Sco) (i:Nat),pvI (AF (A5 xs) i 4)=(sco xs i).wides)∧(∀ (xs:List Sco) (i:Nat),pvI (AF (A5 xs) i 5)=(sco xs i).noballs)∧(∀ (xs:List Sco) (i:Nat),pvI (AF (A5 xs) i 6)=(sco xs i).byes)∧(∀ (xs:List Sco) (i:Nat),pvI (AF (A5 xs) i 7)=(sco xs i).legbyes)∧(∀ (xs:List Sco) (i:Nat),pvI (AF (A5 xs) i 8)=(sco xs i).pens)∧(∀ (xs:List Sco) (i:Nat),pvI (AF (A5 xs) i 9)=(sco xs i).ending):=by
  refine ⟨iy,?_,?_,?_,?_,?_,?_,?_,?_,?_,?_⟩
  all_goals (intro xs i;rw [KV];unfold AF;rw [lk];cases xs[i]?<;>rfl)
theorem Cv {xs:List Sco} {i j:Nat} {v:Int} (f:Sco→Sco) (h:∀ s:Sco,A4 s.ls j [.int v]=(f s).ls):(A5 xs).set i (A4 (AK (A5 xs) i) j [.int v])=A5 (xs.set i (f (sco xs i))):=by
 by_cases hi:i<xs.length
 ·have e:AK (A5 xs) i=(sco xs i).ls:=by rw [lk,KV,zzo hi]
  rw [e,h];exact List.map_set.symm
 ·rw [List.set_eq_of_length_le (by rw [iy];omega),List.set_eq_of_length_le (by omega)]
theorem PXt : (∀ (xs : List Sco) (i : Nat) (v : Int), (A5 xs).set i (A4 (AK (A5 xs) i) 0 [.int v]) = A5 (xs.set i { sco xs i with side := v })) ∧ (∀ (xs : List Sco) (i : Nat) (v : Int), (A5 xs).set i (A4 (AK (A5 xs) i) 1 [.int v]) = A5 (xs.set i { sco xs i with runs := v })) ∧
    (∀ (xs:List Sco) (i:Nat) (v:Int),(A5 xs).set i (A4 (AK (A5 xs) i) 2 [.int v])=A5 (xs.set i { sco xs i with wickets:=v }))∧(∀ (xs:List Sco) (i:Nat) (v:Int),(A5 xs).set i (A4 (AK (A5 xs) i) 3 [.int v])=A5 (xs.set i { sco xs i with balls:=v })) ∧
    (∀ (xs:List Sco) (i:Nat) (v:Int),(A5 xs).set i (A4 (AK (A5 xs) i) 4 [.int v])=A5 (xs.set i { sco xs i with wides:=v }))∧(∀ (xs:List Sco) (i:Nat) (v:Int),(A5 xs).set i (A4 (AK (A5 xs) i) 5 [.int v])=A5 (xs.set i { sco xs i with noballs:=v })) ∧
    (∀ (xs:List Sco) (i:Nat) (v:Int),(A5 xs).set i (A4 (AK (A5 xs) i) 6 [.int v])=A5 (xs.set i { sco xs i with byes:=v }))∧(∀ (xs:List Sco) (i:Nat) (v:Int),(A5 xs).set i (A4 (AK (A5 xs) i) 7 [.int v])=A5 (xs.set i { sco xs i with legbyes:=v })) ∧
    (∀ (xs:List Sco) (i:Nat) (v:Int),(A5 xs).set i (A4 (AK (A5 xs) i) 8 [.int v])=A5 (xs.set i { sco xs i with pens:=v }))∧(∀ (xs:List Sco) (i:Nat) (v:Int),(A5 xs).set i (A4 (AK (A5 xs) i) 9 [.int v])=A5 (xs.set i { sco xs i with ending:=v })) ∧
    (∀ (xs:List Sco) (a b c d e f g h i j:Int),A5 xs++[([.int a,.int b,.int c,.int d,.int e,.int f,.int g,.int h,.int i,.int j]:List PV)]=A5 (xs++[⟨a,b,c,d,e,f,g,h,i,j⟩])):=by
  exact ⟨fun xs i v=>Cv (j:=0) (v:=v) (fun s=>{ s with side:=v }) (fun s=>rfl),fun xs i v=>Cv (j:=1) (v:=v) (fun s=>{ s with runs:=v }) (fun s=>rfl),fun xs i v=>Cv (j:=2) (v:=v) (fun s=>{ s with wickets:=v }) (fun s=>rfl),fun xs i v=>Cv (j:=3) (v:=v) (fun s=>{ s with balls:=v }) (fun s=>rfl),fun xs i v=>Cv (j:=4) (v:=v) (fun s=>{ s with wides:=v }) (fun s=>rfl),fun xs i v=>Cv (j:=5) (v:=v) (fun s=>{ s with noballs:=v }) (fun s=>rfl),fun xs i v=>Cv (j:=6) (v:=v) (fun s=>{ s with byes:=v }) (fun s=>rfl),fun xs i v=>Cv (j:=7) (v:=v) (fun s=>{ s with legbyes:=v }) (fun s=>rfl),fun xs i v=>Cv (j:=8) (v:=v) (fun s=>{ s with pens:=v }) (fun s=>rfl),fun xs i v=>Cv (j:=9) (v:=v) (fun s=>{ s with ending:=v }) (fun s=>rfl),
    fun xs a b c d e f g h i j=>(List.map_append (f:=Sco.ls) (l₁:=xs) (l₂:=[⟨a,b,c,d,e,f,g,h,i,j⟩])).symm⟩
def pr (xs:List (Int×Int)) (i:Nat):Int×Int:=xs.getD i (0,0)
def ry (xs:List (Int×Int)) (v:Int):List (Int×Int):=cond (iLt 0 (xs.length:Int)) (xs.set (IntKind.i64.wrap ((xs.length:Int) - 1)).toNat ((pr xs (IntKind.i64.wrap ((xs.length:Int) - 1)).toNat).1,v)) xs
def jF (L:Rows):Nat→List (Int×Int)
 | 0=>[]
 | i+1=>cond ((evR L i).kind==2) (ry (jF L i) (i:Int)++[((i:Int),(L.length:Int))]) (jF L i)
theorem LX {i:Nat} (h:i≤1099511627776):IntKind.i64.wrap ((i:Int)+1)=((i+1:Nat):Int):=BC h
def zs (g:Nat→Int) (n:Nat):List Int:=(List.range n).map g
def UU (L:Rows) (k:Nat):Nat:=if k<opn L L.length then (pr (jF L L.length) k).1.toNat else L.length
structure Seg (L:Rows) (k:Nat):Prop where
 x0:(pr (jF L L.length) k).1=(UU L k:Int)
 x1:(pr (jF L L.length) k).2=(UU L (k+1):Int)
 lt:UU L k<UU L (k+1)
 le:UU L (k+1)≤L.length
 o0:opn L (UU L k)=k
 o1:opn L (UU L (k+1))=k+1
 mid:∀ j,UU L k≤j→j<UU L (k+1)→opn L (j+1)=k+1
theorem QE {L:Rows} {f:Ev→Int} {c:Int} (hf:∀ e,0≤f e∧f e≤c) (j:Nat):∀ i:Nat,0≤smi L f j i∧smi L f j i≤c * (i:Int)
 | 0=>by
  have:smi L f j 0=0:=rfl;rw [this];omega
 | i+1=>by
  have ih:=QE (L:=L) hf j i;have h1:=hf (evR L i);rw [jQ,show c * ((i+1:Nat):Int)=c * (i:Int)+c by rw [show ((i+1:Nat):Int)=(i:Int)+1 by omega,Int.mul_add,Int.mul_one]];have h2:=hf (evR L i);generalize c * (i:Int)=z at ih ⊢;cases Nat.beq (opn L (i+1)) (j+1)<;>simp only [cond_true,cond_false]<;>omega
theorem uF (L:Rows) (sd:Nat→Int) (n j:Nat):∀ i:Nat,0≤pnS L sd n j i∧pnS L sd n j i≤5 * (i:Int)
 | 0=>by
  have:pnS L sd n j 0=0:=rfl;rw [this];omega
 | i+1=>by
  have ih:=uF L sd n j i;rw [lY];cases ((evR L i).kind==13&&isS (HK sd n (opn L (i+1) - 1) (evR L i).side) j)<;>simp only [cond_true,cond_false]<;>omega
structure Sml (x:Sco):Prop where
 runs:0≤x.runs∧x.runs≤1000000
 wk:0≤x.wickets∧x.wickets≤1000000
 balls:0≤x.balls∧x.balls≤1000000
 wides:0≤x.wides∧x.wides≤1000000
 no:0≤x.noballs∧x.noballs≤1000000
 bb:0≤x.byes∧x.byes≤1000000
 lb:0≤x.legbyes∧x.legbyes≤1000000
 pens:0≤x.pens∧x.pens≤1000000
theorem uj {r:Rul} (h:RulOk r) (e:Ev):0≤jN r e∧jN r e≤62:=by
 have c:=T7 h e;have h0:=c.ba;have h1:=c.wi;have h2:=c.no;have h3:=c.bb;have h4:=c.lb;have h5:=c.tot;unfold jN;omega
theorem tI {r:Rul} (h:RulOk r) (L:Rows) (sd:Nat→Int) (n j:Nat) {i:Nat} (hi:i≤4000):Sml (NY r L sd n j i):=by
 have p:=uF L sd n j i;have b1:=QE (L:=L) (uj h) j i;have b2:=QE (L:=L) tc j i;have b3:=QE (L:=L) (f:=Xl r) (c:=1) (fun e=>by unfold Xl;cases (EH r e).counts<;>simp) j i;have b4:=QE (L:=L) (f:=fun e=>(EH r e).wides) (fun e=>(T7 h e).wi) j i;have b5:=QE (L:=L) (f:=fun e=>(EH r e).noballs) (fun e=>(T7 h e).no) j i;have b6:=QE (L:=L) (f:=fun e=>(EH r e).byes) (fun e=>(T7 h e).bb) j i;have b7:=QE (L:=L) (f:=fun e=>(EH r e).legbyes) (fun e=>(T7 h e).lb) j i;unfold NY;constructor<;>(simp only;omega)
structure InLog (L:Rows):Prop where
 len:L.length≤4000
 pen:∀ j,j<L.length→((evR L j).kind==13)=true→1≤opn L (j+1)
end Go.Px
end
