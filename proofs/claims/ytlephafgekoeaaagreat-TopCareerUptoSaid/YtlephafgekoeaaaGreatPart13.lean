/- Part 13. -/
import Derived.Test.YtlephafgekoeaaaGreatPart12
set_option linter.unusedVariables false
set_option linter.unusedSimpArgs false
section
namespace Go.Px
set_option maxRecDepth 100000
def Jx (xs:List Int):Rows:=xs.map fun x=>[.int x]
theorem zf (xs:List Int):(Jx xs).length=xs.length:=List.length_map _
theorem ADK (xs:List Int) (i:Nat):AB (Jx xs) i=(match xs[i]? with|some x=>[.int x]|none=>[]):=by
 unfold AB Jx
 grind
theorem ADZ (xs:List Int) (i:Nat):atI (Jx xs) i 0=xs.getD i 0:=by
 unfold atI AD;rw[ADK,zzk];cases xs[i]?<;>rfl
structure SumSt (D:Rows) (n i:Nat) (s:List Int×List Int×Int):Prop where
 l1:s.1.length=n
 l2:s.2.1.length=n
 r:∀k,k<n→s.1.getD k 0=wr (rS D k i)
 b:∀k,k<n→s.2.1.getD k 0=wr (bS D k i)
 h:s.2.2=wr (hS D i)
structure Sco where
 side:Int
 runs:Int
 wickets:Int
 balls:Int
 wides:Int
 noballs:Int
 byes:Int
 legbyes:Int
 pens:Int
 ending:Int
theorem Dh {n:Int} (h1 : -1000000000000≤n) (h2:n≤1000000000000):IntKind.i64.wrap n=n:=A6 (by omega) (by omega)
theorem sZ {d:Del} (h:(Dt d==0)=true):(0≤d.runs∧d.runs≤7)∧(0≤d.short∧d.short≤d.runs)∧(d.boundary=0∨d.boundary=4∨d.boundary=6):=by
 unfold Dt at h;cases h1:(iLt d.type 1||iLt 3 d.type||iLt 3 d.source||iLt 10 d.how || !btw d.sector 0 8)
 ·cases h2:(!btw d.runs 0 7 || !btw d.short 0 d.runs||(!(d.boundary==0) && !(d.boundary==4) && !(d.boundary==6)))
  ·simp only[btw,iLe,Bool.or_eq_false_iff,Bool.not_eq_false',zzj,Bool.and_eq_false_iff,decide_eq_true_eq,beq_iff_eq]at h2;omega
  simp_all
 simp_all
structure CreOk (c:Cre):Prop where
 ba:0≤c.batter∧c.batter≤13
 wi:0≤c.wides∧c.wides≤18
 no:0≤c.noballs∧c.noballs≤5
 bb:0≤c.byes∧c.byes≤13
 lb:0≤c.legbyes∧c.legbyes≤13
 bo:c.bowler=c.batter+c.wides+c.noballs
 tot:Da c=c.batter+c.wides+c.noballs+c.byes+c.legbyes
theorem wW {b w o y l bo:Int} {x1 x2 x3 x4:Bool} (hb:0≤b∧b≤13) (hw:0≤w∧w≤18) (ho:0≤o∧o≤5) (hy:0≤y∧y≤13) (hl:0≤l∧l≤13) (hbo:bo=IntKind.i64.wrap (IntKind.i64.wrap (b+w)+o)):CreOk ⟨b,w,o,y,l,bo,x1,x2,x3,x4⟩:=by
 refine⟨hb,hw,ho,hy,hl,?_,?_⟩
 ·show bo=b+w+o;rw[hbo,Dh (n:=b+w) (by omega) (by omega),Dh (by omega) (by omega)]
 show IntKind.i64.wrap (IntKind.i64.wrap (IntKind.i64.wrap (IntKind.i64.wrap (b+w)+o)+y)+l)=b+w+o+y+l;rw[Dh (n:=b+w) (by omega) (by omega),Dh (n:=b+w+o) (by omega) (by omega),Dh (n:=b+w+o+y) (by omega) (by omega),Dh (by omega) (by omega)]
def jQ:Cre:=⟨0,0,0,0,0,0,false,false,false,false⟩
theorem ph:CreOk jQ:=wW (by decide) (by decide) (by decide) (by decide) (by decide) rfl
theorem gy {r:Rul} (h:RulOk r) (d:Del):CreOk (AF r d):=by
 unfold AF;cases hl:Dt d==0
 ·exact ph
 obtain⟨⟨a1,a2⟩,⟨a3,a4⟩,a5⟩:=sZ hl;have hw:=h.wide;have hn:=h.noball;have e1:IntKind.i64.wrap (IntKind.i64.wrap (d.runs-d.short)+d.boundary)=d.runs-d.short+d.boundary:=by
  rw[Dh (n:=d.runs-d.short) (by omega) (by omega),Dh (by omega) (by omega)]
 have n0:0≤d.runs-d.short+d.boundary∧d.runs-d.short+d.boundary≤13:=by omega
 simp only[Bool.not_true,cond_false,J7,e1];generalize d.runs-d.short+d.boundary=n at n0;have e2:IntKind.i64.wrap (r.wide+n)=r.wide+n:=Dh (by omega) (by omega);have c13:∀b:Bool,0≤cond b n 0∧cond b n 0≤13:=fun b=>by grind
 refine wW (c13 _) ?_ ?_ (c13 _) (c13 _) rfl
 ·grind
 grind
def DV (r:Rul) (e:Ev):Cre:=cond (e.kind==4) (AF r e.ball) jQ
theorem ABG {r:Rul} (h:RulOk r) (e:Ev):CreOk (DV r e):=by
 unfold DV;cases e.kind==4
 ·exact ph
 exact gy h _
theorem ABt (e:Ev):0≤NR e∧NR e≤1:=by
 unfold NR C8
 grind
def Bl (q:Int) (s:Inn):Sco:=⟨s.side,s.runs,s.wickets,DH q s.complete s.inover,s.wides,s.noballs,s.byes,s.legbyes,s.pens,0⟩
def YT (r:Rul) (e:Ev) (x:Sco):Sco:=⟨x.side,x.runs+Da (DV r e),x.wickets+NR e,x.balls+cond (DV r e).counts 1 0,x.wides+(DV r e).wides,x.noballs+(DV r e).noballs,x.byes+(DV r e).byes,x.legbyes+(DV r e).legbyes,x.pens,x.ending⟩
def MC (n:Int) (x:Sco):Sco:=⟨x.side,x.runs+n,x.wickets,x.balls,x.wides,x.noballs,x.byes,x.legbyes,x.pens+n,x.ending⟩
theorem Ek (x:Sco):MC 0 x=x:=by
 obtain⟨x0,x1,x2,x3,x4,x5,x6,x7,x8,x9⟩:=x;simp only[MC,Int.add_zero]
theorem py {r:Rul} {e:Ev} (x:Sco) (hk:(e.kind==4)=false):YT r e x={ x with wickets:=x.wickets+C8 e }:=by
 have c0:DV r e=jQ:=by unfold DV;grind
 have o0:NR e=C8 e:=by unfold NR;grind
 have t0:Da jQ=0:=rfl;unfold YT;rw[c0,o0,t0];simp only[jQ,cond_false,Int.add_zero]
theorem VG {r:Rul} {e:Ev} (x:Sco) (hk:(e.kind==4)=false) (ho:C8 e=0):YT r e x=x:=by
 rw[py x hk,ho,Int.add_zero]
theorem ACX {r:Rul} {s:Inn} (ok:InnOk r s):0≤s.wickets∧s.wickets≤11:=by
 have h:=ok.bat;unfold gf at h;simp only[zzj]at h;have h1:=beq_iff_eq.1 h.2.2;have h2:=pE (pIs s.batters 2) s.batters.length;have h3:=(Dw ok.code).side;have h4:=ok.lb;unfold bq at h1;omega
theorem ACu {c q:Int} (hc:0≤c∧c≤1000000000) (hq:0≤q∧q≤8):0≤c*q∧c*q≤8000000000:=by
 refine⟨Int.mul_nonneg hc.1 hq.1,?_⟩;have h1:=Int.mul_le_mul_of_nonneg_right hc.2 hq.1;omega
theorem fL {r:Rul} {s:Inn} (ok:InnOk r s):DH r.balls s.complete s.inover=s.complete*r.balls+s.inover∧0≤DH r.balls s.complete s.inover∧DH r.balls s.complete s.inover≤9000000000:=by
 have h1:=(Dw ok.code).balls;have h2:=ok.io;have h3:=ACu ok.complete (show 0≤r.balls∧r.balls≤8 by omega);rw[Tk];have:wr (s.complete*r.balls+s.inover)=s.complete*r.balls+s.inover:=Dh (by omega) (by omega);omega
theorem ADA {x a d:Int} (h:wr (x-a)=d) (hx:wr x=x) (ha:0≤a∧a≤9000000000) (hd:0≤d∧d≤1000):x=a+d:=by
 simp only[wr,Jm]at h hx;omega
theorem AAp (q:Int) (r:Rul) (t:Inn) (b:Bool):Bl q (CH r t b)=Bl q t:=rfl
theorem yX {r:Rul} {s:Inn} {e:Ev} (hk:(e.kind==4)=true) (h:((Az r s e).2==0)=true):Bl r.balls (Az r s e).1=YT r e (Bl r.balls s):=by
 obtain⟨g1,g2,g3,g4,g5,g6,g7,g8,g9,g10⟩:=yL hk h;obtain⟨hv,he,hn,hw,hp,hs⟩:=Pq h;have ok:=K7.1 hv;have rk:=Dw ok.code;have co:=gy rk e.ball;have k4:=beq_iff_eq.1 hk;have hpb:Bs r s e=NE r s e.ball:=by unfold Bs;grind
 rw[hpb]at hp hs;obtain⟨hr,hb⟩:=cU hp;obtain⟨q1,q2,q3,q4,q5,q6⟩:=Nw hr;have ce:DV r e=AF r e.ball:=by unfold DV;grind
 have od:NR e=cond (e.ball.how==0) 0 1:=by unfold NR;grind
 have hx:=fL ok;have r0:=ok.runs;have w0:=ok.wides;have n0:=ok.noballs;have b0:=ok.byes;have l0:=ok.legbyes;have wk:=ACX ok;unfold B2 at r0 w0 n0 b0 l0;have f0:=co.ba;have f1:=co.wi;have f2:=co.no;have f3:=co.bb;have f4:=co.lb;have f5:=co.tot;rw[hs,hb]at g1 g7 g8⊢;have e1:(CH r (IG r s e.ball) (e.kind==4)).runs=IntKind.i64.wrap (s.runs+Da (AF r e.ball)):=rfl;have e2:(CH r (IG r s e.ball) (e.kind==4)).wides=IntKind.i64.wrap (s.wides+(AF r e.ball).wides):=rfl;have e3:(CH r (IG r s e.ball) (e.kind==4)).noballs=IntKind.i64.wrap (s.noballs+(AF r e.ball).noballs):=rfl;have e4:(CH r (IG r s e.ball) (e.kind==4)).byes=IntKind.i64.wrap (s.byes+(AF r e.ball).byes):=rfl;have e5:(CH r (IG r s e.ball) (e.kind==4)).legbyes=IntKind.i64.wrap (s.legbyes+(AF r e.ball).legbyes):=rfl;have e6:(CH r (IG r s e.ball) (e.kind==4)).side=s.side∧(CH r (IG r s e.ball) (e.kind==4)).pens=s.pens∧(CH r (IG r s e.ball) (e.kind==4)).wickets=(Au s e.ball).wickets:=by
  obtain⟨w1,w2⟩:=uj r (Au s e.ball) (AF r e.ball).counts;obtain⟨k1,k2,k3,k4,k5,k6,k7,k8,k9,k10⟩:=eD s e.ball;have w3:(A5 r (Au s e.ball) (AF r e.ball).counts).1.side=s.side:=by
   have s1:(Au s e.ball).side=s.side:=by
    unfold Au
    grind
   unfold A5
   grind
  refine⟨?_,?_,?_⟩
  ·show(cond (A5 r (Au s e.ball) (AF r e.ball).counts).2 (L8 (A5 r (Au s e.ball) (AF r e.ball).counts).1) (A5 r (Au s e.ball) (AF r e.ball).counts).1).side=_;rw[←w3];cases(A5 r (Au s e.ball) (AF r e.ball).counts).2<;>rfl
  ·simp_all
  show(cond (A5 r (Au s e.ball) (AF r e.ball).counts).2 (L8 (A5 r (Au s e.ball) (AF r e.ball).counts).1) (A5 r (Au s e.ball) (AF r e.ball).counts).1).wickets=_;rw[←w1];cases(A5 r (Au s e.ball) (AF r e.ball).counts).2<;>rfl
 obtain⟨z1,z2⟩:=fV q1 (fo hw (by grind));have hout:=tS (d:=e.ball) z1 z2 (fun hd=>dh q5 hd);have wv:IntKind.i64.wrap (DH r.balls (CH r (IG r s e.ball) (e.kind==4)).complete (CH r (IG r s e.ball) (e.kind==4)).inover)=DH r.balls (CH r (IG r s e.ball) (e.kind==4)).complete (CH r (IG r s e.ball) (e.kind==4)).inover:=Iq _;have hb7:=ADA g7 wv (by omega) (by grind);unfold Bl YT;rw[e1,e2,e3,e4,e5,e6.1,e6.2.1,e6.2.2,hb7,ce,od,hout];have i1:IntKind.i64.wrap (s.runs+Da (AF r e.ball))=s.runs+Da (AF r e.ball):=Dh (by omega) (by omega);have i2:IntKind.i64.wrap (s.wides+(AF r e.ball).wides)=s.wides+(AF r e.ball).wides:=Dh (by omega) (by omega);have i3:IntKind.i64.wrap (s.noballs+(AF r e.ball).noballs)=s.noballs+(AF r e.ball).noballs:=Dh (by omega) (by omega);have i4:IntKind.i64.wrap (s.byes+(AF r e.ball).byes)=s.byes+(AF r e.ball).byes:=Dh (by omega) (by omega);have i5:IntKind.i64.wrap (s.legbyes+(AF r e.ball).legbyes)=s.legbyes+(AF r e.ball).legbyes:=Dh (by omega) (by omega);have i6:inc s.wickets=s.wickets+1:=Dh (by omega) (by omega)
 grind
def Kz (q:Int) (s:Inn) (x:Inn×Int):Prop:=(x.2==0)=true→Bl q x.1=Bl q s
theorem Eo {q:Int} {s:Inn} (b:Bool) (x y:Inn×Int) (hx:Kz q s x) (hy:Kz q s y):Kz q s (cond b x y):=by grind
theorem rx {r:Rul} {s:Inn} {e:Ev} (h:((Az r s e).2==0)=true):Bl r.balls (Az r s e).1=MC (cond (e.kind==13&&e.side==s.side) 5 0) (YT r e (Bl r.balls s)):=by
 cases hk:e.kind==4
 ·obtain⟨hv,he,hn,hw,hp,hs⟩:=Pq h;have ok:=K7.1 hv;have wk:=ACX ok;have iw:IntKind.i64.wrap (s.wickets+1)=s.wickets+1:=Dh (by omega) (by omega);rw[hs,AAp,py _ hk];have z:∀{x:Inn×Int},Kz r.balls s x→(x.2==0)=true→C8 e=0→Bl r.balls x.1=MC (cond (false&&e.side==s.side) 5 0) { Bl r.balls s with wickets:=(Bl r.balls s).wickets+C8 e }:=fun k hx h0=>by
   rw[k hx,h0,Int.add_zero];exact(Ek _).symm
  have kn:∀{t:Inn} {n:Int},(n==0)=false→Kz r.balls s (t,n):=fun hn hx=>by simp_all
  have ks:∀{n:Int},Kz r.balls s (s,n):=fun _=>rfl
  revert hp
  unfold Bs;rw[hk];cases h5:e.kind==5
  ·cases h6:e.kind==6
   ·have ho:C8 e=0:=by unfold C8;grind
    cases h13:e.kind==13
    ·simp only[cond_false];intro hp;refine z ?_ hp ho;refine Eo _ _ _ ?_ (Eo _ _ _ ?_ (Eo _ _ _ ?_ (Eo _ _ _ ?_ (Eo _ _ _ ?_ (Eo _ _ _ ?_ (Eo _ _ _ ?_ (Eo _ _ _ ?_ ?_)))))))
     ·unfold LZ;exact Eo _ _ _ ks (Eo _ _ _ ks (Eo _ _ _ ks (fun _=>rfl)))
     ·unfold Uu;cases P2 r s e.player==0
      ·exact ks
      exact fun _=>rfl
     ·unfold K2;exact Eo _ _ _ ks (fun _=>rfl)
     ·unfold Nk;exact Eo _ _ _ ks (Eo _ _ _ ks (Eo _ _ _ ks (fun _=>rfl)))
     ·unfold RE;exact Eo _ _ _ ks (Eo _ _ _ ks (fun _=>rfl))
     ·unfold Ko;exact Eo _ _ _ ks (fun _=>rfl)
     ·unfold KX;exact Eo _ _ _ ks (Eo _ _ _ ks (fun _=>rfl))
     ·unfold Ly;exact Eo _ _ _ ks (Eo _ _ _ (fun _=>rfl) ks)
     unfold Ng;exact Eo _ _ _ ks (Eo _ _ _ ks (Eo _ _ _ ks (fun _=>rfl)))
    have k13:=beq_iff_eq.1 h13;rw[k13,ho];intro hp;change((Ha s e.side e.runs).2==0)=true at hp;show Bl r.balls (Ha s e.side e.runs).1=_;have rn:=ok.runs;have pn:=ok.pens;unfold B2 at rn pn;have i1:IntKind.i64.wrap (s.runs+5)=s.runs+5:=Dh (by omega) (by omega);have i2:IntKind.i64.wrap (s.pens+5)=s.pens+5:=Dh (by omega) (by omega);unfold Ha at hp⊢;cases hr5:e.runs==5
    ·simp_all
    cases hsd:e.side==s.side
    ·simp only[Bool.not_true,cond_false,Bool.and_false,Int.add_zero];exact(Ek _).symm
    simp only[Bool.not_true,cond_false,cond_true];unfold Bl MC MI
    simp_all
   have h6':=beq_iff_eq.1 h6;have ho:C8 e=cond e.yes 0 1:=by unfold C8;simp_all
   rw[ho,h6'];intro hp;change((Fr s e.player e.yes).2==0)=true at hp;show Bl r.balls (Fr s e.player e.yes).1=_;unfold Fr at hp⊢;cases hm1:(!inR e.player s.batters.length)
   ·cases hm2:(s.striker==0||s.other==0)
    ·cases hm3:(!(e.player==s.striker) && !(e.player==s.other))
     ·cases hm4:(e.yes&&((Fd s.batters s.batters.length).length:Int)==0)
      ·simp only[cond_false];cases e.yes
       ·unfold Bl MC;simp_all
       unfold Bl MC;simp_all
      simp_all
     simp_all
    simp_all
   simp_all
  have h5':=beq_iff_eq.1 h5;have ho:C8 e=cond e.yes 1 0:=by unfold C8;simp_all
  rw[ho,h5'];cases e.yes
  ·intro hp;refine Eq.trans (b:=Bl r.balls s) ?_ ?_
   ·exact(show Kz r.balls s (Kf s e.player) by unfold Kf;exact Eo _ _ _ (fun _=>rfl) (fun _=>rfl)) hp
   simp only[cond_false,Int.add_zero];exact(Ek _).symm
  intro hp;change((E7 s e.player).2==0)=true at hp;show Bl r.balls (E7 s e.player).1=_;unfold E7 at hp⊢;cases hm:MK s e.player==0
  ·simp_all
  simp only[cond_true];unfold Bl MC
  simp_all
 rw[yX hk h,beq_iff_eq.1 hk];exact(Ek _).symm
def sco (xs:List Sco) (i:Nat):Sco:=xs.getD i ⟨0,0,0,0,0,0,0,0,0,0⟩
theorem Tl (xs:List Sco) (i:Nat):sco xs i=(match xs[i]? with|some s=>s|none=>⟨0,0,0,0,0,0,0,0,0,0⟩):=by
 unfold sco
 grind
theorem uk (xs:List Sco) (k:Nat) (s:Sco) (i:Nat) (hi:i<xs.length):sco (xs.set k s) i=(if k=i then s else sco xs i):=by
 rw[Tl,Tl,List.getElem?_set]
 grind
theorem AAz (xs:List Sco) (s:Sco) (i:Nat) (hi:i<xs.length+1):sco (xs++[s]) i=(if i<xs.length then sco xs i else s):=by
 rw[Tl,Tl]
 grind
structure TS where
 xs:List Sco
 p1:Int
 p2:Int
 first:Int
 follow:Bool
def Fi (m:Mat):TS:=⟨m.inns.map (Bl m.rules.balls),m.pen1,m.pen2,m.first,m.follow⟩
theorem QD (q:Int) (xs:List Inn) {i:Nat} (h:i<xs.length):sco (xs.map (Bl q)) i=Bl q (inn xs i):=by
 rw[Tl,Ol,List.getElem?_map,zzn h];rfl
theorem yt (q:Int) (xs:List Inn) (i:Nat):(sco (xs.map (Bl q)) i).side=(inn xs i).side:=by
 rw[Tl,Ol,List.getElem?_map];cases xs[i]?<;>rfl
def L0 (first:Int) (follow:Bool) (i:Int):Int:=cond (cond (follow&&iLe 2 i) (i==2) (i.tmod 2==1)) (Bo first) first
theorem uw (m:Mat) (i:Int):Df m i=L0 m.first m.follow i:=rfl
def rc (sd p:Int):Sco:=⟨sd,p,0,0,0,0,0,0,p,0⟩
def Cc (sd:Nat→Int) (s:Int):Nat→Option Nat
 |0=>none
 |k+1=>cond (sd k==s) (some k) (Cc sd s k)
theorem YC {f g:Nat→Int} {s:Int}:∀n,(∀k,k<n→f k=g k)→Cc f s n=Cc g s n
 |0,_=>rfl
 |n+1,h=>by
  unfold Cc;rw[h n (Nat.lt_succ_self n),YC n (fun k hk=>h k (by omega))]
theorem Ke {f:Nat→Int} {s:Int} {j:Nat}:∀n,Cc f s n=some j→j<n∧f j=s
 |0,h=>by cases h
 |n+1,h=>by
  unfold Cc at h;cases hq:f n==s
  ·rw[hq]at h;obtain⟨h1,h2⟩:=Ke n h;omega
  simp_all
theorem br {f:Nat→Int} {s:Int}:∀n,Cc f s n=none→∀j,j<n→¬f j=s
 |0,_,j,hj=>absurd hj (Nat.not_lt_zero j)
 |n+1,h,j,hj=>by
  unfold Cc at h;cases hq:f n==s
  ·rw[hq]at h
   by_cases e:j=n
   ·simp_all
   exact br n h j (by omega)
  simp_all
theorem th (xs:List Inn) (sd:Int):∀n,PE xs sd n=Cc (fun k=>(inn xs k).side) sd n
 |0=>rfl
 |n+1=>by
  unfold PE Cc;rw[th xs sd n]
def oB (T:TS):TS :=
 let sd:=L0 T.first T.follow (T.xs.length:Int)
 { T with xs:=T.xs++[rc sd (cond (sd==2) T.p2 T.p1)],p1:=cond (sd==1) 0 T.p1,p2:=cond (sd==2) 0 T.p2 }
def Yd (s:Int) (T:TS):TS:=match Cc (fun k=>(sco T.xs k).side) s T.xs.length with
 |some k=>{ T with xs:=T.xs.set k (MC 5 (sco T.xs k)) }
 |none=>{ T with p1:=cond (s==1) (T.p1+5) T.p1,p2:=cond (s==2) (T.p2+5) T.p2 }
def oI (r:Rul) (e:Ev) (T:TS):TS:={ T with xs:=T.xs.set (T.xs.length-1) (YT r e (sco T.xs (T.xs.length-1))) }
def Tq (e:Ev):Int:=cond e.yes e.side (Bo e.side)
def Vf (r:Rul) (e:Ev) (T:TS):TS :=
 cond (e.kind==1) { T with first:=Tq e } (cond (e.kind==2) (oB T) (cond (e.kind==12) { T with follow:=e.yes } (cond (e.kind==16) T (cond (e.kind==13) (Yd e.side T) (oI r e T)))))
theorem aL (x:Mat):Fi (Cg x)=Fi x∧(Cg x).inns=x.inns∧((Cg x).stage=x.stage∨(x.stage=3∧((Cg x).stage=5∨((Cg x).stage=4∧x.inns.length=2)∨(Cg x).stage=2))):=by
 unfold Cg;cases h3:(x.stage==3 && !((AO x).ending==0))
 ·simp_all
 rw[zzj]at h3;have s3:=beq_iff_eq.1 h3.1;simp only[cond_true];unfold TE
 dsimp only
 cases((x.inns.length:Int)==IntKind.i64.wrap (2*x.rules.innings)||((x.inns.length:Int)==3&&iLt (DZ x (AO x).side) (DZ x (Bo (AO x).side))))
 ·cases h4:((x.inns.length:Int)==2&&iLt 0 x.rules.followon&&iLe x.rules.followon (IntKind.i64.wrap (DZ x x.first-DZ x (Bo x.first))))
  ·exact⟨rfl,rfl,Or.inr ⟨s3,Or.inr (Or.inr rfl)⟩⟩
  simp only[zzj,beq_iff_eq]at h4;exact⟨rfl,rfl,Or.inr ⟨s3,Or.inr (Or.inl ⟨rfl,by omega⟩)⟩⟩
 exact⟨rfl,rfl,Or.inr ⟨s3,Or.inl rfl⟩⟩
theorem gk {m:Mat} (h:IX m=true):(0≤m.pen1∧m.pen1≤1000000)∧(0≤m.pen2∧m.pen2≤1000000)∧((m.stage==1)=true→m.first=0)∧((m.stage==4)=true→m.inns.length=2)∧0≤m.first∧m.first≤2:=by
 unfold IX oK at h;simp only[zzj,Bool.not_eq_true']at h;obtain⟨⟨h1,h2,h3,h4,h5,h6,h7,h8,h9,h10⟩,h11,h12⟩:=h;unfold gR at h4;simp only[Bool.or_eq_false_iff,iLt,decide_eq_false_iff_not]at h4;simp only[Bool.or_eq_false_iff,iLt,decide_eq_false_iff_not]at h5
 grind
theorem wh {r:Rul} {a b c:Int} (h:((Ct r a b c).2==0)=true):Bl r.balls (Ct r a b c).1=rc a c∧(a=1∨a=2):=by
 unfold Ct at h⊢;cases h1:BA r==0
 ·simp_all
 cases h2:(!btw a 1 2 || !btw b 0 1000000 || !btw c 0 1000000)
 ·rw[Bool.or_eq_false_iff,Bool.or_eq_false_iff,Bool.not_eq_false']at h2;have:=XI.1 h2.1.1;refine⟨?_,by omega⟩;show Sco.mk a c 0 (DH r.balls 0 0) 0 0 0 0 c 0=_;rw[Tk,Int.zero_mul];rfl
 simp_all
theorem MR (q:Int) (xs:List Inn) (k:Nat) (t:Inn):(xs.set k t).map (Bl q)=(xs.map (Bl q)).set k (Bl q t):=List.map_set
theorem pO (xs:List Sco) (k:Nat) (h:k<xs.length):xs.set k (sco xs k)=xs:=by
 apply List.ext_getElem?;intro i;rw[List.getElem?_set]
 by_cases e:k=i
 ·subst e;rw[if_pos rfl,if_pos h,Tl,zzn h]
 simp_all
theorem AAd {r:Rul} {s:Inn} (hv:LD r s=true) (q:Int):Bl q (MI s)=MC 5 (Bl q s):=by
 have ok:=K7.1 hv;have rn:=ok.runs;have pn:=ok.pens;unfold B2 at rn pn;have i1:IntKind.i64.wrap (s.runs+5)=s.runs+5:=Dh (by omega) (by omega);have i2:IntKind.i64.wrap (s.pens+5)=s.pens+5:=Dh (by omega) (by omega);unfold Bl MC MI
 simp_all
structure Stg (m:Mat) (e:Ev) (t:Mat):Prop where
 k1:(e.kind==1)=true→m.stage=1∧t.stage=2
 k2:(e.kind==2)=true→m.stage=2∧m.inns.length≤3
 k12:(e.kind==12)=true→m.stage=4∧m.inns.length=2∧t.stage=2
 k16:(e.kind==16)=true→t.stage=5
 play:(e.kind==1)=false→(e.kind==2)=false→(e.kind==12)=false→(e.kind==16)=false→m.stage=3∧1≤m.inns.length
 not1:¬t.stage=1
 four:t.stage=4→t.inns.length=2
set_option maxHeartbeats 4000000 in
theorem qC {m:Mat} {e:Ev} (h:((Cp m e).2==0)=true):Fi (Cp m e).1=Vf m.rules e (Fi m)∧Stg m e (Cp m e).1:=by
 obtain⟨hv,he,h5,hp,hs⟩:=QT h;have ok:=aE hv;obtain⟨v1,v2,v3,v4,v5,v6⟩:=gk hv;obtain⟨c1,c2,c3⟩:=aL (GP m e).1;rw[hs,c1];have len4:=ok.len;unfold Vf;unfold GP at hp c2 c3⊢;cases k1:e.kind==1
 ·rw[k1]at hp c2 c3;cases k2:e.kind==2
  ·rw[k2]at hp c2 c3;cases k12:e.kind==12
   ·rw[k12]at hp c2 c3;cases k16:e.kind==16
    ·rw[k16]at hp c2 c3;simp only[cond_false]at hp c2 c3⊢;cases s3:m.stage==3
     ·simp_all
     rw[s3]at hp c2 c3;simp only[Bool.not_true,cond_false]at hp c2 c3⊢;have h0:=ok.begun s3;have hl:=bW h0 (by omega);have hlen:m.inns.length-1=lnx m.inns:=by
      rw[beq_eq_false_iff_ne]at h0;unfold lnx;rw[A6 (by omega) (by omega)];omega
     have stg:(Cg (EO m e).1).inns.length=m.inns.length→((Cg (EO m e).1).stage=3∨((Cg (EO m e).1).stage=5∨((Cg (EO m e).1).stage=4∧m.inns.length=2)∨(Cg (EO m e).1).stage=2))→Stg m e (Cg (EO m e).1):=fun hn hq =>
      ⟨fun k=>(by simp_all),fun k=>(by simp_all),fun k=>(by simp_all),fun k=>(by simp_all),fun _ _ _ _=>⟨beq_iff_eq.1 s3,by omega⟩,by
       omega,by
       omega⟩
     have xl:(m.inns.map (Bl m.rules.balls)).length=m.inns.length:=List.length_map _;cases hq:(Az m.rules (AO m) e).2==0
     ·unfold EO at hp;simp_all
     have n1:=rx hq;have sd1:(Az m.rules (AO m) e).1.side=(AO m).side:=congrArg Sco.side n1;have s3':=beq_iff_eq.1 s3;cases k13:e.kind==13
     ·rw[k13]at n1;have n2:=n1.trans (Ek _);have pm:EO m e=({ m with inns:=m.inns.set (lnx m.inns) (Az m.rules (AO m) e).1 },0):=by
       unfold EO
       grind
      rw[pm]at c2 c3 stg⊢;refine⟨?_,stg (by grind) ?_⟩
      ·unfold Fi oI;simp only[cond_false,MR,n2,xl,hlen,QD _ _ hl];rfl
      grind
     have e13:=beq_iff_eq.1 k13;have o0:C8 e=0:=by unfold C8;grind
     rw[VG _ (by grind) o0,k13,Bool.true_and]at n1;have bk:Cc (fun k=>(sco (m.inns.map (Bl m.rules.balls)) k).side) e.side m.inns.length=cond (e.side==(AO m).side) (some (lnx m.inns)) (Cc (fun k=>(inn m.inns k).side) e.side (lnx m.inns)):=by
      have:m.inns.length=lnx m.inns+1:=by omega
      rw[this];show cond ((sco (m.inns.map (Bl m.rules.balls)) (lnx m.inns)).side==e.side) _ (Cc (fun k=>(sco (m.inns.map (Bl m.rules.balls)) k).side) e.side (lnx m.inns))=_;simp only[yt];have sy:((inn m.inns (lnx m.inns)).side==e.side)=(e.side==(AO m).side):=by
       show((AO m).side==e.side)=_
       grind
      rw[sy]
     cases hsd:e.side==(AO m).side
     ·rw[hsd]at n1 bk;simp only[cond_false]at n1 bk;have n2:=n1.trans (Ek _);have pm:EO m e=(Jg { m with inns:=m.inns.set (lnx m.inns) (Az m.rules (AO m) e).1 } e.side,0):=by
       unfold EO
       grind
      have ab:PE (m.inns.set (lnx m.inns) (Az m.rules (AO m) e).1) e.side (m.inns.set (lnx m.inns) (Az m.rules (AO m) e).1).length=Cc (fun k=>(inn m.inns k).side) e.side (lnx m.inns):=by
       rw[th,List.length_set,show m.inns.length=lnx m.inns+1 by omega];show cond ((inn (m.inns.set (lnx m.inns) (Az m.rules (AO m) e).1) (lnx m.inns)).side==e.side) (some (lnx m.inns)) (Cc (fun k=>(inn (m.inns.set (lnx m.inns) (Az m.rules (AO m) e).1) k).side) e.side (lnx m.inns))=Cc (fun k=>(inn m.inns k).side) e.side (lnx m.inns);rw[S4 _ _ _ _ hl,if_pos rfl,sd1];have sy:((AO m).side==e.side)=false:=by
        grind
       rw[sy];exact YC _ (fun k hk=>by rw[S4 _ _ _ _ (by omega),if_neg (by omega)])
      have mx:(m.inns.set (lnx m.inns) (Az m.rules (AO m) e).1).map (Bl m.rules.balls)=m.inns.map (Bl m.rules.balls):=by
       rw[MR,n2,show Bl m.rules.balls (AO m)=sco (m.inns.map (Bl m.rules.balls)) (lnx m.inns)from(QD _ _ hl).symm];exact pO _ _ (by omega)
      obtain⟨a1,a2,a3,a4⟩:=o7 (m:={ m with inns:=m.inns.set (lnx m.inns) (Az m.rules (AO m) e).1 }) e.side (UH (lnx m.inns) (mH ok) (by
       have lv:=Sq (ok.innv (lnx m.inns) hl).1;have l1:=lv.1;have l2:=lv.2.1;exact TN (Vo m.rules (AO m) e) lv.2.2 (show(inn m.inns (lnx m.inns)).before.length+(inn m.inns (lnx m.inns)).bowlers.length≤1048575 by omega)))
      have a3':(Jg { m with inns:=m.inns.set (lnx m.inns) (Az m.rules (AO m) e).1 } e.side).inns.length=m.inns.length:=a3.trans List.length_set;rw[pm]at c2 c3 stg⊢;refine⟨?_,stg (by grind) ?_⟩
      ·simp only[cond_true];unfold Jg;simp only[ab];unfold Yd;show Fi _=match Cc (fun k=>(sco (m.inns.map (Bl m.rules.balls)) k).side) e.side (m.inns.map (Bl m.rules.balls)).length with
        |some k=>_
        |none=>_
       rw[xl,bk];cases hk:Cc (fun k=>(inn m.inns k).side) e.side (lnx m.inns)with
       |none =>
        have i1:IntKind.i64.wrap (m.pen1+5)=m.pen1+5:=Dh (by omega) (by omega);have i2:IntKind.i64.wrap (m.pen2+5)=m.pen2+5:=Dh (by omega) (by omega);unfold Fi
        grind
       |some k =>
        have hk2:=(Ke _ hk).1;have hki:inn (m.inns.set (lnx m.inns) (Az m.rules (AO m) e).1) k=inn m.inns k:=by rw[S4 _ _ _ _ (by omega),if_neg (by omega)]
        unfold Fi;simp only[hki,MR (k:=k),mx,AAd (ok.innv k (by omega)).1,QD _ _ (show k<m.inns.length by omega)]
      grind
     rw[hsd]at n1 bk;simp only[cond_true]at n1 bk;have pm:EO m e=({ m with inns:=m.inns.set (lnx m.inns) (Az m.rules (AO m) e).1 },0):=by
      unfold EO
      simp_all
     rw[pm]at c2 c3 stg⊢;refine⟨?_,stg (by simp_all) ?_⟩
     ·unfold Fi Yd;simp only[cond_true,MR,n1,xl,bk,QD _ _ hl];rfl
     simp_all
    rw[k16]at hp c2 c3;simp only[cond_false,cond_true]at c2 c3⊢;have st:(Cg (Yh m)).stage=5:=by
     rfl
    refine⟨?_,⟨fun k=>(by simp_all),fun k=>(by simp_all),fun k=>(by simp_all),fun _=>st,fun _ _ _ k=>(by simp_all),by omega,(by omega)⟩⟩;unfold Fi Yh;simp only;cases s3:m.stage==3
    ·rfl
    have hl:=bW (ok.begun s3) (by omega);simp only[cond_true,MR];rw[show Bl m.rules.balls { AO m with ending:=5 }=sco (m.inns.map (Bl m.rules.balls)) (lnx m.inns)from(QD _ _ hl).symm,pO _ _ (by simp_all)]
   have e12:=beq_iff_eq.1 k12;rw[k12]at hp c2 c3;cases s4:m.stage==4
   ·simp_all
   rw[s4]at hp c2 c3;cases sf:e.side==m.first
   ·simp_all
   rw[sf]at c2 c3;simp only[Bool.not_true,cond_false,cond_true]at c2 c3⊢;refine⟨rfl,?_⟩;have st:(Cg { m with follow:=e.yes,stage:=2 }).stage=2:=by
    rfl
   exact⟨fun k=>(by simp_all),fun k=>(by simp_all),fun _=>⟨beq_iff_eq.1 s4,v4 s4,st⟩,fun k=>(by simp_all),fun _ _ k=>(by simp_all),by omega,(by omega)⟩
  have e2:=beq_iff_eq.1 k2;rw[k2]at hp c2 c3;cases s2:m.stage==2
  ·simp_all
  rw[s2]at hp c2 c3;simp only[Bool.not_true,cond_false,cond_true]at hp c2 c3⊢;have room:=ok.room s2;have inn2:=(Dw ok.code).innings;unfold VY at hp c2 c3⊢;cases hb:(Ct m.rules (Df m (m.inns.length:Int)) (Gu m (Df m (m.inns.length:Int))) (cond (Df m (m.inns.length:Int)==2) m.pen2 m.pen1)).2==0
  ·simp_all
  simp only[hb,Bool.not_true,cond_false]at hp c2 c3⊢;cases ht:(Az m.rules (Ct m.rules (Df m (m.inns.length:Int)) (Gu m (Df m (m.inns.length:Int))) (cond (Df m (m.inns.length:Int)==2) m.pen2 m.pen1)).1 e).2==0
  ·simp_all
  simp only[ht,Bool.not_true,cond_false]at c2 c3⊢;have n1:=rx ht;have o0:C8 e=0:=by unfold C8;grind
  rw[VG _ (by grind) o0,e2]at n1;have n2:=n1.trans (Ek _);rw[(wh hb).1]at n2;refine⟨?_,?_⟩
  ·unfold Fi oB;rw[←uw]at *
   simp_all
  refine⟨fun k=>(by simp_all),fun _=>⟨beq_iff_eq.1 s2,by omega⟩,fun k=>(by simp_all),fun k=>(by simp_all),fun _ k=>(by simp_all),?_,?_⟩
  ·omega
  grind
 have e1:=beq_iff_eq.1 k1;rw[k1]at hp c2 c3;cases s1:m.stage==1
 ·simp_all
 rw[s1]at c2 c3;simp only[Bool.not_true,cond_false,cond_true]at c2 c3⊢;refine⟨rfl,?_⟩;have st:(Cg { m with first:=cond e.yes e.side (Bo e.side),stage:=2 }).stage=2:=by
  rfl
 exact⟨fun _=>⟨beq_iff_eq.1 s1,st⟩,fun k=>(by simp_all),fun k=>(by simp_all),fun k=>(by simp_all),fun k=>(by simp_all),by omega,(by omega)⟩
def opn (L:Rows):Nat→Nat
 |0=>0
 |n+1=>opn L n+cond ((evR L n).kind==2) 1 0
theorem Pv (L:Rows) (n:Nat):opn L n≤opn L (n+1):=by
 show opn L n≤opn L n+_;omega
theorem JH (L:Rows) {i:Nat}:∀{j:Nat},i≤j→opn L i≤opn L j
 |0,h=>by simp_all
 |j+1,h=>by
  by_cases e:i=j+1
  ·simp_all
  exact Nat.le_trans (JH L (by omega)) (Pv L j)
def EJ (L:Rows):Nat→Option Int
 |0=>none
 |n+1=>match EJ L n with
  |some v=>some v
  |none=>cond ((evR L n).kind==1) (some (Tq (evR L n))) none
theorem WO {L:Rows} {v:Int} {i:Nat} (h:EJ L i=some v):∀{j:Nat},i≤j→EJ L j=some v
 |0,hj=>by simp_all
 |j+1,hj=>by
  by_cases e:i=j+1
  ·simp_all
  unfold EJ;rw[WO h (show i≤j by omega)]
def De (L:Rows):Nat→Bool
 |0=>false
 |n+1=>De L n||((evR L n).kind==12&&(evR L n).yes)
def had (L:Rows):Nat→Bool
 |0=>false
 |n+1=>had L n||(evR L n).kind==12
theorem uh {L:Rows}:∀n,had L n=false→De L n=false
 |0,_=>rfl
 |n+1,h=>by
  unfold had at h;unfold De;rw[Bool.or_eq_false_iff]at h;rw[uh n h.1,h.2];rfl
structure LogI (L:Rows) (i:Nat) (m:Mat):Prop where
 len:m.inns.length=opn L i
 fs:∀v,EJ L i=some v→m.first=v∧¬m.stage=1
 fn:EJ L i=none→m.first=0
 fol:m.follow=De L i
 k12:had L i=true→(m.inns.length=2∧(m.stage=2∨m.stage=5))∨3≤m.inns.length
structure EvF (L:Rows) (i:Nat):Prop where
 two:((evR L i).kind==2)=true→opn L i≤3∧∃v,EJ L i=some v∧(v=1∨v=2)
 twelve:((evR L i).kind==12)=true→opn L i=2
 play:((evR L i).kind==1)=false→((evR L i).kind==2)=false→((evR L i).kind==12)=false→((evR L i).kind==16)=false→1≤opn L i
theorem y7 (s:Int) (T:TS):(Yd s T).xs.length=T.xs.length∧(Yd s T).first=T.first∧(Yd s T).follow=T.follow:=by
 unfold Yd
 grind
theorem vz (r:Rul) (e:Ev) (T:TS):(Vf r e T).xs.length=T.xs.length+cond (e.kind==2) 1 0∧(Vf r e T).first=cond (e.kind==1) (Tq e) T.first∧(Vf r e T).follow=cond (e.kind==12) e.yes T.follow:=by
 unfold Vf;cases k1:e.kind==1
 ·cases k2:e.kind==2
  ·cases k12:e.kind==12
   ·cases k16:e.kind==16
    ·cases k13:e.kind==13
     ·exact⟨List.length_set,rfl,rfl⟩
     exact y7 e.side T
    trivial
   trivial
  rw[beq_iff_eq.1 k2];refine⟨?_,rfl,rfl⟩;show(T.xs++[_]).length=_
  simp_all
 simp_all
theorem y8 {L:Rows} {i:Nat} {m:Mat} (h:LogI L i m) (ha:((Cp m (evR L i)).2==0)=true):LogI L (i+1) (Cp m (evR L i)).1∧EvF L i:=by
 obtain⟨ab,sg⟩:=qC ha;obtain⟨hv,he,h5,hp,hs⟩:=QT ha;have vp:=gk hv;obtain⟨t1,t2,t3⟩:=vz m.rules (evR L i) (Fi m);rw[←ab]at t1 t2 t3;have x1:∀z:Mat,(Fi z).xs.length=z.inns.length:=fun z=>List.length_map _
 rw[x1,x1]at t1;change(Cp m (evR L i)).1.first=cond ((evR L i).kind==1) (Tq (evR L i)) m.first at t2;change(Cp m (evR L i)).1.follow=cond ((evR L i).kind==12) (evR L i).yes m.follow at t3;have no12:((evR L i).kind==12)=true→had L i=false:=fun k=>by
  obtain⟨s1,s2,s3⟩:=sg.k12 k;cases hh:had L i
  ·rfl
  rcases h.k12 hh with⟨_,q|q⟩|q<;>omega
 have no5:¬m.stage=5:=beq_eq_false_iff_ne.1 h5;refine⟨⟨?_,?_,?_,?_,?_⟩,⟨?_,?_,?_⟩⟩
 ·rw[t1,h.len];rfl
 ·intro v hv2;refine⟨?_,sg.not1⟩;rw[t2];unfold EJ at hv2;cases hf:EJ L i with
  |some w =>
   rw[hf]at hv2;cases hv2;obtain⟨f1,f2⟩:=h.fs _ hf;cases k1:(evR L i).kind==1
   ·exact f1
   exact absurd (sg.k1 k1).1 f2
  |none =>
   grind
 ·intro hn;rw[t2];unfold EJ at hn;cases hf:EJ L i with
  |some w=>simp_all
  |none =>
   rw[hf]at hn;cases k1:(evR L i).kind==1
   ·exact h.fn hf
   simp_all
 ·rw[t3];unfold De;cases k12:(evR L i).kind==12
  ·rw[h.fol,Bool.false_and,Bool.or_false];rfl
  rw[uh i (no12 k12)];rfl
 ·intro hh;rw[t1];unfold had at hh;cases k12:(evR L i).kind==12
  ·rw[k12,Bool.or_false]at hh
   rcases h.k12 hh with⟨q1,q2⟩|q
   ·cases k2:(evR L i).kind==2
    ·refine Or.inl ⟨q1,?_⟩;cases k16:(evR L i).kind==16
     ·cases k1:(evR L i).kind==1
      ·have:=(sg.play k1 k2 k12 k16).1;omega
      have:=(sg.k1 k1).1;omega
     exact Or.inr (sg.k16 k16)
    simp_all
   omega
  obtain⟨s1,s2,s3⟩:=sg.k12 k12;omega
 ·intro k2;obtain⟨s1,s2⟩:=sg.k2 k2;refine⟨by rw[←h.len];exact s2,?_⟩;have tk:=(aE hv).toss (by grind);cases hf:EJ L i with
  |none=>have:=h.fn hf;omega
  |some w=>exact⟨w,rfl,by rw[←(h.fs w hf).1];exact tk⟩
 ·intro k;rw[←h.len];exact(sg.k12 k).2.1
 intro a b c d;rw[←h.len];exact(sg.play a b c d).2
theorem uW {r:Rul} (h:((AM r).2==0)=true):(AM r).1=⟨r,1,0,false,[],0,0,0,0,0⟩∧BA r=0:=by
 unfold AM at h⊢
 grind
theorem Gr {r:Rul} {L:Rows} {n:Nat} (hc:((AM r).2==0)=true) (ha:acc L n 0 (AM r).1):∀i,i≤n→LogI L i (stM L i 0 (AM r).1)∧StepOk r (stM L i 0 (AM r).1)∧∀j,j<i→Fi (stM L (j+1) 0 (AM r).1)=Vf r (evR L j) (Fi (stM L j 0 (AM r).1))∧EvF L j
 |0,_=>by
  refine⟨?_,uD r hc,fun j hj=>absurd hj (Nat.not_lt_zero j)⟩;show LogI L 0 (AM r).1;rw[(uW hc).1];exact⟨rfl,fun v h=>(by cases h),fun _=>rfl,rfl,fun h=>(by cases h)⟩
 |i+1,hi=>by
  obtain⟨h1,h2,h3⟩:=Gr hc ha i (by omega);have a0:=O4 n 0 _ ha i (by omega);have s0:=YS (L:=L) i 0 (AM r).1;rw[Nat.zero_add]at a0 s0;have q:=(Wz a0).1;rw[q]at s0 a0;obtain⟨l1,l2⟩:=y8 h1 a0;rw[s0];refine⟨l1,by rw[←q];exact ri h2 _ _,fun j hj=>?_⟩
  by_cases e:j=i
  ·subst e;rw[s0];refine⟨?_,l2⟩;rw[(qC a0).1,h2.rules]
  grind
def sdF (L:Rows) (n:Nat) (j:Nat):Int:=L0 ((EJ L n).getD 1) (De L n) (j:Int)
theorem pC {L:Rows} {i:Nat}:∀n,i≤n→(∀j,i≤j→j<n→((evR L j).kind==12)=false)→De L n=De L i
 |0,h,_=>by simp_all
 |n+1,h,hk=>by
  by_cases e:i=n+1
  ·rw[e]
  have:De L (n+1)=De L n:=by
   show(De L n||((evR L n).kind==12&&_))=_
   grind
  rw[this];exact pC n (by omega) (fun j h1 h2=>hk j h1 (by omega))
theorem yg (f:Int) (a b:Bool) {j:Nat} (h:j<2):L0 f a (j:Int)=L0 f b (j:Int):=by
 have:iLe 2 (j:Int)=false:=by simp only[iLe,decide_eq_false_iff_not];omega
 unfold L0
 simp_all
theorem AAn {r:Rul} {L:Rows} {n i:Nat} (hc:((AM r).2==0)=true) (ha:acc L n 0 (AM r).1) (hi:i<n) (hk:((evR L i).kind==2)=true) :
    L0 (stM L i 0 (AM r).1).first (stM L i 0 (AM r).1).follow (opn L i:Int)=sdF L n (opn L i)∧(sdF L n (opn L i)=1∨sdF L n (opn L i)=2):=by
  obtain⟨h1,_,_⟩:=Gr hc ha i (by omega);obtain⟨_,_,h3⟩:=Gr hc ha n (Nat.le_refl n);obtain⟨e1,v,e2,e3⟩:=(h3 i hi).2.two hk;have f1:=(h1.fs v e2).1;have f2:=WO e2 (show i≤n by omega);have main:L0 (stM L i 0 (AM r).1).first (stM L i 0 (AM r).1).follow (opn L i:Int)=sdF L n (opn L i):=by
    unfold sdF;rw[f1,f2,h1.fol];show L0 v _ _=L0 v _ _
    by_cases h2:opn L i<2
    · exact yg _ _ _ h2
    rw[pC (i:=i) n (by omega)];intro j j1 j2;cases k12:(evR L j).kind==12
    · rfl
    have o2:=(h3 j j2).2.twelve k12
    by_cases e:j=i
    · simp_all
    have:=JH L (show i+1≤j by omega);have o3:opn L (i+1)=opn L i+1:=by show opn L i+cond ((evR L i).kind==2) 1 0=_;grind
    omega
  refine⟨main,?_⟩;rw[←main,f1];unfold L0;cases cond ((stM L i 0 (AM r).1).follow&&iLe 2 (opn L i:Int)) ((opn L i:Int)==2) ((opn L i:Int).tmod 2==1)
  · exact e3
  rcases e3 with h|h<;>rw[h]<;>decide
def smi (L:Rows) (f:Ev→Int) (j:Nat):Nat→Int
 |0=>0
 |n+1=>smi L f j n+cond (Nat.beq (opn L (n+1)) (j+1)) (f (evR L n)) 0
theorem Di (L:Rows) (f:Ev→Int) (j n:Nat):smi L f j (n+1)=smi L f j n+cond (Nat.beq (opn L (n+1)) (j+1)) (f (evR L n)) 0:=rfl
theorem W1 {a b:Nat} (h:¬a=b):Nat.beq a b=false:=by
 cases hq:Nat.beq a b
 ·rfl
 simp_all
theorem S5 (a:Nat):Nat.beq a a=true:=Nat.beq_refl a
theorem pH {L:Rows} {f:Ev→Int} {j:Nat}:∀n,opn L n≤j→smi L f j n=0
 |0,_=>rfl
 |n+1,h=>by
  have:=Pv L n;unfold smi;rw[pH n (by omega),W1 (by omega)];rfl
def ed (sd:Nat→Int) (s:Int):Nat→Nat→Option Nat
 |0,_=>none
 |c+1,i=>cond (sd i==s) (some i) (ed sd s c (i+1))
theorem Tt {sd:Nat→Int} {s:Int} {j:Nat}:∀c i,ed sd s c i=some j→i≤j∧j<i+c∧sd j=s∧∀k,i≤k→k<j→¬sd k=s
 |0,_,h=>by cases h
 |c+1,i,h=>by
  unfold ed at h;cases hq:sd i==s
  ·rw[hq]at h;obtain⟨h1,h2,h3,h4⟩:=Tt c (i+1) h
   grind
  grind
theorem xg {sd:Nat→Int} {s:Int} {k:Nat} (hs:sd k=s):∀c i,i≤k→k<i+c→∃j,ed sd s c i=some j∧j≤k
 |0,_,h1,h2=>absurd h2 (by omega)
 |c+1,i,h1,h2=>by
  unfold ed;cases hq:sd i==s
  ·have:¬i=k:=fun e=>by simp_all
   exact xg hs c (i+1) (by omega) (by omega)
  simp_all
def Jv (sd:Nat→Int) (n k:Nat) (s:Int):Option Nat:=match Cc sd s (k+1)with
 |some j=>some j
 |none=>ed sd s (n-(k+1)) (k+1)
theorem zL {sd:Nat→Int} {n k j:Nat} {s:Int} (h:Jv sd n k s=some j):sd j=s∧(j≤k∨(k<j∧j<n∧Cc sd s (k+1)=none)):=by
 unfold Jv at h;cases hb:Cc sd s (k+1)with
 |some w =>
  rw[hb]at h;cases h;have:=Ke _ hb;omega
 |none =>
  rw[hb]at h;obtain⟨h1,h2,h3,h4⟩:=Tt _ _ h
  grind
def isS (o:Option Nat) (j:Nat):Bool:=match o with
 |some k=>Nat.beq k j
 |none=>false
theorem cD {o:Option Nat} {j:Nat}:isS o j=true↔o=some j:=by
 cases o with
 |none=>exact⟨fun h=>(by cases h),fun h=>(by cases h)⟩
 |some k=>exact⟨fun h=>(by rw[Nat.eq_of_beq_eq_true h]),fun h=>(by cases h;exact S5 j)⟩
def pnS (L:Rows) (sd:Nat→Int) (n j:Nat):Nat→Int
 |0=>0
 |i+1=>pnS L sd n j i+cond ((evR L i).kind==13&&isS (Jv sd n (opn L (i+1)-1) (evR L i).side) j) 5 0
theorem ABP (L:Rows) (sd:Nat→Int) (n j i:Nat):pnS L sd n j (i+1)=pnS L sd n j i+cond ((evR L i).kind==13&&isS (Jv sd n (opn L (i+1)-1) (evR L i).side) j) 5 0:=rfl
def pcS (L:Rows) (s:Int):Nat→Int
 |0=>0
 |i+1=>pcS L s i+cond ((evR L i).kind==13&&(evR L i).side==s) 5 0
def Fb (L:Rows) (sd:Nat→Int) (s:Int) (k i:Nat):Int:=match Cc sd s k with
 |some _=>0
 |none=>pcS L s i
theorem ud {L:Rows} {sd:Nat→Int} {n k:Nat} (hn:k<n):∀i,(∀j,j<i→((evR L j).kind==13)=true→1≤opn L (j+1))→opn L i≤k→pnS L sd n k i=Fb L sd (sd k) k i
 |0,_,_=>by unfold Fb;cases Cc sd (sd k) k<;>rfl
 |i+1,h,hk=>by
  have ih:=ud (sd:=sd) hn i (fun j hj=>h j (by omega)) (Nat.le_trans (Pv L i) hk);unfold pnS;rw[ih];unfold Fb;cases k13:(evR L i).kind==13
  ·rw[Bool.false_and,cond_false,Int.add_zero];cases Cc sd (sd k) k with
   |some _=>rfl
   |none =>
    show pcS L (sd k) i=pcS L (sd k) i+cond ((evR L i).kind==13&&_) 5 0
    grind
  have o1:=h i (Nat.lt_succ_self i) k13;rw[Bool.true_and]
  by_cases es:(evR L i).side=sd k
  ·cases hb:Cc sd (sd k) k with
   |some w =>
    have bw:=Ke _ hb;have:isS (Jv sd n (opn L (i+1)-1) (evR L i).side) k=false:=by
     cases hq:isS (Jv sd n (opn L (i+1)-1) (evR L i).side) k
     ·rfl
     exfalso
     have hd:=cD.1 hq;rw[es]at hd;unfold Jv at hd;rw[show opn L (i+1)-1+1=opn L (i+1) by omega]at hd;cases hb2:Cc sd (sd k) (opn L (i+1))with
     |some z =>
      rw[hb2]at hd;cases hd;have:=(Ke _ hb2).1;omega
     |none =>
      rw[hb2]at hd;have nb:=br _ hb2;have f4:=(Tt _ _ hd).2.2.2 w
      simp_all
    simp_all
   |none =>
    have nb:=br _ hb;have:isS (Jv sd n (opn L (i+1)-1) (evR L i).side) k=true:=by
     rw[cD,es];unfold Jv;rw[show opn L (i+1)-1+1=opn L (i+1) by omega];cases hb2:Cc sd (sd k) (opn L (i+1))with
     |some z =>
      have:=Ke _ hb2
      grind
     |none =>
      obtain⟨j,j1,j2⟩:=xg (sd:=sd) (s:=sd k) (k:=k) rfl (n-opn L (i+1)) (opn L (i+1)) hk (by omega);have:=Tt _ _ j1
      grind
    rw[this];show pcS L (sd k) i+_=pcS L (sd k) i+cond ((evR L i).kind==13&&(evR L i).side==sd k) 5 0
    simp_all
  have:isS (Jv sd n (opn L (i+1)-1) (evR L i).side) k=false:=by
   cases hq:isS (Jv sd n (opn L (i+1)-1) (evR L i).side) k
   ·rfl
   exact absurd (zL (cD.1 hq)).1.symm es
  rw[this,cond_false,Int.add_zero];cases Cc sd (sd k) k with
  |some _=>rfl
  |none =>
   show pcS L (sd k) i=pcS L (sd k) i+cond ((evR L i).kind==13&&(evR L i).side==sd k) 5 0
   grind
def ABu (r:Rul) (e:Ev):Int:=Da (DV r e)
def Uc (r:Rul) (e:Ev):Int:=cond (DV r e).counts 1 0
def V9 (r:Rul) (L:Rows) (sd:Nat→Int) (n j i:Nat):Sco:=⟨sd j,smi L (ABu r) j i+pnS L sd n j i,smi L NR j i,smi L (Uc r) j i,smi L (fun e=>(DV r e).wides) j i,smi L (fun e=>(DV r e).noballs) j i,smi L (fun e=>(DV r e).byes) j i,smi L (fun e=>(DV r e).legbyes) j i,pnS L sd n j i,0⟩
theorem fm (r:Rul) (L:Rows) (sd:Nat→Int) (n j i:Nat):V9 r L sd n j (i+1)=MC (cond ((evR L i).kind==13&&isS (Jv sd n (opn L (i+1)-1) (evR L i).side) j) 5 0) (cond (Nat.beq (opn L (i+1)) (j+1)) (YT r (evR L i) (V9 r L sd n j i)) (V9 r L sd n j i)):=by
 unfold V9;simp only[Di,ABP];generalize(cond ((evR L i).kind==13&&isS (Jv sd n (opn L (i+1)-1) (evR L i).side) j) 5 0:Int)=p;cases Nat.beq (opn L (i+1)) (j+1)
 ·unfold MC
  grind
 unfold MC YT;simp only[cond_true];rw[Sco.mk.injEq];refine⟨rfl,?_,rfl,rfl,rfl,rfl,rfl,rfl,rfl,rfl⟩;unfold ABu;omega
theorem nB {r:Rul} {L:Rows} {sd:Nat→Int} {n j i:Nat} (h4:((evR L i).kind==4)=false) (h13:((evR L i).kind==13)=false) (ho:C8 (evR L i)=0):V9 r L sd n j (i+1)=V9 r L sd n j i:=by
 rw[fm,h13,Bool.false_and,cond_false,Ek,VG _ h4 ho]
 simp_all
structure Clo (r:Rul) (L:Rows) (sd:Nat→Int) (n i:Nat) (T:TS):Prop where
 len:T.xs.length=opn L i
 at':∀j,j<opn L i→sco T.xs j=V9 r L sd n j i
 p1:T.p1=Fb L sd 1 (opn L i) i
 p2:T.p2=Fb L sd 2 (opn L i) i
theorem HM {L:Rows} {sd:Nat→Int} {s:Int} {k i:Nat} (h:((evR L i).kind==13&&(evR L i).side==s)=false):Fb L sd s k (i+1)=Fb L sd s k i:=by
 unfold Fb;cases Cc sd s k with
 |some _=>rfl
 |none =>
  show pcS L s i+cond ((evR L i).kind==13&&(evR L i).side==s) 5 0=_
  grind
theorem qf {r:Rul} {L:Rows} {n:Nat} (hc:((AM r).2==0)=true) (ha:acc L n 0 (AM r).1):∀i,i≤n→Clo r L (sdF L n) (opn L n) i (Fi (stM L i 0 (AM r).1))
 |0,_=>by
  show Clo r L _ _ 0 (Fi (AM r).1);rw[(uW hc).1];exact⟨rfl,fun j hj=>absurd hj (Nat.not_lt_zero j),rfl,rfl⟩
 |i+1,hi=>by
  have ih:=qf hc ha i (by omega);obtain⟨_,_,h3⟩:=Gr hc ha n (Nat.le_refl n);obtain⟨hst,hev⟩:=h3 i (by omega);have sat:=AAn hc ha (show i<n by omega);have o13:∀j,j<i→((evR L j).kind==13)=true→1≤opn L (j+1):=fun j hj k13=>by
   have e:=beq_iff_eq.1 k13;have:=(h3 j (by omega)).2.play (by rw[e];rfl) (by rw[e];rfl) (by rw[e];rfl) (by rw[e];rfl);exact Nat.le_trans this (Pv L j)
  rw[hst];change((evR L i).kind==2)=true→L0 (Fi (stM L i 0 (AM r).1)).first (Fi (stM L i 0 (AM r).1)).follow (opn L i:Int)=_∧_ at sat;generalize Fi (stM L i 0 (AM r).1)=T at ih sat;have onx:opn L (i+1)=opn L i+cond ((evR L i).kind==2) 1 0:=rfl;have quiet:((evR L i).kind==2)=false→((evR L i).kind==4)=false→((evR L i).kind==13)=false→C8 (evR L i)=0→∀T':TS,T'.xs=T.xs→T'.p1=T.p1→T'.p2=T.p2→Clo r L (sdF L n) (opn L n) (i+1) T':=by
   intro a b c d T' t1 t2 t3;rw[a]at onx;change opn L (i+1)=opn L i at onx;have z:∀s:Int,((evR L i).kind==13&&(evR L i).side==s)=false:=fun s=>by rw[c];rfl
   refine⟨by rw[onx,t1];exact ih.len,fun j hj=>?_,?_,?_⟩
   ·rw[t1,nB b c d];exact ih.at' j (by omega)
   ·rw[onx,t2,HM (z 1)];exact ih.p1
   rw[onx,t3,HM (z 2)];exact ih.p2
  unfold Vf;cases k1:(evR L i).kind==1
  ·cases k2:(evR L i).kind==2
   ·cases k12:(evR L i).kind==12
    ·cases k16:(evR L i).kind==16
     ·have pl:=hev.play k1 k2 k12 k16;rw[k2]at onx;change opn L (i+1)=opn L i at onx;simp only[cond_false];cases k13:(evR L i).kind==13
      ·have z:∀s:Int,((evR L i).kind==13&&(evR L i).side==s)=false:=fun s=>by grind
       show Clo r L (sdF L n) (opn L n) (i+1) (oI r (evR L i) T);unfold oI;refine⟨by rw[onx];exact List.length_set.trans ih.len,fun j hj=>?_,?_,?_⟩
       ·show sco (T.xs.set _ _) j=_;rw[uk _ _ _ _ (by rw[ih.len];omega),fm,k13,Bool.false_and,cond_false,Ek,onx,ih.len]
        by_cases ew:opn L i-1=j
        ·rw[if_pos ew,show opn L i=j+1 by omega,S5,show j+1-1=j by omega,ih.at' j (by omega)];rfl
        rw[if_neg ew,W1 (by omega)];exact ih.at' j (by omega)
       ·rw[onx,HM (z 1)];exact ih.p1
       rw[onx,HM (z 2)];exact ih.p2
      have e:=beq_iff_eq.1 k13;have h4:((evR L i).kind==4)=false:=by rw[e];rfl
      have ho:C8 (evR L i)=0:=by unfold C8;rw[e];rfl
      have bk:Cc (fun k=>(sco T.xs k).side) (evR L i).side T.xs.length=Cc (sdF L n) (evR L i).side (opn L i):=by
       rw[ih.len];exact YC _ (fun k hk=>by rw[ih.at' k hk];rfl)
      have du:Jv (sdF L n) (opn L n) (opn L (i+1)-1) (evR L i).side=match Cc (sdF L n) (evR L i).side (opn L i)with
       |some j=>some j
       |none=>ed (sdF L n) (evR L i).side (opn L n-opn L i) (opn L i):=by
       unfold Jv
       simp_all
      have cs:∀j,V9 r L (sdF L n) (opn L n) j (i+1)=MC (cond (isS (Jv (sdF L n) (opn L n) (opn L (i+1)-1) (evR L i).side) j) 5 0) (V9 r L (sdF L n) (opn L n) j i):=fun j=>by
       rw[fm,k13,Bool.true_and,VG _ h4 ho]
       simp_all
      have pq:∀s:Int,Cc (sdF L n) (evR L i).side (opn L i)≠none→Fb L (sdF L n) s (opn L i) (i+1)=Fb L (sdF L n) s (opn L i) i:=fun s hs=>by
       by_cases es:(evR L i).side=s
       ·rw[es]at hs;unfold Fb
        grind
       exact HM (by simp_all)
      show Clo r L (sdF L n) (opn L n) (i+1) (Yd (evR L i).side T);unfold Yd;rw[bk];cases hb:Cc (sdF L n) (evR L i).side (opn L i)with
      |some w =>
       have wl:=(Ke _ hb).1;rw[hb]at du pq;simp only at du;refine⟨by rw[onx];exact List.length_set.trans ih.len,fun j hj=>?_,?_,?_⟩
       ·rw[cs,du];show sco (T.xs.set w (MC 5 (sco T.xs w))) j=_;rw[uk _ _ _ _ (by rw[ih.len];omega)]
        by_cases ew:w=j
        ·subst ew;rw[if_pos rfl,ih.at' w wl,show isS (some w) w=true from S5 w];rfl
        rw[if_neg ew,show isS (some w) j=false from W1 ew,ih.at' j (by omega),cond_false,Ek]
       ·rw[onx,pq 1 (by simp)];exact ih.p1
       rw[onx,pq 2 (by simp)];exact ih.p2
      |none =>
       rw[hb]at du;simp only at du;have pc:∀s:Int,Fb L (sdF L n) s (opn L i) (i+1)=cond ((evR L i).side==s) (Fb L (sdF L n) s (opn L i) i+5) (Fb L (sdF L n) s (opn L i) i):=fun s=>by
        cases es:(evR L i).side==s
        ·rw[HM (by simp_all)];rfl
        have e2:=beq_iff_eq.1 es;rw[e2]at hb;unfold Fb;rw[hb];show pcS L s i+cond ((evR L i).kind==13&&(evR L i).side==s) 5 0=_
        simp_all
       refine⟨by rw[onx];exact ih.len,fun j hj=>?_,?_,?_⟩
       ·have nj:isS (Jv (sdF L n) (opn L n) (opn L (i+1)-1) (evR L i).side) j=false:=by
         cases hq:isS (Jv (sdF L n) (opn L n) (opn L (i+1)-1) (evR L i).side) j
         ·rfl
         have:=cD.1 hq;rw[du]at this;have:=(Tt _ _ this).1;omega
        rw[cs,nj,cond_false,Ek];exact ih.at' j (by omega)
       ·rw[onx,pc 1,←ih.p1]
       rw[onx,pc 2,←ih.p2]
     have e:=beq_iff_eq.1 k16;exact quiet (by rw[e];rfl) (by rw[e];rfl) (by rw[e];rfl) (by unfold C8;rw[e];rfl) _ rfl rfl rfl
    have e:=beq_iff_eq.1 k12;exact quiet (by rw[e];rfl) (by rw[e];rfl) (by rw[e];rfl) (by unfold C8;rw[e];rfl) _ rfl rfl rfl
   have e:=beq_iff_eq.1 k2;have h4:((evR L i).kind==4)=false:=by rw[e];rfl
   have h13:((evR L i).kind==13)=false:=by rw[e];rfl
   have ho:C8 (evR L i)=0:=by unfold C8;rw[e];rfl
   have z:∀s:Int,((evR L i).kind==13&&(evR L i).side==s)=false:=fun s=>by grind
   rw[k2]at onx;change opn L (i+1)=opn L i+1 at onx;obtain⟨sa,sb⟩:=sat k2;have kn:opn L i<opn L n:=by have:=JH L (show i+1≤n by omega);omega
   have pp:=ud (L:=L) (sd:=sdF L n) kn i o13 (Nat.le_refl _);show Clo r L (sdF L n) (opn L n) (i+1) (oB T);unfold oB;simp only[ih.len,sa];refine⟨by rw[List.length_append,ih.len,onx];rfl,fun j hj=>?_,?_,?_⟩
   ·rw[AAz _ _ _ (by rw[ih.len];omega),ih.len,nB h4 h13 ho]
    by_cases hjk:j<opn L i
    ·rw[if_pos hjk];exact ih.at' j hjk
    have:j=opn L i:=by omega
    subst this;rw[if_neg hjk];unfold V9 rc;simp only[pH i (Nat.le_refl _),Int.zero_add,pp]
    rcases sb with sb|sb<;>rw[sb]
    ·rw[←ih.p1];rfl
    rw[←ih.p2];rfl
   ·rw[onx];show cond (sdF L n (opn L i)==1) 0 T.p1=Fb L (sdF L n) 1 (opn L i+1) (i+1);rw[HM (z 1)];unfold Fb Cc;cases sdF L n (opn L i)==1
    ·exact ih.p1
    rfl
   rw[onx];show cond (sdF L n (opn L i)==2) 0 T.p2=Fb L (sdF L n) 2 (opn L i+1) (i+1);rw[HM (z 2)];unfold Fb Cc;cases sdF L n (opn L i)==2
   ·exact ih.p2
   rfl
  have e:=beq_iff_eq.1 k1;exact quiet (by rw[e];rfl) (by rw[e];rfl) (by rw[e];rfl) (by unfold C8;rw[e];rfl) _ rfl rfl rfl
def Sco.ls (s:Sco):List PV:=[.int s.side,.int s.runs,.int s.wickets,.int s.balls,.int s.wides,.int s.noballs,.int s.byes,.int s.legbyes,.int s.pens,.int s.ending]
def Hk (xs:List (Int×Int)):Rows:=xs.map fun x=>[.int x.1,.int x.2]
def pr (xs:List (Int×Int)) (i:Nat):Int×Int:=xs.getD i (0,0)
theorem YH (xs:List (Int×Int)) (i:Nat):pr xs i=(match xs[i]? with|some s=>s|none=>(0,0)):=by
 unfold pr
 grind
theorem rm (xs:List (Int×Int)) (i:Nat):AB (Hk xs) i=(match xs[i]? with|some s=>[.int s.1,.int s.2]|none=>[]):=by
 unfold AB Hk
 grind
theorem rX (xs:List (Int×Int)):(Hk xs).length=xs.length:=List.length_map _
theorem PXp:(∀ xs:List (Int×Int),(Hk xs).length=xs.length)∧(∀ (xs:List (Int×Int)) (i:Nat),pvI (AD (Hk xs) i 0)=(pr xs i).1)∧(∀ (xs:List (Int×Int)) (i:Nat),pvI (AD (Hk xs) i 1)=(pr xs i).2) ∧
    (∀(xs:List (Int×Int)) (i:Nat) (v:Int),(Hk xs).set i (putRow (AB (Hk xs) i) 1 [.int v])=Hk (xs.set i ((pr xs i).1,v)))∧(∀(xs:List (Int×Int)) (a b:Int),Hk xs++[([.int a,.int b]:List PV)]=Hk (xs++[(a,b)])):=by
  refine⟨rX,?_,?_,?_,?_⟩
  · intro xs i;rw[YH];unfold AD;rw[rm];cases xs[i]?<;>rfl
  · intro xs i;rw[YH];unfold AD;rw[rm];cases xs[i]?<;>rfl
  · intro xs i v
    by_cases hi:i<xs.length
    · have e:AB (Hk xs) i=[.int (pr xs i).1,.int (pr xs i).2]:=by rw[rm,YH,zzn hi]
      rw[e];exact(List.map_set (f:=fun x:Int×Int=>[PV.int x.1,PV.int x.2]) (l:=xs) (i:=i) (a:=((pr xs i).1,v))).symm
    rw[List.set_eq_of_length_le (by rw[rX];omega),List.set_eq_of_length_le (by omega)]
  intro xs a b;exact(List.map_append (f:=fun x:Int×Int=>[PV.int x.1,PV.int x.2]) (l₁:=xs) (l₂:=[(a,b)])).symm
theorem Zr (L:Rows):∀i,opn L i≤i
 |0=>Nat.le_refl _
 |i+1=>by
  have:=Zr L i;show opn L i+cond _ 1 0≤_
  grind
def Ic (xs:List (Int×Int)) (v:Int):List (Int×Int):=cond (iLt 0 (xs.length:Int)) (xs.set (IntKind.i64.wrap ((xs.length:Int)-1)).toNat ((pr xs (IntKind.i64.wrap ((xs.length:Int)-1)).toNat).1,v)) xs
def CQ (L:Rows):Nat→List (Int×Int)
 |0=>[]
 |i+1=>cond ((evR L i).kind==2) (Ic (CQ L i) (i:Int)++[((i:Int),(L.length:Int))]) (CQ L i)
theorem WG (xs:List (Int×Int)) (v:Int):(Ic xs v).length=xs.length:=by
 unfold Ic
 grind
theorem TF (L:Rows):∀i,(CQ L i).length=opn L i
 |0=>rfl
 |i+1=>by
  have ih:=TF L i;show(cond ((evR L i).kind==2) _ (CQ L i)).length=opn L i+cond ((evR L i).kind==2) 1 0;cases(evR L i).kind==2
  ·exact ih
  rw[cond_true,cond_true,List.length_append,WG,ih];rfl
theorem uQ {n:Nat} (h:0<n) (h2:n≤1048576):(IntKind.i64.wrap ((n:Int)-1)).toNat=n-1∧iIn (IntKind.i64.wrap ((n:Int)-1)) (n:Int)=true:=by
 rw[A6 (by omega) (by omega)];refine⟨by omega,?_⟩;simp only[iIn,decide_eq_true_eq];omega
theorem ze {N:Nat} {L:Rows} (hN:2097152<N) (hL:L.length≤1048576) {F:(List AQ→Option (List PV))→List PV→Option (List PV)}
    (h0:∀self,F self [.rows (Hk (CQ L L.length)),.int (L.length:Int)]=some [.rows (Hk (CQ L L.length))])
    (h1:∀i self,i<L.length→(CQ L i).length≤1048575→F self [.rows (Hk (CQ L i)),.int (i:Int)]=self [.rows (Hk (CQ L (i+1))),.int (((i+1:Nat)):Int)]):C1 F N [.rows (Hk []),.int 0]=some [.rows (Hk (CQ L L.length))]:=by
  have:=BP (F:=F) (len:=L.length) (fun i=>[.rows (Hk (CQ L i)),.int (i:Int)]) [.rows (Hk (CQ L L.length))] h0 (fun i self hi=>h1 i self hi (by rw[TF];have:=Zr L i;omega)) N (by omega);exact this
theorem Ai {i:Nat} (h:i≤1099511627776):IntKind.i64.wrap ((i:Int)+1)=((i+1:Nat):Int):=A9 h
theorem yf {L:Rows} {i:Nat} {xs:List (Int×Int)} (hk:((evR L i).kind==2)=true) (he:CQ L i=xs) (h:iLt 0 (xs.length:Int)=true):CQ L (i+1)=xs.set (IntKind.i64.wrap ((xs.length:Int)-1)).toNat ((pr xs (IntKind.i64.wrap ((xs.length:Int)-1)).toNat).1,(i:Int))++[((i:Int),(L.length:Int))]:=by
 show cond ((evR L i).kind==2) (Ic (CQ L i) (i:Int)++[((i:Int),(L.length:Int))]) (CQ L i)=_;rw[hk,he];unfold Ic
 grind
theorem wY {L:Rows} {i:Nat} {xs:List (Int×Int)} (hk:((evR L i).kind==2)=true) (he:CQ L i=xs) (h:iLt 0 (xs.length:Int)=false):CQ L (i+1)=xs++[((i:Int),(L.length:Int))]:=by
 show cond ((evR L i).kind==2) (Ic (CQ L i) (i:Int)++[((i:Int),(L.length:Int))]) (CQ L i)=_;rw[hk,he];unfold Ic
 grind
theorem qZ {L:Rows} {i:Nat} (hk:((evR L i).kind==2)=false):CQ L (i+1)=CQ L i:=by
 show cond ((evR L i).kind==2) _ (CQ L i)=_
 grind
set_option maxHeartbeats 1000000 in
theorem Qb {N:Nat} {L:Rows} (hN:2097152<N) (hL:L.length≤1048576):Cz N [.rows L]=some [.rows (Hk (CQ L L.length))]:=by
 show LV (std (Tg N) N) (xOf _)=_;simp only[LV,lq9,std,xOf,PXb];refine AN (ze hN hL ?_ ?_) rfl
 ·intro self;simp only[PXb,PXc,PXn,AE,Aj]
 intro i self hi hlen;have kk:(evR L i).kind=atI L i 0:=rfl;simp only[PXb,PXc,PXn,AE,Ai (show i≤1099511627776 by omega),Aa hi,AJ hi,Dc,PXp,←kk];cases hk:(evR L i).kind==2
 ·rw[qZ hk];rfl
 simp only[PXb,Bool.not_true];generalize he:CQ L i=xs at hlen;cases h0:iLt 0 (xs.length:Int)
 ·have sm:iSm ((xs.length+1:Nat):Int) 16=true:=C4 (by omega) (by omega);rw[wY hk he h0];simp only[PXb,PXc,PXn,AE,PXp,List.length_append,List.length_cons,List.length_nil,sm,Nat.reduceAdd]
 have h1:0<xs.length:=by simp only[iLt,decide_eq_true_eq]at h0;omega
 have sm:iSm ((xs.length+1:Nat):Int) 16=true:=C4 (by omega) (by omega);rw[yf hk he h0];simp only[PXb,PXc,PXn,AE,PXp,List.length_append,List.length_cons,List.length_nil,List.length_set,sm,Nat.reduceAdd,(uQ h1 (by omega)).2]
theorem gI (ans:Nat→Option (List PV)):∀k i,Ax ans (k+1) i=match Ax ans k i with|some r=>some r|none=>ans (i+k)
 |0,i=>by
  simp only[Ax]
  grind
 |k+1,i=>by
  have ih:=gI ans k (i+1);have e1:Ax ans (k+1+1) i=match ans i with|some r=>some r|none=>Ax ans (k+1) (i+1):=rfl
  have e2:Ax ans (k+1) i=match ans i with|some r=>some r|none=>Ax ans k (i+1):=rfl
  grind
def kz (L:Rows) (i:Nat):Option (List PV):=cond ((evR L i).kind==1) (some [.int (Tq (evR L i))]) none
theorem qt (L:Rows):∀n,Ax (kz L) n 0=(EJ L n).map fun v=>[.int v]
 |0=>rfl
 |n+1=>by
  rw[gI,qt L n,Nat.zero_add];show _=(match EJ L n with|some v=>some v|none=>cond ((evR L n).kind==1) (some (Tq (evR L n))) none).map fun v=>[PV.int v]
  cases EJ L n with
  |some v=>rfl
  |none =>
   show kz L n=_;unfold kz
   grind
def Jt (L:Rows):Int:=(EJ L L.length).getD 1
theorem zW {N:Nat} {L:Rows} (hN:2097152<N) (hL:L.length≤1048576) {F:(List AQ→Option (List PV))→List PV→Option (List PV)} (h0:∀ self,F self [.int (L.length:Int)]=some [.int 1])
    (h1:∀i self,i<L.length→F self [.int (i:Int)]=match kz L i with|some r=>some (.int 0::r)|none=>self [.int ((i:Int)+1)]):C1 F N [.int 0]=some (Qq ((EJ L L.length).map fun v=>[.int v])):=by
  have:=B1 (F:=F) (len:=L.length) (kz L) h0 h1 L.length 0 N (by omega) (by omega);rw[qt]at this;exact this
theorem ABS (o:Option Int):cond (pvI (AA (Qq (o.map fun v=>[.int v])) 0)==((0:Nat):Int)) (some [PV.int (pvI (AA (Qq (o.map fun v=>[.int v])) 1))]) (some [PV.int 1])=some [.int (o.getD 1)]:=by
 cases o<;>rfl
theorem ni {N:Nat} {L:Rows} (hN:2097152<N) (hL:L.length≤1048576):JR N [.rows L]=some [.int (Jt L)]:=by
 show Mn (std (VZ N) N) (xOf _)=_;simp only[Mn,lq9,std,xOf,PXb];refine AN (zW hN hL ?_ ?_) (ABS _)
 ·intro self;simp only[PXb,PXc,PXn,AE,Aj]
 intro i self hi;have kk:(evR L i).kind=atI L i 0:=rfl;have ky:(evR L i).yes=atB L i 4:=rfl;have ks:(evR L i).side=atI L i 1:=rfl;simp only[PXb,PXc,PXn,AE,A9 (show i≤1099511627776 by omega),Aa hi,AJ hi,Dc,kK,kz,Tq,Bo,kk,ky,ks]
 grind
def OY (f:Int) (en:Bool) (k:Nat):Int:=cond (en&&((k:Int)==2||(k:Int)==3)) (Bo (cond ((k:Int).tmod 2==1) (Bo f) f)) (cond ((k:Int).tmod 2==1) (Bo f) f)
def oP (f:Int) (en:Bool) (k:Nat):Int:=cond (cond (en&&((k:Int)==2||(k:Int)==3)) ((k:Int)==2) ((k:Int).tmod 2==1)) (Bo f) f
theorem ABi {f:Int} (h:Bo (Bo f)=f) (en:Bool) (k:Nat):OY f en k=oP f en k:=by
 unfold OY oP
 grind
theorem ABm (f:Int) (en:Bool) {k:Nat} (h:k≤3):oP f en k=L0 f en (k:Int):=by
 have:k=0∨k=1∨k=2∨k=3:=by omega
 rcases this with h|h|h|h<;>subst h<;>cases en<;>rfl
def zs (g:Nat→Int) (n:Nat):List Int:=(List.range n).map g
theorem xF (g:Nat→Int) (n:Nat):(zs g n).length=n:=by unfold zs;simp_all
theorem ABB (g:Nat→Int) (n:Nat):Jx (zs g n)++[[.int (g n)]]=Jx (zs g (n+1)):=by
 unfold zs Jx;rw[List.range_succ,List.map_append,List.map_append];rfl
theorem AC7 (g:Nat→Int) {n k:Nat} (h:k<n):atI (Jx (zs g n)) k 0=g k:=by
 rw[ADZ,zzk];unfold zs
 simp_all
theorem zV {N:Nat} {L:Rows} (hN:2097152<N) (hL:L.length≤1048576) {F:(List AQ→Option (List PV))→List PV→Option (List PV)} (h0:∀ self,F self [.bool (De L L.length),.int (L.length:Int)]=some [.bool (De L L.length)])
    (h1:∀i self,i<L.length→F self [.bool (De L i),.int (i:Int)]=self [.bool (De L (i+1)),.int (((i+1:Nat)):Int)]):C1 F N [.bool false,.int 0]=some [.bool (De L L.length)] :=
  BP (F:=F) (len:=L.length) (fun i=>[.bool (De L i),.int (i:Int)]) [.bool (De L L.length)] h0 h1 N (by omega)
theorem ABA {N n:Nat} {g:Nat→Int} (hN:2097152<N) (hL:n≤1048576) {F:(List AQ→Option (List PV))→List PV→Option (List PV)} (h0:∀ self,F self [.rows (Jx (zs g n)),.int (n:Int)]=some [.rows (Jx (zs g n))])
    (h1:∀i self,i<n→F self [.rows (Jx (zs g i)),.int (i:Int)]=self [.rows (Jx (zs g (i+1))),.int (((i+1:Nat)):Int)]):C1 F N [.rows [],.int 0]=some [.rows (Jx (zs g n))] :=
  BP (F:=F) (len:=n) (fun i=>[.rows (Jx (zs g i)),.int (i:Int)]) [.rows (Jx (zs g n))] h0 h1 N (by omega)
set_option maxHeartbeats 1000000 in
theorem nT {N:Nat} {L:Rows} (hN:2097152<N) (hL:L.length≤1048576):Mq N [.rows L]=some [.rows (Jx (zs (OY (Jt L) (De L L.length)) (opn L L.length)))]:=by
 show M8 (std (J2 N) N) (xOf _)=_;simp only[M8,Ry,Sf,lq9,std,xOf,PXb,ni hN hL];refine AN (zV hN hL ?_ ?_) ?_
 ·intro self;simp only[PXb,PXc,PXn,AE,Aj]
 ·intro i self hi;have kk:(evR L i).kind=atI L i 0:=rfl;have ky:(evR L i).yes=atB L i 4:=rfl;have e:De L (i+1)=(De L i||((evR L i).kind==12&&(evR L i).yes)):=rfl;rw[e,kk,ky];simp only[PXb,PXc,PXn,AE,Ai (show i≤1099511627776 by omega),Aa hi,AJ hi,Dc,kK]
 have ol:=Zr L L.length;simp only[PXb,PXc,PXn,AE,Qb hN hL,PXp,TF];generalize De L L.length=en;generalize hn:opn L L.length=n at ol;refine AN (ABA (n:=n) (g:=OY (Jt L) en) hN (by omega) ?_ ?_) rfl
 ·intro self;simp only[PXb,PXc,PXn,AE,Aj]
 intro i self hi;have sm:iSm ((i+1:Nat):Int) 8=true:=C4 (by omega) (by omega);rw[←ABB];unfold OY;cases h1:(i:Int).tmod 2==1<;>cases h2:(en&&((i:Int)==2||(i:Int)==3)) <;>
  simp only[PXb,PXc,PXn,AE,Ai (show i≤1099511627776 by omega),Aa hi,h1,h2,zf,xF,List.length_append,List.length_cons,List.length_nil,Nat.reduceAdd,sm,Bo]
theorem ACS (xs:List (Int×Int)) (k:Nat) (s:Int×Int) (i:Nat) (hi:i<xs.length):pr (xs.set k s) i=(if k=i then s else pr xs i):=by
 rw[YH,YH,List.getElem?_set]
 grind
theorem ACY (xs:List (Int×Int)) (s:Int×Int) (i:Nat) (hi:i<xs.length+1):pr (xs++[s]) i=(if i<xs.length then pr xs i else s):=by
 rw[YH,YH]
 grind
theorem Te {L:Rows} {i:Nat} (h:((evR L i).kind==2)=true):opn L (i+1)=opn L i+1:=by
 show opn L i+cond ((evR L i).kind==2) 1 0=_
 grind
theorem fk {L:Rows} {i:Nat} (h:((evR L i).kind==2)=false):opn L (i+1)=opn L i:=by
 show opn L i+cond ((evR L i).kind==2) 1 0=_
 grind
theorem Zl {L:Rows} (hL:L.length≤1048576):∀ i,i≤L.length→∀ k,k<opn L i→∃ a:Nat,(pr (CQ L i) k).1=(a:Int)∧a<i∧opn L a=k∧((evR L a).kind==2)=true ∧
    ((k+1<opn L i∧∃b:Nat,(pr (CQ L i) k).2=(b:Int)∧b<i∧opn L b=k+1∧((evR L b).kind==2)=true)∨(k+1=opn L i∧(pr (CQ L i) k).2=(L.length:Int)))
  |0,_,k,hk=>absurd hk (Nat.not_lt_zero k)
  |i+1,hi,k,hk=>by
    have ih:=Zl hL i (by omega);cases h2:(evR L i).kind==2
    · rw[fk h2]at hk⊢;rw[qZ h2]
      grind
    rw[Te h2]at hk⊢;have sl:=TF L i;have hle:=Zr L i;have ha:=fun (j:Nat) (hj:j<opn L i+1)=>ACY (Ic (CQ L i) (i:Int)) ((i:Int),(L.length:Int)) j (by rw[WG,sl];exact hj)
    have e:CQ L (i+1)=Ic (CQ L i) (i:Int)++[((i:Int),(L.length:Int))]:=by
      show cond ((evR L i).kind==2) _ _=_
      simp_all
    rw[e,ha k hk,WG,sl]
    by_cases hkn:k<opn L i
    · rw[if_pos hkn];obtain⟨a,h3,h4,h5,h6,h7⟩:=ih k hkn;have hp:0<opn L i:=by omega
      have ix:=(uQ hp (by omega)).1;have es:Ic (CQ L i) (i:Int)=(CQ L i).set (opn L i-1) ((pr (CQ L i) (opn L i-1)).1,(i:Int)):=by
        unfold Ic;rw[sl,show iLt 0 (opn L i:Int)=true by simp only[iLt,decide_eq_true_eq];omega,ix];rfl
      rw[es,ACS _ _ _ _ (by omega)]
      grind
    grind
theorem ye {L:Rows} {a b:Nat} (h:opn L a=opn L b) (ha:((evR L a).kind==2)=true) (hb:((evR L b).kind==2)=true):a=b:=by
 rcases Nat.lt_trichotomy a b with h1|h1|h1
 ·have:=JH L (show a+1≤b by omega);have:=Te ha;omega
 ·exact h1
 have:=JH L (show b+1≤a by omega);have:=Te hb;omega
def BI (L:Rows) (k:Nat):Nat:=if k<opn L L.length then(pr (CQ L L.length) k).1.toNat else L.length
structure Seg (L:Rows) (k:Nat):Prop where
 x0:(pr (CQ L L.length) k).1=(BI L k:Int)
 x1:(pr (CQ L L.length) k).2=(BI L (k+1):Int)
 lt:BI L k<BI L (k+1)
 le:BI L (k+1)≤L.length
 o0:opn L (BI L k)=k
 o1:opn L (BI L (k+1))=k+1
 mid:∀j,BI L k≤j→j<BI L (k+1)→opn L (j+1)=k+1
theorem seg {L:Rows} (hL:L.length≤1048576) {k:Nat} (h:k<opn L L.length):Seg L k:=by
 obtain⟨a,h1,h2,h3,h4,h5⟩:=Zl hL L.length (Nat.le_refl _) k h;have p0:BI L k=a:=by unfold BI;simp_all
 have key:(pr (CQ L L.length) k).2=(BI L (k+1):Int)∧a<BI L (k+1)∧BI L (k+1)≤L.length∧opn L (BI L (k+1))=k+1:=by
  rcases h5 with⟨q,b,q1,q2,q3,q4⟩|⟨q,q1⟩
  ·obtain⟨a',g1,g2,g3,g4,_⟩:=Zl hL L.length (Nat.le_refl _) (k+1) q;have e:a'=b:=ye (g3.trans q3.symm) g4 q4;subst e;have p1:BI L (k+1)=a':=by unfold BI;simp_all
   rw[p1];refine⟨q1,?_,by omega,q3⟩
   rcases Nat.lt_or_ge a a' with hl|hl
   ·exact hl
   have:=JH L hl;omega
  have p1:BI L (k+1)=L.length:=by unfold BI;simp_all
  simp_all
 obtain⟨k1,k2,k3,k4⟩:=key;refine⟨by rw[h1,p0],k1,by omega,k3,by simp_all,k4,fun j j1 j2=>?_⟩;rw[p0]at j1;have m1:=JH L (show a+1≤j+1 by omega);have m2:=JH L (show j+1≤BI L (k+1) by omega);rw[Te h4]at m1;omega
theorem AB8 (L:Rows) {a b:Nat} (i j:Nat) (h:i<b-a):AD ((L.take b).drop a) i j=AD L (a+i) j:=by
 unfold AD AB
 grind
theorem qe (L:Rows) {a b:Nat} (i:Nat) (h:i<b-a):evR ((L.take b).drop a) i=evR L (a+i):=by
 unfold evR atI atB;simp only[AB8 L i _ h]
theorem ABM {L:Rows} {a b:Nat} (h:b≤L.length):((L.take b).drop a).length=b-a:=by
 simp_all
theorem AAN {L:Rows} {f:Ev→Int} {c:Int} (hf:∀e,0≤f e∧f e≤c) (j:Nat):∀i:Nat,0≤smi L f j i∧smi L f j i≤c*(i:Int)
 |0=>by
  have:smi L f j 0=0:=rfl;omega
 |i+1=>by
  have ih:=AAN (L:=L) hf j i;have h1:=hf (evR L i);rw[Di,show c*((i+1:Nat):Int)=c*(i:Int)+c by grind]
  grind
structure Sml (x:Sco):Prop where
 runs:0≤x.runs∧x.runs≤1000000
 wk:0≤x.wickets∧x.wickets≤1000000
 balls:0≤x.balls∧x.balls≤1000000
 wides:0≤x.wides∧x.wides≤1000000
 no:0≤x.noballs∧x.noballs≤1000000
 bb:0≤x.byes∧x.byes≤1000000
 lb:0≤x.legbyes∧x.legbyes≤1000000
 pens:0≤x.pens∧x.pens≤1000000
def sdT (L:Rows):Nat→Int:=OY (Jt L) (De L L.length)
structure InLog (L:Rows):Prop where
 len:L.length≤4000
 pen:∀j,j<L.length→((evR L j).kind==13)=true→1≤opn L (j+1)
end Go.Px
end
