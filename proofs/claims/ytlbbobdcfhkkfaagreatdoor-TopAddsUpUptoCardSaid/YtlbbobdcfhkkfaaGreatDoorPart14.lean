/- Part 14. -/
import Derived.Test.YtlbbobdcfhkkfaaGreatDoorPart13
set_option linter.unusedVariables false
set_option linter.unusedSimpArgs false
section
namespace Go.Px
set_option maxRecDepth 100000
theorem MV {L:Rows}:∀ k i m,acc L k i m→∀ j,j<k→((A7 ((i+j:Nat):Int) (stM L j i m) (evR L (i+j))).2==0)=true
 | 0,_,_,_,j,h=>absurd h (Nat.not_lt_zero j)
 | k+1,i,m,ha,0,_=>ha.1
 | k+1,i,m,ha,j+1,h=>by
  have:=MV k (i+1) _ ha.2 j (by omega);rw [show i+1+j=i+(j+1) by omega] at this;exact this
theorem fx (r:Rul) (L:Rows):(Bi r L).length≤L.length:=by
 unfold Bi;cases (AK r).2==0 with
 | false=>exact Nat.zero_le _
 | true =>
  have:=mW L L.length 0 (AK r).1 [];rw [List.length_nil,Nat.zero_add] at this;exact this
abbrev wr (n:Int):Int:=IntKind.i64.wrap n
structure Nums (q:Int) (s t:Inn) (a b c:Int):Prop where
 runs:wr (t.runs - t.pens)=wr (s.runs - s.pens+a)
 rw:wr s.runs=s.runs→wr t.runs=t.runs
 balls:DG q t.complete t.inover=wr (s.complete * q+s.inover+b)
 wk:wr t.wickets=wr (s.wickets+c)
theorem UN (q c i:Int):DG q c i=wr (c * q+i):=by
 unfold DG;simp only [wr,P4];omega
theorem Nums.of {q:Int} {s t:Inn} (h1:t.runs=s.runs) (h2:t.pens=s.pens) (h3:t.complete=s.complete) (h4:t.inover=s.inover) (h5:t.wickets=s.wickets):Nums q s t 0 0 0 :=
 ⟨by rw [h1,h2,Int.add_zero],fun h=>by rw [h1];exact h,by rw [h3,h4,UN,Int.add_zero],by rw [h5,Int.add_zero]⟩
theorem Nums.out {q:Int} {s t:Inn} (h1:t.runs=s.runs) (h2:t.pens=s.pens) (h3:t.complete=s.complete) (h4:t.inover=s.inover) (h5:t.wickets=wr (s.wickets+1)):Nums q s t 0 0 1 :=
 ⟨by rw [h1,h2,Int.add_zero],fun h=>by rw [h1];exact h,by rw [h3,h4,UN,Int.add_zero],by rw [h5];exact Im _⟩
theorem Nums.pen (q:Int) (s:Inn):Nums q s (Ky s) 0 0 0 :=
 ⟨by show wr (wr (s.runs+5) - wr (s.pens+5))=_;simp only [wr,P4];omega,fun _=>Im _,by show DG q s.complete s.inover=_;rw [UN,Int.add_zero],by show wr s.wickets=_;rw [Int.add_zero]⟩
def Bj (e:Ev):Int:=cond ((e.kind==5&&e.yes)||(e.kind==6 && !e.yes)) 1 0
theorem Nums.fin {q:Int} {s t:Inn} {a b c:Int} (h:Nums q s t a b c) (r:Rul) (x:Bool):Nums q s (CC r t x) a b c:=⟨h.runs,h.rw,h.balls,h.wk⟩
def Bp (e:Ev):Int:=cond (e.kind==4) (cond (e.ball.how==0) 0 1) (Bj e)
structure SumInv (q:Int) (xs:List Inn) (R B:Nat→Int) (O:Int):Prop where
 runs:∀ i,i<xs.length→wr ((inn xs i).runs - (inn xs i).pens)=wr (R i)
 rw:∀ i,i<xs.length→wr (inn xs i).runs=(inn xs i).runs
 balls:∀ i,i<xs.length→DG q (inn xs i).complete (inn xs i).inover=wr (B i)
 zero:∀ i,xs.length≤i→R i=0∧B i=0
 wk:wr (xs.map Inn.wickets).sum=wr O
theorem SumInv.congr {q:Int} {xs:List Inn} {R B R' B':Nat→Int} {O O':Int} (h:SumInv q xs R B O) (h1:∀ i,R i=R' i) (h2:∀ i,B i=B' i) (h3:O=O'):SumInv q xs R' B' O' :=
 ⟨fun i hi=>(h.runs i hi).trans (by rw [h1]),h.rw,fun i hi=>(h.balls i hi).trans (by rw [h2]),fun i hi=>by rw [← h1,← h2];exact h.zero i hi,h.wk.trans (by rw [h3])⟩
theorem yU {xs:List Inn} {sd:Int} {k:Nat}:∀ n,KV xs sd n=some k→k<n
 | 0,h=>by cases h
 | n+1,h=>by
  unfold KV at h;cases hq:(inn xs n).side==sd with
  | true=>rw [hq] at h;cases h;exact Nat.lt_succ_self _
  | false=>rw [hq] at h;exact Nat.lt_succ_of_lt (yU n h)
def rT (L:Rows) (j:Nat):Int:=CT ⟨atI L j 20,atI L j 21,atI L j 22,atI L j 23,atI L j 24,atI L j 25,atB L j 26,atB L j 27,atB L j 28,atB L j 29⟩
def rS (L:Rows) (i:Nat):Nat→Int
 | 0=>0
 | n+1=>rS L i n+cond (atI L n 1==(i:Int)) (rT L n) 0
def bS (L:Rows) (i:Nat):Nat→Int
 | 0=>0
 | n+1=>bS L i n+cond (atI L n 1==(i:Int)&&atB L n 26) 1 0
def hS (L:Rows):Nat→Int
 | 0=>0
 | n+1=>hS L n+cond (atI L n 14==0) 0 1
def H6 (xs:List Int):Rows:=xs.map fun x=>[.int x]
theorem QL (xs:List Int):(H6 xs).length=xs.length:=List.length_map _
theorem ABn (xs:List Int) (i:Nat):AB (H6 xs) i=(match xs[i]? with | some x=>[.int x] | none=>[]):=by
 unfold AB H6;rw [zzk,List.getElem?_map];cases xs[i]?<;>rfl
theorem AB5 (xs:List Int) (i:Nat):atI (H6 xs) i 0=xs.getD i 0:=by
 unfold atI AF;rw [ABn,zzk];cases xs[i]?<;>rfl
structure SumSt (D:Rows) (n i:Nat) (s:List Int×List Int×Int):Prop where
 l1:s.1.length=n
 l2:s.2.1.length=n
 r:∀ k,k<n→s.1.getD k 0=wr (rS D k i)
 b:∀ k,k<n→s.2.1.getD k 0=wr (bS D k i)
 h:s.2.2=wr (hS D i)
structure Sco where
 side:Int
 runs:Int
 wickets:Int
 balls:Int
 wides:Int
 noballs:Int
 byes:Int
 legbyes:Int
 pens:Int
 ending:Int
theorem BZ {n:Int} (h1 : -1000000000000≤n) (h2:n≤1000000000000):IntKind.i64.wrap n=n:=A9 (by omega) (by omega)
theorem qD {d:Del} (h:(Dp d==0)=true):(0≤d.runs∧d.runs≤7)∧(0≤d.short∧d.short≤d.runs)∧(d.boundary=0∨d.boundary=4∨d.boundary=6):=by
 unfold Dp at h;cases h1:(iLt d.type 1||iLt 3 d.type||iLt 3 d.source||iLt 10 d.how || !btw d.sector 0 8) with
 | true=>rw [h1] at h;cases h
 | false =>
  cases h2:(!btw d.runs 0 7 || !btw d.short 0 d.runs||(!(d.boundary==0) && !(d.boundary==4) && !(d.boundary==6))) with
  | true=>rw [h1,h2] at h;cases h
  | false =>
   simp only [btw,iLe,Bool.or_eq_false_iff,Bool.not_eq_false',zzj,Bool.and_eq_false_iff,decide_eq_true_eq,beq_iff_eq] at h2;omega
structure CreOk (c:Cre):Prop where
 ba:0≤c.batter∧c.batter≤13
 wi:0≤c.wides∧c.wides≤18
 no:0≤c.noballs∧c.noballs≤5
 bb:0≤c.byes∧c.byes≤13
 lb:0≤c.legbyes∧c.legbyes≤13
 bo:c.bowler=c.batter+c.wides+c.noballs
 tot:CT c=c.batter+c.wides+c.noballs+c.byes+c.legbyes
theorem wI {b w o y l bo:Int} {x1 x2 x3 x4:Bool} (hb:0≤b∧b≤13) (hw:0≤w∧w≤18) (ho:0≤o∧o≤5) (hy:0≤y∧y≤13) (hl:0≤l∧l≤13) (hbo:bo=IntKind.i64.wrap (IntKind.i64.wrap (b+w)+o)):CreOk ⟨b,w,o,y,l,bo,x1,x2,x3,x4⟩:=by
 refine ⟨hb,hw,ho,hy,hl,?_,?_⟩
 ·show bo=b+w+o;rw [hbo,BZ (n:=b+w) (by omega) (by omega),BZ (by omega) (by omega)]
 ·show IntKind.i64.wrap (IntKind.i64.wrap (IntKind.i64.wrap (IntKind.i64.wrap (b+w)+o)+y)+l)=b+w+o+y+l;rw [BZ (n:=b+w) (by omega) (by omega),BZ (n:=b+w+o) (by omega) (by omega),BZ (n:=b+w+o+y) (by omega) (by omega),BZ (by omega) (by omega)]
def X7:Cre:=⟨0,0,0,0,0,0,false,false,false,false⟩
theorem nG:CreOk X7:=wI (by decide) (by decide) (by decide) (by decide) (by decide) rfl
theorem ff {r:Rul} (h:RulOk r) (d:Del):CreOk (AD r d):=by
 unfold AD;cases hl:Dp d==0 with
 | false=>exact nG
 | true =>
  obtain ⟨⟨a1,a2⟩,⟨a3,a4⟩,a5⟩:=qD hl;have hw:=h.wide;have hn:=h.noball;have e1:IntKind.i64.wrap (IntKind.i64.wrap (d.runs - d.short)+d.boundary)=d.runs - d.short+d.boundary:=by
   rw [BZ (n:=d.runs - d.short) (by omega) (by omega),BZ (by omega) (by omega)]
  have n0:0≤d.runs - d.short+d.boundary∧d.runs - d.short+d.boundary≤13:=by omega
  simp only [Bool.not_true,cond_false,KA,e1];generalize d.runs - d.short+d.boundary=n at n0;have e2:IntKind.i64.wrap (r.wide+n)=r.wide+n:=BZ (by omega) (by omega);have c13:∀ b:Bool,0≤cond b n 0∧cond b n 0≤13:=fun b=>by cases b<;>simp<;>omega
  refine wI (c13 _) ?_ ?_ (c13 _) (c13 _) rfl
  ·rw [e2];cases d.type==2<;>simp<;>omega
  ·cases d.type==3<;>simp<;>omega
def A1 (r:Rul) (e:Ev):Cre:=cond (e.kind==4) (AD r e.ball) X7
theorem Fj {r:Rul} (h:RulOk r) (e:Ev):CreOk (A1 r e):=by
 unfold A1;cases e.kind==4
 ·exact nG
 ·exact ff h _
theorem vY (e:Ev):0≤Bp e∧Bp e≤1:=by
 unfold Bp Bj;cases e.kind==4<;>cases e.ball.how==0<;>cases (e.kind==5&&e.yes||e.kind==6 && !e.yes)<;>decide
def Be (q:Int) (s:Inn):Sco:=⟨s.side,s.runs,s.wickets,DG q s.complete s.inover,s.wides,s.noballs,s.byes,s.legbyes,s.pens,0⟩
def Pb (r:Rul) (e:Ev) (x:Sco):Sco:=⟨x.side,x.runs+CT (A1 r e),x.wickets+Bp e,x.balls+cond (A1 r e).counts 1 0,x.wides+(A1 r e).wides,x.noballs+(A1 r e).noballs,x.byes+(A1 r e).byes,x.legbyes+(A1 r e).legbyes,x.pens,x.ending⟩
def K6 (n:Int) (x:Sco):Sco:=⟨x.side,x.runs+n,x.wickets,x.balls,x.wides,x.noballs,x.byes,x.legbyes,x.pens+n,x.ending⟩
theorem Cq (x:Sco):K6 0 x=x:=by
 obtain ⟨x0,x1,x2,x3,x4,x5,x6,x7,x8,x9⟩:=x;simp only [K6,Int.add_zero]
theorem dL {r:Rul} {e:Ev} (x:Sco) (hk:(e.kind==4)=false):Pb r e x={ x with wickets:=x.wickets+Bj e }:=by
 have c0:A1 r e=X7:=by unfold A1;rw [hk];rfl
 have o0:Bp e=Bj e:=by unfold Bp;rw [hk];rfl
 have t0:CT X7=0:=rfl;unfold Pb;rw [c0,o0,t0];simp only [X7,cond_false,Int.add_zero]
theorem NS {r:Rul} {e:Ev} (x:Sco) (hk:(e.kind==4)=false) (ho:Bj e=0):Pb r e x=x:=by
 rw [dL x hk,ho,Int.add_zero]
theorem ABC {r:Rul} {s:Inn} (ok:InnOk r s):0≤s.wickets∧s.wickets≤11:=by
 have h:=ok.bat;unfold U0 at h;simp only [zzj] at h;have h1:=beq_iff_eq.1 h.2.2;have h2:=pB (pIs s.batters 2) s.batters.length;have h3:=(Dm ok.code).side;have h4:=ok.lb;unfold Fr at h1;omega
theorem ABW {c q:Int} (hc:0≤c∧c≤1000000000) (hq:0≤q∧q≤8):0≤c * q∧c * q≤8000000000:=by
 refine ⟨Int.mul_nonneg hc.1 hq.1,?_⟩;have h1:=Int.mul_le_mul_of_nonneg_right hc.2 hq.1;have h2:=Int.mul_le_mul_of_nonneg_left hq.2 (show (0:Int)≤1000000000 by omega);omega
theorem dG {r:Rul} {s:Inn} (ok:InnOk r s):DG r.balls s.complete s.inover=s.complete * r.balls+s.inover∧0≤DG r.balls s.complete s.inover∧DG r.balls s.complete s.inover≤9000000000:=by
 have h1:=(Dm ok.code).balls;have h2:=ok.io;have h3:=ABW ok.complete (show 0≤r.balls∧r.balls≤8 by omega);rw [UN];have:wr (s.complete * r.balls+s.inover)=s.complete * r.balls+s.inover:=BZ (by omega) (by omega);rw [this];omega
theorem ABU {x a d:Int} (h:wr (x - a)=d) (hx:wr x=x) (ha:0≤a∧a≤9000000000) (hd:0≤d∧d≤1000):x=a+d:=by
 simp only [wr,P4] at h hx;omega
theorem yk (q:Int) (r:Rul) (t:Inn) (b:Bool):Be q (CC r t b)=Be q t:=rfl
theorem wP {r:Rul} {s:Inn} {e:Ev} (hk:(e.kind==4)=true) (h:((Af r s e).2==0)=true):Be r.balls (Af r s e).1=Pb r e (Be r.balls s):=by
 obtain ⟨g1,g2,g3,g4,g5,g6,g7,g8,g9,g10⟩:=tz hk h;obtain ⟨hv,he,hn,hw,hp,hs⟩:=LN h;have ok:=Fe.1 hv;have rk:=Dm ok.code;have co:=ff rk e.ball;have k4:=beq_iff_eq.1 hk;have hpb:Al r s e=KN r s e.ball:=by unfold Al;rw [k4];rfl
 rw [hpb] at hp hs;obtain ⟨hr,hb⟩:=WY hp;obtain ⟨q1,q2,q3,q4,q5,q6⟩:=HT hr;have ce:A1 r e=AD r e.ball:=by unfold A1;rw [hk];rfl
 have od:Bp e=cond (e.ball.how==0) 0 1:=by unfold Bp;rw [hk];rfl
 have hx:=dG ok;have r0:=ok.runs;have w0:=ok.wides;have n0:=ok.noballs;have b0:=ok.byes;have l0:=ok.legbyes;have wk:=ABC ok;unfold CK at r0 w0 n0 b0 l0;have f0:=co.ba;have f1:=co.wi;have f2:=co.no;have f3:=co.bb;have f4:=co.lb;have f5:=co.tot;rw [hs,hb] at g1 g7 g8 ⊢;have e1:(CC r (Ic r s e.ball) (e.kind==4)).runs=IntKind.i64.wrap (s.runs+CT (AD r e.ball)):=rfl;have e2:(CC r (Ic r s e.ball) (e.kind==4)).wides=IntKind.i64.wrap (s.wides+(AD r e.ball).wides):=rfl;have e3:(CC r (Ic r s e.ball) (e.kind==4)).noballs=IntKind.i64.wrap (s.noballs+(AD r e.ball).noballs):=rfl;have e4:(CC r (Ic r s e.ball) (e.kind==4)).byes=IntKind.i64.wrap (s.byes+(AD r e.ball).byes):=rfl;have e5:(CC r (Ic r s e.ball) (e.kind==4)).legbyes=IntKind.i64.wrap (s.legbyes+(AD r e.ball).legbyes):=rfl;have e6:(CC r (Ic r s e.ball) (e.kind==4)).side=s.side∧(CC r (Ic r s e.ball) (e.kind==4)).pens=s.pens∧(CC r (Ic r s e.ball) (e.kind==4)).wickets=(Ag s e.ball).wickets:=by
  obtain ⟨w1,w2⟩:=rW r (Ag s e.ball) (AD r e.ball).counts;obtain ⟨k1,k2,k3,k4,k5,k6,k7,k8,k9,k10⟩:=XS s e.ball;have w3:(Av r (Ag s e.ball) (AD r e.ball).counts).1.side=s.side:=by
   have s1:(Ag s e.ball).side=s.side:=by
    unfold Ag;cases (!(e.ball.runs.tmod 2==0) != e.ball.crossed)<;>exact P_c (P:=fun x:Inn=>x.side=s.side) _ _ _ rfl (P_c (P:=fun x:Inn=>x.side=s.side) _ _ _ rfl rfl)
   unfold Av;exact P_c (P:=fun x:Inn×Bool=>x.1.side=s.side) _ _ _ s1 (P_c (P:=fun x:Inn×Bool=>x.1.side=s.side) _ _ _ s1 s1)
  refine ⟨?_,?_,?_⟩
  ·show (cond (Av r (Ag s e.ball) (AD r e.ball).counts).2 (H4 (Av r (Ag s e.ball) (AD r e.ball).counts).1) (Av r (Ag s e.ball) (AD r e.ball).counts).1).side=_;rw [← w3];cases (Av r (Ag s e.ball) (AD r e.ball).counts).2<;>rfl
  ·show (cond (Av r (Ag s e.ball) (AD r e.ball).counts).2 (H4 (Av r (Ag s e.ball) (AD r e.ball).counts).1) (Av r (Ag s e.ball) (AD r e.ball).counts).1).pens=_;rw [← k6,← w2];cases (Av r (Ag s e.ball) (AD r e.ball).counts).2<;>rfl
  ·show (cond (Av r (Ag s e.ball) (AD r e.ball).counts).2 (H4 (Av r (Ag s e.ball) (AD r e.ball).counts).1) (Av r (Ag s e.ball) (AD r e.ball).counts).1).wickets=_;rw [← w1];cases (Av r (Ag s e.ball) (AD r e.ball).counts).2<;>rfl
 obtain ⟨z1,z2⟩:=X2 q1 (Xp hw (by rw [k4];rfl));have hout:=qk (d:=e.ball) z1 z2 (fun hd=>Qe q5 hd);have wv:IntKind.i64.wrap (DG r.balls (CC r (Ic r s e.ball) (e.kind==4)).complete (CC r (Ic r s e.ball) (e.kind==4)).inover)=DG r.balls (CC r (Ic r s e.ball) (e.kind==4)).complete (CC r (Ic r s e.ball) (e.kind==4)).inover:=Im _;have hb7:=ABU g7 wv (by omega) (by cases (AD r e.ball).counts<;>simp);unfold Be Pb;rw [e1,e2,e3,e4,e5,e6.1,e6.2.1,e6.2.2,hb7,ce,od,hout];have i1:IntKind.i64.wrap (s.runs+CT (AD r e.ball))=s.runs+CT (AD r e.ball):=BZ (by omega) (by omega);have i2:IntKind.i64.wrap (s.wides+(AD r e.ball).wides)=s.wides+(AD r e.ball).wides:=BZ (by omega) (by omega);have i3:IntKind.i64.wrap (s.noballs+(AD r e.ball).noballs)=s.noballs+(AD r e.ball).noballs:=BZ (by omega) (by omega);have i4:IntKind.i64.wrap (s.byes+(AD r e.ball).byes)=s.byes+(AD r e.ball).byes:=BZ (by omega) (by omega);have i5:IntKind.i64.wrap (s.legbyes+(AD r e.ball).legbyes)=s.legbyes+(AD r e.ball).legbyes:=BZ (by omega) (by omega);have i6:inc s.wickets=s.wickets+1:=BZ (by omega) (by omega);rw [i1,i2,i3,i4,i5,i6];cases e.ball.how==0 with
 | false=>rfl
 | true=>simp only [cond_true,Int.add_zero]
def Kz (q:Int) (s:Inn) (x:Inn×Int):Prop:=(x.2==0)=true→Be q x.1=Be q s
theorem Ef {q:Int} {s:Inn} (b:Bool) (x y:Inn×Int) (hx:Kz q s x) (hy:Kz q s y):Kz q s (cond b x y):=by cases b<;>assumption
theorem nB {r:Rul} {s:Inn} {e:Ev} (h:((Af r s e).2==0)=true):Be r.balls (Af r s e).1=K6 (cond (e.kind==13&&e.side==s.side) 5 0) (Pb r e (Be r.balls s)):=by
 cases hk:e.kind==4 with
 | true =>
  rw [wP hk h,beq_iff_eq.1 hk];exact (Cq _).symm
 | false =>
  obtain ⟨hv,he,hn,hw,hp,hs⟩:=LN h;have ok:=Fe.1 hv;have wk:=ABC ok;have iw:IntKind.i64.wrap (s.wickets+1)=s.wickets+1:=BZ (by omega) (by omega);rw [hs,yk,dL _ hk];have z:∀ {x:Inn×Int},Kz r.balls s x→(x.2==0)=true→Bj e=0→Be r.balls x.1=K6 (cond (false&&e.side==s.side) 5 0) { Be r.balls s with wickets:=(Be r.balls s).wickets+Bj e }:=fun k hx h0=>by
   rw [k hx,h0,Int.add_zero];exact (Cq _).symm
  have kn:∀ {t:Inn} {n:Int},(n==0)=false→Kz r.balls s (t,n):=fun hn hx=>by rw [hn] at hx;cases hx
  have ks:∀ {n:Int},Kz r.balls s (s,n):=fun _=>rfl
  revert hp
  unfold Al;rw [hk];cases h5:e.kind==5 with
  | true =>
   have h5':=beq_iff_eq.1 h5;have ho:Bj e=cond e.yes 1 0:=by unfold Bj;rw [h5'];cases e.yes<;>rfl
   rw [ho,h5'];cases e.yes with
   | false =>
    intro hp;refine Eq.trans (b:=Be r.balls s) ?_ ?_
    ·exact (show Kz r.balls s (Fy s e.player) by unfold Fy;exact Ef _ _ _ (fun _=>rfl) (fun _=>rfl)) hp
    ·simp only [cond_false,Int.add_zero];exact (Cq _).symm
   | true =>
    intro hp;change ((DK s e.player).2==0)=true at hp;show Be r.balls (DK s e.player).1=_;unfold DK at hp ⊢;cases hm:F4 s e.player==0 with
    | false=>rw [hm] at hp;exact absurd (show (F4 s e.player==0)=true from hp) (by rw [hm];decide)
    | true =>
     simp only [cond_true];unfold Be K6;simp only [iw,cond_true,Int.reduceBEq,Bool.false_and,cond_false,Int.add_zero]
  | false =>
   cases h6:e.kind==6 with
   | true =>
    have h6':=beq_iff_eq.1 h6;have ho:Bj e=cond e.yes 0 1:=by unfold Bj;rw [h6'];cases e.yes<;>rfl
    rw [ho,h6'];intro hp;change ((D2 s e.player e.yes).2==0)=true at hp;show Be r.balls (D2 s e.player e.yes).1=_;unfold D2 at hp ⊢;cases hm1:(!inR e.player s.batters.length) with
    | true=>rw [hm1] at hp;cases hp
    | false =>
     cases hm2:(s.striker==0||s.other==0) with
     | true=>rw [hm1,hm2] at hp;cases hp
     | false =>
      cases hm3:(!(e.player==s.striker) && !(e.player==s.other)) with
      | true=>rw [hm1,hm2,hm3] at hp;cases hp
      | false =>
       cases hm4:(e.yes&&((EY s.batters s.batters.length).length:Int)==0) with
       | true=>rw [hm1,hm2,hm3,hm4] at hp;cases hp
       | false =>
        simp only [cond_false];cases e.yes with
        | true=>unfold Be K6;simp only [cond_true,Int.reduceBEq,Bool.false_and,cond_false,Int.add_zero]
        | false=>unfold Be K6;simp only [iw,cond_false,Int.reduceBEq,Bool.false_and,Int.add_zero]
   | false =>
    have ho:Bj e=0:=by unfold Bj;rw [h5,h6];rfl
    cases h13:e.kind==13 with
    | true =>
     have k13:=beq_iff_eq.1 h13;rw [k13,ho];intro hp;change ((F1 s e.side e.runs).2==0)=true at hp;show Be r.balls (F1 s e.side e.runs).1=_;have rn:=ok.runs;have pn:=ok.pens;unfold CK at rn pn;have i1:IntKind.i64.wrap (s.runs+5)=s.runs+5:=BZ (by omega) (by omega);have i2:IntKind.i64.wrap (s.pens+5)=s.pens+5:=BZ (by omega) (by omega);unfold F1 at hp ⊢;cases hr5:e.runs==5 with
     | false=>rw [hr5] at hp;cases hp
     | true =>
      cases hsd:e.side==s.side with
      | true =>
       simp only [Bool.not_true,cond_false,cond_true];unfold Be K6 Ky;simp only [i1,i2,Bool.and_self,cond_true,Int.reduceBEq,Bool.true_and,Int.add_zero]
      | false =>
       simp only [Bool.not_true,cond_false,Bool.and_false,Int.add_zero];exact (Cq _).symm
    | false =>
     simp only [cond_false];intro hp;refine z ?_ hp ho;refine Ef _ _ _ ?_ (Ef _ _ _ ?_ (Ef _ _ _ ?_ (Ef _ _ _ ?_ (Ef _ _ _ ?_ (Ef _ _ _ ?_ (Ef _ _ _ ?_ (Ef _ _ _ ?_ ?_)))))))
     ·unfold I5;exact Ef _ _ _ ks (Ef _ _ _ ks (Ef _ _ _ ks (fun _=>rfl)))
     ·unfold Sm;cases Ng r s e.player==0
      ·exact ks
      ·exact fun _=>rfl
     ·unfold JB;exact Ef _ _ _ ks (fun _=>rfl)
     ·unfold LP;exact Ef _ _ _ ks (Ef _ _ _ ks (Ef _ _ _ ks (fun _=>rfl)))
     ·unfold Oj;exact Ef _ _ _ ks (Ef _ _ _ ks (fun _=>rfl))
     ·unfold JM;exact Ef _ _ _ ks (fun _=>rfl)
     ·unfold JG;exact Ef _ _ _ ks (Ef _ _ _ ks (fun _=>rfl))
     ·unfold Jq;exact Ef _ _ _ ks (Ef _ _ _ (fun _=>rfl) ks)
     ·unfold Ld;exact Ef _ _ _ ks (Ef _ _ _ ks (Ef _ _ _ ks (fun _=>rfl)))
def sco (xs:List Sco) (i:Nat):Sco:=xs.getD i ⟨0,0,0,0,0,0,0,0,0,0⟩
theorem FG (xs:List Sco) (i:Nat):sco xs i=(match xs[i]? with | some s=>s | none=>⟨0,0,0,0,0,0,0,0,0,0⟩):=by
 unfold sco;rw [zzk];cases xs[i]?<;>rfl
theorem Wc (xs:List Sco) (k:Nat) (s:Sco) (i:Nat) (hi:i<xs.length):sco (xs.set k s) i=(if k=i then s else sco xs i):=by
 rw [FG,FG,List.getElem?_set]
 by_cases h:k=i
 ·subst h;rw [if_pos rfl,if_pos rfl,if_pos hi]
 ·rw [if_neg h,if_neg h]
theorem AAC (xs:List Sco) (s:Sco) (i:Nat) (hi:i<xs.length+1):sco (xs++[s]) i=(if i<xs.length then sco xs i else s):=by
 rw [FG,FG]
 by_cases h:i<xs.length
 ·rw [if_pos h,List.getElem?_append_left h]
 ·have:i=xs.length:=by omega
  subst this;rw [if_neg h,List.getElem?_append_right (Nat.le_refl _),Nat.sub_self];rfl
structure TS where
 xs:List Sco
 p1:Int
 p2:Int
 first:Int
 follow:Bool
def EA (m:Mat):TS:=⟨m.inns.map (Be m.rules.balls),m.pen1,m.pen2,m.first,m.follow⟩
theorem Nh (q:Int) (xs:List Inn) {i:Nat} (h:i<xs.length):sco (xs.map (Be q)) i=Be q (inn xs i):=by
 rw [FG,Jg,List.getElem?_map,zzn h];rfl
theorem xB (q:Int) (xs:List Inn) (i:Nat):(sco (xs.map (Be q)) i).side=(inn xs i).side:=by
 rw [FG,Jg,List.getElem?_map];cases xs[i]?<;>rfl
def LO (first:Int) (follow:Bool) (i:Int):Int:=cond (cond (follow&&iLe 2 i) (i==2) (i.tmod 2==1)) (Bg first) first
theorem sH (m:Mat) (i:Int):B8 m i=LO m.first m.follow i:=rfl
def me (sd p:Int):Sco:=⟨sd,p,0,0,0,0,0,0,p,0⟩
def CD (sd:Nat→Int) (s:Int):Nat→Option Nat
 | 0=>none
 | k+1=>cond (sd k==s) (some k) (CD sd s k)
theorem SU {f g:Nat→Int} {s:Int}:∀ n,(∀ k,k<n→f k=g k)→CD f s n=CD g s n
 | 0,_=>rfl
 | n+1,h=>by
  unfold CD;rw [h n (Nat.lt_succ_self n),SU n (fun k hk=>h k (by omega))]
theorem K1 {f:Nat→Int} {s:Int} {j:Nat}:∀ n,CD f s n=some j→j<n∧f j=s
 | 0,h=>by cases h
 | n+1,h=>by
  unfold CD at h;cases hq:f n==s with
  | true =>
   rw [hq] at h;cases h;exact ⟨Nat.lt_succ_self _,beq_iff_eq.1 hq⟩
  | false =>
   rw [hq] at h;obtain ⟨h1,h2⟩:=K1 n h;exact ⟨by omega,h2⟩
theorem Zd {f:Nat→Int} {s:Int}:∀ n,CD f s n=none→∀ j,j<n→¬ f j=s
 | 0,_,j,hj=>absurd hj (Nat.not_lt_zero j)
 | n+1,h,j,hj=>by
  unfold CD at h;cases hq:f n==s with
  | true=>rw [hq] at h;cases h
  | false =>
   rw [hq] at h
   by_cases e:j=n
   ·subst e;exact beq_eq_false_iff_ne.1 hq
   ·exact Zd n h j (by omega)
theorem rF (xs:List Inn) (sd:Int):∀ n,KV xs sd n=CD (fun k=>(inn xs k).side) sd n
 | 0=>rfl
 | n+1=>by
  unfold KV CD;rw [rF xs sd n]
def mJ (T:TS):TS :=
 let sd:=LO T.first T.follow (T.xs.length:Int)
 { T with xs:=T.xs++[me sd (cond (sd==2) T.p2 T.p1)],p1:=cond (sd==1) 0 T.p1,p2:=cond (sd==2) 0 T.p2 }
def X5 (s:Int) (T:TS):TS:=match CD (fun k=>(sco T.xs k).side) s T.xs.length with
 | some k=>{ T with xs:=T.xs.set k (K6 5 (sco T.xs k)) }
 | none=>{ T with p1:=cond (s==1) (T.p1+5) T.p1,p2:=cond (s==2) (T.p2+5) T.p2 }
def mI (r:Rul) (e:Ev) (T:TS):TS:={ T with xs:=T.xs.set (T.xs.length - 1) (Pb r e (sco T.xs (T.xs.length - 1))) }
def S7 (e:Ev):Int:=cond e.yes e.side (Bg e.side)
def Uq (r:Rul) (e:Ev) (T:TS):TS :=
 cond (e.kind==1) { T with first:=S7 e } (cond (e.kind==2) (mJ T) (cond (e.kind==12) { T with follow:=e.yes } (cond (e.kind==16) T (cond (e.kind==13) (X5 e.side T) (mI r e T)))))
theorem ZO (x:Mat):EA (CV x)=EA x∧(CV x).inns=x.inns∧((CV x).stage=x.stage∨(x.stage=3∧((CV x).stage=5∨((CV x).stage=4∧x.inns.length=2)∨(CV x).stage=2))):=by
 unfold CV;cases h3:(x.stage==3 && !((AJ x).ending==0)) with
 | false=>exact ⟨rfl,rfl,Or.inl rfl⟩
 | true =>
  rw [zzj] at h3;have s3:=beq_iff_eq.1 h3.1;simp only [cond_true];unfold P8
  dsimp only
  cases ((x.inns.length:Int)==IntKind.i64.wrap (2 * x.rules.innings)||((x.inns.length:Int)==3&&iLt (Cv x (AJ x).side) (Cv x (Bg (AJ x).side)))) with
  | true=>exact ⟨rfl,rfl,Or.inr ⟨s3,Or.inl rfl⟩⟩
  | false =>
   cases h4:((x.inns.length:Int)==2&&iLt 0 x.rules.followon&&iLe x.rules.followon (IntKind.i64.wrap (Cv x x.first - Cv x (Bg x.first)))) with
   | true =>
    simp only [zzj,beq_iff_eq] at h4;exact ⟨rfl,rfl,Or.inr ⟨s3,Or.inr (Or.inl ⟨rfl,by omega⟩)⟩⟩
   | false=>exact ⟨rfl,rfl,Or.inr ⟨s3,Or.inr (Or.inr rfl)⟩⟩
theorem gJ {m:Mat} (h:G7 m=true):(0≤m.pen1∧m.pen1≤1000000)∧(0≤m.pen2∧m.pen2≤1000000)∧((m.stage==1)=true→m.first=0)∧((m.stage==4)=true→m.inns.length=2)∧0≤m.first∧m.first≤2:=by
 unfold G7 mQ at h;simp only [zzj,Bool.not_eq_true'] at h;obtain ⟨⟨h1,h2,h3,h4,h5,h6,h7,h8,h9,h10⟩,h11,h12⟩:=h;unfold fD at h4;simp only [Bool.or_eq_false_iff,iLt,decide_eq_false_iff_not] at h4;simp only [Bool.or_eq_false_iff,iLt,decide_eq_false_iff_not] at h5;refine ⟨by omega,by omega,fun hs=>?_,fun hs=>?_,by omega,by omega⟩
 ·rw [hs,Bool.true_and,Bool.not_eq_false',beq_iff_eq] at h7;exact h7
 ·rw [hs,Bool.true_and,Bool.or_eq_false_iff,Bool.not_eq_false',Bool.not_eq_false',beq_iff_eq,beq_iff_eq] at h9;omega
theorem vq {r:Rul} {a b c:Int} (h:((B7 r a b c).2==0)=true):Be r.balls (B7 r a b c).1=me a c∧(a=1∨a=2):=by
 unfold B7 at h ⊢;cases h1:BJ r==0 with
 | false=>rw [h1] at h;exact absurd (show (BJ r==0)=true from h) (by rw [h1];decide)
 | true =>
  cases h2:(!btw a 1 2 || !btw b 0 1000000 || !btw c 0 1000000) with
  | true=>rw [h1,h2] at h;cases h
  | false =>
   rw [Bool.or_eq_false_iff,Bool.or_eq_false_iff,Bool.not_eq_false'] at h2;have:=Wq.1 h2.1.1;refine ⟨?_,by omega⟩;show Sco.mk a c 0 (DG r.balls 0 0) 0 0 0 0 c 0=_;rw [UN,Int.zero_mul];rfl
theorem MP (q:Int) (xs:List Inn) (k:Nat) (t:Inn):(xs.set k t).map (Be q)=(xs.map (Be q)).set k (Be q t):=List.map_set
theorem pX (xs:List Sco) (k:Nat) (h:k<xs.length):xs.set k (sco xs k)=xs:=by
 apply List.ext_getElem?;intro i;rw [List.getElem?_set]
 by_cases e:k=i
 ·subst e;rw [if_pos rfl,if_pos h,FG,zzn h]
 ·rw [if_neg e]
theorem zU {r:Rul} {s:Inn} (hv:IK r s=true) (q:Int):Be q (Ky s)=K6 5 (Be q s):=by
 have ok:=Fe.1 hv;have rn:=ok.runs;have pn:=ok.pens;unfold CK at rn pn;have i1:IntKind.i64.wrap (s.runs+5)=s.runs+5:=BZ (by omega) (by omega);have i2:IntKind.i64.wrap (s.pens+5)=s.pens+5:=BZ (by omega) (by omega);unfold Be K6 Ky;simp only [i1,i2]
structure Stg (m:Mat) (e:Ev) (t:Mat):Prop where
 k1:(e.kind==1)=true→m.stage=1∧t.stage=2
 k2:(e.kind==2)=true→m.stage=2∧m.inns.length≤3
 k12:(e.kind==12)=true→m.stage=4∧m.inns.length=2∧t.stage=2
 k16:(e.kind==16)=true→t.stage=5
 play:(e.kind==1)=false→(e.kind==2)=false→(e.kind==12)=false→(e.kind==16)=false→m.stage=3∧1≤m.inns.length
 not1:¬ t.stage=1
 four:t.stage=4→t.inns.length=2
set_option maxHeartbeats 4000000 in
theorem nr {m:Mat} {e:Ev} (h:((Bu m e).2==0)=true):EA (Bu m e).1=Uq m.rules e (EA m)∧Stg m e (Bu m e).1:=by
 obtain ⟨hv,he,h5,hp,hs⟩:=M9 h;have ok:=W4 hv;obtain ⟨v1,v2,v3,v4,v5,v6⟩:=gJ hv;obtain ⟨c1,c2,c3⟩:=ZO (Ec m e).1;rw [hs,c1];have len4:=ok.len;unfold Uq;unfold Ec at hp c2 c3 ⊢;cases k1:e.kind==1 with
 | true =>
  have e1:=beq_iff_eq.1 k1;rw [k1] at hp c2 c3;cases s1:m.stage==1 with
  | false=>rw [s1] at hp;cases hp
  | true =>
   rw [s1] at c2 c3;simp only [Bool.not_true,cond_false,cond_true] at c2 c3 ⊢;refine ⟨rfl,?_⟩;have st:(CV { m with first:=cond e.yes e.side (Bg e.side),stage:=2 }).stage=2:=by
    rcases c3 with c3 | c3
    ·exact c3
    ·exact absurd c3.1 (by decide)
   exact ⟨fun _=>⟨beq_iff_eq.1 s1,st⟩,fun k=>(by rw [e1] at k;cases k),fun k=>(by rw [e1] at k;cases k),fun k=>(by rw [e1] at k;cases k),fun k=>(by rw [e1] at k;cases k),by rw [st];decide,(by rw [st];intro k;cases k)⟩
 | false =>
  rw [k1] at hp c2 c3;cases k2:e.kind==2 with
  | true =>
   have e2:=beq_iff_eq.1 k2;rw [k2] at hp c2 c3;cases s2:m.stage==2 with
   | false=>rw [s2] at hp;cases hp
   | true =>
    rw [s2] at hp c2 c3;simp only [Bool.not_true,cond_false,cond_true] at hp c2 c3 ⊢;have room:=ok.room s2;have inn2:=(Dm ok.code).innings;unfold SK at hp c2 c3 ⊢;cases hb:(B7 m.rules (B8 m (m.inns.length:Int)) (D0 m (B8 m (m.inns.length:Int))) (cond (B8 m (m.inns.length:Int)==2) m.pen2 m.pen1)).2==0 with
    | false=>simp only [hb,Bool.not_false,cond_true] at hp;cases hp
    | true =>
     simp only [hb,Bool.not_true,cond_false] at hp c2 c3 ⊢;cases ht:(Af m.rules (B7 m.rules (B8 m (m.inns.length:Int)) (D0 m (B8 m (m.inns.length:Int))) (cond (B8 m (m.inns.length:Int)==2) m.pen2 m.pen1)).1 e).2==0 with
     | false=>simp only [ht,Bool.not_false,cond_true] at hp;exact absurd hp Bool.false_ne_true
     | true =>
      simp only [ht,Bool.not_true,cond_false] at c2 c3 ⊢;have n1:=nB ht;have o0:Bj e=0:=by unfold Bj;rw [e2];rfl
      rw [NS _ (by rw [e2];rfl) o0,e2] at n1;have n2:=n1.trans (Cq _);rw [(vq hb).1] at n2;refine ⟨?_,?_⟩
      ·unfold EA mJ;rw [← sH] at *
       simp only [List.map_append,List.map_cons,List.map_nil,n2,List.length_map]
      ·refine ⟨fun k=>(by rw [k1] at k;cases k),fun _=>⟨beq_iff_eq.1 s2,by omega⟩,fun k=>(by rw [e2] at k;cases k),fun k=>(by rw [e2] at k;cases k),fun _ k=>(by rw [k2] at k;cases k),?_,?_⟩
       ·rcases c3 with c3 | ⟨_,c3 | c3 | c3⟩
        ·rw [c3];decide
        ·rw [c3];decide
        ·rw [c3.1];decide
        ·rw [c3];decide
       ·intro k;rw [c2]
        rcases c3 with c3 | ⟨_,c3 | c3 | c3⟩
        ·rw [c3] at k;cases k
        ·rw [c3] at k;cases k
        ·exact c3.2
        ·rw [c3] at k;cases k
  | false =>
   rw [k2] at hp c2 c3;cases k12:e.kind==12 with
   | true =>
    have e12:=beq_iff_eq.1 k12;rw [k12] at hp c2 c3;cases s4:m.stage==4 with
    | false=>rw [s4] at hp;cases hp
    | true =>
     rw [s4] at hp c2 c3;cases sf:e.side==m.first with
     | false=>rw [sf] at hp;cases hp
     | true =>
      rw [sf] at c2 c3;simp only [Bool.not_true,cond_false,cond_true] at c2 c3 ⊢;refine ⟨rfl,?_⟩;have st:(CV { m with follow:=e.yes,stage:=2 }).stage=2:=by
       rcases c3 with c3 | c3
       ·exact c3
       ·exact absurd c3.1 (by decide)
      exact ⟨fun k=>(by rw [k1] at k;cases k),fun k=>(by rw [k2] at k;cases k),fun _=>⟨beq_iff_eq.1 s4,v4 s4,st⟩,fun k=>(by rw [e12] at k;cases k),fun _ _ k=>(by rw [k12] at k;cases k),by rw [st];decide,(by rw [st];intro k;cases k)⟩
   | false =>
    rw [k12] at hp c2 c3;cases k16:e.kind==16 with
    | true =>
     rw [k16] at hp c2 c3;simp only [cond_false,cond_true] at c2 c3 ⊢;have st:(CV (VD m)).stage=5:=by
      rcases c3 with c3 | c3
      ·exact c3
      ·exact absurd c3.1 (by show ¬ ((5:Int)=3);decide)
     refine ⟨?_,⟨fun k=>(by rw [k1] at k;cases k),fun k=>(by rw [k2] at k;cases k),fun k=>(by rw [k12] at k;cases k),fun _=>st,fun _ _ _ k=>(by rw [k16] at k;cases k),by rw [st];decide,(by rw [st];intro k;cases k)⟩⟩;unfold EA VD;simp only;cases s3:m.stage==3 with
     | false=>rfl
     | true =>
      have hl:=Tf (ok.begun s3) (by omega);simp only [cond_true,MP];rw [show Be m.rules.balls { AJ m with ending:=5 }=sco (m.inns.map (Be m.rules.balls)) (lnx m.inns) from (Nh _ _ hl).symm,pX _ _ (by rw [List.length_map];exact hl)]
    | false =>
     rw [k16] at hp c2 c3;simp only [cond_false] at hp c2 c3 ⊢;cases s3:m.stage==3 with
     | false=>rw [s3] at hp;exact absurd (show ((1:Int)==0)=true from hp) (by decide)
     | true =>
      rw [s3] at hp c2 c3;simp only [Bool.not_true,cond_false] at hp c2 c3 ⊢;have h0:=ok.begun s3;have hl:=Tf h0 (by omega);have hlen:m.inns.length - 1=lnx m.inns:=by
       rw [beq_eq_false_iff_ne] at h0;unfold lnx;rw [A9 (by omega) (by omega)];omega
      have stg:(CV (EE m e).1).inns.length=m.inns.length→((CV (EE m e).1).stage=3∨((CV (EE m e).1).stage=5∨((CV (EE m e).1).stage=4∧m.inns.length=2)∨(CV (EE m e).1).stage=2))→Stg m e (CV (EE m e).1):=fun hn hq =>
       ⟨fun k=>(by rw [k1] at k;cases k),fun k=>(by rw [k2] at k;cases k),fun k=>(by rw [k12] at k;cases k),fun k=>(by rw [k16] at k;cases k),fun _ _ _ _=>⟨beq_iff_eq.1 s3,by omega⟩,by
        rcases hq with q | q | q | q
        ·rw [q];decide
        ·rw [q];decide
        ·rw [q.1];decide
        ·rw [q];decide,by
        intro k;rw [hn]
        rcases hq with q | q | q | q
        ·rw [q] at k;cases k
        ·rw [q] at k;cases k
        ·exact q.2
        ·rw [q] at k;cases k⟩
      have xl:(m.inns.map (Be m.rules.balls)).length=m.inns.length:=List.length_map _;cases hq:(Af m.rules (AJ m) e).2==0 with
      | false=>unfold EE at hp;simp only [hq,Bool.not_false,cond_true] at hp;exact absurd hp Bool.false_ne_true
      | true =>
       have n1:=nB hq;have sd1:(Af m.rules (AJ m) e).1.side=(AJ m).side:=congrArg Sco.side n1;have s3':=beq_iff_eq.1 s3;cases k13:e.kind==13 with
       | false =>
        rw [k13] at n1;have n2:=n1.trans (Cq _);have pm:EE m e=({ m with inns:=m.inns.set (lnx m.inns) (Af m.rules (AJ m) e).1 },0):=by
         unfold EE;simp only [hq,k13,Bool.not_true,Bool.false_and,cond_false]
        rw [pm] at c2 c3 stg ⊢;refine ⟨?_,stg (by rw [c2];exact List.length_set) ?_⟩
        ·unfold EA mI;simp only [cond_false,MP,n2,xl,hlen,Nh _ _ hl];rfl
        ·rcases c3 with c3 | ⟨_,c3 | c3 | c3⟩
         ·exact Or.inl (c3.trans s3')
         ·exact Or.inr (Or.inl c3)
         ·exact Or.inr (Or.inr (Or.inl ⟨c3.1,by have:=c3.2;change (m.inns.set _ _).length=2 at this;rw [List.length_set] at this;exact this⟩))
         ·exact Or.inr (Or.inr (Or.inr c3))
       | true =>
        have e13:=beq_iff_eq.1 k13;have o0:Bj e=0:=by unfold Bj;rw [e13];rfl
        rw [NS _ (by rw [e13];rfl) o0,k13,Bool.true_and] at n1;have bk:CD (fun k=>(sco (m.inns.map (Be m.rules.balls)) k).side) e.side m.inns.length=cond (e.side==(AJ m).side) (some (lnx m.inns)) (CD (fun k=>(inn m.inns k).side) e.side (lnx m.inns)):=by
         have:m.inns.length=lnx m.inns+1:=by omega
         rw [this];show cond ((sco (m.inns.map (Be m.rules.balls)) (lnx m.inns)).side==e.side) _ (CD (fun k=>(sco (m.inns.map (Be m.rules.balls)) k).side) e.side (lnx m.inns))=_;simp only [xB];have sy:((inn m.inns (lnx m.inns)).side==e.side)=(e.side==(AJ m).side):=by
          show ((AJ m).side==e.side)=_;rw [Bool.eq_iff_iff,beq_iff_eq,beq_iff_eq];exact eq_comm
         rw [sy]
        cases hsd:e.side==(AJ m).side with
        | true =>
         rw [hsd] at n1 bk;simp only [cond_true] at n1 bk;have pm:EE m e=({ m with inns:=m.inns.set (lnx m.inns) (Af m.rules (AJ m) e).1 },0):=by
          unfold EE;simp only [hq,k13,sd1,hsd,Bool.not_true,Bool.and_false,cond_false]
         rw [pm] at c2 c3 stg ⊢;refine ⟨?_,stg (by rw [c2];exact List.length_set) ?_⟩
         ·unfold EA X5;simp only [cond_true,MP,n1,xl,bk,Nh _ _ hl];rfl
         ·rcases c3 with c3 | ⟨_,c3 | c3 | c3⟩
          ·exact Or.inl (c3.trans s3')
          ·exact Or.inr (Or.inl c3)
          ·exact Or.inr (Or.inr (Or.inl ⟨c3.1,by have:=c3.2;change (m.inns.set _ _).length=2 at this;rw [List.length_set] at this;exact this⟩))
          ·exact Or.inr (Or.inr (Or.inr c3))
        | false =>
         rw [hsd] at n1 bk;simp only [cond_false] at n1 bk;have n2:=n1.trans (Cq _);have pm:EE m e=(EF { m with inns:=m.inns.set (lnx m.inns) (Af m.rules (AJ m) e).1 } e.side,0):=by
          unfold EE;simp only [hq,k13,sd1,hsd,Bool.not_true,Bool.not_false,Bool.and_true,cond_true,cond_false]
         have ab:KV (m.inns.set (lnx m.inns) (Af m.rules (AJ m) e).1) e.side (m.inns.set (lnx m.inns) (Af m.rules (AJ m) e).1).length=CD (fun k=>(inn m.inns k).side) e.side (lnx m.inns):=by
          rw [rF,List.length_set,show m.inns.length=lnx m.inns+1 by omega];show cond ((inn (m.inns.set (lnx m.inns) (Af m.rules (AJ m) e).1) (lnx m.inns)).side==e.side) (some (lnx m.inns)) (CD (fun k=>(inn (m.inns.set (lnx m.inns) (Af m.rules (AJ m) e).1) k).side) e.side (lnx m.inns))=CD (fun k=>(inn m.inns k).side) e.side (lnx m.inns);rw [Sz _ _ _ _ hl,if_pos rfl,sd1];have sy:((AJ m).side==e.side)=false:=by
           rw [← hsd,Bool.eq_iff_iff,beq_iff_eq,beq_iff_eq];exact eq_comm
          rw [sy];exact SU _ (fun k hk=>by rw [Sz _ _ _ _ (by omega),if_neg (by omega)])
         have mx:(m.inns.set (lnx m.inns) (Af m.rules (AJ m) e).1).map (Be m.rules.balls)=m.inns.map (Be m.rules.balls):=by
          rw [MP,n2,show Be m.rules.balls (AJ m)=sco (m.inns.map (Be m.rules.balls)) (lnx m.inns) from (Nh _ _ hl).symm];exact pX _ _ (by rw [xl];exact hl)
         obtain ⟨a1,a2,a3,a4⟩:=oB (m:={ m with inns:=m.inns.set (lnx m.inns) (Af m.rules (AJ m) e).1 }) e.side (TP (lnx m.inns) (lH ok) (by
          have lv:=SN (ok.innv (lnx m.inns) hl).1;have l1:=lv.1;have l2:=lv.2.1;exact UJ (Nf m.rules (AJ m) e) lv.2.2 (show (inn m.inns (lnx m.inns)).before.length+(inn m.inns (lnx m.inns)).bowlers.length≤1048575 by omega)))
         have a3':(EF { m with inns:=m.inns.set (lnx m.inns) (Af m.rules (AJ m) e).1 } e.side).inns.length=m.inns.length:=a3.trans List.length_set;rw [pm] at c2 c3 stg ⊢;refine ⟨?_,stg (by rw [c2];exact a3') ?_⟩
         ·simp only [cond_true];unfold EF;simp only [ab];unfold X5;show EA _=match CD (fun k=>(sco (m.inns.map (Be m.rules.balls)) k).side) e.side (m.inns.map (Be m.rules.balls)).length with
           | some k=>_
           | none=>_
          rw [xl,bk];cases hk:CD (fun k=>(inn m.inns k).side) e.side (lnx m.inns) with
          | none =>
           have i1:IntKind.i64.wrap (m.pen1+5)=m.pen1+5:=BZ (by omega) (by omega);have i2:IntKind.i64.wrap (m.pen2+5)=m.pen2+5:=BZ (by omega) (by omega);unfold EA;simp only [mx,i1,i2]
          | some k =>
           have hk2:=(K1 _ hk).1;have hki:inn (m.inns.set (lnx m.inns) (Af m.rules (AJ m) e).1) k=inn m.inns k:=by rw [Sz _ _ _ _ (by omega),if_neg (by omega)]
           unfold EA;simp only [hki,MP (k:=k),mx,zU (ok.innv k (by omega)).1,Nh _ _ (show k<m.inns.length by omega)]
         ·rcases c3 with c3 | ⟨_,c3 | c3 | c3⟩
          ·exact Or.inl (c3.trans (a4.trans s3'))
          ·exact Or.inr (Or.inl c3)
          ·exact Or.inr (Or.inr (Or.inl ⟨c3.1,a3'.symm.trans c3.2⟩))
          ·exact Or.inr (Or.inr (Or.inr c3))
def opn (L:Rows):Nat→Nat
 | 0=>0
 | n+1=>opn L n+cond ((evR L n).kind==2) 1 0
theorem Kv (L:Rows) (n:Nat):opn L n≤opn L (n+1):=by
 show opn L n≤opn L n+_;exact Nat.le_add_right _ _
theorem E6 (L:Rows) {i:Nat}:∀ {j:Nat},i≤j→opn L i≤opn L j
 | 0,h=>by rw [Nat.le_zero.1 h];exact Nat.le_refl _
 | j+1,h=>by
  by_cases e:i=j+1
  ·rw [e];exact Nat.le_refl _
  ·exact Nat.le_trans (E6 L (by omega)) (Kv L j)
def EK (L:Rows):Nat→Option Int
 | 0=>none
 | n+1=>match EK L n with
  | some v=>some v
  | none=>cond ((evR L n).kind==1) (some (S7 (evR L n))) none
theorem WE {L:Rows} {v:Int} {i:Nat} (h:EK L i=some v):∀ {j:Nat},i≤j→EK L j=some v
 | 0,hj=>by rw [Nat.le_zero.1 hj] at h;exact h
 | j+1,hj=>by
  by_cases e:i=j+1
  ·rw [← e];exact h
  ·unfold EK;rw [WE h (show i≤j by omega)]
def ES (L:Rows):Nat→Bool
 | 0=>false
 | n+1=>ES L n||((evR L n).kind==12&&(evR L n).yes)
def had (L:Rows):Nat→Bool
 | 0=>false
 | n+1=>had L n||(evR L n).kind==12
theorem rZ {L:Rows}:∀ n,had L n=false→ES L n=false
 | 0,_=>rfl
 | n+1,h=>by
  unfold had at h;unfold ES;rw [Bool.or_eq_false_iff] at h;rw [rZ n h.1,h.2];rfl
structure LogI (L:Rows) (i:Nat) (m:Mat):Prop where
 len:m.inns.length=opn L i
 fs:∀ v,EK L i=some v→m.first=v∧¬ m.stage=1
 fn:EK L i=none→m.first=0
 fol:m.follow=ES L i
 k12:had L i=true→(m.inns.length=2∧(m.stage=2∨m.stage=5))∨3≤m.inns.length
structure EvF (L:Rows) (i:Nat):Prop where
 two:((evR L i).kind==2)=true→opn L i≤3∧∃ v,EK L i=some v∧(v=1∨v=2)
 twelve:((evR L i).kind==12)=true→opn L i=2
 play:((evR L i).kind==1)=false→((evR L i).kind==2)=false→((evR L i).kind==12)=false→((evR L i).kind==16)=false→1≤opn L i
theorem xC (s:Int) (T:TS):(X5 s T).xs.length=T.xs.length∧(X5 s T).first=T.first∧(X5 s T).follow=T.follow:=by
 unfold X5;cases CD (fun k=>(sco T.xs k).side) s T.xs.length with
 | none=>exact ⟨rfl,rfl,rfl⟩
 | some k=>exact ⟨List.length_set,rfl,rfl⟩
theorem tQ (r:Rul) (e:Ev) (T:TS):(Uq r e T).xs.length=T.xs.length+cond (e.kind==2) 1 0∧(Uq r e T).first=cond (e.kind==1) (S7 e) T.first∧(Uq r e T).follow=cond (e.kind==12) e.yes T.follow:=by
 unfold Uq;cases k1:e.kind==1 with
 | true =>
  rw [beq_iff_eq.1 k1];exact ⟨rfl,rfl,rfl⟩
 | false =>
  cases k2:e.kind==2 with
  | true =>
   rw [beq_iff_eq.1 k2];refine ⟨?_,rfl,rfl⟩;show (T.xs++[_]).length=_;rw [List.length_append];rfl
  | false =>
   cases k12:e.kind==12 with
   | true=>exact ⟨rfl,rfl,rfl⟩
   | false =>
    cases k16:e.kind==16 with
    | true=>exact ⟨rfl,rfl,rfl⟩
    | false =>
     cases k13:e.kind==13 with
     | true=>exact xC e.side T
     | false=>exact ⟨List.length_set,rfl,rfl⟩
theorem xe {L:Rows} {i:Nat} {m:Mat} (h:LogI L i m) (ha:((Bu m (evR L i)).2==0)=true):LogI L (i+1) (Bu m (evR L i)).1∧EvF L i:=by
 obtain ⟨ab,sg⟩:=nr ha;obtain ⟨hv,he,h5,hp,hs⟩:=M9 ha;have vp:=gJ hv;obtain ⟨t1,t2,t3⟩:=tQ m.rules (evR L i) (EA m);rw [← ab] at t1 t2 t3;have x1:∀ z:Mat,(EA z).xs.length=z.inns.length:=fun z=>List.length_map _
 rw [x1,x1] at t1;change (Bu m (evR L i)).1.first=cond ((evR L i).kind==1) (S7 (evR L i)) m.first at t2;change (Bu m (evR L i)).1.follow=cond ((evR L i).kind==12) (evR L i).yes m.follow at t3;have no12:((evR L i).kind==12)=true→had L i=false:=fun k=>by
  obtain ⟨s1,s2,s3⟩:=sg.k12 k;cases hh:had L i with
  | false=>rfl
  | true=>rcases h.k12 hh with ⟨_,q | q⟩ | q<;>omega
 have no5:¬ m.stage=5:=beq_eq_false_iff_ne.1 h5;refine ⟨⟨?_,?_,?_,?_,?_⟩,⟨?_,?_,?_⟩⟩
 ·rw [t1,h.len];rfl
 ·intro v hv2;refine ⟨?_,sg.not1⟩;rw [t2];unfold EK at hv2;cases hf:EK L i with
  | some w =>
   rw [hf] at hv2;cases hv2;obtain ⟨f1,f2⟩:=h.fs _ hf;cases k1:(evR L i).kind==1 with
   | true=>exact absurd (sg.k1 k1).1 f2
   | false=>exact f1
  | none =>
   rw [hf] at hv2;cases k1:(evR L i).kind==1 with
   | true =>
    simp only [k1,cond_true] at hv2;cases hv2;rfl
   | false =>
    simp only [k1,cond_false] at hv2;cases hv2
 ·intro hn;rw [t2];unfold EK at hn;cases hf:EK L i with
  | some w=>rw [hf] at hn;cases hn
  | none =>
   rw [hf] at hn;cases k1:(evR L i).kind==1 with
   | true =>
    simp only [k1,cond_true] at hn;cases hn
   | false=>exact h.fn hf
 ·rw [t3];unfold ES;cases k12:(evR L i).kind==12 with
  | true=>rw [rZ i (no12 k12)];rfl
  | false=>rw [h.fol,Bool.false_and,Bool.or_false];rfl
 ·intro hh;rw [t1];unfold had at hh;cases k12:(evR L i).kind==12 with
  | true =>
   obtain ⟨s1,s2,s3⟩:=sg.k12 k12;rw [beq_iff_eq.1 k12];exact Or.inl ⟨s2,Or.inl s3⟩
  | false =>
   rw [k12,Bool.or_false] at hh
   rcases h.k12 hh with ⟨q1,q2⟩ | q
   ·cases k2:(evR L i).kind==2 with
    | true=>exact Or.inr (by simp only [cond_true];omega)
    | false =>
     refine Or.inl ⟨q1,?_⟩;cases k16:(evR L i).kind==16 with
     | true=>exact Or.inr (sg.k16 k16)
     | false =>
      cases k1:(evR L i).kind==1 with
      | true=>have:=(sg.k1 k1).1;omega
      | false=>have:=(sg.play k1 k2 k12 k16).1;omega
   ·exact Or.inr (Nat.le_trans q (Nat.le_add_right _ _))
 ·intro k2;obtain ⟨s1,s2⟩:=sg.k2 k2;refine ⟨by rw [← h.len];exact s2,?_⟩;have tk:=(W4 hv).toss (by rw [s1];rfl);cases hf:EK L i with
  | none=>have:=h.fn hf;omega
  | some w=>exact ⟨w,rfl,by rw [← (h.fs w hf).1];exact tk⟩
 ·intro k;rw [← h.len];exact (sg.k12 k).2.1
 ·intro a b c d;rw [← h.len];exact (sg.play a b c d).2
theorem ij {r:Rul} (h:((AK r).2==0)=true):(AK r).1=⟨r,1,0,false,[],0,0,0,0,0⟩∧BJ r=0:=by
 unfold AK at h ⊢;cases hc:BJ r==0 with
 | false=>rw [hc] at h;exact absurd (show (BJ r==0)=true from h) (by rw [hc];decide)
 | true=>exact ⟨rfl,beq_iff_eq.1 hc⟩
theorem Er {r:Rul} {L:Rows} {n:Nat} (hc:((AK r).2==0)=true) (ha:acc L n 0 (AK r).1):∀ i,i≤n→LogI L i (stM L i 0 (AK r).1)∧StepOk r (stM L i 0 (AK r).1)∧∀ j,j<i→EA (stM L (j+1) 0 (AK r).1)=Uq r (evR L j) (EA (stM L j 0 (AK r).1))∧EvF L j
 | 0,_=>by
  refine ⟨?_,jc r hc,fun j hj=>absurd hj (Nat.not_lt_zero j)⟩;show LogI L 0 (AK r).1;rw [(ij hc).1];exact ⟨rfl,fun v h=>(by cases h),fun _=>rfl,rfl,fun h=>(by cases h)⟩
 | i+1,hi=>by
  obtain ⟨h1,h2,h3⟩:=Er hc ha i (by omega);have a0:=MV n 0 _ ha i (by omega);have s0:=UQ (L:=L) i 0 (AK r).1;rw [Nat.zero_add] at a0 s0;have q:=(Tu a0).1;rw [q] at s0 a0;obtain ⟨l1,l2⟩:=xe h1 a0;rw [s0];refine ⟨l1,by rw [← q];exact eU h2 _ _,fun j hj=>?_⟩
  by_cases e:j=i
  ·subst e;rw [s0];refine ⟨?_,l2⟩;rw [(nr a0).1,h2.rules]
  ·exact h3 j (by omega)
def sdF (L:Rows) (n:Nat) (j:Nat):Int:=LO ((EK L n).getD 1) (ES L n) (j:Int)
theorem pg {L:Rows} {i:Nat}:∀ n,i≤n→(∀ j,i≤j→j<n→((evR L j).kind==12)=false)→ES L n=ES L i
 | 0,h,_=>by rw [Nat.le_zero.1 h]
 | n+1,h,hk=>by
  by_cases e:i=n+1
  ·rw [e]
  ·have:ES L (n+1)=ES L n:=by
    show (ES L n||((evR L n).kind==12&&_))=_;rw [hk n (by omega) (Nat.lt_succ_self n),Bool.false_and,Bool.or_false]
   rw [this];exact pg n (by omega) (fun j h1 h2=>hk j h1 (by omega))
theorem xn (f:Int) (a b:Bool) {j:Nat} (h:j<2):LO f a (j:Int)=LO f b (j:Int):=by
 have:iLe 2 (j:Int)=false:=by simp only [iLe,decide_eq_false_iff_not];omega
 unfold LO;rw [this,Bool.and_false,Bool.and_false]
theorem yu {r : Rul} {L : Rows} {n i : Nat} (hc : ((AK r).2 == 0) = true) (ha : acc L n 0 (AK r).1) (hi : i < n) (hk : ((evR L i).kind == 2) = true) :
    LO (stM L i 0 (AK r).1).first (stM L i 0 (AK r).1).follow (opn L i:Int)=sdF L n (opn L i)∧(sdF L n (opn L i)=1∨sdF L n (opn L i)=2):=by
  obtain ⟨h1,_,_⟩:=Er hc ha i (by omega);obtain ⟨_,_,h3⟩:=Er hc ha n (Nat.le_refl n);obtain ⟨e1,v,e2,e3⟩:=(h3 i hi).2.two hk;have f1:=(h1.fs v e2).1;have f2:=WE e2 (show i≤n by omega);have main:LO (stM L i 0 (AK r).1).first (stM L i 0 (AK r).1).follow (opn L i:Int)=sdF L n (opn L i):=by
    unfold sdF;rw [f1,f2,h1.fol];show LO v _ _=LO v _ _
    by_cases h2:opn L i<2
    · exact xn _ _ _ h2
    · rw [pg (i:=i) n (by omega)];intro j j1 j2;cases k12:(evR L j).kind==12 with
      | false=>rfl
      | true =>
        have o2:=(h3 j j2).2.twelve k12
        by_cases e:j=i
        · subst e;rw [beq_iff_eq.1 hk] at k12;cases k12
        · have:=E6 L (show i+1≤j by omega);have o3:opn L (i+1)=opn L i+1:=by show opn L i+cond ((evR L i).kind==2) 1 0=_;rw [hk];rfl
          omega
  refine ⟨main,?_⟩;rw [← main,f1];unfold LO;cases cond ((stM L i 0 (AK r).1).follow&&iLe 2 (opn L i:Int)) ((opn L i:Int)==2) ((opn L i:Int).tmod 2==1) with
  | false=>exact e3
  | true=>rcases e3 with h | h<;>rw [h]<;>decide
def smi (L:Rows) (f:Ev→Int) (j:Nat):Nat→Int
 | 0=>0
 | n+1=>smi L f j n+cond (Nat.beq (opn L (n+1)) (j+1)) (f (evR L n)) 0
theorem CP (L:Rows) (f:Ev→Int) (j n:Nat):smi L f j (n+1)=smi L f j n+cond (Nat.beq (opn L (n+1)) (j+1)) (f (evR L n)) 0:=rfl
theorem II {a b:Nat} (h:¬ a=b):Nat.beq a b=false:=by
 cases hq:Nat.beq a b with
 | false=>rfl
 | true=>exact absurd (Nat.eq_of_beq_eq_true hq) h
theorem Lc (a:Nat):Nat.beq a a=true:=Nat.beq_refl a
theorem XX {L:Rows} {f:Ev→Int} {j:Nat}:∀ n,opn L n≤j→smi L f j n=0
 | 0,_=>rfl
 | n+1,h=>by
  have:=Kv L n;unfold smi;rw [XX n (by omega),II (by omega)];rfl
def QF (sd:Nat→Int) (s:Int):Nat→Nat→Option Nat
 | 0,_=>none
 | c+1,i=>cond (sd i==s) (some i) (QF sd s c (i+1))
theorem UH {sd:Nat→Int} {s:Int} {j:Nat}:∀ c i,QF sd s c i=some j→i≤j∧j<i+c∧sd j=s∧∀ k,i≤k→k<j→¬ sd k=s
 | 0,_,h=>by cases h
 | c+1,i,h=>by
  unfold QF at h;cases hq:sd i==s with
  | true =>
   rw [hq] at h;cases h;exact ⟨Nat.le_refl _,by omega,beq_iff_eq.1 hq,fun k h1 h2=>by omega⟩
  | false =>
   rw [hq] at h;obtain ⟨h1,h2,h3,h4⟩:=UH c (i+1) h;refine ⟨by omega,by omega,h3,fun k k1 k2=>?_⟩
   by_cases e:k=i
   ·subst e;exact beq_eq_false_iff_ne.1 hq
   ·exact h4 k (by omega) k2
theorem uZ {sd:Nat→Int} {s:Int} {k:Nat} (hs:sd k=s):∀ c i,i≤k→k<i+c→∃ j,QF sd s c i=some j∧j≤k
 | 0,_,h1,h2=>absurd h2 (by omega)
 | c+1,i,h1,h2=>by
  unfold QF;cases hq:sd i==s with
  | true=>exact ⟨i,rfl,h1⟩
  | false =>
   have:¬ i=k:=fun e=>by subst e;exact beq_eq_false_iff_ne.1 hq hs
   exact uZ hs c (i+1) (by omega) (by omega)
def Dh (sd:Nat→Int) (n k:Nat) (s:Int):Option Nat:=match CD sd s (k+1) with
 | some j=>some j
 | none=>QF sd s (n - (k+1)) (k+1)
theorem pR {sd:Nat→Int} {n k j:Nat} {s:Int} (h:Dh sd n k s=some j):sd j=s∧(j≤k∨(k<j∧j<n∧CD sd s (k+1)=none)):=by
 unfold Dh at h;cases hb:CD sd s (k+1) with
 | some w =>
  rw [hb] at h;cases h;have:=K1 _ hb;exact ⟨this.2,Or.inl (by omega)⟩
 | none =>
  rw [hb] at h;obtain ⟨h1,h2,h3,h4⟩:=UH _ _ h;exact ⟨h3,Or.inr ⟨by omega,by omega,rfl⟩⟩
def isS (o:Option Nat) (j:Nat):Bool:=match o with
 | some k=>Nat.beq k j
 | none=>false
theorem bJ {o:Option Nat} {j:Nat}:isS o j=true↔o=some j:=by
 cases o with
 | none=>exact ⟨fun h=>(by cases h),fun h=>(by cases h)⟩
 | some k=>exact ⟨fun h=>(by rw [Nat.eq_of_beq_eq_true h]),fun h=>(by cases h;exact Lc j)⟩
def pnS (L:Rows) (sd:Nat→Int) (n j:Nat):Nat→Int
 | 0=>0
 | i+1=>pnS L sd n j i+cond ((evR L i).kind==13&&isS (Dh sd n (opn L (i+1) - 1) (evR L i).side) j) 5 0
theorem XH (L:Rows) (sd:Nat→Int) (n j i:Nat):pnS L sd n j (i+1)=pnS L sd n j i+cond ((evR L i).kind==13&&isS (Dh sd n (opn L (i+1) - 1) (evR L i).side) j) 5 0:=rfl
def pcS (L:Rows) (s:Int):Nat→Int
 | 0=>0
 | i+1=>pcS L s i+cond ((evR L i).kind==13&&(evR L i).side==s) 5 0
def FU (L:Rows) (sd:Nat→Int) (s:Int) (k i:Nat):Int:=match CD sd s k with
 | some _=>0
 | none=>pcS L s i
theorem rP {L:Rows} {sd:Nat→Int} {n k:Nat} (hn:k<n):∀ i,(∀ j,j<i→((evR L j).kind==13)=true→1≤opn L (j+1))→opn L i≤k→pnS L sd n k i=FU L sd (sd k) k i
 | 0,_,_=>by unfold FU;cases CD sd (sd k) k<;>rfl
 | i+1,h,hk=>by
  have ih:=rP (sd:=sd) hn i (fun j hj=>h j (by omega)) (Nat.le_trans (Kv L i) hk);unfold pnS;rw [ih];unfold FU;cases k13:(evR L i).kind==13 with
  | false =>
   rw [Bool.false_and,cond_false,Int.add_zero];cases CD sd (sd k) k with
   | some _=>rfl
   | none =>
    show pcS L (sd k) i=pcS L (sd k) i+cond ((evR L i).kind==13&&_) 5 0;rw [k13,Bool.false_and,cond_false,Int.add_zero]
  | true =>
   have o1:=h i (Nat.lt_succ_self i) k13;rw [Bool.true_and]
   by_cases es:(evR L i).side=sd k
   ·cases hb:CD sd (sd k) k with
    | some w =>
     have bw:=K1 _ hb;have:isS (Dh sd n (opn L (i+1) - 1) (evR L i).side) k=false:=by
      cases hq:isS (Dh sd n (opn L (i+1) - 1) (evR L i).side) k with
      | false=>rfl
      | true =>
       exfalso
       have hd:=bJ.1 hq;rw [es] at hd;unfold Dh at hd;rw [show opn L (i+1) - 1+1=opn L (i+1) by omega] at hd;cases hb2:CD sd (sd k) (opn L (i+1)) with
       | some z =>
        rw [hb2] at hd;cases hd;have:=(K1 _ hb2).1;omega
       | none =>
        rw [hb2] at hd;have nb:=Zd _ hb2;have f4:=(UH _ _ hd).2.2.2 w
        by_cases hw:w<opn L (i+1)
        ·exact nb w hw bw.2
        ·exact f4 (by omega) bw.1 bw.2
     rw [this];rfl
    | none =>
     have nb:=Zd _ hb;have:isS (Dh sd n (opn L (i+1) - 1) (evR L i).side) k=true:=by
      rw [bJ,es];unfold Dh;rw [show opn L (i+1) - 1+1=opn L (i+1) by omega];cases hb2:CD sd (sd k) (opn L (i+1)) with
      | some z =>
       have:=K1 _ hb2;exact absurd this.2 (nb z (by omega))
      | none =>
       obtain ⟨j,j1,j2⟩:=uZ (sd:=sd) (s:=sd k) (k:=k) rfl (n - opn L (i+1)) (opn L (i+1)) hk (by omega);have:=UH _ _ j1
       by_cases e:j=k
       ·subst e;exact j1
       ·exact absurd this.2.2.1 (nb j (by omega))
     rw [this];show pcS L (sd k) i+_=pcS L (sd k) i+cond ((evR L i).kind==13&&(evR L i).side==sd k) 5 0;rw [k13,es,beq_self_eq_true];rfl
   ·have:isS (Dh sd n (opn L (i+1) - 1) (evR L i).side) k=false:=by
     cases hq:isS (Dh sd n (opn L (i+1) - 1) (evR L i).side) k with
     | false=>rfl
     | true=>exact absurd (pR (bJ.1 hq)).1.symm es
    rw [this,cond_false,Int.add_zero];cases CD sd (sd k) k with
    | some _=>rfl
    | none =>
     show pcS L (sd k) i=pcS L (sd k) i+cond ((evR L i).kind==13&&(evR L i).side==sd k) 5 0;rw [beq_false_of_ne es,Bool.and_false,cond_false,Int.add_zero]
def Rj (r:Rul) (e:Ev):Int:=CT (A1 r e)
def O6 (r:Rul) (e:Ev):Int:=cond (A1 r e).counts 1 0
def BI (r:Rul) (L:Rows) (sd:Nat→Int) (n j i:Nat):Sco:=⟨sd j,smi L (Rj r) j i+pnS L sd n j i,smi L Bp j i,smi L (O6 r) j i,smi L (fun e=>(A1 r e).wides) j i,smi L (fun e=>(A1 r e).noballs) j i,smi L (fun e=>(A1 r e).byes) j i,smi L (fun e=>(A1 r e).legbyes) j i,pnS L sd n j i,0⟩
theorem Xz (r:Rul) (L:Rows) (sd:Nat→Int) (n j i:Nat):BI r L sd n j (i+1)=K6 (cond ((evR L i).kind==13&&isS (Dh sd n (opn L (i+1) - 1) (evR L i).side) j) 5 0) (cond (Nat.beq (opn L (i+1)) (j+1)) (Pb r (evR L i) (BI r L sd n j i)) (BI r L sd n j i)):=by
 unfold BI;simp only [CP,XH];generalize (cond ((evR L i).kind==13&&isS (Dh sd n (opn L (i+1) - 1) (evR L i).side) j) 5 0:Int)=p;cases Nat.beq (opn L (i+1)) (j+1) with
 | false =>
  unfold K6;simp only [cond_false,Int.add_zero,Int.add_assoc]
 | true =>
  unfold K6 Pb;simp only [cond_true];rw [Sco.mk.injEq];refine ⟨rfl,?_,rfl,rfl,rfl,rfl,rfl,rfl,rfl,rfl⟩;unfold Rj;omega
theorem kU {r:Rul} {L:Rows} {sd:Nat→Int} {n j i:Nat} (h4:((evR L i).kind==4)=false) (h13:((evR L i).kind==13)=false) (ho:Bj (evR L i)=0):BI r L sd n j (i+1)=BI r L sd n j i:=by
 rw [Xz,h13,Bool.false_and,cond_false,Cq,NS _ h4 ho];cases Nat.beq (opn L (i+1)) (j+1)<;>rfl
structure Clo (r:Rul) (L:Rows) (sd:Nat→Int) (n i:Nat) (T:TS):Prop where
 len:T.xs.length=opn L i
 at':∀ j,j<opn L i→sco T.xs j=BI r L sd n j i
 p1:T.p1=FU L sd 1 (opn L i) i
 p2:T.p2=FU L sd 2 (opn L i) i
theorem HB {L:Rows} {sd:Nat→Int} {s:Int} {k i:Nat} (h:((evR L i).kind==13&&(evR L i).side==s)=false):FU L sd s k (i+1)=FU L sd s k i:=by
 unfold FU;cases CD sd s k with
 | some _=>rfl
 | none =>
  show pcS L s i+cond ((evR L i).kind==13&&(evR L i).side==s) 5 0=_;rw [h,cond_false,Int.add_zero]
theorem hC {r:Rul} {L:Rows} {n:Nat} (hc:((AK r).2==0)=true) (ha:acc L n 0 (AK r).1):∀ i,i≤n→Clo r L (sdF L n) (opn L n) i (EA (stM L i 0 (AK r).1))
 | 0,_=>by
  show Clo r L _ _ 0 (EA (AK r).1);rw [(ij hc).1];exact ⟨rfl,fun j hj=>absurd hj (Nat.not_lt_zero j),rfl,rfl⟩
 | i+1,hi=>by
  have ih:=hC hc ha i (by omega);obtain ⟨_,_,h3⟩:=Er hc ha n (Nat.le_refl n);obtain ⟨hst,hev⟩:=h3 i (by omega);have sat:=yu hc ha (show i<n by omega);have o13:∀ j,j<i→((evR L j).kind==13)=true→1≤opn L (j+1):=fun j hj k13=>by
   have e:=beq_iff_eq.1 k13;have:=(h3 j (by omega)).2.play (by rw [e];rfl) (by rw [e];rfl) (by rw [e];rfl) (by rw [e];rfl);exact Nat.le_trans this (Kv L j)
  rw [hst];change ((evR L i).kind==2)=true→LO (EA (stM L i 0 (AK r).1)).first (EA (stM L i 0 (AK r).1)).follow (opn L i:Int)=_∧_ at sat;generalize EA (stM L i 0 (AK r).1)=T at ih sat;have onx:opn L (i+1)=opn L i+cond ((evR L i).kind==2) 1 0:=rfl;have quiet:((evR L i).kind==2)=false→((evR L i).kind==4)=false→((evR L i).kind==13)=false→Bj (evR L i)=0→∀ T':TS,T'.xs=T.xs→T'.p1=T.p1→T'.p2=T.p2→Clo r L (sdF L n) (opn L n) (i+1) T':=by
   intro a b c d T' t1 t2 t3;rw [a] at onx;change opn L (i+1)=opn L i at onx;have z:∀ s:Int,((evR L i).kind==13&&(evR L i).side==s)=false:=fun s=>by rw [c];rfl
   refine ⟨by rw [onx,t1];exact ih.len,fun j hj=>?_,?_,?_⟩
   ·rw [t1,kU b c d];exact ih.at' j (by omega)
   ·rw [onx,t2,HB (z 1)];exact ih.p1
   ·rw [onx,t3,HB (z 2)];exact ih.p2
  unfold Uq;cases k1:(evR L i).kind==1 with
  | true =>
   have e:=beq_iff_eq.1 k1;exact quiet (by rw [e];rfl) (by rw [e];rfl) (by rw [e];rfl) (by unfold Bj;rw [e];rfl) _ rfl rfl rfl
  | false =>
   cases k2:(evR L i).kind==2 with
   | true =>
    have e:=beq_iff_eq.1 k2;have h4:((evR L i).kind==4)=false:=by rw [e];rfl
    have h13:((evR L i).kind==13)=false:=by rw [e];rfl
    have ho:Bj (evR L i)=0:=by unfold Bj;rw [e];rfl
    have z:∀ s:Int,((evR L i).kind==13&&(evR L i).side==s)=false:=fun s=>by rw [h13];rfl
    rw [k2] at onx;change opn L (i+1)=opn L i+1 at onx;obtain ⟨sa,sb⟩:=sat k2;have kn:opn L i<opn L n:=by have:=E6 L (show i+1≤n by omega);omega
    have pp:=rP (L:=L) (sd:=sdF L n) kn i o13 (Nat.le_refl _);show Clo r L (sdF L n) (opn L n) (i+1) (mJ T);unfold mJ;simp only [ih.len,sa];refine ⟨by rw [List.length_append,ih.len,onx];rfl,fun j hj=>?_,?_,?_⟩
    ·rw [AAC _ _ _ (by rw [ih.len];omega),ih.len,kU h4 h13 ho]
     by_cases hjk:j<opn L i
     ·rw [if_pos hjk];exact ih.at' j hjk
     ·have:j=opn L i:=by omega
      subst this;rw [if_neg hjk];unfold BI me;simp only [XX i (Nat.le_refl _),Int.zero_add,pp]
      rcases sb with sb | sb<;>rw [sb]
      ·rw [← ih.p1];rfl
      ·rw [← ih.p2];rfl
    ·rw [onx];show cond (sdF L n (opn L i)==1) 0 T.p1=FU L (sdF L n) 1 (opn L i+1) (i+1);rw [HB (z 1)];unfold FU CD;cases sdF L n (opn L i)==1 with
     | true=>rfl
     | false=>exact ih.p1
    ·rw [onx];show cond (sdF L n (opn L i)==2) 0 T.p2=FU L (sdF L n) 2 (opn L i+1) (i+1);rw [HB (z 2)];unfold FU CD;cases sdF L n (opn L i)==2 with
     | true=>rfl
     | false=>exact ih.p2
   | false =>
    cases k12:(evR L i).kind==12 with
    | true =>
     have e:=beq_iff_eq.1 k12;exact quiet (by rw [e];rfl) (by rw [e];rfl) (by rw [e];rfl) (by unfold Bj;rw [e];rfl) _ rfl rfl rfl
    | false =>
     cases k16:(evR L i).kind==16 with
     | true =>
      have e:=beq_iff_eq.1 k16;exact quiet (by rw [e];rfl) (by rw [e];rfl) (by rw [e];rfl) (by unfold Bj;rw [e];rfl) _ rfl rfl rfl
     | false =>
      have pl:=hev.play k1 k2 k12 k16;rw [k2] at onx;change opn L (i+1)=opn L i at onx;simp only [cond_false];cases k13:(evR L i).kind==13 with
      | true =>
       have e:=beq_iff_eq.1 k13;have h4:((evR L i).kind==4)=false:=by rw [e];rfl
       have ho:Bj (evR L i)=0:=by unfold Bj;rw [e];rfl
       have bk:CD (fun k=>(sco T.xs k).side) (evR L i).side T.xs.length=CD (sdF L n) (evR L i).side (opn L i):=by
        rw [ih.len];exact SU _ (fun k hk=>by rw [ih.at' k hk];rfl)
       have du:Dh (sdF L n) (opn L n) (opn L (i+1) - 1) (evR L i).side=match CD (sdF L n) (evR L i).side (opn L i) with
        | some j=>some j
        | none=>QF (sdF L n) (evR L i).side (opn L n - opn L i) (opn L i):=by
        unfold Dh;rw [onx,show opn L i - 1+1=opn L i by omega]
       have cs:∀ j,BI r L (sdF L n) (opn L n) j (i+1)=K6 (cond (isS (Dh (sdF L n) (opn L n) (opn L (i+1) - 1) (evR L i).side) j) 5 0) (BI r L (sdF L n) (opn L n) j i):=fun j=>by
        rw [Xz,k13,Bool.true_and,NS _ h4 ho];cases Nat.beq (opn L (i+1)) (j+1)<;>rfl
       have pq:∀ s:Int,CD (sdF L n) (evR L i).side (opn L i)≠none→FU L (sdF L n) s (opn L i) (i+1)=FU L (sdF L n) s (opn L i) i:=fun s hs=>by
        by_cases es:(evR L i).side=s
        ·rw [es] at hs;unfold FU;cases hb:CD (sdF L n) s (opn L i) with
         | none=>exact absurd hb hs
         | some w=>rfl
        ·exact HB (by rw [beq_false_of_ne es,Bool.and_false])
       show Clo r L (sdF L n) (opn L n) (i+1) (X5 (evR L i).side T);unfold X5;rw [bk];cases hb:CD (sdF L n) (evR L i).side (opn L i) with
       | some w =>
        have wl:=(K1 _ hb).1;rw [hb] at du pq;simp only at du;refine ⟨by rw [onx];exact List.length_set.trans ih.len,fun j hj=>?_,?_,?_⟩
        ·rw [cs,du];show sco (T.xs.set w (K6 5 (sco T.xs w))) j=_;rw [Wc _ _ _ _ (by rw [ih.len];omega)]
         by_cases ew:w=j
         ·subst ew;rw [if_pos rfl,ih.at' w wl,show isS (some w) w=true from Lc w];rfl
         ·rw [if_neg ew,show isS (some w) j=false from II ew,ih.at' j (by omega),cond_false,Cq]
        ·rw [onx,pq 1 (by simp)];exact ih.p1
        ·rw [onx,pq 2 (by simp)];exact ih.p2
       | none =>
        rw [hb] at du;simp only at du;have pc:∀ s:Int,FU L (sdF L n) s (opn L i) (i+1)=cond ((evR L i).side==s) (FU L (sdF L n) s (opn L i) i+5) (FU L (sdF L n) s (opn L i) i):=fun s=>by
         cases es:(evR L i).side==s with
         | false=>rw [HB (by rw [es,Bool.and_false])];rfl
         | true =>
          have e2:=beq_iff_eq.1 es;rw [e2] at hb;unfold FU;rw [hb];show pcS L s i+cond ((evR L i).kind==13&&(evR L i).side==s) 5 0=_;rw [k13,es];rfl
        refine ⟨by rw [onx];exact ih.len,fun j hj=>?_,?_,?_⟩
        ·have nj:isS (Dh (sdF L n) (opn L n) (opn L (i+1) - 1) (evR L i).side) j=false:=by
          cases hq:isS (Dh (sdF L n) (opn L n) (opn L (i+1) - 1) (evR L i).side) j with
          | false=>rfl
          | true =>
           have:=bJ.1 hq;rw [du] at this;have:=(UH _ _ this).1;omega
         rw [cs,nj,cond_false,Cq];exact ih.at' j (by omega)
        ·rw [onx,pc 1,← ih.p1]
        ·rw [onx,pc 2,← ih.p2]
      | false =>
       have z:∀ s:Int,((evR L i).kind==13&&(evR L i).side==s)=false:=fun s=>by rw [k13];rfl
       show Clo r L (sdF L n) (opn L n) (i+1) (mI r (evR L i) T);unfold mI;refine ⟨by rw [onx];exact List.length_set.trans ih.len,fun j hj=>?_,?_,?_⟩
       ·show sco (T.xs.set _ _) j=_;rw [Wc _ _ _ _ (by rw [ih.len];omega),Xz,k13,Bool.false_and,cond_false,Cq,onx,ih.len]
        by_cases ew:opn L i - 1=j
        ·rw [if_pos ew,show opn L i=j+1 by omega,Lc,show j+1 - 1=j by omega,ih.at' j (by omega)];rfl
        ·rw [if_neg ew,II (by omega)];exact ih.at' j (by omega)
       ·rw [onx,HB (z 1)];exact ih.p1
       ·rw [onx,HB (z 2)];exact ih.p2
def Sco.ls (s:Sco):List PV:=[.int s.side,.int s.runs,.int s.wickets,.int s.balls,.int s.wides,.int s.noballs,.int s.byes,.int s.legbyes,.int s.pens,.int s.ending]
def A5 (xs:List Sco):Rows:=xs.map Sco.ls
def dS:Sco:=⟨0,0,0,0,0,0,0,0,0,0⟩
theorem rV (xs:List Sco) (i:Nat):AB (A5 xs) i=(match xs[i]? with | some s=>s.ls | none=>[]):=by
 unfold AB A5;rw [zzk,List.getElem?_map];cases xs[i]?<;>rfl
theorem nc (xs:List Sco):(A5 xs).length=xs.length:=List.length_map _
theorem PXs : (∀ xs : List Sco, (A5 xs).length = xs.length) ∧ (∀ (xs : List Sco) (i : Nat), pvI (AF (A5 xs) i 0) = (sco xs i).side) ∧ (∀ (xs : List Sco) (i : Nat), pvI (AF (A5 xs) i 1) = (sco xs i).runs) ∧ (∀ (xs : List Sco) (i : Nat), pvI (AF (A5 xs) i 2) = (sco xs i).wickets) ∧ (∀ (xs : List Sco) (i : Nat), pvI (AF (A5 xs) i 3) = (sco xs i).balls) ∧
    (∀ (xs:List Sco) (i:Nat),pvI (AF (A5 xs) i 4)=(sco xs i).wides)∧(∀ (xs:List Sco) (i:Nat),pvI (AF (A5 xs) i 5)=(sco xs i).noballs)∧(∀ (xs:List Sco) (i:Nat),pvI (AF (A5 xs) i 6)=(sco xs i).byes)∧(∀ (xs:List Sco) (i:Nat),pvI (AF (A5 xs) i 7)=(sco xs i).legbyes)∧(∀ (xs:List Sco) (i:Nat),pvI (AF (A5 xs) i 8)=(sco xs i).pens)∧(∀ (xs:List Sco) (i:Nat),pvI (AF (A5 xs) i 9)=(sco xs i).ending):=by
  refine ⟨nc,?_,?_,?_,?_,?_,?_,?_,?_,?_,?_⟩
  all_goals (intro xs i;rw [FG];unfold AF;rw [rV];cases xs[i]?<;>rfl)
theorem Dr {xs:List Sco} {i j:Nat} {v:Int} (f:Sco→Sco) (h:∀ s:Sco,Ac s.ls j [.int v]=(f s).ls):(A5 xs).set i (Ac (AB (A5 xs) i) j [.int v])=A5 (xs.set i (f (sco xs i))):=by
 by_cases hi:i<xs.length
 ·have e:AB (A5 xs) i=(sco xs i).ls:=by rw [rV,FG,zzn hi]
  rw [e,h];exact List.map_set.symm
 ·rw [List.set_eq_of_length_le (by rw [nc];omega),List.set_eq_of_length_le (by omega)]
theorem PXt : (∀ (xs : List Sco) (i : Nat) (v : Int), (A5 xs).set i (Ac (AB (A5 xs) i) 0 [.int v]) = A5 (xs.set i { sco xs i with side := v })) ∧ (∀ (xs : List Sco) (i : Nat) (v : Int), (A5 xs).set i (Ac (AB (A5 xs) i) 1 [.int v]) = A5 (xs.set i { sco xs i with runs := v })) ∧
    (∀ (xs:List Sco) (i:Nat) (v:Int),(A5 xs).set i (Ac (AB (A5 xs) i) 2 [.int v])=A5 (xs.set i { sco xs i with wickets:=v }))∧(∀ (xs:List Sco) (i:Nat) (v:Int),(A5 xs).set i (Ac (AB (A5 xs) i) 3 [.int v])=A5 (xs.set i { sco xs i with balls:=v })) ∧
    (∀ (xs:List Sco) (i:Nat) (v:Int),(A5 xs).set i (Ac (AB (A5 xs) i) 4 [.int v])=A5 (xs.set i { sco xs i with wides:=v }))∧(∀ (xs:List Sco) (i:Nat) (v:Int),(A5 xs).set i (Ac (AB (A5 xs) i) 5 [.int v])=A5 (xs.set i { sco xs i with noballs:=v })) ∧
    (∀ (xs:List Sco) (i:Nat) (v:Int),(A5 xs).set i (Ac (AB (A5 xs) i) 6 [.int v])=A5 (xs.set i { sco xs i with byes:=v }))∧(∀ (xs:List Sco) (i:Nat) (v:Int),(A5 xs).set i (Ac (AB (A5 xs) i) 7 [.int v])=A5 (xs.set i { sco xs i with legbyes:=v })) ∧
    (∀ (xs:List Sco) (i:Nat) (v:Int),(A5 xs).set i (Ac (AB (A5 xs) i) 8 [.int v])=A5 (xs.set i { sco xs i with pens:=v }))∧(∀ (xs:List Sco) (i:Nat) (v:Int),(A5 xs).set i (Ac (AB (A5 xs) i) 9 [.int v])=A5 (xs.set i { sco xs i with ending:=v })) ∧
    (∀ (xs:List Sco) (a b c d e f g h i j:Int),A5 xs++[([.int a,.int b,.int c,.int d,.int e,.int f,.int g,.int h,.int i,.int j]:List PV)]=A5 (xs++[⟨a,b,c,d,e,f,g,h,i,j⟩])):=by
  exact ⟨fun xs i v=>Dr (j:=0) (v:=v) (fun s=>{ s with side:=v }) (fun s=>rfl),fun xs i v=>Dr (j:=1) (v:=v) (fun s=>{ s with runs:=v }) (fun s=>rfl),fun xs i v=>Dr (j:=2) (v:=v) (fun s=>{ s with wickets:=v }) (fun s=>rfl),fun xs i v=>Dr (j:=3) (v:=v) (fun s=>{ s with balls:=v }) (fun s=>rfl),fun xs i v=>Dr (j:=4) (v:=v) (fun s=>{ s with wides:=v }) (fun s=>rfl),fun xs i v=>Dr (j:=5) (v:=v) (fun s=>{ s with noballs:=v }) (fun s=>rfl),fun xs i v=>Dr (j:=6) (v:=v) (fun s=>{ s with byes:=v }) (fun s=>rfl),fun xs i v=>Dr (j:=7) (v:=v) (fun s=>{ s with legbyes:=v }) (fun s=>rfl),fun xs i v=>Dr (j:=8) (v:=v) (fun s=>{ s with pens:=v }) (fun s=>rfl),fun xs i v=>Dr (j:=9) (v:=v) (fun s=>{ s with ending:=v }) (fun s=>rfl),
    fun xs a b c d e f g h i j=>(List.map_append (f:=Sco.ls) (l₁:=xs) (l₂:=[⟨a,b,c,d,e,f,g,h,i,j⟩])).symm⟩
theorem zE (n:Nat):List.replicate n ([.int 0,.int 0,.int 0,.int 0,.int 0,.int 0,.int 0,.int 0,.int 0,.int 0]:List PV)=A5 (List.replicate n dS):=by
 unfold A5;rw [List.map_replicate];rfl
def GW (xs:List (Int×Int)):Rows:=xs.map fun x=>[.int x.1,.int x.2]
def pr (xs:List (Int×Int)) (i:Nat):Int×Int:=xs.getD i (0,0)
theorem XR (xs:List (Int×Int)) (i:Nat):pr xs i=(match xs[i]? with | some s=>s | none=>(0,0)):=by
 unfold pr;rw [zzk];cases xs[i]?<;>rfl
theorem pP (xs:List (Int×Int)) (i:Nat):AB (GW xs) i=(match xs[i]? with | some s=>[.int s.1,.int s.2] | none=>[]):=by
 unfold AB GW;rw [zzk,List.getElem?_map];cases xs[i]?<;>rfl
theorem ny (xs:List (Int×Int)):(GW xs).length=xs.length:=List.length_map _
theorem PXp : (∀ xs : List (Int × Int), (GW xs).length = xs.length) ∧ (∀ (xs : List (Int × Int)) (i : Nat), pvI (AF (GW xs) i 0) = (pr xs i).1) ∧ (∀ (xs : List (Int × Int)) (i : Nat), pvI (AF (GW xs) i 1) = (pr xs i).2) ∧
    (∀ (xs:List (Int×Int)) (i:Nat) (v:Int),(GW xs).set i (Ac (AB (GW xs) i) 1 [.int v])=GW (xs.set i ((pr xs i).1,v)))∧(∀ (xs:List (Int×Int)) (a b:Int),GW xs++[([.int a,.int b]:List PV)]=GW (xs++[(a,b)])):=by
  refine ⟨ny,?_,?_,?_,?_⟩
  · intro xs i;rw [XR];unfold AF;rw [pP];cases xs[i]?<;>rfl
  · intro xs i;rw [XR];unfold AF;rw [pP];cases xs[i]?<;>rfl
  · intro xs i v
    by_cases hi:i<xs.length
    · have e:AB (GW xs) i=[.int (pr xs i).1,.int (pr xs i).2]:=by rw [pP,XR,zzn hi]
      rw [e];exact (List.map_set (f:=fun x:Int×Int=>[PV.int x.1,PV.int x.2]) (l:=xs) (i:=i) (a:=((pr xs i).1,v))).symm
    · rw [List.set_eq_of_length_le (by rw [ny];omega),List.set_eq_of_length_le (by omega)]
  · intro xs a b;exact (List.map_append (f:=fun x:Int×Int=>[PV.int x.1,PV.int x.2]) (l₁:=xs) (l₂:=[(a,b)])).symm
end Go.Px
end
